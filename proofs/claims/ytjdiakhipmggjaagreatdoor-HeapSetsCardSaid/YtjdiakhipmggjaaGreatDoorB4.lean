/- Parts of a proof about the given program: its functions as texts of their own, what each computes, plain laws of that. The conditions of each stand in its statement. -/
import Derived.Test.YtjdiakhipmggjaaGreatDoorB3
import Derived.Shelf.Strings.Builder1
import Derived.Shelf.Strings.Builder2
import Derived.Shelf.Strings.OnBuilder
import Derived.Shelf.Strings.Trim
import Derived.Shelf.Small.Utf8
import Derived.Shelf.Small.Strs
import Derived.Shelf.Strings.BuilderF
import Derived.Shelf.Strings.BuilderK
import Derived.Shelf.Strings.Builder2Cap
import Derived.Shelf.Strings.Search1
import Derived.Shelf.Strings.Search2
import Derived.Shelf.Strings.Search3
import Derived.Shelf.Strings.Cut
import Derived.Shelf.LaysM
import Derived.Shelf.Strings.Shaped
import Derived.Shelf.Strings.Prefix
import Derived.Shelf.Unicode.Decode
import Derived.Shelf.Strings.Runes
import Derived.Shelf.Strings.AsciiSet
import Derived.Shelf.Unicode.DecodeSlow
import Derived.Shelf.Unicode.DecodeAny
import Derived.Shelf.Unicode.DecodeLast
import Derived.Ground.Names2Prog
import Derived.Shelf.Slices.Clone
import Derived.Shelf.Unicode.ValidAny
import Derived.Test.YtjdiakhipmggjaaGreatDoorProg
import Derived.Test.YtjdiakhipmggjaaGreatDoorRows
import Derived.Lib.LaidU8T
import Derived.OpenShut
import Derived.MakeChecks
import Derived.WideShapes
import Derived.Lib.AsciiSet
import Derived.Lib.Join
import Derived.Maps.RangeRun
set_option linter.unnecessarySimpa false
set_option linter.defProp false
set_option linter.unusedSectionVars false
set_option linter.unusedVariables false
set_option linter.unusedSimpArgs false
namespace Go.Proofs
open Go.Shelf
def Tryz.lays156_ren : Go.Shelf.Ren := ⟨fun | 156 => 143 | 165 => 176 | 166 => 177 | 169 => 178 | 240 => 200 | 241 => 201 | 276 => 213 | 277 => 214 | n => n, fun | 31 => 54 | 9 => 9 | 3 => 3 | 4 => 4 | 0 => 0 | 20 => 20 | 72 => 205 | 76 => 208 | 70 => 202 | 37 => 203 | 75 => 207 | 127 => 220 | 164 => 230 | 5 => 5 | 80 => 210 | n => n, fun | n => n⟩
theorem Tryz.lays156 : Go.Proofs.Lays.n156 Tryz.prog Tryz.lays156_ren := {
  mixed := by kernel_rfl
  f156 := Tryz.func143.trans (congrArg some (by kernel_rfl))
  f165 := Tryz.func176.trans (congrArg some (by kernel_rfl))
  f166 := Tryz.func177.trans (congrArg some (by kernel_rfl))
  f169 := Tryz.func178.trans (congrArg some (by kernel_rfl))
  f240 := Tryz.func200.trans (congrArg some (by kernel_rfl))
  f241 := Tryz.func201.trans (congrArg some (by kernel_rfl))
  f276 := Tryz.func213.trans (congrArg some (by kernel_rfl))
  f277 := Tryz.func214.trans (congrArg some (by kernel_rfl))
  t0 := Tryz.underlying0
  a0 := Tryz.isAgg0
  z0 := Tryz.sizeOf0
  v0 := Tryz.zeroValue0
  t3 := Tryz.underlying3
  a3 := Tryz.isAgg3
  z3 := Tryz.sizeOf3
  v3 := Tryz.zeroValue3
  t4 := Tryz.underlying4
  a4 := Tryz.isAgg4
  z4 := Tryz.sizeOf4
  v4 := Tryz.zeroValue4
  t9 := Tryz.underlying9
  a9 := Tryz.isAgg9
  z9 := Tryz.sizeOf9
  v9 := Tryz.zeroValue9
  t20 := Tryz.underlying20
  a20 := Tryz.isAgg20
  z20 := Tryz.sizeOf20
  v20 := Tryz.zeroValue20
  t31 := Tryz.underlying54
  a31 := Tryz.isAgg54
  z31 := Tryz.sizeOf54
  v31 := Tryz.zeroValue54
  t37 := Tryz.underlying203
  a37 := Tryz.isAgg203
  z37 := Tryz.sizeOf203
  v37 := Tryz.zeroValue203
  t70 := Tryz.underlying202
  a70 := Tryz.isAgg202
  z70 := Tryz.sizeOf202
  v70 := Tryz.zeroValue202
  t72 := Tryz.underlying205
  a72 := Tryz.isAgg205
  z72 := Tryz.sizeOf205
  v72 := Tryz.zeroValue205
  t75 := Tryz.underlying207
  a75 := Tryz.isAgg207
  z75 := Tryz.sizeOf207
  v75 := Tryz.zeroValue207
  t76 := Tryz.underlying208
  a76 := Tryz.isAgg208
  z76 := Tryz.sizeOf208
  v76 := Tryz.zeroValue208
  t127 := Tryz.underlying220
  a127 := Tryz.isAgg220
  z127 := Tryz.sizeOf220
  v127 := Tryz.zeroValue220
  t164 := Tryz.underlying230
  a164 := Tryz.isAgg230
  z164 := Tryz.sizeOf230
  v164 := Tryz.zeroValue230 }
theorem Tryz.Builder_Extra_156 : Builder.Extra Tryz.prog Tryz.lays156_ren := {
  sizeBuilder := by kernel_rfl
  liesBuilder := by kernel_rfl
  t5 := Tryz.underlying5
  a5 := Tryz.isAgg5
  z5 := Tryz.sizeOf5
  v5 := Tryz.zeroValue5
  infoByte := by kernel_rfl
  cellsByte := by kernel_rfl
  sizeByte := by kernel_rfl
  neB5 := by decide }
open Go.RowKit in
theorem Tryz.strings_Join_none (a : Option Addr) (c : Nat) (sep : ByteArray) (w : World) :
    Calls Tryz.prog 143 #[.slice a 0 c, .string sep] w fun e w' => e = .returned (.string ⟨#[]⟩) ∧ w' = w := Any.strings_Join_none Tryz.lays156 Tryz.Builder_Extra_156 a c sep w
open Go.RowKit in
theorem Tryz.strings_Join (bk o c : Nat) (xs : List ByteArray) (sep : ByteArray) (w : World) (hcells : ∀ (j : Nat) x, xs[j]? = some x → w.cell? ⟨bk, o + j, none⟩ = some (.string x)) (hbk : bk < w.heap.size) (hN : xs.length ≤ 140737488355328) (hcap : xs.length ≤ c) (hlen : (Lib.join (xs.map (·.data.toList)) sep.data.toList).length ≤ 140737488355328) :
    Calls Tryz.prog 143 #[.slice (some ⟨bk, o, none⟩) xs.length c, .string sep] w fun e w' => e = .returned (.string ⟨(Lib.join (xs.map (·.data.toList)) sep.data.toList).toArray⟩) ∧ Below w.heap.size w w' := Any.strings_Join Tryz.lays156 Tryz.Builder_Extra_156 bk o c xs sep w hcells hbk hN hcap hlen
open Go.RowKit in
def Tryz.lays144_ren : Go.Shelf.Ren := ⟨fun | 144 => 210 | 143 => 223 | 219 => 228 | 217 => 227 | 225 => 220 | 224 => 219 | 267 => 232 | 266 => 231 | 314 => 234 | n => n, fun | 9 => 9 | 4 => 4 | 3 => 3 | 5 => 5 | 46 => 158 | 146 => 242 | 51 => 241 | n => n, fun | 1 => 4 | n => n⟩
theorem Tryz.lays144 : Go.Proofs.Lays.n144 Tryz.prog Tryz.lays144_ren := {
  mixed := by kernel_rfl
  f143 := Tryz.func223.trans (congrArg some (by kernel_rfl))
  f144 := Tryz.func210.trans (congrArg some (by kernel_rfl))
  f217 := Tryz.func227.trans (congrArg some (by kernel_rfl))
  f219 := Tryz.func228.trans (congrArg some (by kernel_rfl))
  f224 := Tryz.func219.trans (congrArg some (by kernel_rfl))
  f225 := Tryz.func220.trans (congrArg some (by kernel_rfl))
  f266 := Tryz.func231.trans (congrArg some (by kernel_rfl))
  f267 := Tryz.func232.trans (congrArg some (by kernel_rfl))
  f314 := Tryz.func234.trans (congrArg some (by kernel_rfl))
  t3 := Tryz.underlying3
  a3 := Tryz.isAgg3
  z3 := Tryz.sizeOf3
  v3 := Tryz.zeroValue3
  t4 := Tryz.underlying4
  a4 := Tryz.isAgg4
  z4 := Tryz.sizeOf4
  v4 := Tryz.zeroValue4
  t5 := Tryz.underlying5
  a5 := Tryz.isAgg5
  z5 := Tryz.sizeOf5
  v5 := Tryz.zeroValue5
  t9 := Tryz.underlying9
  a9 := Tryz.isAgg9
  z9 := Tryz.sizeOf9
  v9 := Tryz.zeroValue9
  t46 := Tryz.underlying158
  a46 := Tryz.isAgg158
  z46 := Tryz.sizeOf158
  v46 := Tryz.zeroValue158
  t51 := Tryz.underlying241
  a51 := Tryz.isAgg241
  z51 := Tryz.sizeOf241
  v51 := Tryz.zeroValue241
  t146 := Tryz.underlying242
  a146 := Tryz.isAgg242
  z146 := Tryz.sizeOf242
  v146 := Tryz.zeroValue242
  g1 := by kernel_rfl }
open Go.RowKit Go.Lib in
theorem Tryz.strings_Contains_one (s : ByteArray) (c : UInt8) (w : World) :
    Calls Tryz.prog 210 #[.string s, .string ⟨#[c]⟩] w fun e w' => e = .returned (.bool (decide (0 ≤ Lib.indexByte s.data.toList c))) ∧ w' = w := Any.strings_Contains_one Tryz.lays144 s c w
def Tryz.lays227_ren : Go.Shelf.Ren := ⟨fun | 227 => 157 | n => n, fun | 9 => 9 | 116 => 190 | 4 => 4 | 0 => 0 | 3 => 3 | 5 => 5 | n => n, fun | n => n⟩
theorem Tryz.lays227 : Go.Proofs.Lays.n227 Tryz.prog Tryz.lays227_ren := {
  mixed := by kernel_rfl
  f227 := Tryz.func157.trans (congrArg some (by kernel_rfl))
  t0 := Tryz.underlying0
  a0 := Tryz.isAgg0
  z0 := Tryz.sizeOf0
  v0 := Tryz.zeroValue0
  t3 := Tryz.underlying3
  a3 := Tryz.isAgg3
  z3 := Tryz.sizeOf3
  v3 := Tryz.zeroValue3
  t4 := Tryz.underlying4
  a4 := Tryz.isAgg4
  z4 := Tryz.sizeOf4
  v4 := Tryz.zeroValue4
  t5 := Tryz.underlying5
  a5 := Tryz.isAgg5
  z5 := Tryz.sizeOf5
  v5 := Tryz.zeroValue5
  t9 := Tryz.underlying9
  a9 := Tryz.isAgg9
  z9 := Tryz.sizeOf9
  v9 := Tryz.zeroValue9
  t116 := Tryz.underlying190
  a116 := Tryz.isAgg190
  z116 := Tryz.sizeOf190 }
open Go.RowKit Go.Lib in
theorem Tryz.strings_makeASCIISet (hv116 : ∀ w, (zeroValue 190).run Tryz.prog w = .ok (.agg (Array.replicate 256 (.bool false))) w) (chars : ByteArray) (w : World) (hs : chars.size < 4294967281) (hascii : ∀ (j : Nat) b, chars.data.toList[j]? = some b → b.toNat < 128) :
    Calls Tryz.prog 157 #[.string chars] w fun e w' => e = .returned (.tuple #[.agg (Lib.setCells chars.data.toList), .bool true]) ∧ w' = w.alloc (.cells (Lib.setCells chars.data.toList) 190) := Any.strings_makeASCIISet Tryz.lays227 hv116 (by kernel_rfl) chars w hs hascii
open Go.RowKit Go.Lib in
def Tryz.lays196_ren : Go.Shelf.Ren := ⟨fun | 196 => 64 | 259 => 112 | n => n, fun | 9 => 9 | 4 => 4 | 3 => 3 | 5 => 5 | 12 => 12 | 119 => 154 | 0 => 0 | 46 => 158 | 139 => 157 | 138 => 156 | 53 => 184 | n => n, fun | 3 => 1 | 4 => 2 | n => n⟩
theorem Tryz.lays196 : Go.Proofs.Lays.n196 Tryz.prog Tryz.lays196_ren := {
  mixed := by kernel_rfl
  f196 := Tryz.func64.trans (congrArg some (by kernel_rfl))
  f259 := Tryz.func112.trans (congrArg some (by kernel_rfl))
  t0 := Tryz.underlying0
  a0 := Tryz.isAgg0
  z0 := Tryz.sizeOf0
  v0 := Tryz.zeroValue0
  t3 := Tryz.underlying3
  a3 := Tryz.isAgg3
  z3 := Tryz.sizeOf3
  v3 := Tryz.zeroValue3
  t4 := Tryz.underlying4
  a4 := Tryz.isAgg4
  z4 := Tryz.sizeOf4
  v4 := Tryz.zeroValue4
  t5 := Tryz.underlying5
  a5 := Tryz.isAgg5
  z5 := Tryz.sizeOf5
  v5 := Tryz.zeroValue5
  t9 := Tryz.underlying9
  a9 := Tryz.isAgg9
  z9 := Tryz.sizeOf9
  v9 := Tryz.zeroValue9
  t12 := Tryz.underlying12
  a12 := Tryz.isAgg12
  z12 := Tryz.sizeOf12
  v12 := Tryz.zeroValue12
  t46 := Tryz.underlying158
  a46 := Tryz.isAgg158
  z46 := Tryz.sizeOf158
  v46 := Tryz.zeroValue158
  t53 := Tryz.underlying184
  a53 := Tryz.isAgg184
  z53 := Tryz.sizeOf184
  v53 := Tryz.zeroValue184
  t119 := Tryz.underlying154
  a119 := Tryz.isAgg154
  z119 := Tryz.sizeOf154
  t138 := Tryz.underlying156
  a138 := Tryz.isAgg156
  z138 := Tryz.sizeOf156
  v138 := Tryz.zeroValue156
  t139 := Tryz.underlying157
  a139 := Tryz.isAgg157
  z139 := Tryz.sizeOf157
  v139 := Tryz.zeroValue157
  g3 := by kernel_rfl
  g4 := by kernel_rfl }
end Go.Proofs

namespace Go.Proofs.YtjdiakhipmggjaaGreatDoor
open Go.Emb Go.RowKit Go.Kd Go.Hm
variable {w : World} {K : Value → World → Prop} {σ : Q6}
theorem X0u {f:FuncId} {fn:Func} {a:List Value} {V:Value} (c:P.funcs[f]? =some fn) (b:fn.body.isSome=true) (d:(fn.name== "runtime.NumGoroutine")=false)
 (h:Calls P f a.toArray w fun e w'=>e= .returned V∧Below w.heap.size w w') (g: ∀w',Below w.heap.size w w'→K V w'):Q1 P f a w K:=by
 refine Wu c b d (Calls.mono h ?_)
 rintro e w' ⟨rfl,b⟩
 exact g w' b
theorem Ti {a:X0} (b:a.length≤U1) (c:Lib.Utf8Tabs G.e G.d w) (h: ∀w',Below w.heap.size w w'→K (.bool (Lib.validD a)) w'):Q1 P F.b0 [S a] w K:=
 X0u Tryz.func64 (by kernel_rfl) (by kernel_rfl) (by
  have:=Any.utf8_ValidString Tryz.lays196 ⟨a.toArray⟩ w (by rw[I9];simp only[U1] at b;omega) c
  simp only[List.toList_toArray] at this
  exact this) h
theorem Q6x {a:X0} {c:UInt8} (h:K (.bool (decide (0≤Lib.indexByte a c))) w):Q1 P F.cE [S a,S [c]] w K:=by
 refine Wu (fn:=Tryz.f210) Tryz.func210 (by kernel_rfl) (by kernel_rfl) (Calls.mono (Tryz.strings_Contains_one ⟨a.toArray⟩ c w) ?_)
 rintro e w' ⟨rfl,rfl⟩
 exact h
structure Glb (σ : Q6) : Prop where
  ops : Q2v σ
  tabs : ∀ w, X3 w σ → Lib.Utf8Tabs G.e G.d w
  flt : Z4 σ ⟨G.b, 0, none⟩ (U4.map S)
theorem Glb.lift {σ0:Q6} (h:Glb σ0) (k:SLe σ0 σ):Glb σ:=⟨h.ops.le k.le,fun w a=>h.tabs w fun b o e=>a b o (k.le b o e),h.flt.le k.le⟩
def txt (n s:X0):Bool:=
 if n=[119,111,114,100] then decide (s.length≤64)&&Lib.validD s&& !decide (0≤Lib.indexByte s 10)
 else if n=[110,101,119] then M9 s
 else if n=[105,115]∨n=[99,97,115,116] then right s&& !plain s
 else if n=[97,114,114,97,121] then right s&&decide (Yb s<3)
 else Zn s
theorem X2M {n a:X0} (ha:a.length≤U1) (hs:X3 w σ) (hg:Glb σ) (h: ∀w' σ',Stp w σ w' σ'→K (.bool (txt n a)) w'):Q1 P F.cL [S n,S a] w K:=Q6Z (by
 unfold Q2q
 have ha':a.length≤140737488355320:=by simp only[U1] at ha;omega
 have ha2:a.length≤140737488355328:=by simp only[U1] at ha;omega
 have hv: ∀{w1:World} {K:Value→World→Prop},X3 w1 σ→(∀w',Below w1.heap.size w1 w'→K (.bool (Lib.validD a)) w')→Q1 P F.b0 [S a] w1 K:=fun hk h=>Ti ha (hg.tabs _ hk) h
 unfold txt at h
 have e:decide ((a.length:Int)≤64)=decide (a.length≤64):=by rw[Bool.eq_iff_iff];simp only[decide_eq_true_eq];omega
 have e3:decide ((Yb a:Int)<3)=decide (Yb a<3):=by rw[Bool.eq_iff_iff];simp only[decide_eq_true_eq];omega
 by_cases h1:n=[119,111,114,100]
 ·rw[if_pos h1] at h
  simp only[decide_eq_true h1,↓M1,M1,Mb,reduceIte,e]
  by_cases h2:a.length≤64
  ·simp only[decide_eq_true h2,↓M1,M1,Mb,reduceIte] at h⊢
   refine hv hs (L1 hs ?_)
   intro w1 σ1 hk
   by_cases h3:Lib.validD a=true
   ·simp only[h3,↓M1,M1,Mb,reduceIte] at h⊢
    refine Q6x ?_
    (repeat' (first | (with_reducible intro _) | (with_reducible refine U6 ?_) | (simp only[↓M2,M2,Mb,reduceIte]) | (with_reducible first | refine ld aS aL aR ?_ | refine X7 aS aL aR ?_ | refine Y2 aS aL aR ?_ | refine Q8 aL ?_ | refine Z9 aR ?_ | refine Z0 aS ?_ | refine O4 aS aL ?_ | refine U5 aS aR ?_ | refine Y7 aS aR aR (Rep.one (by assumption)) ?_ | refine U7 aS aR aR aR ?_ | (refine Z8 (fun hh=>?_) (fun hh=>?_)<;>(try simp only[hh,Bool.not_true,Bool.not_false,↓M2,M2,Mb,reduceIte])) | (refine Q7 (fun hh=>?_) (fun hh=>?_)<;>(try simp only[hh,Bool.not_true,Bool.not_false,↓M2,M2,Mb,reduceIte])))))
    all_goals exact aF
   ·simp only[eq_false_of_ne_true h3,↓M1,M1,Mb,reduceIte] at h⊢
    (repeat' (first | (with_reducible intro _) | (with_reducible refine U6 ?_) | (simp only[↓M2,M2,Mb,reduceIte]) | (with_reducible first | refine ld aS aL aR ?_ | refine X7 aS aL aR ?_ | refine Y2 aS aL aR ?_ | refine Q8 aL ?_ | refine Z9 aR ?_ | refine Z0 aS ?_ | refine O4 aS aL ?_ | refine U5 aS aR ?_ | refine Y7 aS aR aR (Rep.one (by assumption)) ?_ | refine U7 aS aR aR aR ?_ | (refine Z8 (fun hh=>?_) (fun hh=>?_)<;>(try simp only[hh,Bool.not_true,Bool.not_false,↓M2,M2,Mb,reduceIte])) | (refine Q7 (fun hh=>?_) (fun hh=>?_)<;>(try simp only[hh,Bool.not_true,Bool.not_false,↓M2,M2,Mb,reduceIte])))))
    all_goals exact aF
  ·simp only[decide_eq_false h2,↓M1,M1,Mb,reduceIte] at h⊢
   (repeat' (first | (with_reducible intro _) | (with_reducible refine U6 ?_) | (simp only[↓M2,M2,Mb,reduceIte]) | (with_reducible first | refine ld aS aL aR ?_ | refine X7 aS aL aR ?_ | refine Y2 aS aL aR ?_ | refine Q8 aL ?_ | refine Z9 aR ?_ | refine Z0 aS ?_ | refine O4 aS aL ?_ | refine U5 aS aR ?_ | refine Y7 aS aR aR (Rep.one (by assumption)) ?_ | refine U7 aS aR aR aR ?_ | (refine Z8 (fun hh=>?_) (fun hh=>?_)<;>(try simp only[hh,Bool.not_true,Bool.not_false,↓M2,M2,Mb,reduceIte])) | (refine Q7 (fun hh=>?_) (fun hh=>?_)<;>(try simp only[hh,Bool.not_true,Bool.not_false,↓M2,M2,Mb,reduceIte])))))
   all_goals exact aF
 rw[if_neg h1] at h
 simp only[decide_eq_false h1,↓M1,M1,Mb,reduceIte]
 by_cases h2:n=[110,101,119]
 ·rw[if_pos h2] at h
  simp only[decide_eq_true h2,↓M1,M1,Mb,reduceIte]
  (repeat' (first | (with_reducible intro _) | (with_reducible refine U6 ?_) | (simp only[↓M2,M2,Mb,reduceIte]) | (with_reducible first | refine ld aS aL aR ?_ | refine X7 aS aL aR ?_ | refine Y2 aS aL aR ?_ | refine Q8 aL ?_ | refine Z9 aR ?_ | refine Z0 aS ?_ | refine O4 aS aL ?_ | refine U5 aS aR ?_ | refine Y7 aS aR aR (Rep.one (by assumption)) ?_ | refine U7 aS aR aR aR ?_ | refine Rn _ au (L1 aS ?_) | (refine Z8 (fun hh=>?_) (fun hh=>?_)<;>(try simp only[hh,Bool.not_true,Bool.not_false,↓M2,M2,Mb,reduceIte])) | (refine Q7 (fun hh=>?_) (fun hh=>?_)<;>(try simp only[hh,Bool.not_true,Bool.not_false,↓M2,M2,Mb,reduceIte])))))
  all_goals exact aF
 rw[if_neg h2] at h
 simp only[decide_eq_false h2,↓M1,M1,Mb,reduceIte]
 by_cases h3:n=[105,115]∨n=[99,97,115,116]
 ·rw[if_pos h3] at h
  have e4:(decide (n=[105,115])||decide (n=[99,97,115,116]))=true:=by simpa using h3
  refine U6 ?_
  refine Q7 (fun h4=>?_) (fun h4=>?_)
  ·simp only[h4,↓M1,M1,Mb,reduceIte]
   (repeat' (first | (with_reducible intro _) | (with_reducible refine U6 ?_) | (simp only[↓M2,M2,Mb,reduceIte]) | (with_reducible first | refine ld aS aL aR ?_ | refine X7 aS aL aR ?_ | refine Y2 aS aL aR ?_ | refine Q8 aL ?_ | refine Z9 aR ?_ | refine Z0 aS ?_ | refine O4 aS aL ?_ | refine U5 aS aR ?_ | refine Y7 aS aR aR (Rep.one (by assumption)) ?_ | refine U7 aS aR aR aR ?_ | refine Zq _ au (L1 aS ?_) | refine Rm _ ?_ | (refine Z8 (fun hh=>?_) (fun hh=>?_)<;>(try simp only[hh,Bool.not_true,Bool.not_false,↓M2,M2,Mb,reduceIte])) | (refine Q7 (fun hh=>?_) (fun hh=>?_)<;>(try simp only[hh,Bool.not_true,Bool.not_false,↓M2,M2,Mb,reduceIte])))))
   all_goals exact aF
  ·rw[h4,Bool.false_or] at e4
   simp only[e4,↓M1,M1,Mb,reduceIte]
   (repeat' (first | (with_reducible intro _) | (with_reducible refine U6 ?_) | (simp only[↓M2,M2,Mb,reduceIte]) | (with_reducible first | refine ld aS aL aR ?_ | refine X7 aS aL aR ?_ | refine Y2 aS aL aR ?_ | refine Q8 aL ?_ | refine Z9 aR ?_ | refine Z0 aS ?_ | refine O4 aS aL ?_ | refine U5 aS aR ?_ | refine Y7 aS aR aR (Rep.one (by assumption)) ?_ | refine U7 aS aR aR aR ?_ | refine Zq _ au (L1 aS ?_) | refine Rm _ ?_ | (refine Z8 (fun hh=>?_) (fun hh=>?_)<;>(try simp only[hh,Bool.not_true,Bool.not_false,↓M2,M2,Mb,reduceIte])) | (refine Q7 (fun hh=>?_) (fun hh=>?_)<;>(try simp only[hh,Bool.not_true,Bool.not_false,↓M2,M2,Mb,reduceIte])))))
   all_goals exact aF
 rw[if_neg h3] at h
 obtain ⟨h3,h4⟩:=not_or.1 h3
 refine U6 ?_
 simp only[decide_eq_false h3,decide_eq_false h4,↓M1,M1,Mb,reduceIte]
 by_cases h5:n=[97,114,114,97,121]
 ·rw[if_pos h5] at h
  simp only[decide_eq_true h5,↓M1,M1,Mb,reduceIte]
  (repeat' (first | (with_reducible intro _) | (with_reducible refine U6 ?_) | (simp only[↓M2,M2,Mb,reduceIte]) | (with_reducible first | refine ld aS aL aR ?_ | refine X7 aS aL aR ?_ | refine Y2 aS aL aR ?_ | refine Q8 aL ?_ | refine Z9 aR ?_ | refine Z0 aS ?_ | refine O4 aS aL ?_ | refine U5 aS aR ?_ | refine Y7 aS aR aR (Rep.one (by assumption)) ?_ | refine U7 aS aR aR aR ?_ | refine Zq _ au (L1 aS ?_) | refine X02 _ au (L1 aS ?_) | (refine Z8 (fun hh=>?_) (fun hh=>?_)<;>(try simp only[hh,Bool.not_true,Bool.not_false,↓M2,M2,Mb,reduceIte])) | (refine Q7 (fun hh=>?_) (fun hh=>?_)<;>(try simp only[hh,Bool.not_true,Bool.not_false,↓M2,M2,Mb,reduceIte])))))
  all_goals (try rw[e3])
  all_goals exact aF
 rw[if_neg h5] at h
 simp only[decide_eq_false h5,↓M1,M1,Mb,reduceIte]
 intro _
 refine X26 a ha2 (L1 hs fun w1 σ1 hk=>?_)
 by_cases hp:Zn a=true
 ·simp only[hp,if_true] at h⊢
  (repeat' (first | (with_reducible intro _) | (with_reducible refine U6 ?_) | (simp only[↓M2,M2,Mb,reduceIte]) | (with_reducible first | refine ld aS aL aR ?_ | refine X7 aS aL aR ?_ | refine Y2 aS aL aR ?_ | refine Q8 aL ?_ | refine Z9 aR ?_ | refine Z0 aS ?_ | refine O4 aS aL ?_ | refine U5 aS aR ?_ | refine Y7 aS aR aR (Rep.one (by assumption)) ?_ | refine U7 aS aR aR aR ?_ | (refine Z8 (fun hh=>?_) (fun hh=>?_)<;>(try simp only[hh,Bool.not_true,Bool.not_false,↓M2,M2,Mb,reduceIte])) | (refine Q7 (fun hh=>?_) (fun hh=>?_)<;>(try simp only[hh,Bool.not_true,Bool.not_false,↓M2,M2,Mb,reduceIte])))))
  all_goals exact aF
 ·simp only[eq_false_of_ne_true hp,Bool.false_eq_true,if_false] at h⊢
  (repeat' (first | (with_reducible intro _) | (with_reducible refine U6 ?_) | (simp only[↓M2,M2,Mb,reduceIte]) | (with_reducible first | refine ld aS aL aR ?_ | refine X7 aS aL aR ?_ | refine Y2 aS aL aR ?_ | refine Q8 aL ?_ | refine Z9 aR ?_ | refine Z0 aS ?_ | refine O4 aS aL ?_ | refine U5 aS aR ?_ | refine Y7 aS aR aR (Rep.one (by assumption)) ?_ | refine U7 aS aR aR aR ?_ | (refine Z8 (fun hh=>?_) (fun hh=>?_)<;>(try simp only[hh,Bool.not_true,Bool.not_false,↓M2,M2,Mb,reduceIte])) | (refine Q7 (fun hh=>?_) (fun hh=>?_)<;>(try simp only[hh,Bool.not_true,Bool.not_false,↓M2,M2,Mb,reduceIte])))))
  all_goals exact aF)
def H6 (i:Ins):Int:=if !(takes i.op).2.2 then 40 else if (!(takes i.op).1&&decide (i.n≠0))||(!(takes i.op).2.1&&decide (i.s≠[]))||((takes i.op).2.1&& !txt i.op i.s) then 41 else 0
theorem X14 {a:X0} (b:X3 w σ) (c:Glb σ) (h: ∀w',Below w.heap.size w w'→K (.tuple #[.bool (takes a).1, .bool (takes a).2.1, .bool (takes a).2.2]) w'):Q1 P F.cm [S a] w K:=X23 b c.ops h
theorem Q6E {i:Ins} {cs:List Value} (hs:X3 w σ) (hg:Glb σ) (hi:Qr σ i cs) (h: ∀w' σ',Stp w σ w' σ'→K (I (H6 i)) w'):Q1 P F.cH [.agg cs.toArray] w K:=Q6h (by
 obtain ⟨rfl,h1,h2,h3⟩:=hi
 unfold Q15
 unfold H6 at h
 (repeat' (first | (with_reducible intro _) | (with_reducible refine U6 ?_) | (simp only[↓M2,M2,Mb,reduceIte]) | (with_reducible first | refine ld aS aL aR ?_ | refine X7 aS aL aR ?_ | refine Y2 aS aL aR ?_ | refine Q8 aL ?_ | refine Z9 aR ?_ | refine Z0 aS ?_ | refine O4 aS aL ?_ | refine U5 aS aR ?_ | refine Y7 aS aR aR (Rep.one (by assumption)) ?_ | refine U7 aS aR aR aR ?_ | refine X14 au au (L1 aS ?_) | refine X2M au au au ?_ | (refine Z8 (fun hh=>?_) (fun hh=>?_)<;>(try simp only[hh,Bool.not_true,Bool.not_false,↓M2,M2,Mb,reduceIte])) | (refine Q7 (fun hh=>?_) (fun hh=>?_)<;>(try simp only[hh,Bool.not_true,Bool.not_false,↓M2,M2,Mb,reduceIte])))))
 all_goals exact aF)
end Go.Proofs.YtjdiakhipmggjaaGreatDoor

namespace Go.Emb
open Go.RowKit Go.Hm
variable {P : Program} {W : World}
theorem Q2D {w:World} (c:X3 w (Ux W)) {a:Addr} {v:Value} (h:W.cell? a=some v):w.cell? a=some v:=by
 unfold World.cell? at h⊢
 cases b:W.heap[a.block]? with
 | none=>rw[b] at h;cases h
 | some o=>rw[b] at h;rw[c _ o b];exact h
theorem X37 {α:Type} {f:α→List Value} {sz:Nat} (k: ∀a,(f a).length=sz): ∀(l:List α) (cs:List Value),cs.length=l.length*sz→(∀i a,l[i]? =some a→(cs.drop (i*sz)).take sz=f a)→cs=l.flatMap f:=by
 intro l
 induction l with
 | nil=>intro cs h _;simp at h;simp[h]
 | cons a r g=>
  intro cs h hh
  have j:=hh 0 a rfl
  have c:=g (cs.drop sz) (by rw[List.length_drop,h,List.length_cons,Nat.succ_mul];omega) (fun i b e=>by
   have:=hh (i+1) b (by simpa using e)
   rw[List.drop_drop]
   rwa [Nat.succ_mul,Nat.add_comm] at this)
  rw[List.flatMap_cons,←c,←j]
  simp
theorem Q4G {α H:Type} {enc:TypeId×Value→H} {base:Nat} {u:Nat→Bool} {b:Bool} {f:α→List Value} {g:α→DataW H} {n sz:Nat} {t e:TypeId} {c:Nat} {cs:List Value} {p:List MemPlace} (D:P.underlying t=some (.array n e)) (C:P.cellsOf e=sz) (j:P.cellsOf t=n*sz)
 (l:List α) (E: ∀a,(f a).length=sz) (k: ∀m cs a q,DataW.trod enc P W base u b m e cs=some (g a,q)→cs=f a)
 (h:DataW.trod enc P W base u b c t cs=some (.agg (l.map g),p)):cs=l.flatMap f:=by
 obtain ⟨xs,m,_,o,z,J,A⟩:=DataW.trod_array D h
 simp only[Prod.mk.injEq,DataW.agg.injEq] at o
 have y:l.length=n:=by have:=congrArg List.length o.1;simp at this;omega
 refine X37 E l cs (by rw[z,j,y]) fun i a w=>?_
 have L:i<l.length:=(List.getElem?_eq_some_iff.1 w).1
 have s:=A i (by omega)
 have r:i<xs.length:=by omega
 rw[List.getElem?_eq_getElem r,C] at s
 have B:(xs[i]).1=g a:=by
  have:=congrArg (·[i]?) o.1
  simp only[List.getElem?_map,w,List.getElem?_eq_getElem r,Option.map_some,Option.some.injEq] at this
  exact this.symm
 exact k m _ a _ (by rw[s];congr 1;exact Prod.ext B rfl)
theorem Q5O {n:String} {g:Nat} {cs:Array Value} {l:List Value} (h:P.globalNamed n=some g) (a:W.var? P n=some cs) (c:cs.toList=l):Z4 (Ux W) ⟨g,0,none⟩ l:=by
 unfold World.var? at a
 rw[h] at a
 simp only[Option.bind_some] at a
 cases b:W.heap[g]? with
 | none=>rw[b] at a;cases a
 | some o=>
  rw[b] at a
  cases o with
  | cells arr e j=>
   cases a
   refine ⟨rfl,cs,e,j,b,fun i v f=>?_⟩
   subst c
   simpa using f
  | _=>cases a
end Go.Emb
namespace Go.Proofs.YtjdiakhipmggjaaGreatDoor
open Go.Emb Go.RowKit Go.Kd Go.Hm
variable {W : World}
def laidAll:List (String×DataW Unit):=[("unicode/utf8.acceptRanges",Rows.laid_unicode_utf8_acceptRanges),("squinch/code.ops",Rows.laid_squinch_code_ops),("squinch/hier.faults",Rows.laid_squinch_hier_faults),("unicode/utf8.first",Rows.laid_unicode_utf8_first)]
theorem X3P:Rows.laid_squinch_code_ops=(.agg (Jz.map fun o=> .agg [.lit (.string o.name), .lit (.bool o.number), .lit (.bool o.text)]):DataW Unit):=by rfl
theorem X0B:Rows.laid_squinch_hier_faults=(.agg (U4.map fun s=> .lit (.string s)):DataW Unit):=by rfl
theorem X44:(Rows.laid_unicode_utf8_acceptRanges:DataW Unit)=Lib.acceptData:=by rfl
theorem X2x:Rows.laid_unicode_utf8_first=Lib.firstData:=by kernel_rfl
def X4n:Array Field:= #[⟨"name",T.c,0,false, "", "squinch/code",0⟩,⟨"number",T.u,1,false, "", "squinch/code",16⟩,⟨"text",T.u,2,false, "", "squinch/code",17⟩]
theorem X4b:P.underlying T.ad=some (.struct X4n):=by kernel_rfl
theorem X2X (h:laidMetH P laidAll W):Glb (Ux W):=by
 rw[Go.MakeChecks.laidMetH_plain _ _ _ (by kernel_rfl)] at h
 refine ⟨?_,fun w A=>?_,?_⟩
 ·obtain ⟨g,t,cs,u,p,o,j,b,r⟩:=Lib.laidMet.reads h (.tail _ (.head _))
  obtain rfl:=Option.some.inj ((show P.globalNamed "squinch/code.ops"=some G.a by kernel_rfl).symm.trans o)
  obtain rfl:=Option.some.inj ((show (P.globals[G.a]?).map (·.type)=some T.af by kernel_rfl).symm.trans j)
  rw[X3P] at r
  refine Q5O o b (Q4G (f:=cOp) (sz:=3) (n:=42) (e:=T.ad) (by kernel_rfl) (by kernel_rfl) (by kernel_rfl) Jz (fun _=>rfl) (fun m cs a q h=>by
  obtain ⟨xs,n,_,k,U,Z,z⟩:=DataW.trod_struct X4b h
  simp only[Prod.mk.injEq,DataW.agg.injEq] at k
  have l:cs.length=3:=by rw[U];kernel_rfl
  obtain ⟨c0,B,y,rfl⟩:=X1g l
  obtain ⟨x0,x1,x2,rfl⟩:=X1g (show xs.length=3 by rw[Z];rfl)
  have k:=k.1
  simp only[List.map_cons,List.map_nil,List.cons.injEq,and_true] at k
  obtain ⟨Q,L,O⟩:=k
  have J:DataW.trod (fun _=>()) P W 0 (fun _=>true) false n T.c (List.take (P.cellsOf T.c) (List.drop 0 [c0,B,y]))=some x0:=z 0 _ rfl
  have N:DataW.trod (fun _=>()) P W 0 (fun _=>true) false n T.u (List.take (P.cellsOf T.u) (List.drop 1 [c0,B,y]))=some x1:=z 1 _ rfl
  have D:DataW.trod (fun _=>()) P W 0 (fun _=>true) false n T.u (List.take (P.cellsOf T.u) (List.drop 2 [c0,B,y]))=some x2:=z 2 _ rfl
  rw[Pk] at J
  rw[X34] at N D
  obtain ⟨⟨⟨s0⟩⟩,E,Y,_⟩:=DataW.trod_string X8 J
  obtain ⟨b1,R,r1⟩:=DataW.trod_bool Q39 N
  obtain ⟨b2,C,X⟩:=DataW.trod_bool Q39 D
  simp at E R C
  subst E R C Y r1 X
  simp at Q L O
  simp[cOp,←Q,←L,←O]) r)
 ·have:=utf8Tabs_of_readsT (U8Types.of196 Tryz.lays196) ⟨by kernel_rfl,by kernel_rfl,by kernel_rfl,by kernel_rfl,by kernel_rfl,by kernel_rfl,by kernel_rfl⟩ (X2x▸Lib.laidMet.reads h (.tail _ (.tail _ (.tail _ (.head _))))) (X44▸Lib.laidMet.reads h (.head _))
  exact ⟨fun c V=>Q2D A (this.1 c V),fun i M=>⟨Q2D A (this.2 i M).1,Q2D A (this.2 i M).2⟩⟩
 ·obtain ⟨g,t,cs,u,p,o,j,b,r⟩:=Lib.laidMet.reads h (.tail _ (.tail _ (.head _)))
  obtain rfl:=Option.some.inj ((show P.globalNamed "squinch/hier.faults"=some G.b by kernel_rfl).symm.trans o)
  obtain rfl:=Option.some.inj ((show (P.globals[G.b]?).map (·.type)=some T.ao by kernel_rfl).symm.trans j)
  rw[X0B] at r
  have:=Q4G (f:=fun s=>[S s]) (sz:=1) (n:=6) (e:=T.c) (by kernel_rfl) Pk (by kernel_rfl) U4 (fun _=>rfl) (fun m cs a q h=>by
   obtain ⟨⟨⟨s⟩⟩,rfl,k,_⟩:=DataW.trod_string X8 h
   cases k;rfl) r
  exact Q5O o b (this.trans (by rfl))
end Go.Proofs.YtjdiakhipmggjaaGreatDoor
namespace Go.Emb
open Go.RowKit Go.Hm
theorem Q9h {H:Type} {P:Program} {a:List TypeId} {ds:List (DataW H)} (h:(DataW.weightsEach P a ds).all (· ≤reachBytes)=true) {j:Nat} {t:TypeId} {d:DataW H} (e:a[j]? =some t) (c:ds[j]? =some d):Wt P t d:=fun n b=>by
 have:=List.all_eq_true.1 h _ (DataW.weights_mem_each e c n b)
 simpa using this
end Go.Emb
namespace Go.Proofs.YtjdiakhipmggjaaGreatDoor
open Go.Emb Go.RowKit Go.Kd Go.Hm
section
variable {H : Type} {enc : TypeId × Value → H} {W : World} {v : Value} {d : DataW H} {p : List MemPlace}
end
end Go.Proofs.YtjdiakhipmggjaaGreatDoor

namespace Go.Proofs.YtjdiakhipmggjaaGreatDoor
open Go.Emb Go.RowKit Go.Kd Go.Hm
variable {w : World} {K : Value → World → Prop} {σ : Q6}
def I4 (n:Int) (x:Cat):Bool:=decide (0≤x.frm)&&decide (x.frm<x.to)&&decide (x.to≤n)&&decide (0≤x.at_)&&decide (x.at_<n)&&M9 x.cls
theorem Q89 {cs:List Value} {c:Cat} {q:Addr} {n:Int} (hs:X3 w σ) (hc:Ur σ c cs) (hq:Z4 σ q [I n]) (h: ∀w' σ',Stp w σ w' σ'→K (.bool (I4 n c)) w'):Q1 P F.bh [.agg cs.toArray, .pointer (some q)] w K:=Q2z (by
 obtain ⟨rfl,h1,h2,h3,h4⟩:=hc
 unfold Cb
 unfold I4 at h
 (repeat' (first | (with_reducible intro _) | (with_reducible refine U6 ?_) | (simp only[↓M2,M2,Mb,reduceIte]) | (with_reducible first | refine ld aS aL aR ?_ | refine X7 aS aL aR ?_ | refine Y2 aS aL aR ?_ | refine Q8 aL ?_ | refine Z9 aR ?_ | refine Z0 aS ?_ | refine O4 aS aL ?_ | refine U5 aS aR ?_ | refine Y7 aS aR aR (Rep.one (by assumption)) ?_ | refine U7 aS aR aR aR ?_ | refine Rn _ au (L1 aS ?_) | (refine Z8 (fun hh=>?_) (fun hh=>?_)<;>(try simp only[hh,Bool.not_true,Bool.not_false,↓M2,M2,Mb,reduceIte])) | (refine Q7 (fun hh=>?_) (fun hh=>?_)<;>(try simp only[hh,Bool.not_true,Bool.not_false,↓M2,M2,Mb,reduceIte])))))
 all_goals exact aF)
theorem Q8t {cs:List Value} {i:Ins} (hs:X3 w σ) (hg:Glb σ) (hc:Qr σ i cs) (h: ∀w' σ',Stp w σ w' σ'→K (.bool (decide (H6 i=0))) w'):Q1 P F.bi [.agg cs.toArray] w K:=Q2J (by
 obtain ⟨rfl,h1,h2,h3⟩:=hc
 have hc:Qr σ i [S i.op,I i.n,S i.s]:=⟨rfl,h1,h2,h3⟩
 unfold Sb
 (repeat' (first | (with_reducible intro _) | (with_reducible refine U6 ?_) | (simp only[↓M2,M2,Mb,reduceIte]) | (with_reducible first | refine ld aS aL aR ?_ | refine X7 aS aL aR ?_ | refine Y2 aS aL aR ?_ | refine Q8 aL ?_ | refine Z9 aR ?_ | refine Z0 aS ?_ | refine O4 aS aL ?_ | refine U5 aS aR ?_ | refine Y7 aS aR aR (Rep.one (by assumption)) ?_ | refine U7 aS aR aR aR ?_ | refine Q6E au au au ?_ | (refine Z8 (fun hh=>?_) (fun hh=>?_)<;>(try simp only[hh,Bool.not_true,Bool.not_false,↓M2,M2,Mb,reduceIte])) | (refine Q7 (fun hh=>?_) (fun hh=>?_)<;>(try simp only[hh,Bool.not_true,Bool.not_false,↓M2,M2,Mb,reduceIte])))))
 all_goals exact aF)
def K1 (m:Hm.Met):Bool:=E2 m.name&&m.params.all right&&(decide (m.result=[])||right m.result)&&
 if m.abs then decide (m.locals=0)&&decide (m.code=[])&&decide (m.catches=[])
 else decide (m.code≠[])&&decide ((m.params.length:Int)<m.locals)&&m.code.all (fun i=>decide (H6 i=0))&&m.catches.all (I4 m.code.length)
theorem X0X {cs:List Value} {m:Hm.Met} (hs:X3 w σ) (hg:Glb σ) (hm:H0 σ m cs) (h: ∀w' σ',Stp w σ w' σ'→K (.bool (K1 m)) w'):Q1 P F.ba [.agg cs.toArray] w K:=Q3Z (by
 obtain ⟨pv,cv,hv,rfl,g1,g2,g3,g4,g5,g6⟩:=hm
 unfold Gv
 unfold K1 at h
 have e1:decide ((0:Int)<m.code.length)=decide (m.code≠[]):=by cases m.code<;>simp
 have e2:decide ((m.code.length:Int)=0)=decide (m.code=[]):=by cases m.code<;>simp;omega
 have e3:decide ((m.catches.length:Int)=0)=decide (m.catches=[]):=by cases m.catches<;>simp;omega
 have hA: ∀{w1:World} {σ1:Q6} {K:Value→World→Prop},X3 w1 σ1→Sl 1 U8 σ1 pv m.params→(∀w' σ',Stp w1 σ1 w' σ'→K (.bool (m.params.all right)) w')→Q1 P F.aa [pv, .func (.func F.a0) #[] #[]] w1 K:=
  fun hs hv h=>Fs right hs hv (fun σ1 x w1 K _ _ hs hl hK=>Z7 (Zq x (Nat.le_trans hl (by decide)) hK)) (L1 hs h)
 have hB: ∀{w1:World} {σ1:Q6} {K:Value→World→Prop},X3 w1 σ1→Glb σ1→Sl 3 Qr σ1 cv m.code→(∀w' σ',Stp w1 σ1 w' σ'→K (.bool (m.code.all fun i=>decide (H6 i=0))) w')→Q1 P F.aw [cv, .func (.func F.bi) #[] #[]] w1 K:=
  fun hs hg hv h=>Q23 (fun i=>decide (H6 i=0)) hs hv (fun σ1 x cs w1 K le _ hs hr hl hK=>Z7 (Q8t hs (hg.lift ⟨le⟩) hr fun w' σ' hk=>hK w' hk.bel)) (L1 hs h)
 have hC: ∀{w1:World} {σ1:Q6} {K:Value→World→Prop} {q:Addr},X3 w1 σ1→Sl 4 Ur σ1 hv m.catches→Z4 σ1 q [I m.code.length]→(∀w' σ',Stp w1 σ1 w' σ'→K (.bool (m.catches.all (I4 m.code.length))) w')→Q1 P F.ax [hv, .func (.func F.bh) #[] #[.pointer (some q)]] w1 K:=
  fun hs hv hq h=>Q1V (I4 m.code.length) hs hv (fun σ1 x cs w1 K le _ hs hr hl hK=>Z7 (Q89 hs hr (hq.le le) fun w' σ' hk=>hK w' hk.bel)) (L1 hs h)
 refine Z0 hs fun a w1 σ1 hk1 ha1=>?_
 (repeat' (first | (with_reducible intro _) | (with_reducible refine U6 ?_) | (simp only[↓M2,M2,Mb,reduceIte]) | (with_reducible first | refine ld aS aL aR ?_ | refine X7 aS aL aR ?_ | refine Y2 aS aL aR ?_ | refine Q8 aL ?_ | refine Z9 aR ?_ | refine Z0 aS ?_ | refine O4 aS aL ?_ | refine U5 aS aR ?_ | refine Y7 aS aR aR (Rep.one (by assumption)) ?_ | refine U7 aS aR aR aR ?_ | refine Q6e au (L1 aS ?_) | refine Zq _ au (L1 aS ?_) | refine hA au au ?_ | refine hB au au au ?_ | refine hC au au au ?_ | (refine Z8 (fun hh=>?_) (fun hh=>?_)<;>(try simp only[hh,Bool.not_true,Bool.not_false,↓M2,M2,Mb,reduceIte])) | (refine Q7 (fun hh=>?_) (fun hh=>?_)<;>(try simp only[hh,Bool.not_true,Bool.not_false,↓M2,M2,Mb,reduceIte])))))
 all_goals (simp only[←e1,←e2,←e3] at h;clear e1 e2 e3;exact aF))
theorem X0b {cs:List Value} {m:Hm.Met} (a:X3 w σ) (b:Glb σ) (c:H0 σ m cs) (h: ∀w' d,Stp w σ w' d→K (.bool (K1 m)) w'):Z3 P (.func (.func F.ba) #[] #[]) [.agg cs.toArray] w K:=Z7 (X0X a b c h)
def He (f:Fld):Bool:=E2 f.name&&right f.kind
def Mq (c:Cla):Bool:=(c.name::c.super::c.like).all M9&& !((c.super::c.like).any fun y=>decide (c.name=y))&&B0 id [] c.like&&
 !(c.iface&&(!c.abs|| !decide (c.super=U0)|| !decide (c.fields=[])||c.methods.any (fun m=> !m.abs)))&&
 !((c.abs&&c.fin)||(c.methods.any (·.abs)&& !c.abs))&&B0 Fld.name [] c.fields&&B0 Hm.Met.name [] c.methods&&c.fields.all He&&c.methods.all K1
def E0 (c:Cla):Int:=if Zy c then 51 else if Mq c then 0 else 50
theorem Q97 {cs:List Value} {f:Fld} (hs:X3 w σ) (hf:S2 σ f cs) (h: ∀w' σ',Stp w σ w' σ'→K (.bool (He f)) w'):Q1 P F.bx [.agg cs.toArray] w K:=Q2W (by
 obtain ⟨rfl,h1,h2⟩:=hf
 unfold Bn
 unfold He at h
 (repeat' (first | (with_reducible intro _) | (with_reducible refine U6 ?_) | (simp only[↓M2,M2,Mb,reduceIte]) | (with_reducible first | refine ld aS aL aR ?_ | refine X7 aS aL aR ?_ | refine Y2 aS aL aR ?_ | refine Q8 aL ?_ | refine Z9 aR ?_ | refine Z0 aS ?_ | refine O4 aS aL ?_ | refine U5 aS aR ?_ | refine Y7 aS aR aR (Rep.one (by assumption)) ?_ | refine U7 aS aR aR aR ?_ | refine Q6e au (L1 aS ?_) | refine Zq _ au (L1 aS ?_) | (refine Z8 (fun hh=>?_) (fun hh=>?_)<;>(try simp only[hh,Bool.not_true,Bool.not_false,↓M2,M2,Mb,reduceIte])) | (refine Q7 (fun hh=>?_) (fun hh=>?_)<;>(try simp only[hh,Bool.not_true,Bool.not_false,↓M2,M2,Mb,reduceIte])))))
 all_goals exact aF)
set_option maxHeartbeats 1600000 in
theorem X1Z {cs:List Value} {c:Cla} (hs:X3 w σ) (hg:Glb σ) (hc:V0 σ c cs) (hl:c.like.length≤1000000) (h: ∀w' σ',Stp w σ w' σ'→K (.bool (Mq c)) w'):Q1 P F.cA [.agg cs.toArray] w K:=Q4Q (by
 obtain ⟨lv,fv,mv,rfl,g1,g2,g3,g4,g5⟩:=hc
 unfold Tg
 unfold Mq at h
 refine Z0 hs fun a w1 σ1 hk1 ha1=>?_
 rw[fa]
 refine ld hk1.sat ha1 rfl ?_
 rw[fa]
 refine ld hk1.sat ha1 rfl ?_
 refine Zf (R:=U8) (sz:=1) (xs:=[c.name,c.super]) hk1 [_,_] rfl rfl (by simp;exact ⟨rfl,rfl⟩) rfl ⟨⟨rfl,g4⟩,⟨rfl,g5⟩,trivial⟩ fun v w2 hk2 hacc _=>?_
 rw[fa]
 refine ld hk2.sat ha1 rfl ?_
 refine Wl (hk1.trans hk2) hacc (g1.up hk1) rfl (by simp;omega) (by simp;omega) fun v' w3 hn3 hS3 hacc3 _=>?_
 obtain ⟨σ3,hS3,hv3,le3,_⟩:=hacc3.keep hS3
 have hv3:Sl 1 U8 σ3 v' (c.name::c.super::c.like):=hv3
 have ha3:=ha1.le le3
 have le13:SLe σ σ3:=⟨hS3.le⟩
 have g1:=g1.lift le13
 have g2:=g2.lift le13
 have g3:=g3.lift le13
 have hg:=hg.lift le13
 refine J9 hS3.sat ?_
 refine H2 (fun v _=>Sl 1 U8 σ3 v (c.super::c.like)) (fun _ _ _ h _=>h) (fun w hb=>?_) ?_
 ·refine Ex hv3 (some (I 1)) none 1 (c.like.length+2) (.inr rfl) (.inl ⟨rfl,by simp⟩) (by omega) (by simp) fun v' hv'=>⟨Below.refl _ _,?_⟩
  simpa using hv'
 refine X4 (.pointer (some (a.add 0))) (fun w hb=>by rw[fa];exact X6 rfl) ?_
 refine X4 (S c.name) (fun t w hb e=>by rw[e];exact ld hb.sat ha3 rfl (X6 rfl)) ?_
 rintro t16 t17 t18 w4 hb4 f16 rfl rfl
 have hS4:=hS3.trans hb4.stp
 clear hb4 hk1 hk2 hn3
 have hs4:=hS4.sat
 refine Q22 hs4 f16 ?_
 have hA: ∀{w1:World} {σ1:Q6} {K:Value→World→Prop},X3 w1 σ1→Sl 7 H0 σ1 mv c.methods→(∀w' σ',Stp w1 σ1 w' σ'→K (.bool (c.methods.any (·.abs))) w')→Q1 P F.a [mv, .func (.func F.cn) #[] #[]] w1 K:=
  fun hs hv h=>F6 (·.abs) hs hv (fun x cs w1 K _ hs hr hl hK=>Z7 (Q3x (by
   obtain ⟨pv,cv,hv,rfl,_⟩:=hr
   unfold Cw
   refine Z0 hs fun a w1 σ1 hk1 ha1=>?_
   (repeat' (first | (with_reducible intro _) | (with_reducible refine U6 ?_) | (simp only[↓M2,M2,Mb,reduceIte]) | (with_reducible first | refine ld aS aL aR ?_ | refine X7 aS aL aR ?_ | refine Y2 aS aL aR ?_ | refine Q8 aL ?_ | refine Z9 aR ?_ | refine Z0 aS ?_ | refine O4 aS aL ?_ | refine U5 aS aR ?_ | refine Y7 aS aR aR (Rep.one (by assumption)) ?_ | refine U7 aS aR aR aR ?_ | (refine Z8 (fun hh=>?_) (fun hh=>?_)<;>(try simp only[hh,Bool.not_true,Bool.not_false,↓M2,M2,Mb,reduceIte])) | (refine Q7 (fun hh=>?_) (fun hh=>?_)<;>(try simp only[hh,Bool.not_true,Bool.not_false,↓M2,M2,Mb,reduceIte])))))
   exact hK _ hk1.bel))) (L1 hs h)
 have hB: ∀{w1:World} {σ1:Q6} {K:Value→World→Prop},X3 w1 σ1→Sl 7 H0 σ1 mv c.methods→(∀w' σ',Stp w1 σ1 w' σ'→K (.bool (c.methods.any fun m=> !m.abs)) w')→Q1 P F.a [mv, .func (.func F.co) #[] #[]] w1 K:=
  fun hs hv h=>F6 (fun m=> !m.abs) hs hv (fun x cs w1 K _ hs hr hl hK=>Z7 (Q3l (by
   obtain ⟨pv,cv,hv,rfl,_⟩:=hr
   unfold Bf
   refine Z0 hs fun a w1 σ1 hk1 ha1=>?_
   (repeat' (first | (with_reducible intro _) | (with_reducible refine U6 ?_) | (simp only[↓M2,M2,Mb,reduceIte]) | (with_reducible first | refine ld aS aL aR ?_ | refine X7 aS aL aR ?_ | refine Y2 aS aL aR ?_ | refine Q8 aL ?_ | refine Z9 aR ?_ | refine Z0 aS ?_ | refine O4 aS aL ?_ | refine U5 aS aR ?_ | refine Y7 aS aR aR (Rep.one (by assumption)) ?_ | refine U7 aS aR aR aR ?_ | (refine Z8 (fun hh=>?_) (fun hh=>?_)<;>(try simp only[hh,Bool.not_true,Bool.not_false,↓M2,M2,Mb,reduceIte])) | (refine Q7 (fun hh=>?_) (fun hh=>?_)<;>(try simp only[hh,Bool.not_true,Bool.not_false,↓M2,M2,Mb,reduceIte])))))
   exact hK _ hk1.bel))) (L1 hs h)
 have hC: ∀{w1:World} {σ1:Q6} {K:Value→World→Prop},X3 w1 σ1→Sl 1 U8 σ1 v' (c.name::c.super::c.like)→(∀w' σ',Stp w1 σ1 w' σ'→K (.bool ((c.name::c.super::c.like).all M9)) w')→Q1 P F.aa [v', .func (.func F.am) #[] #[]] w1 K:=
  fun hs hv h=>Fs M9 hs hv (fun σ1 x w1 K _ _ hs hl hK=>Z7 (Rn x (Nat.le_trans hl (by decide)) hK)) (L1 hs h)
 have hD: ∀{w1:World} {σ1:Q6} {K:Value→World→Prop},X3 w1 σ1→Sl 1 U8 σ1 lv c.like→(∀w' σ',Stp w1 σ1 w' σ'→K (.bool (B0 id [] c.like)) w')→Q1 P F.aU [lv, .func (.func F.cp) #[] #[]] w1 K:=
  fun hs hv h=>Q4R id hs hv (fun σ1 x w1 K _ hs hl hK=>Z7 (Q2U (hK _ (Below.refl _ _)))) (L1 hs h)
 have hE: ∀{w1:World} {σ1:Q6} {K:Value→World→Prop},X3 w1 σ1→Sl 3 S2 σ1 fv c.fields→(∀w' σ',Stp w1 σ1 w' σ'→K (.bool (B0 Fld.name [] c.fields)) w')→Q1 P F.aF [fv, .func (.func F.cq) #[] #[]] w1 K:=
  fun hs hv h=>Q2H Fld.name hs hv (fun σ1 x cs w1 K _ hs hr hl hK=>Z7 (Q2X (by
   obtain ⟨rfl,_⟩:=hr
   unfold Be
   refine Z0 hs fun a w1 σ1 hk1 ha1=>?_
   (repeat' (first | (with_reducible intro _) | (with_reducible refine U6 ?_) | (simp only[↓M2,M2,Mb,reduceIte]) | (with_reducible first | refine ld aS aL aR ?_ | refine X7 aS aL aR ?_ | refine Y2 aS aL aR ?_ | refine Q8 aL ?_ | refine Z9 aR ?_ | refine Z0 aS ?_ | refine O4 aS aL ?_ | refine U5 aS aR ?_ | refine Y7 aS aR aR (Rep.one (by assumption)) ?_ | refine U7 aS aR aR aR ?_ | (refine Z8 (fun hh=>?_) (fun hh=>?_)<;>(try simp only[hh,Bool.not_true,Bool.not_false,↓M2,M2,Mb,reduceIte])) | (refine Q7 (fun hh=>?_) (fun hh=>?_)<;>(try simp only[hh,Bool.not_true,Bool.not_false,↓M2,M2,Mb,reduceIte])))))
   exact hK _ hk1.bel))) (L1 hs h)
 have hF: ∀{w1:World} {σ1:Q6} {K:Value→World→Prop},X3 w1 σ1→Sl 7 H0 σ1 mv c.methods→(∀w' σ',Stp w1 σ1 w' σ'→K (.bool (B0 Hm.Met.name [] c.methods)) w')→Q1 P F.ar [mv, .func (.func F.cr) #[] #[]] w1 K:=
  fun hs hv h=>Q1Y Hm.Met.name hs hv (fun σ1 x cs w1 K _ hs hr hl hK=>Z7 (Q3f (by
   obtain ⟨pv,cv,hv,rfl,_⟩:=hr
   unfold Ba
   refine Z0 hs fun a w1 σ1 hk1 ha1=>?_
   (repeat' (first | (with_reducible intro _) | (with_reducible refine U6 ?_) | (simp only[↓M2,M2,Mb,reduceIte]) | (with_reducible first | refine ld aS aL aR ?_ | refine X7 aS aL aR ?_ | refine Y2 aS aL aR ?_ | refine Q8 aL ?_ | refine Z9 aR ?_ | refine Z0 aS ?_ | refine O4 aS aL ?_ | refine U5 aS aR ?_ | refine Y7 aS aR aR (Rep.one (by assumption)) ?_ | refine U7 aS aR aR aR ?_ | (refine Z8 (fun hh=>?_) (fun hh=>?_)<;>(try simp only[hh,Bool.not_true,Bool.not_false,↓M2,M2,Mb,reduceIte])) | (refine Q7 (fun hh=>?_) (fun hh=>?_)<;>(try simp only[hh,Bool.not_true,Bool.not_false,↓M2,M2,Mb,reduceIte])))))
   exact hK _ hk1.bel))) (L1 hs h)
 have hG: ∀{w1:World} {σ1:Q6} {K:Value→World→Prop},X3 w1 σ1→Sl 3 S2 σ1 fv c.fields→(∀w' σ',Stp w1 σ1 w' σ'→K (.bool (c.fields.all He)) w')→Q1 P F.au [fv, .func (.func F.bx) #[] #[]] w1 K:=
  fun hs hv h=>Q1Z He hs hv (fun σ1 x cs w1 K _ _ hs hr hl hK=>Z7 (Q97 hs hr fun w' σ' hk=>hK w' hk.bel)) (L1 hs h)
 have hH: ∀{w1:World} {σ1:Q6} {K:Value→World→Prop},X3 w1 σ1→Glb σ1→Sl 7 H0 σ1 mv c.methods→(∀w' σ',Stp w1 σ1 w' σ'→K (.bool (c.methods.all K1)) w')→Q1 P F.ap [mv, .func (.func F.ba) #[] #[]] w1 K:=
  fun hs hg hv h=>Q0i K1 hs hv (fun σ1 x cs w1 K le _ hs hr hl hK=>X0b hs (hg.lift ⟨le⟩) hr fun w' σ' hk=>hK w' hk.bel) (L1 hs h)
 have e1:decide ((0:Int)<c.fields.length)= !decide (c.fields=[]):=by cases c.fields<;>simp
 have e2:decide (c.super=[79,98,106,101,99,116])=decide (c.super=U0):=rfl
 (repeat' (first | (with_reducible intro _) | (with_reducible refine U6 ?_) | (simp only[↓M2,M2,Mb,reduceIte]) | (with_reducible first | refine ld aS aL aR ?_ | refine X7 aS aL aR ?_ | refine Y2 aS aL aR ?_ | refine Q8 aL ?_ | refine Z9 aR ?_ | refine Z0 aS ?_ | refine O4 aS aL ?_ | refine U5 aS aR ?_ | refine Y7 aS aR aR (Rep.one (by assumption)) ?_ | refine U7 aS aR aR aR ?_ | refine hA au au ?_ | refine hB au au ?_ | refine hC au au ?_ | refine hD au au ?_ | refine hE au au ?_ | refine hF au au ?_ | refine hG au au ?_ | refine hH au au au ?_ | (refine Z8 (fun hh=>?_) (fun hh=>?_)<;>(try simp only[hh,Bool.not_true,Bool.not_false,↓M2,M2,Mb,reduceIte])) | (refine Q7 (fun hh=>?_) (fun hh=>?_)<;>(try simp only[hh,Bool.not_true,Bool.not_false,↓M2,M2,Mb,reduceIte])))))
 all_goals (simp only[←e1,←e2] at h;clear hA hB hC hD hE hF hG hH e1 e2;exact aF))
theorem X24 {cs:List Value} {c:Cla} (hs:X3 w σ) (hg:Glb σ) (hc:V0 σ c cs) (hl:c.like.length≤1000000) (h: ∀w' σ',Stp w σ w' σ'→K (I (E0 c)) w'):Q1 P F.cy [.agg cs.toArray] w K:=Q4N (by
 have hc0:=hc
 obtain ⟨lv,fv,mv,rfl,g1,g2,g3,g4,g5⟩:=hc
 unfold Th
 unfold E0 at h
 (repeat' (first | (with_reducible intro _) | (with_reducible refine U6 ?_) | (simp only[↓M2,M2,Mb,reduceIte]) | (with_reducible first | refine ld aS aL aR ?_ | refine X7 aS aL aR ?_ | refine Y2 aS aL aR ?_ | refine Q8 aL ?_ | refine Z9 aR ?_ | refine Z0 aS ?_ | refine O4 aS aL ?_ | refine U5 aS aR ?_ | refine Y7 aS aR aR (Rep.one (by assumption)) ?_ | refine U7 aS aR aR aR ?_ | refine X2Z au au (L1 aS ?_) | refine X1Z au au au au ?_ | (refine Z8 (fun hh=>?_) (fun hh=>?_)<;>(try simp only[hh,Bool.not_true,Bool.not_false,↓M2,M2,Mb,reduceIte])) | (refine Q7 (fun hh=>?_) (fun hh=>?_)<;>(try simp only[hh,Bool.not_true,Bool.not_false,↓M2,M2,Mb,reduceIte])))))
 all_goals exact aF)
end Go.Proofs.YtjdiakhipmggjaaGreatDoor

namespace Go.Emb
open Go.RowKit Go.Hm
structure Tab (σ : Q6) (v : Value) (l : List Cla) : Prop where
  ex : ∃ a lv r m, v = .pointer (some a) ∧ Z4 σ a [lv, .map (some r)] ∧ Sl 8 V0 σ lv l ∧ Xm σ r m ∧ ∀ n, C8 m n = (Z2 l n).map (fun i : Nat => I (i : Int))
theorem Tab.lift {σ0 σ:Q6} {v:Value} {l:List Cla} (h:Tab σ0 v l) (k:SLe σ0 σ):Tab σ v l:=by
 obtain ⟨a,e,r,m,g,b,f,c,d⟩:=h.ex
 exact ⟨a,e,r,m,g,b.lift k,f.lift k,c.lift k,d⟩
end Go.Emb
namespace Go.Proofs.YtjdiakhipmggjaaGreatDoor
open Go.Emb Go.RowKit Go.Kd Go.Hm
variable {w : World} {K : Value → World → Prop} {σ : Q6} {v : Value} {l : List Cla}
theorem Q8h {n:X0} (b:X3 w σ) (g:Tab σ v l) (h:K (.bool (Q11 l n)) w):Q1 P F.j [v,S n] w K:=Ez (by
 obtain ⟨a,j,r,m,rfl,f,i,e,c⟩:=g.ex
 unfold Uk
 rw[L9,fa]
 refine ld b f rfl ?_
 rw[Q2y X8 (e.is b) n,c n]
 unfold Q11 at h
 cases d:Z2 l n<;>rw[d] at h<;>((try simp only[Option.map_some,Option.map_none]);(try simp only[↓M1,M1,Mb,reduceIte]);exact h))
theorem Zj {n:X0} {c:Cla} (R:X3 w σ) (Z:Tab σ v l) (U:lk l n=some c)
 (h: ∀k s mv w' q,Stp w σ w' q→Sl 1 U8 q k c.like→Sl 3 S2 q s c.fields→Sl 7 H0 q mv c.methods→c.name.length≤U1→c.super.length≤U1→V0 q c [S c.name,S c.super,k, .bool c.iface, .bool c.abs, .bool c.fin,s,mv]→
  K (.agg [S c.name,S c.super,k, .bool c.iface, .bool c.abs, .bool c.fin,s,mv].toArray) w'):Q1 P F.h [v,S n] w K:=Pd (by
 obtain ⟨a,k,r,m,rfl,E,N,V,t4⟩:=Z.ex
 obtain ⟨_,_,i,hi,y⟩:=V3 U
 obtain ⟨z,rfl⟩:=List.getElem?_eq_some_iff.1 y
 unfold Mx
 refine N1 R fun b w1 σ1 f d A=>?_
 refine J9 d.sat ?_
 refine X4 (.pointer (some a)) (fun w f=>by rw[L9];exact X6 rfl) ?_
 refine X4 (.pointer (some (a.add 0))) (fun t w f e=>by rw[e,fa];exact X6 rfl) ?_
 refine X4 (.pointer (some a)) (fun w f=>by rw[L9];exact X6 rfl) ?_
 refine X4 (.pointer (some (a.add 1))) (fun t w f e=>by rw[e,fa];exact X6 rfl) ?_
 refine X4 k (fun t w f e=>by rw[e];exact ld f.sat (E.up d) rfl (X6 rfl)) ?_
 refine X4 (.map (some r)) (fun t w f e=>by rw[e];exact ld f.sat (E.up d) rfl (X6 rfl)) ?_
 refine X4 (I i) (fun t w f e=>by rw[e,Q4A X8 ((V.up d).is f.sat) n,t4 n,hi];exact X6 rfl) ?_
 rintro t6 t7 O ae t8 ad W w2 g rfl rfl rfl rfl Y rfl rfl
 subst Y
 have u:=A.step g.stp
 refine N3 (N.up d) z fun p cs L j D=>?_
 refine Y2 g.sat L j ?_
 have o:=D
 obtain ⟨af,s,mv,rfl,X,J,g3,Q,H⟩:=D
 refine G1 u (d.trans g.stp) f rfl rfl (Rep.one o) fun M C B=>?_
 refine V1 B rfl ?_
 exact h _ _ _ M σ1 C.stp X J g3 Q H o)
theorem Q0L {n:X0} (a:X3 w σ) (c:Tab σ v l) (b:lk l n=none) (h:K (.bool false) w):Q1 P F.j [v,S n] w K:=Q8h a c (by rw[Q1E,b];exact h)
theorem Sq {n:X0} {d:Cla} (a:X3 w σ) (c:Tab σ v l) (b:lk l n=some d) (h:K (.bool true) w):Q1 P F.j [v,S n] w K:=Q8h a c (by rw[Q1E,b];exact h)
theorem X0L {c:Cla} {cs:List Value} (hs:X3 w σ) (ht:Tab σ v l) (hc:V0 σ c cs) (h: ∀w' σ',Stp w σ w' σ'→K (I (D9 l c)) w'):Q1 P F.bb [v, .agg cs.toArray] w K:=Ga (by
 obtain ⟨lv,fv,mv,rfl,g1,g2,g3,g4,g5⟩:=hc
 unfold Ld
 unfold D9 at h
 cases hd:lk l c.super with
 | none=>
  simp only[Xa,hd,if_true] at h
  (repeat' (first | (with_reducible intro _) | (with_reducible refine U6 ?_) | (simp only[↓M2,M2,Mb,reduceIte]) | (with_reducible first | refine ld aS aL aR ?_ | refine X7 aS aL aR ?_ | refine Y2 aS aL aR ?_ | refine Q8 aL ?_ | refine Z9 aR ?_ | refine Z0 aS ?_ | refine O4 aS aL ?_ | refine U5 aS aR ?_ | refine Y7 aS aR aR (Rep.one (by assumption)) ?_ | refine U7 aS aR aR aR ?_ | refine Q0L au au au ?_ | (refine Z8 (fun hh=>?_) (fun hh=>?_)<;>(try simp only[hh,Bool.not_true,Bool.not_false,↓M2,M2,Mb,reduceIte])) | (refine Q7 (fun hh=>?_) (fun hh=>?_)<;>(try simp only[hh,Bool.not_true,Bool.not_false,↓M2,M2,Mb,reduceIte])))))
  all_goals exact aF
 | some d=>
  simp only[Xa,hd] at h
  obtain ⟨dn,ds,dl,di,da,df,dfs,dms⟩:=d
  cases di<;>cases df
  ·simp only[Bool.or_self,Bool.false_eq_true,if_false] at h
   (repeat' (first | (with_reducible intro _) | (with_reducible refine U6 ?_) | (simp only[↓M2,M2,Mb,reduceIte]) | (with_reducible first | refine ld aS aL aR ?_ | refine X7 aS aL aR ?_ | refine Y2 aS aL aR ?_ | refine Q8 aL ?_ | refine Z9 aR ?_ | refine Z0 aS ?_ | refine O4 aS aL ?_ | refine U5 aS aR ?_ | refine Y7 aS aR aR (Rep.one (by assumption)) ?_ | refine U7 aS aR aR aR ?_ | refine Sq au au au ?_ | refine Zj au au au ?_ | (refine Z8 (fun hh=>?_) (fun hh=>?_)<;>(try simp only[hh,Bool.not_true,Bool.not_false,↓M2,M2,Mb,reduceIte])) | (refine Q7 (fun hh=>?_) (fun hh=>?_)<;>(try simp only[hh,Bool.not_true,Bool.not_false,↓M2,M2,Mb,reduceIte])))))
   rename_i w3 σ3 hk3 _ _ _ _ _ _
   have hS:Stp w σ w3 σ3:=by (repeat (first | exact Stp.refl (by (first | assumption | exact Stp.sat (by assumption) | exact Hst.sat (by assumption))) | assumption | refine Stp.trans ?_ (by first | assumption | exact Hst.stp (by assumption))))
   refine U2 c.like.length (fun n w'=> ∃σ',Stp w σ w' σ'∧SLe σ3 σ'∧((c.like.take n).any (R7 l))=false) ⟨σ3,hS,SLe.refl _,by simp⟩ fun n w4 d hn hi=>?_
   obtain ⟨σ4,hS4,le4,hq⟩:=hi
   clear hk3
   refine Z1 ?_
   refine Q7 (fun hh=>?_) (fun hh=>?_)
   ·have hn':n<c.like.length:=by simpa using hh
    have hmax:c.like.length≤9223372036854775807:=g1.max
    refine Q6l (by (first | assumption | exact Sl.lift (by assumption) (by (repeat (first | exact SLe.refl _ | refine SLe.more ?_ (by assumption) | refine SLe.more ?_ (Nxt.le (by assumption)) | refine SLe.step ?_ (by assumption)))) | exact Z4.lift (by assumption) (by (repeat (first | exact SLe.refl _ | refine SLe.more ?_ (by assumption) | refine SLe.more ?_ (Nxt.le (by assumption)) | refine SLe.step ?_ (by assumption)))) | exact Xm.lift (by assumption) (by (repeat (first | exact SLe.refl _ | refine SLe.more ?_ (by assumption) | refine SLe.more ?_ (Nxt.le (by assumption)) | refine SLe.step ?_ (by assumption)))) | exact RCl_lift (by assumption) (by (repeat (first | exact SLe.refl _ | refine SLe.more ?_ (by assumption) | refine SLe.more ?_ (Nxt.le (by assumption)) | refine SLe.step ?_ (by assumption)))) | exact RMe_lift (by assumption) (by (repeat (first | exact SLe.refl _ | refine SLe.more ?_ (by assumption) | refine SLe.more ?_ (Nxt.le (by assumption)) | refine SLe.step ?_ (by assumption)))) | exact Glb.lift (by assumption) (by (repeat (first | exact SLe.refl _ | refine SLe.more ?_ (by assumption) | refine SLe.more ?_ (Nxt.le (by assumption)) | refine SLe.step ?_ (by assumption)))) | exact Tab.lift (by assumption) (by (repeat (first | exact SLe.refl _ | refine SLe.more ?_ (by assumption) | refine SLe.more ?_ (Nxt.le (by assumption)) | refine SLe.step ?_ (by assumption)))) | exact RIn_any (by assumption) | exact RFd_any (by assumption) | exact RCa_any (by assumption))) hn' fun p hl hbig=>?_
    have hq':=L2 (p:=R7 l) hn'
    rw[hq] at hq'
    cases hx:lk l c.like[n] with
    | none=>
     simp only[S9 (p:=R7 l) hn' (by simp only[R7,hx]),if_true] at h
     (repeat' (first | (with_reducible intro _) | (with_reducible refine U6 ?_) | (simp only[↓M2,M2,Mb,reduceIte]) | (with_reducible first | refine ld aS aL aR ?_ | refine X7 aS aL aR ?_ | refine Y2 aS aL aR ?_ | refine Q8 aL ?_ | refine Z9 aR ?_ | refine Z0 aS ?_ | refine O4 aS aL ?_ | refine U5 aS aR ?_ | refine Y7 aS aR aR (Rep.one (by assumption)) ?_ | refine U7 aS aR aR aR ?_ | refine Q0L au au au ?_ | (refine Z8 (fun hh=>?_) (fun hh=>?_)<;>(try simp only[hh,Bool.not_true,Bool.not_false,↓M2,M2,Mb,reduceIte])) | (refine Q7 (fun hh=>?_) (fun hh=>?_)<;>(try simp only[hh,Bool.not_true,Bool.not_false,↓M2,M2,Mb,reduceIte])))))
     all_goals exact aF
    | some x=>
     obtain ⟨xn,xs,xl,xi,xa,xf,xfs,xms⟩:=x
     cases xi
     ·simp only[S9 (p:=R7 l) hn' (by simp only[R7,hx];rfl),if_true] at h
      (repeat' (first | (with_reducible intro _) | (with_reducible refine U6 ?_) | (simp only[↓M2,M2,Mb,reduceIte]) | (with_reducible first | refine ld aS aL aR ?_ | refine X7 aS aL aR ?_ | refine Y2 aS aL aR ?_ | refine Q8 aL ?_ | refine Z9 aR ?_ | refine Z0 aS ?_ | refine O4 aS aL ?_ | refine U5 aS aR ?_ | refine Y7 aS aR aR (Rep.one (by assumption)) ?_ | refine U7 aS aR aR aR ?_ | refine Sq au au au ?_ | refine Zj au au au ?_ | (refine Z8 (fun hh=>?_) (fun hh=>?_)<;>(try simp only[hh,Bool.not_true,Bool.not_false,↓M2,M2,Mb,reduceIte])) | (refine Q7 (fun hh=>?_) (fun hh=>?_)<;>(try simp only[hh,Bool.not_true,Bool.not_false,↓M2,M2,Mb,reduceIte])))))
      all_goals exact aF
     ·(repeat' (first | (with_reducible intro _) | (with_reducible refine U6 ?_) | (simp only[↓M2,M2,Mb,reduceIte]) | (with_reducible first | refine ld aS aL aR ?_ | refine X7 aS aL aR ?_ | refine Y2 aS aL aR ?_ | refine Q8 aL ?_ | refine Z9 aR ?_ | refine Z0 aS ?_ | refine O4 aS aL ?_ | refine U5 aS aR ?_ | refine Y7 aS aR aR (Rep.one (by assumption)) ?_ | refine U7 aS aR aR aR ?_ | refine Sq au au au ?_ | refine Zj au au au ?_ | (refine Z8 (fun hh=>?_) (fun hh=>?_)<;>(try simp only[hh,Bool.not_true,Bool.not_false,↓M2,M2,Mb,reduceIte])) | (refine Q7 (fun hh=>?_) (fun hh=>?_)<;>(try simp only[hh,Bool.not_true,Bool.not_false,↓M2,M2,Mb,reduceIte])))))
      refine Y5 hmax hn' ⟨_,by (repeat (first | exact Stp.refl (by (first | assumption | exact Stp.sat (by assumption) | exact Hst.sat (by assumption))) | assumption | refine Stp.trans ?_ (by first | assumption | exact Hst.stp (by assumption)))),by (repeat (first | exact SLe.refl _ | refine SLe.more ?_ (by assumption) | refine SLe.more ?_ (Nxt.le (by assumption)) | refine SLe.step ?_ (by assumption))),by rw[hq'];simp only[R7,hx];rfl⟩
   ·have hn': ¬n<c.like.length:=by simpa using hh
    rw[E5 hn'] at hq
    simp only[hq,Bool.false_eq_true,if_false] at h
    exact h _ _ hS4
  all_goals
   simp only[Bool.or_self,Bool.or_true,Bool.true_or,if_true] at h
   (repeat' (first | (with_reducible intro _) | (with_reducible refine U6 ?_) | (simp only[↓M2,M2,Mb,reduceIte]) | (with_reducible first | refine ld aS aL aR ?_ | refine X7 aS aL aR ?_ | refine Y2 aS aL aR ?_ | refine Q8 aL ?_ | refine Z9 aR ?_ | refine Z0 aS ?_ | refine O4 aS aL ?_ | refine U5 aS aR ?_ | refine Y7 aS aR aR (Rep.one (by assumption)) ?_ | refine U7 aS aR aR aR ?_ | refine Sq au au au ?_ | refine Zj au au au ?_ | (refine Z8 (fun hh=>?_) (fun hh=>?_)<;>(try simp only[hh,Bool.not_true,Bool.not_false,↓M2,M2,Mb,reduceIte])) | (refine Q7 (fun hh=>?_) (fun hh=>?_)<;>(try simp only[hh,Bool.not_true,Bool.not_false,↓M2,M2,Mb,reduceIte])))))
   all_goals exact aF)
end Go.Proofs.YtjdiakhipmggjaaGreatDoor

namespace Go.Emb
open Go.RowKit Go.Hm
variable {P : Program} {w w0 w1 w' w'' : World} {K : Value → World → Prop} {σ σ0 σ1 σ' : Q6}
theorem Q8c {a:Addr} {v:Value} (h:w.cell? a=some v) (b:Below w.heap.size w w'):w'.cell? a=some v:=by
 rw[←h];exact World.cell?_of_block (b.block a.block (World.block_lt_of_cell? _ _ h))
def Ptr {α:Type} (sz:Nat) (R:Q6→α→List Value→Prop) (σ:Q6) (x:α) (p:Value) (w:World):Prop:=
 ∃a cs,p= .pointer (some a)∧(∀j u,cs[j]? =some u→w.cell? (a.add j)=some u)∧cs.length=sz∧R σ x cs
theorem Ptr.below {α:Type} {sz:Nat} {R:Q6→α→List Value→Prop} {x:α} {p:Value} (h:Ptr sz R σ x p w) (d:Below w.heap.size w w'):Ptr sz R σ x p w':=by
 obtain ⟨a,cs,b,e,c⟩:=h
 exact ⟨a,cs,b,fun j u f=>Q8c (e j u f) d,c⟩
end Go.Emb
namespace Go.Proofs.YtjdiakhipmggjaaGreatDoor
open Go.Emb Go.RowKit Go.Kd Go.Hm
variable {w : World} {K : Value → World → Prop} {σ : Q6} {v : Value} {l : List Cla}
theorem Q4B {w0:World} {σ0:Q6} {xs:List Cla} (V:Stp w0 σ0 w σ) (L:J7 w0.heap.size T.b 8 V0 σ w v xs)
 (h: ∀w',Kpt (fun k=>v.ownBlock=some k) w w'→Stp w0 σ0 w' σ→J7 w0.heap.size T.b 8 V0 σ w' v xs.reverse→K (.tuple #[]) w'):Q1 P F.q [v] w K:=Zs (by
 unfold I6
 have R:xs.length≤9223372036854775807:=by
  obtain ⟨a,aa,_,g,b,_⟩:=L
  simp only[maxLen] at b;omega
 refine Q1x L ?_
 refine Zm ⟨by omega,by omega⟩ ?_
 refine Wk (fun x w'=> ∃i:Nat,x=(I i,I ((xs.length:Int)-1-i))∧2*i≤xs.length∧Kpt (fun k=>v.ownBlock=some k) w w'∧Stp w0 σ0 w' σ∧J7 w0.heap.size T.b 8 V0 σ w' v (C7 i xs)) (fun x _=>match x.2 with | .int _ n=>(n+1).toNat | _=>0) ⟨0,by simp,by omega,Kpt.refl,V,L⟩ ?_
 rintro _ d w1 ⟨i,rfl,U,Q,r,c⟩
 obtain ⟨O,M⟩:=Q0m xs i U
 refine Z1 ?_
 refine Q7 (fun hh=>?_) (fun hh=>?_)
 ·have ac:(i:Int)<(xs.length:Int)-1-i:=by simpa using hh
  have N:((xs.length:Int)-1-i)=((xs.length-1-i:Nat):Int):=by omega
  have o:i<(C7 i xs).length:=by omega
  have q:xs.length-1-i<(C7 i xs).length:=by omega
  refine J9 r.sat ?_
  refine H2 (Ptr 8 V0 σ (C7 i xs)[xs.length-1-i]) (fun _ _ _ h f=>h.below f) (fun w f=>?_) ?_
  ·simp only[N]
   exact Q6f (c.step f.stp) q fun a cs g b j=>⟨Below.refl _ _,a,cs,rfl,g,b,j⟩
  refine H2 (Ptr 8 V0 σ (C7 i xs)[i]) (fun _ _ _ h f=>h.below f) (fun w f=>?_) ?_
  ·exact Q6f (c.step f.stp) o fun a cs g b j=>⟨Below.refl _ _,a,cs,rfl,g,b,j⟩
  refine H2 (fun v _=> ∃cs:List Value,v= .agg cs.toArray∧cs.length=8∧V0 σ (C7 i xs)[xs.length-1-i] cs) (fun _ _ _ h _=>h) (fun t w f e=>?_) ?_
  ·obtain ⟨a,cs,rfl,g,b,j⟩:=e
   exact Pc b g ⟨Below.refl _ _,cs,rfl,b,j⟩
  refine H2 (fun v _=> ∃cs:List Value,v= .agg cs.toArray∧cs.length=8∧V0 σ (C7 i xs)[i] cs) (fun _ _ _ h _=>h) (fun t w f e=>?_) ?_
  ·obtain ⟨a,cs,rfl,g,b,j⟩:=e
   exact Pc b g ⟨Below.refl _ _,cs,rfl,b,j⟩
  rintro ab W X Y w2 m _ _ ⟨cs,rfl,C,y⟩ ⟨ds,rfl,B,s⟩
  refine Q1n (r.trans m.stp) (c.step m.stp) o C y (Rep.one y) fun p u w3 J E A=>?_
  simp only[N]
  refine Q1n E.stp A (by simpa using q) B s (Rep.one s) fun p u w4 H D z=>?_
  refine Xz ⟨by omega,by omega⟩ ?_
  refine Zm ⟨by omega,by omega⟩ ?_
  refine ⟨⟨i+1,by congr 1<;>congr 1<;>omega,by omega,?_,D.stp,?_⟩,?_⟩
  ·exact ((Q.trans (Kpt.of_below m.stp.bel)).trans J).trans H
  ·have Z:(C7 i xs)[i]? =some (C7 i xs)[i]:=List.getElem?_eq_getElem o
   have e2:(C7 i xs)[xs.length-1-i]? =some (C7 i xs)[xs.length-1-i]:=List.getElem?_eq_getElem q
   have:C7 (i+1) xs=((C7 i xs).set i (C7 i xs)[xs.length-1-i]).set (xs.length-1-i) (C7 i xs)[i]:=by
    simp only[C7,Z,e2]
   rw[this];exact z
  ·simp only;omega
 ·have ae: ¬(i:Int)<(xs.length:Int)-1-i:=by simpa using hh
  rw[Q99 xs i U (by omega)] at c
  exact h w1 Q r c)
def sOf:Value→X0 | .string b=>b.data.toList | _=>[]
theorem X09 {n:X0} (L:X3 w σ) (B:Tab σ v l) (V:Ji l) (X:l.length≤100000) (h: ∀q w' σ',Stp w σ w' σ'→J7 w.heap.size T.b 8 V0 σ' w' q (chain l n).reverse→K q w'):Q1 P F.aT [v,S n] w K:=Tp (by
 unfold Oj
 refine Wk (fun x w'=> ∃(s:X0) (k:List Cla) (σ':Q6),x.2=S s∧chain l n=k++chain l s∧Stp w σ w' σ'∧V6 w.heap.size T.b 8 V0 σ' w' x.1 k) (fun x _=>(chain l (sOf x.2)).length)
  ⟨n,[],σ,rfl,rfl,Stp.refl L,V6.nil⟩ ?_
 rintro ⟨x1,_⟩ d w1 ⟨s,k,σ1,rfl,o,a,g⟩
 have e:=B.lift ⟨a.le⟩
 have A:=Bb l n
 have r:sOf (S s)=s:=by simp[sOf]
 simp only[r]
 cases j:lk l s with
 | none=>
  refine Q0L a.sat e j ?_
  refine Z6 ?_
  rw[Yq j,List.append_nil] at o
  rw[←o] at g
  refine Q4B a (J7.of_acc g) fun D f y t=>?_
  exact h _ _ _ y t
 | some c=>
  refine Sq a.sat e j ?_
  refine J6 ?_
  refine Zj a.sat e j fun M O mv D σ2 f U R Q H E z=>?_
  have b:=A8 V s
  rw[j] at b
  simp only at b
  have N:k.length+1≤l.length+1:=by
   have:=congrArg List.length o
   rw[List.length_append,b,List.length_cons] at this;omega
  refine Un (a.trans f) (g.up f) z rfl rfl rfl (by omega) (by omega) fun u q Y Z C i p _=>?_
  refine Zj i.sat (B.lift ⟨i.le⟩) j fun M O mv W J m U R Q H E z=>?_
  refine Z9 (v:=S c.super) rfl ?_
  refine ⟨⟨c.super,k++[c],J,rfl,?_,i.trans m,p.up m⟩,?_⟩
  ·rw[o,b];simp
  ·have:sOf (S c.super)=c.super:=by simp[sOf]
   simp only[this,b,List.length_cons];omega)
theorem Ps {n:X0} (V:X3 w σ) (X:Tab σ v l) (ha:Ji l) (U:l.length≤100000) (C: ∀c∈l,Qo c) (h: ∀D w' σ',Stp w σ w' σ'→Sl 3 S2 σ' D (Y6 l n)→K D w'):Q1 P F.a3 [v,S n] w K:=Gb (by
 unfold Ln
 refine X09 V X ha U fun v1 w1 σ1 A J=>?_
 obtain ⟨R,L,r,Y,_⟩:=J.keep A
 generalize g:(chain l n).reverse=cs at*
 have O:cs.length≤l.length+1:=by rw[←g,List.length_reverse];exact Bb l n
 have o: ∀c∈cs,c.fields.length≤1000000:=fun c t=>(C c (Bc (by rw[←g] at t;simpa using t))).2.1
 refine Q8 r ?_
 refine E7 cs.length (fun i a w'=> ∃σ',Stp w σ w' σ'∧SLe R σ'∧V6 w.heap.size T.o 3 S2 σ' w' a ((cs.take i).flatMap (·.fields))) ⟨R,L,SLe.refl _,V6.nil⟩ fun i a w3 d hi m=>?_
 obtain ⟨σ3,f,k,j⟩:=m
 refine Z1 ?_
 refine Q7 (fun hh=>?_) (fun hh=>?_)
 ·have e:i<cs.length:=by simpa using hh
  refine N3 (r.lift k) e fun p cells u s M=>?_
  refine Y2 f.sat u s ?_
  refine Y7 f.sat (by rfl) s (Rep.one M) fun q w4 N b W=>?_
  obtain ⟨lv,fv,mv,rfl,f1,f2,f3,f4,f5⟩:=M
  rw[fa]
  refine ld b.sat W rfl ?_
  have y:=Vu (fun c:Cla=>c.fields) 1000000 (cs.take i) fun c t=>o c (List.mem_of_mem_take t)
  rw[List.length_take] at y
  have aa:=o cs[i] (List.getElem_mem e)
  have Q:min i cs.length*1000000≤100000*1000000:=Nat.mul_le_mul_right _ (by omega)
  refine Wl (f.trans b) (j.up b) (f2.up b) rfl (by omega) (by omega) fun D w5 ab E z _=>?_
  refine O5 ?_
  refine J4 (by omega) e ⟨N,E,k.more ⟨b.le⟩,?_⟩
  rw[List.take_add_one,List.getElem?_eq_getElem e,List.flatMap_append]
  simpa using z
 ·have e: ¬i<cs.length:=by simpa using hh
  rw[List.take_of_length_le (by omega)] at j
  obtain ⟨N,H,B,Z,_⟩:=j.keep f
  refine h _ _ _ H ?_
  unfold Y6
  rw[g];exact B)
theorem X1I {n f:X0} (hs:X3 w σ) (ht:Tab σ v l) (ha:Ji l) (hl:l.length≤100000) (hsm: ∀c∈l,Qo c) (h: ∀w' σ',Stp w σ w' σ'→K (I (L6 (Jx l n f))) w'):Q1 P F.bm [v,S n,S f] w K:=Kc (by
 unfold Mt
 refine U5 hs rfl fun q w1 σ1 hk1 hq=>?_
 refine Ps hk1.sat (ht.lift ⟨hk1.le⟩) ha hl hsm fun v' w2 σ2 hk2 hv2=>?_
 rw[Qh]
 refine Fw (fun x=>decide (x.name=f)) hk2.sat hv2 (fun x cs w3 K _ hs3 hr hl hK=>Z7 (Fc ?_)) fun w3 hb=>?_
 ·obtain ⟨rfl,_⟩:=hr
  unfold Vt
  have hq2:=hq.up hk2
  refine Z0 hs3 fun a w4 σ4 hk4 ha4=>?_
  (repeat' (first | (with_reducible intro _) | (with_reducible refine U6 ?_) | (simp only[↓M2,M2,Mb,reduceIte]) | (with_reducible first | refine ld aS aL aR ?_ | refine X7 aS aL aR ?_ | refine Y2 aS aL aR ?_ | refine Q8 aL ?_ | refine Z9 aR ?_ | refine Z0 aS ?_ | refine O4 aS aL ?_ | refine U5 aS aR ?_ | refine Y7 aS aR aR (Rep.one (by assumption)) ?_ | refine U7 aS aR aR aR ?_ | (refine Z8 (fun hh=>?_) (fun hh=>?_)<;>(try simp only[hh,Bool.not_true,Bool.not_false,↓M2,M2,Mb,reduceIte])) | (refine Q7 (fun hh=>?_) (fun hh=>?_)<;>(try simp only[hh,Bool.not_true,Bool.not_false,↓M2,M2,Mb,reduceIte])))))
  exact hK _ hk4.bel
 ·exact h _ _ ((hk1.trans hk2).trans (Stp.of_below hk2.sat hb)))
end Go.Proofs.YtjdiakhipmggjaaGreatDoor

namespace Go.Hm
open Go.Kd
theorem Q6b {α:Type} (p:α→Bool): ∀xs:List α,xs.find? p=(xs.findIdx? p).bind (xs[·]?)
 | []=>rfl
 | x::r=>by
  rw[List.find?_cons,List.findIdx?_cons]
  cases p x with
  | true=>rfl
  | false=>
   simp only[Bool.false_eq_true,if_false]
   rw[Q6b p r]
   cases r.findIdx? p<;>simp
def X0A (l:List Cla):Prop:= ∀c∈l,∀u∈c.like,∃d,lk l u=some d
def Nm (c:Cla):Prop:=c.name.length≤100∧(∀f∈c.fields,f.name.length≤100∧f.kind.length≤100)∧ ∀m∈c.methods,m.result.length≤100∧ ∀p∈m.params,p.length≤100
structure Ok (l : List Cla) : Prop where
  acy : Ji l
  len : l.length ≤ 100000
  sm : ∀ c ∈ l, Qo c
  full : X0A l
  nm : ∀ c ∈ l, Nm c
abbrev oM (o:Option Hm.Met):Hm.Met:=o.getD Hm.Met.zero
abbrev o1 (o:Option (X0×Hm.Met)):X0:=(o.map (·.1)).getD []
abbrev o2 (o:Option (X0×Hm.Met)):Hm.Met:=(o.map (·.2)).getD Hm.Met.zero
theorem Xv {α β:Type} {xs:List α} {f:α→Option β} {n:Nat} (h:n<xs.length) (a:(xs.take n).findSome? f=none):(xs.take (n+1)).findSome? f=f xs[n]:=by
 rw[List.take_add_one,List.getElem?_eq_getElem h,List.findSome?_append,a];simp
theorem Xp {α β:Type} {xs:List α} {f:α→Option β} {n:Nat} {y:β} (h:n<xs.length) (a:(xs.take n).findSome? f=none) (b:f xs[n]=some y):xs.findSome? f=some y:=by
 have:=Xv h a
 rw[b] at this
 rw[←List.take_append_drop (n+1) xs,List.findSome?_append,this];rfl
end Go.Hm
namespace Go.Proofs.YtjdiakhipmggjaaGreatDoor
open Go.Emb Go.RowKit Go.Kd Go.Hm
variable {w : World} {K : Value → World → Prop} {σ : Q6} {v : Value} {l : List Cla}
theorem Qy:H0 σ Hm.Met.zero [S [], .slice none 0 0,S [], .bool false,I 0, .slice none 0 0, .slice none 0 0]:=
 ⟨_,_,_,rfl,Sl.nil,Sl.nil,Sl.nil,by decide,by decide,by decide,by decide⟩
theorem Gg (h:K (.agg [S [], .slice none 0 0,S [], .bool false,I 0, .slice none 0 0, .slice none 0 0].toArray) w):H3 P T.e [] w K:=W1 (by kernel_rfl) h
theorem X19 {c:Cla} {cs:List Value} {n:X0} (hs:X3 w σ) (hc:V0 σ c cs) (hsm:Qo c)
 (h: ∀pv cv hv w' σ',Stp w σ w' σ'→H0 σ' (oM (F7 c n)) [S (oM (F7 c n)).name,pv,S (oM (F7 c n)).result, .bool (oM (F7 c n)).abs,I (oM (F7 c n)).locals,cv,hv]→
  K (.tuple #[.agg [S (oM (F7 c n)).name,pv,S (oM (F7 c n)).result, .bool (oM (F7 c n)).abs,I (oM (F7 c n)).locals,cv,hv].toArray, .bool (F7 c n).isSome]) w'):Q1 P F.cC [.agg cs.toArray,S n] w K:=Q8O (by
 obtain ⟨lv,fv,mv,rfl,g1,g2,g3,g4,g5⟩:=hc
 unfold Q30
 refine Z0 hs fun a w1 σ1 hk1 ha1=>?_
 refine U5 hk1.sat rfl fun q w2 σ2 hk2 hq=>?_
 refine N1 hk2.sat fun b w3 σ3 hb hk3 hm=>?_
 rw[fa]
 have ha3:=(ha1.up hk2).up hk3
 have g3:=((g3.up hk1).up hk2).up hk3
 have hq3:=hq.up hk3
 refine ld hk3.sat ha3 rfl ?_
 rw[Qh]
 have hS3:=(hk1.trans hk2).trans hk3
 have hb0:w.heap.size≤b:=N2 hb (hk1.trans hk2)
 refine Fh (fun x=>decide (x.name=n)) hk3.sat g3 (fun x cs w4 K _ hs4 hr hl hK=>Z7 (Q5k ?_)) fun w4 hb4=>?_
 ·obtain ⟨pv,cv,hv,rfl,_⟩:=hr
  unfold Q0q
  refine Z0 hs4 fun a w5 σ5 hk5 ha5=>?_
  (repeat' (first | (with_reducible intro _) | (with_reducible refine U6 ?_) | (simp only[↓M2,M2,Mb,reduceIte]) | (with_reducible first | refine ld aS aL aR ?_ | refine X7 aS aL aR ?_ | refine Y2 aS aL aR ?_ | refine Q8 aL ?_ | refine Z9 aR ?_ | refine Z0 aS ?_ | refine O4 aS aL ?_ | refine U5 aS aR ?_ | refine Y7 aS aR aR (Rep.one (by assumption)) ?_ | refine U7 aS aR aR aR ?_ | (refine Z8 (fun hh=>?_) (fun hh=>?_)<;>(try simp only[hh,Bool.not_true,Bool.not_false,↓M2,M2,Mb,reduceIte])) | (refine Q7 (fun hh=>?_) (fun hh=>?_)<;>(try simp only[hh,Bool.not_true,Bool.not_false,↓M2,M2,Mb,reduceIte])))))
  exact hK _ hk5.bel
 have hk4:Stp w3 σ3 w4 σ3:=Stp.of_below hk3.sat hb4
 have hm:=hm.step hk4
 have hS4:=hS3.trans hk4
 unfold F7 at h
 rw[Q6b] at h
 refine Z1 ?_
 cases hf:c.methods.findIdx? fun x=>decide (x.name=n) with
 | none=>
  rw[hf] at h
  simp only[L6]
  refine J6 ?_
  refine Gg ?_
  refine G1 hm hS4 hb0 rfl rfl (Rep.one (Qy (σ:=σ3))) fun w5 hS5 hm5=>?_
  refine V1 hm5 rfl ?_
  exact h _ _ _ w5 σ3 hS5.stp Qy
 | some i=>
  rw[hf] at h
  have hi:i<c.methods.length:=(List.findIdx?_eq_some_iff_getElem.1 hf).1
  simp only[Option.bind_some,List.getElem?_eq_getElem hi] at h
  simp only[L6]
  refine Q7 (fun hh=>absurd (of_decide_eq_true hh) (by omega)) (fun _=>?_)
  rw[fa]
  refine ld hk4.sat ha3 rfl ?_
  refine N3 g3 hi fun p cells hl1 hl2 hr=>?_
  refine Y2 hk4.sat hl1 hl2 ?_
  refine Q4p hk4.sat hr (hsm.2.2.2 _ (List.getElem_mem hi)) fun pv cv hv w5 σ5 hk5 hr5=>?_
  refine G1 (hm.step hk5) (hS4.trans hk5) hb0 rfl rfl (Rep.one hr5) fun w6 hS6 hm6=>?_
  refine V1 hm6 rfl ?_
  exact h _ _ _ w6 σ5 hS6.stp hr5)
theorem X3o {n:X0} (ok:Ok l): ∀(k:Nat) {c:Cla} {cs:List Value} {w:World} {σ:Q6} {K:Value→World→Prop},P1 l c.name<k→lk l c.name=some c→X3 w σ→Tab σ v l→V0 σ c cs→
 (∀pv Z X w' W,Stp w σ w' W→H0 W (o2 (V4 l c n)) [S (o2 (V4 l c n)).name,pv,S (o2 (V4 l c n)).result, .bool (o2 (V4 l c n)).abs,I (o2 (V4 l c n)).locals,Z,X]→
  K (.tuple #[S (o1 (V4 l c n)), .agg [S (o2 (V4 l c n)).name,pv,S (o2 (V4 l c n)).result, .bool (o2 (V4 l c n)).abs,I (o2 (V4 l c n)).locals,Z,X].toArray, .bool (V4 l c n).isSome]) w')→
 Q1 P F.aV [v, .agg cs.toArray,S n] w K:=by
 intro k
 induction k with
 | zero=>
  intro c cs w σ K hk
  omega
 | succ k ih=>
  intro c cs w σ K hk hc hs ht hr h
  refine Q02 ?_
  obtain ⟨lv,fv,mv,rfl,g1,g2,g3,g4,g5⟩:=hr
  have E:=Q4b ok.acy hc n
  generalize hf:(fun u=>match lk l u with | none=>none | some d=>match F7 d n with | some m=>some (u,m) | none=>V4 l d n)=f at E
  unfold Ol
  refine Z0 hs fun a w1 σ1 C ax=>?_
  refine N1 C.sat fun b w2 σ2 hb H aq=>?_
  have V:w.heap.size≤b:=N2 hb C
  have a7:=ax.up H
  rw[fa]
  refine ld H.sat a7 rfl ?_
  have g1:=(g1.up C).up H
  refine Q8 g1 ?_
  refine U2 c.like.length (fun i w'=> ∃W,Stp w σ w' W∧SLe σ2 W∧Y3 W w' b [S [], .slice none 0 0,S [], .bool false,I 0, .slice none 0 0, .slice none 0 0]∧(c.like.take i).findSome? f=none) ⟨σ2,C.trans H,SLe.refl _,aq,rfl⟩ fun i w3 d hi ak=>?_
  obtain ⟨σ3,z,aj,ap,A⟩:=ak
  have ar:=ht.lift ⟨z.le⟩
  refine Z1 ?_
  refine Q7 (fun hh=>?_) (fun hh=>?_)
  ·have g:i<c.like.length:=by simpa using hh
   refine Q6l (g1.lift aj) g fun p a3 ai=>?_
   refine X7 z.sat a3 rfl ?_
   obtain ⟨d,Y⟩:=ok.full c (V3 hc).2.1 _ (List.getElem_mem g)
   obtain ⟨ad,av,_⟩:=V3 Y
   have j:f c.like[i]=match F7 d n with | some m=>some (c.like[i],m) | none=>V4 l d n:=by rw[←hf];simp only[Y]
   refine Zj z.sat ar Y fun a1 a8 az w4 σ4 L f1 f2 f3 f4 f5 a4=>?_
   refine X19 L.sat a4 (ok.sm d av) fun pv Z X w5 σ5 D ae=>?_
   refine J0 (vs:=[_,_]) rfl ?_
   refine J0 (vs:=[_,_]) rfl ?_
   refine Y7 D.sat (by rfl) rfl (Rep.one ae) fun q w6 σ6 J ac=>?_
   have t:=((z.trans L).trans D).trans J
   have ab:=((ap.step L).step D).step J
   have Q:=RMe_lift ae ⟨J.le⟩
   cases ho:F7 d n with
   | some m=>
    rw[ho] at j Q ac
    (try simp only[ho])
    refine J6 ?_
    refine J9 t.sat ?_
    refine H2 (fun v _=>v= .agg [S m.name,pv,S m.result, .bool m.abs,I m.locals,Z,X].toArray) (fun _ _ _ h _=>h) (fun w hb=>Y2 hb.sat ac rfl ⟨Below.refl _ _,rfl⟩) ?_
    rintro _ w7 ao rfl
    refine G1 (ab.step ao.stp) (t.trans ao.stp) V rfl rfl (Rep.one Q) fun w8 ay bb=>?_
    refine V1 bb rfl ?_
    have O:=E.trans (Xp g A j)
    rw[O] at h
    exact h _ _ _ w8 σ6 ay.stp Q
   | none=>
    rw[ho] at j
    (try simp only[Option.isSome_none])
    refine Z6 ?_
    refine Zj t.sat (ht.lift ⟨t.le⟩) Y fun a1 a8 az w7 σ7 y f1 f2 f3 f4 f5 ba=>?_
    have bs:=Xw ok.acy hc (by simp[U3,List.getElem_mem g]:c.like[i]∈U3 c) Y
    refine ih (by rw[ad];omega) (by rw[ad];exact Y) y.sat (ht.lift ⟨(t.trans y).le⟩) ba fun pv Z X w8 σ8 B an=>?_
    refine J0 (vs:=[_,_,_]) rfl ?_
    refine J0 (vs:=[_,_,_]) rfl ?_
    refine J0 (vs:=[_,_,_]) rfl ?_
    refine Y7 B.sat (by rfl) rfl (Rep.one an) fun q w9 σ9 M aa=>?_
    have R:=((t.trans y).trans B).trans M
    have am:=((ab.step y).step B).step M
    have U:=RMe_lift an ⟨M.le⟩
    cases O:V4 l d n with
    | some r=>
     obtain ⟨s,m⟩:=r
     rw[O] at j U aa
     (try simp only[O])
     refine J6 ?_
     refine J9 R.sat ?_
     refine H2 (fun v _=>v= .agg [S m.name,pv,S m.result, .bool m.abs,I m.locals,Z,X].toArray) (fun _ _ _ h _=>h) (fun w hb=>Y2 hb.sat aa rfl ⟨Below.refl _ _,rfl⟩) ?_
     rintro _ bi N rfl
     refine G1 (am.step N.stp) (R.trans N.stp) V rfl rfl (Rep.one U) fun a5 ah al=>?_
     refine V1 al rfl ?_
     have ai:=E.trans (Xp g A j)
     rw[ai] at h
     exact h _ _ _ a5 σ9 ah.stp U
    | none=>
     rw[O] at j
     (try simp only[Option.isSome_none])
     refine Z6 ?_
     refine O5 ?_
     refine Y5 (by have:=g1.max;omega) g ⟨σ9,R,?_,am,?_⟩
     ·exact aj.more ⟨fun b o e=>M.le _ _ (B.le _ _ (y.le _ _ (J.le _ _ (D.le _ _ (L.le _ _ e)))))⟩
     ·rw[Xv g A];exact j
  ·have g: ¬i<c.like.length:=by simpa using hh
   rw[List.take_of_length_le (by omega)] at A
   refine Gg ?_
   refine G1 ap z V rfl rfl (Rep.one (Qy (σ:=σ3))) fun w5 aw a6=>?_
   refine V1 a6 rfl ?_
   have O:=E.trans A
   rw[O] at h
   exact h _ _ _ w5 σ3 aw.stp Qy
end Go.Proofs.YtjdiakhipmggjaaGreatDoor

namespace Go.Hm
open Go.Kd
theorem X15 {l:List Cla} {n:X0} {c:Cla} (h:c∈chain l n):lk l c.name=some c:=by
 have key: ∀(f:Nat) (n:X0),c∈I5 (lk l) f n→lk l c.name=some c:=by
  intro f
  induction f with
  | zero=>intro n h;simp[I5] at h
  | succ f b=>
   intro n h
   simp only[I5] at h
   split at h
   ·simp at h
   ·rename_i d a
    rcases List.mem_cons.1 h with rfl | h
    ·rw[(V3 a).1];exact a
    ·exact b _ h
 exact key _ _ h
end Go.Hm
namespace Go.Proofs.YtjdiakhipmggjaaGreatDoor
open Go.Emb Go.RowKit Go.Kd Go.Hm
variable {w : World} {K : Value → World → Prop} {σ : Q6} {v : Value} {l : List Cla}
theorem X0S {k n:X0} (hs:X3 w σ) (ht:Tab σ v l) (ok:Ok l)
 (h: ∀pv cv hv w' H,Stp w σ w' H→H0 H (o2 (V2 l k n)) [S (o2 (V2 l k n)).name,pv,S (o2 (V2 l k n)).result, .bool (o2 (V2 l k n)).abs,I (o2 (V2 l k n)).locals,cv,hv]→
  K (.tuple #[S (o1 (V2 l k n)), .agg [S (o2 (V2 l k n)).name,pv,S (o2 (V2 l k n)).result, .bool (o2 (V2 l k n)).abs,I (o2 (V2 l k n)).locals,cv,hv].toArray, .bool (V2 l k n).isSome]) w'):
 Q1 P F.bd [v,S k,S n] w K:=Fp (by
 unfold Lv
 refine N1 hs fun b w1 σ1 E J av=>?_
 refine X09 J.sat (ht.lift ⟨J.le⟩) ok.acy ok.len fun v1 w2 σ2 aj ao=>?_
 have a4:=av.step aj
 have bh:=av.lt
 refine Q4B (J.trans aj) (ao.mono J.bel.size) fun w3 bd a7 ar=>?_
 rw[List.reverse_reverse] at ar
 obtain ⟨σ3,a0,O,bj,ak⟩:=ar.keep a7
 have bg:=Bb l k
 have az:v1.ownBlock≠some b:=fun e=>by have:=ao.own e;omega
 have aw:Y3 σ3 w3 b [S [], .slice none 0 0,S [], .bool false,I 0, .slice none 0 0, .slice none 0 0]:=by
  have:=a4.kp bd az
  exact ⟨(ak b fun e=>az e.symm).trans this.1,this.2⟩
 refine Q8 O ?_
 unfold V2 at h
 refine U2 (chain l k).length (fun i w'=> ∃H,Stp w σ w' H∧SLe σ3 H∧Y3 H w' b [S [], .slice none 0 0,S [], .bool false,I 0, .slice none 0 0, .slice none 0 0]∧((chain l k).take i).findSome? (fun c=>(F7 c n).map (c.name,·))=none) ⟨σ3,a0,SLe.refl _,aw,rfl⟩ fun i w5 d hi C=>?_
 obtain ⟨σ5,L,R,an,y⟩:=C
 refine Z1 ?_
 refine Q7 (fun hh=>?_) (fun hh=>?_)
 ·have a:i<(chain l k).length:=by simpa using hh
  refine N3 (O.lift R) a fun p cells V z Z=>?_
  refine Y2 L.sat V z ?_
  refine Y7 L.sat (by rfl) z (Rep.one Z) fun q w6 σ6 A ai=>?_
  refine Y2 A.sat ai z ?_
  have ad:=Bc (List.getElem_mem a)
  refine X19 A.sat (Rep.up A.le Z) (ok.sm _ ad) fun pv cv hv w7 σ7 j ay=>?_
  refine J0 (vs:=[_,_]) rfl ?_
  refine J0 (vs:=[_,_]) rfl ?_
  refine Y7 j.sat (by rfl) rfl (Rep.one ay) fun q8 w8 σ8 u al=>?_
  have Y:=((L.trans A).trans j).trans u
  have a2:=((an.step A).step j).step u
  have B:=RMe_lift ay ⟨u.le⟩
  cases D:F7 (chain l k)[i] n with
  | some m=>
   rw[D] at B al
   (try simp only[D])
   refine J6 ?_
   obtain ⟨lv,fv,mv,rfl,g⟩:=Z
   refine J9 Y.sat ?_
   refine X4 (.pointer (some (q.add 0))) (fun w E=>by rw[fa];exact X6 rfl) ?_
   refine X4 (S (chain l k)[i].name) (fun t w E e=>by rw[e];exact ld E.sat ((ai.up j).up u) rfl (X6 rfl)) ?_
   refine H2 (fun v _=>v= .agg [S m.name,pv,S m.result, .bool m.abs,I m.locals,cv,hv].toArray) (fun _ _ _ h _=>h) (fun w E=>Y2 E.sat al rfl ⟨Below.refl _ _,rfl⟩) ?_
   rintro _ _ _ w9 af rfl rfl rfl
   refine G1 (a2.step af.stp) (Y.trans af.stp) E rfl rfl (Rep.one B) fun ah aq ax=>?_
   refine V1 ax rfl ?_
   rw[Xp (f:=fun c=>(F7 c n).map (c.name,·)) a y (by simp only[D];rfl)] at h
   exact h _ _ _ ah σ8 aq.stp B
  | none=>
   (try simp only[D])
   refine Z6 ?_
   refine O5 ?_
   refine Y5 (by have:=ok.len;omega) a ⟨σ8,Y,R.more ⟨fun b o e=>u.le _ _ (j.le _ _ (A.le _ _ e))⟩,a2,?_⟩
   rw[Xv a y];simp only[D];rfl
 ·have a: ¬i<(chain l k).length:=by simpa using hh
  rw[List.take_of_length_le (by omega)] at y
  rw[y] at h
  clear aw a0 hh
  refine Q8 (O.lift R) ?_
  refine U2 (chain l k).length (fun i w'=> ∃H,Stp w σ w' H∧SLe σ3 H∧Y3 H w' b [S [], .slice none 0 0,S [], .bool false,I 0, .slice none 0 0, .slice none 0 0]∧((chain l k).take i).findSome? (fun c=>V4 l c n)=none) ⟨σ5,L,R,an,rfl⟩ fun i w6 d hi C=>?_
  obtain ⟨σ6,M,ag,ae,y⟩:=C
  refine Z1 ?_
  refine Q7 (fun hh=>?_) (fun hh=>?_)
  ·have a:i<(chain l k).length:=by simpa using hh
   refine N3 (O.lift ag) a fun p cells V z Z=>?_
   refine Y2 M.sat V z ?_
   refine Y7 M.sat (by rfl) z (Rep.one Z) fun q w7 σ7 j bc=>?_
   refine Y2 j.sat bc z ?_
   have N:=M.trans j
   have a5:=X15 (List.getElem_mem a)
   refine X3o ok _ (Nat.lt_succ_self _) a5 j.sat (ht.lift ⟨N.le⟩) (Rep.up j.le Z) fun pv cv hv w8 σ8 u B=>?_
   refine J0 (vs:=[_,_,_]) rfl ?_
   refine J0 (vs:=[_,_,_]) rfl ?_
   refine J0 (vs:=[_,_,_]) rfl ?_
   refine Y7 u.sat (by rfl) rfl (Rep.one B) fun q9 w9 σ9 Q ac=>?_
   have W:=(N.trans u).trans Q
   have ap:=((ae.step j).step u).step Q
   have X:=RMe_lift B ⟨Q.le⟩
   cases D:V4 l (chain l k)[i] n with
   | some r=>
    obtain ⟨s,m⟩:=r
    rw[D] at X ac
    (try simp only[D])
    refine J6 ?_
    refine J9 W.sat ?_
    refine H2 (fun v _=>v= .agg [S m.name,pv,S m.result, .bool m.abs,I m.locals,cv,hv].toArray) (fun _ _ _ h _=>h) (fun w E=>Y2 E.sat ac rfl ⟨Below.refl _ _,rfl⟩) ?_
    rintro _ ah U rfl
    refine G1 (ap.step U.stp) (W.trans U.stp) E rfl rfl (Rep.one X) fun a6 a1 am=>?_
    refine V1 am rfl ?_
    have:=Xp (f:=fun c=>V4 l c n) a y D
    unfold V4 at this
    rw[this] at h
    exact h _ _ _ a6 σ9 a1.stp X
   | none=>
    (try simp only[D])
    refine Z6 ?_
    refine O5 ?_
    refine Y5 (by have:=ok.len;omega) a ⟨σ9,W,ag.more ⟨fun b o e=>Q.le _ _ (u.le _ _ (j.le _ _ e))⟩,ap,?_⟩
    rw[Xv a y];exact D
  ·have a: ¬i<(chain l k).length:=by simpa using hh
   rw[List.take_of_length_le (by omega)] at y
   refine Gg ?_
   refine G1 ae M E rfl rfl (Rep.one (Qy (σ:=σ6))) fun w7 N ba=>?_
   refine V1 ba rfl ?_
   unfold V4 at y
   rw[y] at h
   exact h _ _ _ w7 σ6 N.stp Qy)
theorem Q4D {n:X0} (hs:X3 w σ) (ht:Tab σ v l) (h: ∀w' σ',Stp w σ w' σ'→K (.bool (Qb l n)) w'):Q1 P F.aE [v,S n] w K:=Fj (by
 unfold Wa
 unfold Qb at h
 cases hd:lk l n with
 | none=>
  rw[hd] at h
  (repeat' (first | (with_reducible intro _) | (with_reducible refine U6 ?_) | (simp only[↓M2,M2,Mb,reduceIte]) | (with_reducible first | refine ld aS aL aR ?_ | refine X7 aS aL aR ?_ | refine Y2 aS aL aR ?_ | refine Q8 aL ?_ | refine Z9 aR ?_ | refine Z0 aS ?_ | refine O4 aS aL ?_ | refine U5 aS aR ?_ | refine Y7 aS aR aR (Rep.one (by assumption)) ?_ | refine U7 aS aR aR aR ?_ | refine Q0L au au au ?_ | (refine Z8 (fun hh=>?_) (fun hh=>?_)<;>(try simp only[hh,Bool.not_true,Bool.not_false,↓M2,M2,Mb,reduceIte])) | (refine Q7 (fun hh=>?_) (fun hh=>?_)<;>(try simp only[hh,Bool.not_true,Bool.not_false,↓M2,M2,Mb,reduceIte])))))
  all_goals exact aF
 | some d=>
  rw[hd] at h
  (repeat' (first | (with_reducible intro _) | (with_reducible refine U6 ?_) | (simp only[↓M2,M2,Mb,reduceIte]) | (with_reducible first | refine ld aS aL aR ?_ | refine X7 aS aL aR ?_ | refine Y2 aS aL aR ?_ | refine Q8 aL ?_ | refine Z9 aR ?_ | refine Z0 aS ?_ | refine O4 aS aL ?_ | refine U5 aS aR ?_ | refine Y7 aS aR aR (Rep.one (by assumption)) ?_ | refine U7 aS aR aR aR ?_ | refine Sq au au au ?_ | refine Zj au au au ?_ | (refine Z8 (fun hh=>?_) (fun hh=>?_)<;>(try simp only[hh,Bool.not_true,Bool.not_false,↓M2,M2,Mb,reduceIte])) | (refine Q7 (fun hh=>?_) (fun hh=>?_)<;>(try simp only[hh,Bool.not_true,Bool.not_false,↓M2,M2,Mb,reduceIte])))))
  all_goals exact aF)
end Go.Proofs.YtjdiakhipmggjaaGreatDoor

namespace Go.Kd
def brk (b:UInt8):Bool:=[(91:UInt8),93].contains b
def Q1w:Nat→X0→X0
 | 0,s=>s
 | n+1,s=>match s.getLast? with
  | some b=>if brk b then Q1w n (s.take (s.length-1)) else s
  | none=>s
def Hj (s:X0):X0:=Q1w s.length s
theorem Q82: ∀(n m:Nat) (s:X0),s.length≤n→s.length≤m→Q1w n s=Q1w m s:=by
 intro n
 induction n with
 | zero=>
  intro m s h _
  have:s=[]:=List.eq_nil_of_length_eq_zero (by omega)
  subst this
  cases m<;>rfl
 | succ n a=>
  intro m s h d
  cases m with
  | zero=>
   have:s=[]:=List.eq_nil_of_length_eq_zero (by omega)
   subst this;rfl
  | succ m=>
   simp only[Q1w]
   cases c:s.getLast? with
   | none=>rfl
   | some b=>
    simp only
    split
    ·exact a m _ (by rw[List.length_take];omega) (by rw[List.length_take];omega)
    ·rfl
theorem Q1K (s:X0):Hj s=match s.getLast? with | some b=>if brk b then Hj (s.take (s.length-1)) else s | none=>s:=by
 unfold Hj
 cases d:s with
 | nil=>rfl
 | cons c r=>
  rw[←d]
  obtain ⟨n,e⟩: ∃n,s.length=n+1:=⟨r.length,by rw[d];rfl⟩
  have a:s.length-1=n:=by omega
  rw[e]
  simp only[Q1w,a]
  cases f:s.getLast? with
  | none=>rfl
  | some b=>
   simp only
   split
   ·rw[show n+1-1=n by omega];exact Q82 n (s.take n).length _ (by rw[List.length_take];omega) (Nat.le_refl _)
   ·rfl
theorem X0a {s:X0} (h:name s=true): ∃b,s.getLast?=some b∧C2 b.toNat=true:=by
 cases s with
 | nil=>simp[name] at h
 | cons c r=>
  refine ⟨(c::r).getLast (by simp),List.getLast?_eq_some_getLast (by simp),?_⟩
  simp only[name,Bool.and_eq_true,List.all_eq_true] at h
  exact h.2 _ (List.getLast_mem _)
theorem Q9c {b:UInt8} (h:C2 b.toNat=true):brk b=false:=by
 have a:b≠91:=by rintro rfl;revert h;decide
 have c:b≠93:=by rintro rfl;revert h;decide
 simp[brk,a,c]
theorem Ml {s:X0} (h:(plain s||M9 s)=true):name s=true:=by
 simp only[Bool.or_eq_true] at h
 rcases h with h | h
 ·simp only[plain,Bool.or_eq_true,decide_eq_true_eq] at h
  rcases h with (h | h) | h<;>subst h<;>decide
 ·cases s with
  | nil=>simp[M9] at h
  | cons c r=>simp only[M9,Bool.and_eq_true] at h;exact h.1
end Go.Kd
namespace Go.Proofs.YtjdiakhipmggjaaGreatDoor
open Go.Emb Go.RowKit Go.Kd Go.Hm
variable {w : World} {K : Value → World → Prop} {σ : Q6} {v : Value} {l : List Cla}
theorem X0y {s:X0} (h:arr s=true):Hj s=Hj (Kd.cutA s):=by
 have b:2≤s.length∧s.drop (s.length-2)=[91,93]:=by simpa [arr] using h
 obtain ⟨g,c⟩:=b
 have a:s=Kd.cutA s++[91,93]:=by unfold Kd.cutA;rw[←c,List.take_append_drop]
 have i:(Kd.cutA s).length+2=s.length:=by unfold Kd.cutA;rw[List.length_take];omega
 have d:s.getLast?=some 93:=by rw[a];simp
 have f:s.take (s.length-1)=Kd.cutA s++[91]:=by
  conv=>lhs;rw[a]
  rw[List.take_append,List.length_append]
  simp
  exact List.take_of_length_le (by omega)
 rw[Q1K s,d]
 simp only[show brk 93=true from rfl,if_true,f]
 rw[Q1K]
 have e:(Kd.cutA s++[91]).getLast?=some 91:=by simp
 rw[e]
 simp only[show brk 91=true from rfl,if_true]
 congr 1
 simp
theorem X08 {s:X0}:(plain (base s).1||M9 (base s).1)=true→Hj s=(base s).1:=by
 have key: ∀(n:Nat) (s:X0),s.length≤n→(plain (base s).1||M9 (base s).1)=true→Hj s=(base s).1:=by
  intro n
  induction n with
  | zero=>
   intro s h a
   have:s=[]:=List.eq_nil_of_length_eq_zero (by omega)
   subst this;rfl
  | succ n f=>
   intro s h a
   by_cases c:arr s=true
   ·have d:base s=((base (Kd.cutA s)).1,(base (Kd.cutA s)).2+1):=by rw[Xu s,c];simp
    rw[d] at a⊢
    rw[X0y c]
    exact f _ (by have:=K7 c;omega) a
   ·have d:base s=(s,0):=by rw[Xu s,eq_false_of_ne_true c];simp
    rw[d] at a⊢
    obtain ⟨b,e,g⟩:=X0a (Ml a)
    rw[Q1K,e]
    simp[Q9c g]
 exact key _ s (Nat.le_refl _)
instance z_asciiSet:TZ P T.ab 256 256 (.agg (Array.replicate 256 (.bool false))):=⟨by kernel_rfl⟩
theorem Q6Y (h: ∀w',Below w.heap.size w w'→K (.tuple #[.agg (Lib.setCells [91,93]), .bool true]) w'):Q1 P F.ci [S [91,93]] w K:=by
 refine Wu (fn:=Tryz.f157) Tryz.func157 (by kernel_rfl) (by kernel_rfl) (Calls.mono (Tryz.strings_makeASCIISet (fun w=>Zl z_asciiSet w) ⟨[91,93].toArray⟩ w (by decide) (by
  intro j b a
  have:b∈[(91:UInt8),93]:=List.mem_of_getElem? a
  simp at this;rcases this with rfl | rfl<;>decide)) ?_)
 rintro e w' ⟨rfl,rfl⟩
 exact h _ ((Below.refl _ _).alloc (Nat.le_refl _) _)
theorem Q34 {q:Addr} {b:UInt8} (a:X3 w σ) (c:Z4 σ q (Lib.setCells [91,93]).toList) (h:K (.bool (brk b)) w):Q1 P F.az [.pointer (some q), .int .u8 b.toNat] w K:=Of (by
 unfold Xd
 rw[L9]
 have d:=b.toNat_lt
 rw[Q93 (by omega) (by omega)]
 refine ld a c ?_ h
 have:=Lib.setCells_at [91,93] b
 rw[←Array.getElem?_toList] at this
 simpa [brk] using this)
theorem Q2A {q:Addr} {s:X0} (k:X3 w σ) (j:s.length≤U1) (n:Z4 σ q (Lib.setCells [91,93]).toList) (h:K (S (Hj s)) w):Q1 P F.aq [S s, .pointer (some q)] w K:=Su (by
 unfold Jq
 refine U6 ?_
 refine Wk (fun x w'=>w'=w∧ ∃u:X0,x=S u∧u.length≤U1∧Hj u=Hj s) (fun x _=>(sOf x).length) ⟨rfl,s,rfl,j,rfl⟩ ?_
 rintro _ d _ ⟨rfl,u,rfl,e,f⟩
 have g:sOf (S u)=u:=by simp[sOf]
 simp only[g]
 refine Gh X8 ?_
 refine Q1C ?_
 refine Q7 (fun hh=>?_) (fun hh=>?_)
 ·have m:0<u.length:=by simpa using hh
  have o:u.length≤9223372036854775807:=Nat.le_trans e (by decide)
  refine Gh X8 ?_
  refine Zm ⟨by omega,by omega⟩ ?_
  have i:((u.length:Int)-1).toNat=u.length-1:=by omega
  rw[Xs X8 (by omega) (by omega)]
  simp only[i]
  have b:u.getLast?=some (u[u.length-1]'(by omega)):=by rw[List.getLast?_eq_getElem?,List.getElem?_eq_getElem]
  have a:=Q1K u
  rw[b] at a
  simp only at a
  refine Q34 k n ?_
  cases c:brk (u[u.length-1]'(by omega)) with
  | true=>
   rw[c] at a
   simp only[↓M1,M1,Mb,reduceIte]
   rw[G8 (by omega) (by omega),T3 X8 (by omega) (by omega)]
   simp only[i]
   refine ⟨⟨trivial,_,rfl,by rw[List.length_take];omega,?_⟩,?_⟩
   ·rw[←f,a];simp
   ·have:sOf (S (u.take (u.length-1)))=u.take (u.length-1):=by simp[sOf]
    simp only[this,List.length_take];omega
  | false=>
   rw[c] at a
   simp only[↓M1,M1,Mb,reduceIte]
   intro _
   rw[←f,a] at h
   simpa using h
 ·have m: ¬0<u.length:=by simpa using hh
  have:u=[]:=List.eq_nil_of_length_eq_zero (by omega)
  subst this
  intro _
  rw[←f] at h
  exact h)
theorem Q6G {s:X0} (hs:X3 w σ) (hl:s.length≤U1) (h: ∀w' σ',Stp w σ w' σ'→K (S (Hj s)) w'):Q1 P F.bI [S s,S [91,93]] w K:=Ah (by
 unfold Ot
 by_cases hs0:s=[]
 ·subst hs0
  (repeat' (first | (with_reducible intro _) | (with_reducible refine U6 ?_) | (simp only[↓M2,M2,Mb,reduceIte]) | (with_reducible first | refine ld aS aL aR ?_ | refine X7 aS aL aR ?_ | refine Y2 aS aL aR ?_ | refine Q8 aL ?_ | refine Z9 aR ?_ | refine Z0 aS ?_ | refine O4 aS aL ?_ | refine U5 aS aR ?_ | refine Y7 aS aR aR (Rep.one (by assumption)) ?_ | refine U7 aS aR aR aR ?_ | (refine Z8 (fun hh=>?_) (fun hh=>?_)<;>(try simp only[hh,Bool.not_true,Bool.not_false,↓M2,M2,Mb,reduceIte])) | (refine Q7 (fun hh=>?_) (fun hh=>?_)<;>(try simp only[hh,Bool.not_true,Bool.not_false,↓M2,M2,Mb,reduceIte])))))
  all_goals first | exact h _ _ (by (repeat (first | exact Stp.refl (by (first | assumption | exact Stp.sat (by assumption) | exact Hst.sat (by assumption))) | assumption | refine Stp.trans ?_ (by first | assumption | exact Hst.stp (by assumption))))) | (exfalso;simp_all)
 have d1:decide (s=[])=false:=decide_eq_false hs0
 simp only[d1,show decide (([91,93]:X0)=[])=false from rfl,show decide ((([91,93]:X0).length:Int)=1)=false from rfl,↓M1,M1,Mb,reduceIte]
 refine Q6Y (L1 hs fun w1 σ1 hk1=>?_)
 simp only[↓M1,M1,Mb,reduceIte]
 have hsz:(Lib.setCells [91,93]).toList.length=256:=by rw[Array.length_toList];exact Lib.setCells_size _
 have hone: ∀u∈(Lib.setCells [91,93]).toList,u.oneCell'=true:=by
  have:=Lib.setCells_one [91,93]
  rw[Array.all_eq_true'] at this
  intro u hu;exact this u (by simpa using hu)
 have htr: ∀{w:World} {σ:Q6} {K:Value→World→Prop} {q:Addr},X3 w σ→Z4 σ q (Lib.setCells [91,93]).toList→K (S (Hj s)) w→Q1 P F.aq [S s, .pointer (some q)] w K:=fun hs hq h=>Q2A hs hl hq h
 have hta:Lib.setCells [91,93]=(Lib.setCells [91,93]).toList.toArray:=Array.toArray_toList.symm
 generalize (Lib.setCells [91,93]).toList=cs at*
 rw[hta]
 refine Y7 hk1.sat (by show (Array.replicate 256 (Value.bool false)).size=256;exact Array.size_replicate) hsz hone fun q w2 σ2 hk2 hq=>?_
 refine htr hk2.sat hq ?_
 exact h _ _ (hk1.trans hk2))
theorem Q1d {s:X0} (hs:X3 w σ) (ht:Tab σ v l) (hl:s.length≤U1) (h: ∀w' σ',Stp w σ w' σ'→K (.bool (O3 l s)) w'):Q1 P F.s [v,S s] w K:=Q08 (by
 unfold Oz
 unfold O3 at h
 refine P7 ?_
 refine Q7 (fun hh=>?_) (fun hh=>?_)
 ·have e:decide (s=R0)=true:=hh
  rw[e] at h
  exact h _ _ (Stp.refl hs)
 ·have e:decide (s=R0)=false:=hh
  rw[e] at h
  refine Q6G hs hl fun w1 σ1 hk1=>?_
  refine Zq s (Nat.le_trans hl (by decide)) (L1 hk1.sat fun w2 σ2 hk2=>?_)
  cases hr:right s with
  | false=>
   rw[hr] at h
   (repeat' (first | (with_reducible intro _) | (with_reducible refine U6 ?_) | (simp only[↓M2,M2,Mb,reduceIte]) | (with_reducible first | refine ld aS aL aR ?_ | refine X7 aS aL aR ?_ | refine Y2 aS aL aR ?_ | refine Q8 aL ?_ | refine Z9 aR ?_ | refine Z0 aS ?_ | refine O4 aS aL ?_ | refine U5 aS aR ?_ | refine Y7 aS aR aR (Rep.one (by assumption)) ?_ | refine U7 aS aR aR aR ?_ | (refine Z8 (fun hh=>?_) (fun hh=>?_)<;>(try simp only[hh,Bool.not_true,Bool.not_false,↓M2,M2,Mb,reduceIte])) | (refine Q7 (fun hh=>?_) (fun hh=>?_)<;>(try simp only[hh,Bool.not_true,Bool.not_false,↓M2,M2,Mb,reduceIte])))))
   all_goals exact aF
  | true=>
   rw[hr] at h
   have hr2:(plain (base s).1||M9 (base s).1)=true:=by
    simp only[right,Bool.and_eq_true] at hr;exact hr.2
   rw[X08 hr2]
   (repeat' (first | (with_reducible intro _) | (with_reducible refine U6 ?_) | (simp only[↓M2,M2,Mb,reduceIte]) | (with_reducible first | refine ld aS aL aR ?_ | refine X7 aS aL aR ?_ | refine Y2 aS aL aR ?_ | refine Q8 aL ?_ | refine Z9 aR ?_ | refine Z0 aS ?_ | refine O4 aS aL ?_ | refine U5 aS aR ?_ | refine Y7 aS aR aR (Rep.one (by assumption)) ?_ | refine U7 aS aR aR aR ?_ | refine Rm _ ?_ | refine Q8h au au ?_ | (refine Z8 (fun hh=>?_) (fun hh=>?_)<;>(try simp only[hh,Bool.not_true,Bool.not_false,↓M2,M2,Mb,reduceIte])) | (refine Q7 (fun hh=>?_) (fun hh=>?_)<;>(try simp only[hh,Bool.not_true,Bool.not_false,↓M2,M2,Mb,reduceIte])))))
   all_goals exact aF)
end Go.Proofs.YtjdiakhipmggjaaGreatDoor

namespace Go.Emb
open Go.RowKit Go.Hm
variable {P : Program} {w w0 w1 w' w'' : World} {K : Value → World → Prop} {σ σ0 σ1 σ' : Q6}
theorem Q4l (m:List (List UInt8×Value)) (k n:List UInt8) (v:Value):C8 (Ww m k v) n=if k=n then some v else C8 m n:=by
 induction m with
 | nil=>simp[Ww,C8]
 | cons p r b=>
  simp only[Ww]
  by_cases h:p.1=k
  ·rw[if_pos h]
   simp only[C8]
   by_cases a:k=n
   ·simp[a]
   ·rw[if_neg a,if_neg a,if_neg (by rw[h];exact a)]
  ·rw[if_neg h]
   simp only[C8]
   by_cases a:p.1=n
   ·rw[if_pos a,if_pos a,if_neg (by intro e;exact h (a.trans e.symm))]
   ·rw[if_neg a,if_neg a];exact b
theorem J7.shift {B sz:Nat} {e:TypeId} {v:Value} {xs:List (List UInt8)} (h:J7 B e sz U8 σ w v xs) (m: ∀k,v.ownBlock=some k→σ' k=none):J7 B e sz U8 σ' w v xs:=by
 obtain ⟨a,i,rfl,n,q,c,o⟩:=h
 refine ⟨a,i,rfl,n,q,fun b d=>⟨(c b d).1,(c b d).2.1,(c b d).2.2.1,m _ (by subst d;rfl)⟩,fun p=>?_⟩
 obtain ⟨g,j,f,rfl,u,y,r,s,t⟩:=o p
 exact ⟨g,j,f,rfl,u,m g rfl,r,s,t⟩
theorem Kpt.sat {D:Nat→Prop} (a:X3 w σ) (c:Kpt D w w') (d: ∀k,D k→σ k=none):X3 w' σ:=fun b o e=>by
 rw[c.block b (a.lt e) fun h=>by rw[d b h] at e;cases e];exact a b o e
theorem Nxt.kpt {D D':Nat→Prop} (h:Nxt D w σ w' σ') (a:Kpt D' w' w'') (c: ∀k,D' k→D k) (b: ∀k,D' k→σ' k=none):Nxt D w σ w'' σ':=
 ⟨h.kp.trans (a.mono fun k _ h=>c k h),h.le,h.old,a.sat h.sat b⟩
theorem X3v {t N:TypeId} {e:TypeId} {m:Nat} {z:Value} {cs:List Bool} [ts:TS P t e] [tz:TZ P e 1 m z] {B:Nat} {A:World} {d σ':Q6} {i u:Value} {xs:List (List UInt8)} {s:List UInt8}
 (C:J7 B e 1 U8 d A i xs) (hB:B≤A.heap.size) (Q:J7 B e 1 U8 d w1 i xs) (n:Nxt (fun k=>i.ownBlock=some k) A d w1 σ') (L:Sl 1 U8 σ' u [s]) (J:(z.cells.size==1&&decide (0<1))=true)
 (j:(xs.length+1)*m≤140737488355328) (R:xs.length+1≤1000000000000):
 X2 P .append [t,t] N cs [i,u] w1 (dk (Gm B e 1 U8 d i xs s) (VQa A.heap.size B e 1 U8 d i xs s) w1):=by
 have q: ∀k,i.ownBlock=some k→σ' k=none:=fun k c=>(n.old k (C.mem c).2.1).trans (C.mem c).2.2
 refine Q8D n.sat (Nat.le_trans hB n.kp.size) (Q.shift q) L J (by simpa using j) (by simpa using R) fun W O D M y f=>?_
 have b:J7 B e 1 U8 d O W (xs++[s]):=y.shift fun k c=>by
  have:=(y.mem c).2.2
  cases hh:d k with
  | none=>rfl
  | some o=>rw[n.le.le _ _ hh] at this;cases this
 refine ⟨⟨D.mono fun k _ h=>h.1,fun h=>?_,fun a g H h=>?_⟩,b,?_⟩
 ·rcases f with ⟨a,g,p,r⟩ | ⟨j,_⟩
  ·rw[r] at b;rw[p];exact b.pre rfl
  ·exact h.below j
 ·rcases f with ⟨Y,E,p,r⟩ | ⟨j,_⟩
  ·rw[p] at H;injection H with X q2 V
   subst X V
   rw[r] at b;exact b
  ·exact h.below j
 ·rcases f with ⟨a,g,p,r⟩ | ⟨j,U⟩
  ·exact .inl ⟨a,g,p,r⟩
  ·exact .inr ⟨fun k c=>Nat.le_trans n.kp.size (U k c),fun k c=>(C.mem c).2.1⟩
end Go.Emb
namespace Go.Hm
open Go.Kd
def Mc (l:List Cla) (n:X0):List Cla:=(I1 l n).filterMap (lk l)
theorem Q6P {l:List Cla} (h: ∀c∈l,Qo c) (a:List X0):weigh l a≤l.length*1000001:=by
 unfold weigh
 induction l with
 | nil=>simp
 | cons c r d=>
  have e:=d fun c b=>h c (by simp[b])
  have f:=(h c (by simp)).1
  simp only[List.map_cons,List.sum_cons,List.length_cons,Nat.add_mul]
  have g:(U3 c).length=c.like.length+1:=rfl
  split<;>omega
end Go.Hm
namespace Go.Proofs.YtjdiakhipmggjaaGreatDoor
open Go.Emb Go.RowKit Go.Kd Go.Hm
variable {w : World} {K : Value → World → Prop} {σ : Q6} {v : Value} {l : List Cla}
theorem Q79 {β:Type} {n:X0} {f:Value} (L:β→Cla→Bool×β) (s0:β) (O:β→World→Prop) (D:Nat→Prop) (hs:X3 w σ) (ht:Tab σ v l) (hl:l.length≤100000) (bp: ∀c∈l,Qo c) (hn:n.length≤U1)
 (hD: ∀k,D k→k<w.heap.size∧σ k=none) (am: ∀s w1 w2,O s w1→(∀k,D k→w2.heap[k]? =w1.heap[k]?)→O s w2) (h0:O s0 w)
 (hf: ∀s c cs (w1:World) (σ1:Q6) (K:Value→World→Prop),SLe σ σ1→X3 w1 σ1→(∀k,D k→σ1 k=none)→O s w1→V0 σ1 c cs→lk l c.name=some c→(∀w',Kpt D w1 w'→O (L s c).2 w'→K (.bool (L s c).1) w')→Z3 P f [.agg cs.toArray] w1 K)
 (h: ∀w' σ',Nxt D w σ w' σ'→O (J5 L s0 (Mc l n) 0).2 w'→K (.bool (J5 L s0 (Mc l n) 0).1.isSome) w'):Q1 P F.x [v,S n,f] w K:=Ic (by
 unfold Mv
 refine Zf (R:=U8) (sz:=1) (xs:=[n]) (Stp.refl hs) [S n] rfl rfl (by simp;rfl) rfl ⟨⟨rfl,hn⟩,trivial⟩ fun x0 w1 aq bf _=>?_
 refine Q3e aq.sat fun r w2 hr ac b4=>?_
 have cl:=J7.of_acc (bf.up ac)
 have bw:=aq.trans ac
 have b1:w.heap.size≤r:=Nat.le_trans aq.bel.size hr
 have bz: ∀b,weigh l b≤100001000000:=fun b=>by
  have:=Q6P bp b
  have h2:l.length*1000001≤100000*1000001:=Nat.mul_le_mul_right _ hl
  omega
 refine Kv (fun d x w1=> ∃(C b:List X0) (s:β) (σ1:Q6) (m:List (X0×Value)),d=C.length+weigh l b∧d≤1+weigh l []∧Nxt D w σ w1 σ1∧J7 w.heap.size T.c 1 U8 σ1 w1 x C∧C6 σ1 w1 r m∧(∀k,(C8 m k).isSome=decide (k∈b))∧x.ownBlock≠some r∧O s w1∧
  I1 l n=Vb (lk l) d C b∧(∃i,J5 L s0 (Mc l n) 0=J5 L s (((I1 l n).drop b.length).filterMap (lk l)) i)) (1+weigh l []) ?_ ?_
 ·refine ⟨[n],[],s0,σ,[],by simp,Nat.le_refl _,Nxt.of_stp bw,cl,b4,by simp[C8],?_,am _ _ _ h0 fun k o=>bw.bel.block k (hD k o).1,rfl,0,by simp[Mc]⟩
  intro e
  have:=bf.mem r e
  omega
 rintro a2 d x dd w3 ⟨C,b,s,σ3,m,hd,df,A,az,ae,Q,cb,a4,hv,i,y⟩ bv
 have cv:=bz []
 have a7:=A.sat
 obtain ⟨a3,B⟩:=Q1H (lk l) d C b
 rw[←hv] at B
 have af:(I1 l n).drop b.length=a3:=by rw[B];simp
 rw[af] at y
 refine Q1x az ?_
 refine Q1C ?_
 cases ad:C with
 | nil=>
  subst ad
  refine Q7 (fun hh=>absurd (of_decide_eq_true hh) (by simp)) (fun _=>?_)
  have:I1 l n=b:=by rw[hv];cases d<;>rfl
  have hp:a3=[]:=by rw[this] at B;simpa using B
  rw[hp] at y
  rw[y] at h
  exact h _ _ A a4
 | cons t g=>
  subst ad
  refine Q7 (fun _=>?_) (fun hh=>absurd (of_decide_eq_false hh) (by simp))
  simp only[List.length_cons] at hd
  refine Q6f (n:=0) az (by simp) fun a cs Z h2 h3=>?_
  obtain ⟨rfl,ce⟩:=h3
  simp only[List.getElem_cons_zero] at Z ce
  have X:=Z 0 _ rfl
  rw[add_zero] at X
  refine Qi X ?_
  refine X45 az 1 (by simp) fun x' aa bs=>?_
  simp only[List.drop_succ_cons,List.drop_zero] at aa
  have J:x'.ownBlock≠some r:=by
   rcases bs with e | e<;>rw[e]
   ·exact cb
   ·simp
  rw[Q2y X8 ae.2 t]
  have cc:d=(g.length+weigh l b)+1:=by omega
  have p:=hv
  rw[cc] at p
  simp only[Vb] at p
  have skip:(lk l t=none∨t∈b)→I1 l n=Vb (lk l) (g.length+weigh l b) g b:=by
   rintro (e | e)
   ·rw[e] at p;exact p
   ·cases e2:lk l t with
    | none=>rw[e2] at p;exact p
    | some c=>rw[e2] at p;simp only[if_pos e] at p;exact p
  have Y:(lk l t=none∨t∈b)→a2 x' w3:=fun b5=>
   bv (g.length+weigh l b) x' w3 (by omega) ⟨g,b,s,σ3,m,rfl,by omega,A,aa,ae,Q,J,a4,skip b5,i,by rw[af];exact y⟩
  have ar:=ht.lift A.le
  have U:=Q t
  cases bl:C8 m t with
  | some u=>
   rw[bl] at U
   have al:t∈b:=by simpa using U
   simp only[↓M2,M2,Mb,reduceIte]
   exact Y (.inr al)
  | none=>
   rw[bl] at U
   have al:t∉b:=by simpa using U
   simp only[↓M2,M2,Mb,reduceIte]
   cases H:lk l t with
   | none=>
    refine Q0L a7 ar H ?_
    simp only[↓M2,M2,Mb,reduceIte]
    exact Y (.inl H)
   | some c=>
    obtain ⟨ax,bi,_⟩:=V3 H
    refine Sq a7 ar H ?_
    simp only[↓M2,M2,Mb,reduceIte]
    refine Ik X8 ae t (I 1) fun w4 bg b9=>?_
    have ag:Kpt (fun k=>k=r) w3 w4:=Kpt.of_upd bg rfl
    have b8:X3 w4 σ3:=ag.sat a7 fun k o=>by rw[o];exact ae.1
    have bb:=aa.kp ag fun k o e=>J (e▸o)
    have co:=am _ _ _ a4 fun k o=>bg.block k (by have:=(hD k o).1;omega)
    have cy:r<w3.heap.size:=ae.lt
    refine Zj b8 ar H fun lv fv mv w5 σ5 bo f1 f2 f3 f4 f5 bc=>?_
    refine Y7 bo.sat (by rfl) rfl (Rep.one bc) fun q w6 M V av=>?_
    refine Y2 V.sat av rfl ?_
    have z:=bo.trans V
    have bd: ∀k,D k→k<w4.heap.size:=fun k o=>by
     have Z:=(hD k o).1
     have h2:=A.kp.size
     have h3:=ag.size
     omega
    have cg:=am _ _ _ co fun k o=>z.bel.block k (bd k o)
    have a1:SLe σ M:=A.le.more ⟨z.le⟩
    have bh: ∀k,D k→M k=none:=fun k o=>by
     rw[z.old k (bd k o),A.old k (hD k o).1];exact (hD k o).2
    refine hf s c _ w6 M _ a1 V.sat bh cg (RCl_lift bc ⟨V.le⟩) (by rw[ax];exact H) fun w7 aj bn=>?_
    have bu:X3 w7 M:=aj.sat V.sat bh
    have ai:Nxt D w σ w7 M:=⟨((A.kp.more ag fun j e=>by rw[e];exact b1).trans (Kpt.of_below z.bel)).trans aj,a1,fun k o=>by
     rw[z.old k (by have:=A.kp.size;have:=ag.size;omega)];exact A.old k o,bu⟩
    have ap: ∀k,w.heap.size≤k→ ¬D k:=fun k o e=>by have:=(hD k e).1;omega
    have W:=(bb.up z).kp aj fun k o=>ap k ((bb.mem o).1)
    have b0:=(b9.up z).kp aj (ap r b1)
    have bq: ∀k,(C8 (Ww m t (I 1)) k).isSome=decide (k∈b++[t]):=fun k=>by
     rw[Q4l]
     by_cases e:t=k
     ·subst e;simp
     ·rw[if_neg e,Q k];simp[Ne.symm e]
    rw[H] at p
    simp only[if_neg al] at p
    obtain ⟨br,a0⟩:=Q1H (lk l) (g.length+weigh l b) (g++U3 c) (b++[t])
    have bm:a3=t::br:=by
     have:=B.symm.trans (p.trans a0)
     simpa using this
    rw[bm] at y
    simp only[List.filterMap_cons,H,J5] at y
    cases E:(L s c).1 with
    | true=>
     rw[E] at y
     simp only[if_true] at y
     refine J6 ?_
     have:=h w7 M ai
     rw[y] at this
     exact this bn
    | false=>
     rw[E] at y
     simp only[Bool.false_eq_true,if_false] at y
     refine Z6 ?_
     have ao:w.heap.size≤w7.heap.size:=ai.kp.size
     have ab: ∀k,x'.ownBlock=some k→M k=none:=fun k o=>(W.mem o).2.2
     have hw:=Ku l b c bi (by rw[ax];exact al)
     rw[ax] at hw
     have dh:=bz b
     have cf:g.length≤100001000001:=by omega
     have cr:=(bp c bi).1
     have cx:=b0.lt
     refine Pv (Gm w.heap.size T.c 1 U8 M x' g c.super) (fun w1=>Kpt (fun k=>x'.ownBlock=some k) w7 w1∧X3 w1 M∧J7 w.heap.size T.c 1 U8 M w1 x' g)
      ⟨.of_below (Below.refl _ _).drew,bu.below (Below.refl _ _).drew,W.below (Below.refl _ _).drew⟩ (fun w1 w2 E ht=>⟨E.1.trans ht.1,ht.1.sat E.2.1 ab,ht.2.1 E.2.2⟩) ?_
     refine X4 (.pointer (some (q.add 1))) (fun w E=>by rw[fa];exact ⟨Gm.refl,rfl⟩) ?_
     refine X4 (.pointer (some (q.add 2))) (fun w E=>by rw[fa];exact ⟨Gm.refl,rfl⟩) ?_
     refine X4 (S c.super) (fun t w E e=>by rw[e];exact ld E.2.1 av rfl ⟨Gm.refl,rfl⟩) ?_
     refine H2 (fun u w1=> ∃σ',Nxt (fun k=>x'.ownBlock=some k) w7 M w1 σ'∧Sl 1 U8 σ' u [c.super]) (fun u w1 w2 e ht=>by obtain ⟨σ',Z,h2⟩:=e;exact ⟨σ',Z.kpt ht.1 (fun _ o=>o) (fun k o=>(Z.old k (W.mem o).2.1).trans (ab k o)),h2⟩) (fun t w1 E e=>?_) ?_
     ·rw[e]
      refine T4 (R:=U8) (sz:=1) E.2.1 [S c.super] [c.super] rfl rfl (by simp;rfl) rfl ⟨⟨rfl,f5⟩,trivial⟩ fun u w2 σ2 ac hu=>?_
      have b3:Nxt (fun k=>x'.ownBlock=some k) w7 M w1 M:=⟨E.1,SLe.refl _,fun _ _=>rfl,E.2.1⟩
      exact ⟨Gm.below ac.bel,σ2,b3.trans (Nxt.of_stp ac),hu⟩
     refine H2 (VQa w7.heap.size w.heap.size T.c 1 U8 M x' g c.super) (fun _ _ _ Z ht=>Z.stable ht) (fun u w1 E e=>?_) ?_
     ·obtain ⟨σ',Z,h2⟩:=e
      exact X3v W ao E.2.2 Z h2 rfl (by omega) (by omega)
     refine X4 lv (fun t w E e=>by rw[e];exact ld E.2.1 av rfl ⟨Gm.refl,rfl⟩) ?_
     rintro c4 c3 dm c2 cd db w8 N _ _ _ _ ⟨cn,be⟩ rfl
     have a5:cd.ownBlock≠some r:=by
      rcases be with ⟨a,cp,e1,e2⟩ | ⟨e1,_⟩
      ·rw[e2];rw[e1] at J;cases a<;>exact J
      ·intro e;have:=e1 r e;omega
     refine Q8D N.2.1 (Nat.le_trans ao N.1.size) cn (f1.up V) rfl (by rw[List.length_append,List.length_cons,List.length_nil];omega) (by rw[List.length_append,List.length_cons,List.length_nil];omega) fun bx w9 a6 b6 cq bk=>?_
     have ci:bx.ownBlock≠some r:=by
      rcases bk with ⟨a,cp,e1,e2⟩ | ⟨_,e1⟩
      ·rw[e2];rw[e1] at a5;cases a<;>exact a5
      ·intro e;have:=e1 r e;have:=N.1.size;omega
     have ck:Nxt D w σ w9 M:=⟨(ai.kp.more N.1 fun j e=>(W.mem e).1).more a6 fun j e=>e.2.1,a1,ai.old,b6⟩
     have cm:=(b0.kp N.1 J).kp a6 fun e=>a5 e.1
     have ca:=am _ w7 w9 bn fun k o=>by
      have Z:=(hD k o).1
      rw[a6.block k (by have:=N.1.size;omega) fun e=>by have:=e.2.1;omega,N.1.block k (by omega) fun e=>by have:=(W.mem e).1;omega]
     have da:(g++U3 c).length=g.length+1+c.like.length:=by simp[U3];omega
     have cu:(U3 c).length=c.like.length+1:=rfl
     have ay:Vb (lk l) (g.length+weigh l b) (g++U3 c) (b++[t])=Vb (lk l) ((g++U3 c).length+weigh l (b++[t])) (g++U3 c) (b++[t]):=by
      have:=X0q l ((g++U3 c).length+weigh l (b++[t])) (g++U3 c) (b++[t]) (Nat.le_refl _) (g.length+weigh l b-((g++U3 c).length+weigh l (b++[t])))
      rw[←this];congr 1;omega
     refine bv ((g++U3 c).length+weigh l (b++[t])) bx w9 (by omega) ⟨g++U3 c,b++[t],(L s c).2,M,_,rfl,by omega,ck,?_,cm,bq,ci,ca,p.trans ay,i+1,?_⟩
     ·have:g++U3 c=(g++[c.super])++c.like:=by simp[U3]
      rw[this];exact cq
     ·rw[y,B,bm];simp)
end Go.Proofs.YtjdiakhipmggjaaGreatDoor

namespace Go.Emb
open Go.RowKit Go.Hm
theorem Nxt.stp {w w':World} {σ a:Q6} (h:Nxt (fun _=>False) w σ w' a):Stp w σ w' a:=⟨h.kp.below fun _=>id,h.sat,h.le.le,h.old⟩
end Go.Emb
namespace Go.Hm
open Go.Kd Go.Emb
theorem Q4J {α:Type} (p:α→Bool): ∀(xs:List α) (i:Nat),(J5 (fun (_:Unit) x=>(p x,())) () xs i).1.isSome=xs.any p
 | [],_=>rfl
 | x::r,i=>by
  simp only[J5,List.any_cons]
  cases p x with
  | true=>simp
  | false=>simpa using Q4J p r (i+1)
theorem Q57 {l:List Cla} (n b:X0):((Mc l n).any fun c=>decide (c.name=b))=(I1 l n).contains b:=by
 have key: ∀vs:List X0,(∀x∈vs,∃c,lk l x=some c)→((vs.filterMap (lk l)).any fun c=>decide (c.name=b))=vs.contains b:=by
  intro vs
  induction vs with
  | nil=>intro _;rfl
  | cons x r d=>
   intro h
   obtain ⟨c,a⟩:=h x (by simp)
   rw[List.filterMap_cons,a]
   simp only[List.any_cons,List.contains_cons]
   rw[d fun y f=>h y (by simp[f]),(V3 a).1]
   congr 1
   rw[Bool.eq_iff_iff,beq_iff_eq,decide_eq_true_eq];exact ⟨Eq.symm,Eq.symm⟩
 exact key _ fun x e=>(Uz.1 e).right
end Go.Hm
namespace Go.Proofs.YtjdiakhipmggjaaGreatDoor
open Go.Emb Go.RowKit Go.Kd Go.Hm
variable {w : World} {K : Value → World → Prop} {σ : Q6} {v : Value} {l : List Cla}
theorem Q7a {n:X0} {f:Value} (p:Cla→Bool) (hs:X3 w σ) (ht:Tab σ v l) (hl:l.length≤100000) (hsm: ∀c∈l,Qo c) (hn:n.length≤U1)
 (hf: ∀c cs (w1:World) (σ1:Q6) (K:Value→World→Prop),SLe σ σ1→X3 w1 σ1→V0 σ1 c cs→(∀w' σ',Stp w1 σ1 w' σ'→K (.bool (p c)) w')→Z3 P f [.agg cs.toArray] w1 K)
 (h: ∀w' σ',Stp w σ w' σ'→K (.bool ((Mc l n).any p)) w'):Q1 P F.x [v,S n,f] w K:=by
 refine Q79 (fun (_:Unit) c=>(p c,())) () (fun _ _=>True) (fun _=>False) hs ht hl hsm hn (fun _ e=>e.elim) (fun _ _ _ _ _=>trivial) trivial (fun s c cs w1 σ1 K le hs1 _ _ hr _ hK=>hf c cs w1 σ1 K le hs1 hr fun w' σ' hk=>hK w' (.of_below hk.bel) trivial) fun w' σ' hn _=>?_
 rw[Q4J]
 exact h w' σ' hn.stp
theorem X0I {n b:X0} {q:Addr} (hs:X3 w σ) (ht:Tab σ v l) (ok:Ok l) (hn:n.length≤U1) (hq:Z4 σ q [S b]) (h: ∀w' σ',Stp w σ w' σ'→K (.bool ((I1 l n).contains b)) w'):
 Q1 P F.x [v,S n, .func (.func F.bp) #[] #[.pointer (some q)]] w K:=by
 refine Q7a (fun c=>decide (c.name=b)) hs ht ok.len ok.sm hn (fun c cs w1 σ1 K le hs1 hr hK=>Z7 (Kf ?_)) (by rw[Q57];exact h)
 obtain ⟨lv,fv,mv,rfl,_⟩:=hr
 unfold Mo
 have hq1:=hq.lift le
 refine Z0 hs1 fun a w2 σ2 hk2 ha2=>?_
 (repeat' (first | (with_reducible intro _) | (with_reducible refine U6 ?_) | (simp only[↓M2,M2,Mb,reduceIte]) | (with_reducible first | refine ld aS aL aR ?_ | refine X7 aS aL aR ?_ | refine Y2 aS aL aR ?_ | refine Q8 aL ?_ | refine Z9 aR ?_ | refine Z0 aS ?_ | refine O4 aS aL ?_ | refine U5 aS aR ?_ | refine Y7 aS aR aR (Rep.one (by assumption)) ?_ | refine U7 aS aR aR aR ?_ | (refine Z8 (fun hh=>?_) (fun hh=>?_)<;>(try simp only[hh,Bool.not_true,Bool.not_false,↓M2,M2,Mb,reduceIte])) | (refine Q7 (fun hh=>?_) (fun hh=>?_)<;>(try simp only[hh,Bool.not_true,Bool.not_false,↓M2,M2,Mb,reduceIte])))))
 exact hK _ _ hk2
theorem X3X {a b:X0} (D:X3 w σ) (s:Tab σ v l) (ok:Ok l) (t:a.length≤U1) (E:b.length≤U1) (h: ∀w' H,Stp w σ w' H→K (.bool (Xo l a b)) w'):Q1 P F.bS [v,S a,S b] w K:=Q17 (by
 unfold Ei
 unfold Xo at h
 refine U5 D rfl fun q w1 σ1 j A=>?_
 refine Q1d j.sat (s.lift ⟨j.le⟩) t fun L U d=>?_
 have k:=j.trans d
 cases B:O3 l a with
 | false=>
  simp only[B,↓M2,M2,Mb,reduceIte,Bool.not_false,Bool.true_or,if_true] at h⊢
  exact h _ _ k
 | true=>
  simp only[B,↓M2,M2,Mb,reduceIte,Bool.not_true,Bool.false_or] at h⊢
  refine X7 d.sat (A.up d) rfl ?_
  refine Q1d d.sat (s.lift ⟨k.le⟩) E fun M O e=>?_
  have c:=k.trans e
  cases C:O3 l b with
  | false=>
   simp only[C,↓M2,M2,Mb,reduceIte,Bool.not_false,if_true] at h⊢
   exact h _ _ c
  | true=>
   simp only[C,↓M2,M2,Mb,reduceIte,Bool.not_true,Bool.false_eq_true,if_false] at h⊢
   have i:=(A.up d).up e
   refine X7 e.sat i rfl ?_
   refine P7 ?_
   by_cases g:a=b
   ·rw[if_pos g] at h
    simp only[decide_eq_true g,↓M2,M2,Mb,reduceIte]
    exact h _ _ c
   rw[if_neg g] at h
   simp only[decide_eq_false g,↓M2,M2,Mb,reduceIte]
   refine Rm a ?_
   cases z:plain a with
   | true=>
    simp only[z,↓M2,M2,Mb,reduceIte,Bool.true_or,if_true] at h⊢
    exact h _ _ c
   | false=>
    simp only[z,↓M2,M2,Mb,reduceIte,Bool.false_or] at h⊢
    refine X7 e.sat i rfl ?_
    refine Rm b ?_
    cases y:plain b with
    | true=>
     simp only[y,↓M2,M2,Mb,reduceIte,if_true] at h⊢
     exact h _ _ c
    | false=>
     simp only[y,↓M2,M2,Mb,reduceIte,Bool.false_eq_true,if_false] at h⊢
     by_cases o:a=R0
     ·rw[if_pos o] at h
      have r:decide (a=[110,117,108,108])=true:=decide_eq_true o
      simp only[r,↓M2,M2,Mb,reduceIte]
      exact h _ _ c
     rw[if_neg o] at h
     have r:decide (a=[110,117,108,108])=false:=decide_eq_false o
     simp only[r,↓M2,M2,Mb,reduceIte]
     refine Q6g a (Nat.le_trans t (by decide)) (L1 e.sat fun J N f=>?_)
     have m:=c.trans f
     have n:=i.up f
     refine Zz ?_
     by_cases p:elem a=[]
     ·rw[if_neg (by simpa using p)] at h
      simp only[decide_eq_true p,↓M2,M2,Mb,reduceIte]
      exact X0I f.sat (s.lift ⟨m.le⟩) ok t n fun Q R u=>h _ _ (m.trans u)
     ·rw[if_pos p] at h
      simp only[decide_eq_false p,↓M2,M2,Mb,reduceIte]
      refine X7 f.sat n rfl ?_
      refine P7 ?_
      exact h _ _ m)
theorem X2c {c:Cla} {cs:List Value} (hs:X3 w σ) (ht:Tab σ v l) (hl:l.length≤100000) (hsm: ∀c∈l,Qo c) (hc:V0 σ c cs) (h: ∀w' σ',Stp w σ w' σ'→K (.bool (T1 l c)) w'):Q1 P F.bj [v, .agg cs.toArray] w K:=Iw (by
 obtain ⟨lv,fv,mv,rfl,g1,g2,g3,g4,g5⟩:=hc
 unfold Me
 obtain ⟨a,_,_,_,rfl,_⟩:=ht.ex
 refine U5 hs rfl fun q w1 σ1 hk1 hq=>?_
 refine Z0 hk1.sat fun q2 w2 σ2 hk2 hq2=>?_
 rw[Qh,fa]
 have hS2:=hk1.trans hk2
 have back: ∀{n:X0} {w3:World} {σ3:Q6} {K:Value→World→Prop},SLe σ2 σ3→X3 w3 σ3→n.length≤U1→(∀w' σ',Stp w3 σ3 w' σ'→K (.bool ((I1 l n).contains c.name)) w')→
  Z3 P (.func (.func F.b8) #[] #[.pointer (some q), .pointer (some q2)]) [S n] w3 K:=by
  intro n w3 σ3 K le hs3 hn hK
  refine Z7 (Fg ?_)
  unfold We
  refine X7 hs3 ((hq.up hk2).lift le) rfl ?_
  rw[Qh]
  have le3:SLe σ σ3:=SLe.more ⟨hS2.le⟩ le
  refine Q7a (fun d=>decide (d.name=c.name)) hs3 (ht.lift le3) hl hsm hn (fun d ds w4 σ4 K le4 hs4 hr hK=>Z7 (Cg ?_)) (by rw[Q57];exact hK)
  obtain ⟨lv,fv,mv,rfl,_⟩:=hr
  unfold Jr
  have hq4:=(hq2.lift le).lift le4
  refine Z0 hs4 fun a w5 σ5 hk5 ha5=>?_
  (repeat' (first | (with_reducible intro _) | (with_reducible refine U6 ?_) | (simp only[↓M2,M2,Mb,reduceIte]) | (with_reducible first | refine ld aS aL aR ?_ | refine X7 aS aL aR ?_ | refine Y2 aS aL aR ?_ | refine Q8 aL ?_ | refine Z9 aR ?_ | refine Z0 aS ?_ | refine O4 aS aL ?_ | refine U5 aS aR ?_ | refine Y7 aS aR aR (Rep.one (by assumption)) ?_ | refine U7 aS aR aR aR ?_ | (refine Z8 (fun hh=>?_) (fun hh=>?_)<;>(try simp only[hh,Bool.not_true,Bool.not_false,↓M2,M2,Mb,reduceIte])) | (refine Q7 (fun hh=>?_) (fun hh=>?_)<;>(try simp only[hh,Bool.not_true,Bool.not_false,↓M2,M2,Mb,reduceIte])))))
  exact hK _ _ hk5
 refine ld hk2.sat hq2 rfl ?_
 unfold T1 at h
 simp only[U3,List.any_cons] at h
 refine back (SLe.refl _) hk2.sat g5 fun w3 σ3 hk3=>?_
 cases e1:(I1 l c.super).contains c.name with
 | true=>
  rw[e1] at h
  simp only[↓M2,M2,Mb,reduceIte]
  exact h _ _ (hS2.trans hk3)
 | false=>
  rw[e1,Bool.false_or] at h
  simp only[↓M2,M2,Mb,reduceIte]
  refine ld hk3.sat (hq2.up hk3) rfl ?_
  refine P8 (fun n=>(I1 l n).contains c.name) hk3.sat (((g1.up hk1).up hk2).up hk3) (fun x w4 K _ hs4 hx hK=>back ⟨hk3.le⟩ hs4 hx fun w' σ' hk=>hK _ hk.bel) fun w4 hb=>?_
  (try simp only[↓M2,M2,Mb,reduceIte])
  exact h _ _ ((hS2.trans hk3).trans (Stp.of_below hk3.sat hb)))
end Go.Proofs.YtjdiakhipmggjaaGreatDoor

namespace Go.Emb
open Go.RowKit Go.Hm
variable {P : Program} {w w0 w1 w' w'' : World} {K : Value → World → Prop} {σ σ0 σ1 σ' : Q6}
theorem Sl.at {α:Type} {R:Q6→α→List Value→Prop} {sz:Nat} {v:Value} {xs:List α} (h:Sl sz R σ v xs) {i:Nat} (k:i<xs.length):
 ∃p cs,Z4 σ p cs∧cs.length=sz∧R σ xs[i] cs∧ ∀{P:Program} {t e:TypeId} {c:Nat} {z:Value} {w:World} {K:Value→World→Prop} [TS P t e] [TZ P e sz c z],K (.pointer (some p)) w→indexAddr P t v (I i) w K:=by
 obtain ⟨a,j,rfl,r,q,m,f⟩:=h
 cases a with
 | none=>have:=m rfl;omega
 | some b=>
  obtain ⟨cs,g,d,n⟩:=(f b rfl).2 i xs[i] (by simp[k])
  refine ⟨_,cs,g,d,n,?_⟩
  intro P t e c z w K _ _ o
  rw[Cj (by omega) (by omega)]
  simpa using o
abbrev ints (xs:List Nat):List Int:=xs.map fun n:Nat=>(n:Int)
theorem V6.grow {α:Type} {R:Q6→α→List Value→Prop} [hr:Rep R] {B sz:Nat} {e:TypeId} {v:Value} {xs:List α} (h:V6 B e sz R σ w v xs) (f:SLe σ σ') (c: ∀k,v.ownBlock=some k→σ' k=none):V6 B e sz R σ' w v xs:=by
 obtain ⟨cells,a,g,b⟩:=h
 exact ⟨cells,a,c,fun i x d=>hr.up f.le (b i x d)⟩
end Go.Emb
namespace Go.Proofs.YtjdiakhipmggjaaGreatDoor
open Go.Emb Go.RowKit Go.Kd Go.Hm
variable {w : World} {K : Value → World → Prop} {σ : Q6} {v : Value} {l : List Cla}
theorem Q72 {B i:Nat} {xs:List Nat} {x:Value} (o:J7 B T.d 1 Wz σ w x (ints xs)) (h:K (.bool (decide (i∈xs))) w):Q1 P F.aI [x,I i] w K:=Eg (by
 unfold Yi
 have g:xs.length≤9223372036854775807:=by
  obtain ⟨a,s,_,m,q,_⟩:=o
  simp only[maxLen,ints,List.length_map] at q m;omega
 refine Rt ?_
 unfold Ug
 refine Q1x o ?_
 have k:(ints xs).length=xs.length:=by simp
 refine U2 xs.length (fun n w'=>w'=w∧i∉xs.take n) ⟨rfl,by simp⟩ fun n w' d u j=>?_
 obtain ⟨rfl,j⟩:=j
 rw[k]
 refine Z1 ?_
 refine Q7 (fun hh=>?_) (fun hh=>?_)
 ·have b:n<xs.length:=by simpa using hh
  refine Q6f o (by rw[k];exact b) fun a cs m q r=>?_
  obtain ⟨rfl,_⟩:=r
  have p:=m 0 _ rfl
  rw[add_zero] at p
  refine Qi p ?_
  simp only[List.getElem_map]
  refine I2 ?_
  refine Q7 (fun c=>?_) (fun c=>?_)
  ·have e:(i:Int)=xs[n]:=by simpa using c
   have:i=xs[n]:=by omega
   have f:decide (i∈xs)=true:=decide_eq_true (by rw[this];exact List.getElem_mem b)
   rw[f] at h
   refine P4 ?_
   rw[decide_eq_true (by omega:(0:Int)≤n)]
   exact h
  ·have e: ¬(i:Int)=xs[n]:=by simpa using c
   refine O5 ?_
   refine Y5 g b ⟨rfl,?_⟩
   rw[List.take_add_one,List.getElem?_eq_getElem b]
   simp only[Option.toList_some,List.mem_append,List.mem_singleton,not_or]
   exact ⟨j,fun t=>e (by rw[t])⟩
 ·have b: ¬n<xs.length:=by simpa using hh
  rw[List.take_of_length_le (by omega)] at j
  rw[decide_eq_false j] at h
  refine P4 ?_
  exact h)
theorem X3i {w0:World} {σ0 σb:Q6} {pf pt pw:Addr} {E frm:Nat} (ha:Ji l) (ho:A4 l) (hl:l.length≤100000) (b0: ∀c∈l,Qo c) (hf:0<frm) (ht:Tab σb v l) (ax:Z4 σb pf [I frm]) (bu:Z4 σb pt [v])
 (b8:Z4 σb pw [.func (.func F.z) #[] #[.pointer (some pf), .pointer (some ⟨E,0,none⟩), .pointer (some pt), .pointer (some pw)]]) (bp:w0.heap.size≤E):
 ∀(k:Nat) {i:Nat} {b:List Nat} {x:Value} {w1:World} {σ1:Q6} {K:Value→World→Prop},i<l.length→(i<frm∨P1 l (Y4 l i)<k)→SLe σb σ1→Stp w0 σ0 w1 σ1→Y3 σ1 w1 E [x]→V6 w0.heap.size T.d 1 Wz σ1 w1 x (ints b)→x.ownBlock≠some E→Few l b→
  (∀w2 σ2 x',SLe σ1 σ2→Stp w0 σ0 w2 σ2→Y3 σ2 w2 E [x']→V6 w0.heap.size T.d 1 Wz σ2 w2 x' (ints (Xt l frm b i))→x'.ownBlock≠some E→K (.tuple #[]) w2)→
  Z3 P (.func (.func F.z) #[] #[.pointer (some pf), .pointer (some ⟨E,0,none⟩), .pointer (some pt), .pointer (some pw)]) [I i] w1 K:=by
 obtain ⟨a,lv,r,m,rfl,t1,t2,t3,t4⟩:=ht.ex
 intro k
 induction k with
 | zero=>
  intro i b x w1 σ1 K hi hk O W hm s hx Z h
  have z:i<frm:=hk.resolve_right (by omega)
  refine Z7 (Wc ?_)
  unfold Qx
  refine X7 W.sat (ax.lift O) rfl ?_
  refine Z1 ?_
  rw[decide_eq_true (by omega:(i:Int)<frm)]
  simp only[↓M2,M2,Mb,reduceIte]
  have:Xt l frm b i=b:=Yn _ _ z
  rw[this] at h
  exact h _ _ _ (SLe.refl _) W hm s hx
 | succ k ih=>
  intro i b x w1 σ1 K hi hk O W hm s hx Z h
  refine Z7 (Wc ?_)
  unfold Qx
  refine X7 W.sat (ax.lift O) rfl ?_
  refine Z1 ?_
  have A:=Q7K ha ho hf b hi
  by_cases z:i<frm
  ·rw[decide_eq_true (by omega:(i:Int)<frm)]
   simp only[↓M2,M2,Mb,reduceIte]
   rw[if_pos z] at A
   rw[A] at h
   exact h _ _ _ (SLe.refl _) W hm s hx
  rw[if_neg z] at A
  rw[decide_eq_false (by omega: ¬(i:Int)<frm)]
  simp only[↓M2,M2,Mb,reduceIte]
  refine Q8F hm rfl ?_
  refine Q72 (J7.of_acc s) ?_
  by_cases V:i∈b
  ·rw[if_pos V] at A
   rw[A] at h
   simp only[decide_eq_true V,↓M2,M2,Mb,reduceIte]
   exact h _ _ _ (SLe.refl _) W hm s hx
  rw[if_neg V] at A
  simp only[decide_eq_false V,↓M2,M2,Mb,reduceIte]
  have di:P1 l (Y4 l i)<k+1:=hk.resolve_left z
  have t1:=t1.lift O
  have t2:=t2.lift O
  have t3:=t3.lift O
  have N:=bu.lift O
  obtain ⟨p,cs,ay,c4,bw,a8⟩:=t2.at hi
  obtain ⟨cd,fv,mv,rfl,f1,f2,f3,f4,f5⟩:=bw
  have av:l.getD i Cla.zero=l[i]:=by rw[List.getD_eq_getElem?_getD,List.getElem?_eq_getElem hi];rfl
  have cu:=hm.lt
  refine J9 W.sat ?_
  refine X4 (.pointer (some a)) (fun w f=>X7 f.sat N rfl (X6 rfl)) ?_
  refine X4 (.pointer (some a)) (fun t w f e=>by rw[e,L9];exact X6 rfl) ?_
  refine X4 (.pointer (some (a.add 0))) (fun t w f e=>by rw[e,fa];exact X6 rfl) ?_
  refine X4 lv (fun t w f e=>by rw[e];exact ld f.sat t1 rfl (X6 rfl)) ?_
  refine X4 (.pointer (some p)) (fun t w f e=>by rw[e];exact a8 (X6 rfl)) ?_
  refine X4 (.pointer (some (p.add 1))) (fun t w f e=>by rw[e,fa];exact X6 rfl) ?_
  refine X4 (S l[i].super) (fun t w f e=>by rw[e];exact ld f.sat ay rfl (X6 rfl)) ?_
  refine H2 (fun u w=>X3 w σ1∧V6 w0.heap.size T.c 1 U8 σ1 w u [l[i].super]∧ ∀k,u.ownBlock=some k→w1.heap.size≤k) (fun u w2 w3 h f=>⟨h.1.below f,h.2.1.up (Stp.of_below h.1 f),h.2.2⟩) (fun t w f e=>?_) ?_
  ·rw[e]
   refine Zf (R:=U8) (sz:=1) (xs:=[l[i].super]) (W.trans f.stp) [S l[i].super] rfl rfl (by simp;rfl) rfl ⟨⟨rfl,f5⟩,trivial⟩ fun u w2 a3 hu bh=>?_
   exact ⟨a3.bel,a3.sat,hu,fun k hk=>Nat.le_trans f.stp.bel.size (bh k hk)⟩
  refine X4 (.pointer (some a)) (fun w f=>X7 f.sat N rfl (X6 rfl)) ?_
  refine X4 (.pointer (some a)) (fun t w f e=>by rw[e,L9];exact X6 rfl) ?_
  refine X4 (.pointer (some (a.add 0))) (fun t w f e=>by rw[e,fa];exact X6 rfl) ?_
  refine X4 lv (fun t w f e=>by rw[e];exact ld f.sat t1 rfl (X6 rfl)) ?_
  refine X4 (.pointer (some p)) (fun t w f e=>by rw[e];exact a8 (X6 rfl)) ?_
  refine X4 (.pointer (some (p.add 2))) (fun t w f e=>by rw[e,fa];exact X6 rfl) ?_
  refine X4 cd (fun t w f e=>by rw[e];exact ld f.sat ay rfl (X6 rfl)) ?_
  rintro c7 c1 c3 cn ck dn c5 cy c8 co da dc c0 de cm w2 Q _ _ _ _ _ _ _ ⟨cx,bz,L⟩ _ _ _ _ _ _ b1
  subst b1
  have b6:=W.trans Q.stp
  have cc:=(b0 _ (List.getElem_mem hi)).1
  have a1: ∀j,x.ownBlock=some j→j<w1.heap.size:=fun j B=>(s.mem j B).2.1
  have bg:=hm.step Q.stp
  have ag:=s.step Q.stp
  refine Wl b6 bz f1 rfl (by simp only[List.length_cons,List.length_nil];omega) (by simp only[List.length_cons,List.length_nil];omega) fun a4 w3 aq b3 b2 a2=>?_
  have ab: ∀j,a4.ownBlock=some j→w1.heap.size≤j:=fun j B=>by
   rcases a2 with e | e
   ·exact L j (e▸B)
   ·exact Nat.le_trans Q.stp.bel.size (e j B)
  have ba:=bg.nx aq fun e=>by have:=L _ e;omega
  have J:=ag.nx aq fun j B e=>by have:=L _ e;have:=a1 j B;omega
  obtain ⟨σ4,cb,Y,a6,aa⟩:=b2.keep b3
  have Y:Sl 1 U8 σ4 a4 (U3 l[i]):=Y
  have bk:Y3 σ4 w3 E [x]:=⟨(aa E fun e=>by have:=ab E e.symm;omega).trans ba.1,ba.2⟩
  have ak:V6 w0.heap.size T.d 1 Wz σ4 w3 x (ints b):=J.grow ⟨a6⟩ fun j B=>(aa j fun e=>by have:=ab j e.symm;have:=a1 j B;omega).trans (J.mem j B).2.2
  have bc:SLe σ1 σ4:=⟨a6⟩
  refine Q8 Y ?_
  refine U2 (U3 l[i]).length (fun n w'=> ∃σ' x',SLe σ4 σ'∧Stp w0 σ0 w' σ'∧Y3 σ' w' E [x']∧V6 w0.heap.size T.d 1 Wz σ' w' x' (ints (((U3 l[i]).take n).foldl (fun b u=>Xt l frm b ((Z2 l u).getD 0)) b))∧x'.ownBlock≠some E∧Few l (((U3 l[i]).take n).foldl (fun b u=>Xt l frm b ((Z2 l u).getD 0)) b))
   ⟨σ4,x,SLe.refl _,cb,bk,ak,hx,Z⟩ fun n w5 d hn a5=>?_
  obtain ⟨σ5,x5,am,U,X,C,ah,o⟩:=a5
  refine Z1 ?_
  have y:=bc.more am
  refine Q7 (fun hh=>?_) (fun hh=>?_)
  ·have H:n<(U3 l[i]).length:=by simpa using hh
   refine Q6l (Y.lift am) H fun q hq c2=>?_
   refine X7 U.sat hq rfl ?_
   have e1:((U3 l[i]).take (n+1)).foldl (fun b u=>Xt l frm b ((Z2 l u).getD 0)) b=Xt l frm (((U3 l[i]).take n).foldl (fun b u=>Xt l frm b ((Z2 l u).getD 0)) b) ((Z2 l (U3 l[i])[n]).getD 0):=by
    rw[List.take_add_one,List.getElem?_eq_getElem H,List.foldl_append];rfl
   refine J9 U.sat ?_
   refine X4 _ (fun w f=>X7 f.sat (b8.lift (O.more y)) rfl (X6 rfl)) ?_
   refine X4 (.pointer (some a)) (fun w f=>X7 f.sat (N.lift y) rfl (X6 rfl)) ?_
   refine X4 (.pointer (some a)) (fun t w f e=>by rw[e,L9];exact X6 rfl) ?_
   refine X4 (.pointer (some (a.add 1))) (fun t w f e=>by rw[e,fa];exact X6 rfl) ?_
   refine X4 (.map (some r)) (fun t w f e=>by rw[e];exact ld f.sat (t1.lift y) rfl (X6 rfl)) ?_
   refine X4 (I ((Z2 l (U3 l[i])[n]).getD 0:Nat)) (fun t w f e=>by
    rw[e,Q4A X8 ((t3.lift y).is f.sat) _,t4]
    cases Z2 l (U3 l[i])[n]<;>exact X6 rfl) ?_
   rintro c6 cr ct df dm cq w6 al rfl _ _ _ _ rfl
   have ci:l.length≤9223372036854775807:=by omega
   refine ih ?_ ?_ (O.more y) (U.trans al.stp) (X.step al.stp) (C.step al.stp) ah o fun w7 σ7 x7 b9 bm ca ai bq=>?_
   ·cases B:Z2 l (U3 l[i])[n] with
    | none=>simp only[Option.getD_none];omega
    | some j=>exact (S8 B).1
   ·cases B:Z2 l (U3 l[i])[n] with
    | none=>exact .inl hf
    | some j=>
     right
     have:=Q1s ha ho hi (u:=(U3 l[i])[n]) (by rw[av];exact List.getElem_mem H) B
     simp only[Option.getD_some];omega
   ·refine O5 ?_
    refine Y5 (by have:(U3 l[i]).length=l[i].like.length+1:=rfl;omega) H ⟨σ7,x7,am.more b9,bm,ca,?_,bq,?_⟩
    ·rw[e1];exact ai
    ·rw[e1]
     cases B:Z2 l (U3 l[i])[n] with
     | none=>simp only[Option.getD_none];rw[show Xt l frm _ 0=_ from Yn _ _ hf];exact o
     | some j=>exact Is ha ho hf _ _ _ (S8 B).1 o
  ·have H: ¬n<(U3 l[i]).length:=by simpa using hh
   rw[List.take_of_length_le (by omega)] at C o
   rw[av] at A
   refine Q8F X rfl ?_
   have cv:=o.len
   refine Un (x:=(i:Int)) U C ⟨rfl,by omega,by omega⟩ rfl rfl rfl (by rw[List.length_map];omega) (by rw[List.length_map];omega) fun u x8 w8 σ8 ar bl M aw=>?_
   have bd:=X.nx ar ah
   have az:x8.ownBlock≠some E:=fun e=>by
    rcases aw with e2 | e2
    ·exact ah (e2▸e)
    ·have:=e2 E e;have:=X.lt;omega
   have a7:x8.cells= #[x8]∧x8.oneCell'=true:=by
    obtain ⟨cells,h1,_⟩:=M
    rcases h1.2 with ⟨rfl,_⟩ | ⟨g,dh,dd,rfl,_⟩<;>exact ⟨rfl,rfl⟩
   refine st0 bd (by simp) a7.1 a7.2 fun w9 a9 b4=>?_
   have bx:=a9.stp bl bp bd.1
   have af:V6 w0.heap.size T.d 1 Wz σ8 w9 x8 (ints (Xt l frm b i)):=by
    rw[A]
    have:=M.kp (Kpt.of_upd (D:=fun k=>k=E) a9 rfl) fun k hk e=>az (e▸hk)
    simpa [ints] using this
   exact h w9 σ8 x8 (y.more ar.le) bx b4 af az
theorem X2u {frm:Nat} (hs:X3 w σ) (ht:Tab σ v l) (ha:Ji l) (ho:A4 l) (hl:l.length≤100000) (Z: ∀c∈l,Qo c) (hf:0<frm) (ag:frm≤l.length) (h: ∀v' w' σ',Stp w σ w' σ'→Sl 1 Wz σ' v' (ints (W2 l frm))→(W2 l frm).length≤l.length→(∀y∈W2 l frm,y<l.length)→K v' w'):Q1 P F.bk [v,I frm] w K:=Tf (by
 unfold Ma
 have aj:=ht
 obtain ⟨a,lv,r,m,rfl,t1,t2,t3,t4⟩:=ht.ex
 refine U5 hs rfl fun pt w1 σ1 q aq=>?_
 refine U5 q.sat rfl fun pf w2 σ2 k Y=>?_
 refine N1 k.sat fun C w3 σ3 am o U=>?_
 refine N1 o.sat fun bw w4 σ4 aa t L=>?_
 rw[Qh]
 have N:=U.step t
 have ax:=U.lt
 have W:=((q.trans k).trans o).trans t
 have O:w.heap.size≤C:=N2 am (q.trans k)
 have B:w.heap.size≤bw:=N2 aa ((q.trans k).trans o)
 refine st0 L (by simp[Value.cells]) rfl rfl fun w5 Q ae=>?_
 have ab:=Q.stp W B L.1
 have z:=N.upd Q (by omega)
 obtain ⟨H,M,V,j,J⟩:=ae.keep ab B
 have X:Y3 H w5 C [.slice none 0 0]:=⟨(J C (by omega)).trans z.1,z.2⟩
 have j:SLe σ4 H:=⟨j⟩
 have u:=((Y.up o).up t).lift j
 have A:=(((aq.up k).up o).up t).lift j
 have f:SLe σ H:=SLe.more ⟨W.le⟩ j
 have t1:=t1.lift f
 have t2:=t2.lift f
 refine X7 M.sat u rfl ?_
 have ba:(List.range l.length).length=l.length:=List.length_range
 have hz:([Value.nilFunc].set 0 (Value.func (Fn.func F.z) #[] #[.pointer (some pf), .pointer (some ⟨C,0,none⟩), .pointer (some pt), .pointer (some ⟨bw,0,none⟩)]))=[Value.func (Fn.func F.z) #[] #[.pointer (some pf), .pointer (some ⟨C,0,none⟩), .pointer (some pt), .pointer (some ⟨bw,0,none⟩)]]:=rfl
 refine Kv (fun d x w'=> ∃(i:Nat) (σ':Q6) (x':Value),x=I i∧frm≤i∧i≤l.length∧d=l.length-i∧SLe H σ'∧Stp w σ w' σ'∧Y3 σ' w' C [x']∧V6 w.heap.size T.d 1 Wz σ' w' x' (ints (((List.range i).drop frm).foldl (fun e i=>Xt l frm e i) []))∧x'.ownBlock≠some C∧Few l (((List.range i).drop frm).foldl (fun e i=>Xt l frm e i) [])) _
  ⟨frm,H, .slice none 0 0,rfl,Nat.le_refl _,ag,rfl,SLe.refl _,M,X,by rw[List.drop_eq_nil_of_le (by simp)];exact V6.nil,by simp[Value.ownBlock],by rw[List.drop_eq_nil_of_le (by simp)];exact ⟨by simp,by simp⟩⟩ ?_
 rintro ad d x dd w7 ⟨i,σ7,x7,rfl,a5,bb,rfl,g,n,R,p,an,b⟩ af
 refine X7 n.sat (A.lift g) rfl ?_
 rw[L9,fa]
 refine ld n.sat (t1.lift g) rfl ?_
 refine Q8 (t2.lift g) ?_
 refine Z1 ?_
 refine Q7 (fun hh=>?_) (fun hh=>?_)
 ·have s:i<l.length:=by simpa using hh
  refine X7 n.sat (V.lift g) rfl ?_
  refine X3i (w0:=w) (σ0:=σ) (σb:=H) ha ho hl Z hf (aj.lift f) u A V O (P1 l (Y4 l i)+1) s (.inr (Nat.lt_succ_self _)) g n R p an b fun w8 σ8 x8 ah D ar E ai=>?_
  refine Xz ⟨by omega,by omega⟩ ?_
  have e1:((List.range (i+1)).drop frm).foldl (fun e i=>Xt l frm e i) []=Xt l frm (((List.range i).drop frm).foldl (fun e i=>Xt l frm e i) []) i:=by
   rw[List.range_succ,List.drop_append_of_le_length (by simp;omega),List.foldl_append];rfl
  refine af _ _ _ (by omega:l.length-(i+1)<l.length-i) ⟨i+1,σ8,x8,by simp,by omega,by omega,rfl,g.more ah,D,ar,?_,ai,?_⟩
  ·rw[e1];exact E
  ·rw[e1];exact Is ha ho hf _ _ _ s b
 ·have s:i=l.length:=by
   have: ¬i<l.length:=by simpa using hh
   omega
  subst s
  refine Q8F R rfl ?_
  obtain ⟨σ8,D,ao,_,_⟩:=p.keep n
  exact h _ _ _ D ao b.len b.2)
end Go.Proofs.YtjdiakhipmggjaaGreatDoor

namespace Go.Hm
open Go.Kd
theorem Q6S (x:X0) (r:List X0):H9 (x::r)=x++Lib.joinTail [44] r:=by
 induction r generalizing x with
 | nil=>simp[H9,Lib.joinTail]
 | cons y r a=>
  simp only[H9]
  rw[a y]
  simp[Lib.joinTail]
theorem Q2o (xs:List X0):Lib.join xs [44]=H9 xs:=by
 cases xs with
 | nil=>rfl
 | cons x r=>rw[Lib.join_cons,Q6S]
theorem Ra: ∀xs:List X0,(∀x∈xs,x.length≤100)→(H9 xs).length≤xs.length*101
 | [],_=>by simp[H9]
 | [a],h=>by have:=h a (by simp);simp[H9];omega
 | a::b::r,h=>by
  have d:=h a (by simp)
  have e:=Ra (b::r) fun x c=>h x (by simp[c])
  simp only[H9,List.length_append,List.length_cons,List.length_nil,Nat.add_mul] at*
  omega
def NmM (m:Hm.Met):Prop:=m.result.length≤100∧ ∀p∈m.params,p.length≤100
end Go.Hm
namespace Go.Proofs.YtjdiakhipmggjaaGreatDoor
open Go.Emb Go.RowKit Go.Kd Go.Hm
variable {w : World} {K : Value → World → Prop} {σ : Q6} {v : Value} {l : List Cla}
theorem X1L {xs:List X0} {pv:Value} (C:X3 w σ) (D:Sl 1 U8 σ pv xs) (A:xs.length≤1000000) (H: ∀x∈xs,x.length≤100) (h: ∀w',Below w.heap.size w w'→K (S (H9 xs)) w'):Q1 P F.cP [pv,S [44]] w K:=by
 obtain ⟨a,g,rfl,E,Q,L,B⟩:=D
 have p:=Ra xs H
 have z:xs.length*101≤1000000*101:=Nat.mul_le_mul_right _ A
 cases a with
 | none=>
  have R:=L rfl
  have d:xs=[]:=List.eq_nil_of_length_eq_zero (by omega)
  subst d
  refine Wu (fn:=Tryz.f143) Tryz.func143 (by kernel_rfl) (by kernel_rfl) (Calls.mono (Tryz.strings_Join_none none g ⟨[44].toArray⟩ w) ?_)
  rintro e w' ⟨rfl,rfl⟩
  exact h _ (Below.refl _ _)
 | some b=>
  obtain ⟨f,t⟩:=B b rfl
  by_cases d:xs=[]
  ·subst d
   refine Wu (fn:=Tryz.f143) Tryz.func143 (by kernel_rfl) (by kernel_rfl) (Calls.mono (Tryz.strings_Join_none (some b) g ⟨[44].toArray⟩ w) ?_)
   rintro e w' ⟨rfl,rfl⟩
   exact h _ (Below.refl _ _)
  have f:=f (List.length_pos_iff.2 d)
  obtain ⟨n,o,U⟩:=b
  simp only at f
  subst f
  have c: ∀(j:Nat) (x:ByteArray),(xs.map fun s=>(⟨s.toArray⟩:ByteArray))[j]? =some x→w.cell? ⟨n,o+j,none⟩=some (.string x):=by
   intro j x m
   rw[List.getElem?_map] at m
   cases k:xs[j]? with
   | none=>rw[k] at m;cases m
   | some s=>
    rw[k] at m
    cases m
    obtain ⟨cs,J,O,N⟩:=t j s k
    obtain ⟨rfl,_⟩:=N
    have:=J.cell C (i:=0) (v:=S s) rfl
    rw[add_zero] at this
    have e:(⟨n,o,none⟩:Addr).add (j*1)=⟨n,o+j,none⟩:=by unfold Addr.add;split<;>simp_all
    rw[e] at this;exact this
  have q:n<w.heap.size:=by
   obtain ⟨x,r,rfl⟩: ∃x r,xs=x::r:=by cases xs with | nil=>exact absurd rfl d | cons x r=>exact ⟨x,r,rfl⟩
   have:=c 0 ⟨x.toArray⟩ (by simp)
   exact World.block_lt_of_cell? _ _ this
  have y:(xs.map fun s=>(⟨s.toArray⟩:ByteArray)).map (·.data.toList)=xs:=by rw[List.map_map];simp[Function.comp_def]
  have u:=Tryz.strings_Join n o g (xs.map fun s=>(⟨s.toArray⟩:ByteArray)) ⟨[44].toArray⟩ w c q (by rw[List.length_map];omega) (by rw[List.length_map];exact E) (by rw[y];show (Lib.join xs [44]).length≤_;rw[Q2o];omega)
  rw[y,List.length_map] at u
  refine Wu (fn:=Tryz.f143) Tryz.func143 (by kernel_rfl) (by kernel_rfl) (Calls.mono u ?_)
  rintro e w' ⟨rfl,M⟩
  have:=h w' M
  rw[←Q2o] at this
  exact this
theorem Q9T {m:Hm.Met} {cs:List Value} (o:X3 w σ) (p:H0 σ m cs) (d:SmM m) (f:NmM m) (h: ∀w' r,Stp w σ w' r→K (S (Qz m)) w'):Q1 P F.cg [.agg cs.toArray] w K:=Q5Q (by
 obtain ⟨pv,O,C,rfl,q,y,L,B,s,z⟩:=p
 unfold Q0f
 refine Z0 o fun a w1 σ1 c k=>?_
 have n:=Ra m.params f.2
 have j:m.params.length*101≤1000000*101:=Nat.mul_le_mul_right _ d.1
 refine J9 c.sat ?_
 refine X4 (.pointer (some (a.add 1))) (fun w b=>by rw[fa];exact X6 rfl) ?_
 refine X4 (.pointer (some (a.add 2))) (fun w b=>by rw[fa];exact X6 rfl) ?_
 refine X4 pv (fun t w b e=>by rw[e];exact ld b.sat k rfl (X6 rfl)) ?_
 refine X4 (S (H9 m.params)) (fun t w b e=>by rw[e];exact X1L b.sat (q.up c) d.1 f.2 fun w' i=>Q38 i rfl) ?_
 refine X4 (S ([40]++H9 m.params)) (fun t w b e=>by rw[e];exact Rc (by simp only[List.length_cons,List.length_nil];omega) (X6 rfl)) ?_
 refine X4 (S ([40]++H9 m.params++[41])) (fun t w b e=>by rw[e];exact Rc (by simp only[List.length_append,List.length_cons,List.length_nil];omega) (X6 rfl)) ?_
 refine X4 (S m.result) (fun t w b e=>by rw[e];exact ld b.sat k rfl (X6 rfl)) ?_
 rintro E u N D M J H A g _ _ _ _ _ rfl rfl
 have:=f.1
 refine Rc (by simp only[List.length_append,List.length_cons,List.length_nil];omega) ?_
 exact h _ _ (c.trans g.stp))
end Go.Proofs.YtjdiakhipmggjaaGreatDoor

namespace Go.Emb
open Go.RowKit Go.Hm
variable {P : Program} {w w0 w1 w' w'' : World} {K : Value → World → Prop} {σ σ0 σ1 σ' : Q6}
theorem Pz {α:Type} (f:α→α) (e:α): ∀l:List α,(l++[e]).modify l.length f=l++[f e]
 | []=>rfl
 | x::r=>by simp[Pz f e r]
theorem Q0e (k:List UInt8) (e:MapEntry) (b:e.key=S k): ∀(a:List MapEntry) (i:Nat),Instr.findNow .string (S k) a i=some none→Instr.findNow .string (S k) (a++[e]) i=some (some (i+a.length,e.val))
 | [],i,_=>by
  simp[Instr.findNow,b,Instr.sameNow,Hc]
 | x::r,i,h=>by
  simp only[Instr.findNow,List.cons_append] at h⊢
  split at h
  ·cases h
  ·rename_i c
   rw[Q0e k e b r (i+1) h]
   simp;omega
  ·cases h
theorem Q2i (k:List UInt8) (u:Value): ∀(b:List MapEntry) (i j:Nat) (v:Value),Instr.findNow .string (S k) b i=some (some (j,v))→i≤j∧j-i<b.length∧Instr.findNow .string (S k) (b.modify (j-i) fun e=>{e with val:=u}) i=some (some (j,u))
 | [],i,j,v,h=>by simp[Instr.findNow] at h
 | x::r,i,j,v,h=>by
  simp only[Instr.findNow] at h
  split at h
  ·rename_i a
   cases h
   refine ⟨Nat.le_refl _,by simp,?_⟩
   simp only[Nat.sub_self,List.modify_zero_cons,Instr.findNow,a]
  ·rename_i a
   obtain ⟨d,f,c⟩:=Q2i k u r (i+1) j v h
   refine ⟨by omega,by simp;omega,?_⟩
   rw[show j-i=(j-(i+1))+1 by omega]
   simp only[List.modify_succ_cons,Instr.findNow,a]
   exact c
  ·cases h
theorem Vl {t o s:TypeId} [tm:TM P t o s] (n:P.underlying o=some .string) {r:Nat} {b:Array MapEntry} {a:Nat} {k:List UInt8} {i:Nat} {v:Value} {e:MapEntry} (m:w.heap[r]? =some (.map b a))
 (u:Instr.findNow .string (S k) b.toList 0=some (some (i,v))) (p:b[i]? =some e) (g:e.key=S k):
 (Instr.mapEntry t (.map (some r)) (S k)).run P w= .ok (.tuple #[v,goInt e.born]) {w with heap:=w.heap.setIfInBounds r (.map b a)}:=by
 have q:(getObj r).run P w= .ok (.map b a) w:=by simp[getObj,Sem.run,m]
 have c:(Instr.keyThatStays (S k) (S k)).run P w= .ok (S k) w:=by
  simp[Instr.keyThatStays,Instr.sameBits,Hc]
 have d:(b.modify i fun e=>{e with key:=S k})=b:=by
  apply Array.ext'
  apply List.ext_getElem?
  intro j
  simp only[Array.toList_modify,List.getElem?_modify]
  by_cases l:i=j
  ·subst l
   rw[Array.getElem?_toList,p]
   simp[←g]
  ·cases b.toList[j]? <;>simp[l]
 have f:(setObj r (.map b a)).run P w= .ok () {w with heap:=w.heap.setIfInBounds r (.map b a)}:=by
  simp[setObj,Sem.run,m]
 simp only[Instr.mapEntry,Sem.run_bind,run_underlying tm.h,Result.andThen_ok,Instr.findKey,run_underlying n,u,K2 n,q,Sem.run_pure]
 simp only[p,Option.map_some,Option.getD_some,g,c,Result.andThen_ok,d,f]
theorem Q2B {r:Nat} {o:Obj} (h:w.heap[r]? =some o):({w with heap:=w.heap.setIfInBounds r o}:World)=w:=by
 have:w.heap.setIfInBounds r o=w.heap:=by
  apply Array.ext'
  apply List.ext_getElem?
  intro j
  simp only[Array.toList_setIfInBounds,List.getElem?_set]
  by_cases a:r=j
  ·subst a
   rw[if_pos rfl]
   have:=h
   rw[←Array.getElem?_toList] at this
   rw[this,if_pos (by have:=(Array.getElem?_eq_some_iff.1 h).1;simpa using this)]
  ·rw[if_neg a]
 rw[this]
theorem Q3R {r:Nat} {o b:Obj} (h:w.heap[r]? =some b):Upd w r {w with heap:=w.heap.setIfInBounds r o}∧({w with heap:=w.heap.setIfInBounds r o}:World).heap[r]? =some o:=by
 have a:=(Array.getElem?_eq_some_iff.1 h).1
 exact ⟨⟨rfl,rfl,rfl,by simp,fun k c=>by simp only[Array.getElem?_setIfInBounds];rw[if_neg (by omega)]⟩,by simp[Array.getElem?_setIfInBounds,a]⟩
structure Ent3 (P : Program) (t : TypeId) (r : Nat) (k : List UInt8) (u : Value) (m : List (List UInt8 × Value)) (O0 O1 O2 : Obj) (stamp : Nat) : Prop where
  same : O0 = O2 → O1 = O0
  put : H5 (some O2) (Ww m k u)
  entry : ∀ {w : World} {K : Value → World → Prop}, (w.heap[r]? = some O0 ∨ w.heap[r]? = some O1 ∨ w.heap[r]? = some O2) → (∀ x w', Upd w r w' → (w.heap[r]? = some O0 → w'.heap[r]? = some O1) → (w.heap[r]? ≠ some O0 → w'.heap[r]? = w.heap[r]?) → K (.tuple #[x, I stamp]) w') → mapEntry P t (.map (some r)) (S k) w K
  store : ∀ {w : World} {K : Value → World → Prop}, (w.heap[r]? = some O1 ∨ w.heap[r]? = some O2) → (∀ w', Upd w r w' → w'.heap[r]? = some O2 → K undef w') → entryStore P t (.map (some r)) (I stamp) u w K
theorem X4k {t kt et:TypeId} {af:Nat} {z:Value} [tm:TM P t kt et] [tz:TZ P et 1 af z] (W:P.underlying kt=some .string) {r:Nat} {m:List (List UInt8×Value)} (hm:H5 (w.heap[r]?) m) (k:List UInt8) (u:Value):
 ∃R O1 O2 A,w.heap[r]? =some R∧Ent3 P t r k u m R O1 O2 A:=by
 obtain ⟨q,g,h1,h2,Z,h4⟩:=hm
 obtain ⟨r',q1,q2,q3,q4⟩:=Bm k q.toList m 0 h2
 -- the array behind it, the place, the stamp
 have U: ∀(f:Array MapEntry) (d i:Nat) (s:MapEntry) (v1:Value),Instr.findNow .string (S k) f.toList 0=some (some (i,v1))→f[i]? =some s→s.key=S k→(f.toList.map (·.born)).Pairwise (· < ·)→
  (Obj.map q g= .map (f.modify i fun e=>{e with val:=u}) d→Obj.map f d=Obj.map q g)→H5 (some (.map (f.modify i fun e=>{e with val:=u}) d)) (Ww m k u)→
  (∀{w:World},w.heap[r]? =some (.map q g)→ ∃x,(Instr.mapEntry t (.map (some r)) (S k)).run P w= .ok (.tuple #[x,I s.born]) {w with heap:=w.heap.setIfInBounds r (.map f d)})→
  ∃R O1 O2 A,w.heap[r]? =some R∧Ent3 P t r k u m R O1 O2 A:=by
  intro f d i s v1 f1 f2 f3 f4 f5 f6 f7
  obtain ⟨_,J,f8⟩:=Q2i k u f.toList 0 i v1 f1
  simp only[Nat.sub_zero] at J f8
  have a1:i<f.size:=by simpa using J
  have f9:(f.modify i fun e=>{e with val:=u})[i]? =some {s with val:=u}:=by
   rw[Array.getElem?_modify,if_pos rfl,f2];rfl
  have av:Instr.findNow .string (S k) (f.modify i fun e=>{e with val:=u}).toList 0=some (some (i,u)):=by
   rw[Array.toList_modify];exact f8
  have L: ∀(l:Array MapEntry),l.toList.map (·.born)=f.toList.map (·.born)→l.findIdx? (fun e=>(e.born:Int)==s.born)=some i:=by
   intro l D
   obtain ⟨Y⟩:=l
   have e0:(Array.mk Y).findIdx? (fun e=>(e.born:Int)==s.born)=Y.findIdx? (fun e=>(e.born:Int)==s.born):=List.findIdx?_toArray ..
   rw[e0,List.findIdx?_eq_some_iff_getElem]
   generalize X:(Array.mk Y)=l at*
   have ah:Y=l.toList:=by rw[←X]
   subst ah
   have a0:l.toList.length=f.toList.length:=by have:=congrArg List.length D;simpa using this
   have V: ∀j (hj:j<l.toList.length),(l.toList[j]).born=(f.toList[j]'(by omega)).born:=fun j hj=>by
    have h5:(l.toList.map (·.born))[j]? =(f.toList.map (·.born))[j]? :=by rw[D]
    rw[List.getElem?_map,List.getElem?_map,List.getElem?_eq_getElem hj,List.getElem?_eq_getElem (by omega)] at h5
    simpa using h5
   have O:f.toList[i]=s:=by
    have:=f2
    rw[←Array.getElem?_toList,List.getElem?_eq_getElem J] at this
    simpa using this
   refine ⟨by omega,by rw[V i (by omega),O];simp,fun j hj=>?_⟩
   have am:j<f.toList.length:=by omega
   have:=(List.pairwise_iff_getElem.1 f4) j i (by simpa using am) (by simpa using J) hj
   simp only[List.getElem_map] at this
   rw[V j (by omega)]
   rw[O] at this
   simp only[beq_iff_eq];omega
  have H:(f.modify i fun e=>{e with val:=u}).toList.map (·.born)=f.toList.map (·.born):=by
   apply List.ext_getElem?
   intro j
   simp only[Array.toList_modify,List.getElem?_map,List.getElem?_modify]
   by_cases M:i=j<;>cases f.toList[j]? <;>simp[M]
  have ag:(f.modify i fun e=>{e with val:=u}).modify i (fun e=>{e with val:=u})=f.modify i fun e=>{e with val:=u}:=by
   apply Array.ext'
   apply List.ext_getElem?
   intro j
   simp only[Array.toList_modify,List.getElem?_modify]
   by_cases M:i=j<;>cases f.toList[j]? <;>simp[M]
  have B: ∀(l:Array MapEntry) {w:World},l.toList.map (·.born)=f.toList.map (·.born)→w.heap[r]? =some (.map l d)→(Instr.entryStore t (.map (some r)) (I s.born) u).run P w= .ok () {w with heap:=w.heap.setIfInBounds r (.map (l.modify i fun e=>{e with val:=u}) d)}:=by
   intro l w D hw
   have hg:(getObj r).run P w= .ok (.map l d) w:=by simp[getObj,Sem.run,hw]
   have E: ∀o,(setObj r (.map o d)).run P w= .ok () {w with heap:=w.heap.setIfInBounds r (.map o d)}:=by
    intro o;simp[setObj,Sem.run,hw]
   simp only[Instr.entryStore,Sem.run_bind,hg,Result.andThen_ok,asInt,Sem.run_pure,asIntOf,L l D,E]
  refine ⟨.map q g, .map f d, .map (f.modify i fun e=>{e with val:=u}) d,s.born,h1,f5,f6,?_,?_⟩
  ·intro w K hw N
   unfold mapEntry
   rcases hw with hw | hw | hw
   ·obtain ⟨x,hx⟩:=f7 hw
    rw[X9 hx]
    obtain ⟨u1,u2⟩:=Q3R (o:= .map f d) hw
    exact N x _ u1 (fun _=>u2) fun h=>absurd hw h
   ·have:=Vl (P:=P) (t:=t) W hw f1 f2 f3
    rw[Q2B hw] at this
    rw[X9 this]
    refine N _ w ⟨rfl,rfl,rfl,rfl,fun _ _=>rfl⟩ (fun h0=>?_) fun _=>rfl
    exact hw
   ·have:=Vl (P:=P) (t:=t) W hw av f9 f3
    rw[Q2B hw] at this
    rw[X9 this]
    refine N _ w ⟨rfl,rfl,rfl,rfl,fun _ _=>rfl⟩ (fun h0=>?_) fun _=>rfl
    rw[h0] at hw
    cases hw
    rw[h0,f5 rfl]
  ·intro w K hw N
   unfold entryStore
   rcases hw with hw | hw
   ·rw[Lm (B f rfl hw)]
    obtain ⟨u1,u2⟩:=Q3R (o:= .map (f.modify i fun e=>{e with val:=u}) d) hw
    exact N _ u1 u2
   ·have:=B _ H hw
    rw[ag,Q2B hw] at this
    rw[Lm this]
    exact N _ ⟨rfl,rfl,rfl,rfl,fun _ _=>rfl⟩ hw
 cases r' with
 | none=>
  obtain ⟨i,hi,a9,bm,ax⟩:=tz.info
  have hz: ∀w:World,(zeroValue et).run P w= .ok z w:=fun w=>Zl tz w
  refine U (q.push {key:=S k,val:=z,born:=g}) (g+1) q.size {key:=S k,val:=z,born:=g} z ?_ (by simp) rfl ?_ ?_ ?_ ?_
  ·have:=Q0e k {key:=S k,val:=z,born:=g} rfl q.toList 0 q1
   simpa using this
  ·simp only[Array.toList_push,List.map_append,List.map_cons,List.map_nil]
   rw[List.pairwise_append]
   refine ⟨Z,by simp,?_⟩
   intro a ha b D
   simp at D;subst D
   obtain ⟨e,he,rfl⟩:=List.mem_map.1 ha
   exact h4 e he
  ·intro e
   injection e with s e2
   omega
  ·refine ⟨_,_,rfl,?_,?_,?_⟩
   ·rw[q4 rfl]
    simp only[Array.toList_modify,Array.toList_push]
    rw[←Array.length_toList,Pz]
    simp[h2]
   ·have:((q.push {key:=S k,val:=z,born:=g}).modify q.size fun e=>{e with val:=u}).toList.map (·.born)=q.toList.map (·.born)++[g]:=by
     simp only[Array.toList_modify,Array.toList_push]
     rw[←Array.length_toList,Pz]
     simp
    rw[this,List.pairwise_append]
    refine ⟨Z,by simp,?_⟩
    intro a ha b D
    simp at D;subst D
    obtain ⟨e,he,rfl⟩:=List.mem_map.1 ha
    exact h4 e he
   ·intro e he
    simp only[Array.toList_modify,Array.toList_push] at he
    rw[←Array.length_toList,Pz] at he
    rcases List.mem_append.1 he with he | he
    ·have:=h4 e he;omega
    ·simp at he;subst he;simp
  ·intro w hw
   have hg:(getObj r).run P w= .ok (.map q g) w:=by simp[getObj,Sem.run,hw]
   have E: ∀o c,(setObj r (.map o c)).run P w= .ok () {w with heap:=w.heap.setIfInBounds r (.map o c)}:=by
    intro o c;simp[setObj,Sem.run,hw]
   refine ⟨z,?_⟩
   simp only[Instr.mapEntry,Sem.run_bind,run_underlying tm.h,Result.andThen_ok,Instr.findKey,run_underlying W,q1,K2 W,hg,Sem.run_pure,hz,E]
   rfl
 | some p=>
  obtain ⟨j,v⟩:=p
  obtain ⟨z1,z2,z3⟩:=q3 j v rfl
  obtain ⟨e,s,e2⟩:=z2
  simp only[Nat.sub_zero] at s z3
  have Q:q[j]? =some e:=by rw[←Array.getElem?_toList];exact s
  refine U q g j e v q1 Q e2 Z (fun _=>rfl) ?_ fun hw=>⟨v,Vl W hw q1 Q e2⟩
  refine ⟨_,_,rfl,?_,?_,?_⟩
  ·have:=z3 u
   rw[←this,Array.toList_modify]
   congr 1
   apply List.ext_getElem?
   intro n
   simp only[List.getElem?_modify]
   by_cases C:j=n
   ·subst C;rw[s];simp[e2]
   ·simp[C]
  ·have:(q.modify j fun e=>{e with val:=u}).toList.map (·.born)=q.toList.map (·.born):=by
    apply List.ext_getElem?
    intro n
    simp only[Array.toList_modify,List.getElem?_map,List.getElem?_modify]
    by_cases C:j=n<;>cases q.toList[n]? <;>simp[C]
   rw[this];exact Z
  ·intro x hx
   have:x.born∈(q.modify j fun e=>{e with val:=u}).toList.map (·.born):=List.mem_map.2 ⟨x,hx,rfl⟩
   have D:(q.modify j fun e=>{e with val:=u}).toList.map (·.born)=q.toList.map (·.born):=by
    apply List.ext_getElem?
    intro n
    simp only[Array.toList_modify,List.getElem?_map,List.getElem?_modify]
    by_cases C:j=n<;>cases q.toList[n]? <;>simp[C]
   rw[D] at this
   obtain ⟨y,hy,e⟩:=List.mem_map.1 this
   rw[←e];exact h4 y hy
end Go.Emb

namespace Go.Hm
open Go.Kd Go.Emb
abbrev B6:=List (X0×X0)
def C9:B6→X0→Option X0
 | [],_=>none
 | p::r,k=>if p.1=k then some p.2 else C9 r k
def Sf:B6→X0→X0→B6
 | [],k,v=>[(k,v)]
 | p::r,k,v=>if p.1=k then (k,v)::r else p::Sf r k v
def vals (m:B6):List (List UInt8×Value):=m.map fun p=>(p.1,S p.2)
theorem Q8Z (m:B6) (k:X0):C8 (vals m) k=(C9 m k).map S:=by
 induction m with
 | nil=>rfl
 | cons p r a=>
  simp only[vals,List.map_cons,C8,C9]
  split
  ·rfl
  ·exact a
theorem Q66 (m:B6) (k v:X0):Ww (vals m) k (S v)=vals (Sf m k v):=by
 induction m with
 | nil=>rfl
 | cons p r a=>
  simp only[vals,List.map_cons,Ww,Sf]
  split
  ·rfl
  ·rw[List.map_cons];congr 1
theorem Q0R (m:B6) (k v n:X0):C9 (Sf m k v) n=if k=n then some v else C9 m n:=by
 induction m with
 | nil=>simp[Sf,C9]
 | cons p r b=>
  simp only[Sf]
  by_cases h:p.1=k
  ·rw[if_pos h]
   simp only[C9]
   by_cases a:k=n
   ·simp[a]
   ·rw[if_neg a,if_neg a,if_neg (by rw[h];exact a)]
  ·rw[if_neg h]
   simp only[C9]
   by_cases a:p.1=n
   ·rw[if_pos a,if_pos a,if_neg (by intro e;exact h (a.trans e.symm))]
   ·rw[if_neg a,if_neg a];exact b
def Vn (d:X0) (s:B6×B6) (m:Hm.Met):Bool×(B6×B6):=
 ((match C9 s.1 m.name with | some x=> !decide (x=Qz m) | none=>false),(Sf s.1 m.name (Qz m),Sf s.2 m.name d))
end Go.Hm
namespace Go.Emb
open Go.RowKit Go.Hm
theorem H5.of_below {w w':World} {r:Nat} {m:List (List UInt8×Value)} (h:H5 (w.heap[r]?) m) (d:Below w.heap.size w w'):H5 (w'.heap[r]?) m:=by
 obtain ⟨c,a,b,e⟩:=h
 rw[d.block r (Array.getElem?_eq_some_iff.1 b).1]
 exact ⟨c,a,b,e⟩
theorem Q9K {P:Program} {w:World} {K:Value→World→Prop} {t c b:TypeId} {sz a:Nat} {z:Value} [tm:TM P t c b] [tz:TZ P b sz a z] (d:P.underlying c=some .string) {r:Nat} {m:List (List UInt8×Value)} (f:H5 (w.heap[r]?) m) (k:List UInt8)
 (h:K (.tuple #[(C8 m k).getD z, .bool (C8 m k).isSome]) w):lookup P t (.map (some r)) (S k) true w K:=by
 rw[Q2y d f k];cases e:C8 m k<;>rw[e] at h<;>exact h
theorem H5.lt {w:World} {r:Nat} {m:List (List UInt8×Value)} (h:H5 (w.heap[r]?) m):r<w.heap.size:=by
 obtain ⟨c,a,b,d⟩:=h
 exact (Array.getElem?_eq_some_iff.1 b).1
end Go.Emb
namespace Go.Proofs.YtjdiakhipmggjaaGreatDoor
open Go.Emb Go.RowKit Go.Kd Go.Hm
variable {w : World} {K : Value → World → Prop} {σ : Q6} {v : Value} {l : List Cla}
theorem X3F {m:Hm.Met} {cs ds:List Value} {pa pb q:Addr} {b o:Nat} {s:B6×B6} {d:X0} (hs:X3 w σ) (hm:H0 σ m cs) (W:SmM m) (hn:NmM m) (R:Z4 σ pa [.map (some b)]) (ap:Z4 σ pb [.map (some o)]) (hq:Z4 σ q (S d::ds))
 (ax:σ b=none) (av:σ o=none) (ab:b≠o) (p:H5 (w.heap[b]?) (vals s.1)) (z:H5 (w.heap[o]?) (vals s.2))
 (h: ∀w',Kpt (fun k=>k=b∨k=o) w w'→H5 (w'.heap[b]?) (vals (Vn d s m).2.1)→H5 (w'.heap[o]?) (vals (Vn d s m).2.2)→K (.bool (Vn d s m).1) w'):
 Q1 P F.aL [.agg cs.toArray, .pointer (some pa), .pointer (some q), .pointer (some pb)] w K:=Ho (by
 have X:=hm
 obtain ⟨pv,cv,hv,rfl,g1,g2,g3,g4,g5,g6⟩:=hm
 unfold Zh
 refine Z0 hs fun a w1 σ1 f ha=>?_
 have af:=p.lt
 have ay:=z.lt
 have p:=p.of_below f.bel
 have z:=z.of_below f.bel
 have Y:σ1 b=none:=(f.old b af).trans ax
 have J:σ1 o=none:=(f.old o ay).trans av
 refine X7 f.sat (R.up f) rfl ?_
 rw[fa]
 refine ld f.sat ha rfl ?_
 refine Q9K X8 p m.name ?_
 have ah:(.tuple #[(C8 (vals s.1) m.name).getD (.string ⟨#[]⟩), .bool (C8 (vals s.1) m.name).isSome]:Value)= .tuple #[S ((C9 s.1 m.name).getD []), .bool (C9 s.1 m.name).isSome]:=by
  rw[Q8Z];cases C9 s.1 m.name<;>rfl
 rw[ah]
 refine J0 (vs:=[_,_]) rfl ?_
 refine J0 (vs:=[_,_]) rfl ?_
 obtain ⟨N,L,y,r,ag,E⟩:=X4k (P:=P) (t:=T.y) X8 p m.name (S (Qz m))
 have U:=p.lt
 refine Pv (fun c i=>Kpt (fun k=>k=b) c i∧(i.heap[b]? =c.heap[b]? ∨(c.heap[b]? =some N∧N≠y∧i.heap[b]? =some L)∨i.heap[b]? =some y))
  (fun c=>Kpt (fun k=>k=b) w1 c∧X3 c σ1∧(c.heap[b]? =some N∨c.heap[b]? =some L∨c.heap[b]? =some y))
  ⟨.of_below (Below.refl _ _).drew,f.sat.below (Below.refl _ _).drew, .inl ag⟩ (fun c i g C=>⟨g.1.trans C.1,C.1.sat g.2.1 (fun k hk=>hk▸Y),by
   rcases C.2 with e | ⟨_,_,e⟩ | e
   ·rw[e];exact g.2.2
   ·exact .inr (.inl e)
   ·exact .inr (.inr e)⟩) ?_
 refine X4 (.pointer (some (a.add 0))) (fun w g=>by rw[fa];exact ⟨⟨Kpt.refl, .inl rfl⟩,rfl⟩) ?_
 refine X4 (.pointer (some (a.add 0))) (fun w g=>by rw[fa];exact ⟨⟨Kpt.refl, .inl rfl⟩,rfl⟩) ?_
 refine X4 (.pointer (some (q.add 0))) (fun w g=>by rw[fa];exact ⟨⟨Kpt.refl, .inl rfl⟩,rfl⟩) ?_
 refine X4 (.map (some b)) (fun w g=>X7 g.2.1 (R.up f) rfl ⟨⟨Kpt.refl, .inl rfl⟩,rfl⟩) ?_
 refine X4 (S m.name) (fun t w g e=>by rw[e];exact ld g.2.1 ha rfl ⟨⟨Kpt.refl, .inl rfl⟩,rfl⟩) ?_
 refine X4 (.map (some o)) (fun w g=>X7 g.2.1 (ap.up f) rfl ⟨⟨Kpt.refl, .inl rfl⟩,rfl⟩) ?_
 refine X4 (S m.name) (fun t w g e=>by rw[e];exact ld g.2.1 ha rfl ⟨⟨Kpt.refl, .inl rfl⟩,rfl⟩) ?_
 refine X4 (.agg [S m.name,pv,S m.result, .bool m.abs,I m.locals,cv,hv].toArray) (fun w g=>Y2 g.2.1 ha rfl ⟨⟨Kpt.refl, .inl rfl⟩,rfl⟩) ?_
 refine X4 (S (Qz m)) (fun t c g e=>by
  rw[e]
  exact Q9T g.2.1 (RMe_lift X ⟨f.le⟩) W hn fun i σ3 A=>⟨⟨.of_below A.bel, .inl (A.bel.block b (Nat.lt_of_lt_of_le U g.1.size))⟩,rfl⟩) ?_
 refine X4 (S d) (fun t w g e=>by rw[e];exact ld g.2.1 (hq.up f) rfl ⟨⟨Kpt.refl, .inl rfl⟩,rfl⟩) ?_
 have st: ∀{c i:World},(c.heap[b]? =some L∨c.heap[b]? =some y)→(i.heap[b]? =c.heap[b]? ∨(c.heap[b]? =some N∧N≠y∧i.heap[b]? =some L)∨i.heap[b]? =some y)→(i.heap[b]? =some L∨i.heap[b]? =some y):=by
  intro c i j h2
  rcases h2 with e | ⟨_,_,e⟩ | e
  ·rw[e];exact j
  ·exact .inl e
  ·exact .inr e
 refine H2 (fun u c=>(∃x,u= .tuple #[x,I r])∧(c.heap[b]? =some L∨c.heap[b]? =some y)) (fun u c i j C=>⟨j.1,st j.2 C.2⟩) (fun Q am c g e1 e2=>?_) ?_
 ·rw[e1,e2]
  refine E.entry g.2.2 fun x i n aj ae=>?_
  by_cases V:c.heap[b]? =some N
  ·have j:=aj V
   refine ⟨⟨Kpt.of_upd n rfl,?_⟩,⟨x,rfl⟩, .inl j⟩
   by_cases B:N=y
   ·left;rw[j,V,E.same B]
   ·exact .inr (.inl ⟨V,B,j⟩)
  ·have j:=ae V
   refine ⟨⟨Kpt.of_upd n rfl, .inl j⟩,⟨x,rfl⟩,?_⟩
   rw[j];exact g.2.2.resolve_left V
 refine H2 (fun u c=>u=I r∧(c.heap[b]? =some L∨c.heap[b]? =some y)) (fun u c i j C=>⟨j.1,st j.2 C.2⟩) (fun t c g e=>?_) ?_
 ·obtain ⟨⟨x,rfl⟩,j⟩:=e
  exact J0 (vs:=[_,_]) rfl ⟨⟨Kpt.refl, .inl rfl⟩,rfl,j⟩
 refine H2 (fun _ c=>c.heap[b]? =some y) (fun u c i j C=>?_) (fun Q ak al c g e1 e2 e3=>?_) ?_
 ·rcases C.2 with e | ⟨e,B,_⟩ | e
  ·exact e.trans j
  ·rw[j] at e;cases e;exact absurd rfl B
  ·exact e
 ·rw[e1,e3,e2.1]
  refine E.store e2.2 fun i n h3=>⟨⟨Kpt.of_upd n rfl, .inr (.inr h3)⟩,h3⟩
 rintro a5 bd bj Q am bi bh ba al be bb ak a9 c M _ _ _ _ _ rfl rfl _ _ rfl _ _ aq
 have aw:H5 (c.heap[b]?) (vals (Sf s.1 m.name (Qz m))):=by
  rw[aq,←Q66];exact E.put
 have an:H5 (c.heap[o]?) (vals s.2):=by
  rw[M.1.block o z.lt fun e=>ab e.symm];exact z
 refine Ik X8 ⟨J,an⟩ m.name (S d) fun i n ar=>?_
 have Z:H5 (i.heap[o]?) (vals (Sf s.2 m.name d)):=by rw[←Q66];exact ar.2
 have H:H5 (i.heap[b]?) (vals (Sf s.1 m.name (Qz m))):=by rw[n.block b ab];exact aw
 have A:Kpt (fun k=>k=b∨k=o) w i:=((Kpt.of_below f.bel).trans (M.1.mono fun k _ h=> .inl h)).trans (Kpt.of_upd n (.inr rfl))
 have ac:X3 i σ1:=(Kpt.of_upd (D:=fun k=>k=o) n rfl).sat M.2.1 fun k hk=>hk▸J
 unfold Vn at h
 cases ho:C9 s.1 m.name with
 | none=>
  rw[ho] at h
  simp only[Option.isSome_none,↓M2,M2,Mb,reduceIte]
  exact h i A H Z
 | some x=>
  rw[ho] at h
  simp only[Option.isSome_some,Option.getD_some,↓M2,M2,Mb,reduceIte]
  refine Y2 ac ha rfl ?_
  refine Q9T ac (RMe_lift X ⟨f.le⟩) W hn fun w4 σ4 O=>?_
  simp only[↓M2,M2,Mb,reduceIte]
  exact h w4 (A.trans (Kpt.of_below O.bel)) (H.of_below O.bel) (Z.of_below O.bel))
end Go.Proofs.YtjdiakhipmggjaaGreatDoor

namespace Go.Hm
open Go.Kd Go.Emb
def Ry (s:B6×B6) (c:Cla):Bool×(B6×B6):=((J5 (Vn c.name) s c.methods 0).1.isSome,(J5 (Vn c.name) s c.methods 0).2)
def Rd (a:List Hm.Met):Prop:= ∃x∈a,∃y∈a,x.name=y.name∧Qz x≠Qz y
theorem Q4s (a:List Hm.Met):Nq a=true↔Rd a:=by
 simp[Nq,Rd]
structure Gd (pre : List Hm.Met) (s : B6 × B6) : Prop where
  a : ∀ m ∈ pre, C9 s.1 m.name = some (Qz m)
  b : ∀ k x, C9 s.1 k = some x → ∃ m ∈ pre, m.name = k ∧ Qz m = x
  c : ∀ k, (C9 s.2 k).isSome = true ↔ ∃ m ∈ pre, m.name = k
theorem Gd.no {b:List Hm.Met} {s:B6×B6} (h:Gd b s): ¬Rd b:=by
 rintro ⟨x,d,y,g,f,i⟩
 have c:=h.a x d
 have e:=h.a y g
 rw[f,e] at c
 exact i (Option.some.inj c).symm
theorem Gd.step {g:List Hm.Met} {s:B6×B6} (h:Gd g s) (d:X0) (m:Hm.Met):((Vn d s m).1=true→Rd (g++[m]))∧((Vn d s m).1=false→Gd (g++[m]) (Vn d s m).2):=by
 unfold Vn
 constructor
 ·intro j
  cases o:C9 s.1 m.name with
  | none=>rw[o] at j;cases j
  | some x=>
   rw[o] at j
   obtain ⟨y,hy,f,p⟩:=h.b _ _ o
   exact ⟨y,by simp[hy],m,by simp,f,by rw[p];simpa using j⟩
 ·intro j
  have i: ∀x,C9 s.1 m.name=some x→x=Qz m:=fun x n=>by rw[n] at j;simpa using j
  refine ⟨fun y hy=>?_,fun k x n=>?_,fun k=>?_⟩
  ·simp only[Q0R]
   rcases List.mem_append.1 hy with hy | hy
   ·have:=h.a y hy
    by_cases e:m.name=y.name
    ·rw[if_pos e];congr 1;exact (i _ (by rw[e];exact this)).symm
    ·rw[if_neg e];exact this
   ·simp at hy;subst hy;simp
  ·simp only[Q0R] at n
   by_cases e:m.name=k
   ·rw[if_pos e] at n;cases n;exact ⟨m,by simp,e,rfl⟩
   ·rw[if_neg e] at n
    obtain ⟨y,hy,f⟩:=h.b _ _ n
    exact ⟨y,by simp[hy],f⟩
  ·simp only[Q0R]
   by_cases e:m.name=k
   ·rw[if_pos e];exact ⟨fun _=>⟨m,by simp,e⟩,fun _=>rfl⟩
   ·rw[if_neg e,h.c k]
    constructor
    ·rintro ⟨y,hy,f⟩;exact ⟨y,by simp[hy],f⟩
    ·rintro ⟨y,hy,f⟩
     rcases List.mem_append.1 hy with hy | hy
     ·exact ⟨y,hy,f⟩
     ·simp at hy;subst hy;exact absurd f e
theorem Rd.mono {a b:List Hm.Met} (h:Rd a) (c: ∀x∈a,x∈b):Rd b:=by
 obtain ⟨x,d,y,f,e⟩:=h
 exact ⟨x,c x d,y,c y f,e⟩
theorem Q2O (d:X0): ∀(b a:List Hm.Met) (s:B6×B6) (i:Nat),Gd a s→((J5 (Vn d) s b i).1.isSome=true→Rd (a++b))∧((J5 (Vn d) s b i).1.isSome=false→Gd (a++b) (J5 (Vn d) s b i).2)
 | [],a,s,i,h=>by simpa [J5] using h
 | m::r,a,s,i,h=>by
  obtain ⟨g,j⟩:=h.step d m
  simp only[J5]
  cases c:(Vn d s m).1 with
  | true=>
   simp only[if_true,Option.isSome_some]
   exact ⟨fun _=>(g c).mono fun x f=>by simp at f⊢;rcases f with h | h<;>simp[h],fun e=>by cases e⟩
  | false=>
   simp only[Bool.false_eq_true,if_false]
   have:=Q2O d r (a++[m]) (Vn d s m).2 (i+1) (j c)
   rw[show a++m::r=(a++[m])++r by simp]
   exact this
theorem Q3d: ∀(cs:List Cla) (a:List Hm.Met) (s:B6×B6) (i:Nat),Gd a s→((J5 Ry s cs i).1.isSome=true→Rd (a++cs.flatMap (·.methods)))∧((J5 Ry s cs i).1.isSome=false→Gd (a++cs.flatMap (·.methods)) (J5 Ry s cs i).2)
 | [],a,s,i,h=>by simpa [J5] using h
 | c::r,a,s,i,h=>by
  obtain ⟨d,f⟩:=Q2O c.name c.methods a s 0 h
  simp only[J5]
  cases b:(Ry s c).1 with
  | true=>
   simp only[if_true,Option.isSome_some]
   exact ⟨fun _=>(d b).mono (by simp;intro x hx;rcases hx with hx | hx;exact .inl hx;exact .inr (.inl hx)),fun e=>by cases e⟩
  | false=>
   simp only[Bool.false_eq_true,if_false]
   have:=Q3d r (a++c.methods) (Ry s c).2 (i+1) (f b)
   rw[List.flatMap_cons,←List.append_assoc]
   exact this
theorem X3b:Gd [] ([],[]):=⟨by simp,by simp[C9],by simp[C9]⟩
theorem Q7X (l:List Cla) (n:X0):Lr l n=(Mc l n).flatMap (·.methods):=by
 unfold Lr Mc
 induction I1 l n with
 | nil=>rfl
 | cons u r a=>
  rw[List.flatMap_cons,List.filterMap_cons]
  cases b:lk l u with
  | none=>simpa [b] using a
  | some c=>simp only[Option.map_some,Option.getD_some,List.flatMap_cons];rw[a]
end Go.Hm
namespace Go.Emb
open Go.RowKit Go.Hm
variable {P : Program} {w w0 w1 w' w'' : World} {K : Value → World → Prop} {σ σ0 σ1 σ' : Q6}
def It (σ:Q6) (w:World) (b r:Nat) (d:Array MapEntry) (a:Nat) (c:Array Nat):Prop:=σ b=none∧ ∃c0,a≤c0∧w.heap[b]? =some (.mapIter (some r) a c c0)
theorem It.step {b r:Nat} {f:Array MapEntry} {a:Nat} {c:Array Nat} (h:It σ w b r f a c) (k:Stp w σ w' σ'):It σ' w' b r f a c:=by
 obtain ⟨g,c0,i,e⟩:=h
 have d:=(Array.getElem?_eq_some_iff.1 e).1
 exact ⟨(k.old b d).trans g,c0,i,(k.bel.block b d).trans e⟩
theorem X3R {t i e:TypeId} [tm:TM P t i e] {r:Nat} {c:Array MapEntry} {a:Nat} (d:X3 w σ) (g:w.heap[r]? =some (.map c a))
 (h: ∀b w' σ',w.heap.size≤b→Stp w σ w' σ'→It σ' w' b r c a #[]→K (.pointer (some ⟨b,0,none⟩)) w'):rng P t (.map (some r)) w K:=by
 unfold rng
 have f:(getObj r).run P w= .ok (.map c a) w:=by simp[getObj,Sem.run,g]
 rw[X9 (v:= .pointer (some ⟨w.heap.size,0,none⟩)) (w':=w.alloc (.mapIter (some r) a #[] a)) (by
  simp only[Instr.range,Sem.run_bind,run_underlying tm.h,Result.andThen_ok,f,Sem.run_pure]
  simp)]
 exact h _ _ _ (Nat.le_refl _) (Stp.own d _) ⟨d.none (Nat.le_refl _),a,Nat.le_refl _,heap_alloc_new w _⟩
theorem X3Y {t:TypeId} {b r:Nat} {es:Array MapEntry} {clock:Nat} {seen:Array Nat} (hi:It σ w b r es clock seen) (hm:w.heap[r]? =some (.map es clock)) (hold: ∀x∈es.toList,x.born<clock)
 (h0:(∀e∈es.toList,e.born∈seen)→K (.tuple #[.bool false]) w)
 (h1: ∀e w',e∈es.toList→e.born∉seen→Kpt (fun k=>k=b) w w'→It σ w' b r es clock (seen.push e.born)→w'.heap[b]? =some (.mapIter (some r) clock (seen.push e.born) clock)→K (.tuple #[.bool true,e.key,e.val]) w'):W6 P (.pointer (some ⟨b,0,none⟩)) false t w K:=by
 obtain ⟨hb,c0,hc,hh⟩:=hi
 unfold W6
 rcases run_next_at (P:=P) w t b r clock c0 seen es clock hh hm hold hc with ⟨hz,hrun⟩ | ⟨e,he,w1,hw1,hrun⟩
 ·rw[X9 hrun]
  refine h0 fun e he=>Classical.byContradiction fun hn=>?_
  have:e∈(leftOf es seen).toList:=by
   unfold leftOf
   simp only[Array.toList_filter,List.mem_filter]
   exact ⟨he,by simpa using hn⟩
  have hl:(leftOf es seen).toList.length=0:=by simpa using hz
  rw[List.eq_nil_of_length_eq_zero hl] at this
  cases this
 ·rw[X9 hrun]
  have he':e∈es.toList∧e.born∉seen:=by
   unfold leftOf at he
   simp only[Array.toList_filter,List.mem_filter] at he
   exact ⟨he.1,by simpa using he.2⟩
  have hh1:w1.heap[b]? =some (.mapIter (some r) clock seen c0):=by rcases hw1 with rfl | rfl<;>exact hh
  obtain ⟨u1,u2⟩:=Q3R (w:=w1) (o:= .mapIter (some r) clock (seen.push e.born) clock) hh1
  refine h1 e _ he'.1 he'.2 ?_ ⟨hb,clock,Nat.le_refl _,u2⟩ u2
  have k1:Kpt (fun k=>k=b) w w1:=by
   rcases hw1 with rfl | rfl
   ·exact Kpt.refl
   ·exact .of_below (Below.refl _ _).drew
  exact k1.trans (Kpt.of_upd u1 rfl)
theorem X2J {b r:Nat} {d:Array MapEntry} {a:Nat} {c:Array Nat} {e:MapEntry} (hh:w.heap[b]? =some (.mapIter (some r) a (c.push e.born) a)) (g:w.heap[r]? =some (.map d a)) (i:e∈d.toList) (f:(d.toList.map (·.born)).Nodup)
 (h:K (.tuple #[e.key,e.val]) w):Q81 P (.pointer (some ⟨b,0,none⟩)) w K:=by
 unfold Q81
 rw[X9 (run_entry_at w b r a c d a e hh g i f)]
 exact h
end Go.Emb
namespace Go.Proofs.YtjdiakhipmggjaaGreatDoor
open Go.Emb Go.RowKit Go.Kd Go.Hm
variable {w : World} {K : Value → World → Prop} {σ : Q6} {v : Value} {l : List Cla}
theorem A5 (o:Option Nat):decide ((0:Int)≤L6 o)=o.isSome:=by
 cases o with
 | none=>rfl
 | some i=>simp[L6]
theorem Q43 {q:Addr} {s:X0} (b:X3 w σ) (g:Tab σ v l) (f:Z4 σ q [v]) (d:s.length≤U1) (h: ∀w' σ',Stp w σ w' σ'→K (.bool (O8 l s)) w'):Z3 P (.func (.func F.an) #[] #[.pointer (some q)]) [S s] w K:=Z7 (St (by
 unfold Jt
 unfold O8 at h
 refine Zz ?_
 by_cases a:s=R0
 ·have e:decide (s=[110,117,108,108])=true:=decide_eq_true a
  simp only[e,decide_eq_true a,↓M2,M2,Mb,reduceIte] at h⊢
  exact h _ _ (Stp.refl b)
 ·have e:decide (s=[110,117,108,108])=false:=decide_eq_false a
  simp only[e,decide_eq_false a,↓M2,M2,Mb,reduceIte] at h⊢
  refine X7 b f rfl ?_
  refine Q1d b g d fun w1 σ1 c=>?_
  (try simp only[↓M2,M2,Mb,reduceIte])
  exact h _ _ c))
theorem Q8G {q p:Addr} {s:X0} (b:X3 w σ) (f:Tab σ v l) (d:Z4 σ q [v]) (e:Z4 σ p [.func (.func F.an) #[] #[.pointer (some q)]]) (c:s.length≤U1) (h: ∀w' σ',Stp w σ w' σ'→K (.bool (!O8 l s)) w'):Z3 P (.func (.func F.ao) #[] #[.pointer (some p)]) [S s] w K:=Z7 (Sk (by
 unfold Jl
 refine X7 b e rfl ?_
 refine Q43 b f d c fun w1 σ1 a=>?_
 refine Wn ?_
 exact h _ _ a))
theorem Q74 {c:Cla} {cs:List Value} {pa D:Addr} {e b:Nat} {s:B6×B6} (Q:X3 w σ) (R:V0 σ c cs) (t:Qo c) (M:Nm c) (r:Z4 σ pa [.map (some e)]) (u:Z4 σ D [.map (some b)])
 (A:σ e=none) (y:σ b=none) (z:e≠b) (i:H5 (w.heap[e]?) (vals s.1)) (m:H5 (w.heap[b]?) (vals s.2))
 (h: ∀w',Kpt (fun k=>k=e∨k=b) w w'→H5 (w'.heap[e]?) (vals (Ry s c).2.1)∧H5 (w'.heap[b]?) (vals (Ry s c).2.2)→K (.bool (Ry s c).1) w'):
 Z3 P (.func (.func F.aZ) #[] #[.pointer (some pa), .pointer (some D)]) [.agg cs.toArray] w K:=Z7 (Sa (by
 obtain ⟨lv,fv,mv,rfl,g1,Z,W,g4,Y⟩:=R
 unfold Uh
 refine Z0 Q fun q w1 σ1 a J=>?_
 rw[fa]
 refine ld a.sat J rfl ?_
 rw[Qh]
 have p:=i.lt
 have B:=m.lt
 have n:σ1 e=none:=(a.old e p).trans A
 have j:σ1 b=none:=(a.old b B).trans y
 refine Jj (Vn c.name) s (fun s w'=>X3 w' σ1∧H5 (w'.heap[e]?) (vals s.1)∧H5 (w'.heap[b]?) (vals s.2)) (fun k=>k=e∨k=b) (fun _ _ h=>h.1) ⟨a.sat,i.of_below a.bel,m.of_below a.bel⟩ (W.up a)
  (fun s x cs C K H f g L E X=>Z7 ?_) fun C f g=>?_
 ·refine X3F (s:=s) (d:=c.name) g.1 L (t.2.2.2 x H) (M.2.2 x H) (r.up a) (u.up a) J n j z g.2.1 g.2.2 fun O o N V=>?_
  exact X O (f.trans o) ⟨o.sat g.1 fun k U=>by rcases U with rfl | rfl<;>assumption,N,V⟩
 ·exact h C ((Kpt.of_below a.bel).trans f) g.2))
end Go.Proofs.YtjdiakhipmggjaaGreatDoor

namespace Go.Emb
open Go.RowKit Go.Hm
theorem Stp.nx {D:Nat→Prop} {w w1 f:World} {σ σ1 g:Q6} (a:Stp w σ w1 σ1) (c:Nxt D w1 σ1 f g) (hD: ∀k,D k→w.heap.size≤k):Stp w σ f g:=
 ⟨⟨c.kp.os.trans a.bel.os,c.kp.tape.trans a.bel.tape,c.kp.output.trans a.bel.output,Nat.le_trans a.bel.size c.kp.size,fun k d=>(c.kp.block k (Nat.lt_of_lt_of_le d a.bel.size) fun e=>by have:=hD k e;omega).trans (a.bel.block k d)⟩,
  c.sat,fun b o e=>c.le.le b o (a.le b o e),fun k d=>(c.old k (Nat.lt_of_lt_of_le d a.bel.size)).trans (a.old k d)⟩
end Go.Emb
namespace Go.Hm
open Go.Kd Go.Emb
theorem X1Q {d:Array MapEntry} {m:B6} (h:d.toList.map (fun e=>(e.key,e.val))=(vals m).map (fun p=>(S p.1,p.2))):
 (∀e∈d.toList,∃k,e.key=S k∧(C9 m k).isSome=true)∧ ∀k,(C9 m k).isSome=true→ ∃e∈d.toList,e.key=S k:=by
 have b: ∀(m:B6) k,(C9 m k).isSome=true↔k∈m.map (·.1):=by
  intro m
  induction m with
  | nil=>intro k;simp[C9]
  | cons p r j=>
   intro k
   simp only[C9,List.map_cons,List.mem_cons]
   by_cases e:p.1=k
   ·simp[e]
   ·rw[if_neg e,j k]
    constructor
    ·exact .inr
    ·rintro (h | h)
     ·exact absurd h.symm e
     ·exact h
 constructor
 ·intro e g
  have a:(e.key,e.val)∈d.toList.map (fun e=>(e.key,e.val)):=List.mem_map.2 ⟨e,g,rfl⟩
  rw[h] at a
  obtain ⟨p,n,c⟩:=List.mem_map.1 a
  obtain ⟨q,f,rfl⟩:=List.mem_map.1 n
  simp only[Prod.mk.injEq] at c
  exact ⟨q.1,c.1.symm,(b m _).2 (List.mem_map.2 ⟨q,f,rfl⟩)⟩
 ·intro k i
  obtain ⟨q,f,rfl⟩:=List.mem_map.1 ((b m k).1 i)
  have a:(S q.1,S q.2)∈(vals m).map (fun p=>(S p.1,p.2)):=List.mem_map.2 ⟨(q.1,S q.2),List.mem_map.2 ⟨q,f,rfl⟩,rfl⟩
  rw[←h] at a
  obtain ⟨e,g,c⟩:=List.mem_map.1 a
  simp only[Prod.mk.injEq] at c
  exact ⟨e,g,c.1⟩
def Eo (l:List Cla) (m:Hm.Met):Bool:=(!O8 l m.result&& !decide (m.result=[]))||m.params.any fun s=> !O8 l s
end Go.Hm
namespace Go.Proofs.YtjdiakhipmggjaaGreatDoor
open Go.Emb Go.RowKit Go.Kd Go.Hm
variable {w : World} {K : Value → World → Prop} {σ : Q6} {v : Value} {l : List Cla}
set_option maxHeartbeats 1000000 in
theorem X05 {c:Cla} {cs:List Value} (hs:X3 w σ) (ht:Tab σ v l) (ok:Ok l) (hc:V0 σ c cs) (fg:Qo c) (hn:Nm c) (h: ∀w' W,Stp w σ w' W→K (I (V9 l c)) w'):Q1 P F.b5 [v, .agg cs.toArray] w K:=Fb (by
 obtain ⟨lv,fv,mv,rfl,g1,g2,g3,g4,g5⟩:=hc
 unfold Vy
 obtain ⟨a,_,_,_,hv,_⟩:=ht.ex
 unfold V9 at h
 refine U5 hs (by rw[hv];rfl) fun q2 w1 σ1 a2 y=>?_
 refine Z0 a2.sat fun q3 w2 σ2 aq A=>?_
 have d5:=a2.trans aq
 have y:=y.up aq
 have g1:=(g1.up a2).up aq
 have g2:=(g2.up a2).up aq
 have g3:=(g3.up a2).up aq
 have ba:=g2.max
 have ca:=g3.max
 rw[fa]
 refine ld aq.sat A rfl ?_
 refine Q8 g2 ?_
 refine U2 c.fields.length (fun n w'=> ∃W,Stp w σ w' W∧SLe σ2 W∧((c.fields.take n).any fun f=>(Jx l c.super f.name).isSome)=false) ⟨σ2,d5,SLe.refl _,by simp⟩ fun n w3 d a6 ai=>?_
 obtain ⟨σ3,a0,ch,H⟩:=ai
 refine Z1 ?_
 refine Q7 (fun hh=>?_) (fun hh=>?_)
 ·have g:n<c.fields.length:=by simpa using hh
  refine Q9k (g2.lift ch) g fun p aw Z=>?_
  refine Y2 a0.sat aw rfl ?_
  refine Y7 a0.sat (by rfl) rfl (Rep.one Z) fun q4 w4 σ4 V d0=>?_
  have aa:SLe σ2 σ4:=ch.more ⟨V.le⟩
  have a1:=a0.trans V
  refine X7 V.sat (y.lift aa) rfl ?_
  rw[fa]
  refine ld V.sat (A.lift aa) rfl ?_
  rw[fa]
  refine ld V.sat d0 rfl ?_
  refine X1I V.sat (ht.lift ⟨a1.le⟩) ok.acy ok.len ok.sm fun w5 σ5 b9=>?_
  refine P4 ?_
  rw[A5]
  refine Q7 (fun ak=>?_) (fun ak=>?_)
  ·have:Yl l c=true:=S9 g ak
   rw[if_pos this] at h
   exact h _ _ (a1.trans b9)
  ·refine O5 ?_
   refine Y5 ba g ⟨σ5,a1.trans b9,aa.more ⟨b9.le⟩,?_⟩
   rw[L2 g,H,ak];rfl
 have g: ¬n<c.fields.length:=by simpa using hh
 rw[E5 g] at H
 have ef:Yl l c=false:=H
 rw[if_neg (by rw[ef];simp)] at h
 rw[Qh]
 clear H hh g a6
 refine U7 a0.sat (by rfl) rfl rfl fun q7 w4 σ4 V be=>?_
 have aa:SLe σ2 σ4:=ch.more ⟨V.le⟩
 have a1:=a0.trans V
 have y:=y.lift aa
 have A:=A.lift aa
 have g1:=g1.lift aa
 have g2:=g2.lift aa
 have g3:=g3.lift aa
 rw[fa]
 refine ld V.sat A rfl ?_
 refine Q8 g2 ?_
 refine U2 c.fields.length (fun n w'=> ∃W,Stp w σ w' W∧SLe σ4 W∧((c.fields.take n).any fun f=> !O8 l f.kind)=false) ⟨σ4,a1,SLe.refl _,by simp⟩ fun n w5 d a6 ai=>?_
 obtain ⟨σ5,a4,ar,H⟩:=ai
 refine Z1 ?_
 refine Q7 (fun hh=>?_) (fun hh=>?_)
 ·have g:n<c.fields.length:=by simpa using hh
  refine Q9k (g2.lift ar) g fun p aw Z=>?_
  refine Y2 a4.sat aw rfl ?_
  refine Y7 a4.sat (by rfl) rfl (Rep.one Z) fun q9 w6 σ6 bb ea=>?_
  have af:SLe σ4 σ6:=ar.more ⟨bb.le⟩
  have R:=a4.trans bb
  refine X7 bb.sat (be.lift af) rfl ?_
  rw[fa]
  refine ld bb.sat ea rfl ?_
  refine Q43 bb.sat (ht.lift ⟨R.le⟩) (y.lift af) Z.2.2 fun w7 σ7 E=>?_
  refine Wn ?_
  refine Q7 (fun ak=>?_) (fun ak=>?_)
  ·have:F3 l c=true:=by
    unfold F3
    rw[S9 (p:=fun f:Fld=> !O8 l f.kind) g ak];rfl
   rw[if_pos this] at h
   exact h _ _ (R.trans E)
  ·refine O5 ?_
   refine Y5 ba g ⟨σ7,R.trans E,af.more ⟨E.le⟩,?_⟩
   rw[L2 g,H,ak];rfl
 have g: ¬n<c.fields.length:=by simpa using hh
 rw[E5 g] at H
 have dx:=H
 clear H hh g a6
 have y:=y.lift ar
 have A:=A.lift ar
 have be:=be.lift ar
 have g3:=g3.lift ar
 rw[fa]
 refine ld a4.sat A rfl ?_
 refine Q8 g3 ?_
 refine U2 c.methods.length (fun n w'=> ∃W,Stp w σ w' W∧SLe σ5 W∧((c.methods.take n).any (Eo l))=false) ⟨σ5,a4,SLe.refl _,by simp⟩ fun n w6 d a6 ai=>?_
 obtain ⟨σ6,R,af,H⟩:=ai
 refine Z1 ?_
 refine Q7 (fun hh=>?_) (fun hh=>?_)
 ·have g:n<c.methods.length:=by simpa using hh
  refine N3 (g3.lift af) g fun p cells aw c0 Z=>?_
  refine Y2 R.sat aw c0 ?_
  refine Y7 R.sat (by rfl) c0 (Rep.one Z) fun fm w7 σ7 E Y=>?_
  obtain ⟨pv,cv,fk,rfl,m1,m2,m3,m4,m5,m6⟩:=Z
  have cl:SLe σ5 σ7:=af.more ⟨E.le⟩
  have cw:=R.trans E
  have C:Eo l c.methods[n]=true→ ∀{w8:World} {σ8:Q6},Stp w σ w8 σ8→K (.int .i64 65) w8:=fun hb w8 σ8 q=>by
   have:F3 l c=true:=by
    unfold F3
    have:=S9 (p:=Eo l) g hb
    unfold Eo at this
    rw[this,Bool.or_true]
   rw[if_pos this] at h
   exact h _ _ q
  have z:Eo l c.methods[n]=false→ ∀{w8:World} {σ8:Q6},Stp w σ w8 σ8→SLe σ5 σ8→UpI c.methods.length (fun n w'=> ∃W,Stp w σ w' W∧SLe σ5 W∧((c.methods.take n).any (Eo l))=false) (.int .i64 (IntKind.i64.wrap (n+1))) w8∧UpM c.methods.length (.int .i64 (IntKind.i64.wrap (n+1)))<UpM c.methods.length (I n):=fun hb w8 σ8 q ab=>
   Y5 ca g ⟨σ8,q,ab,by rw[L2 g,H,hb];rfl⟩
  unfold Eo at C z
  refine X7 E.sat (be.lift cl) rfl ?_
  rw[fa]
  refine ld E.sat Y rfl ?_
  refine Q43 E.sat (ht.lift ⟨cw.le⟩) (y.lift cl) m5 fun w8 σ8 M=>?_
  have q:=cw.trans M
  have ab:SLe σ5 σ8:=cl.more ⟨M.le⟩
  have Y:=Y.up M
  have m1:=(m1.up E).up M
  -- what the parameters come to
  have bv: ∀{w8:World} {σ8:Q6} {K:Value→World→Prop},Stp w σ w8 σ8→SLe σ5 σ8→Sl 1 U8 σ8 pv c.methods[n].params→(∀w' W,Stp w8 σ8 w' W→K (.bool (c.methods[n].params.any fun s=> !O8 l s)) w')→Q1 P F.c [pv, .func (.func F.ao) #[] #[.pointer (some q7)]] w8 K:=by
   intro w8 σ8 K q ab m1 hK
   refine P8 (fun s=> !O8 l s) q.sat m1 (fun x w9 K _ dy hx ej=>Q8G dy (ht.lift ⟨q.le⟩) (y.lift ab) (be.lift ab) hx fun w' W hk=>ej w' hk.bel) fun w9 hb=>hK w9 σ8 (Stp.of_below q.sat hb)
  cases e1:O8 l c.methods[n].result with
  | true=>
   rw[e1] at C z
   simp only[↓M2,M2,Mb,reduceIte]
   refine ld M.sat Y rfl ?_
   (try simp only[↓M2,M2,Mb,reduceIte])
   refine bv q ab m1 fun w9 σ9 J=>?_
   cases e2:c.methods[n].params.any fun s=> !O8 l s with
   | true=>
    rw[e2] at C
    simp only[↓M2,M2,Mb,reduceIte]
    exact C rfl (q.trans J)
   | false=>
    rw[e2] at z
    simp only[↓M2,M2,Mb,reduceIte]
    exact z rfl (q.trans J) (ab.more ⟨J.le⟩)
  | false=>
   rw[e1] at C z
   simp only[↓M2,M2,Mb,reduceIte]
   refine ld M.sat Y rfl ?_
   simp only[↓M2,M2,Mb,reduceIte]
   by_cases e3:c.methods[n].result=[]
   ·rw[decide_eq_true e3] at C z
    simp only[decide_eq_true e3,↓M2,M2,Mb,reduceIte]
    refine ld M.sat Y rfl ?_
    (try simp only[↓M2,M2,Mb,reduceIte])
    refine bv q ab m1 fun w9 σ9 J=>?_
    cases e2:c.methods[n].params.any fun s=> !O8 l s with
    | true=>
     rw[e2] at C
     simp only[↓M2,M2,Mb,reduceIte]
     exact C rfl (q.trans J)
    | false=>
     rw[e2] at z
     simp only[↓M2,M2,Mb,reduceIte]
     exact z rfl (q.trans J) (ab.more ⟨J.le⟩)
   ·rw[decide_eq_false e3] at C
    simp only[decide_eq_false e3,↓M2,M2,Mb,reduceIte]
    exact C rfl q
 have g: ¬n<c.methods.length:=by simpa using hh
 rw[E5 g] at H
 have b8:F3 l c=false:=by
  unfold F3
  unfold Eo at H
  rw[dx,H];rfl
 rw[if_neg (by rw[b8];simp)] at h
 clear H hh g a6
 have y:=y.lift af
 have A:=A.lift af
 refine Q3e R.sat fun r1 w7 Z E t=>?_
 refine Q3e E.sat fun N w8 ec M u=>?_
 have aw:=t.lt
 have t:=t.up M
 have ed:r1≠N:=by omega
 have q:=(R.trans E).trans M
 have e7:w.heap.size≤r1:=Nat.le_trans R.bel.size Z
 have ep:w.heap.size≤N:=N2 ec (R.trans E)
 refine N1 M.sat fun b1 w9 σ9 dw J D=>?_
 refine N1 J.sat fun b2 d9 ff dz ae B=>?_
 have et:=D.lt
 have e0:=t.lt
 have ez:=u.lt
 have t:=(t.up J).up ae
 have u:=(u.up J).up ae
 have D:=D.up ae
 have c5:=(q.trans J).trans ae
 have bx:w.heap.size≤b1:=N2 dw q
 have bp:w.heap.size≤b2:=N2 dz (q.trans J)
 refine st0 D (by simp[Value.cells]) rfl rfl fun dl cg D=>?_
 have cz:=cg.stp c5 bx D.1
 have B:=B.upd cg (by omega)
 have c2:Kpt (fun k=>k=b1) d9 dl:=Kpt.of_upd cg rfl
 have t:=t.kp c2 (by omega)
 have u:=u.kp c2 (by omega)
 refine st0 B (by simp[Value.cells]) rfl rfl fun av b6 B=>?_
 have c3:=b6.stp cz bp B.1
 have D:=D.upd b6 (by omega)
 have dj:Kpt (fun k=>k=b2) dl av:=Kpt.of_upd b6 rfl
 have t:=t.kp dj (by omega)
 have u:=u.kp dj (by omega)
 obtain ⟨ck,dc,a5,cx,al⟩:=D.keep c3 bx
 have B:Y3 ck av b2 _:=⟨(al b2 (by omega)).trans B.1,B.2⟩
 have t:C6 ck av r1 []:=⟨(al r1 (by omega)).trans t.1,t.2⟩
 have u:C6 ck av N []:=⟨(al N (by omega)).trans u.1,u.2⟩
 obtain ⟨az,ag,bn,bw,ax⟩:=B.keep dc bp
 have t:C6 az av r1 []:=⟨(ax r1 (by omega)).trans t.1,t.2⟩
 have u:C6 az av N []:=⟨(ax N (by omega)).trans u.1,u.2⟩
 have a5:=a5.le bw
 have a5:Z4 az ⟨b1,0,none⟩ [.map (some r1)]:=a5
 have bn:Z4 az ⟨b2,0,none⟩ [.map (some N)]:=bn
 have c9:SLe σ6 az:=⟨fun b o e=>bw b o (cx b o (ae.le b o (J.le b o (M.le b o (E.le b o e)))))⟩
 clear D B
 have y:=y.lift c9
 have A:=A.lift c9
 refine X7 ag.sat y rfl ?_
 rw[fa]
 refine ld ag.sat A rfl ?_
 rw[Qh]
 refine Q79 Ry ([],[]) (fun s w'=>H5 (w'.heap[r1]?) (vals s.1)∧H5 (w'.heap[N]?) (vals s.2)) (fun k=>k=r1∨k=N) ag.sat (ht.lift ⟨ag.le⟩) ok.len ok.sm g4
  (fun k hk=>by rcases hk with rfl | rfl;exact ⟨t.lt,t.1⟩;exact ⟨u.lt,u.1⟩) (fun s wa wb hi hk=>by rw[hk r1 (.inl rfl),hk N (.inr rfl)];exact hi) ⟨t.2,u.2⟩
  (fun s d ds wa σa K le d6 c6 hi hr ek hK=>?_) fun fe cc ah b0=>?_
 ·have ct:=(V3 ek).2.1
  exact Q74 d6 hr (ok.sm d ct) (ok.nm d ct) (a5.lift le) (bn.lift le) (c6 r1 (.inl rfl)) (c6 N (.inr rfl)) ed hi.1 hi.2 hK
 have O:=ag.nx ah fun k hk=>by rcases hk with rfl | rfl<;>assumption
 obtain ⟨dn,c8⟩:=Q3d (Mc l c.name) [] ([],[]) 0 X3b
 rw[List.nil_append,←Q7X] at dn c8
 cases cq:(J5 Ry ([],[]) (Mc l c.name) 0).1.isSome with
 | true=>
  have:Zk l c=true:=(Q4s _).2 (dn cq)
  rw[if_pos this] at h
  refine J6 ?_
  exact h _ _ O
 | false=>
  have bl:=c8 cq
  have:Zk l c=false:=by
   cases e:Zk l c with
   | false=>rfl
   | true=>exact absurd ((Q4s _).1 e) bl.no
  rw[if_neg (by rw[this];simp)] at h
  refine Z6 ?_
  have y:=y.lift ah.le
  have A:=A.lift ah.le
  rw[fa]
  refine ld O.sat A rfl ?_
  unfold Dz at h
  cases c4:c.abs with
  | true=>
   rw[c4] at h
   refine J6 ?_
   exact h _ _ O
  | false=>
   rw[c4] at h
   simp only[Bool.not_false,Bool.true_and] at h
   refine Z6 ?_
   refine X7 O.sat (bn.lift ah.le) rfl ?_
   generalize fw:(J5 Ry ([],[]) (Mc l c.name) 0).2=st at bl b0
   obtain ⟨es,am,e1,e2,e3,e4⟩:=b0.2
   have df:cc N=none:=(ah.old N u.lt).trans u.1
   obtain ⟨cy,c7⟩:=X1Q e2
   refine X3R (tm:=inferInstance) O.sat e1 fun ib fb eh eo an d8=>?_
   have bs:=(Array.getElem?_eq_some_iff.1 e1).1
   refine Kv (fun d _ w'=> ∃(W:Q6) (U:Array Nat),d=es.toList.countP (fun e=> !U.contains e.born)∧Stp w σ w' W∧SLe cc W∧W N=none∧w'.heap[N]? =some (.map es am)∧It W w' ib N es am U∧ ∀e∈es.toList,e.born∈U→ ∀k,e.key=S k→Ze l c.name k=false) _
    ⟨eh, #[],rfl,O.trans an,⟨an.le⟩,(an.old N bs).trans df,(an.bel.block N bs).trans e1,d8,by simp⟩ ?_
   rintro cj d x dd fq ⟨da,U,rfl,bu,ap,cr,bd,ay,a3⟩ ei
   have c1:w.heap.size≤ib:=Nat.le_trans O.bel.size eo
   refine X3Y ay bd e4 (fun de=>?_) fun e dp bm a7 b3 b4 dh=>?_
   ·refine J0 (vs:=[_]) rfl ?_
    refine Z6 ?_
    have:((Lr l c.name).any fun m=>Ze l c.name m.name)=false:=by
     rw[List.any_eq_false]
     intro m hm
     obtain ⟨e,he,bo⟩:=c7 m.name ((bl.c m.name).2 ⟨m,hm,rfl⟩)
     rw[a3 e he (de e he) _ bo];simp
    rw[this] at h
    exact h _ _ bu
   ·refine J0 (vs:=[_,_,_]) rfl ?_
    refine J6 ?_
    have ao:dp.heap[N]? =some (.map es am):=by
     rw[b3.block N (Array.getElem?_eq_some_iff.1 bd).1 (by omega)];exact bd
    have ce:=ay.1
    have aj:Stp w σ dp da:=bu.kp b3 fun k hk=>by rw[hk];exact ⟨c1,ce⟩
    refine X2J dh ao bm (e3.imp fun b7=>Nat.ne_of_lt b7) ?_
    refine J0 (vs:=[_,_]) rfl ?_
    obtain ⟨k,bo,d4⟩:=cy e bm
    have e8:SLe cc da:=ap
    refine X7 aj.sat (y.lift ap) rfl ?_
    rw[fa]
    refine ld aj.sat (A.lift ap) rfl ?_
    rw[bo]
    refine X0S aj.sat (ht.lift ⟨aj.le⟩) ok fun pv cv hv fd fh L dq=>?_
    refine J0 (vs:=[_,_,_]) rfl ?_
    refine J0 (vs:=[_,_,_]) rfl ?_
    refine J0 (vs:=[_,_,_]) rfl ?_
    refine Y7 L.sat (by rfl) rfl (Rep.one dq) fun fx d1 d3 X bz=>?_
    have a9:=(aj.trans L).trans X
    have Q:Ze l c.name k=true→ ∀{w8:World} {σ8:Q6},Stp w σ w8 σ8→K (.int .i64 67) w8:=fun hb w8 σ8 q=>by
     obtain ⟨m,hm,b8⟩:=(bl.c k).1 d4
     have:((Lr l c.name).any fun m=>Ze l c.name m.name)=true:=List.any_eq_true.2 ⟨m,hm,by rw[b8];exact hb⟩
     rw[this] at h
     exact h _ _ q
    have cb:Ze l c.name k=false→cj () d1:=fun hb=>by
     have dg: ∀e':MapEntry,e'.born∈U.push e.born↔e'.born∈U∨e'.born=e.born:=fun e'=>by simp
     refine ei _ _ _ ?_ ⟨d3,U.push e.born,rfl,a9,ap.more ⟨fun b o h=>X.le _ _ (L.le _ _ h)⟩,?_,?_,(b4.step L).step X,fun e' dm d2 k' ci=>?_⟩
     ·refine Q46 (fun x _ hx=>?_) ⟨e,bm,?_,?_⟩
      ·simp only[Bool.not_eq_true',Array.contains_push,Bool.or_eq_false_iff] at hx⊢
       exact hx.1
      ·simpa using a7
      ·simp
     ·have a8:=(Array.getElem?_eq_some_iff.1 ao).1
      rw[X.old N (Nat.lt_of_lt_of_le a8 L.bel.size),L.old N a8];exact cr
     ·have a8:=(Array.getElem?_eq_some_iff.1 ao).1
      rw[X.bel.block N (Nat.lt_of_lt_of_le a8 L.bel.size),L.bel.block N a8];exact ao
     ·rcases (dg e').1 d2 with h1 | h1
      ·exact a3 e' dm h1 k' ci
      ·have:e'=e:=by
        have ee:(es.toList.map (·.born)).Nodup:=e3.imp fun b7=>Nat.ne_of_lt b7
        obtain ⟨i,hi,rfl⟩:=List.getElem_of_mem dm
        obtain ⟨j,hj,rfl⟩:=List.getElem_of_mem bm
        have h5:(es.toList.map (·.born))[i]'(by simpa using hi)=(es.toList.map (·.born))[j]'(by simpa using hj):=by simpa using h1
        have:=(List.getElem_inj ee).1 h5
        subst this;rfl
       subst this
       rw[bo] at ci
       have:k=k':=by
        have:=ci
        simp at this
        exact this
       rw[←this];exact hb
    unfold Ze at Q cb
    cases di:V2 l c.name k with
    | none=>
     rw[di] at Q
     simp only[↓M2,M2,Mb,reduceIte,Option.isSome_none]
     exact Q rfl a9
    | some r=>
     rw[di] at Q cb bz
     simp only[↓M2,M2,Mb,reduceIte,Option.isSome_some]
     refine ld X.sat bz rfl ?_
     (try simp only[↓M2,M2,Mb,reduceIte])
     cases bk:r.2.abs with
     | true=>
      exact Q7 (fun _=>Q bk a9) (fun e=>absurd (bk.symm.trans e) (by simp))
     | false=>
      exact Q7 (fun e=>absurd (bk.symm.trans e) (by simp)) (fun _=>cb bk))
end Go.Proofs.YtjdiakhipmggjaaGreatDoor

namespace Go.Emb
open Go.RowKit Go.Hm
variable {P : Program} {w w0 w1 w' w'' : World} {K : Value → World → Prop} {σ σ0 σ1 σ' : Q6}
theorem X3W {t e:TypeId} {n a:Nat} {z:Value} [ta:TA P t n e] [tz:TZ P e 1 a z] [tg:TG P e false] {cs:List Value} {i:Nat} {v:Value} (d:i<n) (b:cs[i]? =some v) (h:K v w):C5 P t (.agg cs.toArray) (I i) w K:=by
 unfold C5
 have c:(0:Int)≤i∧(i:Int)<n:=⟨by omega,by omega⟩
 rw[X9 (v:=v) (w':=w) (by
  simp only[Instr.index,asIntOf,Sem.run_bind,Sem.run_pure,Result.andThen_ok,run_underlying ta.h,c,and_self,if_true,L4 tz,part,Yd tg]
  simp[b])]
 exact h
theorem Q8g {α:Type} {R:Q6→α→List Value→Prop} {B sz:Nat} {e:TypeId} {v:Value} {xs:List α} {a t:TypeId} {cs:List Bool} [ts:TS P a e] (h:V6 B e sz R σ w v xs) (b:K (I xs.length) w):X2 P .len [a] t cs [v] w K:=Q1x (J7.of_acc h) b
theorem Jv {α:Type} {R:Q6→α→List Value→Prop} {B sz:Nat} {e:TypeId} {v:Value} {xs:List α} (h:V6 B e sz R σ w v xs):v.cells= #[v]∧v.oneCell'=true:=by
 obtain ⟨cells,a,_⟩:=h
 rcases a.2 with ⟨rfl,_⟩ | ⟨g,b,c,rfl,_⟩<;>exact ⟨rfl,rfl⟩
end Go.Emb
namespace Go.Proofs.YtjdiakhipmggjaaGreatDoor
open Go.Emb Go.RowKit Go.Kd Go.Hm
variable {w : World} {K : Value → World → Prop} {σ : Q6} {v : Value} {l : List Cla}
theorem X2v (B:X3 w σ) (D:Glb σ) (h: ∀r w' σ',Stp w σ w' σ'→V6 w.heap.size T.b 8 V0 σ' w' r I3→K r w'):Q1 P F.cF [] w K:=Q6j (by
 unfold Q0Z
 refine W1 (cells:= #[S U0,S [], .slice none 0 0, .bool false, .bool false, .bool false, .slice none 0 0, .slice none 0 0]) (by kernel_rfl) ?_
 refine W1 (cells:= #[S Qm,S D7, .bool false]) (by kernel_rfl) ?_
 refine T4 (R:=S2) (sz:=3) B [.agg #[S Qm,S D7, .bool false]] [⟨Qm,D7,false⟩] rfl rfl (by simp;rfl) rfl ⟨⟨rfl,by decide,by decide⟩,trivial⟩ fun L w1 σ1 c i=>?_
 have g:=i
 obtain ⟨y,b,rfl,_⟩:=g
 refine W1 (cells:= #[S L5,S U0, .slice none 0 0, .bool false, .bool false, .bool false, .slice y 1 b, .slice none 0 0]) (by kernel_rfl) ?_
 refine Zf (R:=V0) (sz:=8) c [.agg #[S U0,S [], .slice none 0 0, .bool false, .bool false, .bool false, .slice none 0 0, .slice none 0 0], .agg #[S L5,S U0, .slice none 0 0, .bool false, .bool false, .bool false, .slice y 1 b, .slice none 0 0]]
  [⟨U0,[],[],false,false,false,[],[]⟩,⟨L5,U0,[],false,false,false,[⟨Qm,D7,false⟩],[]⟩] rfl rfl (by simp;exact ⟨rfl,rfl⟩) rfl
  ⟨⟨_,_,_,rfl,Sl.nil,Sl.nil,Sl.nil,by decide,by decide⟩,⟨_,_,_,rfl,Sl.nil,i,Sl.nil,by decide,by decide⟩,trivial⟩ fun N J m j _=>?_
 have u:=D.lift ⟨c.le⟩
 refine Y2 (cs:=U4.map S) m.sat u.flt rfl ?_
 refine E7 6 (fun n a w'=> ∃σ',Stp w σ w' σ'∧V6 w.heap.size T.b 8 V0 σ' w' a ([⟨U0,[],[],false,false,false,[],[]⟩,⟨L5,U0,[],false,false,false,[⟨Qm,D7,false⟩],[]⟩]++(U4.take n).map fun n=>⟨n,L5,[],false,false,true,[],[]⟩)) ⟨σ1,c.trans m,j⟩ fun n a M d E o=>?_
 obtain ⟨O,p,e⟩:=o
 have z:U4.length=6:=rfl
 refine Z1 ?_
 refine Q7 (fun hh=>?_) (fun hh=>?_)
 ·have f:n<6:=by have:=of_decide_eq_true hh;omega
  refine X3W (v:=S (U4[n]'(by omega))) f (by rw[List.getElem?_map,List.getElem?_eq_getElem (by omega)];rfl) ?_
  refine W1 (cells:= #[S (U4[n]'(by omega)),S L5, .slice none 0 0, .bool false, .bool false, .bool true, .slice none 0 0, .slice none 0 0]) (by kernel_rfl) ?_
  have k:(U4[n]'(by omega)).length≤10:=by
   have: ∀x∈U4,x.length≤10:=by decide
   exact this _ (List.getElem_mem _)
  refine Un (x:=⟨U4[n]'(by omega),L5,[],false,false,true,[],[]⟩) p e ⟨_,_,_,rfl,Sl.nil,Sl.nil,Sl.nil,Nat.le_trans k (by decide),(by decide:L5.length≤U1)⟩ rfl rfl rfl (by simp;omega) (by simp;omega) fun s r H A C t q _=>?_
  refine O5 ?_
  refine J4 (by omega) f ⟨A,t,?_⟩
  rw[List.take_add_one,List.getElem?_eq_getElem (by omega),List.map_append,←List.append_assoc]
  exact q
 ·have f: ¬n<6:=by have:=of_decide_eq_false hh;omega
  rw[List.take_of_length_le (by omega)] at e
  exact h _ _ _ p e)
end Go.Proofs.YtjdiakhipmggjaaGreatDoor

namespace Go.Hm
open Go.Kd
def D6 {α:Type} (f:α→Int):List α→Nat→Option (Nat×Int)
 | [],_=>none
 | x::r,i=>if f x=0 then D6 f r (i+1) else some (i,f x)
theorem T0 {α:Type} {f:α→Int}: ∀{l:List α} {i:Nat},D6 f l i=none→ ∀x∈l,f x=0
 | [],_,_=>by simp
 | x::r,i,h=>by
  simp only[D6] at h
  split at h
  ·rename_i a
   intro y hy
   rcases List.mem_cons.1 hy with rfl | hy
   ·exact a
   ·exact T0 h y hy
  ·cases h
def Ci (a:List Cla):Option Nat:=(List.range a.length).find? fun i=>(Z2 (a.take i) (Y4 a i)).isSome
def Q5 (l:List Cla):List Cla:=I3++l
def Sy (a:Cla→Int) (l:List Cla):Option (Int×Int):=match D6 a l 0 with
 | some (i,e)=>some (i,e)
 | none=>match Ci (Q5 l) with
  | some i=>some ((i:Int)-8,60)
  | none=>match D6 (fun c=>(D9 (Q5 l) c:Int)) l 0 with
   | some (i,e)=>some (i,e)
   | none=>match l.findIdx? (T1 (Q5 l)) with
    | some i=>some (i,63)
    | none=>match (W2 (Q5 l) 8).find? fun j=> !decide (V9 (Q5 l) ((Q5 l).getD j Cla.zero)=0) with
     | some j=>some ((j:Int)-8,V9 (Q5 l) ((Q5 l).getD j Cla.zero))
     | none=>none
theorem Q61 {s:X0} (h:name s=true):s.length≤32:=by
 cases s with
 | nil=>simp
 | cons c r=>simp only[name,Bool.and_eq_true,decide_eq_true_eq] at h;exact h.1.1
theorem X0m {s:X0} (h:M9 s=true):s.length≤32:=Q61 (Ml (by rw[h,Bool.or_true]))
theorem Q7R {s:X0} (h:E2 s=true):s.length≤32:=by
 cases s with
 | nil=>simp
 | cons c r=>simp only[E2,Bool.and_eq_true] at h;exact Q61 h.1
theorem Pw {a:List Cla} (h:Ci a=none):A4 a:=by
 unfold Ci at h
 rw[List.find?_eq_none] at h
 unfold A4
 rw[List.nodup_iff_pairwise_ne,List.pairwise_iff_getElem]
 intro i j d b k e
 simp only[List.length_map] at d b
 have:=h j (by simp;exact b)
 apply this
 simp only[List.getElem_map] at e
 cases f:Z2 (a.take j) (Y4 a j) with
 | some _=>rfl
 | none=>
  have c:=List.findIdx?_eq_none_iff.1 f a[i] (List.mem_take_iff_getElem.2 ⟨i,by omega,rfl⟩)
  have g:Y4 a j=a[j].name:=by unfold Y4;rw[List.getD_eq_getElem?_getD,List.getElem?_eq_getElem b];rfl
  rw[g] at c
  simp[e] at c
theorem Ui: ∀c∈I3,Qo c∧Nm c∧c.like=[]:=by
 have h: ∀c∈I3,(c.like=[]∧c.methods=[]∧c.fields.length≤1∧c.name.length≤100∧ ∀f∈c.fields,f.name.length≤100∧f.kind.length≤100):=by decide
 intro c g
 obtain ⟨b,a,i,d,e⟩:=h c g
 refine ⟨⟨by rw[b];simp,by omega,by rw[a];simp,by rw[a];simp⟩,⟨d,e,by rw[a];simp⟩,b⟩
theorem X0C: ∀c∈I3,(c.name=U0∧U3 c=[[]])∨(c.name=L5∧U3 c=[U0])∨(c.name∈U4∧U3 c=[L5]):=by decide
theorem Q64 {l:List Cla} (q:A4 (Q5 l)) (r: ∀c∈l,c.name≠[]) (s: ∀c∈l,T1 (Q5 l) c=false):Ji (Q5 l):=by
 have k:lk (Q5 l) []=none:=by
  cases h:lk (Q5 l) [] with
  | none=>rfl
  | some c=>
   obtain ⟨e,hm,_⟩:=V3 h
   rcases List.mem_append.1 hm with hm | hm
   ·have: ∀c∈I3,c.name≠[]:=by decide
    exact absurd e (this c hm)
   ·exact absurd e (r c hm)
 have j:lk (Q5 l) U0=some ⟨U0,[],[],false,false,false,[],[]⟩:=q.lk (c:=⟨U0,[],[],false,false,false,[],[]⟩) (List.mem_append_left _ (by decide))
 have i:lk (Q5 l) L5=some ⟨L5,U0,[],false,false,false,[⟨Qm,D7,false⟩],[]⟩:=q.lk (c:=⟨L5,U0,[],false,false,false,[⟨Qm,D7,false⟩],[]⟩) (List.mem_append_left _ (by decide))
 have o: ∀b,¬Reach (lk (Q5 l)) [] b:=fun b h=>by obtain ⟨c,f⟩:=h.left;rw[k] at f;cases f
 have p: ∀b,Reach (lk (Q5 l)) U0 b→b=U0:=by
  intro b h
  cases h with
  | refl=>rfl
  | step f d g=>
   rw[j] at f;cases f
   simp[U3] at d;subst d
   exact absurd g (o b)
 have w: ∀b,Reach (lk (Q5 l)) L5 b→b=L5∨b=U0:=by
  intro b h
  cases h with
  | refl=>exact .inl rfl
  | step f d g=>
   rw[i] at f;cases f
   simp[U3] at d;subst d
   exact .inr (p b g)
 rintro a ⟨c,f,u,d,g⟩
 obtain ⟨e,hm,_⟩:=V3 f
 rcases List.mem_append.1 hm with hm | hm
 ·rcases X0C c hm with ⟨m,n⟩ | ⟨m,n⟩ | ⟨m,n⟩<;>rw[n] at d<;>simp at d<;>subst d
  ·exact o _ g
  ·have:=p _ g
   rw[←e,m] at this
   exact absurd this (by decide)
  ·have t: ∀x∈U4,x≠L5∧x≠U0:=by decide
   obtain ⟨z,v⟩:=t _ m
   rw[←e] at g
   rcases w _ g with h | h
   ·exact z h
   ·exact v h
 ·have:=s c hm
  unfold T1 at this
  have y:=List.any_eq_false.1 this u d
  apply y
  rw[List.contains_iff_mem,Uz,e];exact g
end Go.Hm
namespace Go.Proofs.YtjdiakhipmggjaaGreatDoor
open Go.Emb Go.RowKit Go.Kd Go.Hm
theorem Gl {s:X0} (h:right s=true):s.length≤38:=by
 simp only[right,Bool.and_eq_true,decide_eq_true_eq] at h
 have e:=Q1J s
 have:(base s).1.length≤32:=by
  have d:=h.2
  have b:=Ml d
  cases a:(base s).1 with
  | nil=>simp
  | cons c r=>
   rw[a] at b
   simp only[name,Bool.and_eq_true,decide_eq_true_eq] at b
   exact b.1.1
 omega
theorem Fe {c:Cla} (h:E0 c=0):Qo c∧Nm c∧c.name≠[]:=by
 unfold E0 at h
 split at h
 ·cases h
 ·rename_i b
  split at h
  ·rename_i g
   simp only[Zy,Bool.or_eq_true,decide_eq_true_eq,not_or,List.any_eq_true,not_exists,not_and] at b
   obtain ⟨⟨⟨k,v⟩,t⟩,w⟩:=b
   simp only[Mq,Bool.and_eq_true] at g
   obtain ⟨⟨⟨⟨⟨⟨⟨⟨r,s⟩,y⟩,z⟩,B⟩,u⟩,A⟩,l⟩,o⟩:=g
   have a:M9 c.name=true:=List.all_eq_true.1 r c.name (by simp)
   have d: ∀m∈c.methods,m.params.length≤32∧m.catches.length≤32∧m.code.length≤200:=fun m b=>by
    have:=k m b
    simp only[Wo,Bool.or_eq_true,decide_eq_true_eq,not_or] at this
    omega
   refine ⟨⟨by omega,by omega,by omega,fun m b=>by have:=d m b;unfold SmM;omega⟩,⟨by have:=X0m a;omega,fun f q=>?_,fun m b=>?_⟩,fun e=>by rw[e] at a;simp[M9] at a⟩
   ·have:=List.all_eq_true.1 l f q
    simp only[He,Bool.and_eq_true] at this
    have i:=Q7R this.1
    have j:=Gl this.2
    omega
   ·have:=List.all_eq_true.1 o m b
    simp only[K1,Bool.and_eq_true,Bool.or_eq_true,decide_eq_true_eq,List.all_eq_true] at this
    obtain ⟨⟨⟨_,i⟩,j⟩,_⟩:=this
    refine ⟨?_,fun p n=>by have:=Gl (i p n);omega⟩
    rcases j with e | e
    ·rw[e];simp
    ·have:=Gl e;omega
  ·cases h
end Go.Proofs.YtjdiakhipmggjaaGreatDoor

namespace Go.Hm
open Go.Kd
theorem Wj {α:Type} {f:α→Int} {xs:List α} {n:Nat} (h:n<xs.length) (a:D6 f xs 0=D6 f (xs.drop n) n):D6 f xs 0=if f xs[n]=0 then D6 f (xs.drop (n+1)) (n+1) else some (n,f xs[n]):=by
 rw[a,List.drop_eq_getElem_cons h];rfl
theorem Q85 {a:List Cla} {n:Nat} (h:n<a.length) (k:X0):Z2 (a.take (n+1)) k=match Z2 (a.take n) k with
 | some i=>some i
 | none=>if a[n].name=k then some n else none:=by
 unfold Z2
 rw[List.take_add_one,List.getElem?_eq_getElem h]
 simp only[Option.toList_some,List.findIdx?_append]
 cases (a.take n).findIdx? fun c=>decide (c.name=k) with
 | some i=>rfl
 | none=>
  simp only[Option.none_or,List.findIdx?_cons,List.findIdx?_nil,List.length_take]
  by_cases e:a[n].name=k
  ·simp[e];omega
  ·simp[e]
end Go.Hm
namespace Go.Proofs.YtjdiakhipmggjaaGreatDoor
open Go.Emb Go.RowKit Go.Kd Go.Hm
variable {w : World} {K : Value → World → Prop} {σ : Q6} {v : Value} {l : List Cla}
theorem Pi {a:List Cla} {n:Nat} (h:n<a.length):Y4 a n=a[n].name:=by unfold Y4;rw[List.getD_eq_getElem?_getD,List.getElem?_eq_getElem h];rfl
set_option maxHeartbeats 1000000 in
theorem X49 {lv:Value} (hs:X3 w σ) (hg:Glb σ) (hl:Sl 8 V0 σ lv l) (hlen:l.length≤1000) (hsm: ∀c∈l,Qo c)
 (h1: ∀i e w' σ',Sy E0 l=some (i,e)→Stp w σ w' σ'→K (.tuple #[.pointer none,I i,I e]) w')
 (h0: ∀v w' σ',Sy E0 l=none→Stp w σ w' σ'→Tab σ' v (Q5 l)→Ok (Q5 l)→A4 (Q5 l)→K (.tuple #[v,I 0,I 0]) w'):Q1 P F.cN [lv] w K:=Q7U (by
 unfold Q2S
 have hgl:I3.length=8:=rfl
 have hal:(Q5 l).length=8+l.length:=by simp[Q5,hgl]
 refine X2v hs hg fun x0 w1 σ1 hk1 ha1=>?_
 refine Q3e hk1.sat fun r w2 hr hk2 hm2=>?_
 have ha2:=ha1.up hk2
 have hx0:x0.cells= #[x0]∧x0.oneCell'=true:=Jv ha1
 have hx0s: ∃a n c,x0= .slice a n c:=by
  obtain ⟨cells,q1,_⟩:=ha1
  rcases q1.2 with ⟨rfl,_⟩ | ⟨g,cap,cur,rfl,_⟩<;>exact ⟨_,_,_,rfl⟩
 have hx0r:x0.ownBlock≠some r:=fun e=>by have:=(ha1.mem r e).2.1;omega
 obtain ⟨a0,n0,c0,hx0e⟩:=hx0s
 rw[hx0e]
 refine W1 (cells:= #[.slice a0 n0 c0, .map (some r)]) (by kernel_rfl) ?_
 rw[←hx0e]
 refine En (cs:=[x0, .map (some r)]) hk2.sat fun bt w3 σ3 hbt hk3 hbm=>?_
 have hS3:=(hk1.trans hk2).trans hk3
 have ha3:=ha2.up hk3
 have hm3:=hm2.up hk3
 have hrw:w.heap.size≤r:=Nat.le_trans hk1.bel.size hr
 have hrl:r<w2.heap.size:=hm2.lt
 have hbtw:w.heap.size≤bt:=N2 hbt (hk1.trans hk2)
 have hrbt:r≠bt:=by omega
 have hx0b:x0.ownBlock≠some bt:=fun e=>by have:=(ha2.mem bt e).2.1;omega
 rw[L9,fa]
 refine Yj hbm rfl ?_
 refine Q8g ha3 ?_
 rw[hgl]
 have hl3:=hl.up hS3
 refine Q8 hl3 ?_
 -- classes, each by itself
 refine U2 l.length (fun n w'=> ∃σ' x,Stp w σ w' σ'∧SLe σ3 σ'∧Y3 σ' w' bt [x, .map (some r)]∧V6 w.heap.size T.b 8 V0 σ' w' x (I3++l.take n)∧C6 σ' w' r []∧x.ownBlock≠some bt∧x.ownBlock≠some r∧D6 E0 l 0=D6 E0 (l.drop n) n)
  ⟨σ3,x0,hS3,SLe.refl _,hbm,by simpa using ha3,hm3,hx0b,hx0r,rfl⟩ fun n w4 d hn hinv=>?_
 obtain ⟨σ4,x,hS4,le4,hb4,ha4,hm4,hxb,hxr,hfb⟩:=hinv
 refine Z1 ?_
 refine Q7 (fun hh=>?_) (fun hh=>?_)
 ·have hn':n<l.length:=by simpa using hh
  refine N3 (hl3.lift le4) hn' fun p cells hl1 hl2 hr1=>?_
  refine Y2 hS4.sat hl1 hl2 ?_
  refine Y7 hS4.sat (by rfl) hl2 (Rep.one hr1) fun q w5 σ5 hk5 hq5=>?_
  have hS5:=hS4.trans hk5
  have hr5:=RCl_lift hr1 ⟨hk5.le⟩
  refine Y2 hk5.sat hq5 hl2 ?_
  have hsmn:=hsm _ (List.getElem_mem hn')
  refine X24 hk5.sat (hg.lift ⟨hS5.le⟩) hr5 hsmn.1 fun w6 σ6 hk6=>?_
  have hS6:=hS5.trans hk6
  have hfb2:=Wj hn' hfb
  refine Zb ?_
  refine Q7 (fun hh2=>?_) (fun hh2=>?_)
  ·have hne: ¬E0 l[n]=0:=by simpa using hh2
   rw[if_neg hne] at hfb2
   refine h1 _ _ _ _ ?_ hS6
   unfold Sy
   rw[hfb2]
  ·have hz:E0 l[n]=0:=by simpa using hh2
   rw[if_pos hz] at hfb2
   have hk56:=hk5.trans hk6
   have hb6:=hb4.up hk56
   have ha6:=ha4.up hk56
   have hm6:=hm4.up hk56
   have hq6:=hq5.up hk6
   have hr6:=RCl_lift hr5 ⟨hk6.le⟩
   have hxs: ∀k,x.ownBlock=some k→k<w6.heap.size:=fun k hk=>(ha6.mem k hk).2.1
   refine J9 hk6.sat ?_
   refine X4 (.pointer (some ⟨bt,0,none⟩)) (fun w hb=>by rw[L9];exact X6 rfl) ?_
   refine X4 (.pointer (some ((⟨bt,0,none⟩:Addr).add 0))) (fun t w hb e=>by rw[e,fa];exact X6 rfl) ?_
   refine X4 x (fun t w hb e=>by rw[e];exact Yj (hb6.step hb.stp) rfl (X6 rfl)) ?_
   refine X4 (.agg cells.toArray) (fun w hb=>Y2 hb.sat hq6 hl2 (X6 rfl)) ?_
   refine Wi (Φ:=fun σ' v=> ∃ds:List Value,v= .agg ds.toArray∧ds.length=8∧V0 σ' l[n] ds) (fun t w hb e=>by
    rw[e];exact X0l hb.sat hr6 hsmn fun lv fv mv w' σ' hk hrc=>Cc hb hk ⟨_,rfl,rfl,hrc⟩) ?_
   refine Wi (w:=w6) (σ:=σ6) (Φ:=fun σ' v=>Sl 8 V0 σ' v [l[n]]) (fun t w hb e=>by
    obtain ⟨σ',hk,ds,rfl,hd1,hd2⟩:=e
    refine T4 (R:=V0) (sz:=8) hk.sat [.agg ds.toArray] [l[n]] rfl rfl (by simpa [Value.cells] using hd1) rfl ⟨by simpa [Value.cells] using hd2,trivial⟩ fun u w2 σ2 hk2 hu=>?_
    exact ⟨hk2.bel,σ2,hk.trans hk2,hu⟩) ?_
   rintro t43 t44 t45 t46 t47 t48 w7 hb7 _ _ e45 _ _ ⟨σ8,hk8,hu8⟩
   subst e45
   have hS8:=hS6.trans hk8
   have hb8:=hb6.up hk8
   have ha8:=ha6.up hk8
   have hm8:=hm6.up hk8
   have hbl:=hb6.lt
   have hml:=hm6.lt
   refine Wl hS8 ha8 hu8 rfl (by simp[hgl];omega) (by simp[hgl];omega) fun x' w9 hn9 hS9 ha9 hat9=>?_
   have hb9:=hb8.nx hn9 hxb
   have hm9:=hm8.nx hn9 hxr
   have hxb':x'.ownBlock≠some bt:=fun e=>by
    rcases hat9 with e2 | e2
    ·exact hxb (e2▸e)
    ·have:=e2 bt e;have:=hk8.bel.size;omega
   have hxr':x'.ownBlock≠some r:=fun e=>by
    rcases hat9 with e2 | e2
    ·exact hxr (e2▸e)
    ·have:=e2 r e;have:=hk8.bel.size;omega
   obtain ⟨hxc1,hxc2⟩:=Jv ha9
   rw[L9,fa]
   refine Jy hb9 (by simp) hxc1 hxc2 fun w10 u10 hb10=>?_
   have hS10:=u10.stp hS9 hbtw hb9.1
   have k10:Kpt (fun k=>k=bt) w9 w10:=Kpt.of_upd u10 rfl
   refine O5 ?_
   refine Y5 hl3.max hn' ⟨σ8,x',hS10,le4.more ⟨fun b o e=>hk8.le _ _ (hk56.le _ _ e)⟩,hb10,?_,hm9.kp k10 hrbt,hxb',hxr',hfb2⟩
   have:=ha9.kp k10 fun k hk e=>hxb' (e▸hk)
   rw[List.take_add_one,List.getElem?_eq_getElem hn',←List.append_assoc]
   exact this
 have hn': ¬n<l.length:=by simpa using hh
 rw[List.take_of_length_le (by omega)] at ha4
 rw[List.drop_eq_nil_of_le (by omega)] at hfb
 have hfb:D6 E0 l 0=none:=hfb
 have hck:=T0 hfb
 have hcf: ∀c∈l,Qo c∧Nm c∧c.name≠[]:=fun c hc=>Fe (hck c hc)
 have hsmall: ∀c∈Q5 l,Qo c:=fun c hc=>by
  rcases List.mem_append.1 hc with hc | hc
  ·exact (Ui c hc).1
  ·exact (hcf c hc).1
 have hnmall: ∀c∈Q5 l,Nm c:=fun c hc=>by
  rcases List.mem_append.1 hc with hc | hc
  ·exact (Ui c hc).2.1
  ·exact (hcf c hc).2.1
 have hlenall:(Q5 l).length≤100000:=by omega
 unfold Sy at h1 h0
 rw[hfb] at h1 h0
 simp only at h1 h0
 -- from now on the classes stay
 obtain ⟨σ5,hS5,hv5,le5,old5⟩:=ha4.keep hS4
 have hb5:Y3 σ5 w4 bt _:=⟨(old5 bt fun e=>hxb e.symm).trans hb4.1,hb4.2⟩
 have hm5:C6 σ5 w4 r []:=⟨(old5 r fun e=>hxr e.symm).trans hm4.1,hm4.2⟩
 obtain ⟨σ6,hS6,hb6,le6,old6⟩:=hb5.keep hS5 hbtw
 have hm6:C6 σ6 w4 r []:=⟨(old6 r hrbt).trans hm5.1,hm5.2⟩
 have hv6:Sl 8 V0 σ6 x (Q5 l):=hv5.le le6
 clear hb5 hb4 ha4
 rw[L9,fa]
 refine ld hS6.sat hb6 rfl ?_
 refine Q8 hv6 ?_
 refine U2 (Q5 l).length (fun n w'=> ∃σ' m,Stp w σ w' σ'∧SLe σ6 σ'∧C6 σ' w' r m∧(∀k,C8 m k=(Z2 ((Q5 l).take n) k).map (fun i:Nat=>I (i:Int)))∧ ∀j,j<n→(Z2 ((Q5 l).take j) (Y4 (Q5 l) j)).isSome=false)
  ⟨σ6,[],hS6,SLe.refl _,hm6,by simp[C8,Z2],by intro j hj;omega⟩ fun n w5 d hn2 hinv=>?_
 obtain ⟨σ7,m,hS7,le7,hm7,hlm,hnd⟩:=hinv
 refine Z1 ?_
 refine Q7 (fun hh2=>?_) (fun hh2=>?_)
 ·have hn3:n<(Q5 l).length:=by simpa using hh2
  refine N3 (hv6.lift le7) hn3 fun p cells hl1 hl2 hr1=>?_
  refine Y2 hS7.sat hl1 hl2 ?_
  refine Y7 hS7.sat (by rfl) hl2 (Rep.one hr1) fun q w6 σ8 hk8 hq8=>?_
  obtain ⟨lv',fv,mv,rfl,f1,f2,f3,f4,f5⟩:=hr1
  have hS8:=hS7.trans hk8
  have le8:SLe σ6 σ8:=le7.more ⟨hk8.le⟩
  have hm8:=hm7.up hk8
  have hb8:=hb6.lift le8
  rw[fa]
  refine ld hk8.sat hq8 rfl ?_
  refine Ez ?_
  unfold Uk
  rw[L9,fa]
  refine ld hk8.sat hb8 rfl ?_
  refine Q9K X8 hm8.2 _ ?_
  refine J0 (vs:=[_,_]) rfl ?_
  refine J0 (vs:=[_,_]) rfl ?_
  have hna:=Pi hn3
  have hfd:=hlm (Q5 l)[n].name
  cases hfc:Z2 ((Q5 l).take n) (Q5 l)[n].name with
  | some i=>
   rw[hfc] at hfd
   rw[hfd]
   refine J6 ?_
   have hdup:Ci (Q5 l)=some n:=by
    unfold Ci
    rw[List.find?_range_eq_some]
    refine ⟨by rw[hna,hfc];rfl,by simpa using hn3,fun j hj=>by rw[hnd j hj];rfl⟩
   refine Zm ⟨by omega,by omega⟩ ?_
   refine h1 _ _ _ _ ?_ hS8
   rw[hdup]
   rfl
  | none=>
   rw[hfc] at hfd
   rw[hfd]
   refine Z6 ?_
   refine J9 hk8.sat ?_
   refine X4 (.pointer (some ⟨bt,0,none⟩)) (fun w hb=>by rw[L9];exact X6 rfl) ?_
   refine X4 (.pointer (some ((⟨bt,0,none⟩:Addr).add 1))) (fun t w hb e=>by rw[e,fa];exact X6 rfl) ?_
   refine X4 (.pointer (some (q.add 0))) (fun w hb=>by rw[fa];exact X6 rfl) ?_
   refine X4 (.map (some r)) (fun t w hb e=>by rw[e];exact ld hb.sat hb8 rfl (X6 rfl)) ?_
   refine X4 (S (Q5 l)[n].name) (fun t w hb e=>by rw[e];exact ld hb.sat hq8 rfl (X6 rfl)) ?_
   rintro t71 t72 t74 t73 t75 w9 hb9 _ _ _ rfl rfl
   refine Ik X8 (hm8.up hb9.stp) _ (I n) fun w10 u10 hm10=>?_
   have hS9:=hS8.trans hb9.stp
   have hS10:=u10.stp hS9 hrw hm10.1
   refine O5 ?_
   refine Y5 (by omega) hn3 ⟨σ8,_,hS10,le8,hm10,fun k=>?_,fun j hj=>?_⟩
   ·rw[Q4l,Q85 hn3 k]
    by_cases e:(Q5 l)[n].name=k
    ·subst e
     rw[if_pos rfl,hfc];simp
    ·rw[if_neg e,hlm k]
     cases Z2 ((Q5 l).take n) k with
     | some i=>rfl
     | none=>simp[e]
   ·by_cases e:j=n
    ·subst e;rw[hna,hfc];rfl
    ·exact hnd j (by omega)
 have hn3: ¬n<(Q5 l).length:=by simpa using hh2
 have hne:n=(Q5 l).length:=by omega
 subst hne
 rw[List.take_of_length_le (Nat.le_refl _)] at hlm
 have hdup:Ci (Q5 l)=none:=by
  unfold Ci
  rw[List.find?_eq_none]
  intro j hj
  rw[hnd j (by simpa using hj)];simp
 rw[hdup] at h1 h0
 simp only at h1 h0
 have hown:=Pw hdup
 obtain ⟨σ8,hS8,hm8,le8,_⟩:=hm7.keep hS7 hrw
 have le68:SLe σ6 σ8:=le7.more ⟨le8⟩
 have ht8:Tab σ8 (.pointer (some ⟨bt,0,none⟩)) (Q5 l):=⟨⟨bt,0,none⟩,x,r,m,rfl,hb6.lift le68,hv6.lift le68,hm8,hlm⟩
 have hb8:=hb6.lift le68
 have hv8:=hv6.lift le68
 clear hm7 hm8 hh2 hn3 hn2 hh hn' hn hnd
 have hdr:(Q5 l).drop 8=l:=by simp[Q5,hgl]
 rw[L9,fa]
 refine ld hS8.sat hb8 rfl ?_
 refine Ex hv8 (some (I (8:Nat))) none 8 (Q5 l).length (.inr rfl) (.inl ⟨rfl,rfl⟩) (by omega) (Nat.le_refl _) fun v9 hv9=>?_
 rw[hdr,List.take_of_length_le (by omega)] at hv9
 refine Q8 hv9 ?_
 refine U2 l.length (fun n w'=> ∃σ',Stp w σ w' σ'∧SLe σ8 σ'∧D6 (fun c=>(D9 (Q5 l) c:Int)) l 0=D6 (fun c=>(D9 (Q5 l) c:Int)) (l.drop n) n) ⟨σ8,hS8,SLe.refl _,rfl⟩ fun n w6 d hn hinv=>?_
 obtain ⟨σ9,hS9,le9,hfu⟩:=hinv
 refine Z1 ?_
 refine Q7 (fun hh=>?_) (fun hh=>?_)
 ·have hn':n<l.length:=by simpa using hh
  refine N3 (hv9.lift le9) hn' fun p cells hl1 hl2 hr1=>?_
  refine Y2 hS9.sat hl1 hl2 ?_
  refine Y7 hS9.sat (by rfl) hl2 (Rep.one hr1) fun q w7 σ10 hk10 hq10=>?_
  have hS10:=hS9.trans hk10
  refine Y2 hk10.sat hq10 hl2 ?_
  have hfu2:=Wj hn' hfu
  refine X0L hk10.sat (ht8.lift (le9.more ⟨hk10.le⟩)) (RCl_lift hr1 ⟨hk10.le⟩) fun w8 σ11 hk11=>?_
  refine Zb ?_
  refine Q7 (fun hh2=>?_) (fun hh2=>?_)
  ·have hne: ¬(D9 (Q5 l) l[n]:Int)=0:=by simpa using hh2
   rw[if_neg hne] at hfu2
   refine h1 _ _ _ _ ?_ (hS10.trans hk11)
   rw[hfu2]
  ·have hz:(D9 (Q5 l) l[n]:Int)=0:=by simpa using hh2
   rw[if_pos hz] at hfu2
   refine O5 ?_
   exact Y5 hl3.max hn' ⟨σ11,hS10.trans hk11,le9.more ⟨fun b o e=>hk11.le _ _ (hk10.le _ _ e)⟩,hfu2⟩
 have hn': ¬n<l.length:=by simpa using hh
 rw[List.drop_eq_nil_of_le (by omega)] at hfu
 have hfu:D6 (fun c=>(D9 (Q5 l) c:Int)) l 0=none:=hfu
 rw[hfu] at h1 h0
 simp only at h1 h0
 have hup:=T0 hfu
 have ht9:=ht8.lift le9
 clear hh hn' hn
 rw[L9,fa]
 refine ld hS9.sat (hb8.lift le9) rfl ?_
 refine Ex (hv8.lift le9) (some (I (8:Nat))) none 8 (Q5 l).length (.inr rfl) (.inl ⟨rfl,rfl⟩) (by omega) (Nat.le_refl _) fun v10 hv10=>?_
 rw[hdr,List.take_of_length_le (by omega)] at hv10
 rw[Qh]
 refine Fz (T1 (Q5 l)) hS9.sat hv10 (fun c cs w7 K hc hs7 hr hlen hK=>Z7 (first:=[.pointer (some ⟨bt,0,none⟩)]) (caps:=[]) ?_) fun w7 hb7=>?_
 ·exact X2c hs7 ht9 hlenall hsmall hr fun w' σ' hk=>hK w' hk.bel
 have hS10:=hS9.trans (Stp.of_below hS9.sat hb7)
 refine P4 ?_
 rw[A5]
 cases hlo:l.findIdx? (T1 (Q5 l)) with
 | some i=>
  refine J6 ?_
  refine h1 _ _ _ _ ?_ hS10
  rw[hlo];rfl
 | none=>
  rw[hlo] at h1 h0
  simp only at h1 h0
  refine Z6 ?_
  have hlo': ∀c∈l,T1 (Q5 l) c=false:=fun c hc=>List.findIdx?_eq_none_iff.1 hlo c hc
  have hacy:=Q64 hown (fun c hc=>(hcf c hc).2.2) hlo'
  have hfull:X0A (Q5 l):=fun c hc u hu=>by
   rcases List.mem_append.1 hc with hc | hc
   ·rw[(Ui c hc).2.2] at hu;simp at hu
   ·have:=hup c hc
    unfold D9 at this
    split at this
    ·simp at this
    ·split at this
     ·simp at this
     ·rename_i hnb
      have hnb:c.like.any (R7 (Q5 l))=false:=eq_false_of_ne_true hnb
      have:=List.any_eq_false.1 hnb u hu
      unfold R7 at this
      cases hd:lk (Q5 l) u with
      | none=>rw[hd] at this;simp at this
      | some d=>exact ⟨d,rfl⟩
  have hok:Ok (Q5 l):=⟨hacy,hlenall,hsmall,hfull,hnmall⟩
  refine X2u (frm:=8) hS10.sat (ht9.lift ⟨(Stp.of_below hS9.sat hb7).le⟩) hacy hown hlenall hsmall (by omega) (by omega) fun v11 w8 σ11 hk11 hv11 hol hoi=>?_
  have hS11:=hS10.trans hk11
  have ht11:=ht9.lift ⟨fun b o e=>hk11.le _ _ e⟩
  refine Q8 hv11 ?_
  have hil:(ints (W2 (Q5 l) 8)).length=(W2 (Q5 l) 8).length:=by simp
  rw[hil]
  refine U2 (W2 (Q5 l) 8).length (fun n w'=> ∃σ',Stp w σ w' σ'∧SLe σ11 σ'∧ ∀j∈(W2 (Q5 l) 8).take n,V9 (Q5 l) ((Q5 l).getD j Cla.zero)=0) ⟨σ11,hS11,SLe.refl _,by simp⟩ fun n w9 d hn hinv=>?_
  obtain ⟨σ12,hS12,le12,hno⟩:=hinv
  refine Z1 ?_
  refine Q7 (fun hh=>?_) (fun hh=>?_)
  ·have hn':n<(W2 (Q5 l) 8).length:=by simpa using hh
   refine N3 (hv11.lift le12) (by rw[hil];exact hn') fun p cells hl1 hl2 hr1=>?_
   obtain ⟨rfl,_⟩:=hr1
   refine X7 hS12.sat hl1 rfl ?_
   simp only[List.getElem_map]
   rw[L9,fa]
   have le8x:SLe σ8 σ12:=le9.more (SLe.more ⟨hk11.le⟩ le12)
   refine ld hS12.sat (hb8.lift le8x) rfl ?_
   have hji:=hoi _ (List.getElem_mem hn')
   refine N3 (hv8.lift le8x) hji fun p2 cells hl1 hl2 hr1=>?_
   refine Y2 hS12.sat hl1 hl2 ?_
   have hat:(Q5 l).getD (W2 (Q5 l) 8)[n] Cla.zero=(Q5 l)[(W2 (Q5 l) 8)[n]]:=by rw[List.getD_eq_getElem?_getD,List.getElem?_eq_getElem hji];rfl
   have hmem:=List.getElem_mem hji
   refine X05 hS12.sat (ht11.lift le12) hok hr1 (hsmall _ hmem) (hnmall _ hmem) fun w10 σ13 hk13=>?_
   have hS13:=hS12.trans hk13
   refine Zb ?_
   refine Q7 (fun hh2=>?_) (fun hh2=>?_)
   ·have hne: ¬V9 (Q5 l) (Q5 l)[(W2 (Q5 l) 8)[n]]=0:=by simpa using hh2
    refine Zm ⟨by omega,by omega⟩ ?_
    have hfind:(W2 (Q5 l) 8).find? (fun j=> !decide (V9 (Q5 l) ((Q5 l).getD j Cla.zero)=0))=some (W2 (Q5 l) 8)[n]:=by
     rw[List.find?_eq_some_iff_getElem]
     refine ⟨by rw[hat];simpa using hne,n,hn',rfl,fun j hj=>?_⟩
     have:=hno _ (List.mem_take_iff_getElem.2 ⟨j,by omega,rfl⟩)
     rw[this];simp
    have:=h1 (((W2 (Q5 l) 8)[n]:Int)-8) (V9 (Q5 l) (Q5 l)[(W2 (Q5 l) 8)[n]]) w10 σ13 (by rw[hfind];simp only[hat]) hS13
    exact this
   ·have hz:V9 (Q5 l) (Q5 l)[(W2 (Q5 l) 8)[n]]=0:=by simpa using hh2
    refine O5 ?_
    refine Y5 (by omega) hn' ⟨σ13,hS13,le12.more ⟨hk13.le⟩,fun j hj=>?_⟩
    rw[List.take_add_one,List.getElem?_eq_getElem hn'] at hj
    rcases List.mem_append.1 hj with hj | hj
    ·exact hno j hj
    ·simp at hj;subst hj;rw[hat];exact hz
  ·have hn': ¬n<(W2 (Q5 l) 8).length:=by simpa using hh
   rw[List.take_of_length_le (by omega)] at hno
   have hfind:(W2 (Q5 l) 8).find? (fun j=> !decide (V9 (Q5 l) ((Q5 l).getD j Cla.zero)=0))=none:=by
    rw[List.find?_eq_none]
    intro j hj
    rw[hno j hj];simp
   rw[hfind] at h0
   exact h0 _ _ _ rfl hS12 (ht11.lift le12) hok hown)
end Go.Proofs.YtjdiakhipmggjaaGreatDoor

namespace Go.Hm
open Go.Kd
def Q94 (m:Hm.Met):Bool:= !(decide (50<m.code.length)||decide (8<m.params.length)||decide (8<m.catches.length))
def X0j (c:Cla):Bool:= !(decide (6<c.like.length)||decide (6<c.fields.length)||decide (6<c.methods.length))&&c.methods.all Q94
def X0H (l:List Cla):Bool:= !decide (12<l.length)&&l.all X0j
theorem Q9C {l:List Cla} (h:X0H l=true):l.length≤12∧ ∀c∈l,X0j c=true:=by
 simp only[X0H,Bool.and_eq_true,Bool.not_eq_true',decide_eq_false_iff_not,List.all_eq_true] at h
 exact ⟨by omega,h.2⟩
theorem X2Y {l:List Cla} (h:X0H l=true): ∀c∈l,Qo c:=by
 intro c e
 have:=(Q9C h).2 c e
 simp only[X0j,Q94,Bool.and_eq_true,Bool.not_eq_true',Bool.or_eq_false_iff,decide_eq_false_iff_not,List.all_eq_true] at this
 obtain ⟨⟨⟨a,b⟩,g⟩,d⟩:=this
 refine ⟨by omega,by omega,by omega,fun m f=>?_⟩
 obtain ⟨⟨p,q⟩,r⟩:=d m f
 exact ⟨by omega,by omega,by omega⟩
end Go.Hm
namespace Go.Proofs.YtjdiakhipmggjaaGreatDoor
open Go.Emb Go.RowKit Go.Kd Go.Hm
variable {w : World} {K : Value → World → Prop} {σ : Q6} {v : Value} {l : List Cla}
end Go.Proofs.YtjdiakhipmggjaaGreatDoor

namespace Go.Proofs.YtjdiakhipmggjaaGreatDoor
open Go.Emb Go.RowKit Go.Kd Go.Hm
variable {w : World} {K : Value → World → Prop} {σ : Q6} {v : Value} {l : List Cla}
theorem X3N:P.underlying T.r=some (.pointer T.a1):=by kernel_rfl
theorem Q5y (d:Nat) (o:Option Addr):(Op.equalIn (d+1) T.r (.pointer o) (.pointer none)).run P w= .ok o.isNone w:=by
 cases o<;>simp[Op.equalIn,run_underlying X3N]
theorem X2Q {a:Addr} {c b:Operand} (h:K (.bool false) w):Q3 P .eql T.r c b (.pointer (some a)) (.pointer none) w K:=by
 have e:(Op.equal T.r (.pointer (some a)) (.pointer none)).run P w= .ok false w:=Q5y 9999 _
 unfold Q3
 rw[X9 (v:= .bool false) (w':=w) (by simp[eqGuard,Go.binOp,e])]
 exact h
end Go.Proofs.YtjdiakhipmggjaaGreatDoor

namespace Go.Hm
open Go.Kd
theorem Q6m {l:List Cla} {frm:Nat}: ∀(f:Nat) (a:List Nat) (i:Nat),(∀y∈a,y∈A7 l frm f a i)∧(0<f→frm≤i→i∈A7 l frm f a i):=by
 intro f
 induction f with
 | zero=>intro a i;exact ⟨fun y b=>b,fun h=>by omega⟩
 | succ f g=>
  intro a i
  have c: ∀(d:List X0) (o:List Nat),∀y∈o,y∈d.foldl (fun a n=>A7 l frm f a ((Z2 l n).getD 0)) o:=by
   intro d
   induction d with
   | nil=>intro o y b;exact b
   | cons u r e=>intro o y b;exact e _ y ((g o _).1 y b)
  simp only[A7]
  split
  ·exact ⟨fun y b=>b,fun _ h=>by omega⟩
  ·split
   ·rename_i h;exact ⟨fun y b=>b,fun _ _=>h⟩
   ·exact ⟨fun y b=>List.mem_append_left _ (c _ _ y b),fun _ _=>by simp⟩
theorem Q8U {l:List Cla} {frm i:Nat} (e:frm≤i) (f:i<l.length):i∈W2 l frm:=by
 unfold W2
 have key: ∀(is b:List Nat),(∀y∈b,y∈is.foldl (fun b i=>A7 l frm (l.length+1) b i) b)∧(i∈is→i∈is.foldl (fun b i=>A7 l frm (l.length+1) b i) b):=by
  intro is
  induction is with
  | nil=>intro b;exact ⟨fun y d=>d,fun h=>by simp at h⟩
  | cons a r c=>
   intro b
   refine ⟨fun y d=>(c _).1 y ((Q6m _ _ _).1 y d),fun h=>?_⟩
   rcases List.mem_cons.1 h with rfl | h
   ·exact (c _).1 _ ((Q6m _ _ _).2 (by omega) e)
   ·exact (c _).2 h
 refine (key _ _).2 ?_
 rw[List.mem_drop_iff_getElem]
 exact ⟨i-frm,by simp;omega,by simp;omega⟩
theorem X0d {s:X0} (h:M9 s=true):name s=true:=Ml (by rw[h,Bool.or_true])
theorem Q5X {a:X0} (h:name a=true):arr a=false:=by
 cases e:arr a with
 | false=>rfl
 | true=>
  exfalso
  have d:2≤a.length∧a.drop (a.length-2)=[91,93]:=by simpa [arr] using e
  have b:(93:UInt8)∈a:=List.mem_of_mem_drop (i:=a.length-2) (by rw[d.2];simp)
  cases a with
  | nil=>simp at b
  | cons c r=>
   simp only[name,Bool.and_eq_true,List.all_eq_true] at h
   have:=h.2 _ b
   revert this;decide
end Go.Hm
namespace Go.Proofs.YtjdiakhipmggjaaGreatDoor
open Go.Emb Go.RowKit Go.Kd Go.Hm
theorem Q9f {a:X0} (h:name a=true):base a=(a,0):=by rw[Xu,Q5X h];simp
theorem Mk {s:X0} (h:M9 s=true):arr s=false∧base s=(s,0)∧right s=true∧plain s=false∧elem s=[]∧s≠R0∧s≠[]:=by
 have c:=Hm.X0d h
 have d:=Q5X c
 have a:=Q9f c
 refine ⟨d,a,?_,?_,by simp[elem,d],?_,?_⟩
 ·simp[right,a,h]
 ·cases b:plain s with
  | false=>rfl
  | true=>
   simp only[plain,Bool.or_eq_true,decide_eq_true_eq] at b
   rcases b with (e | e) | e<;>subst e<;>revert h<;>decide
 ·rintro rfl;revert h;decide
 ·rintro rfl;revert h;decide
structure Wf (l : List Cla) : Prop where
  ck : ∀ c ∈ l, E0 c = 0
  own : A4 (Q5 l)
  acy : Ji (Q5 l)
  up : ∀ c ∈ l, D9 (Q5 l) c = 0
  mem : ∀ c ∈ l, V9 (Q5 l) c = 0
theorem X3y {l:List Cla} (h:Sy E0 l=none):Wf l:=by
 unfold Sy at h
 split at h
 ·cases h
 rename_i j
 split at h
 ·cases h
 rename_i p
 split at h
 ·cases h
 rename_i m
 split at h
 ·cases h
 rename_i n
 split at h
 ·cases h
 rename_i o
 have f:=T0 j
 have a:=Pw p
 have g: ∀c∈l,T1 (Q5 l) c=false:=fun c b=>List.findIdx?_eq_none_iff.1 n c b
 refine ⟨f,a,Q64 a (fun c b=>(Fe (f c b)).2.2) g,fun c b=>by have:=T0 m c b;omega,fun c b=>?_⟩
 obtain ⟨i,k,rfl⟩:=List.getElem_of_mem b
 have d:I3.length=8:=rfl
 have:=List.find?_eq_none.1 o (8+i) (Q8U (by omega) (by simp[Q5,d];omega))
 have e:(Q5 l).getD (8+i) Cla.zero=l[i]:=by
  rw[List.getD_eq_getElem?_getD,Q5,List.getElem?_append_right (by omega),d,show 8+i-8=i by omega,List.getElem?_eq_getElem k];rfl
 rw[e] at this
 simpa using this
section
variable {l : List Cla} (wf : Wf l)
include wf
theorem Wf.names {c:Cla} (hc:c∈Q5 l):M9 c.name=true:=by
 rcases List.mem_append.1 hc with hc | hc
 ·have: ∀c∈I3,M9 c.name=true:=by decide+kernel
  exact this c hc
 ·have:=wf.ck c hc
  unfold E0 at this
  split at this
  ·cases this
  ·split at this
   ·rename_i a
    simp only[Mq,Bool.and_eq_true] at a
    obtain ⟨⟨⟨⟨⟨⟨⟨⟨b,_⟩,_⟩,_⟩,_⟩,_⟩,_⟩,_⟩,_⟩:=a
    exact List.all_eq_true.1 b c.name (by simp)
   ·cases this
theorem Wf.lkn {n:X0} {c:Cla} (h:lk (Q5 l) n=some c):M9 n=true:=by
 obtain ⟨e,a,_⟩:=V3 h
 rw[←e];exact wf.names a
theorem Wf.root:lk (Q5 l) U0=some ⟨U0,[],[],false,false,false,[],[]⟩:=wf.own.lk (c:=⟨U0,[],[],false,false,false,[],[]⟩) (List.mem_append_left _ (by decide))
theorem Wf.fault:lk (Q5 l) L5=some ⟨L5,U0,[],false,false,false,[⟨Qm,D7,false⟩],[]⟩:=wf.own.lk (c:=⟨L5,U0,[],false,false,false,[⟨Qm,D7,false⟩],[]⟩) (List.mem_append_left _ (by decide))
theorem Wf.super {c:Cla} (hc:c∈Q5 l):c.name=U0∨ ∃d,lk (Q5 l) c.super=some d:=by
 rcases List.mem_append.1 hc with hc | hc
 ·have: ∀c∈I3,c.name=U0∨c.super=U0∨c.super=L5:=by decide
  rcases this c hc with h | h | h
  ·exact .inl h
  ·exact .inr ⟨_,h▸wf.root⟩
  ·exact .inr ⟨_,h▸wf.fault⟩
 ·right
  have:=wf.up c hc
  unfold D9 at this
  split at this
  ·cases this
  ·rename_i h
   unfold Xa at h
   cases a:lk (Q5 l) c.super with
   | none=>rw[a] at h;simp at h
   | some d=>exact ⟨d,rfl⟩
theorem Wf.toRoot: ∀(k:Nat) {n:X0} {c:Cla},P1 (Q5 l) n<k→lk (Q5 l) n=some c→Hm.Reach (lk (Q5 l)) n U0:=by
 intro k
 induction k with
 | zero=>intro n c h;omega
 | succ k i=>
  intro n c j a
  obtain ⟨e,g,_⟩:=V3 a
  rcases wf.super g with h | ⟨d,b⟩
  ·rw[←e,h];exact .refl wf.root
  ·have f:c.super∈U3 c:=by simp[U3]
   exact .step a f (i (by have:=Xw wf.acy a f b;omega) b)
theorem Wf.atRoot {b:X0} (h:Hm.Reach (lk (Q5 l)) U0 b):b=U0:=by
 cases h with
 | refl=>rfl
 | step a c e=>
  rw[wf.root] at a;cases a
  simp[U3] at c;subst c
  obtain ⟨d,f⟩:=e.left
  exact absurd (wf.lkn f) (by decide)
theorem Wf.kind {n:X0} {c:Cla} (h:lk (Q5 l) n=some c):O3 (Q5 l) n=true:=by
 obtain ⟨d,b,a,g,f,i,e⟩:=Mk (wf.lkn h)
 have:Q11 (Q5 l) n=true:=by rw[Q1E,h];rfl
 simp[O3,a,b,this]
theorem Wf.sub_iff {a b:X0}:Xo (Q5 l) a b=true↔O3 (Q5 l) a=true∧O3 (Q5 l) b=true∧(a=b∨(plain a=false∧plain b=false∧(a=R0∨(elem a≠[]∧b=U0)∨(lk (Q5 l) a≠none∧Hm.Reach (lk (Q5 l)) a b)))):=by
 unfold Xo
 cases k:O3 (Q5 l) a<;>cases j:O3 (Q5 l) b<;>simp
 by_cases e:a=b
 ·simp[e]
 cases pa:plain a<;>cases m:plain b<;>simp[e]
 by_cases g:a=R0
 ·simp[g]
 simp only[g,false_or]
 by_cases d:elem a=[]
 ·simp only[d,if_true,not_true_eq_false,false_and,false_or,Uz]
  constructor
  ·intro h;obtain ⟨c,i⟩:=h.left;exact ⟨by rw[i];simp,h⟩
  ·intro h;exact h.2
 ·simp only[d,if_false,not_false_eq_true,true_and]
  constructor
  ·exact .inl
  ·rintro (h | ⟨h,_⟩)
   ·exact h
   ·cases f:lk (Q5 l) a with
    | none=>exact absurd f h
    | some c=>exact absurd (Mk (wf.lkn f)).2.2.2.2.1 d
theorem Wf.sub_class {a b:X0} {c:Cla} (e:lk (Q5 l) a=some c):Xo (Q5 l) a b=true↔Hm.Reach (lk (Q5 l)) a b:=by
 obtain ⟨k,o,n,i,g,j,m⟩:=Mk (wf.lkn e)
 rw[wf.sub_iff]
 constructor
 ·rintro ⟨_,_,rfl | ⟨_,_,h | ⟨h,_⟩ | ⟨_,h⟩⟩⟩
  ·exact .refl e
  ·exact absurd h j
  ·exact absurd g h
  ·exact h
 ·intro h
  obtain ⟨d,f⟩:=h.right
  exact ⟨wf.kind e,wf.kind f, .inr ⟨i,(Mk (wf.lkn f)).2.2.2.1, .inr (.inr ⟨by rw[e];simp,h⟩)⟩⟩
end
end Go.Proofs.YtjdiakhipmggjaaGreatDoor

namespace Go.Proofs.YtjdiakhipmggjaaGreatDoor
open Go.Emb Go.RowKit Go.Kd Go.Hm
theorem Q6D {L:List Cla} (i:Ji L): ∀(k:Nat) {n:X0} {c:Cla},P1 L n<k→c∈chain L n→Hm.Reach (lk L) n c.name∧lk L c.name=some c:=by
 intro k
 induction k with
 | zero=>intro n c h;omega
 | succ k o=>
  intro n c p hc
  rw[A8 i] at hc
  cases a:lk L n with
  | none=>rw[a] at hc;simp at hc
  | some d=>
   rw[a] at hc
   have b:=(V3 a).1
   rcases List.mem_cons.1 hc with rfl | hc
   ·rw[b];exact ⟨.refl a,a⟩
   ·cases g:lk L d.super with
    | none=>rw[Yq g] at hc;simp at hc
    | some e=>
     have f:d.super∈U3 d:=by simp[U3]
     obtain ⟨j,m⟩:=o (by have:=Xw i a f g;omega) hc
     exact ⟨.step a f j,m⟩
theorem X13 {l:List Cla} {a:X0} (h:O3 (Q5 l) a=true) (g:plain a=false):a=R0∨elem a≠[]∨ ∃c,lk (Q5 l) a=some c:=by
 simp only[O3,Bool.or_eq_true,decide_eq_true_eq,Bool.and_eq_true] at h
 rcases h with h | ⟨e,h⟩
 ·exact .inl h
 ·by_cases d:elem a=[]
  ·right;right
   have b:arr a=false:=by
    cases b:arr a with
    | false=>rfl
    | true=>
     have i:=Q4e b e
     have:elem a=Kd.cutA a:=by simp[elem,b,e]
     rw[this] at d
     have:=K7 b
     rw[d] at this;simp at this;omega
   have f:base a=(a,0):=by rw[Xu,b];simp
   rw[f,g] at h
   have h:Q11 (Q5 l) a=true:=by simpa using h
   rw[Q1E] at h
   exact Option.isSome_iff_exists.1 h
  ·exact .inr (.inl d)
section
variable {l : List Cla} (wf : Wf l)
include wf
theorem Wf.kRoot:O3 (Q5 l) U0=true:=wf.kind wf.root
theorem Wf.lkArr {a:X0} {c:Cla} (h:lk (Q5 l) a=some c):elem a=[]:=(Mk (wf.lkn h)).2.2.2.2.1
theorem Wf.none_null:lk (Q5 l) R0=none:=by
 cases h:lk (Q5 l) R0 with
 | none=>rfl
 | some c=>exact absurd (wf.lkn h) (by decide)
theorem Wf.sub_root {a:X0} (h:O3 (Q5 l) a=true) (b:plain a=false):Xo (Q5 l) a U0=true:=by
 rw[wf.sub_iff]
 refine ⟨h,wf.kRoot, .inr ⟨b,by decide,?_⟩⟩
 rcases X13 h b with e | e | ⟨c,e⟩
 ·exact .inl e
 ·exact .inr (.inl ⟨e,rfl⟩)
 ·exact .inr (.inr ⟨by rw[e];simp,wf.toRoot _ (Nat.lt_succ_self _) e⟩)
theorem Wf.sub_refl {a:X0} (h:O3 (Q5 l) a=true):Xo (Q5 l) a a=true:=wf.sub_iff.2 ⟨h,h, .inl rfl⟩
end
end Go.Proofs.YtjdiakhipmggjaaGreatDoor

namespace Go.Proofs.YtjdiakhipmggjaaGreatDoor
open Go.Emb Go.RowKit Go.Kd Go.Hm
theorem Q6t {c:Cla} (h:E0 c=0):M9 c.name=true∧M9 c.super=true∧(c.iface=true→c.super=U0∧c.fields=[]∧c.abs=true∧ ∀m∈c.methods,m.abs=true)∧(∀m∈c.methods,m.abs=true→c.abs=true)∧c.fields.all He=true∧c.methods.all K1=true∧B0 Fld.name [] c.fields=true∧B0 Hm.Met.name [] c.methods=true:=by
 unfold E0 at h
 split at h
 ·cases h
 split at h
 ·rename_i j
  simp only[Mq,Bool.and_eq_true] at j
  obtain ⟨⟨⟨⟨⟨⟨⟨⟨k,u⟩,v⟩,i⟩,f⟩,p⟩,s⟩,o⟩,r⟩:=j
  refine ⟨List.all_eq_true.1 k c.name (by simp),List.all_eq_true.1 k c.super (by simp),fun q=>?_,fun m g t=>?_,o,r,p,s⟩
  ·rw[q] at i
   simp only[Bool.true_and,Bool.not_eq_true',Bool.or_eq_false_iff,Bool.not_eq_false',decide_eq_true_eq] at i
   obtain ⟨⟨⟨a,b⟩,d⟩,e⟩:=i
   refine ⟨b,d,a,fun m g=>?_⟩
   have:=List.any_eq_false.1 e m g
   simpa using this
  ·simp only[Bool.not_eq_true',Bool.or_eq_false_iff] at f
   obtain ⟨_,f⟩:=f
   have n:c.methods.any (·.abs)=true:=List.any_eq_true.2 ⟨m,g,t⟩
   rw[n] at f
   simpa using f
 ·cases h
theorem Q8A {l:List Cla} {c:Cla} (b:c∈Q5 l) (a:c.iface=true):c∈l:=by
 rcases List.mem_append.1 b with h | h
 ·have: ∀c∈I3,c.iface=false:=by decide
  rw[this c h] at a;cases a
 ·exact h
section
variable {l : List Cla} (wf : Wf l)
include wf
theorem Wf.likes {c:Cla} (f:c∈Q5 l) {u:X0} (b:u∈c.like): ∃d,lk (Q5 l) u=some d∧d.iface=true:=by
 rcases List.mem_append.1 f with h | h
 ·rw[(Ui c h).2.2] at b;simp at b
 ·have:=wf.up c h
  unfold D9 at this
  split at this
  ·cases this
  ·split at this
   ·cases this
   ·rename_i a
    have a:=List.any_eq_false.1 (eq_false_of_ne_true a) u b
    unfold R7 at a
    cases e:lk (Q5 l) u with
    | none=>rw[e] at a;simp at a
    | some d=>rw[e] at a;exact ⟨d,rfl,by simpa using a⟩
theorem Wf.above_iface {u b:X0} (h:Hm.Reach (lk (Q5 l)) u b): ∀d,lk (Q5 l) u=some d→d.iface=true→b=U0∨ ∃e,lk (Q5 l) b=some e∧e.iface=true:=by
 induction h with
 | refl h=>intro d c a;exact .inr ⟨d,c,a⟩
 | step j hu i n=>
  intro d c a
  rw[j] at c;cases c
  obtain ⟨e,k,_⟩:=V3 j
  rcases List.mem_cons.1 hu with rfl | hu
  ·rw[((Q6t (wf.ck _ (Q8A k a))).2.2.1 a).1] at i
   exact .inl (wf.atRoot i)
  ·obtain ⟨f,m,g⟩:=wf.likes k hu
   exact n f m g
theorem Wf.by_chain {n b:X0} (h:Hm.Reach (lk (Q5 l)) n b): ∀e,lk (Q5 l) b=some e→e.iface=false→b≠U0→e∈chain (Q5 l) n:=by
 induction h with
 | refl h=>
  intro e c _ _
  rw[A8 wf.acy,c];simp
 | step i hu o p=>
  intro e c k m
  obtain ⟨en,q,_⟩:=V3 i
  rcases List.mem_cons.1 hu with rfl | hu
  ·rw[A8 wf.acy,i]
   exact List.mem_cons_of_mem _ (p e c k m)
  ·obtain ⟨f,r,d⟩:=wf.likes q hu
   rcases wf.above_iface o f r d with h | ⟨g,j,a⟩
   ·exact absurd h m
   ·rw[c] at j;cases j;rw[k] at a;cases a
theorem Wf.chain_tail: ∀(k:Nat) {n:X0} {c:Cla},P1 (Q5 l) n<k→c∈chain (Q5 l) n→ ∃a,chain (Q5 l) n=a++chain (Q5 l) c.name:=by
 intro k
 induction k with
 | zero=>intro n c h;omega
 | succ k j=>
  intro n c o hc
  rw[A8 wf.acy] at hc
  cases b:lk (Q5 l) n with
  | none=>rw[b] at hc;simp at hc
  | some d=>
   rw[b] at hc
   have f:=(V3 b).1
   rcases List.mem_cons.1 hc with rfl | hc
   ·exact ⟨[],by rw[f];rfl⟩
   ·cases g:lk (Q5 l) d.super with
    | none=>rw[Yq g] at hc;simp at hc
    | some e=>
     have m:d.super∈U3 d:=by simp[U3]
     obtain ⟨a,i⟩:=j (by have:=Xw wf.acy b m g;omega) hc
     exact ⟨d::a,by rw[A8 wf.acy,b];show d::chain (Q5 l) d.super=_;rw[i];rfl⟩
theorem Wf.fields_tail {n:X0} {c:Cla} (h:c∈chain (Q5 l) n): ∃a,Y6 (Q5 l) n=Y6 (Q5 l) c.name++a:=by
 obtain ⟨b,d⟩:=wf.chain_tail _ (Nat.lt_succ_self _) h
 exact ⟨b.reverse.flatMap (·.fields),by unfold Y6;rw[d];simp⟩
theorem Wf.none_nil:lk (Q5 l) []=none:=by
 cases h:lk (Q5 l) [] with
 | none=>rfl
 | some c=>exact absurd (wf.lkn h) (by decide)
theorem Wf.fault_fields:Y6 (Q5 l) L5=[⟨Qm,D7,false⟩]:=by
 unfold Y6
 rw[A8 wf.acy,wf.fault]
 simp only
 rw[A8 wf.acy,wf.root]
 simp only
 rw[Yq wf.none_nil]
 rfl
theorem Wf.what {n:X0} (h:Xo (Q5 l) n L5=true) {c:Cla} (d:lk (Q5 l) n=some c):Jx (Q5 l) n Qm=some 0:=by
 have b:=(wf.sub_class d).1 h
 have e:=wf.by_chain b _ wf.fault rfl (by decide)
 obtain ⟨a,f⟩:=wf.fields_tail e
 unfold Jx
 rw[f,show (Cla.mk L5 U0 [] false false false [⟨Qm,D7,false⟩] []).name=L5 from rfl,wf.fault_fields]
 rfl
end
end Go.Proofs.YtjdiakhipmggjaaGreatDoor

namespace Go.Hm
open Go.Kd
end Go.Hm
namespace Go.Proofs.YtjdiakhipmggjaaGreatDoor
open Go.Emb Go.RowKit Go.Kd Go.Hm
section
variable {l : List Cla} (wf : Wf l)
include wf
end
end Go.Proofs.YtjdiakhipmggjaaGreatDoor
namespace Go.Proofs.YtjdiakhipmggjaaGreatDoor
open Go.Emb Go.RowKit Go.Kd Go.Hm
end Go.Proofs.YtjdiakhipmggjaaGreatDoor
namespace Go.Proofs.YtjdiakhipmggjaaGreatDoor
open Go.Emb Go.RowKit Go.Kd Go.Hm
section
variable {l : List Cla} (wf : Wf l)
include wf
end
end Go.Proofs.YtjdiakhipmggjaaGreatDoor

namespace Go.Hm
open Go.Kd
structure Val where
  sort : Int
  n : Int
  s : X0
  ref : Int
deriving DecidableEq
structure Cel where
  kind : X0
  vals : List Val
deriving DecidableEq
def Val.zero:Val:=⟨0,0,[],0⟩
def Cel.zero:Cel:=⟨[],[]⟩
def P9:X0:=[105,110,116]
def Ja:X0:=[98,111,111,108]
def M3 (k:X0):Val:=if k=P9 then ⟨1,0,[],0⟩ else if k=Ja then ⟨2,0,[],0⟩ else if k=D7 then ⟨3,0,[],0⟩ else Val.zero
def Y9 (cs:List Cel):Int:=(cs.map fun c=>1+(c.vals.length:Int)).sum
def V8 (room:Int) (cs:List Cel):Int:=room-Y9 cs
def M6 (cs:List Cel) (r:Int):Bool:=decide (0≤r)&&decide (r<cs.length)
def Wp (cs:List Cel) (r:Int):Cel:=cs.getD r.toNat Cel.zero
def E1 (cs:List Cel) (r:Int):X0:=if M6 cs r then (Wp cs r).kind else []
def Q6i (cs:List Cel) (r:Int):Int:=if M6 cs r then (Wp cs r).vals.length else 0
def P6 (ok:X0→Bool) (cs:List Cel) (v:Val):X0:=
 if v=Val.zero then R0 else if v=⟨1,v.n,[],0⟩ then P9 else if v=⟨2,v.n,[],0⟩∧(v.n=0∨v.n=1) then Ja
 else if v=⟨3,0,v.s,0⟩∧ok v.s=true then D7 else if v=⟨4,0,[],v.ref⟩ then E1 cs v.ref else []
def F5 (ok:X0→Bool) (l:List Cla) (cs:List Cel) (v:Val) (k:X0):Bool:= !decide (P6 ok cs v=[])&&Xo l (P6 ok cs v) k
def Zw (l:List Cla) (room:Int) (cs:List Cel) (k:X0):List Cel×Int:=
 if Qb l k=false then (cs,91) else if V8 room cs<1+((Y6 l k).length:Int) then (cs,90) else (cs++[⟨k,(Y6 l k).map fun f=>M3 f.kind⟩],0)
def G9 (l:List Cla) (e:X0):Bool:= !decide (e=R0)&&O3 l e&&decide (Yb e≤2)
def Zx (l:List Cla) (room:Int) (cs:List Cel) (e:X0) (n:Int):List Cel×Int:=
 if G9 l e=false then (cs,91) else if n<0 then (cs,93) else if V8 room cs≤n then (cs,90) else (cs++[⟨e++[91,93],List.replicate n.toNat (M3 e)⟩],0)
def M4 (cs:List Cel) (r a:Int):Int:=if M6 cs r then (if 0≤a∧a<((Wp cs r).vals.length:Int) then 0 else 93) else 92
def Ng (cs:List Cel) (r a:Int):Val:=if M4 cs r a=0 then (Wp cs r).vals.getD a.toNat Val.zero else Val.zero
def Xk (l:List Cla) (k:X0) (i:Nat):X0:=if elem k=[] then ((Y6 l k).getD i Fld.zero).kind else elem k
def B8 (cs:List Cel) (r a:Int) (v:Val):List Cel:=cs.set r.toNat ⟨(Wp cs r).kind,(Wp cs r).vals.set a.toNat v⟩
def L7 (ok:X0→Bool) (l:List Cla) (cs:List Cel) (r a:Int) (v:Val):List Cel×Int:=
 if M4 cs r a≠0 then (cs,M4 cs r a) else if F5 ok l cs v (Xk l (Wp cs r).kind a.toNat) then (B8 cs r a v,0) else (cs,91)
def I0 (n:Int) (v:Val):Bool:=decide (v.sort=4)&&decide (n≤v.ref)
def Kl (cs:List Cel) (n:Int):List Cel:=
 if (cs.take (max n 0).toNat).any (fun c=>c.vals.any (I0 (max n 0))) then cs else cs.take (max n 0).toNat
structure ActH where
  kind : Int
  s : X0
  n : Int
  ref : Int
  v : Val
deriving DecidableEq
def B5 (ok:X0→Bool) (l:List Cla) (room:Int) (cs:List Cel) (x:ActH):List Cel:=
 if x.kind=0 then (Zw l room cs x.s).1 else if x.kind=1 then (Zx l room cs x.s x.n).1 else if x.kind=2 then (L7 ok l cs x.ref x.n x.v).1
 else if x.kind=4 then Kl cs x.ref else cs
structure GoodC (ok : X0 → Bool) (l : List Cla) (cs : List Cel) (c : Cel) : Prop where
  is : elem c.kind ≠ [] ∨ (Qb l c.kind = true ∧ c.vals.length = (Y6 l c.kind).length)
  kd : O3 l c.kind = true
  fits : ∀ i (h : i < c.vals.length), F5 ok l cs c.vals[i] (Xk l c.kind i) = true
structure GoodH (ok : X0 → Bool) (l : List Cla) (room : Int) (cs : List Cel) : Prop where
  cells : ∀ c ∈ cs, GoodC ok l cs c
  left : 0 ≤ V8 room cs
theorem T5 (a b:List Cel):Y9 (a++b)=Y9 a+Y9 b:=by simp[Y9]
theorem M0 (a:List Cel):0≤Y9 a:=by
 unfold Y9
 induction a with
 | nil=>simp
 | cons c r b=>simp only[List.map_cons,List.sum_cons];omega
theorem T6 (a:List Cel):(a.length:Int)≤Y9 a:=by
 unfold Y9
 induction a with
 | nil=>simp
 | cons c r b=>simp only[List.map_cons,List.sum_cons,List.length_cons];omega
theorem O9 {cs:List Cel} {r:Int}:M6 cs r=true↔ ∃i:Nat,r=i∧i<cs.length:=by
 simp only[M6,Bool.and_eq_true,decide_eq_true_eq]
 constructor
 ·rintro ⟨a,b⟩;exact ⟨r.toNat,by omega,by omega⟩
 ·rintro ⟨i,rfl,h⟩;omega
theorem W4 {cs:List Cel} {i:Nat} (h:i<cs.length):Wp cs (i:Int)=cs[i]:=by
 unfold Wp;rw[Int.toNat_natCast,List.getD_eq_getElem?_getD,List.getElem?_eq_getElem h];rfl
theorem Yk {cs:List Cel} {i:Nat} (h:i<cs.length):E1 cs (i:Int)=cs[i].kind:=by
 unfold E1;rw[if_pos (O9.2 ⟨i,rfl,h⟩),W4 h]
theorem X0g {ok:X0→Bool} {cs a:List Cel} {v:Val} (h:v.sort=4→E1 cs v.ref≠[]→E1 a v.ref=E1 cs v.ref) (c:P6 ok cs v≠[]):P6 ok a v=P6 ok cs v:=by
 unfold P6 at*
 split
 ·rfl
 ·split
  ·rfl
  ·split
   ·rfl
   ·split
    ·rfl
    ·split
     ·rename_i d g e f b
      rw[if_neg d,if_neg g,if_neg e,if_neg f,if_pos b] at c
      exact h (by rw[b]) c
     ·rfl
theorem Ri {ok:X0→Bool} {l:List Cla} {cs a:List Cel} {v:Val} {k:X0} (h:v.sort=4→E1 cs v.ref≠[]→E1 a v.ref=E1 cs v.ref) (b:F5 ok l cs v k=true):F5 ok l a v k=true:=by
 unfold F5 at*
 have c:P6 ok cs v≠[]:=by
  intro e;rw[e] at b;simp at b
 rw[X0g h c];exact b
theorem Q8N {cs more:List Cel} {r:Int} (h:E1 cs r≠[]):E1 (cs++more) r=E1 cs r:=by
 have b:M6 cs r=true:=by
  cases c:M6 cs r with
  | true=>rfl
  | false=>unfold E1 at h;rw[c] at h;simp at h
 obtain ⟨i,rfl,a⟩:=O9.1 b
 rw[Yk a,Yk (by simp;omega),List.getElem_append_left a]
theorem GoodC.app {ok:X0→Bool} {l:List Cla} {cs more:List Cel} {c:Cel} (h:GoodC ok l cs c):GoodC ok l (cs++more) c:=
 ⟨h.is,h.kd,fun i a=>Ri (fun _ b=>Q8N b) (h.fits i a)⟩
section
variable {ok : X0 → Bool} {l : List Cla} {room : Int} {cs : List Cel}
theorem GoodH.snoc (h:GoodH ok l room cs) {c:Cel} (a:GoodC ok l (cs++[c]) c) (b:1+(c.vals.length:Int)≤V8 room cs):GoodH ok l room (cs++[c]):=by
 refine ⟨fun d hd=>?_,?_⟩
 ·rcases List.mem_append.1 hd with hd | hd
  ·exact (h.cells d hd).app
  ·simp at hd;subst hd;exact a
 ·unfold V8 at*;rw[T5];simp only[Y9,List.map_cons,List.map_nil,List.sum_cons,List.sum_nil] at*;omega
end
end Go.Hm
namespace Go.Proofs.YtjdiakhipmggjaaGreatDoor
open Go.Emb Go.RowKit Go.Kd Go.Hm
section
variable {l : List Cla} (wf : Wf l)
include wf
theorem Wf.field_kinds {n:X0} {f:Fld} (h:f∈Y6 (Q5 l) n):O8 (Q5 l) f.kind=true:=by
 unfold Y6 at h
 obtain ⟨c,i,e⟩:=List.mem_flatMap.1 h
 have k:=(Q6D wf.acy _ (Nat.lt_succ_self _) (by simpa using i)).2
 obtain ⟨_,a,_⟩:=V3 k
 rcases List.mem_append.1 a with j | hl
 ·have d: ∀c∈I3,∀f∈c.fields,f.kind=D7:=by decide
  rw[d c j f e]
  have:O3 (Q5 l) D7=true:=by
   have g:right D7=true:=by decide
   have m:plain (base D7).1=true:=by decide
   simp[O3,g,m]
  simp[O8,this];decide
 ·have:=wf.mem c hl
  unfold V9 at this
  split at this
  ·cases this
  ·split at this
   ·cases this
   ·rename_i b
    have b:F3 (Q5 l) c=false:=eq_false_of_ne_true b
    unfold F3 at b
    rw[Bool.or_eq_false_iff] at b
    have:=List.any_eq_false.1 b.1 f e
    simpa using this
theorem Wf.zero_fits {ok:X0→Bool} (i:ok []=true) {cs:List Cel} {k:X0} (h:O8 (Q5 l) k=true):F5 ok (Q5 l) cs (M3 k) k=true:=by
 have a:O3 (Q5 l) k=true∧k≠R0:=by
  simp only[O8,Bool.and_eq_true,Bool.not_eq_true',decide_eq_false_iff_not] at h;exact ⟨h.2,h.1⟩
 by_cases c:k=P9
 ·subst c
  have:F5 ok (Q5 l) cs (M3 P9) P9=Xo (Q5 l) P9 P9:=by
   unfold F5;simp[M3,P6,Val.zero,P9]
  rw[this];exact wf.sub_refl a.1
 by_cases f:k=Ja
 ·subst f
  have:F5 ok (Q5 l) cs (M3 Ja) Ja=Xo (Q5 l) Ja Ja:=by
   unfold F5;simp[M3,P6,Val.zero,Ja,P9]
  rw[this];exact wf.sub_refl a.1
 by_cases d:k=D7
 ·subst d
  have:F5 ok (Q5 l) cs (M3 D7) D7=Xo (Q5 l) D7 D7:=by
   unfold F5;simp[M3,P6,Val.zero,Ja,P9,D7,i]
  rw[this];exact wf.sub_refl a.1
 ·have g:M3 k=Val.zero:=by simp[M3,c,f,d]
  have:F5 ok (Q5 l) cs (M3 k) k=Xo (Q5 l) R0 k:=by
   rw[g];unfold F5 P6;simp[R0]
  rw[this]
  have b:plain k=false:=by
   cases b:plain k with
   | false=>rfl
   | true=>
    simp only[plain,Bool.or_eq_true,decide_eq_true_eq] at b
    rcases b with (e | e) | e
    ·exact absurd e c
    ·exact absurd e f
    ·exact absurd e d
  exact wf.sub_iff.2 ⟨by simp[O3],a.1, .inr ⟨by decide,b, .inl rfl⟩⟩
end
theorem Q6k (a:X0):arr (a++[91,93])=true:=by
 simp[arr]
theorem Q5G (a:X0):Kd.cutA (a++[91,93])=a:=by
 simp[Kd.cutA]
theorem Q0k (a:X0):base (a++[91,93])=((base a).1,(base a).2+1):=by
 rw[Xu,Q6k,if_pos rfl,Q5G]
theorem Q87 {a:X0} (h:right a=true) (b:(base a).2≤2):right (a++[91,93])=true:=by
 unfold right at*
 rw[Q0k]
 simp only[Bool.and_eq_true,decide_eq_true_eq] at*
 exact ⟨by omega,h.2⟩
theorem X0c {a:X0} (h:right (a++[91,93])=true):elem (a++[91,93])=a:=by
 unfold elem;rw[Q6k,h,Q5G];rfl
theorem Q8R {l:List Cla} {e:X0}:G9 l e=true↔O8 l e=true∧right (e++[91,93])=true:=by
 unfold G9 O8
 simp only[Bool.and_eq_true,Bool.not_eq_true',decide_eq_false_iff_not,decide_eq_true_eq]
 constructor
 ·rintro ⟨⟨b,h2⟩,a⟩
  have c:right e=true:=by
   unfold O3 at h2
   simp only[Bool.or_eq_true,Bool.and_eq_true,decide_eq_true_eq] at h2
   rcases h2 with h2 | h2
   ·exact absurd h2 b
   ·exact h2.1
  unfold Yb at a
  rw[if_pos c] at a
  exact ⟨⟨b,h2⟩,Q87 c a⟩
 ·rintro ⟨⟨b,h2⟩,a⟩
  refine ⟨⟨b,h2⟩,?_⟩
  unfold right at a
  rw[Q0k] at a
  simp only[Bool.and_eq_true,decide_eq_true_eq] at a
  unfold Yb
  split
  ·omega
  ·omega
section
variable {ok : X0 → Bool} {l : List Cla} {room : Int} {cs : List Cel}
theorem GoodH.obj (wf:Wf l) (g:ok []=true) (h:GoodH ok (Q5 l) room cs) (k:X0):GoodH ok (Q5 l) room (Zw (Q5 l) room cs k).1:=by
 unfold Zw
 split
 ·exact h
 split
 ·exact h
 rename_i a j
 have a:Qb (Q5 l) k=true:=by simpa using a
 have e: ∃c,lk (Q5 l) k=some c:=by
  unfold Qb at a
  cases b:lk (Q5 l) k with
  | none=>rw[b] at a;cases a
  | some c=>exact ⟨c,rfl⟩
 obtain ⟨c,b⟩:=e
 have f:elem k=[]:=wf.lkArr b
 refine h.snoc ⟨.inr ⟨a,by simp⟩,wf.kind b,fun i d=>?_⟩ (by simp only[List.length_map];omega)
 simp only[List.length_map] at d
 simp only[List.getElem_map,Xk,f,if_pos]
 rw[List.getD_eq_getElem?_getD,List.getElem?_eq_getElem d]
 exact wf.zero_fits g (wf.field_kinds (List.getElem_mem d))
theorem GoodH.arr (wf:Wf l) (k:ok []=true) (h:GoodH ok (Q5 l) room cs) (e:X0) (n:Int):GoodH ok (Q5 l) room (Zx (Q5 l) room cs e n).1:=by
 unfold Zx
 split
 ·exact h
 split
 ·exact h
 split
 ·exact h
 rename_i d p o
 have d:G9 (Q5 l) e=true:=by simpa using d
 obtain ⟨j,c⟩:=Q8R.1 d
 have g:=X0c c
 have a:e≠[]:=by
  rintro rfl
  revert c;decide
 have b:O3 (Q5 l) (e++[91,93])=true:=by
  have b:=j
  unfold O8 at b
  simp only[Bool.and_eq_true,Bool.not_eq_true',decide_eq_false_iff_not] at b
  obtain ⟨f,hk2⟩:=b
  unfold O3 at hk2⊢
  simp only[Bool.or_eq_true,Bool.and_eq_true,decide_eq_true_eq] at hk2⊢
  rcases hk2 with hk2 | hk2
  ·exact absurd hk2 f
  ·right;rw[Q0k];exact ⟨c,hk2.2⟩
 refine h.snoc ⟨.inl (by simp only;rw[g];exact a),b,fun i m=>?_⟩ (by simp only[List.length_replicate];omega)
 simp only[List.getElem_replicate,Xk,g,if_neg a]
 exact wf.zero_fits k j
theorem Q3r {r b x:Int} {v:Val} (f:M6 cs r=true):E1 (B8 cs r b v) x=E1 cs x:=by
 obtain ⟨i,rfl,g⟩:=O9.1 f
 have a:(B8 cs i b v).length=cs.length:=by simp[B8]
 cases c:M6 cs x with
 | false=>
  have:M6 (B8 cs i b v) x=false:=by unfold M6 at*;rw[a];exact c
  unfold E1;rw[c,this];rfl
 | true=>
  obtain ⟨j,rfl,d⟩:=O9.1 c
  rw[Yk d,Yk (by rw[a];exact d)]
  simp only[B8,Int.toNat_natCast,W4 g,List.getElem_set]
  split
  ·rename_i e;subst e;rfl
  ·rfl
theorem Uj {r a:Int} (h:M4 cs r a=0): ∃i j:Nat,r=i∧a=j∧ ∃(b:i<cs.length),j<(cs[i]).vals.length:=by
 unfold M4 at h
 split at h
 ·rename_i c
  obtain ⟨i,rfl,b⟩:=O9.1 c
  split at h
  ·rename_i d
   rw[W4 b] at d
   exact ⟨i,a.toNat,rfl,by omega,b,by omega⟩
  ·cases h
 ·cases h
theorem GoodH.set (h:GoodH ok (Q5 l) room cs) (r m:Int) (v:Val):GoodH ok (Q5 l) room (L7 ok (Q5 l) cs r m v).1:=by
 unfold L7
 split
 ·exact h
 rename_i p
 have p:M4 cs r m=0:=by simpa using p
 split
 ·rename_i t
  obtain ⟨i,j,rfl,rfl,g,C⟩:=Uj p
  have w:M6 cs (i:Int)=true:=O9.2 ⟨i,rfl,g⟩
  rw[W4 g,Int.toNat_natCast] at t
  refine ⟨fun c z=>?_,?_⟩
  ·have a: ∀{u:Val} {k:X0},F5 ok (Q5 l) cs u k=true→F5 ok (Q5 l) (B8 cs i j v) u k=true:=fun y=>Ri (fun _ _=>Q3r w) y
   have b: ∀d∈cs,GoodC ok (Q5 l) (B8 cs i j v) d:=fun d s=>⟨(h.cells d s).is,(h.cells d s).kd,fun q n=>a ((h.cells d s).fits q n)⟩
   have f:c∈cs.set i ⟨cs[i].kind,cs[i].vals.set j v⟩:=by simpa [B8,W4 g] using z
   rcases List.mem_or_eq_of_mem_set f with f | rfl
   ·exact b c f
   ·have o:=b _ (List.getElem_mem g)
    refine ⟨by simpa using o.is,o.kd,fun q n=>?_⟩
    simp only[List.length_set] at n
    simp only[List.getElem_set]
    split
    ·rename_i e;subst e;exact a t
    ·exact o.fits q n
  ·have e:Y9 (B8 cs i j v)=Y9 cs:=by
    unfold Y9
    congr 1
    have A:(B8 cs i j v).map (fun c=>1+(c.vals.length:Int))=cs.map (fun c=>1+(c.vals.length:Int)):=by
     unfold B8
     rw[List.map_set,W4 g]
     simp only[List.length_set,Int.toNat_natCast]
     have B:1+(cs[i].vals.length:Int)=(cs.map (fun c=>1+(c.vals.length:Int)))[i]'(by simpa using g):=by simp
     rw[B,List.set_getElem_self]
    exact A
   have:=h.left
   unfold V8 at*
   rw[e];exact this
 ·exact h
theorem GoodH.cut (h:GoodH ok (Q5 l) room cs) (n:Int):GoodH ok (Q5 l) room (Kl cs n):=by
 unfold Kl
 split
 ·exact h
 rename_i hn
 have hn:=eq_false_of_ne_true hn
 generalize hm:max n 0=m at*
 have hm0:0≤m:=by omega
 refine ⟨fun c hc=>?_,?_⟩
 ·have hcs:=List.mem_of_mem_take hc
  refine ⟨(h.cells c hcs).is,(h.cells c hcs).kd,fun i hi=>Ri (fun h4 hk=>?_) ((h.cells c hcs).fits i hi)⟩
  have h1:=List.any_eq_false.1 hn c hc
  have h2: ¬I0 m c.vals[i]=true:=fun e=>h1 (List.any_eq_true.2 ⟨_,List.getElem_mem hi,e⟩)
  have hr:M6 cs c.vals[i].ref=true:=by
   cases he:M6 cs c.vals[i].ref with
   | true=>rfl
   | false=>unfold E1 at hk;rw[he] at hk;simp at hk
  obtain ⟨j,hj,hjl⟩:=O9.1 hr
  have hjm:(j:Int)<m:=by
   simp only[I0,Bool.and_eq_true,decide_eq_true_eq,not_and] at h2
   have:=h2 h4
   omega
  rw[hj,Yk hjl,Yk (by rw[List.length_take];omega)]
  simp
 ·have:Y9 cs=Y9 (cs.take m.toNat)+Y9 (cs.drop m.toNat):=by rw[←T5,List.take_append_drop]
  have h3:=M0 (cs.drop m.toNat)
  have:=h.left
  unfold V8 at*
  omega
theorem GoodH.act (wf:Wf l) (a:ok []=true) (h:GoodH ok (Q5 l) room cs) (x:ActH):GoodH ok (Q5 l) room (B5 ok (Q5 l) room cs x):=by
 unfold B5
 split
 ·exact GoodH.obj wf a h _
 split
 ·exact GoodH.arr wf a h _ _
 split
 ·exact GoodH.set h _ _ _
 split
 ·exact GoodH.cut h _
 ·exact h
theorem GoodH.empty (a:0≤room):GoodH ok l room []:=⟨by simp,by simpa [V8,Y9] using a⟩
end
end Go.Proofs.YtjdiakhipmggjaaGreatDoor

namespace Go.Emb
open Go.RowKit Go.Hm
variable {P : Program} {w w0 w1 w' w'' : World} {K : Value → World → Prop} {σ σ0 σ1 σ' : Q6}
def N0 (_:Q6) (v:Val) (cs:List Value):Prop:=cs=[I v.sort,I v.n,S v.s,I v.ref]∧Yw v.sort∧Yw v.n∧v.s.length≤U1∧Yw v.ref
instance:Rep N0:=⟨fun _ h=>h,fun h u hu=>by rw[h.1] at hu;simp at hu;rcases hu with rfl | rfl | rfl | rfl<;>rfl⟩
def H4 (σ:Q6) (c:Cel) (cs:List Value):Prop:= ∃v,cs=[S c.kind,v]∧Sl 4 N0 σ v c.vals∧c.kind.length≤U1
instance:Rep H4:=⟨fun hk ⟨v,h1,h2,h3⟩=>⟨v,h1,h2.le hk,h3⟩,fun ⟨v,h1,h2,h3⟩ u hu=>by
 rw[h1] at hu;simp at hu;rcases hu with rfl | rfl
 ·rfl
 ·exact Qa h2⟩
theorem Q98 {c:Cel} {cs:List Value} (h:H4 σ0 c cs) (k:SLe σ0 σ):H4 σ c cs:=Rep.up k.le h
def Q3S (_:Q6) (x:List UInt8×Value) (cs:List Value):Prop:=cs=[S x.1,x.2]∧x.1.length≤U1∧ ∃a n c,x.2= .slice a n c
instance:Rep Q3S:=⟨fun _ h=>h,fun ⟨h1,_,a,n,c,h2⟩ u hu=>by
 rw[h1,h2] at hu;simp at hu;rcases hu with rfl | rfl<;>rfl⟩
section
variable {α : Type} {R : Q6 → α → List Value → Prop} {B sz : Nat} {e : TypeId} {v u : Value} {xs : List α}
theorem J7.shiftR [hr:Rep R] (h:J7 B e sz R σ w v xs) (n:SLe σ σ') (m: ∀k,v.ownBlock=some k→σ' k=none):J7 B e sz R σ' w v xs:=by
 obtain ⟨a,j,rfl,o,s,c,p⟩:=h
 refine ⟨a,j,rfl,o,s,fun b d=>⟨(c b d).1,(c b d).2.1,(c b d).2.2.1,by subst d;exact m _ rfl⟩,fun q=>?_⟩
 obtain ⟨g,l,f,rfl,A,C,t,y,z⟩:=p q
 exact ⟨g,l,f,rfl,A,m g rfl,t,y,fun i x r=>hr.up n.le (z i x r)⟩
def Bl (w:World):World:={w with heap:= #[]}
theorem Xb (c:X3 w σ):Stp (Bl w) (fun _=>none) w σ:=
 ⟨⟨rfl,rfl,rfl,Nat.zero_le _,fun k d=>absurd d (Nat.not_lt_zero k)⟩,c,fun _ _ h=>(by cases h),fun b a=>absurd a (Nat.not_lt_zero b)⟩
theorem J7.freeze [hr:Rep R] (d:X3 w σ) (h:J7 B e sz R σ w v xs): ∃σ',X3 w σ'∧SLe σ σ'∧Sl sz R σ' v xs∧ ∀k,some k≠v.ownBlock→σ' k=σ k:=by
 obtain ⟨σ',a,f,b,c⟩:=(h.mono (Nat.zero_le B):J7 (Bl w).heap.size e sz R σ w v xs).keep (Xb d)
 exact ⟨σ',a.sat,b,f,c⟩
theorem Y3.freeze {b:Nat} {cs:List Value} (f:X3 w σ) (h:Y3 σ w b cs): ∃σ',X3 w σ'∧SLe σ σ'∧Z4 σ' ⟨b,0,none⟩ cs∧ ∀k,k≠b→σ' k=σ k:=by
 obtain ⟨σ',a,g,c,d⟩:=h.keep (Xb f) (Nat.zero_le b)
 exact ⟨σ',a.sat,⟨c⟩,g,d⟩
end
def X1u (vs:List Value):Prop:=vs.Pairwise fun a b=> ∀k,a.ownBlock=some k→b.ownBlock≠some k
def Q37 (B:Nat) (e:TypeId) (σ:Q6) (w:World) (vs:List Value) (cs:List Cel):Prop:=vs.length=cs.length∧ ∀i (h:i<vs.length) (a:i<cs.length),J7 B e 4 N0 σ w vs[i] cs[i].vals
theorem Q37.freeze {B:Nat} {e:TypeId}: ∀{vs:List Value} {cs:List Cel} {σ:Q6},X3 w σ→Q37 B e σ w vs cs→X1u vs→
 ∃σ',X3 w σ'∧SLe σ σ'∧(∀i (h:i<vs.length) (z:i<cs.length),Sl 4 N0 σ' vs[i] cs[i].vals)∧ ∀k,(∀v∈vs,v.ownBlock≠some k)→σ' k=σ k
 | [],cs,σ,d,h,l=>⟨σ,d,SLe.refl _,fun i h=>absurd h (Nat.not_lt_zero i),fun _ _=>rfl⟩
 | v::vs,[],σ,d,h,l=>by have:=h.1;simp at this
 | v::vs,c::cs,σ,d,h,l=>by
  obtain ⟨σ1,q,m,y,o1⟩:=(h.2 0 (by simp) (by simp)).freeze d
  obtain ⟨g,j⟩:=List.pairwise_cons.1 l
  have r:Q37 B e σ1 w vs cs:=⟨by simpa using h.1,fun i f a=>by
   have:=h.2 (i+1) (by simpa using f) (by simpa using a)
   simp only[List.getElem_cons_succ] at this
   refine this.shiftR m fun k b=>?_
   rw[o1 k fun e=>g _ (List.getElem_mem f) k e.symm b]
   exact (this.mem b).2.2⟩
  obtain ⟨t,p,n,s,o2⟩:=Q37.freeze q r j
  refine ⟨t,p,m.more n,fun i f a=>?_,fun k b=>?_⟩
  ·cases i with
   | zero=>exact y.lift n
   | succ i=>exact s i (by simpa using f) (by simpa using a)
  ·rw[o2 k fun u o=>b u (by simp[o]),o1 k fun e=>b v (by simp) e.symm]
def T7 (vs:List Value) (cs:List Cel):List (List UInt8×Value):=List.zipWith (fun v c=>(c.kind,v)) vs cs
theorem Wq {vs:List Value} {cs:List Cel} (h:vs.length=cs.length):(T7 vs cs).length=cs.length:=by simp[T7,h]
end Go.Emb
namespace Go.Proofs.YtjdiakhipmggjaaGreatDoor
open Go.Emb Go.RowKit Go.Kd Go.Hm
variable {w w' : World} {K : Value → World → Prop} {σ σ' : Q6}
def S6 (σ:Q6) (hp tv:Value) (room:Int) (cs:List Cel):Prop:= ∃a lv,hp= .pointer (some a)∧Z4 σ a [tv,I room,I (Y9 cs),lv]∧Sl 2 H4 σ lv cs
theorem S6.lift {hp tv:Value} {room:Int} {cs:List Cel} (h:S6 σ hp tv room cs) (b:SLe σ σ'):S6 σ' hp tv room cs:=by
 obtain ⟨a,lv,c,f,d⟩:=h
 exact ⟨a,lv,c,f.lift b,d.lift b⟩
structure RowsIs (B : Nat) (D : Nat → Prop) (σ : Q6) (w : World) (lv : Value) (cs : List Cel) : Prop where
  ex : ∃ vs, J7 B T.n 2 Q3S σ w lv (T7 vs cs) ∧ Q37 B T.g σ w vs cs ∧ X1u (lv :: vs) ∧ ∀ k, D k ↔ ∃ v ∈ lv :: vs, v.ownBlock = some k
structure HeapIs (B : Nat) (D : Nat → Prop) (σ : Q6) (w : World) (hp tv : Value) (room : Int) (cs : List Cel) : Prop where
  ex : ∃ b lv E, hp = .pointer (some ⟨b, 0, none⟩) ∧ B ≤ b ∧ Y3 σ w b [tv, I room, I (Y9 cs), lv] ∧ RowsIs B E σ w lv cs ∧ ¬ E b ∧ ∀ k, D k ↔ (k = b ∨ E k)
section
variable {B : Nat} {D E : Nat → Prop} {lv hp tv : Value} {room : Int} {cs : List Cel}
theorem RowsIs.mem (h:RowsIs B D σ w lv cs) {k:Nat} (a:D k):B≤k∧k<w.heap.size∧σ k=none:=by
 obtain ⟨vs,d,b,f,hD⟩:=h.ex
 obtain ⟨v,hv,a⟩:=(hD k).1 a
 rcases List.mem_cons.1 hv with rfl | hv
 ·exact d.mem a
 ·obtain ⟨i,c,rfl⟩:=List.getElem_of_mem hv
  exact (b.2 i c (by rw[←b.1];exact c)).mem a
theorem RowsIs.nx (h:RowsIs B D σ w lv cs) (k:Nxt E w σ w' σ') (d: ∀k,D k→ ¬E k):RowsIs B D σ' w' lv cs:=by
 obtain ⟨vs,f,c,l,hD⟩:=h.ex
 exact ⟨vs,f.nx k fun i a=>d i ((hD i).2 ⟨lv,by simp,a⟩),⟨c.1,fun i a b=>(c.2 i a b).nx k fun j g=>d j ((hD j).2 ⟨vs[i],by simp[List.getElem_mem a],g⟩)⟩,l,hD⟩
theorem RowsIs.up (h:RowsIs B D σ w lv cs) (k:Stp w σ w' σ'):RowsIs B D σ' w' lv cs:=
 h.nx (E:=fun _=>False) (.of_stp k) fun _ _=>id
theorem RowsIs.freeze (h:RowsIs B D σ w lv cs) (y:X3 w σ): ∃σ',X3 w σ'∧SLe σ σ'∧Sl 2 H4 σ' lv cs∧ ∀k,¬D k→σ' k=σ k:=by
 obtain ⟨vs,m,b,J,hD⟩:=h.ex
 obtain ⟨j,l⟩:=List.pairwise_cons.1 J
 obtain ⟨σ1,z,p,H,o1⟩:=b.freeze y l
 have d:J7 B T.n 2 Q3S σ1 w lv (T7 vs cs):=m.shiftR p fun k a=>by
  rw[o1 k fun v f e=>j v f k a e];exact (m.mem a).2.2
 obtain ⟨C,s,r,A,o2⟩:=d.freeze z
 refine ⟨C,s,p.more r,A.conv (R':=H4) (ys:=cs) (by rw[Wq b.1]) fun i L o c t=>?_,fun k a=>?_⟩
 ·have g:i<vs.length:=by rw[b.1];exact o
  obtain ⟨n,q,_⟩:=t
  have e:(T7 vs cs)[i]=(cs[i].kind,vs[i]):=by simp[T7]
  rw[e] at n q
  exact ⟨vs[i],n,(H i g o).lift r,q⟩
 ·rw[o2 k fun e=>a ((hD k).2 ⟨lv,by simp,e.symm⟩),o1 k fun v f e=>a ((hD k).2 ⟨v,by simp[f],e⟩)]
theorem HeapIs.mem (h:HeapIs B D σ w hp tv room cs) {k:Nat} (hk:D k):B≤k∧k<w.heap.size∧σ k=none:=by
 obtain ⟨b,lv,E,rfl,hB,a,c,hE,hD⟩:=h.ex
 rcases (hD k).1 hk with rfl | hk
 ·exact ⟨hB,a.lt,a.1⟩
 ·exact c.mem hk
theorem HeapIs.nx {F:Nat→Prop} (h:HeapIs B D σ w hp tv room cs) (k:Nxt F w σ w' σ') (a: ∀k,D k→ ¬F k):HeapIs B D σ' w' hp tv room cs:=by
 obtain ⟨b,lv,E,rfl,hB,f,c,hE,hD⟩:=h.ex
 exact ⟨b,lv,E,rfl,hB,f.nx k (a b ((hD b).2 (.inl rfl))),c.nx k fun i d=>a i ((hD i).2 (.inr d)),hE,hD⟩
theorem HeapIs.up (h:HeapIs B D σ w hp tv room cs) (k:Stp w σ w' σ'):HeapIs B D σ' w' hp tv room cs:=
 h.nx (F:=fun _=>False) (.of_stp k) fun _ _=>id
theorem HeapIs.freeze (h:HeapIs B D σ w hp tv room cs) (j:X3 w σ): ∃σ',X3 w σ'∧SLe σ σ'∧S6 σ' hp tv room cs∧ ∀k,¬D k→σ' k=σ k:=by
 obtain ⟨b,lv,E,rfl,hB,f,g,hE,hD⟩:=h.ex
 obtain ⟨σ1,l,m,p,o1⟩:=g.freeze j
 have a:Y3 σ1 w b [tv,I room,I (Y9 cs),lv]:=⟨by rw[o1 b hE];exact f.1,f.2⟩
 obtain ⟨q,i,c,o,n⟩:=a.freeze l
 exact ⟨q,i,m.more c,⟨_,lv,rfl,o,p.lift c⟩,fun k d=>by rw[n k fun e=>d ((hD k).2 (.inl e)),o1 k fun e=>d ((hD k).2 (.inr e))]⟩
end
end Go.Proofs.YtjdiakhipmggjaaGreatDoor

namespace Go.Emb
open Go.RowKit Go.Hm
variable {H : Type} {enc : TypeId × Value → H} {P : Program} {W : World} {t : TypeId} {cs : List Value} {fuel : Nat} {x : DataW H × List MemPlace}
theorem X1O {j:Array Field} (c:P.underlying t=some (.struct j)) (h:DataW.trod enc P W 0 (fun _=>true) true fuel t cs=some x) (k:Wt P t x.1) (i:Nat) {o m:Nat} {b:TypeId}
 (w:(j[i]?).map (fun f=>(f.type,f.offset))=some (b,o)) (q:P.cellsOf b=m): ∃n y,DataW.trod enc P W 0 (fun _=>true) true n b ((cs.drop o).take m)=some y∧Wt P b y.1:=by
 obtain ⟨xs,n,_,rfl,A,s,l⟩:=DataW.trod_struct c h
 obtain ⟨f,a,z⟩:=Option.map_eq_some_iff.1 w
 cases z
 have g:=l i f a
 have e:i<xs.length:=by rw[s];exact (Array.getElem?_eq_some_iff.1 a).1
 rw[List.getElem?_eq_getElem e,q] at g
 refine ⟨n,_,g,fun m r=>k m ?_⟩
 simp only[DataW.weights,c]
 exact Q7v (i:=i) (u:=f.type) (by rw[List.getElem?_map,Array.getElem?_toList,a];rfl) (by rw[List.getElem?_map,List.getElem?_eq_getElem e];rfl) m r
def Hk (_:Q6) (x:ActH) (cs:List Value):Prop:=cs=[I x.kind,S x.s,I x.n,I x.ref,I x.v.sort,I x.v.n,S x.v.s,I x.v.ref]∧(Yw x.kind∧x.s.length≤U1∧Yw x.n∧Yw x.ref)∧Yw x.v.sort∧Yw x.v.n∧x.v.s.length≤U1∧Yw x.v.ref
instance:Rep Hk:=⟨fun _ h=>h,fun h u hu=>by rw[h.1] at hu;simp at hu;rcases hu with rfl | rfl | rfl | rfl | rfl | rfl | rfl | rfl<;>rfl⟩
end Go.Emb
namespace Go.Proofs.YtjdiakhipmggjaaGreatDoor
open Go.Emb Go.RowKit Go.Kd Go.Hm
variable {H : Type} {enc : TypeId × Value → H} {W : World} {cs : List Value} {fuel : Nat} {x : DataW H × List MemPlace}
def X3w:Array Field:= #[⟨"Sort",T.d,0,false, "", "",0⟩,⟨"N",T.a0,1,false, "", "",8⟩,⟨"S",T.c,2,false, "", "",16⟩,⟨"Ref",T.d,3,false, "", "",32⟩]
theorem Q3t:P.underlying T.g=some (.struct X3w):=by kernel_rfl
theorem Q7i:P.underlying T.a0=some (.int .i64):=by kernel_rfl
theorem X33 (h:DataW.trod enc P W 0 (fun _=>true) true fuel T.g cs=some x) (a:Wt P T.g x.1): ∃y,N0 (Ux W) y cs:=by
 obtain ⟨c0,D,A,C,rfl⟩:=X46 (Q9F Q3t (by kernel_rfl) h)
 obtain ⟨_,_,k,w0⟩:=Lq (o:=0) Q3t h a 0 rfl Q50
 obtain ⟨_,_,z,w1⟩:=Lq (o:=1) Q3t h a 1 rfl (by kernel_rfl)
 obtain ⟨_,_,w,m⟩:=Lq (o:=2) Q3t h a 2 rfl Pk
 obtain ⟨_,_,u,B⟩:=Lq (o:=3) Q3t h a 3 rfl Q50
 obtain ⟨g,c,q⟩:=Gz Q1u k
 obtain ⟨r,f,s⟩:=Gz Q7i z
 obtain ⟨l,b,n⟩:=Q9U X8 w m
 obtain ⟨j,e,i⟩:=Gz Q1u u
 simp at c f b e
 subst c f b e
 exact ⟨⟨g,r,l,j⟩,rfl,q,s,n,i⟩
def X47:Array Field:= #[⟨"Kind",T.d,0,false, "", "",0⟩,⟨"S",T.c,1,false, "", "",8⟩,⟨"N",T.a0,2,false, "", "",24⟩,⟨"Ref",T.d,3,false, "", "",32⟩,⟨"V",T.g,4,false, "", "",40⟩]
theorem Ph:P.underlying T.l=some (.struct X47):=by kernel_rfl
theorem Q9N (h:DataW.trod enc P W 0 (fun _=>true) true fuel T.l cs=some x) (a:Wt P T.l x.1): ∃y,Hk (Ux W) y cs:=by
 obtain ⟨c0,Z,O,X,Q,V,c6,Y,rfl⟩:=X3H (Q9F Ph (by kernel_rfl) h)
 obtain ⟨_,_,r,w0⟩:=Lq (o:=0) Ph h a 0 rfl Q50
 obtain ⟨_,_,N,w1⟩:=Lq (o:=1) Ph h a 1 rfl Pk
 obtain ⟨_,_,M,R⟩:=Lq (o:=2) Ph h a 2 rfl (by kernel_rfl)
 obtain ⟨_,_,J,U⟩:=Lq (o:=3) Ph h a 3 rfl Q50
 obtain ⟨_,_,B,l⟩:=X1O (o:=4) (m:=4) Ph h a 4 rfl (by kernel_rfl)
 obtain ⟨k,c,w⟩:=Gz Q1u r
 obtain ⟨z,g,A⟩:=Q9U X8 N w1
 obtain ⟨s,b,u⟩:=Gz Q7i M
 obtain ⟨q,e,n⟩:=Gz Q1u J
 obtain ⟨C,f,E⟩:=X33 B l
 simp at c g b e f
 obtain ⟨j,i,L,D⟩:=f
 subst c g b e j i L D
 exact ⟨⟨k,z,s,q,C⟩,rfl,⟨w,A,u,n⟩,E⟩
theorem Q9D:P.underlying T.z=some (.slice T.l):=by kernel_rfl
section
variable {v : Value} {d : DataW H} {p : List MemPlace}
set_option maxRecDepth 100000 in
theorem X1U {base:Nat} (g:Value.okWide P W .any base T.z v) (h:DataW.Trod enc P W 0 (fun _=>true) true T.z v d p) (b:Wt P T.z d): ∃l,Sl 8 Hk (Ux W) v l:=by
 obtain ⟨a,n,c,rfl⟩:=WideShapes.okWide_slice Q9D g
 unfold DataW.Trod at h
 obtain ⟨fuel,h⟩:=h
 obtain ⟨u,l,e,f⟩:=X3Z (R:=Hk) (sz:=8) Q9D (by kernel_rfl) (by decide) (fun _ _ _ h b=>Q9N h b) h b
 simp[Value.cells] at e
 subst e
 exact ⟨l,f⟩
set_option maxRecDepth 100000 in
theorem X3p {base:Nat} (b:Value.okWide P W .any base T.l v) (h:DataW.Trod enc P W 0 (fun _=>true) true T.l v d p) (c:Wt P T.l d): ∃y cs,v= .agg (List.toArray cs)∧Hk (Ux W) y cs:=by
 have a:=b
 unfold Value.okWide at a
 rw[Ph] at a
 obtain ⟨cs,rfl,_⟩:=a
 unfold DataW.Trod at h
 obtain ⟨fuel,h⟩:=h
 obtain ⟨y,e⟩:=Q9N h c
 obtain ⟨cs⟩:=cs
 exact ⟨y,cs,rfl,by simpa [Value.cells] using e⟩
end
end Go.Proofs.YtjdiakhipmggjaaGreatDoor

namespace Go.Emb
open Go.RowKit Go.Hm
variable {P : Program} {w : World} {K : Value → World → Prop}
theorem Q9O (n:Int):(BitVec.ofInt 64 n &&& BitVec.ofInt 64 1).toNat=(n % 2).toNat:=by
 rw[BitVec.toNat_and,BitVec.toNat_ofInt,BitVec.toNat_ofInt]
 have e:((1:Int) % ((2 ^ 64:Nat):Int)).toNat=1:=by decide
 rw[e,Nat.and_one_is_mod]
 omega
theorem X2K {t:TypeId} {b a:Operand} {n:Int} (h:K (I (n % 2)) w):Q3 P .and t b a (I n) (I 1) w K:=by
 have e:Q3 P .and t b a (I n) (I 1) w K=K (I (n % 2)) w:=X9 (by
  have d:(BitVec.ofInt IntKind.i64.bits n &&& BitVec.ofInt IntKind.i64.bits 1).toNat=(n % 2).toNat:=Q9O n
  have f:IntKind.i64.wrap ((n % 2).toNat:Int)=n % 2:=by rw[G8 (by omega) (by omega)];omega
  have c:((n % 2 ^ IntKind.i64.bits).toNat &&& 1 % 2 ^ IntKind.i64.bits)=(n % 2).toNat:=by
   show ((n % 18446744073709551616).toNat &&& 1)=_
   rw[Nat.and_one_is_mod];omega
  simp[eqGuard,binOp,Op.intBits,c]
  rw[show max (n % 2) 0=n % 2 by omega,G8 (by omega) (by omega)])
 rw[e];exact h
end Go.Emb
namespace Go.Proofs.YtjdiakhipmggjaaGreatDoor
open Go.Emb Go.RowKit Go.Kd Go.Hm
variable {w w' : World} {K : Value → World → Prop} {σ σ' : Q6} {hp tv : Value} {room : Int} {cs : List Cel} {l : List Cla}
theorem X3f:(P.fieldsOf T.g).toList=[⟨"Sort",T.d,0,false, "", "",0⟩,⟨"N",T.a0,1,false, "", "",8⟩,⟨"S",T.c,2,false, "", "",16⟩,⟨"Ref",T.d,3,false, "", "",32⟩]:=by kernel_rfl
set_option maxRecDepth 100000 in
theorem Q7O (a b:Val):(Op.eqFields 9999 [I a.sort,I a.n,S a.s,I a.ref].toArray [I b.sort,I b.n,S b.s,I b.ref].toArray (P.fieldsOf T.g).toList).run P w= .ok (decide (a=b)) w:=by
 rw[X3f]
 have:=Pn (P:=P) (w:=w) (d:=9999) (xs:=[I a.sort,I a.n,S a.s,I a.ref].toArray) (ys:=[I b.sort,I b.n,S b.s,I b.ref].toArray) (f:=⟨"Sort",T.d,0,false, "", "",0⟩) (by decide) rfl rfl (Q44 (k:= .i64) (by kernel_rfl) _ _)
  (Pn (f:=⟨"N",T.a0,1,false, "", "",8⟩) (by decide) rfl rfl (Q44 (k:= .i64) (by kernel_rfl) _ _) (Pn (f:=⟨"S",T.c,2,false, "", "",16⟩) (by decide) rfl rfl (X2n X8 _ _) (Pn (f:=⟨"Ref",T.d,3,false, "", "",32⟩) (by decide) rfl rfl (Q44 (k:= .i64) (by kernel_rfl) _ _) X2f)))
 rw[this]
 congr 1
 obtain ⟨c,g,m,o⟩:=a
 obtain ⟨h,i,j,e⟩:=b
 simp[Bool.decide_and]
theorem Ev {a b d:Int} {c:X0}: ∀u∈[I a,I b,S c,I d],u.oneCell'=true:=by
 intro u e
 simp only[List.mem_cons,List.not_mem_nil,or_false] at e
 rcases e with rfl | rfl | rfl | rfl<;>rfl
set_option maxRecDepth 100000 in
theorem Ds {k j:Operand} {a c i d e b:Int} {g f:X0} (h:K (.bool (decide ((⟨a,c,g,i⟩:Val)=⟨d,e,f,b⟩))) w):Q3 P .eql T.g k j (.agg [I a,I c,S g,I i].toArray) (.agg [I d,I e,S f,I b].toArray) w K:=
 X2h (by kernel_rfl) (by kernel_rfl) (by kernel_rfl) (Q7O ⟨a,c,g,i⟩ ⟨d,e,f,b⟩) h
set_option maxRecDepth 100000 in
theorem Q7e {k j:Operand} {a c i d e b:Int} {g f:X0} (h:K (.bool (!decide ((⟨a,c,g,i⟩:Val)=⟨d,e,f,b⟩))) w):Q3 P .neq T.g k j (.agg [I a,I c,S g,I i].toArray) (.agg [I d,I e,S f,I b].toArray) w K:=
 X1C (by kernel_rfl) (by kernel_rfl) (by kernel_rfl) (Q7O ⟨a,c,g,i⟩ ⟨d,e,f,b⟩) h
theorem Sl.elV {v:Value} {xs:List Val} (h:Sl 4 N0 σ v xs) {i:Nat} (b:i<xs.length):Z4 σ (Vw 4 v i) [I xs[i].sort,I xs[i].n,S xs[i].s,I xs[i].ref]∧N0 σ xs[i] [I xs[i].sort,I xs[i].n,S xs[i].s,I xs[i].ref]:=by
 obtain ⟨cs,a,d,rfl,c⟩:=h.el b;exact ⟨a,rfl,c⟩
theorem Sl.elO {v:Value} {xs:List Cel} (h:Sl 2 H4 σ v xs) {i:Nat} (c:i<xs.length): ∃a,Z4 σ (Vw 2 v i) [S xs[i].kind,a]∧Sl 4 N0 σ a xs[i].vals∧xs[i].kind.length≤U1:=by
 obtain ⟨cs,b,f,a,rfl,d,e⟩:=h.el c;exact ⟨a,b,d,e⟩
theorem X3u (d:X3 w σ) (hh:S6 σ hp tv room cs) (h:K (I cs.length) w):Q1 P F.c2 [hp] w K:=Q24 (by
 obtain ⟨a,e,rfl,b,c⟩:=hh
 unfold Hx
 (try simp only[↓M1,M1,Mb,reduceIte])
 refine ld d b rfl ?_
 refine Q8 c ?_
 exact h)
theorem X0v (c:X3 w σ) (hh:S6 σ hp tv room cs) (h:K tv w):Q1 P F.bB [hp] w K:=Ts (by
 obtain ⟨a,e,rfl,b,d⟩:=hh
 unfold Dd
 rw[L9,fa]
 exact ld c b rfl h)
theorem Q1N (c:X3 w σ) (hh:S6 σ hp tv room cs) (m:0≤V8 room cs) (f:room≤1048576) (h: ∀w',Below w.heap.size w w'→K (I (V8 room cs)) w'):Q1 P F.v [hp] w K:=Q0o (by
 obtain ⟨a,j,rfl,e,i⟩:=hh
 unfold Ee
 have k:=M0 cs
 unfold V8 at*
 refine J9 c ?_
 (repeat refine J3 Qe ?_)
 (intros;(repeat (rename_i d;subst d));(try simp only[↓M2,M2,Mb,reduceIte]))
 rename_i g b
 rw[G8 (by omega) (by omega)]
 exact h _ b.stp.bel)
theorem Q5p (e:X3 w σ) (hh:S6 σ hp tv room cs) {r:Int} (h:K (.bool (M6 cs r)) w):Q1 P F.aH [hp,I r] w K:=Q21 (by
 obtain ⟨a,f,rfl,c,d⟩:=hh
 unfold Ht
 refine P4 ?_
 unfold M6 at h
 cases b:decide ((0:Int)≤r) with
 | false=>
  rw[b] at h
  (try simp only[↓M1,M1,Mb,reduceIte])
  exact h
 | true=>
  rw[b] at h
  (try simp only[↓M1,M1,Mb,reduceIte])
  refine ld e c rfl ?_
  refine Q8 d ?_
  refine Z1 ?_
  (try simp only[↓M1,M1,Mb,reduceIte])
  exact h)
theorem Q7z (c:X3 w σ) (hh:S6 σ hp tv room cs) {r:Int} (h:K (S (E1 cs r)) w):Q1 P F.aB [hp,I r] w K:=Q0v (by
 unfold Ek
 refine Q5p c hh ?_
 unfold E1 at h
 cases d:M6 cs r with
 | false=>rw[d] at h;(try simp only[↓M1,M1,Mb,reduceIte]);exact h
 | true=>
  rw[d] at h
  obtain ⟨i,rfl,b⟩:=O9.1 d
  rw[W4 b] at h
  obtain ⟨a,j,rfl,f,e⟩:=hh
  obtain ⟨k,g,_,_⟩:=Sl.elO e b
  (try simp only[↓M1,M1,Mb,reduceIte])
  refine ld c f rfl ?_
  refine Y1 e b ?_
  (try simp only[↓M1,M1,Mb,reduceIte])
  exact ld c g rfl h)
theorem X2i (c:X3 w σ) (hh:S6 σ hp tv room cs) {r:Int} (h:K (I (Q6i cs r)) w):Q1 P F.bN [hp,I r] w K:=Q0z (by
 unfold Ey
 refine Q5p c hh ?_
 unfold Q6i at h
 cases d:M6 cs r with
 | false=>rw[d] at h;(try simp only[↓M1,M1,Mb,reduceIte]);exact h
 | true=>
  rw[d] at h
  obtain ⟨i,rfl,b⟩:=O9.1 d
  rw[W4 b] at h
  obtain ⟨a,k,rfl,f,e⟩:=hh
  obtain ⟨m,g,j,_⟩:=Sl.elO e b
  (try simp only[↓M1,M1,Mb,reduceIte])
  refine ld c f rfl ?_
  refine Y1 e b ?_
  (try simp only[↓M1,M1,Mb,reduceIte])
  refine ld c g rfl ?_
  exact Q8 j h)
theorem Q7d (d:X3 w σ) (hh:S6 σ hp tv room cs) {r i:Int} (h:K (I (M4 cs r i)) w):Q1 P F.aS [hp,I r,I i] w K:=Au (by
 unfold Ov
 refine Q5p d hh ?_
 unfold M4 at h
 cases e:M6 cs r with
 | false=>rw[e] at h;(try simp only[↓M1,M1,Mb,reduceIte]);exact h
 | true=>
  rw[e] at h
  obtain ⟨j,rfl,c⟩:=O9.1 e
  rw[W4 c] at h
  obtain ⟨a,o,rfl,n,f⟩:=hh
  obtain ⟨p,m,k,_⟩:=Sl.elO f c
  (try simp only[↓M1,M1,Mb,reduceIte])
  by_cases g:i<0
  ·rw[decide_eq_true g]
   (try simp only[↓M1,M1,Mb,reduceIte])
   rw[if_pos rfl,if_neg (by omega)] at h
   exact h
  ·rw[decide_eq_false g]
   (try simp only[↓M1,M1,Mb,reduceIte])
   refine ld d n rfl ?_
   refine Y1 f c ?_
   (try simp only[↓M1,M1,Mb,reduceIte])
   refine ld d m rfl ?_
   refine Q8 k ?_
   refine P4 ?_
   (try simp only[↓M1,M1,Mb,reduceIte])
   refine Q7 (fun b=>?_) (fun b=>?_)
   ·have b:(cs[j].vals.length:Int)≤i:=by simpa using b
    rw[if_pos rfl,if_neg (by omega)] at h
    exact h
   ·have b: ¬(cs[j].vals.length:Int)≤i:=by simpa using b
    rw[if_pos rfl,if_pos (by omega)] at h
    exact h)
theorem X04 (q:X3 w σ) (hh:S6 σ hp tv room cs) {r i:Int} (h: ∀w' σ',Stp w σ w' σ'→K (.tuple #[.agg [I (Ng cs r i).sort,I (Ng cs r i).n,S (Ng cs r i).s,I (Ng cs r i).ref].toArray,I (M4 cs r i)]) w'):Q1 P F.b4 [hp,I r,I i] w K:=Q1U (by
 unfold Hr
 refine N1 q fun b w1 σ1 v c o=>?_
 have k:=hh.lift ⟨c.le⟩
 refine Q7d c.sat k ?_
 refine Zb ?_
 unfold Ng at h
 by_cases g:M4 cs r i=0
 ·have e:decide (M4 cs r i=0)=true:=decide_eq_true g
  rw[if_pos g,g] at h
  obtain ⟨a,E,rfl,D,y⟩:=k
  simp only[e,Bool.not_true,↓M1,M1,Mb,reduceIte]
  obtain ⟨j,m,rfl,rfl,p,t⟩:=Uj g
  rw[W4 p,Int.toNat_natCast] at h
  obtain ⟨H,B,u,_⟩:=Sl.elO y p
  obtain ⟨C,z⟩:=Sl.elV u t
  refine ld c.sat D rfl ?_
  refine Y1 y p ?_
  (try simp only[↓M1,M1,Mb,reduceIte])
  refine ld c.sat B rfl ?_
  refine Y1 u t ?_
  refine Y2 c.sat C rfl ?_
  refine G1 o c (N2 v (Stp.refl q)) rfl rfl (Rep.one z) fun A f d=>?_
  refine V1 d rfl ?_
  have e:cs[j].vals.getD m Val.zero=cs[j].vals[m]:=by rw[List.getD_eq_getElem?_getD,List.getElem?_eq_getElem t];rfl
  rw[e] at h
  exact h _ _ f.stp
 ·have e:decide (M4 cs r i=0)=false:=by simpa using g
  rw[if_neg g] at h
  simp only[e,Bool.not_false,↓M1,M1,Mb,reduceIte]
  refine W1 (cells:= #[I 0,I 0,S [],I 0]) (by kernel_rfl) ?_
  refine G1 (ds:=[I 0,I 0,S [],I 0]) o c (N2 v (Stp.refl q)) rfl rfl Ev fun A f d=>?_
  refine V1 d rfl ?_
  exact h _ _ f.stp)
theorem Q9j {k:X0} (o:X3 w σ) (h: ∀w' σ',Stp w σ w' σ'→K (.agg [I (M3 k).sort,I (M3 k).n,S (M3 k).s,I (M3 k).ref].toArray) w'):Q1 P F.cv [S k] w K:=Q6N (by
 unfold Q27
 refine N1 o fun b w1 σ1 q g m=>?_
 have hB:=N2 q (Stp.refl o)
 unfold M3 at h
 have a: ∀(n:Int) (t:K (.agg [I n,I 0,S [],I 0].toArray)=K (.agg [I n,I 0,S [],I 0].toArray)),(∀w' σ',Stp w σ w' σ'→K (.agg [I n,I 0,S [],I 0].toArray) w')→Y0 P T.g (.pointer (some ⟨b,0,none⟩)) (.agg #[I n,I 0,S [],I 0]) w1 fun _ i=>Y8 P T.g (.pointer (some ⟨b,0,none⟩)) i fun p=>K p i:=fun n _ r=>
  G1 (ds:=[I n,I 0,S [],I 0]) m g hB rfl rfl Ev fun i j f=>V1 f rfl (r _ _ j.stp)
 refine P7 ?_
 by_cases c:k=P9
 ·simp only[if_pos c] at h
  rw[show decide (k=[105,110,116])=true from decide_eq_true c]
  refine J6 ?_
  refine W1 (cells:= #[I 1,I 0,S [],I 0]) (by kernel_rfl) ?_
  exact a 1 rfl h
 simp only[if_neg c] at h
 rw[show decide (k=[105,110,116])=false from decide_eq_false c]
 refine Z6 ?_
 refine P7 ?_
 by_cases e:k=Ja
 ·simp only[if_pos e] at h
  rw[show decide (k=[98,111,111,108])=true from decide_eq_true e]
  refine J6 ?_
  refine W1 (cells:= #[I 2,I 0,S [],I 0]) (by kernel_rfl) ?_
  exact a 2 rfl h
 simp only[if_neg e] at h
 rw[show decide (k=[98,111,111,108])=false from decide_eq_false e]
 refine Z6 ?_
 refine P7 ?_
 by_cases d:k=D7
 ·simp only[if_pos d] at h
  rw[show decide (k=[116,101,120,116])=true from decide_eq_true d]
  refine J6 ?_
  refine W1 (cells:= #[I 3,I 0,S [],I 0]) (by kernel_rfl) ?_
  exact a 3 rfl h
 ·simp only[if_neg d] at h
  rw[show decide (k=[116,101,120,116])=false from decide_eq_false d]
  refine Z6 ?_
  refine W1 (cells:= #[I 0,I 0,S [],I 0]) (by kernel_rfl) ?_
  exact a 0 rfl h)
def W3 (s:X0):Bool:=decide (s.length≤4096)&&Lib.validD s
theorem Q8d (hh:S6 σ hp tv room cs) (r:Int):(E1 cs r).length≤U1:=by
 unfold E1
 split
 ·rename_i d
  obtain ⟨i,rfl,b⟩:=O9.1 d
  rw[W4 b]
  obtain ⟨a,f,rfl,e,c⟩:=hh
  exact (Sl.elO c b).choose_spec.2.2
 ·exact Nat.zero_le _
theorem X1T (hh:S6 σ hp tv room cs) (v:Val):(P6 W3 cs v).length≤U1:=by
 unfold P6
 split
 ·decide
 split
 ·decide
 split
 ·decide
 split
 ·decide
 split
 ·exact Q8d hh _
 ·exact Nat.zero_le _
theorem Q65 (n:Int):n=n % 2↔n=0∨n=1:=by omega
set_option maxHeartbeats 1000000 in
theorem X4f (W:X3 w σ) (X:Glb σ) (hh:S6 σ hp tv room cs) {v:Val} (Y:v.s.length≤U1) (h: ∀w' σ',Stp w σ w' σ'→K (S (P6 W3 cs v)) w'):Q1 P F.ce [hp, .agg [I v.sort,I v.n,S v.s,I v.ref].toArray] w K:=Q2C (by
 unfold Rw
 refine Z0 W fun q w1 σ1 g k=>?_
 have f:=g.sat
 refine Y2 f k rfl ?_
 refine W1 (cells:= #[I 0,I 0,S [],I 0]) (by kernel_rfl) ?_
 refine Ds ?_
 unfold P6 at h
 by_cases A:v=Val.zero
 ·rw[if_pos A] at h
  have:decide ((⟨v.sort,v.n,v.s,v.ref⟩:Val)=⟨0,0,[],0⟩)=true:=decide_eq_true A
  rw[this]
  exact J6 (h _ _ g)
 rw[if_neg A] at h
 have:decide ((⟨v.sort,v.n,v.s,v.ref⟩:Val)=⟨0,0,[],0⟩)=false:=decide_eq_false A
 rw[this]
 refine Z6 ?_
 refine Y2 f k rfl ?_
 refine V7 ?_
 refine ld f k rfl ?_
 refine W1 (cells:= #[I 1,I v.n,S [],I 0]) (by kernel_rfl) ?_
 refine Ds ?_
 by_cases B:v=⟨1,v.n,[],0⟩
 ·rw[if_pos B] at h
  have:decide ((⟨v.sort,v.n,v.s,v.ref⟩:Val)=⟨1,v.n,[],0⟩)=true:=decide_eq_true B
  rw[this]
  exact J6 (h _ _ g)
 rw[if_neg B] at h
 have:decide ((⟨v.sort,v.n,v.s,v.ref⟩:Val)=⟨1,v.n,[],0⟩)=false:=decide_eq_false B
 rw[this]
 refine Z6 ?_
 refine Y2 f k rfl ?_
 refine V7 ?_
 refine ld f k rfl ?_
 refine X2K ?_
 refine W1 (cells:= #[I 2,I (v.n % 2),S [],I 0]) (by kernel_rfl) ?_
 refine Ds ?_
 have p:(v=⟨2,v.n % 2,[],0⟩)↔(v=⟨2,v.n,[],0⟩∧(v.n=0∨v.n=1)):=by
  obtain ⟨a,b,c,d⟩:=v
  simp only[Val.mk.injEq,true_and]
  constructor
  ·rintro ⟨D,E,p⟩;exact ⟨⟨D,p⟩,(Q65 b).1 E⟩
  ·rintro ⟨⟨D,p⟩,E⟩;exact ⟨D,(Q65 b).2 E,p⟩
 by_cases y:v=⟨2,v.n % 2,[],0⟩
 ·rw[if_pos (p.1 y)] at h
  have:decide ((⟨v.sort,v.n,v.s,v.ref⟩:Val)=⟨2,v.n % 2,[],0⟩)=true:=decide_eq_true y
  rw[this]
  exact J6 (h _ _ g)
 rw[if_neg (fun e=>y (p.2 e))] at h
 have:decide ((⟨v.sort,v.n,v.s,v.ref⟩:Val)=⟨2,v.n % 2,[],0⟩)=false:=decide_eq_false y
 rw[this]
 refine Z6 ?_
 refine Y2 f k rfl ?_
 refine V7 ?_
 refine ld f k rfl ?_
 refine W1 (cells:= #[I 3,I 0,S v.s,I 0]) (by kernel_rfl) ?_
 refine Ds ?_
 have i: ∀{z O},Stp w σ z O→SLe σ1 O→(∀w' σ',Stp w σ w' σ'→K (S (if v=⟨4,0,[],v.ref⟩ then E1 cs v.ref else [])) w')→Q2 P T.g (.pointer (some q)) z fun R w=>
  Q2 P T.d (.pointer (some (q.add 3))) w fun J w=>
  H3 P T.g [(0,(.int .i64 4)),(3,J)] w fun Q w=>
  Q3 P .eql T.g (.tmp 40) (.tmp 43) R Q w fun C w=>
  X1 C (
   Q2 P T.d (.pointer (some (q.add 3))) w fun N w=>
   Q1 P F.aB [hp,N] w fun M w=>
   K M w) (
   K (.string ⟨#[]⟩) w):=by
  intro z O j L h
  have m:=k.lift L
  refine Y2 j.sat m rfl ?_
  refine ld j.sat m rfl ?_
  refine W1 (cells:= #[I 4,I 0,S [],I v.ref]) (by kernel_rfl) ?_
  refine Ds ?_
  by_cases t:v=⟨4,0,[],v.ref⟩
  ·rw[if_pos t] at h
   have:decide ((⟨v.sort,v.n,v.s,v.ref⟩:Val)=⟨4,0,[],v.ref⟩)=true:=decide_eq_true t
   rw[this]
   refine J6 ?_
   refine ld j.sat m rfl ?_
   exact Q7z j.sat (hh.lift ⟨j.le⟩) (h _ _ j)
  ·rw[if_neg t] at h
   have:decide ((⟨v.sort,v.n,v.s,v.ref⟩:Val)=⟨4,0,[],v.ref⟩)=false:=decide_eq_false t
   rw[this]
   exact Z6 (h _ _ j)
 by_cases u:v=⟨3,0,v.s,0⟩
 ·have:decide ((⟨v.sort,v.n,v.s,v.ref⟩:Val)=⟨3,0,v.s,0⟩)=true:=decide_eq_true u
  rw[this]
  (try simp only[↓M1,M1,Mb,reduceIte])
  refine ld f k rfl ?_
  refine Gh X8 ?_
  refine Q52 ?_
  by_cases V:v.s.length≤4096
  ·rw[decide_eq_true (show (v.s.length:Int)≤4096 by omega)]
   (try simp only[↓M1,M1,Mb,reduceIte])
   refine ld f k rfl ?_
   refine Ti Y (X.tabs _ (fun b o e=>f b o (g.le b o e))) fun z H=>?_
   have r:=g.trans (Stp.of_below f H)
   cases U:Lib.validD v.s with
   | true=>
    (try simp only[↓M1,M1,Mb,reduceIte])
    rw[if_pos ⟨u,by simp[W3,U,V]⟩] at h
    exact h _ _ r
   | false=>
    (try simp only[↓M1,M1,Mb,reduceIte])
    rw[if_neg (by rintro ⟨_,e⟩;simp[W3,U] at e)] at h
    exact i r (SLe.refl _) h
  ·rw[decide_eq_false (show¬(v.s.length:Int)≤4096 by omega)]
   (try simp only[↓M1,M1,Mb,reduceIte])
   rw[if_neg (by rintro ⟨_,e⟩;simp[W3,V] at e)] at h
   exact i g (SLe.refl _) h
 ·have:decide ((⟨v.sort,v.n,v.s,v.ref⟩:Val)=⟨3,0,v.s,0⟩)=false:=decide_eq_false u
  rw[this]
  (try simp only[↓M1,M1,Mb,reduceIte])
  rw[if_neg (fun e=>u e.1)] at h
  exact i g (SLe.refl _) h)
end Go.Proofs.YtjdiakhipmggjaaGreatDoor

namespace Go.Proofs.YtjdiakhipmggjaaGreatDoor
open Go.Emb Go.RowKit Go.Kd Go.Hm
variable {w : World} {K : Value → World → Prop} {σ : Q6}
theorem Gj {β:Type} {xs:List Val} {v f:Value} (b:β→Val→Bool×β) (i:β) (a:β→World→Prop) (D:Nat→Prop) (m: ∀s w,a s w→X3 w σ) (B:a i w) (t:Sl 4 N0 σ v xs)
 (C: ∀s x cs (w1:World) (K:Value→World→Prop),x∈xs→Kpt D w w1→a s w1→N0 σ x cs→cs.length=4→(∀w',Kpt D w w'→a (b s x).2 w'→K (.bool (b s x).1) w')→Z3 P f [.agg cs.toArray] w1 K)
 (h: ∀w',Kpt D w w'→a (J5 b i xs 0).2 w'→K (I (L6 (J5 b i xs 0).1)) w'):Q1 P F.a4 [v,f] w K:=Yu (by
 unfold G6
 ((try simp only[↓M1,M1,Mb,reduceIte]);repeat ((first | refine ld (by assumption) (by assumption) rfl ?_ | refine X7 (by assumption) (by assumption) rfl ?_ | refine Q8 (by assumption) ?_);(try simp only[↓M1,M1,Mb,reduceIte])))
 refine U2 xs.length (fun n w'=>Kpt D w w'∧ ∃s,a s w'∧J5 b i xs 0=J5 b s (xs.drop n) n) ⟨Kpt.refl,i,B,rfl⟩ fun n w1 d E k=>?_
 obtain ⟨u,s,k,g⟩:=k
 have r:=m s w1 k
 ((try simp only[↓M1,M1,Mb,reduceIte]);repeat ((first | refine ld (by assumption) (by assumption) rfl ?_ | refine X7 (by assumption) (by assumption) rfl ?_ | refine Q8 (by assumption) ?_);(try simp only[↓M1,M1,Mb,reduceIte])))
 refine Q7 (fun o=>?_) (fun o=>?_)
 ·have c:n<xs.length:=by simpa using o
  refine N3 t c fun p cs z e y=>?_
  refine Y2 r z e ?_
  refine C s xs[n] cs w1 _ (List.getElem_mem c) u k y e fun A j l=>?_
  rw[List.drop_eq_getElem_cons c] at g
  simp only[J5] at g
  refine Q7 (fun q=>?_) (fun q=>?_)
  ·rw[q] at g
   have:=h A j
   rw[g] at this
   exact this l
  ·rw[q] at g
   ((try simp only[↓M1,M1,Mb,reduceIte]);repeat ((first | refine ld (by assumption) (by assumption) rfl ?_ | refine X7 (by assumption) (by assumption) rfl ?_ | refine Q8 (by assumption) ?_);(try simp only[↓M1,M1,Mb,reduceIte])))
   exact Y5 t.max c ⟨j,_,l,by simpa using g⟩
 ·have c: ¬n<xs.length:=by simpa using o
  rw[List.drop_eq_nil_of_le (by omega)] at g
  have:=h w1 u
  rw[g] at this
  exact this k)
theorem Sh {β:Type} {xs:List Val} {v f:Value} (b:β→Val→Bool×β) (d:β) (a:β→World→Prop) (D:Nat→Prop) (c: ∀s w,a s w→X3 w σ) (i:a d w) (e:Sl 4 N0 σ v xs)
 (k: ∀s x cs (w1:World) (K:Value→World→Prop),x∈xs→Kpt D w w1→a s w1→N0 σ x cs→cs.length=4→(∀w',Kpt D w w'→a (b s x).2 w'→K (.bool (b s x).1) w')→Z3 P f [.agg cs.toArray] w1 K)
 (h: ∀w',Kpt D w w'→a (J5 b d xs 0).2 w'→K (.bool (J5 b d xs 0).1.isSome) w'):Q1 P F.k [v,f] w K:=Xi (by
 unfold B2
 refine Gj b d a D c i e k fun w1 g j=>?_
 (try simp only[↓M1,M1,Mb,reduceIte])
 rw[Dx]
 exact h w1 g j)
theorem Ch {xs:List Val} {v f:Value} (p:Val→Bool) (hs:X3 w σ) (hv:Sl 4 N0 σ v xs)
 (hf: ∀x cs (w1:World) (K:Value→World→Prop),x∈xs→X3 w1 σ→N0 σ x cs→cs.length=4→(∀w',Below w1.heap.size w1 w'→K (.bool (p x)) w')→Z3 P f [.agg cs.toArray] w1 K)
 (h: ∀w',Below w.heap.size w w'→K (.bool (xs.any p)) w'):Q1 P F.k [v,f] w K:=by
 refine Sh (fun (_:Unit) x=>(p x,())) () (fun _ w'=>Below w.heap.size w w') (fun _=>False) (fun _ w' hb=>hs.below hb) (Below.refl _ _) hv (fun s x cs w1 K hx hk hi hr hl hK=>hf x cs w1 K hx (hs.below hi) hr hl fun w' hb=>hK w' (.of_below (bt hi hb)) (bt hi hb)) fun w' hk hi=>?_
 rw[P3]
 simpa using h w' hi
theorem Pa {β:Type} {xs:List Cel} {v f:Value} (b:β→Cel→Bool×β) (i:β) (a:β→World→Prop) (D:Nat→Prop) (m: ∀s w,a s w→X3 w σ) (B:a i w) (t:Sl 2 H4 σ v xs)
 (C: ∀s x cs (w1:World) (K:Value→World→Prop),x∈xs→Kpt D w w1→a s w1→H4 σ x cs→cs.length=2→(∀w',Kpt D w w'→a (b s x).2 w'→K (.bool (b s x).1) w')→Z3 P f [.agg cs.toArray] w1 K)
 (h: ∀w',Kpt D w w'→a (J5 b i xs 0).2 w'→K (I (L6 (J5 b i xs 0).1)) w'):Q1 P F.a9 [v,f] w K:=Zu (by
 unfold I7
 ((try simp only[↓M1,M1,Mb,reduceIte]);repeat ((first | refine ld (by assumption) (by assumption) rfl ?_ | refine X7 (by assumption) (by assumption) rfl ?_ | refine Q8 (by assumption) ?_);(try simp only[↓M1,M1,Mb,reduceIte])))
 refine U2 xs.length (fun n w'=>Kpt D w w'∧ ∃s,a s w'∧J5 b i xs 0=J5 b s (xs.drop n) n) ⟨Kpt.refl,i,B,rfl⟩ fun n w1 d E k=>?_
 obtain ⟨u,s,k,g⟩:=k
 have r:=m s w1 k
 ((try simp only[↓M1,M1,Mb,reduceIte]);repeat ((first | refine ld (by assumption) (by assumption) rfl ?_ | refine X7 (by assumption) (by assumption) rfl ?_ | refine Q8 (by assumption) ?_);(try simp only[↓M1,M1,Mb,reduceIte])))
 refine Q7 (fun o=>?_) (fun o=>?_)
 ·have c:n<xs.length:=by simpa using o
  refine N3 t c fun p cs z e y=>?_
  refine Y2 r z e ?_
  refine C s xs[n] cs w1 _ (List.getElem_mem c) u k y e fun A j l=>?_
  rw[List.drop_eq_getElem_cons c] at g
  simp only[J5] at g
  refine Q7 (fun q=>?_) (fun q=>?_)
  ·rw[q] at g
   have:=h A j
   rw[g] at this
   exact this l
  ·rw[q] at g
   ((try simp only[↓M1,M1,Mb,reduceIte]);repeat ((first | refine ld (by assumption) (by assumption) rfl ?_ | refine X7 (by assumption) (by assumption) rfl ?_ | refine Q8 (by assumption) ?_);(try simp only[↓M1,M1,Mb,reduceIte])))
   exact Y5 t.max c ⟨j,_,l,by simpa using g⟩
 ·have c: ¬n<xs.length:=by simpa using o
  rw[List.drop_eq_nil_of_le (by omega)] at g
  have:=h w1 u
  rw[g] at this
  exact this k)
theorem Cl {β:Type} {xs:List Cel} {v f:Value} (b:β→Cel→Bool×β) (d:β) (a:β→World→Prop) (D:Nat→Prop) (c: ∀s w,a s w→X3 w σ) (i:a d w) (e:Sl 2 H4 σ v xs)
 (k: ∀s x cs (w1:World) (K:Value→World→Prop),x∈xs→Kpt D w w1→a s w1→H4 σ x cs→cs.length=2→(∀w',Kpt D w w'→a (b s x).2 w'→K (.bool (b s x).1) w')→Z3 P f [.agg cs.toArray] w1 K)
 (h: ∀w',Kpt D w w'→a (J5 b d xs 0).2 w'→K (.bool (J5 b d xs 0).1.isSome) w'):Q1 P F.n [v,f] w K:=Ye (by
 unfold F8
 refine Pa b d a D c i e k fun w1 g j=>?_
 (try simp only[↓M1,M1,Mb,reduceIte])
 rw[Dx]
 exact h w1 g j)
theorem Cm {xs:List Cel} {v f:Value} (p:Cel→Bool) (hs:X3 w σ) (hv:Sl 2 H4 σ v xs)
 (hf: ∀x cs (w1:World) (K:Value→World→Prop),x∈xs→X3 w1 σ→H4 σ x cs→cs.length=2→(∀w',Below w1.heap.size w1 w'→K (.bool (p x)) w')→Z3 P f [.agg cs.toArray] w1 K)
 (h: ∀w',Below w.heap.size w w'→K (.bool (xs.any p)) w'):Q1 P F.n [v,f] w K:=by
 refine Cl (fun (_:Unit) x=>(p x,())) () (fun _ w'=>Below w.heap.size w w') (fun _=>False) (fun _ w' hb=>hs.below hb) (Below.refl _ _) hv (fun s x cs w1 K hx hk hi hr hl hK=>hf x cs w1 K hx (hs.below hi) hr hl fun w' hb=>hK w' (.of_below (bt hi hb)) (bt hi hb)) fun w' hk hi=>?_
 rw[P3]
 simpa using h w' hi
end Go.Proofs.YtjdiakhipmggjaaGreatDoor
