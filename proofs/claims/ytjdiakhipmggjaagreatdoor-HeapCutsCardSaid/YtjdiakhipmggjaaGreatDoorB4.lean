/- Parts of a proof about the given program: its functions as texts of their own, what each computes, plain laws of that. The conditions of each stand in its statement. -/
import Derived.Test.YtjdiakhipmggjaaGreatDoorB3
import Derived.Shelf.Strings.Builder1
import Derived.Shelf.Strings.Builder2
import Derived.Shelf.Strings.OnBuilder
import Derived.Shelf.Strings.Trim
import Derived.Shelf.Small.Utf8
import Derived.Shelf.Small.Strs
import Derived.Shelf.Strings.BuilderF
import Derived.Shelf.Strings.BuilderK
import Derived.Shelf.Strings.Builder2Cap
import Derived.Shelf.Strings.Search1
import Derived.Shelf.Strings.Search2
import Derived.Shelf.Strings.Search3
import Derived.Shelf.Strings.Cut
import Derived.Shelf.LaysM
import Derived.Shelf.Strings.Shaped
import Derived.Shelf.Strings.Prefix
import Derived.Shelf.Unicode.Decode
import Derived.Shelf.Strings.Runes
import Derived.Shelf.Strings.AsciiSet
import Derived.Shelf.Unicode.DecodeSlow
import Derived.Shelf.Unicode.DecodeAny
import Derived.Shelf.Unicode.DecodeLast
import Derived.Ground.Names2Prog
import Derived.Shelf.Slices.Clone
import Derived.Shelf.Unicode.ValidAny
import Derived.Test.YtjdiakhipmggjaaGreatDoorProg
import Derived.Test.YtjdiakhipmggjaaGreatDoorRows
import Derived.Lib.LaidU8T
import Derived.OpenShut
import Derived.MakeChecks
import Derived.WideShapes
import Derived.Lib.AsciiSet
import Derived.Lib.Join
import Derived.Maps.RangeRun
set_option linter.unnecessarySimpa false
set_option linter.defProp false
set_option linter.unusedSectionVars false
set_option linter.unusedVariables false
set_option linter.unusedSimpArgs false
namespace Go.Proofs
open Go.Shelf
def Tryz.lays156_ren : Go.Shelf.Ren := ⟨fun | 156 => 143 | 165 => 176 | 166 => 177 | 169 => 178 | 240 => 200 | 241 => 201 | 276 => 213 | 277 => 214 | n => n, fun | 31 => 54 | 9 => 9 | 3 => 3 | 4 => 4 | 0 => 0 | 20 => 20 | 72 => 205 | 76 => 208 | 70 => 202 | 37 => 203 | 75 => 207 | 127 => 220 | 164 => 230 | 5 => 5 | 80 => 210 | n => n, fun | n => n⟩
theorem Tryz.lays156 : Go.Proofs.Lays.n156 Tryz.prog Tryz.lays156_ren := {
  mixed := by kernel_rfl
  f156 := Tryz.func143.trans (congrArg some (by kernel_rfl))
  f165 := Tryz.func176.trans (congrArg some (by kernel_rfl))
  f166 := Tryz.func177.trans (congrArg some (by kernel_rfl))
  f169 := Tryz.func178.trans (congrArg some (by kernel_rfl))
  f240 := Tryz.func200.trans (congrArg some (by kernel_rfl))
  f241 := Tryz.func201.trans (congrArg some (by kernel_rfl))
  f276 := Tryz.func213.trans (congrArg some (by kernel_rfl))
  f277 := Tryz.func214.trans (congrArg some (by kernel_rfl))
  t0 := Tryz.underlying0
  a0 := Tryz.isAgg0
  z0 := Tryz.sizeOf0
  v0 := Tryz.zeroValue0
  t3 := Tryz.underlying3
  a3 := Tryz.isAgg3
  z3 := Tryz.sizeOf3
  v3 := Tryz.zeroValue3
  t4 := Tryz.underlying4
  a4 := Tryz.isAgg4
  z4 := Tryz.sizeOf4
  v4 := Tryz.zeroValue4
  t9 := Tryz.underlying9
  a9 := Tryz.isAgg9
  z9 := Tryz.sizeOf9
  v9 := Tryz.zeroValue9
  t20 := Tryz.underlying20
  a20 := Tryz.isAgg20
  z20 := Tryz.sizeOf20
  v20 := Tryz.zeroValue20
  t31 := Tryz.underlying54
  a31 := Tryz.isAgg54
  z31 := Tryz.sizeOf54
  v31 := Tryz.zeroValue54
  t37 := Tryz.underlying203
  a37 := Tryz.isAgg203
  z37 := Tryz.sizeOf203
  v37 := Tryz.zeroValue203
  t70 := Tryz.underlying202
  a70 := Tryz.isAgg202
  z70 := Tryz.sizeOf202
  v70 := Tryz.zeroValue202
  t72 := Tryz.underlying205
  a72 := Tryz.isAgg205
  z72 := Tryz.sizeOf205
  v72 := Tryz.zeroValue205
  t75 := Tryz.underlying207
  a75 := Tryz.isAgg207
  z75 := Tryz.sizeOf207
  v75 := Tryz.zeroValue207
  t76 := Tryz.underlying208
  a76 := Tryz.isAgg208
  z76 := Tryz.sizeOf208
  v76 := Tryz.zeroValue208
  t127 := Tryz.underlying220
  a127 := Tryz.isAgg220
  z127 := Tryz.sizeOf220
  v127 := Tryz.zeroValue220
  t164 := Tryz.underlying230
  a164 := Tryz.isAgg230
  z164 := Tryz.sizeOf230
  v164 := Tryz.zeroValue230 }
theorem Tryz.Builder_Extra_156 : Builder.Extra Tryz.prog Tryz.lays156_ren := {
  sizeBuilder := by kernel_rfl
  liesBuilder := by kernel_rfl
  t5 := Tryz.underlying5
  a5 := Tryz.isAgg5
  z5 := Tryz.sizeOf5
  v5 := Tryz.zeroValue5
  infoByte := by kernel_rfl
  cellsByte := by kernel_rfl
  sizeByte := by kernel_rfl
  neB5 := by decide }
open Go.RowKit in
theorem Tryz.strings_Join_none (a : Option Addr) (c : Nat) (sep : ByteArray) (w : World) :
    Calls Tryz.prog 143 #[.slice a 0 c, .string sep] w fun e w' => e = .returned (.string ⟨#[]⟩) ∧ w' = w := Any.strings_Join_none Tryz.lays156 Tryz.Builder_Extra_156 a c sep w
open Go.RowKit in
theorem Tryz.strings_Join (bk o c : Nat) (xs : List ByteArray) (sep : ByteArray) (w : World) (hcells : ∀ (j : Nat) x, xs[j]? = some x → w.cell? ⟨bk, o + j, none⟩ = some (.string x)) (hbk : bk < w.heap.size) (hN : xs.length ≤ 140737488355328) (hcap : xs.length ≤ c) (hlen : (Lib.join (xs.map (·.data.toList)) sep.data.toList).length ≤ 140737488355328) :
    Calls Tryz.prog 143 #[.slice (some ⟨bk, o, none⟩) xs.length c, .string sep] w fun e w' => e = .returned (.string ⟨(Lib.join (xs.map (·.data.toList)) sep.data.toList).toArray⟩) ∧ Below w.heap.size w w' := Any.strings_Join Tryz.lays156 Tryz.Builder_Extra_156 bk o c xs sep w hcells hbk hN hcap hlen
open Go.RowKit in
def Tryz.lays144_ren : Go.Shelf.Ren := ⟨fun | 144 => 210 | 143 => 223 | 219 => 228 | 217 => 227 | 225 => 220 | 224 => 219 | 267 => 232 | 266 => 231 | 314 => 234 | n => n, fun | 9 => 9 | 4 => 4 | 3 => 3 | 5 => 5 | 46 => 158 | 146 => 242 | 51 => 241 | n => n, fun | 1 => 4 | n => n⟩
theorem Tryz.lays144 : Go.Proofs.Lays.n144 Tryz.prog Tryz.lays144_ren := {
  mixed := by kernel_rfl
  f143 := Tryz.func223.trans (congrArg some (by kernel_rfl))
  f144 := Tryz.func210.trans (congrArg some (by kernel_rfl))
  f217 := Tryz.func227.trans (congrArg some (by kernel_rfl))
  f219 := Tryz.func228.trans (congrArg some (by kernel_rfl))
  f224 := Tryz.func219.trans (congrArg some (by kernel_rfl))
  f225 := Tryz.func220.trans (congrArg some (by kernel_rfl))
  f266 := Tryz.func231.trans (congrArg some (by kernel_rfl))
  f267 := Tryz.func232.trans (congrArg some (by kernel_rfl))
  f314 := Tryz.func234.trans (congrArg some (by kernel_rfl))
  t3 := Tryz.underlying3
  a3 := Tryz.isAgg3
  z3 := Tryz.sizeOf3
  v3 := Tryz.zeroValue3
  t4 := Tryz.underlying4
  a4 := Tryz.isAgg4
  z4 := Tryz.sizeOf4
  v4 := Tryz.zeroValue4
  t5 := Tryz.underlying5
  a5 := Tryz.isAgg5
  z5 := Tryz.sizeOf5
  v5 := Tryz.zeroValue5
  t9 := Tryz.underlying9
  a9 := Tryz.isAgg9
  z9 := Tryz.sizeOf9
  v9 := Tryz.zeroValue9
  t46 := Tryz.underlying158
  a46 := Tryz.isAgg158
  z46 := Tryz.sizeOf158
  v46 := Tryz.zeroValue158
  t51 := Tryz.underlying241
  a51 := Tryz.isAgg241
  z51 := Tryz.sizeOf241
  v51 := Tryz.zeroValue241
  t146 := Tryz.underlying242
  a146 := Tryz.isAgg242
  z146 := Tryz.sizeOf242
  v146 := Tryz.zeroValue242
  g1 := by kernel_rfl }
open Go.RowKit Go.Lib in
theorem Tryz.strings_Contains_one (s : ByteArray) (c : UInt8) (w : World) :
    Calls Tryz.prog 210 #[.string s, .string ⟨#[c]⟩] w fun e w' => e = .returned (.bool (decide (0 ≤ Lib.indexByte s.data.toList c))) ∧ w' = w := Any.strings_Contains_one Tryz.lays144 s c w
def Tryz.lays227_ren : Go.Shelf.Ren := ⟨fun | 227 => 157 | n => n, fun | 9 => 9 | 116 => 190 | 4 => 4 | 0 => 0 | 3 => 3 | 5 => 5 | n => n, fun | n => n⟩
theorem Tryz.lays227 : Go.Proofs.Lays.n227 Tryz.prog Tryz.lays227_ren := {
  mixed := by kernel_rfl
  f227 := Tryz.func157.trans (congrArg some (by kernel_rfl))
  t0 := Tryz.underlying0
  a0 := Tryz.isAgg0
  z0 := Tryz.sizeOf0
  v0 := Tryz.zeroValue0
  t3 := Tryz.underlying3
  a3 := Tryz.isAgg3
  z3 := Tryz.sizeOf3
  v3 := Tryz.zeroValue3
  t4 := Tryz.underlying4
  a4 := Tryz.isAgg4
  z4 := Tryz.sizeOf4
  v4 := Tryz.zeroValue4
  t5 := Tryz.underlying5
  a5 := Tryz.isAgg5
  z5 := Tryz.sizeOf5
  v5 := Tryz.zeroValue5
  t9 := Tryz.underlying9
  a9 := Tryz.isAgg9
  z9 := Tryz.sizeOf9
  v9 := Tryz.zeroValue9
  t116 := Tryz.underlying190
  a116 := Tryz.isAgg190
  z116 := Tryz.sizeOf190 }
open Go.RowKit Go.Lib in
theorem Tryz.strings_makeASCIISet (hv116 : ∀ w, (zeroValue 190).run Tryz.prog w = .ok (.agg (Array.replicate 256 (.bool false))) w) (chars : ByteArray) (w : World) (hs : chars.size < 4294967281) (hascii : ∀ (j : Nat) b, chars.data.toList[j]? = some b → b.toNat < 128) :
    Calls Tryz.prog 157 #[.string chars] w fun e w' => e = .returned (.tuple #[.agg (Lib.setCells chars.data.toList), .bool true]) ∧ w' = w.alloc (.cells (Lib.setCells chars.data.toList) 190) := Any.strings_makeASCIISet Tryz.lays227 hv116 (by kernel_rfl) chars w hs hascii
open Go.RowKit Go.Lib in
def Tryz.lays196_ren : Go.Shelf.Ren := ⟨fun | 196 => 64 | 259 => 112 | n => n, fun | 9 => 9 | 4 => 4 | 3 => 3 | 5 => 5 | 12 => 12 | 119 => 154 | 0 => 0 | 46 => 158 | 139 => 157 | 138 => 156 | 53 => 184 | n => n, fun | 3 => 1 | 4 => 2 | n => n⟩
theorem Tryz.lays196 : Go.Proofs.Lays.n196 Tryz.prog Tryz.lays196_ren := {
  mixed := by kernel_rfl
  f196 := Tryz.func64.trans (congrArg some (by kernel_rfl))
  f259 := Tryz.func112.trans (congrArg some (by kernel_rfl))
  t0 := Tryz.underlying0
  a0 := Tryz.isAgg0
  z0 := Tryz.sizeOf0
  v0 := Tryz.zeroValue0
  t3 := Tryz.underlying3
  a3 := Tryz.isAgg3
  z3 := Tryz.sizeOf3
  v3 := Tryz.zeroValue3
  t4 := Tryz.underlying4
  a4 := Tryz.isAgg4
  z4 := Tryz.sizeOf4
  v4 := Tryz.zeroValue4
  t5 := Tryz.underlying5
  a5 := Tryz.isAgg5
  z5 := Tryz.sizeOf5
  v5 := Tryz.zeroValue5
  t9 := Tryz.underlying9
  a9 := Tryz.isAgg9
  z9 := Tryz.sizeOf9
  v9 := Tryz.zeroValue9
  t12 := Tryz.underlying12
  a12 := Tryz.isAgg12
  z12 := Tryz.sizeOf12
  v12 := Tryz.zeroValue12
  t46 := Tryz.underlying158
  a46 := Tryz.isAgg158
  z46 := Tryz.sizeOf158
  v46 := Tryz.zeroValue158
  t53 := Tryz.underlying184
  a53 := Tryz.isAgg184
  z53 := Tryz.sizeOf184
  v53 := Tryz.zeroValue184
  t119 := Tryz.underlying154
  a119 := Tryz.isAgg154
  z119 := Tryz.sizeOf154
  t138 := Tryz.underlying156
  a138 := Tryz.isAgg156
  z138 := Tryz.sizeOf156
  v138 := Tryz.zeroValue156
  t139 := Tryz.underlying157
  a139 := Tryz.isAgg157
  z139 := Tryz.sizeOf157
  v139 := Tryz.zeroValue157
  g3 := by kernel_rfl
  g4 := by kernel_rfl }
end Go.Proofs

namespace Go.Proofs.YtjdiakhipmggjaaGreatDoor
open Go.Emb Go.RowKit Go.Kd Go.Hm
variable {w : World} {K : Value → World → Prop} {σ : Q6}
theorem X0B {f:FuncId} {fn:Func} {a:List Value} {V:Value} (c:P.funcs[f]? =some fn) (b:fn.body.isSome=true) (g:(fn.name== "runtime.NumGoroutine")=false)
 (h:Calls P f a.toArray w fun e w'=>e= .returned V∧Below w.heap.size w w') (d: ∀w',Below w.heap.size w w'→K V w'):Q1 P f a w K:=by
 refine Ww c b g (Calls.mono h ?_)
 rintro e w' ⟨rfl,b⟩
 exact d w' b
theorem Tk {a:X0} (c:a.length≤U1) (b:Lib.Utf8Tabs G.e G.d w) (h: ∀w',Below w.heap.size w w'→K (.bool (Lib.validD a)) w'):Q1 P F.b2 [S a] w K:=
 X0B Tryz.func64 (by kernel_rfl) (by kernel_rfl) (by
  have:=Any.utf8_ValidString Tryz.lays196 ⟨a.toArray⟩ w (by rw[I7];simp only[U1] at c;omega) b
  simp only[List.toList_toArray] at this
  exact this) h
theorem Q6z {a:X0} {c:UInt8} (h:K (.bool (decide (0≤Lib.indexByte a c))) w):Q1 P F.cE [S a,S [c]] w K:=by
 refine Ww (fn:=Tryz.f210) Tryz.func210 (by kernel_rfl) (by kernel_rfl) (Calls.mono (Tryz.strings_Contains_one ⟨a.toArray⟩ c w) ?_)
 rintro e w' ⟨rfl,rfl⟩
 exact h
structure Glb (σ : Q6) : Prop where
  ops : Q2K σ
  tabs : ∀ w, X3 w σ → Lib.Utf8Tabs G.e G.d w
  flt : Z5 σ ⟨G.b, 0, none⟩ (U4.map S)
theorem Glb.lift {σ0:Q6} (h:Glb σ0) (k:SLe σ0 σ):Glb σ:=⟨h.ops.le k.le,fun w a=>h.tabs w fun b o e=>a b o (k.le b o e),h.flt.le k.le⟩
def txt (n s:X0):Bool:=
 if n=[119,111,114,100] then decide (s.length≤64)&&Lib.validD s&& !decide (0≤Lib.indexByte s 10)
 else if n=[110,101,119] then M6 s
 else if n=[105,115]∨n=[99,97,115,116] then right s&& !plain s
 else if n=[97,114,114,97,121] then right s&&decide (Yc s<3)
 else Zq s
theorem X33 {n a:X0} (ha:a.length≤U1) (hs:X3 w σ) (hg:Glb σ) (h: ∀w' σ',Stp w σ w' σ'→K (.bool (txt n a)) w'):Q1 P F.cL [S n,S a] w K:=Q6v (by
 unfold Q2a
 have ha':a.length≤140737488355320:=by simp only[U1] at ha;omega
 have ha2:a.length≤140737488355328:=by simp only[U1] at ha;omega
 have hv: ∀{w1:World} {K:Value→World→Prop},X3 w1 σ→(∀w',Below w1.heap.size w1 w'→K (.bool (Lib.validD a)) w')→Q1 P F.b2 [S a] w1 K:=fun hk h=>Tk ha (hg.tabs _ hk) h
 unfold txt at h
 have e:decide ((a.length:Int)≤64)=decide (a.length≤64):=by rw[Bool.eq_iff_iff];simp only[decide_eq_true_eq];omega
 have e3:decide ((Yc a:Int)<3)=decide (Yc a<3):=by rw[Bool.eq_iff_iff];simp only[decide_eq_true_eq];omega
 by_cases h1:n=[119,111,114,100]
 ·rw[if_pos h1] at h
  simp only[decide_eq_true h1,↓M1,M1,Mb,reduceIte,e]
  by_cases h2:a.length≤64
  ·simp only[decide_eq_true h2,↓M1,M1,Mb,reduceIte] at h⊢
   refine hv hs (W8 hs ?_)
   intro w1 σ1 hk
   by_cases h3:Lib.validD a=true
   ·simp only[h3,↓M1,M1,Mb,reduceIte] at h⊢
    refine Q6z ?_
    (repeat' (first | (with_reducible intro _) | (with_reducible refine U6 ?_) | (simp only[↓M2,M2,Mb,reduceIte]) | (with_reducible first | refine ld aS aL aR ?_ | refine X7 aS aL aR ?_ | refine Y4 aS aL aR ?_ | refine Q8 aL ?_ | refine J0 aR ?_ | refine Z0 aS ?_ | refine N2 aS aL ?_ | refine U5 aS aR ?_ | refine Y8 aS aR aR (Rep.one (by assumption)) ?_ | refine U7 aS aR aR aR ?_ | (refine Z8 (fun hh=>?_) (fun hh=>?_)<;>(try simp only[hh,Bool.not_true,Bool.not_false,↓M2,M2,Mb,reduceIte])) | (refine Q7 (fun hh=>?_) (fun hh=>?_)<;>(try simp only[hh,Bool.not_true,Bool.not_false,↓M2,M2,Mb,reduceIte])))))
    all_goals exact aF
   ·simp only[eq_false_of_ne_true h3,↓M1,M1,Mb,reduceIte] at h⊢
    (repeat' (first | (with_reducible intro _) | (with_reducible refine U6 ?_) | (simp only[↓M2,M2,Mb,reduceIte]) | (with_reducible first | refine ld aS aL aR ?_ | refine X7 aS aL aR ?_ | refine Y4 aS aL aR ?_ | refine Q8 aL ?_ | refine J0 aR ?_ | refine Z0 aS ?_ | refine N2 aS aL ?_ | refine U5 aS aR ?_ | refine Y8 aS aR aR (Rep.one (by assumption)) ?_ | refine U7 aS aR aR aR ?_ | (refine Z8 (fun hh=>?_) (fun hh=>?_)<;>(try simp only[hh,Bool.not_true,Bool.not_false,↓M2,M2,Mb,reduceIte])) | (refine Q7 (fun hh=>?_) (fun hh=>?_)<;>(try simp only[hh,Bool.not_true,Bool.not_false,↓M2,M2,Mb,reduceIte])))))
    all_goals exact aF
  ·simp only[decide_eq_false h2,↓M1,M1,Mb,reduceIte] at h⊢
   (repeat' (first | (with_reducible intro _) | (with_reducible refine U6 ?_) | (simp only[↓M2,M2,Mb,reduceIte]) | (with_reducible first | refine ld aS aL aR ?_ | refine X7 aS aL aR ?_ | refine Y4 aS aL aR ?_ | refine Q8 aL ?_ | refine J0 aR ?_ | refine Z0 aS ?_ | refine N2 aS aL ?_ | refine U5 aS aR ?_ | refine Y8 aS aR aR (Rep.one (by assumption)) ?_ | refine U7 aS aR aR aR ?_ | (refine Z8 (fun hh=>?_) (fun hh=>?_)<;>(try simp only[hh,Bool.not_true,Bool.not_false,↓M2,M2,Mb,reduceIte])) | (refine Q7 (fun hh=>?_) (fun hh=>?_)<;>(try simp only[hh,Bool.not_true,Bool.not_false,↓M2,M2,Mb,reduceIte])))))
   all_goals exact aF
 rw[if_neg h1] at h
 simp only[decide_eq_false h1,↓M1,M1,Mb,reduceIte]
 by_cases h2:n=[110,101,119]
 ·rw[if_pos h2] at h
  simp only[decide_eq_true h2,↓M1,M1,Mb,reduceIte]
  (repeat' (first | (with_reducible intro _) | (with_reducible refine U6 ?_) | (simp only[↓M2,M2,Mb,reduceIte]) | (with_reducible first | refine ld aS aL aR ?_ | refine X7 aS aL aR ?_ | refine Y4 aS aL aR ?_ | refine Q8 aL ?_ | refine J0 aR ?_ | refine Z0 aS ?_ | refine N2 aS aL ?_ | refine U5 aS aR ?_ | refine Y8 aS aR aR (Rep.one (by assumption)) ?_ | refine U7 aS aR aR aR ?_ | refine Rj _ au (W8 aS ?_) | (refine Z8 (fun hh=>?_) (fun hh=>?_)<;>(try simp only[hh,Bool.not_true,Bool.not_false,↓M2,M2,Mb,reduceIte])) | (refine Q7 (fun hh=>?_) (fun hh=>?_)<;>(try simp only[hh,Bool.not_true,Bool.not_false,↓M2,M2,Mb,reduceIte])))))
  all_goals exact aF
 rw[if_neg h2] at h
 simp only[decide_eq_false h2,↓M1,M1,Mb,reduceIte]
 by_cases h3:n=[105,115]∨n=[99,97,115,116]
 ·rw[if_pos h3] at h
  have e4:(decide (n=[105,115])||decide (n=[99,97,115,116]))=true:=by simpa using h3
  refine U6 ?_
  refine Q7 (fun h4=>?_) (fun h4=>?_)
  ·simp only[h4,↓M1,M1,Mb,reduceIte]
   (repeat' (first | (with_reducible intro _) | (with_reducible refine U6 ?_) | (simp only[↓M2,M2,Mb,reduceIte]) | (with_reducible first | refine ld aS aL aR ?_ | refine X7 aS aL aR ?_ | refine Y4 aS aL aR ?_ | refine Q8 aL ?_ | refine J0 aR ?_ | refine Z0 aS ?_ | refine N2 aS aL ?_ | refine U5 aS aR ?_ | refine Y8 aS aR aR (Rep.one (by assumption)) ?_ | refine U7 aS aR aR aR ?_ | refine Zr _ au (W8 aS ?_) | refine Rk _ ?_ | (refine Z8 (fun hh=>?_) (fun hh=>?_)<;>(try simp only[hh,Bool.not_true,Bool.not_false,↓M2,M2,Mb,reduceIte])) | (refine Q7 (fun hh=>?_) (fun hh=>?_)<;>(try simp only[hh,Bool.not_true,Bool.not_false,↓M2,M2,Mb,reduceIte])))))
   all_goals exact aF
  ·rw[h4,Bool.false_or] at e4
   simp only[e4,↓M1,M1,Mb,reduceIte]
   (repeat' (first | (with_reducible intro _) | (with_reducible refine U6 ?_) | (simp only[↓M2,M2,Mb,reduceIte]) | (with_reducible first | refine ld aS aL aR ?_ | refine X7 aS aL aR ?_ | refine Y4 aS aL aR ?_ | refine Q8 aL ?_ | refine J0 aR ?_ | refine Z0 aS ?_ | refine N2 aS aL ?_ | refine U5 aS aR ?_ | refine Y8 aS aR aR (Rep.one (by assumption)) ?_ | refine U7 aS aR aR aR ?_ | refine Zr _ au (W8 aS ?_) | refine Rk _ ?_ | (refine Z8 (fun hh=>?_) (fun hh=>?_)<;>(try simp only[hh,Bool.not_true,Bool.not_false,↓M2,M2,Mb,reduceIte])) | (refine Q7 (fun hh=>?_) (fun hh=>?_)<;>(try simp only[hh,Bool.not_true,Bool.not_false,↓M2,M2,Mb,reduceIte])))))
   all_goals exact aF
 rw[if_neg h3] at h
 obtain ⟨h3,h4⟩:=not_or.1 h3
 refine U6 ?_
 simp only[decide_eq_false h3,decide_eq_false h4,↓M1,M1,Mb,reduceIte]
 by_cases h5:n=[97,114,114,97,121]
 ·rw[if_pos h5] at h
  simp only[decide_eq_true h5,↓M1,M1,Mb,reduceIte]
  (repeat' (first | (with_reducible intro _) | (with_reducible refine U6 ?_) | (simp only[↓M2,M2,Mb,reduceIte]) | (with_reducible first | refine ld aS aL aR ?_ | refine X7 aS aL aR ?_ | refine Y4 aS aL aR ?_ | refine Q8 aL ?_ | refine J0 aR ?_ | refine Z0 aS ?_ | refine N2 aS aL ?_ | refine U5 aS aR ?_ | refine Y8 aS aR aR (Rep.one (by assumption)) ?_ | refine U7 aS aR aR aR ?_ | refine Zr _ au (W8 aS ?_) | refine Q8U _ au (W8 aS ?_) | (refine Z8 (fun hh=>?_) (fun hh=>?_)<;>(try simp only[hh,Bool.not_true,Bool.not_false,↓M2,M2,Mb,reduceIte])) | (refine Q7 (fun hh=>?_) (fun hh=>?_)<;>(try simp only[hh,Bool.not_true,Bool.not_false,↓M2,M2,Mb,reduceIte])))))
  all_goals (try rw[e3])
  all_goals exact aF
 rw[if_neg h5] at h
 simp only[decide_eq_false h5,↓M1,M1,Mb,reduceIte]
 intro _
 refine X2j a ha2 (W8 hs fun w1 σ1 hk=>?_)
 by_cases hp:Zq a=true
 ·simp only[hp,if_true] at h⊢
  (repeat' (first | (with_reducible intro _) | (with_reducible refine U6 ?_) | (simp only[↓M2,M2,Mb,reduceIte]) | (with_reducible first | refine ld aS aL aR ?_ | refine X7 aS aL aR ?_ | refine Y4 aS aL aR ?_ | refine Q8 aL ?_ | refine J0 aR ?_ | refine Z0 aS ?_ | refine N2 aS aL ?_ | refine U5 aS aR ?_ | refine Y8 aS aR aR (Rep.one (by assumption)) ?_ | refine U7 aS aR aR aR ?_ | (refine Z8 (fun hh=>?_) (fun hh=>?_)<;>(try simp only[hh,Bool.not_true,Bool.not_false,↓M2,M2,Mb,reduceIte])) | (refine Q7 (fun hh=>?_) (fun hh=>?_)<;>(try simp only[hh,Bool.not_true,Bool.not_false,↓M2,M2,Mb,reduceIte])))))
  all_goals exact aF
 ·simp only[eq_false_of_ne_true hp,Bool.false_eq_true,if_false] at h⊢
  (repeat' (first | (with_reducible intro _) | (with_reducible refine U6 ?_) | (simp only[↓M2,M2,Mb,reduceIte]) | (with_reducible first | refine ld aS aL aR ?_ | refine X7 aS aL aR ?_ | refine Y4 aS aL aR ?_ | refine Q8 aL ?_ | refine J0 aR ?_ | refine Z0 aS ?_ | refine N2 aS aL ?_ | refine U5 aS aR ?_ | refine Y8 aS aR aR (Rep.one (by assumption)) ?_ | refine U7 aS aR aR aR ?_ | (refine Z8 (fun hh=>?_) (fun hh=>?_)<;>(try simp only[hh,Bool.not_true,Bool.not_false,↓M2,M2,Mb,reduceIte])) | (refine Q7 (fun hh=>?_) (fun hh=>?_)<;>(try simp only[hh,Bool.not_true,Bool.not_false,↓M2,M2,Mb,reduceIte])))))
  all_goals exact aF)
def H7 (i:Ins):Int:=if !(takes i.op).2.2 then 40 else if (!(takes i.op).1&&decide (i.n≠0))||(!(takes i.op).2.1&&decide (i.s≠[]))||((takes i.op).2.1&& !txt i.op i.s) then 41 else 0
theorem X10 {a:X0} (c:X3 w σ) (b:Glb σ) (h: ∀w',Below w.heap.size w w'→K (.tuple #[.bool (takes a).1, .bool (takes a).2.1, .bool (takes a).2.2]) w'):Q1 P F.cm [S a] w K:=X28 c b.ops h
theorem Q6H {i:Ins} {cs:List Value} (hs:X3 w σ) (hg:Glb σ) (hi:Qo σ i cs) (h: ∀w' σ',Stp w σ w' σ'→K (I (H7 i)) w'):Q1 P F.cH [.agg cs.toArray] w K:=Q5c (by
 obtain ⟨rfl,h1,h2,h3⟩:=hi
 unfold Q0E
 unfold H7 at h
 (repeat' (first | (with_reducible intro _) | (with_reducible refine U6 ?_) | (simp only[↓M2,M2,Mb,reduceIte]) | (with_reducible first | refine ld aS aL aR ?_ | refine X7 aS aL aR ?_ | refine Y4 aS aL aR ?_ | refine Q8 aL ?_ | refine J0 aR ?_ | refine Z0 aS ?_ | refine N2 aS aL ?_ | refine U5 aS aR ?_ | refine Y8 aS aR aR (Rep.one (by assumption)) ?_ | refine U7 aS aR aR aR ?_ | refine X10 au au (W8 aS ?_) | refine X33 au au au ?_ | (refine Z8 (fun hh=>?_) (fun hh=>?_)<;>(try simp only[hh,Bool.not_true,Bool.not_false,↓M2,M2,Mb,reduceIte])) | (refine Q7 (fun hh=>?_) (fun hh=>?_)<;>(try simp only[hh,Bool.not_true,Bool.not_false,↓M2,M2,Mb,reduceIte])))))
 all_goals exact aF)
end Go.Proofs.YtjdiakhipmggjaaGreatDoor

namespace Go.Emb
open Go.RowKit Go.Hm
variable {P : Program} {W : World}
theorem Q2t {w:World} (c:X3 w (Wi W)) {a:Addr} {v:Value} (h:W.cell? a=some v):w.cell? a=some v:=by
 unfold World.cell? at h⊢
 cases b:W.heap[a.block]? with
 | none=>rw[b] at h;cases h
 | some o=>rw[b] at h;rw[c _ o b];exact h
theorem X2T {α:Type} {f:α→List Value} {sz:Nat} (k: ∀a,(f a).length=sz): ∀(l:List α) (cs:List Value),cs.length=l.length*sz→(∀i a,l[i]? =some a→(cs.drop (i*sz)).take sz=f a)→cs=l.flatMap f:=by
 intro l
 induction l with
 | nil=>intro cs h _;simp at h;simp[h]
 | cons a r e=>
  intro cs h hh
  have c:=hh 0 a rfl
  have j:=e (cs.drop sz) (by rw[List.length_drop,h,List.length_cons,Nat.succ_mul];omega) (fun i b g=>by
   have:=hh (i+1) b (by simpa using g)
   rw[List.drop_drop]
   rwa [Nat.succ_mul,Nat.add_comm] at this)
  rw[List.flatMap_cons,←j,←c]
  simp
theorem Q4e {α H:Type} {enc:TypeId×Value→H} {base:Nat} {w:Nat→Bool} {b:Bool} {f:α→List Value} {g:α→DataW H} {n sz:Nat} {t e:TypeId} {c:Nat} {cs:List Value} {p:List MemPlace} (D:P.underlying t=some (.array n e)) (A:P.cellsOf e=sz) (j:P.cellsOf t=n*sz)
 (l:List α) (y: ∀a,(f a).length=sz) (o: ∀m cs a q,DataW.trod enc P W base w b m e cs=some (g a,q)→cs=f a)
 (h:DataW.trod enc P W base w b c t cs=some (.agg (l.map g),p)):cs=l.flatMap f:=by
 obtain ⟨xs,m,_,k,E,J,z⟩:=DataW.trod_array D h
 simp only[Prod.mk.injEq,DataW.agg.injEq] at k
 have B:l.length=n:=by have:=congrArg List.length k.1;simp at this;omega
 refine X2T y l cs (by rw[E,j,B]) fun i a r=>?_
 have L:i<l.length:=(List.getElem?_eq_some_iff.1 r).1
 have s:=z i (by omega)
 have u:i<xs.length:=by omega
 rw[List.getElem?_eq_getElem u,A] at s
 have C:(xs[i]).1=g a:=by
  have:=congrArg (·[i]?) k.1
  simp only[List.getElem?_map,r,List.getElem?_eq_getElem u,Option.map_some,Option.some.injEq] at this
  exact this.symm
 exact o m _ a _ (by rw[s];congr 1;exact Prod.ext C rfl)
theorem Q5L {n:String} {g:Nat} {cs:Array Value} {l:List Value} (h:P.globalNamed n=some g) (a:W.var? P n=some cs) (f:cs.toList=l):Z5 (Wi W) ⟨g,0,none⟩ l:=by
 unfold World.var? at a
 rw[h] at a
 simp only[Option.bind_some] at a
 cases b:W.heap[g]? with
 | none=>rw[b] at a;cases a
 | some o=>
  rw[b] at a
  cases o with
  | cells arr e c=>
   cases a
   refine ⟨rfl,cs,e,c,b,fun i v j=>?_⟩
   subst f
   simpa using j
  | _=>cases a
end Go.Emb
namespace Go.Proofs.YtjdiakhipmggjaaGreatDoor
open Go.Emb Go.RowKit Go.Kd Go.Hm
variable {W : World}
def laidAll:List (String×DataW Unit):=[("unicode/utf8.acceptRanges",Rows.laid_unicode_utf8_acceptRanges),("squinch/code.ops",Rows.laid_squinch_code_ops),("squinch/hier.faults",Rows.laid_squinch_hier_faults),("unicode/utf8.first",Rows.laid_unicode_utf8_first)]
theorem X3Z:Rows.laid_squinch_code_ops=(.agg (Uq.map fun o=> .agg [.lit (.string o.name), .lit (.bool o.number), .lit (.bool o.text)]):DataW Unit):=by rfl
theorem X0b:Rows.laid_squinch_hier_faults=(.agg (U4.map fun s=> .lit (.string s)):DataW Unit):=by rfl
theorem X3C:(Rows.laid_unicode_utf8_acceptRanges:DataW Unit)=Lib.acceptData:=by rfl
theorem X1T:Rows.laid_unicode_utf8_first=Lib.firstData:=by kernel_rfl
def X4h:Array Field:= #[⟨"name",T.c,0,false, "", "squinch/code",0⟩,⟨"number",T.v,1,false, "", "squinch/code",16⟩,⟨"text",T.v,2,false, "", "squinch/code",17⟩]
theorem X4k:P.underlying T.ad=some (.struct X4h):=by kernel_rfl
theorem X38 (h:laidMetH P laidAll W):Glb (Wi W):=by
 rw[Go.MakeChecks.laidMetH_plain _ _ _ (by kernel_rfl)] at h
 refine ⟨?_,fun w z=>?_,?_⟩
 ·obtain ⟨g,t,cs,o,p,u,j,b,r⟩:=Lib.laidMet.reads h (.tail _ (.head _))
  obtain rfl:=Option.some.inj ((show P.globalNamed "squinch/code.ops"=some G.a by kernel_rfl).symm.trans u)
  obtain rfl:=Option.some.inj ((show (P.globals[G.a]?).map (·.type)=some T.af by kernel_rfl).symm.trans j)
  rw[X3Z] at r
  refine Q5L u b (Q4e (f:=cOp) (sz:=3) (n:=42) (e:=T.ad) (by kernel_rfl) (by kernel_rfl) (by kernel_rfl) Uq (fun _=>rfl) (fun m cs a q h=>by
  obtain ⟨xs,n,_,k,h1,Z,y⟩:=DataW.trod_struct X4k h
  simp only[Prod.mk.injEq,DataW.agg.injEq] at k
  have l:cs.length=3:=by rw[h1];kernel_rfl
  obtain ⟨c0,B,A,rfl⟩:=X18 l
  obtain ⟨x0,x1,x2,rfl⟩:=X18 (show xs.length=3 by rw[Z];rfl)
  have k:=k.1
  simp only[List.map_cons,List.map_nil,List.cons.injEq,and_true] at k
  obtain ⟨J,R,L⟩:=k
  have C:DataW.trod (fun _=>()) P W 0 (fun _=>true) false n T.c (List.take (P.cellsOf T.c) (List.drop 0 [c0,B,A]))=some x0:=y 0 _ rfl
  have E:DataW.trod (fun _=>()) P W 0 (fun _=>true) false n T.v (List.take (P.cellsOf T.v) (List.drop 1 [c0,B,A]))=some x1:=y 1 _ rfl
  have O:DataW.trod (fun _=>()) P W 0 (fun _=>true) false n T.v (List.take (P.cellsOf T.v) (List.drop 2 [c0,B,A]))=some x2:=y 2 _ rfl
  rw[Pj] at C
  rw[X37] at E O
  obtain ⟨⟨⟨s0⟩⟩,M,V,_⟩:=DataW.trod_string X8 C
  obtain ⟨b1,D,U⟩:=DataW.trod_bool Q2U E
  obtain ⟨b2,Q,X⟩:=DataW.trod_bool Q2U O
  simp at M D Q
  subst M D Q V U X
  simp at J R L
  simp[cOp,←J,←R,←L]) r)
 ·have:=utf8Tabs_of_readsT (U8Types.of196 Tryz.lays196) ⟨by kernel_rfl,by kernel_rfl,by kernel_rfl,by kernel_rfl,by kernel_rfl,by kernel_rfl,by kernel_rfl⟩ (X1T▸Lib.laidMet.reads h (.tail _ (.tail _ (.tail _ (.head _))))) (X3C▸Lib.laidMet.reads h (.head _))
  exact ⟨fun c Y=>Q2t z (this.1 c Y),fun i N=>⟨Q2t z (this.2 i N).1,Q2t z (this.2 i N).2⟩⟩
 ·obtain ⟨g,t,cs,o,p,u,j,b,r⟩:=Lib.laidMet.reads h (.tail _ (.tail _ (.head _)))
  obtain rfl:=Option.some.inj ((show P.globalNamed "squinch/hier.faults"=some G.b by kernel_rfl).symm.trans u)
  obtain rfl:=Option.some.inj ((show (P.globals[G.b]?).map (·.type)=some T.ao by kernel_rfl).symm.trans j)
  rw[X0b] at r
  have:=Q4e (f:=fun s=>[S s]) (sz:=1) (n:=6) (e:=T.c) (by kernel_rfl) Pj (by kernel_rfl) U4 (fun _=>rfl) (fun m cs a q h=>by
   obtain ⟨⟨⟨s⟩⟩,rfl,k,_⟩:=DataW.trod_string X8 h
   cases k;rfl) r
  exact Q5L u b (this.trans (by rfl))
end Go.Proofs.YtjdiakhipmggjaaGreatDoor
namespace Go.Emb
open Go.RowKit Go.Hm
theorem Q9m {H:Type} {P:Program} {a:List TypeId} {ds:List (DataW H)} (h:(DataW.weightsEach P a ds).all (· ≤reachBytes)=true) {j:Nat} {t:TypeId} {d:DataW H} (b:a[j]? =some t) (c:ds[j]? =some d):Wt P t d:=fun n e=>by
 have:=List.all_eq_true.1 h _ (DataW.weights_mem_each b c n e)
 simpa using this
end Go.Emb
namespace Go.Proofs.YtjdiakhipmggjaaGreatDoor
open Go.Emb Go.RowKit Go.Kd Go.Hm
section
variable {H : Type} {enc : TypeId × Value → H} {W : World} {v : Value} {d : DataW H} {p : List MemPlace}
end
end Go.Proofs.YtjdiakhipmggjaaGreatDoor

namespace Go.Proofs.YtjdiakhipmggjaaGreatDoor
open Go.Emb Go.RowKit Go.Kd Go.Hm
variable {w : World} {K : Value → World → Prop} {σ : Q6}
def I2 (n:Int) (x:Cat):Bool:=decide (0≤x.frm)&&decide (x.frm<x.to)&&decide (x.to≤n)&&decide (0≤x.at_)&&decide (x.at_<n)&&M6 x.cls
theorem Q80 {cs:List Value} {c:Cat} {q:Addr} {n:Int} (hs:X3 w σ) (hc:Jz σ c cs) (hq:Z5 σ q [I n]) (h: ∀w' σ',Stp w σ w' σ'→K (.bool (I2 n c)) w'):Q1 P F.bj [.agg cs.toArray, .pointer (some q)] w K:=Q2H (by
 obtain ⟨rfl,h1,h2,h3,h4⟩:=hc
 unfold Ru
 unfold I2 at h
 (repeat' (first | (with_reducible intro _) | (with_reducible refine U6 ?_) | (simp only[↓M2,M2,Mb,reduceIte]) | (with_reducible first | refine ld aS aL aR ?_ | refine X7 aS aL aR ?_ | refine Y4 aS aL aR ?_ | refine Q8 aL ?_ | refine J0 aR ?_ | refine Z0 aS ?_ | refine N2 aS aL ?_ | refine U5 aS aR ?_ | refine Y8 aS aR aR (Rep.one (by assumption)) ?_ | refine U7 aS aR aR aR ?_ | refine Rj _ au (W8 aS ?_) | (refine Z8 (fun hh=>?_) (fun hh=>?_)<;>(try simp only[hh,Bool.not_true,Bool.not_false,↓M2,M2,Mb,reduceIte])) | (refine Q7 (fun hh=>?_) (fun hh=>?_)<;>(try simp only[hh,Bool.not_true,Bool.not_false,↓M2,M2,Mb,reduceIte])))))
 all_goals exact aF)
theorem Q8g {cs:List Value} {i:Ins} (hs:X3 w σ) (hg:Glb σ) (hc:Qo σ i cs) (h: ∀w' σ',Stp w σ w' σ'→K (.bool (decide (H7 i=0))) w'):Q1 P F.bk [.agg cs.toArray] w K:=Q2M (by
 obtain ⟨rfl,h1,h2,h3⟩:=hc
 have hc:Qo σ i [S i.op,I i.n,S i.s]:=⟨rfl,h1,h2,h3⟩
 unfold Sz
 (repeat' (first | (with_reducible intro _) | (with_reducible refine U6 ?_) | (simp only[↓M2,M2,Mb,reduceIte]) | (with_reducible first | refine ld aS aL aR ?_ | refine X7 aS aL aR ?_ | refine Y4 aS aL aR ?_ | refine Q8 aL ?_ | refine J0 aR ?_ | refine Z0 aS ?_ | refine N2 aS aL ?_ | refine U5 aS aR ?_ | refine Y8 aS aR aR (Rep.one (by assumption)) ?_ | refine U7 aS aR aR aR ?_ | refine Q6H au au au ?_ | (refine Z8 (fun hh=>?_) (fun hh=>?_)<;>(try simp only[hh,Bool.not_true,Bool.not_false,↓M2,M2,Mb,reduceIte])) | (refine Q7 (fun hh=>?_) (fun hh=>?_)<;>(try simp only[hh,Bool.not_true,Bool.not_false,↓M2,M2,Mb,reduceIte])))))
 all_goals exact aF)
def I9 (m:Hm.Met):Bool:=D9 m.name&&m.params.all right&&(decide (m.result=[])||right m.result)&&
 if m.abs then decide (m.locals=0)&&decide (m.code=[])&&decide (m.catches=[])
 else decide (m.code≠[])&&decide ((m.params.length:Int)<m.locals)&&m.code.all (fun i=>decide (H7 i=0))&&m.catches.all (I2 m.code.length)
theorem X0K {cs:List Value} {m:Hm.Met} (hs:X3 w σ) (hg:Glb σ) (hm:E8 σ m cs) (h: ∀w' σ',Stp w σ w' σ'→K (.bool (I9 m)) w'):Q1 P F.bc [.agg cs.toArray] w K:=Q3Z (by
 obtain ⟨pv,cv,hv,rfl,g1,g2,g3,g4,g5,g6⟩:=hm
 unfold Gt
 unfold I9 at h
 have e1:decide ((0:Int)<m.code.length)=decide (m.code≠[]):=by cases m.code<;>simp
 have e2:decide ((m.code.length:Int)=0)=decide (m.code=[]):=by cases m.code<;>simp;omega
 have e3:decide ((m.catches.length:Int)=0)=decide (m.catches=[]):=by cases m.catches<;>simp;omega
 have hA: ∀{w1:World} {σ1:Q6} {K:Value→World→Prop},X3 w1 σ1→Sl 1 U8 σ1 pv m.params→(∀w' σ',Stp w1 σ1 w' σ'→K (.bool (m.params.all right)) w')→Q1 P F.ab [pv, .func (.func F.a1) #[] #[]] w1 K:=
  fun hs hv h=>Gj right hs hv (fun σ1 x w1 K _ _ hs hl hK=>Z7 (Zr x (Nat.le_trans hl (by decide)) hK)) (W8 hs h)
 have hB: ∀{w1:World} {σ1:Q6} {K:Value→World→Prop},X3 w1 σ1→Glb σ1→Sl 3 Qo σ1 cv m.code→(∀w' σ',Stp w1 σ1 w' σ'→K (.bool (m.code.all fun i=>decide (H7 i=0))) w')→Q1 P F.aw [cv, .func (.func F.bk) #[] #[]] w1 K:=
  fun hs hg hv h=>Q1N (fun i=>decide (H7 i=0)) hs hv (fun σ1 x cs w1 K le _ hs hr hl hK=>Z7 (Q8g hs (hg.lift ⟨le⟩) hr fun w' σ' hk=>hK w' hk.bel)) (W8 hs h)
 have hC: ∀{w1:World} {σ1:Q6} {K:Value→World→Prop} {q:Addr},X3 w1 σ1→Sl 4 Jz σ1 hv m.catches→Z5 σ1 q [I m.code.length]→(∀w' σ',Stp w1 σ1 w' σ'→K (.bool (m.catches.all (I2 m.code.length))) w')→Q1 P F.ax [hv, .func (.func F.bj) #[] #[.pointer (some q)]] w1 K:=
  fun hs hv hq h=>Q1O (I2 m.code.length) hs hv (fun σ1 x cs w1 K le _ hs hr hl hK=>Z7 (Q80 hs hr (hq.le le) fun w' σ' hk=>hK w' hk.bel)) (W8 hs h)
 refine Z0 hs fun a w1 σ1 hk1 ha1=>?_
 (repeat' (first | (with_reducible intro _) | (with_reducible refine U6 ?_) | (simp only[↓M2,M2,Mb,reduceIte]) | (with_reducible first | refine ld aS aL aR ?_ | refine X7 aS aL aR ?_ | refine Y4 aS aL aR ?_ | refine Q8 aL ?_ | refine J0 aR ?_ | refine Z0 aS ?_ | refine N2 aS aL ?_ | refine U5 aS aR ?_ | refine Y8 aS aR aR (Rep.one (by assumption)) ?_ | refine U7 aS aR aR aR ?_ | refine Q6l au (W8 aS ?_) | refine Zr _ au (W8 aS ?_) | refine hA au au ?_ | refine hB au au au ?_ | refine hC au au au ?_ | (refine Z8 (fun hh=>?_) (fun hh=>?_)<;>(try simp only[hh,Bool.not_true,Bool.not_false,↓M2,M2,Mb,reduceIte])) | (refine Q7 (fun hh=>?_) (fun hh=>?_)<;>(try simp only[hh,Bool.not_true,Bool.not_false,↓M2,M2,Mb,reduceIte])))))
 all_goals (simp only[←e1,←e2,←e3] at h;clear e1 e2 e3;exact aF))
theorem Q9K {cs:List Value} {m:Hm.Met} (d:X3 w σ) (c:Glb σ) (a:E8 σ m cs) (h: ∀w' b,Stp w σ w' b→K (.bool (I9 m)) w'):Z3 P (.func (.func F.bc) #[] #[]) [.agg cs.toArray] w K:=Z7 (X0K d c a h)
def El (f:Fld):Bool:=D9 f.name&&right f.kind
def Lx (c:Cla):Bool:=(c.name::c.super::c.like).all M6&& !((c.super::c.like).any fun y=>decide (c.name=y))&&C8 id [] c.like&&
 !(c.iface&&(!c.abs|| !decide (c.super=J9)|| !decide (c.fields=[])||c.methods.any (fun m=> !m.abs)))&&
 !((c.abs&&c.fin)||(c.methods.any (·.abs)&& !c.abs))&&C8 Fld.name [] c.fields&&C8 Hm.Met.name [] c.methods&&c.fields.all El&&c.methods.all I9
def D7 (c:Cla):Int:=if Zv c then 51 else if Lx c then 0 else 50
theorem Q93 {cs:List Value} {f:Fld} (hs:X3 w σ) (hf:S2 σ f cs) (h: ∀w' σ',Stp w σ w' σ'→K (.bool (El f)) w'):Q1 P F.bA [.agg cs.toArray] w K:=Q2S (by
 obtain ⟨rfl,h1,h2⟩:=hf
 unfold Bk
 unfold El at h
 (repeat' (first | (with_reducible intro _) | (with_reducible refine U6 ?_) | (simp only[↓M2,M2,Mb,reduceIte]) | (with_reducible first | refine ld aS aL aR ?_ | refine X7 aS aL aR ?_ | refine Y4 aS aL aR ?_ | refine Q8 aL ?_ | refine J0 aR ?_ | refine Z0 aS ?_ | refine N2 aS aL ?_ | refine U5 aS aR ?_ | refine Y8 aS aR aR (Rep.one (by assumption)) ?_ | refine U7 aS aR aR aR ?_ | refine Q6l au (W8 aS ?_) | refine Zr _ au (W8 aS ?_) | (refine Z8 (fun hh=>?_) (fun hh=>?_)<;>(try simp only[hh,Bool.not_true,Bool.not_false,↓M2,M2,Mb,reduceIte])) | (refine Q7 (fun hh=>?_) (fun hh=>?_)<;>(try simp only[hh,Bool.not_true,Bool.not_false,↓M2,M2,Mb,reduceIte])))))
 all_goals exact aF)
set_option maxHeartbeats 1600000 in
theorem X2x {cs:List Value} {c:Cla} (hs:X3 w σ) (hg:Glb σ) (hc:V0 σ c cs) (hl:c.like.length≤1000000) (h: ∀w' σ',Stp w σ w' σ'→K (.bool (Lx c)) w'):Q1 P F.cA [.agg cs.toArray] w K:=Q4I (by
 obtain ⟨lv,fv,mv,rfl,g1,g2,g3,g4,g5⟩:=hc
 unfold Th
 unfold Lx at h
 refine Z0 hs fun a w1 σ1 hk1 ha1=>?_
 rw[fa]
 refine ld hk1.sat ha1 rfl ?_
 rw[fa]
 refine ld hk1.sat ha1 rfl ?_
 refine Zh (R:=U8) (sz:=1) (xs:=[c.name,c.super]) hk1 [_,_] rfl rfl (by simp;exact ⟨rfl,rfl⟩) rfl ⟨⟨rfl,g4⟩,⟨rfl,g5⟩,trivial⟩ fun v w2 hk2 hacc _=>?_
 rw[fa]
 refine ld hk2.sat ha1 rfl ?_
 refine Wh (hk1.trans hk2) hacc (g1.up hk1) rfl (by simp;omega) (by simp;omega) fun v' w3 hn3 hS3 hacc3 _=>?_
 obtain ⟨σ3,hS3,hv3,le3,_⟩:=hacc3.keep hS3
 have hv3:Sl 1 U8 σ3 v' (c.name::c.super::c.like):=hv3
 have ha3:=ha1.le le3
 have le13:SLe σ σ3:=⟨hS3.le⟩
 have g1:=g1.lift le13
 have g2:=g2.lift le13
 have g3:=g3.lift le13
 have hg:=hg.lift le13
 refine U0 hS3.sat ?_
 refine H4 (fun v _=>Sl 1 U8 σ3 v (c.super::c.like)) (fun _ _ _ h _=>h) (fun w hb=>?_) ?_
 ·refine Ec hv3 (some (I 1)) none 1 (c.like.length+2) (.inr rfl) (.inl ⟨rfl,by simp⟩) (by omega) (by simp) fun v' hv'=>⟨Below.refl _ _,?_⟩
  simpa using hv'
 refine X4 (.pointer (some (a.add 0))) (fun w hb=>by rw[fa];exact X6 rfl) ?_
 refine X4 (S c.name) (fun t w hb e=>by rw[e];exact ld hb.sat ha3 rfl (X6 rfl)) ?_
 rintro t16 t17 t18 w4 hb4 f16 rfl rfl
 have hS4:=hS3.trans hb4.stp
 clear hb4 hk1 hk2 hn3
 have hs4:=hS4.sat
 refine Q21 hs4 f16 ?_
 have hA: ∀{w1:World} {σ1:Q6} {K:Value→World→Prop},X3 w1 σ1→Sl 7 E8 σ1 mv c.methods→(∀w' σ',Stp w1 σ1 w' σ'→K (.bool (c.methods.any (·.abs))) w')→Q1 P F.a [mv, .func (.func F.cn) #[] #[]] w1 K:=
  fun hs hv h=>F3 (·.abs) hs hv (fun x cs w1 K _ hs hr hl hK=>Z7 (Q33 (by
   obtain ⟨pv,cv,hv,rfl,_⟩:=hr
   unfold Be
   refine Z0 hs fun a w1 σ1 hk1 ha1=>?_
   (repeat' (first | (with_reducible intro _) | (with_reducible refine U6 ?_) | (simp only[↓M2,M2,Mb,reduceIte]) | (with_reducible first | refine ld aS aL aR ?_ | refine X7 aS aL aR ?_ | refine Y4 aS aL aR ?_ | refine Q8 aL ?_ | refine J0 aR ?_ | refine Z0 aS ?_ | refine N2 aS aL ?_ | refine U5 aS aR ?_ | refine Y8 aS aR aR (Rep.one (by assumption)) ?_ | refine U7 aS aR aR aR ?_ | (refine Z8 (fun hh=>?_) (fun hh=>?_)<;>(try simp only[hh,Bool.not_true,Bool.not_false,↓M2,M2,Mb,reduceIte])) | (refine Q7 (fun hh=>?_) (fun hh=>?_)<;>(try simp only[hh,Bool.not_true,Bool.not_false,↓M2,M2,Mb,reduceIte])))))
   exact hK _ hk1.bel))) (W8 hs h)
 have hB: ∀{w1:World} {σ1:Q6} {K:Value→World→Prop},X3 w1 σ1→Sl 7 E8 σ1 mv c.methods→(∀w' σ',Stp w1 σ1 w' σ'→K (.bool (c.methods.any fun m=> !m.abs)) w')→Q1 P F.a [mv, .func (.func F.co) #[] #[]] w1 K:=
  fun hs hv h=>F3 (fun m=> !m.abs) hs hv (fun x cs w1 K _ hs hr hl hK=>Z7 (Q2R (by
   obtain ⟨pv,cv,hv,rfl,_⟩:=hr
   unfold Cy
   refine Z0 hs fun a w1 σ1 hk1 ha1=>?_
   (repeat' (first | (with_reducible intro _) | (with_reducible refine U6 ?_) | (simp only[↓M2,M2,Mb,reduceIte]) | (with_reducible first | refine ld aS aL aR ?_ | refine X7 aS aL aR ?_ | refine Y4 aS aL aR ?_ | refine Q8 aL ?_ | refine J0 aR ?_ | refine Z0 aS ?_ | refine N2 aS aL ?_ | refine U5 aS aR ?_ | refine Y8 aS aR aR (Rep.one (by assumption)) ?_ | refine U7 aS aR aR aR ?_ | (refine Z8 (fun hh=>?_) (fun hh=>?_)<;>(try simp only[hh,Bool.not_true,Bool.not_false,↓M2,M2,Mb,reduceIte])) | (refine Q7 (fun hh=>?_) (fun hh=>?_)<;>(try simp only[hh,Bool.not_true,Bool.not_false,↓M2,M2,Mb,reduceIte])))))
   exact hK _ hk1.bel))) (W8 hs h)
 have hC: ∀{w1:World} {σ1:Q6} {K:Value→World→Prop},X3 w1 σ1→Sl 1 U8 σ1 v' (c.name::c.super::c.like)→(∀w' σ',Stp w1 σ1 w' σ'→K (.bool ((c.name::c.super::c.like).all M6)) w')→Q1 P F.ab [v', .func (.func F.am) #[] #[]] w1 K:=
  fun hs hv h=>Gj M6 hs hv (fun σ1 x w1 K _ _ hs hl hK=>Z7 (Rj x (Nat.le_trans hl (by decide)) hK)) (W8 hs h)
 have hD: ∀{w1:World} {σ1:Q6} {K:Value→World→Prop},X3 w1 σ1→Sl 1 U8 σ1 lv c.like→(∀w' σ',Stp w1 σ1 w' σ'→K (.bool (C8 id [] c.like)) w')→Q1 P F.aW [lv, .func (.func F.cp) #[] #[]] w1 K:=
  fun hs hv h=>Q4L id hs hv (fun σ1 x w1 K _ hs hl hK=>Z7 (Q3j (hK _ (Below.refl _ _)))) (W8 hs h)
 have hE: ∀{w1:World} {σ1:Q6} {K:Value→World→Prop},X3 w1 σ1→Sl 3 S2 σ1 fv c.fields→(∀w' σ',Stp w1 σ1 w' σ'→K (.bool (C8 Fld.name [] c.fields)) w')→Q1 P F.aF [fv, .func (.func F.cq) #[] #[]] w1 K:=
  fun hs hv h=>Q2A Fld.name hs hv (fun σ1 x cs w1 K _ hs hr hl hK=>Z7 (Q2Y (by
   obtain ⟨rfl,_⟩:=hr
   unfold Bc
   refine Z0 hs fun a w1 σ1 hk1 ha1=>?_
   (repeat' (first | (with_reducible intro _) | (with_reducible refine U6 ?_) | (simp only[↓M2,M2,Mb,reduceIte]) | (with_reducible first | refine ld aS aL aR ?_ | refine X7 aS aL aR ?_ | refine Y4 aS aL aR ?_ | refine Q8 aL ?_ | refine J0 aR ?_ | refine Z0 aS ?_ | refine N2 aS aL ?_ | refine U5 aS aR ?_ | refine Y8 aS aR aR (Rep.one (by assumption)) ?_ | refine U7 aS aR aR aR ?_ | (refine Z8 (fun hh=>?_) (fun hh=>?_)<;>(try simp only[hh,Bool.not_true,Bool.not_false,↓M2,M2,Mb,reduceIte])) | (refine Q7 (fun hh=>?_) (fun hh=>?_)<;>(try simp only[hh,Bool.not_true,Bool.not_false,↓M2,M2,Mb,reduceIte])))))
   exact hK _ hk1.bel))) (W8 hs h)
 have hF: ∀{w1:World} {σ1:Q6} {K:Value→World→Prop},X3 w1 σ1→Sl 7 E8 σ1 mv c.methods→(∀w' σ',Stp w1 σ1 w' σ'→K (.bool (C8 Hm.Met.name [] c.methods)) w')→Q1 P F.ar [mv, .func (.func F.cr) #[] #[]] w1 K:=
  fun hs hv h=>Q1Z Hm.Met.name hs hv (fun σ1 x cs w1 K _ hs hr hl hK=>Z7 (Q2V (by
   obtain ⟨pv,cv,hv,rfl,_⟩:=hr
   unfold Bb
   refine Z0 hs fun a w1 σ1 hk1 ha1=>?_
   (repeat' (first | (with_reducible intro _) | (with_reducible refine U6 ?_) | (simp only[↓M2,M2,Mb,reduceIte]) | (with_reducible first | refine ld aS aL aR ?_ | refine X7 aS aL aR ?_ | refine Y4 aS aL aR ?_ | refine Q8 aL ?_ | refine J0 aR ?_ | refine Z0 aS ?_ | refine N2 aS aL ?_ | refine U5 aS aR ?_ | refine Y8 aS aR aR (Rep.one (by assumption)) ?_ | refine U7 aS aR aR aR ?_ | (refine Z8 (fun hh=>?_) (fun hh=>?_)<;>(try simp only[hh,Bool.not_true,Bool.not_false,↓M2,M2,Mb,reduceIte])) | (refine Q7 (fun hh=>?_) (fun hh=>?_)<;>(try simp only[hh,Bool.not_true,Bool.not_false,↓M2,M2,Mb,reduceIte])))))
   exact hK _ hk1.bel))) (W8 hs h)
 have hG: ∀{w1:World} {σ1:Q6} {K:Value→World→Prop},X3 w1 σ1→Sl 3 S2 σ1 fv c.fields→(∀w' σ',Stp w1 σ1 w' σ'→K (.bool (c.fields.all El)) w')→Q1 P F.au [fv, .func (.func F.bA) #[] #[]] w1 K:=
  fun hs hv h=>Q1X El hs hv (fun σ1 x cs w1 K _ _ hs hr hl hK=>Z7 (Q93 hs hr fun w' σ' hk=>hK w' hk.bel)) (W8 hs h)
 have hH: ∀{w1:World} {σ1:Q6} {K:Value→World→Prop},X3 w1 σ1→Glb σ1→Sl 7 E8 σ1 mv c.methods→(∀w' σ',Stp w1 σ1 w' σ'→K (.bool (c.methods.all I9)) w')→Q1 P F.ap [mv, .func (.func F.bc) #[] #[]] w1 K:=
  fun hs hg hv h=>Q0U I9 hs hv (fun σ1 x cs w1 K le _ hs hr hl hK=>Q9K hs (hg.lift ⟨le⟩) hr fun w' σ' hk=>hK w' hk.bel) (W8 hs h)
 have e1:decide ((0:Int)<c.fields.length)= !decide (c.fields=[]):=by cases c.fields<;>simp
 have e2:decide (c.super=[79,98,106,101,99,116])=decide (c.super=J9):=rfl
 (repeat' (first | (with_reducible intro _) | (with_reducible refine U6 ?_) | (simp only[↓M2,M2,Mb,reduceIte]) | (with_reducible first | refine ld aS aL aR ?_ | refine X7 aS aL aR ?_ | refine Y4 aS aL aR ?_ | refine Q8 aL ?_ | refine J0 aR ?_ | refine Z0 aS ?_ | refine N2 aS aL ?_ | refine U5 aS aR ?_ | refine Y8 aS aR aR (Rep.one (by assumption)) ?_ | refine U7 aS aR aR aR ?_ | refine hA au au ?_ | refine hB au au ?_ | refine hC au au ?_ | refine hD au au ?_ | refine hE au au ?_ | refine hF au au ?_ | refine hG au au ?_ | refine hH au au au ?_ | (refine Z8 (fun hh=>?_) (fun hh=>?_)<;>(try simp only[hh,Bool.not_true,Bool.not_false,↓M2,M2,Mb,reduceIte])) | (refine Q7 (fun hh=>?_) (fun hh=>?_)<;>(try simp only[hh,Bool.not_true,Bool.not_false,↓M2,M2,Mb,reduceIte])))))
 all_goals (simp only[←e1,←e2] at h;clear hA hB hC hD hE hF hG hH e1 e2;exact aF))
theorem X1H {cs:List Value} {c:Cla} (hs:X3 w σ) (hg:Glb σ) (hc:V0 σ c cs) (hl:c.like.length≤1000000) (h: ∀w' σ',Stp w σ w' σ'→K (I (D7 c)) w'):Q1 P F.cy [.agg cs.toArray] w K:=Q4N (by
 have hc0:=hc
 obtain ⟨lv,fv,mv,rfl,g1,g2,g3,g4,g5⟩:=hc
 unfold Tm
 unfold D7 at h
 (repeat' (first | (with_reducible intro _) | (with_reducible refine U6 ?_) | (simp only[↓M2,M2,Mb,reduceIte]) | (with_reducible first | refine ld aS aL aR ?_ | refine X7 aS aL aR ?_ | refine Y4 aS aL aR ?_ | refine Q8 aL ?_ | refine J0 aR ?_ | refine Z0 aS ?_ | refine N2 aS aL ?_ | refine U5 aS aR ?_ | refine Y8 aS aR aR (Rep.one (by assumption)) ?_ | refine U7 aS aR aR aR ?_ | refine X3h au au (W8 aS ?_) | refine X2x au au au au ?_ | (refine Z8 (fun hh=>?_) (fun hh=>?_)<;>(try simp only[hh,Bool.not_true,Bool.not_false,↓M2,M2,Mb,reduceIte])) | (refine Q7 (fun hh=>?_) (fun hh=>?_)<;>(try simp only[hh,Bool.not_true,Bool.not_false,↓M2,M2,Mb,reduceIte])))))
 all_goals exact aF)
end Go.Proofs.YtjdiakhipmggjaaGreatDoor

namespace Go.Emb
open Go.RowKit Go.Hm
structure Tab (σ : Q6) (v : Value) (l : List Cla) : Prop where
  ex : ∃ a lv r m, v = .pointer (some a) ∧ Z5 σ a [lv, .map (some r)] ∧ Sl 8 V0 σ lv l ∧ Xk σ r m ∧ ∀ n, B0 m n = (Z2 l n).map (fun i : Nat => I (i : Int))
theorem Tab.lift {σ0 σ:Q6} {v:Value} {l:List Cla} (h:Tab σ0 v l) (k:SLe σ0 σ):Tab σ v l:=by
 obtain ⟨a,d,r,m,b,c,e,f,g⟩:=h.ex
 exact ⟨a,d,r,m,b,c.lift k,e.lift k,f.lift k,g⟩
end Go.Emb
namespace Go.Proofs.YtjdiakhipmggjaaGreatDoor
open Go.Emb Go.RowKit Go.Kd Go.Hm
variable {w : World} {K : Value → World → Prop} {σ : Q6} {v : Value} {l : List Cla}
theorem Q8L {n:X0} (b:X3 w σ) (g:Tab σ v l) (h:K (.bool (Q0t l n)) w):Q1 P F.j [v,S n] w K:=He (by
 obtain ⟨a,j,r,m,rfl,f,i,e,c⟩:=g.ex
 unfold Uh
 rw[L8,fa]
 refine ld b f rfl ?_
 rw[Q2u X8 (e.is b) n,c n]
 unfold Q0t at h
 cases d:Z2 l n<;>rw[d] at h<;>((try simp only[Option.map_some,Option.map_none]);(try simp only[↓M1,M1,Mb,reduceIte]);exact h))
theorem Zk {n:X0} {c:Cla} (Z:X3 w σ) (Y:Tab σ v l) (N:lk l n=some c)
 (h: ∀o s mv w' k,Stp w σ w' k→Sl 1 U8 k o c.like→Sl 3 S2 k s c.fields→Sl 7 E8 k mv c.methods→c.name.length≤U1→c.super.length≤U1→V0 k c [S c.name,S c.super,o, .bool c.iface, .bool c.abs, .bool c.fin,s,mv]→
  K (.agg [S c.name,S c.super,o, .bool c.iface, .bool c.abs, .bool c.fin,s,mv].toArray) w'):Q1 P F.h [v,S n] w K:=Kp (by
 obtain ⟨a,o,r,m,rfl,D,t2,M,V⟩:=Y.ex
 obtain ⟨_,_,i,hi,C⟩:=V3 N
 obtain ⟨u,rfl⟩:=List.getElem?_eq_some_iff.1 C
 unfold Ma
 refine M9 Z fun b w1 σ1 f d A=>?_
 refine U0 d.sat ?_
 refine X4 (.pointer (some a)) (fun w f=>by rw[L8];exact X6 rfl) ?_
 refine X4 (.pointer (some (a.add 0))) (fun t w f e=>by rw[e,fa];exact X6 rfl) ?_
 refine X4 (.pointer (some a)) (fun w f=>by rw[L8];exact X6 rfl) ?_
 refine X4 (.pointer (some (a.add 1))) (fun t w f e=>by rw[e,fa];exact X6 rfl) ?_
 refine X4 o (fun t w f e=>by rw[e];exact ld f.sat (D.up d) rfl (X6 rfl)) ?_
 refine X4 (.map (some r)) (fun t w f e=>by rw[e];exact ld f.sat (D.up d) rfl (X6 rfl)) ?_
 refine X4 (I i) (fun t w f e=>by rw[e,Q4t X8 ((M.up d).is f.sat) n,V n,hi];exact X6 rfl) ?_
 rintro t6 t7 X J t8 U ac w2 g rfl rfl rfl rfl H rfl rfl
 subst H
 have z:=A.step g.stp
 refine M7 (t2.up d) u fun p cs Q j E=>?_
 refine Y4 g.sat Q j ?_
 have q:=E
 obtain ⟨aa,s,mv,rfl,g1,O,g3,W,L⟩:=E
 refine G7 z (d.trans g.stp) f rfl rfl (Rep.one q) fun R B y=>?_
 refine V1 y rfl ?_
 exact h _ _ _ R σ1 B.stp g1 O g3 W L q)
theorem Q0H {n:X0} (c:X3 w σ) (a:Tab σ v l) (b:lk l n=none) (h:K (.bool false) w):Q1 P F.j [v,S n] w K:=Q8L c a (by rw[Q1F,b];exact h)
theorem Sp {n:X0} {d:Cla} (c:X3 w σ) (a:Tab σ v l) (b:lk l n=some d) (h:K (.bool true) w):Q1 P F.j [v,S n] w K:=Q8L c a (by rw[Q1F,b];exact h)
theorem X0e {c:Cla} {cs:List Value} (hs:X3 w σ) (ht:Tab σ v l) (hc:V0 σ c cs) (h: ∀w' σ',Stp w σ w' σ'→K (I (D0 l c)) w'):Q1 P F.bd [v, .agg cs.toArray] w K:=Gn (by
 obtain ⟨lv,fv,mv,rfl,g1,g2,g3,g4,g5⟩:=hc
 unfold Lf
 unfold D0 at h
 cases hd:lk l c.super with
 | none=>
  simp only[Qx,hd,if_true] at h
  (repeat' (first | (with_reducible intro _) | (with_reducible refine U6 ?_) | (simp only[↓M2,M2,Mb,reduceIte]) | (with_reducible first | refine ld aS aL aR ?_ | refine X7 aS aL aR ?_ | refine Y4 aS aL aR ?_ | refine Q8 aL ?_ | refine J0 aR ?_ | refine Z0 aS ?_ | refine N2 aS aL ?_ | refine U5 aS aR ?_ | refine Y8 aS aR aR (Rep.one (by assumption)) ?_ | refine U7 aS aR aR aR ?_ | refine Q0H au au au ?_ | (refine Z8 (fun hh=>?_) (fun hh=>?_)<;>(try simp only[hh,Bool.not_true,Bool.not_false,↓M2,M2,Mb,reduceIte])) | (refine Q7 (fun hh=>?_) (fun hh=>?_)<;>(try simp only[hh,Bool.not_true,Bool.not_false,↓M2,M2,Mb,reduceIte])))))
  all_goals exact aF
 | some d=>
  simp only[Qx,hd] at h
  obtain ⟨dn,ds,dl,di,da,df,dfs,dms⟩:=d
  cases di<;>cases df
  ·simp only[Bool.or_self,Bool.false_eq_true,if_false] at h
   (repeat' (first | (with_reducible intro _) | (with_reducible refine U6 ?_) | (simp only[↓M2,M2,Mb,reduceIte]) | (with_reducible first | refine ld aS aL aR ?_ | refine X7 aS aL aR ?_ | refine Y4 aS aL aR ?_ | refine Q8 aL ?_ | refine J0 aR ?_ | refine Z0 aS ?_ | refine N2 aS aL ?_ | refine U5 aS aR ?_ | refine Y8 aS aR aR (Rep.one (by assumption)) ?_ | refine U7 aS aR aR aR ?_ | refine Sp au au au ?_ | refine Zk au au au ?_ | (refine Z8 (fun hh=>?_) (fun hh=>?_)<;>(try simp only[hh,Bool.not_true,Bool.not_false,↓M2,M2,Mb,reduceIte])) | (refine Q7 (fun hh=>?_) (fun hh=>?_)<;>(try simp only[hh,Bool.not_true,Bool.not_false,↓M2,M2,Mb,reduceIte])))))
   rename_i w3 σ3 hk3 _ _ _ _ _ _
   have hS:Stp w σ w3 σ3:=by (repeat (first | exact Stp.refl (by (first | assumption | exact Stp.sat (by assumption) | exact Hst.sat (by assumption))) | assumption | refine Stp.trans ?_ (by first | assumption | exact Hst.stp (by assumption))))
   refine U2 c.like.length (fun n w'=> ∃σ',Stp w σ w' σ'∧SLe σ3 σ'∧((c.like.take n).any (R6 l))=false) ⟨σ3,hS,SLe.refl _,by simp⟩ fun n w4 d hn hi=>?_
   obtain ⟨σ4,hS4,le4,hq⟩:=hi
   clear hk3
   refine Y9 ?_
   refine Q7 (fun hh=>?_) (fun hh=>?_)
   ·have hn':n<c.like.length:=by simpa using hh
    have hmax:c.like.length≤9223372036854775807:=g1.max
    refine Q5d (by (first | assumption | exact Sl.lift (by assumption) (by (repeat (first | exact SLe.refl _ | refine SLe.more ?_ (by assumption) | refine SLe.more ?_ (Nxt.le (by assumption)) | refine SLe.step ?_ (by assumption)))) | exact Z5.lift (by assumption) (by (repeat (first | exact SLe.refl _ | refine SLe.more ?_ (by assumption) | refine SLe.more ?_ (Nxt.le (by assumption)) | refine SLe.step ?_ (by assumption)))) | exact Xk.lift (by assumption) (by (repeat (first | exact SLe.refl _ | refine SLe.more ?_ (by assumption) | refine SLe.more ?_ (Nxt.le (by assumption)) | refine SLe.step ?_ (by assumption)))) | exact RCl_lift (by assumption) (by (repeat (first | exact SLe.refl _ | refine SLe.more ?_ (by assumption) | refine SLe.more ?_ (Nxt.le (by assumption)) | refine SLe.step ?_ (by assumption)))) | exact RMe_lift (by assumption) (by (repeat (first | exact SLe.refl _ | refine SLe.more ?_ (by assumption) | refine SLe.more ?_ (Nxt.le (by assumption)) | refine SLe.step ?_ (by assumption)))) | exact Glb.lift (by assumption) (by (repeat (first | exact SLe.refl _ | refine SLe.more ?_ (by assumption) | refine SLe.more ?_ (Nxt.le (by assumption)) | refine SLe.step ?_ (by assumption)))) | exact Tab.lift (by assumption) (by (repeat (first | exact SLe.refl _ | refine SLe.more ?_ (by assumption) | refine SLe.more ?_ (Nxt.le (by assumption)) | refine SLe.step ?_ (by assumption)))) | exact RIn_any (by assumption) | exact RFd_any (by assumption) | exact RCa_any (by assumption))) hn' fun p hl hbig=>?_
    have hq':=L2 (p:=R6 l) hn'
    rw[hq] at hq'
    cases hx:lk l c.like[n] with
    | none=>
     simp only[C2 (p:=R6 l) hn' (by simp only[R6,hx]),if_true] at h
     (repeat' (first | (with_reducible intro _) | (with_reducible refine U6 ?_) | (simp only[↓M2,M2,Mb,reduceIte]) | (with_reducible first | refine ld aS aL aR ?_ | refine X7 aS aL aR ?_ | refine Y4 aS aL aR ?_ | refine Q8 aL ?_ | refine J0 aR ?_ | refine Z0 aS ?_ | refine N2 aS aL ?_ | refine U5 aS aR ?_ | refine Y8 aS aR aR (Rep.one (by assumption)) ?_ | refine U7 aS aR aR aR ?_ | refine Q0H au au au ?_ | (refine Z8 (fun hh=>?_) (fun hh=>?_)<;>(try simp only[hh,Bool.not_true,Bool.not_false,↓M2,M2,Mb,reduceIte])) | (refine Q7 (fun hh=>?_) (fun hh=>?_)<;>(try simp only[hh,Bool.not_true,Bool.not_false,↓M2,M2,Mb,reduceIte])))))
     all_goals exact aF
    | some x=>
     obtain ⟨xn,xs,xl,xi,xa,xf,xfs,xms⟩:=x
     cases xi
     ·simp only[C2 (p:=R6 l) hn' (by simp only[R6,hx];rfl),if_true] at h
      (repeat' (first | (with_reducible intro _) | (with_reducible refine U6 ?_) | (simp only[↓M2,M2,Mb,reduceIte]) | (with_reducible first | refine ld aS aL aR ?_ | refine X7 aS aL aR ?_ | refine Y4 aS aL aR ?_ | refine Q8 aL ?_ | refine J0 aR ?_ | refine Z0 aS ?_ | refine N2 aS aL ?_ | refine U5 aS aR ?_ | refine Y8 aS aR aR (Rep.one (by assumption)) ?_ | refine U7 aS aR aR aR ?_ | refine Sp au au au ?_ | refine Zk au au au ?_ | (refine Z8 (fun hh=>?_) (fun hh=>?_)<;>(try simp only[hh,Bool.not_true,Bool.not_false,↓M2,M2,Mb,reduceIte])) | (refine Q7 (fun hh=>?_) (fun hh=>?_)<;>(try simp only[hh,Bool.not_true,Bool.not_false,↓M2,M2,Mb,reduceIte])))))
      all_goals exact aF
     ·(repeat' (first | (with_reducible intro _) | (with_reducible refine U6 ?_) | (simp only[↓M2,M2,Mb,reduceIte]) | (with_reducible first | refine ld aS aL aR ?_ | refine X7 aS aL aR ?_ | refine Y4 aS aL aR ?_ | refine Q8 aL ?_ | refine J0 aR ?_ | refine Z0 aS ?_ | refine N2 aS aL ?_ | refine U5 aS aR ?_ | refine Y8 aS aR aR (Rep.one (by assumption)) ?_ | refine U7 aS aR aR aR ?_ | refine Sp au au au ?_ | refine Zk au au au ?_ | (refine Z8 (fun hh=>?_) (fun hh=>?_)<;>(try simp only[hh,Bool.not_true,Bool.not_false,↓M2,M2,Mb,reduceIte])) | (refine Q7 (fun hh=>?_) (fun hh=>?_)<;>(try simp only[hh,Bool.not_true,Bool.not_false,↓M2,M2,Mb,reduceIte])))))
      refine Y5 hmax hn' ⟨_,by (repeat (first | exact Stp.refl (by (first | assumption | exact Stp.sat (by assumption) | exact Hst.sat (by assumption))) | assumption | refine Stp.trans ?_ (by first | assumption | exact Hst.stp (by assumption)))),by (repeat (first | exact SLe.refl _ | refine SLe.more ?_ (by assumption) | refine SLe.more ?_ (Nxt.le (by assumption)) | refine SLe.step ?_ (by assumption))),by rw[hq'];simp only[R6,hx];rfl⟩
   ·have hn': ¬n<c.like.length:=by simpa using hh
    rw[E3 hn'] at hq
    simp only[hq,Bool.false_eq_true,if_false] at h
    exact h _ _ hS4
  all_goals
   simp only[Bool.or_self,Bool.or_true,Bool.true_or,if_true] at h
   (repeat' (first | (with_reducible intro _) | (with_reducible refine U6 ?_) | (simp only[↓M2,M2,Mb,reduceIte]) | (with_reducible first | refine ld aS aL aR ?_ | refine X7 aS aL aR ?_ | refine Y4 aS aL aR ?_ | refine Q8 aL ?_ | refine J0 aR ?_ | refine Z0 aS ?_ | refine N2 aS aL ?_ | refine U5 aS aR ?_ | refine Y8 aS aR aR (Rep.one (by assumption)) ?_ | refine U7 aS aR aR aR ?_ | refine Sp au au au ?_ | refine Zk au au au ?_ | (refine Z8 (fun hh=>?_) (fun hh=>?_)<;>(try simp only[hh,Bool.not_true,Bool.not_false,↓M2,M2,Mb,reduceIte])) | (refine Q7 (fun hh=>?_) (fun hh=>?_)<;>(try simp only[hh,Bool.not_true,Bool.not_false,↓M2,M2,Mb,reduceIte])))))
   all_goals exact aF)
end Go.Proofs.YtjdiakhipmggjaaGreatDoor

namespace Go.Emb
open Go.RowKit Go.Hm
variable {P : Program} {w w0 w1 w' w'' : World} {K : Value → World → Prop} {σ σ0 σ1 σ' : Q6}
theorem Q8A {a:Addr} {v:Value} (h:w.cell? a=some v) (b:Below w.heap.size w w'):w'.cell? a=some v:=by
 rw[←h];exact World.cell?_of_block (b.block a.block (World.block_lt_of_cell? _ _ h))
def Ptr {α:Type} (sz:Nat) (R:Q6→α→List Value→Prop) (σ:Q6) (x:α) (p:Value) (w:World):Prop:=
 ∃a cs,p= .pointer (some a)∧(∀j u,cs[j]? =some u→w.cell? (a.add j)=some u)∧cs.length=sz∧R σ x cs
theorem Ptr.below {α:Type} {sz:Nat} {R:Q6→α→List Value→Prop} {x:α} {p:Value} (h:Ptr sz R σ x p w) (e:Below w.heap.size w w'):Ptr sz R σ x p w':=by
 obtain ⟨a,cs,c,d,f⟩:=h
 exact ⟨a,cs,c,fun j u b=>Q8A (d j u b) e,f⟩
end Go.Emb
namespace Go.Proofs.YtjdiakhipmggjaaGreatDoor
open Go.Emb Go.RowKit Go.Kd Go.Hm
variable {w : World} {K : Value → World → Prop} {σ : Q6} {v : Value} {l : List Cla}
theorem Q4D {w0:World} {σ0:Q6} {xs:List Cla} (hS:Stp w0 σ0 w σ) (B:J7 w0.heap.size T.b 8 V0 σ w v xs)
 (h: ∀w',Kpt (fun k=>v.ownBlock=some k) w w'→Stp w0 σ0 w' σ→J7 w0.heap.size T.b 8 V0 σ w' v xs.reverse→K (.tuple #[]) w'):Q1 P F.r [v] w K:=Zu (by
 unfold I5
 have Q:xs.length≤9223372036854775807:=by
  obtain ⟨a,X,_,g,b,_⟩:=B
  simp only[maxLen] at b;omega
 refine Q1t B ?_
 refine Zp ⟨by omega,by omega⟩ ?_
 refine Wl (fun x w'=> ∃i:Nat,x=(I i,I ((xs.length:Int)-1-i))∧2*i≤xs.length∧Kpt (fun k=>v.ownBlock=some k) w w'∧Stp w0 σ0 w' σ∧J7 w0.heap.size T.b 8 V0 σ w' v (B2 i xs)) (fun x _=>match x.2 with | .int _ n=>(n+1).toNat | _=>0) ⟨0,by simp,by omega,Kpt.refl,hS,B⟩ ?_
 rintro _ d w1 ⟨i,rfl,U,R,q,c⟩
 obtain ⟨M,O⟩:=Q0J xs i U
 refine Y9 ?_
 refine Q7 (fun hh=>?_) (fun hh=>?_)
 ·have V:(i:Int)<(xs.length:Int)-1-i:=by simpa using hh
  have N:((xs.length:Int)-1-i)=((xs.length-1-i:Nat):Int):=by omega
  have o:i<(B2 i xs).length:=by omega
  have r:xs.length-1-i<(B2 i xs).length:=by omega
  refine U0 q.sat ?_
  refine H4 (Ptr 8 V0 σ (B2 i xs)[xs.length-1-i]) (fun _ _ _ h f=>h.below f) (fun w f=>?_) ?_
  ·simp only[N]
   exact Q5p (c.step f.stp) r fun a cs g b m=>⟨Below.refl _ _,a,cs,rfl,g,b,m⟩
  refine H4 (Ptr 8 V0 σ (B2 i xs)[i]) (fun _ _ _ h f=>h.below f) (fun w f=>?_) ?_
  ·exact Q5p (c.step f.stp) o fun a cs g b m=>⟨Below.refl _ _,a,cs,rfl,g,b,m⟩
  refine H4 (fun v _=> ∃cs:List Value,v= .agg cs.toArray∧cs.length=8∧V0 σ (B2 i xs)[xs.length-1-i] cs) (fun _ _ _ h _=>h) (fun t w f e=>?_) ?_
  ·obtain ⟨a,cs,rfl,g,b,m⟩:=e
   exact Pv b g ⟨Below.refl _ _,cs,rfl,b,m⟩
  refine H4 (fun v _=> ∃cs:List Value,v= .agg cs.toArray∧cs.length=8∧V0 σ (B2 i xs)[i] cs) (fun _ _ _ h _=>h) (fun t w f e=>?_) ?_
  ·obtain ⟨a,cs,rfl,g,b,m⟩:=e
   exact Pv b g ⟨Below.refl _ _,cs,rfl,b,m⟩
  rintro W aa ac Z w2 j _ _ ⟨cs,rfl,D,s⟩ ⟨ds,rfl,H,y⟩
  refine Q3o (q.trans j.stp) (c.step j.stp) o D s (Rep.one s) fun p u w3 E L z=>?_
  simp only[N]
  refine Q3o L.stp z (by simpa using r) H y (Rep.one y) fun p u w4 C A J=>?_
  refine Xu ⟨by omega,by omega⟩ ?_
  refine Zp ⟨by omega,by omega⟩ ?_
  refine ⟨⟨i+1,by congr 1<;>congr 1<;>omega,by omega,?_,A.stp,?_⟩,?_⟩
  ·exact ((R.trans (Kpt.of_below j.stp.bel)).trans E).trans C
  ·have e1:(B2 i xs)[i]? =some (B2 i xs)[i]:=List.getElem?_eq_getElem o
   have Y:(B2 i xs)[xs.length-1-i]? =some (B2 i xs)[xs.length-1-i]:=List.getElem?_eq_getElem r
   have:B2 (i+1) xs=((B2 i xs).set i (B2 i xs)[xs.length-1-i]).set (xs.length-1-i) (B2 i xs)[i]:=by
    simp only[B2,e1,Y]
   rw[this];exact J
  ·simp only;omega
 ·have ad: ¬(i:Int)<(xs.length:Int)-1-i:=by simpa using hh
  rw[X00 xs i U (by omega)] at c
  exact h w1 R q c)
def sOf:Value→X0 | .string b=>b.data.toList | _=>[]
theorem Q9V {n:X0} (U:X3 w σ) (B:Tab σ v l) (E:Ja l) (X:l.length≤100000) (h: ∀t w' σ',Stp w σ w' σ'→J7 w.heap.size T.b 8 V0 σ' w' t (chain l n).reverse→K t w'):Q1 P F.aV [v,S n] w K:=Af (by
 unfold Ou
 refine Wl (fun x w'=> ∃(s:X0) (m:List Cla) (σ':Q6),x.2=S s∧chain l n=m++chain l s∧Stp w σ w' σ'∧V6 w.heap.size T.b 8 V0 σ' w' x.1 m) (fun x _=>(chain l (sOf x.2)).length)
  ⟨n,[],σ,rfl,rfl,Stp.refl U,V6.nil⟩ ?_
 rintro ⟨Z,_⟩ d w1 ⟨s,m,σ1,rfl,o,a,f⟩
 have g:=B.lift ⟨a.le⟩
 have z:=Cz l n
 have y:sOf (S s)=s:=by simp[sOf]
 simp only[y]
 cases j:lk l s with
 | none=>
  refine Q0H a.sat g j ?_
  refine Z4 ?_
  rw[Yp j,List.append_nil] at o
  rw[←o] at f
  refine Q4D a (J7.of_acc f) fun L e p r=>?_
  exact h _ _ _ p r
 | some c=>
  refine Sp a.sat g j ?_
  refine Z9 ?_
  refine Zk a.sat g j fun N J mv L σ2 e R O M C V A=>?_
  have b:=A6 E s
  rw[j] at b
  simp only at b
  have D:m.length+1≤l.length+1:=by
   have:=congrArg List.length o
   rw[List.length_append,b,List.length_cons] at this;omega
  refine Ug (a.trans e) (f.up e) A rfl rfl rfl (by omega) (by omega) fun u t Y σ3 H i q _=>?_
  refine Zk i.sat (B.lift ⟨i.le⟩) j fun N J mv W Q k R O M C V A=>?_
  refine J0 (v:=S c.super) rfl ?_
  refine ⟨⟨c.super,m++[c],Q,rfl,?_,i.trans k,q.up k⟩,?_⟩
  ·rw[o,b];simp
  ·have:sOf (S c.super)=c.super:=by simp[sOf]
   simp only[this,b,List.length_cons];omega)
theorem Iv {n:X0} (hs:X3 w σ) (ht:Tab σ v l) (V:Ja l) (Y:l.length≤100000) (L: ∀c∈l,Qj c) (h: ∀A w' σ',Stp w σ w' σ'→Sl 3 S2 σ' A (Y6 l n)→K A w'):Q1 P F.a4 [v,S n] w K:=Fx (by
 unfold Lw
 refine Q9V hs ht V Y fun v1 w1 σ1 B E=>?_
 obtain ⟨Q,u,k,X,_⟩:=E.keep B
 generalize j:(chain l n).reverse=cs at*
 have M:cs.length≤l.length+1:=by rw[←j,List.length_reverse];exact Cz l n
 have s: ∀c∈cs,c.fields.length≤1000000:=fun c t=>(L c (Bl (by rw[←j] at t;simpa using t))).2.1
 refine Q8 k ?_
 refine E5 cs.length (fun i a w'=> ∃σ',Stp w σ w' σ'∧SLe Q σ'∧V6 w.heap.size T.o 3 S2 σ' w' a ((cs.take i).flatMap (·.fields))) ⟨Q,u,SLe.refl _,V6.nil⟩ fun i a w3 d hi o=>?_
 obtain ⟨σ3,f,r,g⟩:=o
 refine Y9 ?_
 refine Q7 (fun hh=>?_) (fun hh=>?_)
 ·have e:i<cs.length:=by simpa using hh
  refine M7 (k.lift r) e fun p cells C m N=>?_
  refine Y4 f.sat C m ?_
  refine Y8 f.sat (by rfl) m (Rep.one N) fun q w4 O b U=>?_
  obtain ⟨lv,fv,mv,rfl,f1,Z,f3,f4,f5⟩:=N
  rw[fa]
  refine ld b.sat U rfl ?_
  have J:=Vt (fun c:Cla=>c.fields) 1000000 (cs.take i) fun c t=>s c (List.mem_of_mem_take t)
  rw[List.length_take] at J
  have W:=s cs[i] (List.getElem_mem e)
  have R:min i cs.length*1000000≤100000*1000000:=Nat.mul_le_mul_right _ (by omega)
  refine Wh (f.trans b) (g.up b) (Z.up b) rfl (by omega) (by omega) fun A w5 ac y D _=>?_
  refine N0 ?_
  refine J3 (by omega) e ⟨O,y,r.more ⟨b.le⟩,?_⟩
  rw[List.take_add_one,List.getElem?_eq_getElem e,List.flatMap_append]
  simpa using D
 ·have e: ¬i<cs.length:=by simpa using hh
  rw[List.take_of_length_le (by omega)] at g
  obtain ⟨O,z,H,ab,_⟩:=g.keep f
  refine h _ _ _ z ?_
  unfold Y6
  rw[j];exact H)
theorem X29 {n f:X0} (hs:X3 w σ) (ht:Tab σ v l) (ha:Ja l) (hl:l.length≤100000) (hsm: ∀c∈l,Qj c) (h: ∀w' σ',Stp w σ w' σ'→K (I (L5 (Uf l n f))) w'):Q1 P F.bo [v,S n,S f] w K:=Is (by
 unfold Mt
 refine U5 hs rfl fun q w1 σ1 hk1 hq=>?_
 refine Iv hk1.sat (ht.lift ⟨hk1.le⟩) ha hl hsm fun v' w2 σ2 hk2 hv2=>?_
 rw[Qh]
 refine Ge (fun x=>decide (x.name=f)) hk2.sat hv2 (fun x cs w3 K _ hs3 hr hl hK=>Z7 (Bx ?_)) fun w3 hb=>?_
 ·obtain ⟨rfl,_⟩:=hr
  unfold Vq
  have hq2:=hq.up hk2
  refine Z0 hs3 fun a w4 σ4 hk4 ha4=>?_
  (repeat' (first | (with_reducible intro _) | (with_reducible refine U6 ?_) | (simp only[↓M2,M2,Mb,reduceIte]) | (with_reducible first | refine ld aS aL aR ?_ | refine X7 aS aL aR ?_ | refine Y4 aS aL aR ?_ | refine Q8 aL ?_ | refine J0 aR ?_ | refine Z0 aS ?_ | refine N2 aS aL ?_ | refine U5 aS aR ?_ | refine Y8 aS aR aR (Rep.one (by assumption)) ?_ | refine U7 aS aR aR aR ?_ | (refine Z8 (fun hh=>?_) (fun hh=>?_)<;>(try simp only[hh,Bool.not_true,Bool.not_false,↓M2,M2,Mb,reduceIte])) | (refine Q7 (fun hh=>?_) (fun hh=>?_)<;>(try simp only[hh,Bool.not_true,Bool.not_false,↓M2,M2,Mb,reduceIte])))))
  exact hK _ hk4.bel
 ·exact h _ _ ((hk1.trans hk2).trans (Stp.of_below hk2.sat hb)))
end Go.Proofs.YtjdiakhipmggjaaGreatDoor

namespace Go.Hm
open Go.Kd
theorem Q62 {α:Type} (p:α→Bool): ∀xs:List α,xs.find? p=(xs.findIdx? p).bind (xs[·]?)
 | []=>rfl
 | x::r=>by
  rw[List.find?_cons,List.findIdx?_cons]
  cases p x with
  | true=>rfl
  | false=>
   simp only[Bool.false_eq_true,if_false]
   rw[Q62 p r]
   cases r.findIdx? p<;>simp
def X0Q (l:List Cla):Prop:= ∀c∈l,∀u∈c.like,∃d,lk l u=some d
def Nm (c:Cla):Prop:=c.name.length≤100∧(∀f∈c.fields,f.name.length≤100∧f.kind.length≤100)∧ ∀m∈c.methods,m.result.length≤100∧ ∀p∈m.params,p.length≤100
structure Ok (l : List Cla) : Prop where
  acy : Ja l
  len : l.length ≤ 100000
  sm : ∀ c ∈ l, Qj c
  full : X0Q l
  nm : ∀ c ∈ l, Nm c
abbrev oM (o:Option Hm.Met):Hm.Met:=o.getD Hm.Met.zero
abbrev o1 (o:Option (X0×Hm.Met)):X0:=(o.map (·.1)).getD []
abbrev o2 (o:Option (X0×Hm.Met)):Hm.Met:=(o.map (·.2)).getD Hm.Met.zero
theorem Ya {α β:Type} {xs:List α} {f:α→Option β} {n:Nat} (h:n<xs.length) (a:(xs.take n).findSome? f=none):(xs.take (n+1)).findSome? f=f xs[n]:=by
 rw[List.take_add_one,List.getElem?_eq_getElem h,List.findSome?_append,a];simp
theorem Xp {α β:Type} {xs:List α} {f:α→Option β} {n:Nat} {y:β} (h:n<xs.length) (b:(xs.take n).findSome? f=none) (a:f xs[n]=some y):xs.findSome? f=some y:=by
 have:=Ya h b
 rw[a] at this
 rw[←List.take_append_drop (n+1) xs,List.findSome?_append,this];rfl
end Go.Hm
namespace Go.Proofs.YtjdiakhipmggjaaGreatDoor
open Go.Emb Go.RowKit Go.Kd Go.Hm
variable {w : World} {K : Value → World → Prop} {σ : Q6} {v : Value} {l : List Cla}
theorem Qv:E8 σ Hm.Met.zero [S [], .slice none 0 0,S [], .bool false,I 0, .slice none 0 0, .slice none 0 0]:=
 ⟨_,_,_,rfl,Sl.nil,Sl.nil,Sl.nil,by decide,by decide,by decide,by decide⟩
theorem Fs (h:K (.agg [S [], .slice none 0 0,S [], .bool false,I 0, .slice none 0 0, .slice none 0 0].toArray) w):H1 P T.d [] w K:=V8 (by kernel_rfl) h
theorem X1b {c:Cla} {cs:List Value} {n:X0} (hs:X3 w σ) (hc:V0 σ c cs) (hsm:Qj c)
 (h: ∀pv cv hv w' σ',Stp w σ w' σ'→E8 σ' (oM (F4 c n)) [S (oM (F4 c n)).name,pv,S (oM (F4 c n)).result, .bool (oM (F4 c n)).abs,I (oM (F4 c n)).locals,cv,hv]→
  K (.tuple #[.agg [S (oM (F4 c n)).name,pv,S (oM (F4 c n)).result, .bool (oM (F4 c n)).abs,I (oM (F4 c n)).locals,cv,hv].toArray, .bool (F4 c n).isSome]) w'):Q1 P F.cC [.agg cs.toArray,S n] w K:=Q7X (by
 obtain ⟨lv,fv,mv,rfl,g1,g2,g3,g4,g5⟩:=hc
 unfold Q3d
 refine Z0 hs fun a w1 σ1 hk1 ha1=>?_
 refine U5 hk1.sat rfl fun q w2 σ2 hk2 hq=>?_
 refine M9 hk2.sat fun b w3 σ3 hb hk3 hm=>?_
 rw[fa]
 have ha3:=(ha1.up hk2).up hk3
 have g3:=((g3.up hk1).up hk2).up hk3
 have hq3:=hq.up hk3
 refine ld hk3.sat ha3 rfl ?_
 rw[Qh]
 have hS3:=(hk1.trans hk2).trans hk3
 have hb0:w.heap.size≤b:=M8 hb (hk1.trans hk2)
 refine Fj (fun x=>decide (x.name=n)) hk3.sat g3 (fun x cs w4 K _ hs4 hr hl hK=>Z7 (Q5W ?_)) fun w4 hb4=>?_
 ·obtain ⟨pv,cv,hv,rfl,_⟩:=hr
  unfold Q0S
  refine Z0 hs4 fun a w5 σ5 hk5 ha5=>?_
  (repeat' (first | (with_reducible intro _) | (with_reducible refine U6 ?_) | (simp only[↓M2,M2,Mb,reduceIte]) | (with_reducible first | refine ld aS aL aR ?_ | refine X7 aS aL aR ?_ | refine Y4 aS aL aR ?_ | refine Q8 aL ?_ | refine J0 aR ?_ | refine Z0 aS ?_ | refine N2 aS aL ?_ | refine U5 aS aR ?_ | refine Y8 aS aR aR (Rep.one (by assumption)) ?_ | refine U7 aS aR aR aR ?_ | (refine Z8 (fun hh=>?_) (fun hh=>?_)<;>(try simp only[hh,Bool.not_true,Bool.not_false,↓M2,M2,Mb,reduceIte])) | (refine Q7 (fun hh=>?_) (fun hh=>?_)<;>(try simp only[hh,Bool.not_true,Bool.not_false,↓M2,M2,Mb,reduceIte])))))
  exact hK _ hk5.bel
 have hk4:Stp w3 σ3 w4 σ3:=Stp.of_below hk3.sat hb4
 have hm:=hm.step hk4
 have hS4:=hS3.trans hk4
 unfold F4 at h
 rw[Q62] at h
 refine Y9 ?_
 cases hf:c.methods.findIdx? fun x=>decide (x.name=n) with
 | none=>
  rw[hf] at h
  simp only[L5]
  refine Z9 ?_
  refine Fs ?_
  refine G7 hm hS4 hb0 rfl rfl (Rep.one (Qv (σ:=σ3))) fun w5 hS5 hm5=>?_
  refine V1 hm5 rfl ?_
  exact h _ _ _ w5 σ3 hS5.stp Qv
 | some i=>
  rw[hf] at h
  have hi:i<c.methods.length:=(List.findIdx?_eq_some_iff_getElem.1 hf).1
  simp only[Option.bind_some,List.getElem?_eq_getElem hi] at h
  simp only[L5]
  refine Q7 (fun hh=>absurd (of_decide_eq_true hh) (by omega)) (fun _=>?_)
  rw[fa]
  refine ld hk4.sat ha3 rfl ?_
  refine M7 g3 hi fun p cells hl1 hl2 hr=>?_
  refine Y4 hk4.sat hl1 hl2 ?_
  refine Q4f hk4.sat hr (hsm.2.2.2 _ (List.getElem_mem hi)) fun pv cv hv w5 σ5 hk5 hr5=>?_
  refine G7 (hm.step hk5) (hS4.trans hk5) hb0 rfl rfl (Rep.one hr5) fun w6 hS6 hm6=>?_
  refine V1 hm6 rfl ?_
  exact h _ _ _ w6 σ5 hS6.stp hr5)
theorem X32 {n:X0} (ok:Ok l): ∀(k:Nat) {c:Cla} {cs:List Value} {w:World} {σ:Q6} {K:Value→World→Prop},P1 l c.name<k→lk l c.name=some c→X3 w σ→Tab σ v l→V0 σ c cs→
 (∀pv Z Y w' X,Stp w σ w' X→E8 X (o2 (V4 l c n)) [S (o2 (V4 l c n)).name,pv,S (o2 (V4 l c n)).result, .bool (o2 (V4 l c n)).abs,I (o2 (V4 l c n)).locals,Z,Y]→
  K (.tuple #[S (o1 (V4 l c n)), .agg [S (o2 (V4 l c n)).name,pv,S (o2 (V4 l c n)).result, .bool (o2 (V4 l c n)).abs,I (o2 (V4 l c n)).locals,Z,Y].toArray, .bool (V4 l c n).isSome]) w')→
 Q1 P F.aX [v, .agg cs.toArray,S n] w K:=by
 intro k
 induction k with
 | zero=>
  intro c cs w σ K hk
  omega
 | succ k ih=>
  intro c cs w σ K hk hc hs ht hr h
  refine Ao ?_
  obtain ⟨lv,fv,mv,rfl,g1,g2,g3,g4,g5⟩:=hr
  have E:=Q4d ok.acy hc n
  generalize hf:(fun u=>match lk l u with | none=>none | some d=>match F4 d n with | some m=>some (u,m) | none=>V4 l d n)=f at E
  unfold Oj
  refine Z0 hs fun a w1 σ1 J az=>?_
  refine M9 J.sat fun b w2 σ2 hb C ay=>?_
  have V:w.heap.size≤b:=M8 hb J
  have aq:=az.up C
  rw[fa]
  refine ld C.sat aq rfl ?_
  have g1:=(g1.up J).up C
  refine Q8 g1 ?_
  refine U2 c.like.length (fun i w'=> ∃X,Stp w σ w' X∧SLe σ2 X∧Y2 X w' b [S [], .slice none 0 0,S [], .bool false,I 0, .slice none 0 0, .slice none 0 0]∧(c.like.take i).findSome? f=none) ⟨σ2,J.trans C,SLe.refl _,ay,rfl⟩ fun i w3 d hi ab=>?_
  obtain ⟨σ3,A,ai,af,z⟩:=ab
  have aw:=ht.lift ⟨A.le⟩
  refine Y9 ?_
  refine Q7 (fun hh=>?_) (fun hh=>?_)
  ·have g:i<c.like.length:=by simpa using hh
   refine Q5d (g1.lift ai) g fun p a5 ae=>?_
   refine X7 A.sat a5 rfl ?_
   obtain ⟨d,W⟩:=ok.full c (V3 hc).2.1 _ (List.getElem_mem g)
   obtain ⟨ak,a6,_⟩:=V3 W
   have j:f c.like[i]=match F4 d n with | some m=>some (c.like[i],m) | none=>V4 l d n:=by rw[←hf];simp only[W]
   refine Zk A.sat aw W fun a0 bb a8 w4 σ4 B f1 f2 f3 f4 f5 a4=>?_
   refine X1b B.sat a4 (ok.sm d a6) fun pv Z Y w5 σ5 D ag=>?_
   refine J6 (vs:=[_,_]) rfl ?_
   refine J6 (vs:=[_,_]) rfl ?_
   refine Y8 D.sat (by rfl) rfl (Rep.one ag) fun q w6 σ6 H ao=>?_
   have t:=((A.trans B).trans D).trans H
   have ah:=((af.step B).step D).step H
   have O:=RMe_lift ag ⟨H.le⟩
   cases ho:F4 d n with
   | some m=>
    rw[ho] at j O ao
    (try simp only[ho])
    refine Z9 ?_
    refine U0 t.sat ?_
    refine H4 (fun v _=>v= .agg [S m.name,pv,S m.result, .bool m.abs,I m.locals,Z,Y].toArray) (fun _ _ _ h _=>h) (fun w hb=>Y4 hb.sat ao rfl ⟨Below.refl _ _,rfl⟩) ?_
    rintro _ w7 aj rfl
    refine G7 (ah.step aj.stp) (t.trans aj.stp) V rfl rfl (Rep.one O) fun w8 a1 a7=>?_
    refine V1 a7 rfl ?_
    have U:=E.trans (Xp g z j)
    rw[U] at h
    exact h _ _ _ w8 σ6 a1.stp O
   | none=>
    rw[ho] at j
    (try simp only[Option.isSome_none])
    refine Z4 ?_
    refine Zk t.sat (ht.lift ⟨t.le⟩) W fun a0 bb a8 w7 σ7 y f1 f2 f3 f4 f5 a2=>?_
    have br:=Xq ok.acy hc (by simp[U3,List.getElem_mem g]:c.like[i]∈U3 c) W
    refine ih (by rw[ak];omega) (by rw[ak];exact W) y.sat (ht.lift ⟨(t.trans y).le⟩) a2 fun pv Z Y w8 σ8 M am=>?_
    refine J6 (vs:=[_,_,_]) rfl ?_
    refine J6 (vs:=[_,_,_]) rfl ?_
    refine J6 (vs:=[_,_,_]) rfl ?_
    refine Y8 M.sat (by rfl) rfl (Rep.one am) fun q w9 σ9 L aa=>?_
    have R:=((t.trans y).trans M).trans L
    have ac:=((ah.step y).step M).step L
    have Q:=RMe_lift am ⟨L.le⟩
    cases U:V4 l d n with
    | some r=>
     obtain ⟨s,m⟩:=r
     rw[U] at j Q aa
     (try simp only[U])
     refine Z9 ?_
     refine U0 R.sat ?_
     refine H4 (fun v _=>v= .agg [S m.name,pv,S m.result, .bool m.abs,I m.locals,Z,Y].toArray) (fun _ _ _ h _=>h) (fun w hb=>Y4 hb.sat aa rfl ⟨Below.refl _ _,rfl⟩) ?_
     rintro _ bq N rfl
     refine G7 (ac.step N.stp) (R.trans N.stp) V rfl rfl (Rep.one Q) fun ax ad an=>?_
     refine V1 an rfl ?_
     have ae:=E.trans (Xp g z j)
     rw[ae] at h
     exact h _ _ _ ax σ9 ad.stp Q
    | none=>
     rw[U] at j
     (try simp only[Option.isSome_none])
     refine Z4 ?_
     refine N0 ?_
     refine Y5 (by have:=g1.max;omega) g ⟨σ9,R,?_,ac,?_⟩
     ·exact ai.more ⟨fun b o e=>L.le _ _ (M.le _ _ (y.le _ _ (H.le _ _ (D.le _ _ (B.le _ _ e)))))⟩
     ·rw[Ya g z];exact j
  ·have g: ¬i<c.like.length:=by simpa using hh
   rw[List.take_of_length_le (by omega)] at z
   refine Fs ?_
   refine G7 af A V rfl rfl (Rep.one (Qv (σ:=σ3))) fun w5 a3 av=>?_
   refine V1 av rfl ?_
   have U:=E.trans z
   rw[U] at h
   exact h _ _ _ w5 σ3 a3.stp Qv
end Go.Proofs.YtjdiakhipmggjaaGreatDoor

namespace Go.Hm
open Go.Kd
theorem X0u {l:List Cla} {n:X0} {c:Cla} (h:c∈chain l n):lk l c.name=some c:=by
 have key: ∀(f:Nat) (n:X0),c∈I6 (lk l) f n→lk l c.name=some c:=by
  intro f
  induction f with
  | zero=>intro n h;simp[I6] at h
  | succ f b=>
   intro n h
   simp only[I6] at h
   split at h
   ·simp at h
   ·rename_i d a
    rcases List.mem_cons.1 h with rfl | h
    ·rw[(V3 a).1];exact a
    ·exact b _ h
 exact key _ _ h
end Go.Hm
namespace Go.Proofs.YtjdiakhipmggjaaGreatDoor
open Go.Emb Go.RowKit Go.Kd Go.Hm
variable {w : World} {K : Value → World → Prop} {σ : Q6} {v : Value} {l : List Cla}
theorem X0Z {k n:X0} (hs:X3 w σ) (ht:Tab σ v l) (ok:Ok l)
 (h: ∀pv cv hv w' H,Stp w σ w' H→E8 H (o2 (V2 l k n)) [S (o2 (V2 l k n)).name,pv,S (o2 (V2 l k n)).result, .bool (o2 (V2 l k n)).abs,I (o2 (V2 l k n)).locals,cv,hv]→
  K (.tuple #[S (o1 (V2 l k n)), .agg [S (o2 (V2 l k n)).name,pv,S (o2 (V2 l k n)).result, .bool (o2 (V2 l k n)).abs,I (o2 (V2 l k n)).locals,cv,hv].toArray, .bool (V2 l k n).isSome]) w'):
 Q1 P F.bf [v,S k,S n] w K:=Gk (by
 unfold Lk
 refine M9 hs fun b w1 σ1 E M al=>?_
 refine Q9V M.sat (ht.lift ⟨M.le⟩) ok.acy ok.len fun v1 w2 σ2 a0 af=>?_
 have bc:=al.step a0
 have bg:=al.lt
 refine Q4D (M.trans a0) (af.mono M.bel.size) fun w3 a9 bd aq=>?_
 rw[List.reverse_reverse] at aq
 obtain ⟨σ3,ad,R,bq,ay⟩:=aq.keep bd
 have bp:=Cz l k
 have ae:v1.ownBlock≠some b:=fun e=>by have:=af.own e;omega
 have ag:Y2 σ3 w3 b [S [], .slice none 0 0,S [], .bool false,I 0, .slice none 0 0, .slice none 0 0]:=by
  have:=bc.kp a9 ae
  exact ⟨(ay b fun e=>ae e.symm).trans this.1,this.2⟩
 refine Q8 R ?_
 unfold V2 at h
 refine U2 (chain l k).length (fun i w'=> ∃H,Stp w σ w' H∧SLe σ3 H∧Y2 H w' b [S [], .slice none 0 0,S [], .bool false,I 0, .slice none 0 0, .slice none 0 0]∧((chain l k).take i).findSome? (fun c=>(F4 c n).map (c.name,·))=none) ⟨σ3,ad,SLe.refl _,ag,rfl⟩ fun i w5 d hi C=>?_
 obtain ⟨σ5,J,O,ai,y⟩:=C
 refine Y9 ?_
 refine Q7 (fun hh=>?_) (fun hh=>?_)
 ·have a:i<(chain l k).length:=by simpa using hh
  refine M7 (R.lift O) a fun p cells V z Z=>?_
  refine Y4 J.sat V z ?_
  refine Y8 J.sat (by rfl) z (Rep.one Z) fun q w6 σ6 A a2=>?_
  refine Y4 A.sat a2 z ?_
  have aw:=Bl (List.getElem_mem a)
  refine X1b A.sat (Rep.up A.le Z) (ok.sm _ aw) fun pv cv hv w7 σ7 j ac=>?_
  refine J6 (vs:=[_,_]) rfl ?_
  refine J6 (vs:=[_,_]) rfl ?_
  refine Y8 j.sat (by rfl) rfl (Rep.one ac) fun q8 w8 σ8 u ap=>?_
  have Y:=((J.trans A).trans j).trans u
  have ak:=((ai.step A).step j).step u
  have B:=RMe_lift ac ⟨u.le⟩
  cases D:F4 (chain l k)[i] n with
  | some m=>
   rw[D] at B ap
   (try simp only[D])
   refine Z9 ?_
   obtain ⟨lv,fv,mv,rfl,g⟩:=Z
   refine U0 Y.sat ?_
   refine X4 (.pointer (some (q.add 0))) (fun w E=>by rw[fa];exact X6 rfl) ?_
   refine X4 (S (chain l k)[i].name) (fun t w E e=>by rw[e];exact ld E.sat ((a2.up j).up u) rfl (X6 rfl)) ?_
   refine H4 (fun v _=>v= .agg [S m.name,pv,S m.result, .bool m.abs,I m.locals,cv,hv].toArray) (fun _ _ _ h _=>h) (fun w E=>Y4 E.sat ap rfl ⟨Below.refl _ _,rfl⟩) ?_
   rintro _ _ _ w9 ao rfl rfl rfl
   refine G7 (ak.step ao.stp) (Y.trans ao.stp) E rfl rfl (Rep.one B) fun an am az=>?_
   refine V1 az rfl ?_
   rw[Xp (f:=fun c=>(F4 c n).map (c.name,·)) a y (by simp only[D];rfl)] at h
   exact h _ _ _ an σ8 am.stp B
  | none=>
   (try simp only[D])
   refine Z4 ?_
   refine N0 ?_
   refine Y5 (by have:=ok.len;omega) a ⟨σ8,Y,O.more ⟨fun b o e=>u.le _ _ (j.le _ _ (A.le _ _ e))⟩,ak,?_⟩
   rw[Ya a y];simp only[D];rfl
 ·have a: ¬i<(chain l k).length:=by simpa using hh
  rw[List.take_of_length_le (by omega)] at y
  rw[y] at h
  clear ag ad hh
  refine Q8 (R.lift O) ?_
  refine U2 (chain l k).length (fun i w'=> ∃H,Stp w σ w' H∧SLe σ3 H∧Y2 H w' b [S [], .slice none 0 0,S [], .bool false,I 0, .slice none 0 0, .slice none 0 0]∧((chain l k).take i).findSome? (fun c=>V4 l c n)=none) ⟨σ5,J,O,ai,rfl⟩ fun i w6 d hi C=>?_
  obtain ⟨σ6,L,ar,aj,y⟩:=C
  refine Y9 ?_
  refine Q7 (fun hh=>?_) (fun hh=>?_)
  ·have a:i<(chain l k).length:=by simpa using hh
   refine M7 (R.lift ar) a fun p cells V z Z=>?_
   refine Y4 L.sat V z ?_
   refine Y8 L.sat (by rfl) z (Rep.one Z) fun q w7 σ7 j a5=>?_
   refine Y4 j.sat a5 z ?_
   have Q:=L.trans j
   have a8:=X0u (List.getElem_mem a)
   refine X32 ok _ (Nat.lt_succ_self _) a8 j.sat (ht.lift ⟨Q.le⟩) (Rep.up j.le Z) fun pv cv hv w8 σ8 u B=>?_
   refine J6 (vs:=[_,_,_]) rfl ?_
   refine J6 (vs:=[_,_,_]) rfl ?_
   refine J6 (vs:=[_,_,_]) rfl ?_
   refine Y8 u.sat (by rfl) rfl (Rep.one B) fun q9 w9 σ9 N ah=>?_
   have W:=(Q.trans u).trans N
   have av:=((aj.step j).step u).step N
   have X:=RMe_lift B ⟨N.le⟩
   cases D:V4 l (chain l k)[i] n with
   | some r=>
    obtain ⟨s,m⟩:=r
    rw[D] at X ah
    (try simp only[D])
    refine Z9 ?_
    refine U0 W.sat ?_
    refine H4 (fun v _=>v= .agg [S m.name,pv,S m.result, .bool m.abs,I m.locals,cv,hv].toArray) (fun _ _ _ h _=>h) (fun w E=>Y4 E.sat ah rfl ⟨Below.refl _ _,rfl⟩) ?_
    rintro _ an U rfl
    refine G7 (av.step U.stp) (W.trans U.stp) E rfl rfl (Rep.one X) fun bb ax a1=>?_
    refine V1 a1 rfl ?_
    have:=Xp (f:=fun c=>V4 l c n) a y D
    unfold V4 at this
    rw[this] at h
    exact h _ _ _ bb σ9 ax.stp X
   | none=>
    (try simp only[D])
    refine Z4 ?_
    refine N0 ?_
    refine Y5 (by have:=ok.len;omega) a ⟨σ9,W,ar.more ⟨fun b o e=>N.le _ _ (u.le _ _ (j.le _ _ e))⟩,av,?_⟩
    rw[Ya a y];exact D
  ·have a: ¬i<(chain l k).length:=by simpa using hh
   rw[List.take_of_length_le (by omega)] at y
   refine Fs ?_
   refine G7 aj L E rfl rfl (Rep.one (Qv (σ:=σ6))) fun w7 Q a6=>?_
   refine V1 a6 rfl ?_
   unfold V4 at y
   rw[y] at h
   exact h _ _ _ w7 σ6 Q.stp Qv)
theorem Q4q {n:X0} (hs:X3 w σ) (ht:Tab σ v l) (h: ∀w' σ',Stp w σ w' σ'→K (.bool (A9 l n)) w'):Q1 P F.aE [v,S n] w K:=Bo (by
 unfold Vw
 unfold A9 at h
 cases hd:lk l n with
 | none=>
  rw[hd] at h
  (repeat' (first | (with_reducible intro _) | (with_reducible refine U6 ?_) | (simp only[↓M2,M2,Mb,reduceIte]) | (with_reducible first | refine ld aS aL aR ?_ | refine X7 aS aL aR ?_ | refine Y4 aS aL aR ?_ | refine Q8 aL ?_ | refine J0 aR ?_ | refine Z0 aS ?_ | refine N2 aS aL ?_ | refine U5 aS aR ?_ | refine Y8 aS aR aR (Rep.one (by assumption)) ?_ | refine U7 aS aR aR aR ?_ | refine Q0H au au au ?_ | (refine Z8 (fun hh=>?_) (fun hh=>?_)<;>(try simp only[hh,Bool.not_true,Bool.not_false,↓M2,M2,Mb,reduceIte])) | (refine Q7 (fun hh=>?_) (fun hh=>?_)<;>(try simp only[hh,Bool.not_true,Bool.not_false,↓M2,M2,Mb,reduceIte])))))
  all_goals exact aF
 | some d=>
  rw[hd] at h
  (repeat' (first | (with_reducible intro _) | (with_reducible refine U6 ?_) | (simp only[↓M2,M2,Mb,reduceIte]) | (with_reducible first | refine ld aS aL aR ?_ | refine X7 aS aL aR ?_ | refine Y4 aS aL aR ?_ | refine Q8 aL ?_ | refine J0 aR ?_ | refine Z0 aS ?_ | refine N2 aS aL ?_ | refine U5 aS aR ?_ | refine Y8 aS aR aR (Rep.one (by assumption)) ?_ | refine U7 aS aR aR aR ?_ | refine Sp au au au ?_ | refine Zk au au au ?_ | (refine Z8 (fun hh=>?_) (fun hh=>?_)<;>(try simp only[hh,Bool.not_true,Bool.not_false,↓M2,M2,Mb,reduceIte])) | (refine Q7 (fun hh=>?_) (fun hh=>?_)<;>(try simp only[hh,Bool.not_true,Bool.not_false,↓M2,M2,Mb,reduceIte])))))
  all_goals exact aF)
end Go.Proofs.YtjdiakhipmggjaaGreatDoor

namespace Go.Kd
def brk (b:UInt8):Bool:=[(91:UInt8),93].contains b
def Q1v:Nat→X0→X0
 | 0,s=>s
 | n+1,s=>match s.getLast? with
  | some b=>if brk b then Q1v n (s.take (s.length-1)) else s
  | none=>s
def Hg (s:X0):X0:=Q1v s.length s
theorem Q8r: ∀(n m:Nat) (s:X0),s.length≤n→s.length≤m→Q1v n s=Q1v m s:=by
 intro n
 induction n with
 | zero=>
  intro m s h _
  have:s=[]:=List.eq_nil_of_length_eq_zero (by omega)
  subst this
  cases m<;>rfl
 | succ n a=>
  intro m s h c
  cases m with
  | zero=>
   have:s=[]:=List.eq_nil_of_length_eq_zero (by omega)
   subst this;rfl
  | succ m=>
   simp only[Q1v]
   cases d:s.getLast? with
   | none=>rfl
   | some b=>
    simp only
    split
    ·exact a m _ (by rw[List.length_take];omega) (by rw[List.length_take];omega)
    ·rfl
theorem Q1E (s:X0):Hg s=match s.getLast? with | some b=>if brk b then Hg (s.take (s.length-1)) else s | none=>s:=by
 unfold Hg
 cases d:s with
 | nil=>rfl
 | cons c r=>
  rw[←d]
  obtain ⟨n,e⟩: ∃n,s.length=n+1:=⟨r.length,by rw[d];rfl⟩
  have a:s.length-1=n:=by omega
  rw[e]
  simp only[Q1v,a]
  cases f:s.getLast? with
  | none=>rfl
  | some b=>
   simp only
   split
   ·rw[show n+1-1=n by omega];exact Q8r n (s.take n).length _ (by rw[List.length_take];omega) (Nat.le_refl _)
   ·rfl
theorem Q9Q {s:X0} (h:name s=true): ∃b,s.getLast?=some b∧C1 b.toNat=true:=by
 cases s with
 | nil=>simp[name] at h
 | cons c r=>
  refine ⟨(c::r).getLast (by simp),List.getLast?_eq_some_getLast (by simp),?_⟩
  simp only[name,Bool.and_eq_true,List.all_eq_true] at h
  exact h.2 _ (List.getLast_mem _)
theorem Q9r {b:UInt8} (h:C1 b.toNat=true):brk b=false:=by
 have c:b≠91:=by rintro rfl;revert h;decide
 have a:b≠93:=by rintro rfl;revert h;decide
 simp[brk,c,a]
theorem Mw {s:X0} (h:(plain s||M6 s)=true):name s=true:=by
 simp only[Bool.or_eq_true] at h
 rcases h with h | h
 ·simp only[plain,Bool.or_eq_true,decide_eq_true_eq] at h
  rcases h with (h | h) | h<;>subst h<;>decide
 ·cases s with
  | nil=>simp[M6] at h
  | cons c r=>simp only[M6,Bool.and_eq_true] at h;exact h.1
end Go.Kd
namespace Go.Proofs.YtjdiakhipmggjaaGreatDoor
open Go.Emb Go.RowKit Go.Kd Go.Hm
variable {w : World} {K : Value → World → Prop} {σ : Q6} {v : Value} {l : List Cla}
theorem X0Y {s:X0} (h:arr s=true):Hg s=Hg (Kd.cutA s):=by
 have d:2≤s.length∧s.drop (s.length-2)=[91,93]:=by simpa [arr] using h
 obtain ⟨g,e⟩:=d
 have a:s=Kd.cutA s++[91,93]:=by unfold Kd.cutA;rw[←e,List.take_append_drop]
 have i:(Kd.cutA s).length+2=s.length:=by unfold Kd.cutA;rw[List.length_take];omega
 have c:s.getLast?=some 93:=by rw[a];simp
 have f:s.take (s.length-1)=Kd.cutA s++[91]:=by
  conv=>lhs;rw[a]
  rw[List.take_append,List.length_append]
  simp
  exact List.take_of_length_le (by omega)
 rw[Q1E s,c]
 simp only[show brk 93=true from rfl,if_true,f]
 rw[Q1E]
 have b:(Kd.cutA s++[91]).getLast?=some 91:=by simp
 rw[b]
 simp only[show brk 91=true from rfl,if_true]
 congr 1
 simp
theorem Q9E {s:X0}:(plain (base s).1||M6 (base s).1)=true→Hg s=(base s).1:=by
 have key: ∀(n:Nat) (s:X0),s.length≤n→(plain (base s).1||M6 (base s).1)=true→Hg s=(base s).1:=by
  intro n
  induction n with
  | zero=>
   intro s h a
   have:s=[]:=List.eq_nil_of_length_eq_zero (by omega)
   subst this;rfl
  | succ n g=>
   intro s h a
   by_cases c:arr s=true
   ·have d:base s=((base (Kd.cutA s)).1,(base (Kd.cutA s)).2+1):=by rw[Xo s,c];simp
    rw[d] at a⊢
    rw[X0Y c]
    exact g _ (by have:=K7 c;omega) a
   ·have d:base s=(s,0):=by rw[Xo s,eq_false_of_ne_true c];simp
    rw[d] at a⊢
    obtain ⟨b,f,e⟩:=Q9Q (Mw a)
    rw[Q1E,f]
    simp[Q9r e]
 exact key _ s (Nat.le_refl _)
instance z_asciiSet:TZ P T.ab 256 256 (.agg (Array.replicate 256 (.bool false))):=⟨by kernel_rfl⟩
theorem Q6R (h: ∀w',Below w.heap.size w w'→K (.tuple #[.agg (Lib.setCells [91,93]), .bool true]) w'):Q1 P F.ci [S [91,93]] w K:=by
 refine Ww (fn:=Tryz.f157) Tryz.func157 (by kernel_rfl) (by kernel_rfl) (Calls.mono (Tryz.strings_makeASCIISet (fun w=>Zn z_asciiSet w) ⟨[91,93].toArray⟩ w (by decide) (by
  intro j b a
  have:b∈[(91:UInt8),93]:=List.mem_of_getElem? a
  simp at this;rcases this with rfl | rfl<;>decide)) ?_)
 rintro e w' ⟨rfl,rfl⟩
 exact h _ ((Below.refl _ _).alloc (Nat.le_refl _) _)
theorem Q3w {q:Addr} {b:UInt8} (c:X3 w σ) (a:Z5 σ q (Lib.setCells [91,93]).toList) (h:K (.bool (brk b)) w):Q1 P F.az [.pointer (some q), .int .u8 b.toNat] w K:=Oc (by
 unfold Xa
 rw[L8]
 have d:=b.toNat_lt
 rw[Q9A (by omega) (by omega)]
 refine ld c a ?_ h
 have:=Lib.setCells_at [91,93] b
 rw[←Array.getElem?_toList] at this
 simpa [brk] using this)
theorem Q2D {q:Addr} {s:X0} (n:X3 w σ) (m:s.length≤U1) (k:Z5 σ q (Lib.setCells [91,93]).toList) (h:K (S (Hg s)) w):Q1 P F.aq [S s, .pointer (some q)] w K:=Rx (by
 unfold Uo
 refine U6 ?_
 refine Wl (fun x w'=>w'=w∧ ∃u:X0,x=S u∧u.length≤U1∧Hg u=Hg s) (fun x _=>(sOf x).length) ⟨rfl,s,rfl,m,rfl⟩ ?_
 rintro _ d _ ⟨rfl,u,rfl,f,e⟩
 have g:sOf (S u)=u:=by simp[sOf]
 simp only[g]
 refine Gb X8 ?_
 refine Q1z ?_
 refine Q7 (fun hh=>?_) (fun hh=>?_)
 ·have j:0<u.length:=by simpa using hh
  have o:u.length≤9223372036854775807:=Nat.le_trans f (by decide)
  refine Gb X8 ?_
  refine Zp ⟨by omega,by omega⟩ ?_
  have i:((u.length:Int)-1).toNat=u.length-1:=by omega
  rw[Xw X8 (by omega) (by omega)]
  simp only[i]
  have b:u.getLast?=some (u[u.length-1]'(by omega)):=by rw[List.getLast?_eq_getElem?,List.getElem?_eq_getElem]
  have a:=Q1E u
  rw[b] at a
  simp only at a
  refine Q3w n k ?_
  cases c:brk (u[u.length-1]'(by omega)) with
  | true=>
   rw[c] at a
   simp only[↓M1,M1,Mb,reduceIte]
   rw[G1 (by omega) (by omega),T3 X8 (by omega) (by omega)]
   simp only[i]
   refine ⟨⟨trivial,_,rfl,by rw[List.length_take];omega,?_⟩,?_⟩
   ·rw[←e,a];simp
   ·have:sOf (S (u.take (u.length-1)))=u.take (u.length-1):=by simp[sOf]
    simp only[this,List.length_take];omega
  | false=>
   rw[c] at a
   simp only[↓M1,M1,Mb,reduceIte]
   intro _
   rw[←e,a] at h
   simpa using h
 ·have j: ¬0<u.length:=by simpa using hh
  have:u=[]:=List.eq_nil_of_length_eq_zero (by omega)
  subst this
  intro _
  rw[←e] at h
  exact h)
theorem Q6x {s:X0} (hs:X3 w σ) (hl:s.length≤U1) (h: ∀w' σ',Stp w σ w' σ'→K (S (Hg s)) w'):Q1 P F.bJ [S s,S [91,93]] w K:=Ar (by
 unfold Oi
 by_cases hs0:s=[]
 ·subst hs0
  (repeat' (first | (with_reducible intro _) | (with_reducible refine U6 ?_) | (simp only[↓M2,M2,Mb,reduceIte]) | (with_reducible first | refine ld aS aL aR ?_ | refine X7 aS aL aR ?_ | refine Y4 aS aL aR ?_ | refine Q8 aL ?_ | refine J0 aR ?_ | refine Z0 aS ?_ | refine N2 aS aL ?_ | refine U5 aS aR ?_ | refine Y8 aS aR aR (Rep.one (by assumption)) ?_ | refine U7 aS aR aR aR ?_ | (refine Z8 (fun hh=>?_) (fun hh=>?_)<;>(try simp only[hh,Bool.not_true,Bool.not_false,↓M2,M2,Mb,reduceIte])) | (refine Q7 (fun hh=>?_) (fun hh=>?_)<;>(try simp only[hh,Bool.not_true,Bool.not_false,↓M2,M2,Mb,reduceIte])))))
  all_goals first | exact h _ _ (by (repeat (first | exact Stp.refl (by (first | assumption | exact Stp.sat (by assumption) | exact Hst.sat (by assumption))) | assumption | refine Stp.trans ?_ (by first | assumption | exact Hst.stp (by assumption))))) | (exfalso;simp_all)
 have d1:decide (s=[])=false:=decide_eq_false hs0
 simp only[d1,show decide (([91,93]:X0)=[])=false from rfl,show decide ((([91,93]:X0).length:Int)=1)=false from rfl,↓M1,M1,Mb,reduceIte]
 refine Q6R (W8 hs fun w1 σ1 hk1=>?_)
 simp only[↓M1,M1,Mb,reduceIte]
 have hsz:(Lib.setCells [91,93]).toList.length=256:=by rw[Array.length_toList];exact Lib.setCells_size _
 have hone: ∀u∈(Lib.setCells [91,93]).toList,u.oneCell'=true:=by
  have:=Lib.setCells_one [91,93]
  rw[Array.all_eq_true'] at this
  intro u hu;exact this u (by simpa using hu)
 have htr: ∀{w:World} {σ:Q6} {K:Value→World→Prop} {q:Addr},X3 w σ→Z5 σ q (Lib.setCells [91,93]).toList→K (S (Hg s)) w→Q1 P F.aq [S s, .pointer (some q)] w K:=fun hs hq h=>Q2D hs hl hq h
 have hta:Lib.setCells [91,93]=(Lib.setCells [91,93]).toList.toArray:=Array.toArray_toList.symm
 generalize (Lib.setCells [91,93]).toList=cs at*
 rw[hta]
 refine Y8 hk1.sat (by show (Array.replicate 256 (Value.bool false)).size=256;exact Array.size_replicate) hsz hone fun q w2 σ2 hk2 hq=>?_
 refine htr hk2.sat hq ?_
 exact h _ _ (hk1.trans hk2))
theorem Q1a {s:X0} (hs:X3 w σ) (ht:Tab σ v l) (hl:s.length≤U1) (h: ∀w' σ',Stp w σ w' σ'→K (.bool (N1 l s)) w'):Q1 P F.t [v,S s] w K:=Ag (by
 unfold Dj
 unfold N1 at h
 refine P7 ?_
 refine Q7 (fun hh=>?_) (fun hh=>?_)
 ·have e:decide (s=H9)=true:=hh
  rw[e] at h
  exact h _ _ (Stp.refl hs)
 ·have e:decide (s=H9)=false:=hh
  rw[e] at h
  refine Q6x hs hl fun w1 σ1 hk1=>?_
  refine Zr s (Nat.le_trans hl (by decide)) (W8 hk1.sat fun w2 σ2 hk2=>?_)
  cases hr:right s with
  | false=>
   rw[hr] at h
   (repeat' (first | (with_reducible intro _) | (with_reducible refine U6 ?_) | (simp only[↓M2,M2,Mb,reduceIte]) | (with_reducible first | refine ld aS aL aR ?_ | refine X7 aS aL aR ?_ | refine Y4 aS aL aR ?_ | refine Q8 aL ?_ | refine J0 aR ?_ | refine Z0 aS ?_ | refine N2 aS aL ?_ | refine U5 aS aR ?_ | refine Y8 aS aR aR (Rep.one (by assumption)) ?_ | refine U7 aS aR aR aR ?_ | (refine Z8 (fun hh=>?_) (fun hh=>?_)<;>(try simp only[hh,Bool.not_true,Bool.not_false,↓M2,M2,Mb,reduceIte])) | (refine Q7 (fun hh=>?_) (fun hh=>?_)<;>(try simp only[hh,Bool.not_true,Bool.not_false,↓M2,M2,Mb,reduceIte])))))
   all_goals exact aF
  | true=>
   rw[hr] at h
   have hr2:(plain (base s).1||M6 (base s).1)=true:=by
    simp only[right,Bool.and_eq_true] at hr;exact hr.2
   rw[Q9E hr2]
   (repeat' (first | (with_reducible intro _) | (with_reducible refine U6 ?_) | (simp only[↓M2,M2,Mb,reduceIte]) | (with_reducible first | refine ld aS aL aR ?_ | refine X7 aS aL aR ?_ | refine Y4 aS aL aR ?_ | refine Q8 aL ?_ | refine J0 aR ?_ | refine Z0 aS ?_ | refine N2 aS aL ?_ | refine U5 aS aR ?_ | refine Y8 aS aR aR (Rep.one (by assumption)) ?_ | refine U7 aS aR aR aR ?_ | refine Rk _ ?_ | refine Q8L au au ?_ | (refine Z8 (fun hh=>?_) (fun hh=>?_)<;>(try simp only[hh,Bool.not_true,Bool.not_false,↓M2,M2,Mb,reduceIte])) | (refine Q7 (fun hh=>?_) (fun hh=>?_)<;>(try simp only[hh,Bool.not_true,Bool.not_false,↓M2,M2,Mb,reduceIte])))))
   all_goals exact aF)
end Go.Proofs.YtjdiakhipmggjaaGreatDoor

namespace Go.Emb
open Go.RowKit Go.Hm
variable {P : Program} {w w0 w1 w' w'' : World} {K : Value → World → Prop} {σ σ0 σ1 σ' : Q6}
theorem Q4b (m:List (List UInt8×Value)) (k n:List UInt8) (v:Value):B0 (Wp m k v) n=if k=n then some v else B0 m n:=by
 induction m with
 | nil=>simp[Wp,B0]
 | cons p r b=>
  simp only[Wp]
  by_cases h:p.1=k
  ·rw[if_pos h]
   simp only[B0]
   by_cases a:k=n
   ·simp[a]
   ·rw[if_neg a,if_neg a,if_neg (by rw[h];exact a)]
  ·rw[if_neg h]
   simp only[B0]
   by_cases a:p.1=n
   ·rw[if_pos a,if_pos a,if_neg (by intro e;exact h (a.trans e.symm))]
   ·rw[if_neg a,if_neg a];exact b
theorem J7.shift {B sz:Nat} {e:TypeId} {v:Value} {xs:List (List UInt8)} (h:J7 B e sz U8 σ w v xs) (m: ∀k,v.ownBlock=some k→σ' k=none):J7 B e sz U8 σ' w v xs:=by
 obtain ⟨a,j,rfl,t,q,c,o⟩:=h
 refine ⟨a,j,rfl,t,q,fun b d=>⟨(c b d).1,(c b d).2.1,(c b d).2.2.1,m _ (by subst d;rfl)⟩,fun p=>?_⟩
 obtain ⟨g,i,f,rfl,n,y,r,u,s⟩:=o p
 exact ⟨g,i,f,rfl,n,m g rfl,r,u,s⟩
theorem Kpt.sat {D:Nat→Prop} (a:X3 w σ) (c:Kpt D w w') (d: ∀k,D k→σ k=none):X3 w' σ:=fun b o e=>by
 rw[c.block b (a.lt e) fun h=>by rw[d b h] at e;cases e];exact a b o e
theorem Nxt.kpt {D D':Nat→Prop} (h:Nxt D w σ w' σ') (a:Kpt D' w' w'') (b: ∀k,D' k→D k) (c: ∀k,D' k→σ' k=none):Nxt D w σ w'' σ':=
 ⟨h.kp.trans (a.mono fun k _ h=>b k h),h.le,h.old,a.sat h.sat c⟩
theorem X3e {t W:TypeId} {e:TypeId} {r:Nat} {z:Value} {cs:List Bool} [ts:TS P t e] [tz:TZ P e 1 r z] {B:Nat} {A:World} {g σ':Q6} {d u:Value} {xs:List (List UInt8)} {s:List UInt8}
 (C:J7 B e 1 U8 g A d xs) (hB:B≤A.heap.size) (V:J7 B e 1 U8 g w1 d xs) (y:Nxt (fun k=>d.ownBlock=some k) A g w1 σ') (L:Sl 1 U8 σ' u [s]) (U:(z.cells.size==1&&decide (0<1))=true)
 (j:(xs.length+1)*r≤140737488355328) (X:xs.length+1≤1000000000000):
 X2 P .append [t,t] W cs [d,u] w1 (dk (Fz B e 1 U8 g d xs s) (VQa A.heap.size B e 1 U8 g d xs s) w1):=by
 have q: ∀k,d.ownBlock=some k→σ' k=none:=fun k c=>(y.old k (C.mem c).2.1).trans (C.mem c).2.2
 refine Q8F y.sat (Nat.le_trans hB y.kp.size) (V.shift q) L U (by simpa using j) (by simpa using X) fun N M D O n i=>?_
 have b:J7 B e 1 U8 g M N (xs++[s]):=n.shift fun k c=>by
  have:=(n.mem c).2.2
  cases hh:g k with
  | none=>rfl
  | some o=>rw[y.le.le _ _ hh] at this;cases this
 refine ⟨⟨D.mono fun k _ h=>h.1,fun h=>?_,fun a f H h=>?_⟩,b,?_⟩
 ·rcases i with ⟨a,f,m,p⟩ | ⟨j,_⟩
  ·rw[p] at b;rw[m];exact b.pre rfl
  ·exact h.below j
 ·rcases i with ⟨Y,E,m,p⟩ | ⟨j,_⟩
  ·rw[m] at H;injection H with J q2 R
   subst J R
   rw[p] at b;exact b
  ·exact h.below j
 ·rcases i with ⟨a,f,m,p⟩ | ⟨j,Q⟩
  ·exact .inl ⟨a,f,m,p⟩
  ·exact .inr ⟨fun k c=>Nat.le_trans y.kp.size (Q k c),fun k c=>(C.mem c).2.1⟩
end Go.Emb
namespace Go.Hm
open Go.Kd
def Mv (l:List Cla) (n:X0):List Cla:=(G2 l n).filterMap (lk l)
theorem Q6s {l:List Cla} (h: ∀c∈l,Qj c) (a:List X0):weigh l a≤l.length*1000001:=by
 unfold weigh
 induction l with
 | nil=>simp
 | cons c r d=>
  have g:=d fun c b=>h c (by simp[b])
  have e:=(h c (by simp)).1
  simp only[List.map_cons,List.sum_cons,List.length_cons,Nat.add_mul]
  have f:(U3 c).length=c.like.length+1:=rfl
  split<;>omega
end Go.Hm
namespace Go.Proofs.YtjdiakhipmggjaaGreatDoor
open Go.Emb Go.RowKit Go.Kd Go.Hm
variable {w : World} {K : Value → World → Prop} {σ : Q6} {v : Value} {l : List Cla}
theorem Q7i {β:Type} {n:X0} {f:Value} (J:β→Cla→Bool×β) (s0:β) (N:β→World→Prop) (D:Nat→Prop) (hs:X3 w σ) (ht:Tab σ v l) (hl:l.length≤100000) (bj: ∀c∈l,Qj c) (hn:n.length≤U1)
 (hD: ∀k,D k→k<w.heap.size∧σ k=none) (ak: ∀s w1 w2,N s w1→(∀k,D k→w2.heap[k]? =w1.heap[k]?)→N s w2) (h0:N s0 w)
 (hf: ∀s c cs (w1:World) (σ1:Q6) (K:Value→World→Prop),SLe σ σ1→X3 w1 σ1→(∀k,D k→σ1 k=none)→N s w1→V0 σ1 c cs→lk l c.name=some c→(∀w',Kpt D w1 w'→N (J s c).2 w'→K (.bool (J s c).1) w')→Z3 P f [.agg cs.toArray] w1 K)
 (h: ∀w' σ',Nxt D w σ w' σ'→N (J5 J s0 (Mv l n) 0).2 w'→K (.bool (J5 J s0 (Mv l n) 0).1.isSome) w'):Q1 P F.x [v,S n,f] w K:=Ig (by
 unfold Ng
 refine Zh (R:=U8) (sz:=1) (xs:=[n]) (Stp.refl hs) [S n] rfl rfl (by simp;rfl) rfl ⟨⟨rfl,hn⟩,trivial⟩ fun x0 w1 ay bl _=>?_
 refine Q2Z ay.sat fun r w2 hr aa cc=>?_
 have b5:=J7.of_acc (bl.up aa)
 have bp:=ay.trans aa
 have bm:w.heap.size≤r:=Nat.le_trans ay.bel.size hr
 have bs: ∀b,weigh l b≤100001000000:=fun b=>by
  have:=Q6s bj b
  have h2:l.length*1000001≤100000*1000001:=Nat.mul_le_mul_right _ hl
  omega
 refine Pd (fun d x w1=> ∃(C b:List X0) (s:β) (σ1:Q6) (m:List (X0×Value)),d=C.length+weigh l b∧d≤1+weigh l []∧Nxt D w σ w1 σ1∧J7 w.heap.size T.c 1 U8 σ1 w1 x C∧B1 σ1 w1 r m∧(∀k,(B0 m k).isSome=decide (k∈b))∧x.ownBlock≠some r∧N s w1∧
  G2 l n=Va (lk l) d C b∧(∃i,J5 J s0 (Mv l n) 0=J5 J s (((G2 l n).drop b.length).filterMap (lk l)) i)) (1+weigh l []) ?_ ?_
 ·refine ⟨[n],[],s0,σ,[],by simp,Nat.le_refl _,Nxt.of_stp bp,b5,cc,by simp[B0],?_,ak _ _ _ h0 fun k o=>bp.bel.block k (hD k o).1,rfl,0,by simp[Mv]⟩
  intro e
  have:=bl.mem r e
  omega
 rintro a0 d x dd w3 ⟨C,b,s,σ3,m,hd,de,A,a2,ab,O,cj,aq,hv,i,y⟩ be
 have ct:=bs []
 have a6:=A.sat
 obtain ⟨aw,B⟩:=Q1K (lk l) d C b
 rw[←hv] at B
 have ad:(G2 l n).drop b.length=aw:=by rw[B];simp
 rw[ad] at y
 refine Q1t a2 ?_
 refine Q1z ?_
 cases af:C with
 | nil=>
  subst af
  refine Q7 (fun hh=>absurd (of_decide_eq_true hh) (by simp)) (fun _=>?_)
  have:G2 l n=b:=by rw[hv];cases d<;>rfl
  have hp:aw=[]:=by rw[this] at B;simpa using B
  rw[hp] at y
  rw[y] at h
  exact h _ _ A aq
 | cons t g=>
  subst af
  refine Q7 (fun _=>?_) (fun hh=>absurd (of_decide_eq_false hh) (by simp))
  simp only[List.length_cons] at hd
  refine Q5p (n:=0) a2 (by simp) fun a cs h1 h2 h3=>?_
  obtain ⟨rfl,cd⟩:=h3
  simp only[List.getElem_cons_zero] at h1 cd
  have Z:=h1 0 _ rfl
  rw[add_zero] at Z
  refine Qf Z ?_
  refine X41 a2 1 (by simp) fun x' Y b0=>?_
  simp only[List.drop_succ_cons,List.drop_zero] at Y
  have L:x'.ownBlock≠some r:=by
   rcases b0 with e | e<;>rw[e]
   ·exact cj
   ·simp
  rw[Q2u X8 ab.2 t]
  have ca:d=(g.length+weigh l b)+1:=by omega
  have p:=hv
  rw[ca] at p
  simp only[Va] at p
  have skip:(lk l t=none∨t∈b)→G2 l n=Va (lk l) (g.length+weigh l b) g b:=by
   rintro (e | e)
   ·rw[e] at p;exact p
   ·cases e2:lk l t with
    | none=>rw[e2] at p;exact p
    | some c=>rw[e2] at p;simp only[if_pos e] at p;exact p
  have ae:(lk l t=none∨t∈b)→a0 x' w3:=fun b6=>
   be (g.length+weigh l b) x' w3 (by omega) ⟨g,b,s,σ3,m,rfl,by omega,A,Y,ab,O,L,aq,skip b6,i,by rw[ad];exact y⟩
  have ar:=ht.lift A.le
  have U:=O t
  cases b1:B0 m t with
  | some u=>
   rw[b1] at U
   have ai:t∈b:=by simpa using U
   simp only[↓M2,M2,Mb,reduceIte]
   exact ae (.inr ai)
  | none=>
   rw[b1] at U
   have ai:t∉b:=by simpa using U
   simp only[↓M2,M2,Mb,reduceIte]
   cases H:lk l t with
   | none=>
    refine Q0H a6 ar H ?_
    simp only[↓M2,M2,Mb,reduceIte]
    exact ae (.inl H)
   | some c=>
    obtain ⟨a5,bx,_⟩:=V3 H
    refine Sp a6 ar H ?_
    simp only[↓M2,M2,Mb,reduceIte]
    refine Ii X8 ab t (I 1) fun w4 bh cn=>?_
    have X:Kpt (fun k=>k=r) w3 w4:=Kpt.of_upd bh rfl
    have b4:X3 w4 σ3:=X.sat a6 fun k o=>by rw[o];exact ab.1
    have bk:=Y.kp X fun k o e=>L (e▸o)
    have ck:=ak _ _ _ aq fun k o=>bh.block k (by have:=(hD k o).1;omega)
    have dg:r<w3.heap.size:=ab.lt
    refine Zk b4 ar H fun lv fv mv w5 σ5 bn f1 f2 f3 f4 f5 bw=>?_
    refine Y8 bn.sat (by rfl) rfl (Rep.one bw) fun q w6 M V a7=>?_
    refine Y4 V.sat a7 rfl ?_
    have z:=bn.trans V
    have bu: ∀k,D k→k<w4.heap.size:=fun k o=>by
     have h1:=(hD k o).1
     have h2:=A.kp.size
     have h3:=X.size
     omega
    have b3:=ak _ _ _ ck fun k o=>z.bel.block k (bu k o)
    have a3:SLe σ M:=A.le.more ⟨z.le⟩
    have bv: ∀k,D k→M k=none:=fun k o=>by
     rw[z.old k (bu k o),A.old k (hD k o).1];exact (hD k o).2
    refine hf s c _ w6 M _ a3 V.sat bv b3 (RCl_lift bw ⟨V.le⟩) (by rw[a5];exact H) fun w7 an bb=>?_
    have bo:X3 w7 M:=an.sat V.sat bv
    have al:Nxt D w σ w7 M:=⟨((A.kp.more X fun j e=>by rw[e];exact bm).trans (Kpt.of_below z.bel)).trans an,a3,fun k o=>by
     rw[z.old k (by have:=A.kp.size;have:=X.size;omega)];exact A.old k o,bo⟩
    have ap: ∀k,w.heap.size≤k→ ¬D k:=fun k o e=>by have:=(hD k e).1;omega
    have W:=(bk.up z).kp an fun k o=>ap k ((bk.mem o).1)
    have bf:=(cn.up z).kp an (ap r bm)
    have bg: ∀k,(B0 (Wp m t (I 1)) k).isSome=decide (k∈b++[t]):=fun k=>by
     rw[Q4b]
     by_cases e:t=k
     ·subst e;simp
     ·rw[if_neg e,O k];simp[Ne.symm e]
    rw[H] at p
    simp only[if_neg ai] at p
    obtain ⟨bq,av⟩:=Q1K (lk l) (g.length+weigh l b) (g++U3 c) (b++[t])
    have bd:aw=t::bq:=by
     have:=B.symm.trans (p.trans av)
     simpa using this
    rw[bd] at y
    simp only[List.filterMap_cons,H,J5] at y
    cases E:(J s c).1 with
    | true=>
     rw[E] at y
     simp only[if_true] at y
     refine Z9 ?_
     have:=h w7 M al
     rw[y] at this
     exact this bb
    | false=>
     rw[E] at y
     simp only[Bool.false_eq_true,if_false] at y
     refine Z4 ?_
     have ao:w.heap.size≤w7.heap.size:=al.kp.size
     have ac: ∀k,x'.ownBlock=some k→M k=none:=fun k o=>(W.mem o).2.2
     have hw:=Ka l b c bx (by rw[a5];exact ai)
     rw[a5] at hw
     have c5:=bs b
     have cq:g.length≤100001000001:=by omega
     have ce:=(bj c bx).1
     have cv:=bf.lt
     refine Kf (Fz w.heap.size T.c 1 U8 M x' g c.super) (fun w1=>Kpt (fun k=>x'.ownBlock=some k) w7 w1∧X3 w1 M∧J7 w.heap.size T.c 1 U8 M w1 x' g)
      ⟨.of_below (Below.refl _ _).drew,bo.below (Below.refl _ _).drew,W.below (Below.refl _ _).drew⟩ (fun w1 w2 E ht=>⟨E.1.trans ht.1,ht.1.sat E.2.1 ac,ht.2.1 E.2.2⟩) ?_
     refine X4 (.pointer (some (q.add 1))) (fun w E=>by rw[fa];exact ⟨Fz.refl,rfl⟩) ?_
     refine X4 (.pointer (some (q.add 2))) (fun w E=>by rw[fa];exact ⟨Fz.refl,rfl⟩) ?_
     refine X4 (S c.super) (fun t w E e=>by rw[e];exact ld E.2.1 a7 rfl ⟨Fz.refl,rfl⟩) ?_
     refine H4 (fun u w1=> ∃σ',Nxt (fun k=>x'.ownBlock=some k) w7 M w1 σ'∧Sl 1 U8 σ' u [c.super]) (fun u w1 w2 e ht=>by obtain ⟨σ',h1,h2⟩:=e;exact ⟨σ',h1.kpt ht.1 (fun _ o=>o) (fun k o=>(h1.old k (W.mem o).2.1).trans (ac k o)),h2⟩) (fun t w1 E e=>?_) ?_
     ·rw[e]
      refine T5 (R:=U8) (sz:=1) E.2.1 [S c.super] [c.super] rfl rfl (by simp;rfl) rfl ⟨⟨rfl,f5⟩,trivial⟩ fun u w2 σ2 aa hu=>?_
      have cl:Nxt (fun k=>x'.ownBlock=some k) w7 M w1 M:=⟨E.1,SLe.refl _,fun _ _=>rfl,E.2.1⟩
      exact ⟨Fz.below aa.bel,σ2,cl.trans (Nxt.of_stp aa),hu⟩
     refine H4 (VQa w7.heap.size w.heap.size T.c 1 U8 M x' g c.super) (fun _ _ _ h1 ht=>h1.stable ht) (fun u w1 E e=>?_) ?_
     ·obtain ⟨σ',h1,h2⟩:=e
      exact X3e W ao E.2.2 h1 h2 rfl (by omega) (by omega)
     refine X4 lv (fun t w E e=>by rw[e];exact ld E.2.1 a7 rfl ⟨Fz.refl,rfl⟩) ?_
     rintro c4 c3 c1 cz cf c9 w8 Q _ _ _ _ ⟨ci,bc⟩ rfl
     have a4:cf.ownBlock≠some r:=by
      rcases bc with ⟨a,cm,e1,e2⟩ | ⟨e1,_⟩
      ·rw[e2];rw[e1] at L;cases a<;>exact L
      ·intro e;have:=e1 r e;omega
     refine Q8F Q.2.1 (Nat.le_trans ao Q.1.size) ci (f1.up V) rfl (by rw[List.length_append,List.length_cons,List.length_nil];omega) (by rw[List.length_append,List.length_cons,List.length_nil];omega) fun bi w9 a1 b7 ch bz=>?_
     have cp:bi.ownBlock≠some r:=by
      rcases bz with ⟨a,cm,e1,e2⟩ | ⟨_,e1⟩
      ·rw[e2];rw[e1] at a4;cases a<;>exact a4
      ·intro e;have:=e1 r e;have:=Q.1.size;omega
     have cg:Nxt D w σ w9 M:=⟨(al.kp.more Q.1 fun j e=>(W.mem e).1).more a1 fun j e=>e.2.1,a3,al.old,b7⟩
     have b8:=(bf.kp Q.1 L).kp a1 fun e=>a4 e.1
     have cr:=ak _ w7 w9 bb fun k o=>by
      have h1:=(hD k o).1
      rw[a1.block k (by have:=Q.1.size;omega) fun e=>by have:=e.2.1;omega,Q.1.block k (by omega) fun e=>by have:=(W.mem e).1;omega]
     have cy:(g++U3 c).length=g.length+1+c.like.length:=by simp[U3];omega
     have cx:(U3 c).length=c.like.length+1:=rfl
     have az:Va (lk l) (g.length+weigh l b) (g++U3 c) (b++[t])=Va (lk l) ((g++U3 c).length+weigh l (b++[t])) (g++U3 c) (b++[t]):=by
      have:=X0V l ((g++U3 c).length+weigh l (b++[t])) (g++U3 c) (b++[t]) (Nat.le_refl _) (g.length+weigh l b-((g++U3 c).length+weigh l (b++[t])))
      rw[←this];congr 1;omega
     refine be ((g++U3 c).length+weigh l (b++[t])) bi w9 (by omega) ⟨g++U3 c,b++[t],(J s c).2,M,_,rfl,by omega,cg,?_,b8,bg,cp,cr,p.trans az,i+1,?_⟩
     ·have:g++U3 c=(g++[c.super])++c.like:=by simp[U3]
      rw[this];exact ch
     ·rw[y,B,bd];simp)
end Go.Proofs.YtjdiakhipmggjaaGreatDoor

namespace Go.Emb
open Go.RowKit Go.Hm
theorem Nxt.stp {w w':World} {σ a:Q6} (h:Nxt (fun _=>False) w σ w' a):Stp w σ w' a:=⟨h.kp.below fun _=>id,h.sat,h.le.le,h.old⟩
end Go.Emb
namespace Go.Hm
open Go.Kd Go.Emb
theorem Q4r {α:Type} (p:α→Bool): ∀(xs:List α) (i:Nat),(J5 (fun (_:Unit) x=>(p x,())) () xs i).1.isSome=xs.any p
 | [],_=>rfl
 | x::r,i=>by
  simp only[J5,List.any_cons]
  cases p x with
  | true=>simp
  | false=>simpa using Q4r p r (i+1)
theorem Q61 {l:List Cla} (n b:X0):((Mv l n).any fun c=>decide (c.name=b))=(G2 l n).contains b:=by
 have key: ∀vs:List X0,(∀x∈vs,∃c,lk l x=some c)→((vs.filterMap (lk l)).any fun c=>decide (c.name=b))=vs.contains b:=by
  intro vs
  induction vs with
  | nil=>intro _;rfl
  | cons x r f=>
   intro h
   obtain ⟨c,a⟩:=h x (by simp)
   rw[List.filterMap_cons,a]
   simp only[List.any_cons,List.contains_cons]
   rw[f fun y e=>h y (by simp[e]),(V3 a).1]
   congr 1
   rw[Bool.eq_iff_iff,beq_iff_eq,decide_eq_true_eq];exact ⟨Eq.symm,Eq.symm⟩
 exact key _ fun x d=>(Ut.1 d).right
end Go.Hm
namespace Go.Proofs.YtjdiakhipmggjaaGreatDoor
open Go.Emb Go.RowKit Go.Kd Go.Hm
variable {w : World} {K : Value → World → Prop} {σ : Q6} {v : Value} {l : List Cla}
theorem Q7v {n:X0} {f:Value} (p:Cla→Bool) (hs:X3 w σ) (ht:Tab σ v l) (hl:l.length≤100000) (hsm: ∀c∈l,Qj c) (hn:n.length≤U1)
 (hf: ∀c cs (w1:World) (σ1:Q6) (K:Value→World→Prop),SLe σ σ1→X3 w1 σ1→V0 σ1 c cs→(∀w' σ',Stp w1 σ1 w' σ'→K (.bool (p c)) w')→Z3 P f [.agg cs.toArray] w1 K)
 (h: ∀w' σ',Stp w σ w' σ'→K (.bool ((Mv l n).any p)) w'):Q1 P F.x [v,S n,f] w K:=by
 refine Q7i (fun (_:Unit) c=>(p c,())) () (fun _ _=>True) (fun _=>False) hs ht hl hsm hn (fun _ e=>e.elim) (fun _ _ _ _ _=>trivial) trivial (fun s c cs w1 σ1 K le hs1 _ _ hr _ hK=>hf c cs w1 σ1 K le hs1 hr fun w' σ' hk=>hK w' (.of_below hk.bel) trivial) fun w' σ' hn _=>?_
 rw[Q4r]
 exact h w' σ' hn.stp
theorem X0v {n b:X0} {q:Addr} (hs:X3 w σ) (ht:Tab σ v l) (ok:Ok l) (hn:n.length≤U1) (hq:Z5 σ q [S b]) (h: ∀w' σ',Stp w σ w' σ'→K (.bool ((G2 l n).contains b)) w'):
 Q1 P F.x [v,S n, .func (.func F.br) #[] #[.pointer (some q)]] w K:=by
 refine Q7v (fun c=>decide (c.name=b)) hs ht ok.len ok.sm hn (fun c cs w1 σ1 K le hs1 hr hK=>Z7 (Kq ?_)) (by rw[Q61];exact h)
 obtain ⟨lv,fv,mv,rfl,_⟩:=hr
 unfold Mi
 have hq1:=hq.lift le
 refine Z0 hs1 fun a w2 σ2 hk2 ha2=>?_
 (repeat' (first | (with_reducible intro _) | (with_reducible refine U6 ?_) | (simp only[↓M2,M2,Mb,reduceIte]) | (with_reducible first | refine ld aS aL aR ?_ | refine X7 aS aL aR ?_ | refine Y4 aS aL aR ?_ | refine Q8 aL ?_ | refine J0 aR ?_ | refine Z0 aS ?_ | refine N2 aS aL ?_ | refine U5 aS aR ?_ | refine Y8 aS aR aR (Rep.one (by assumption)) ?_ | refine U7 aS aR aR aR ?_ | (refine Z8 (fun hh=>?_) (fun hh=>?_)<;>(try simp only[hh,Bool.not_true,Bool.not_false,↓M2,M2,Mb,reduceIte])) | (refine Q7 (fun hh=>?_) (fun hh=>?_)<;>(try simp only[hh,Bool.not_true,Bool.not_false,↓M2,M2,Mb,reduceIte])))))
 exact hK _ _ hk2
theorem X3E {a b:X0} (H:X3 w σ) (s:Tab σ v l) (ok:Ok l) (r:a.length≤U1) (D:b.length≤U1) (h: ∀w' E,Stp w σ w' E→K (.bool (Xr l a b)) w'):Q1 P F.bT [v,S a,S b] w K:=Q14 (by
 unfold Es
 unfold Xr at h
 refine U5 H rfl fun q w1 σ1 m z=>?_
 refine Q1a m.sat (s.lift ⟨m.le⟩) r fun L U e=>?_
 have i:=m.trans e
 cases y:N1 l a with
 | false=>
  simp only[y,↓M2,M2,Mb,reduceIte,Bool.not_false,Bool.true_or,if_true] at h⊢
  exact h _ _ i
 | true=>
  simp only[y,↓M2,M2,Mb,reduceIte,Bool.not_true,Bool.false_or] at h⊢
  refine X7 e.sat (z.up e) rfl ?_
  refine Q1a e.sat (s.lift ⟨i.le⟩) D fun N R d=>?_
  have c:=i.trans d
  cases A:N1 l b with
  | false=>
   simp only[A,↓M2,M2,Mb,reduceIte,Bool.not_false,if_true] at h⊢
   exact h _ _ c
  | true=>
   simp only[A,↓M2,M2,Mb,reduceIte,Bool.not_true,Bool.false_eq_true,if_false] at h⊢
   have j:=(z.up e).up d
   refine X7 d.sat j rfl ?_
   refine P7 ?_
   by_cases f:a=b
   ·rw[if_pos f] at h
    simp only[decide_eq_true f,↓M2,M2,Mb,reduceIte]
    exact h _ _ c
   rw[if_neg f] at h
   simp only[decide_eq_false f,↓M2,M2,Mb,reduceIte]
   refine Rk a ?_
   cases B:plain a with
   | true=>
    simp only[B,↓M2,M2,Mb,reduceIte,Bool.true_or,if_true] at h⊢
    exact h _ _ c
   | false=>
    simp only[B,↓M2,M2,Mb,reduceIte,Bool.false_or] at h⊢
    refine X7 d.sat j rfl ?_
    refine Rk b ?_
    cases C:plain b with
    | true=>
     simp only[C,↓M2,M2,Mb,reduceIte,if_true] at h⊢
     exact h _ _ c
    | false=>
     simp only[C,↓M2,M2,Mb,reduceIte,Bool.false_eq_true,if_false] at h⊢
     by_cases o:a=H9
     ·rw[if_pos o] at h
      have t:decide (a=[110,117,108,108])=true:=decide_eq_true o
      simp only[t,↓M2,M2,Mb,reduceIte]
      exact h _ _ c
     rw[if_neg o] at h
     have t:decide (a=[110,117,108,108])=false:=decide_eq_false o
     simp only[t,↓M2,M2,Mb,reduceIte]
     refine Q5f a (Nat.le_trans r (by decide)) (W8 d.sat fun M O g=>?_)
     have k:=c.trans g
     have n:=j.up g
     refine Jf ?_
     by_cases p:elem a=[]
     ·rw[if_neg (by simpa using p)] at h
      simp only[decide_eq_true p,↓M2,M2,Mb,reduceIte]
      exact X0v g.sat (s.lift ⟨k.le⟩) ok r n fun J Q u=>h _ _ (k.trans u)
     ·rw[if_pos p] at h
      simp only[decide_eq_false p,↓M2,M2,Mb,reduceIte]
      refine X7 g.sat n rfl ?_
      refine P7 ?_
      exact h _ _ k)
theorem X27 {c:Cla} {cs:List Value} (hs:X3 w σ) (ht:Tab σ v l) (hl:l.length≤100000) (hsm: ∀c∈l,Qj c) (hc:V0 σ c cs) (h: ∀w' σ',Stp w σ w' σ'→K (.bool (T1 l c)) w'):Q1 P F.bl [v, .agg cs.toArray] w K:=Ta (by
 obtain ⟨lv,fv,mv,rfl,g1,g2,g3,g4,g5⟩:=hc
 unfold Nk
 obtain ⟨a,_,_,_,rfl,_⟩:=ht.ex
 refine U5 hs rfl fun q w1 σ1 hk1 hq=>?_
 refine Z0 hk1.sat fun q2 w2 σ2 hk2 hq2=>?_
 rw[Qh,fa]
 have hS2:=hk1.trans hk2
 have back: ∀{n:X0} {w3:World} {σ3:Q6} {K:Value→World→Prop},SLe σ2 σ3→X3 w3 σ3→n.length≤U1→(∀w' σ',Stp w3 σ3 w' σ'→K (.bool ((G2 l n).contains c.name)) w')→
  Z3 P (.func (.func F.ba) #[] #[.pointer (some q), .pointer (some q2)]) [S n] w3 K:=by
  intro n w3 σ3 K le hs3 hn hK
  refine Z7 (Fe ?_)
  unfold Wa
  refine X7 hs3 ((hq.up hk2).lift le) rfl ?_
  rw[Qh]
  have le3:SLe σ σ3:=SLe.more ⟨hS2.le⟩ le
  refine Q7v (fun d=>decide (d.name=c.name)) hs3 (ht.lift le3) hl hsm hn (fun d ds w4 σ4 K le4 hs4 hr hK=>Z7 (Cc ?_)) (by rw[Q61];exact hK)
  obtain ⟨lv,fv,mv,rfl,_⟩:=hr
  unfold Jp
  have hq4:=(hq2.lift le).lift le4
  refine Z0 hs4 fun a w5 σ5 hk5 ha5=>?_
  (repeat' (first | (with_reducible intro _) | (with_reducible refine U6 ?_) | (simp only[↓M2,M2,Mb,reduceIte]) | (with_reducible first | refine ld aS aL aR ?_ | refine X7 aS aL aR ?_ | refine Y4 aS aL aR ?_ | refine Q8 aL ?_ | refine J0 aR ?_ | refine Z0 aS ?_ | refine N2 aS aL ?_ | refine U5 aS aR ?_ | refine Y8 aS aR aR (Rep.one (by assumption)) ?_ | refine U7 aS aR aR aR ?_ | (refine Z8 (fun hh=>?_) (fun hh=>?_)<;>(try simp only[hh,Bool.not_true,Bool.not_false,↓M2,M2,Mb,reduceIte])) | (refine Q7 (fun hh=>?_) (fun hh=>?_)<;>(try simp only[hh,Bool.not_true,Bool.not_false,↓M2,M2,Mb,reduceIte])))))
  exact hK _ _ hk5
 refine ld hk2.sat hq2 rfl ?_
 unfold T1 at h
 simp only[U3,List.any_cons] at h
 refine back (SLe.refl _) hk2.sat g5 fun w3 σ3 hk3=>?_
 cases e1:(G2 l c.super).contains c.name with
 | true=>
  rw[e1] at h
  simp only[↓M2,M2,Mb,reduceIte]
  exact h _ _ (hS2.trans hk3)
 | false=>
  rw[e1,Bool.false_or] at h
  simp only[↓M2,M2,Mb,reduceIte]
  refine ld hk3.sat (hq2.up hk3) rfl ?_
  refine P6 (fun n=>(G2 l n).contains c.name) hk3.sat (((g1.up hk1).up hk2).up hk3) (fun x w4 K _ hs4 hx hK=>back ⟨hk3.le⟩ hs4 hx fun w' σ' hk=>hK _ hk.bel) fun w4 hb=>?_
  (try simp only[↓M2,M2,Mb,reduceIte])
  exact h _ _ ((hS2.trans hk3).trans (Stp.of_below hk3.sat hb)))
end Go.Proofs.YtjdiakhipmggjaaGreatDoor

namespace Go.Emb
open Go.RowKit Go.Hm
variable {P : Program} {w w0 w1 w' w'' : World} {K : Value → World → Prop} {σ σ0 σ1 σ' : Q6}
theorem Sl.at {α:Type} {R:Q6→α→List Value→Prop} {sz:Nat} {v:Value} {xs:List α} (h:Sl sz R σ v xs) {i:Nat} (o:i<xs.length):
 ∃p cs,Z5 σ p cs∧cs.length=sz∧R σ xs[i] cs∧ ∀{P:Program} {t e:TypeId} {c:Nat} {z:Value} {w:World} {K:Value→World→Prop} [TS P t e] [TZ P e sz c z],K (.pointer (some p)) w→indexAddr P t v (I i) w K:=by
 obtain ⟨a,f,rfl,r,q,g,m⟩:=h
 cases a with
 | none=>have:=g rfl;omega
 | some b=>
  obtain ⟨cs,d,j,n⟩:=(m b rfl).2 i xs[i] (by simp[o])
  refine ⟨_,cs,d,j,n,?_⟩
  intro P t e c z w K _ _ k
  rw[Ss (by omega) (by omega)]
  simpa using k
abbrev ints (xs:List Nat):List Int:=xs.map fun n:Nat=>(n:Int)
theorem V6.grow {α:Type} {R:Q6→α→List Value→Prop} [hr:Rep R] {B sz:Nat} {e:TypeId} {v:Value} {xs:List α} (h:V6 B e sz R σ w v xs) (b:SLe σ σ') (a: ∀k,v.ownBlock=some k→σ' k=none):V6 B e sz R σ' w v xs:=by
 obtain ⟨cells,f,g,d⟩:=h
 exact ⟨cells,f,a,fun i x c=>hr.up b.le (d i x c)⟩
end Go.Emb
namespace Go.Proofs.YtjdiakhipmggjaaGreatDoor
open Go.Emb Go.RowKit Go.Kd Go.Hm
variable {w : World} {K : Value → World → Prop} {σ : Q6} {v : Value} {l : List Cla}
theorem Q6Y {B i:Nat} {xs:List Nat} {x:Value} (m:J7 B T.e 1 Wr σ w x (ints xs)) (h:K (.bool (decide (i∈xs))) w):Q1 P F.aI [x,I i] w K:=Eu (by
 unfold Yi
 have g:xs.length≤9223372036854775807:=by
  obtain ⟨a,s,_,o,q,_⟩:=m
  simp only[maxLen,ints,List.length_map] at q o;omega
 refine Sm ?_
 unfold Ub
 refine Q1t m ?_
 have j:(ints xs).length=xs.length:=by simp
 refine U2 xs.length (fun n w'=>w'=w∧i∉xs.take n) ⟨rfl,by simp⟩ fun n w' d u k=>?_
 obtain ⟨rfl,k⟩:=k
 rw[j]
 refine Y9 ?_
 refine Q7 (fun hh=>?_) (fun hh=>?_)
 ·have b:n<xs.length:=by simpa using hh
  refine Q5p m (by rw[j];exact b) fun a cs o q r=>?_
  obtain ⟨rfl,_⟩:=r
  have p:=o 0 _ rfl
  rw[add_zero] at p
  refine Qf p ?_
  simp only[List.getElem_map]
  refine I1 ?_
  refine Q7 (fun c=>?_) (fun c=>?_)
  ·have e:(i:Int)=xs[n]:=by simpa using c
   have:i=xs[n]:=by omega
   have f:decide (i∈xs)=true:=decide_eq_true (by rw[this];exact List.getElem_mem b)
   rw[f] at h
   refine K9 ?_
   rw[decide_eq_true (by omega:(0:Int)≤n)]
   exact h
  ·have e: ¬(i:Int)=xs[n]:=by simpa using c
   refine N0 ?_
   refine Y5 g b ⟨rfl,?_⟩
   rw[List.take_add_one,List.getElem?_eq_getElem b]
   simp only[Option.toList_some,List.mem_append,List.mem_singleton,not_or]
   exact ⟨k,fun t=>e (by rw[t])⟩
 ·have b: ¬n<xs.length:=by simpa using hh
  rw[List.take_of_length_le (by omega)] at k
  rw[decide_eq_false k] at h
  refine K9 ?_
  exact h)
theorem X2L {w0:World} {σ0 σb:Q6} {pf pt pw:Addr} {E frm:Nat} (ha:Ja l) (ho:T9 l) (hl:l.length≤100000) (br: ∀c∈l,Qj c) (hf:0<frm) (ht:Tab σb v l) (bc:Z5 σb pf [I frm]) (bk:Z5 σb pt [v])
 (bp:Z5 σb pw [.func (.func F.a0) #[] #[.pointer (some pf), .pointer (some ⟨E,0,none⟩), .pointer (some pt), .pointer (some pw)]]) (bj:w0.heap.size≤E):
 ∀(k:Nat) {i:Nat} {b:List Nat} {x:Value} {w1:World} {σ1:Q6} {K:Value→World→Prop},i<l.length→(i<frm∨P1 l (Y3 l i)<k)→SLe σb σ1→Stp w0 σ0 w1 σ1→Y2 σ1 w1 E [x]→V6 w0.heap.size T.e 1 Wr σ1 w1 x (ints b)→x.ownBlock≠some E→Few l b→
  (∀w2 σ2 x',SLe σ1 σ2→Stp w0 σ0 w2 σ2→Y2 σ2 w2 E [x']→V6 w0.heap.size T.e 1 Wr σ2 w2 x' (ints (Xx l frm b i))→x'.ownBlock≠some E→K (.tuple #[]) w2)→
  Z3 P (.func (.func F.a0) #[] #[.pointer (some pf), .pointer (some ⟨E,0,none⟩), .pointer (some pt), .pointer (some pw)]) [I i] w1 K:=by
 obtain ⟨a,lv,r,m,rfl,t1,t2,t3,t4⟩:=ht.ex
 intro k
 induction k with
 | zero=>
  intro i b x w1 σ1 K hi hk W X hm o hx Z h
  have A:i<frm:=hk.resolve_right (by omega)
  refine Z7 (Vm ?_)
  unfold Qz
  refine X7 X.sat (bc.lift W) rfl ?_
  refine Y9 ?_
  rw[decide_eq_true (by omega:(i:Int)<frm)]
  simp only[↓M2,M2,Mb,reduceIte]
  have:Xx l frm b i=b:=Zb _ _ A
  rw[this] at h
  exact h _ _ _ (SLe.refl _) X hm o hx
 | succ k ih=>
  intro i b x w1 σ1 K hi hk W X hm o hx Z h
  refine Z7 (Vm ?_)
  unfold Qz
  refine X7 X.sat (bc.lift W) rfl ?_
  refine Y9 ?_
  have z:=Q7g ha ho hf b hi
  by_cases A:i<frm
  ·rw[decide_eq_true (by omega:(i:Int)<frm)]
   simp only[↓M2,M2,Mb,reduceIte]
   rw[if_pos A] at z
   rw[z] at h
   exact h _ _ _ (SLe.refl _) X hm o hx
  rw[if_neg A] at z
  rw[decide_eq_false (by omega: ¬(i:Int)<frm)]
  simp only[↓M2,M2,Mb,reduceIte]
  refine Q8w hm rfl ?_
  refine Q6Y (J7.of_acc o) ?_
  by_cases Q:i∈b
  ·rw[if_pos Q] at z
   rw[z] at h
   simp only[decide_eq_true Q,↓M2,M2,Mb,reduceIte]
   exact h _ _ _ (SLe.refl _) X hm o hx
  rw[if_neg Q] at z
  simp only[decide_eq_false Q,↓M2,M2,Mb,reduceIte]
  have c8:P1 l (Y3 l i)<k+1:=hk.resolve_left A
  have t1:=t1.lift W
  have t2:=t2.lift W
  have t3:=t3.lift W
  have J:=bk.lift W
  obtain ⟨p,cs,a9,dm,b1,bd⟩:=t2.at hi
  obtain ⟨bu,fv,mv,rfl,f1,f2,f3,f4,f5⟩:=b1
  have ax:l.getD i Cla.zero=l[i]:=by rw[List.getD_eq_getElem?_getD,List.getElem?_eq_getElem hi];rfl
  have co:=hm.lt
  refine U0 X.sat ?_
  refine X4 (.pointer (some a)) (fun w f=>X7 f.sat J rfl (X6 rfl)) ?_
  refine X4 (.pointer (some a)) (fun t w f e=>by rw[e,L8];exact X6 rfl) ?_
  refine X4 (.pointer (some (a.add 0))) (fun t w f e=>by rw[e,fa];exact X6 rfl) ?_
  refine X4 lv (fun t w f e=>by rw[e];exact ld f.sat t1 rfl (X6 rfl)) ?_
  refine X4 (.pointer (some p)) (fun t w f e=>by rw[e];exact bd (X6 rfl)) ?_
  refine X4 (.pointer (some (p.add 1))) (fun t w f e=>by rw[e,fa];exact X6 rfl) ?_
  refine X4 (S l[i].super) (fun t w f e=>by rw[e];exact ld f.sat a9 rfl (X6 rfl)) ?_
  refine H4 (fun u w=>X3 w σ1∧V6 w0.heap.size T.c 1 U8 σ1 w u [l[i].super]∧ ∀k,u.ownBlock=some k→w1.heap.size≤k) (fun u w2 w3 h f=>⟨h.1.below f,h.2.1.up (Stp.of_below h.1 f),h.2.2⟩) (fun t w f e=>?_) ?_
  ·rw[e]
   refine Zh (R:=U8) (sz:=1) (xs:=[l[i].super]) (X.trans f.stp) [S l[i].super] rfl rfl (by simp;rfl) rfl ⟨⟨rfl,f5⟩,trivial⟩ fun u w2 a4 hu bi=>?_
   exact ⟨a4.bel,a4.sat,hu,fun k hk=>Nat.le_trans f.stp.bel.size (bi k hk)⟩
  refine X4 (.pointer (some a)) (fun w f=>X7 f.sat J rfl (X6 rfl)) ?_
  refine X4 (.pointer (some a)) (fun t w f e=>by rw[e,L8];exact X6 rfl) ?_
  refine X4 (.pointer (some (a.add 0))) (fun t w f e=>by rw[e,fa];exact X6 rfl) ?_
  refine X4 lv (fun t w f e=>by rw[e];exact ld f.sat t1 rfl (X6 rfl)) ?_
  refine X4 (.pointer (some p)) (fun t w f e=>by rw[e];exact bd (X6 rfl)) ?_
  refine X4 (.pointer (some (p.add 2))) (fun t w f e=>by rw[e,fa];exact X6 rfl) ?_
  refine X4 bu (fun t w f e=>by rw[e];exact ld f.sat a9 rfl (X6 rfl)) ?_
  rintro cm cy df cj cw cp c0 de c3 cn cu dh cz c9 c7 w2 U _ _ _ _ _ _ _ ⟨dd,b4,L⟩ _ _ _ _ _ _ bw
  subst bw
  have b0:=X.trans U.stp
  have bv:=(br _ (List.getElem_mem hi)).1
  have a3: ∀j,x.ownBlock=some j→j<w1.heap.size:=fun j B=>(o.mem j B).2.1
  have bs:=hm.step U.stp
  have ak:=o.step U.stp
  refine Wh b0 b4 f1 rfl (by simp only[List.length_cons,List.length_nil];omega) (by simp only[List.length_cons,List.length_nil];omega) fun aw w3 a6 cd bl a8=>?_
  have aa: ∀j,aw.ownBlock=some j→w1.heap.size≤j:=fun j B=>by
   rcases a8 with e | e
   ·exact L j (e▸B)
   ·exact Nat.le_trans U.stp.bel.size (e j B)
  have a7:=bs.nx a6 fun e=>by have:=L _ e;omega
  have M:=ak.nx a6 fun j B e=>by have:=L _ e;have:=a3 j B;omega
  obtain ⟨σ4,bg,Y,a2,ab⟩:=bl.keep cd
  have Y:Sl 1 U8 σ4 aw (U3 l[i]):=Y
  have ca:Y2 σ4 w3 E [x]:=⟨(ab E fun e=>by have:=aa E e.symm;omega).trans a7.1,a7.2⟩
  have ag:V6 w0.heap.size T.e 1 Wr σ4 w3 x (ints b):=M.grow ⟨a2⟩ fun j B=>(ab j fun e=>by have:=aa j e.symm;have:=a3 j B;omega).trans (M.mem j B).2.2
  have a0:SLe σ1 σ4:=⟨a2⟩
  refine Q8 Y ?_
  refine U2 (U3 l[i]).length (fun n w'=> ∃σ' x',SLe σ4 σ'∧Stp w0 σ0 w' σ'∧Y2 σ' w' E [x']∧V6 w0.heap.size T.e 1 Wr σ' w' x' (ints (((U3 l[i]).take n).foldl (fun b u=>Xx l frm b ((Z2 l u).getD 0)) b))∧x'.ownBlock≠some E∧Few l (((U3 l[i]).take n).foldl (fun b u=>Xx l frm b ((Z2 l u).getD 0)) b))
   ⟨σ4,x,SLe.refl _,bg,ca,ag,hx,Z⟩ fun n w5 d hn av=>?_
  obtain ⟨σ5,x5,ad,V,O,C,am,s⟩:=av
  refine Y9 ?_
  have y:=a0.more ad
  refine Q7 (fun hh=>?_) (fun hh=>?_)
  ·have N:n<(U3 l[i]).length:=by simpa using hh
   refine Q5d (Y.lift ad) N fun q hq cq=>?_
   refine X7 V.sat hq rfl ?_
   have e1:((U3 l[i]).take (n+1)).foldl (fun b u=>Xx l frm b ((Z2 l u).getD 0)) b=Xx l frm (((U3 l[i]).take n).foldl (fun b u=>Xx l frm b ((Z2 l u).getD 0)) b) ((Z2 l (U3 l[i])[n]).getD 0):=by
    rw[List.take_add_one,List.getElem?_eq_getElem N,List.foldl_append];rfl
   refine U0 V.sat ?_
   refine X4 _ (fun w f=>X7 f.sat (bp.lift (W.more y)) rfl (X6 rfl)) ?_
   refine X4 (.pointer (some a)) (fun w f=>X7 f.sat (J.lift y) rfl (X6 rfl)) ?_
   refine X4 (.pointer (some a)) (fun t w f e=>by rw[e,L8];exact X6 rfl) ?_
   refine X4 (.pointer (some (a.add 1))) (fun t w f e=>by rw[e,fa];exact X6 rfl) ?_
   refine X4 (.map (some r)) (fun t w f e=>by rw[e];exact ld f.sat (t1.lift y) rfl (X6 rfl)) ?_
   refine X4 (I ((Z2 l (U3 l[i])[n]).getD 0:Nat)) (fun t w f e=>by
    rw[e,Q4t X8 ((t3.lift y).is f.sat) _,t4]
    cases Z2 l (U3 l[i])[n]<;>exact X6 rfl) ?_
   rintro ci di dj c4 ck cl w6 ah rfl _ _ _ _ rfl
   have da:l.length≤9223372036854775807:=by omega
   refine ih ?_ ?_ (W.more y) (V.trans ah.stp) (O.step ah.stp) (C.step ah.stp) am s fun w7 σ7 x7 cb b7 bn ai b6=>?_
   ·cases B:Z2 l (U3 l[i])[n] with
    | none=>simp only[Option.getD_none];omega
    | some j=>exact (S7 B).1
   ·cases B:Z2 l (U3 l[i])[n] with
    | none=>exact .inl hf
    | some j=>
     right
     have:=Q1D ha ho hi (u:=(U3 l[i])[n]) (by rw[ax];exact List.getElem_mem N) B
     simp only[Option.getD_some];omega
   ·refine N0 ?_
    refine Y5 (by have:(U3 l[i]).length=l[i].like.length+1:=rfl;omega) N ⟨σ7,x7,ad.more cb,b7,bn,?_,b6,?_⟩
    ·rw[e1];exact ai
    ·rw[e1]
     cases B:Z2 l (U3 l[i])[n] with
     | none=>simp only[Option.getD_none];rw[show Xx l frm _ 0=_ from Zb _ _ hf];exact s
     | some j=>exact Pr ha ho hf _ _ _ (S7 B).1 s
  ·have N: ¬n<(U3 l[i]).length:=by simpa using hh
   rw[List.take_of_length_le (by omega)] at C s
   rw[ax] at z
   refine Q8w O rfl ?_
   have dn:=s.len
   refine Ug (x:=(i:Int)) V C ⟨rfl,by omega,by omega⟩ rfl rfl rfl (by rw[List.length_map];omega) (by rw[List.length_map];omega) fun u x8 w8 σ8 ay bz H ar=>?_
   have ba:=O.nx ay am
   have a5:x8.ownBlock≠some E:=fun e=>by
    rcases ar with e2 | e2
    ·exact am (e2▸e)
    ·have:=e2 E e;have:=O.lt;omega
   have bb:x8.cells= #[x8]∧x8.oneCell'=true:=by
    obtain ⟨cells,h1,_⟩:=H
    rcases h1.2 with ⟨rfl,_⟩ | ⟨g,dc,c2,rfl,_⟩<;>exact ⟨rfl,rfl⟩
   refine st0 ba (by simp) bb.1 bb.2 fun w9 a1 bq=>?_
   have b8:=a1.stp bz bj ba.1
   have aj:V6 w0.heap.size T.e 1 Wr σ8 w9 x8 (ints (Xx l frm b i)):=by
    rw[z]
    have:=H.kp (Kpt.of_upd (D:=fun k=>k=E) a1 rfl) fun k hk e=>a5 (e▸hk)
    simpa [ints] using this
   exact h w9 σ8 x8 (y.more ay.le) b8 bq aj a5
theorem X2d {frm:Nat} (hs:X3 w σ) (ht:Tab σ v l) (ha:Ja l) (ho:T9 l) (hl:l.length≤100000) (am: ∀c∈l,Qj c) (hf:0<frm) (ar:frm≤l.length) (h: ∀v' w' σ',Stp w σ w' σ'→Sl 1 Wr σ' v' (ints (V9 l frm))→(V9 l frm).length≤l.length→(∀y∈V9 l frm,y<l.length)→K v' w'):Q1 P F.bm [v,I frm] w K:=Ix (by
 unfold Nx
 have aa:=ht
 obtain ⟨a,lv,r,m,rfl,Y,t2,t3,t4⟩:=ht.ex
 refine U5 hs rfl fun pt w1 σ1 s ae=>?_
 refine U5 s.sat rfl fun pf w2 σ2 p ao=>?_
 refine M9 p.sat fun D w3 σ3 ad o N=>?_
 refine M9 o.sat fun bw w4 σ4 ap q R=>?_
 rw[Qh]
 have W:=N.step q
 have av:=N.lt
 have L:=((s.trans p).trans o).trans q
 have J:w.heap.size≤D:=M8 ad (s.trans p)
 have u:w.heap.size≤bw:=M8 ap ((s.trans p).trans o)
 refine st0 R (by simp[Value.cells]) rfl rfl fun w5 Q ab=>?_
 have X:=Q.stp L u R.1
 have z:=W.upd Q (by omega)
 obtain ⟨H,M,V,k,U⟩:=ab.keep X u
 have ag:Y2 H w5 D [.slice none 0 0]:=⟨(U D (by omega)).trans z.1,z.2⟩
 have k:SLe σ4 H:=⟨k⟩
 have B:=((ao.up o).up q).lift k
 have A:=(((ae.up p).up o).up q).lift k
 have e:SLe σ H:=SLe.more ⟨L.le⟩ k
 have Y:=Y.lift e
 have t2:=t2.lift e
 refine X7 M.sat B rfl ?_
 have bc:(List.range l.length).length=l.length:=List.length_range
 have hz:([Value.nilFunc].set 0 (Value.func (Fn.func F.a0) #[] #[.pointer (some pf), .pointer (some ⟨D,0,none⟩), .pointer (some pt), .pointer (some ⟨bw,0,none⟩)]))=[Value.func (Fn.func F.a0) #[] #[.pointer (some pf), .pointer (some ⟨D,0,none⟩), .pointer (some pt), .pointer (some ⟨bw,0,none⟩)]]:=rfl
 refine Pd (fun d x w'=> ∃(i:Nat) (σ':Q6) (Z:Value),x=I i∧frm≤i∧i≤l.length∧d=l.length-i∧SLe H σ'∧Stp w σ w' σ'∧Y2 σ' w' D [Z]∧V6 w.heap.size T.e 1 Wr σ' w' Z (ints (((List.range i).drop frm).foldl (fun f i=>Xx l frm f i) []))∧Z.ownBlock≠some D∧Few l (((List.range i).drop frm).foldl (fun f i=>Xx l frm f i) [])) _
  ⟨frm,H, .slice none 0 0,rfl,Nat.le_refl _,ar,rfl,SLe.refl _,M,ag,by rw[List.drop_eq_nil_of_le (by simp)];exact V6.nil,by simp[Value.ownBlock],by rw[List.drop_eq_nil_of_le (by simp)];exact ⟨by simp,by simp⟩⟩ ?_
 rintro ak d x dd w7 ⟨i,σ7,x7,rfl,a9,a5,rfl,g,n,O,j,aj,b⟩ ah
 refine X7 n.sat (A.lift g) rfl ?_
 rw[L8,fa]
 refine ld n.sat (Y.lift g) rfl ?_
 refine Q8 (t2.lift g) ?_
 refine Y9 ?_
 refine Q7 (fun hh=>?_) (fun hh=>?_)
 ·have t:i<l.length:=by simpa using hh
  refine X7 n.sat (V.lift g) rfl ?_
  refine X2L (w0:=w) (σ0:=σ) (σb:=H) ha ho hl am hf (aa.lift e) B A V J (P1 l (Y3 l i)+1) t (.inr (Nat.lt_succ_self _)) g n O j aj b fun w8 σ8 x8 al E af C aq=>?_
  refine Xu ⟨by omega,by omega⟩ ?_
  have e1:((List.range (i+1)).drop frm).foldl (fun f i=>Xx l frm f i) []=Xx l frm (((List.range i).drop frm).foldl (fun f i=>Xx l frm f i) []) i:=by
   rw[List.range_succ,List.drop_append_of_le_length (by simp;omega),List.foldl_append];rfl
  refine ah _ _ _ (by omega:l.length-(i+1)<l.length-i) ⟨i+1,σ8,x8,by simp,by omega,by omega,rfl,g.more al,E,af,?_,aq,?_⟩
  ·rw[e1];exact C
  ·rw[e1];exact Pr ha ho hf _ _ _ t b
 ·have t:i=l.length:=by
   have: ¬i<l.length:=by simpa using hh
   omega
  subst t
  refine Q8w O rfl ?_
  obtain ⟨σ8,E,ac,_,_⟩:=j.keep n
  exact h _ _ _ E ac b.len b.2)
end Go.Proofs.YtjdiakhipmggjaaGreatDoor

namespace Go.Hm
open Go.Kd
theorem Q6u (x:X0) (r:List X0):R5 (x::r)=x++Lib.joinTail [44] r:=by
 induction r generalizing x with
 | nil=>simp[R5,Lib.joinTail]
 | cons y r a=>
  simp only[R5]
  rw[a y]
  simp[Lib.joinTail]
theorem Q2b (xs:List X0):Lib.join xs [44]=R5 xs:=by
 cases xs with
 | nil=>rfl
 | cons x r=>rw[Lib.join_cons,Q6u]
theorem Re: ∀xs:List X0,(∀x∈xs,x.length≤100)→(R5 xs).length≤xs.length*101
 | [],_=>by simp[R5]
 | [a],h=>by have:=h a (by simp);simp[R5];omega
 | a::b::r,h=>by
  have e:=h a (by simp)
  have d:=Re (b::r) fun x c=>h x (by simp[c])
  simp only[R5,List.length_append,List.length_cons,List.length_nil,Nat.add_mul] at*
  omega
def NmM (m:Hm.Met):Prop:=m.result.length≤100∧ ∀p∈m.params,p.length≤100
end Go.Hm
namespace Go.Proofs.YtjdiakhipmggjaaGreatDoor
open Go.Emb Go.RowKit Go.Kd Go.Hm
variable {w : World} {K : Value → World → Prop} {σ : Q6} {v : Value} {l : List Cla}
theorem X2f {xs:List X0} {pv:Value} (L:X3 w σ) (H:Sl 1 U8 σ pv xs) (C:xs.length≤1000000) (E: ∀x∈xs,x.length≤100) (h: ∀w',Below w.heap.size w w'→K (S (R5 xs)) w'):Q1 P F.cP [pv,S [44]] w K:=by
 obtain ⟨a,g,rfl,D,Q,B,J⟩:=H
 have p:=Re xs E
 have z:xs.length*101≤1000000*101:=Nat.mul_le_mul_right _ C
 cases a with
 | none=>
  have O:=B rfl
  have d:xs=[]:=List.eq_nil_of_length_eq_zero (by omega)
  subst d
  refine Ww (fn:=Tryz.f143) Tryz.func143 (by kernel_rfl) (by kernel_rfl) (Calls.mono (Tryz.strings_Join_none none g ⟨[44].toArray⟩ w) ?_)
  rintro e w' ⟨rfl,rfl⟩
  exact h _ (Below.refl _ _)
 | some b=>
  obtain ⟨f,q⟩:=J b rfl
  by_cases d:xs=[]
  ·subst d
   refine Ww (fn:=Tryz.f143) Tryz.func143 (by kernel_rfl) (by kernel_rfl) (Calls.mono (Tryz.strings_Join_none (some b) g ⟨[44].toArray⟩ w) ?_)
   rintro e w' ⟨rfl,rfl⟩
   exact h _ (Below.refl _ _)
  have f:=f (List.length_pos_iff.2 d)
  obtain ⟨m,o,U⟩:=b
  simp only at f
  subst f
  have c: ∀(j:Nat) (x:ByteArray),(xs.map fun s=>(⟨s.toArray⟩:ByteArray))[j]? =some x→w.cell? ⟨m,o+j,none⟩=some (.string x):=by
   intro j x n
   rw[List.getElem?_map] at n
   cases k:xs[j]? with
   | none=>rw[k] at n;cases n
   | some s=>
    rw[k] at n
    cases n
    obtain ⟨cs,N,R,M⟩:=q j s k
    obtain ⟨rfl,_⟩:=M
    have:=N.cell L (i:=0) (v:=S s) rfl
    rw[add_zero] at this
    have e:(⟨m,o,none⟩:Addr).add (j*1)=⟨m,o+j,none⟩:=by unfold Addr.add;split<;>simp_all
    rw[e] at this;exact this
  have t:m<w.heap.size:=by
   obtain ⟨x,r,rfl⟩: ∃x r,xs=x::r:=by cases xs with | nil=>exact absurd rfl d | cons x r=>exact ⟨x,r,rfl⟩
   have:=c 0 ⟨x.toArray⟩ (by simp)
   exact World.block_lt_of_cell? _ _ this
  have y:(xs.map fun s=>(⟨s.toArray⟩:ByteArray)).map (·.data.toList)=xs:=by rw[List.map_map];simp[Function.comp_def]
  have u:=Tryz.strings_Join m o g (xs.map fun s=>(⟨s.toArray⟩:ByteArray)) ⟨[44].toArray⟩ w c t (by rw[List.length_map];omega) (by rw[List.length_map];exact D) (by rw[y];show (Lib.join xs [44]).length≤_;rw[Q2b];omega)
  rw[y,List.length_map] at u
  refine Ww (fn:=Tryz.f143) Tryz.func143 (by kernel_rfl) (by kernel_rfl) (Calls.mono u ?_)
  rintro e w' ⟨rfl,A⟩
  have:=h w' A
  rw[←Q2b] at this
  exact this
theorem Q9j {m:Hm.Met} {cs:List Value} (q:X3 w σ) (r:E8 σ m cs) (d:SmM m) (i:NmM m) (h: ∀w' o,Stp w σ w' o→K (S (Qw m)) w'):Q1 P F.cg [.agg cs.toArray] w K:=Q5J (by
 obtain ⟨pv,H,D,rfl,n,A,M,E,s,z⟩:=r
 unfold Q17
 refine Z0 q fun a w1 σ1 c j=>?_
 have p:=Re m.params i.2
 have k:m.params.length*101≤1000000*101:=Nat.mul_le_mul_right _ d.1
 refine U0 c.sat ?_
 refine X4 (.pointer (some (a.add 1))) (fun w b=>by rw[fa];exact X6 rfl) ?_
 refine X4 (.pointer (some (a.add 2))) (fun w b=>by rw[fa];exact X6 rfl) ?_
 refine X4 pv (fun t w b e=>by rw[e];exact ld b.sat j rfl (X6 rfl)) ?_
 refine X4 (S (R5 m.params)) (fun t w b e=>by rw[e];exact X2f b.sat (n.up c) d.1 i.2 fun w' g=>Q3k g rfl) ?_
 refine X4 (S ([40]++R5 m.params)) (fun t w b e=>by rw[e];exact Hy (by simp only[List.length_cons,List.length_nil];omega) (X6 rfl)) ?_
 refine X4 (S ([40]++R5 m.params++[41])) (fun t w b e=>by rw[e];exact Hy (by simp only[List.length_append,List.length_cons,List.length_nil];omega) (X6 rfl)) ?_
 refine X4 (S m.result) (fun t w b e=>by rw[e];exact ld b.sat j rfl (X6 rfl)) ?_
 rintro O L C y B N J u f _ _ _ _ _ rfl rfl
 have:=i.1
 refine Hy (by simp only[List.length_append,List.length_cons,List.length_nil];omega) ?_
 exact h _ _ (c.trans f.stp))
end Go.Proofs.YtjdiakhipmggjaaGreatDoor

namespace Go.Emb
open Go.RowKit Go.Hm
variable {P : Program} {w w0 w1 w' w'' : World} {K : Value → World → Prop} {σ σ0 σ1 σ' : Q6}
theorem Ie {α:Type} (f:α→α) (e:α): ∀l:List α,(l++[e]).modify l.length f=l++[f e]
 | []=>rfl
 | x::r=>by simp[Ie f e r]
theorem Q0n (k:List UInt8) (e:MapEntry) (b:e.key=S k): ∀(a:List MapEntry) (i:Nat),Instr.findNow .string (S k) a i=some none→Instr.findNow .string (S k) (a++[e]) i=some (some (i+a.length,e.val))
 | [],i,_=>by
  simp[Instr.findNow,b,Instr.sameNow,Hf]
 | x::r,i,h=>by
  simp only[Instr.findNow,List.cons_append] at h⊢
  split at h
  ·cases h
  ·rename_i c
   rw[Q0n k e b r (i+1) h]
   simp;omega
  ·cases h
theorem Q29 (k:List UInt8) (u:Value): ∀(a:List MapEntry) (i j:Nat) (v:Value),Instr.findNow .string (S k) a i=some (some (j,v))→i≤j∧j-i<a.length∧Instr.findNow .string (S k) (a.modify (j-i) fun e=>{e with val:=u}) i=some (some (j,u))
 | [],i,j,v,h=>by simp[Instr.findNow] at h
 | x::r,i,j,v,h=>by
  simp only[Instr.findNow] at h
  split at h
  ·rename_i b
   cases h
   refine ⟨Nat.le_refl _,by simp,?_⟩
   simp only[Nat.sub_self,List.modify_zero_cons,Instr.findNow,b]
  ·rename_i b
   obtain ⟨d,f,c⟩:=Q29 k u r (i+1) j v h
   refine ⟨by omega,by simp;omega,?_⟩
   rw[show j-i=(j-(i+1))+1 by omega]
   simp only[List.modify_succ_cons,Instr.findNow,b]
   exact c
  ·cases h
theorem Vi {t p s:TypeId} [tm:TM P t p s] (n:P.underlying p=some .string) {r:Nat} {b:Array MapEntry} {a:Nat} {k:List UInt8} {i:Nat} {v:Value} {e:MapEntry} (m:w.heap[r]? =some (.map b a))
 (q:Instr.findNow .string (S k) b.toList 0=some (some (i,v))) (o:b[i]? =some e) (l:e.key=S k):
 (Instr.mapEntry t (.map (some r)) (S k)).run P w= .ok (.tuple #[v,goInt e.born]) {w with heap:=w.heap.setIfInBounds r (.map b a)}:=by
 have u:(getObj r).run P w= .ok (.map b a) w:=by simp[getObj,Sem.run,m]
 have c:(Instr.keyThatStays (S k) (S k)).run P w= .ok (S k) w:=by
  simp[Instr.keyThatStays,Instr.sameBits,Hf]
 have f:(b.modify i fun e=>{e with key:=S k})=b:=by
  apply Array.ext'
  apply List.ext_getElem?
  intro j
  simp only[Array.toList_modify,List.getElem?_modify]
  by_cases g:i=j
  ·subst g
   rw[Array.getElem?_toList,o]
   simp[←l]
  ·cases b.toList[j]? <;>simp[g]
 have d:(setObj r (.map b a)).run P w= .ok () {w with heap:=w.heap.setIfInBounds r (.map b a)}:=by
  simp[setObj,Sem.run,m]
 simp only[Instr.mapEntry,Sem.run_bind,run_underlying tm.h,Result.andThen_ok,Instr.findKey,run_underlying n,q,K2 n,u,Sem.run_pure]
 simp only[o,Option.map_some,Option.getD_some,l,c,Result.andThen_ok,f,d]
theorem Q2C {r:Nat} {o:Obj} (h:w.heap[r]? =some o):({w with heap:=w.heap.setIfInBounds r o}:World)=w:=by
 have:w.heap.setIfInBounds r o=w.heap:=by
  apply Array.ext'
  apply List.ext_getElem?
  intro j
  simp only[Array.toList_setIfInBounds,List.getElem?_set]
  by_cases a:r=j
  ·subst a
   rw[if_pos rfl]
   have:=h
   rw[←Array.getElem?_toList] at this
   rw[this,if_pos (by have:=(Array.getElem?_eq_some_iff.1 h).1;simpa using this)]
  ·rw[if_neg a]
 rw[this]
theorem Q3T {r:Nat} {o a:Obj} (h:w.heap[r]? =some a):Upd w r {w with heap:=w.heap.setIfInBounds r o}∧({w with heap:=w.heap.setIfInBounds r o}:World).heap[r]? =some o:=by
 have b:=(Array.getElem?_eq_some_iff.1 h).1
 exact ⟨⟨rfl,rfl,rfl,by simp,fun k c=>by simp only[Array.getElem?_setIfInBounds];rw[if_neg (by omega)]⟩,by simp[Array.getElem?_setIfInBounds,b]⟩
structure Ent3 (P : Program) (t : TypeId) (r : Nat) (k : List UInt8) (u : Value) (m : List (List UInt8 × Value)) (O0 O1 O2 : Obj) (stamp : Nat) : Prop where
  same : O0 = O2 → O1 = O0
  put : H5 (some O2) (Wp m k u)
  entry : ∀ {w : World} {K : Value → World → Prop}, (w.heap[r]? = some O0 ∨ w.heap[r]? = some O1 ∨ w.heap[r]? = some O2) → (∀ x w', Upd w r w' → (w.heap[r]? = some O0 → w'.heap[r]? = some O1) → (w.heap[r]? ≠ some O0 → w'.heap[r]? = w.heap[r]?) → K (.tuple #[x, I stamp]) w') → mapEntry P t (.map (some r)) (S k) w K
  store : ∀ {w : World} {K : Value → World → Prop}, (w.heap[r]? = some O1 ∨ w.heap[r]? = some O2) → (∀ w', Upd w r w' → w'.heap[r]? = some O2 → K undef w') → entryStore P t (.map (some r)) (I stamp) u w K
theorem X4d {t kt et:TypeId} {aw:Nat} {z:Value} [tm:TM P t kt et] [tz:TZ P et 1 aw z] (W:P.underlying kt=some .string) {r:Nat} {m:List (List UInt8×Value)} (hm:H5 (w.heap[r]?) m) (k:List UInt8) (u:Value):
 ∃O O1 O2 A,w.heap[r]? =some O∧Ent3 P t r k u m O O1 O2 A:=by
 obtain ⟨q,g,h1,h2,h3,h4⟩:=hm
 obtain ⟨r',Y,q2,q3,q4⟩:=Cx k q.toList m 0 h2
 -- the array behind it, the place, the stamp
 have U: ∀(f:Array MapEntry) (d i:Nat) (s:MapEntry) (v1:Value),Instr.findNow .string (S k) f.toList 0=some (some (i,v1))→f[i]? =some s→s.key=S k→(f.toList.map (·.born)).Pairwise (· < ·)→
  (Obj.map q g= .map (f.modify i fun e=>{e with val:=u}) d→Obj.map f d=Obj.map q g)→H5 (some (.map (f.modify i fun e=>{e with val:=u}) d)) (Wp m k u)→
  (∀{w:World},w.heap[r]? =some (.map q g)→ ∃x,(Instr.mapEntry t (.map (some r)) (S k)).run P w= .ok (.tuple #[x,I s.born]) {w with heap:=w.heap.setIfInBounds r (.map f d)})→
  ∃O O1 O2 A,w.heap[r]? =some O∧Ent3 P t r k u m O O1 O2 A:=by
  intro f d i s v1 f1 f2 f3 f4 f5 f6 f7
  obtain ⟨_,H,f8⟩:=Q29 k u f.toList 0 i v1 f1
  simp only[Nat.sub_zero] at H f8
  have ay:i<f.size:=by simpa using H
  have f9:(f.modify i fun e=>{e with val:=u})[i]? =some {s with val:=u}:=by
   rw[Array.getElem?_modify,if_pos rfl,f2];rfl
  have am:Instr.findNow .string (S k) (f.modify i fun e=>{e with val:=u}).toList 0=some (some (i,u)):=by
   rw[Array.toList_modify];exact f8
  have M: ∀(l:Array MapEntry),l.toList.map (·.born)=f.toList.map (·.born)→l.findIdx? (fun e=>(e.born:Int)==s.born)=some i:=by
   intro l D
   obtain ⟨Z⟩:=l
   have e0:(Array.mk Z).findIdx? (fun e=>(e.born:Int)==s.born)=Z.findIdx? (fun e=>(e.born:Int)==s.born):=List.findIdx?_toArray ..
   rw[e0,List.findIdx?_eq_some_iff_getElem]
   generalize X:(Array.mk Z)=l at*
   have ag:Z=l.toList:=by rw[←X]
   subst ag
   have a2:l.toList.length=f.toList.length:=by have:=congrArg List.length D;simpa using this
   have V: ∀j (hj:j<l.toList.length),(l.toList[j]).born=(f.toList[j]'(by omega)).born:=fun j hj=>by
    have h5:(l.toList.map (·.born))[j]? =(f.toList.map (·.born))[j]? :=by rw[D]
    rw[List.getElem?_map,List.getElem?_map,List.getElem?_eq_getElem hj,List.getElem?_eq_getElem (by omega)] at h5
    simpa using h5
   have R:f.toList[i]=s:=by
    have:=f2
    rw[←Array.getElem?_toList,List.getElem?_eq_getElem H] at this
    simpa using this
   refine ⟨by omega,by rw[V i (by omega),R];simp,fun j hj=>?_⟩
   have al:j<f.toList.length:=by omega
   have:=(List.pairwise_iff_getElem.1 f4) j i (by simpa using al) (by simpa using H) hj
   simp only[List.getElem_map] at this
   rw[V j (by omega)]
   rw[R] at this
   simp only[beq_iff_eq];omega
  have J:(f.modify i fun e=>{e with val:=u}).toList.map (·.born)=f.toList.map (·.born):=by
   apply List.ext_getElem?
   intro j
   simp only[Array.toList_modify,List.getElem?_map,List.getElem?_modify]
   by_cases L:i=j<;>cases f.toList[j]? <;>simp[L]
  have ao:(f.modify i fun e=>{e with val:=u}).modify i (fun e=>{e with val:=u})=f.modify i fun e=>{e with val:=u}:=by
   apply Array.ext'
   apply List.ext_getElem?
   intro j
   simp only[Array.toList_modify,List.getElem?_modify]
   by_cases L:i=j<;>cases f.toList[j]? <;>simp[L]
  have B: ∀(l:Array MapEntry) {w:World},l.toList.map (·.born)=f.toList.map (·.born)→w.heap[r]? =some (.map l d)→(Instr.entryStore t (.map (some r)) (I s.born) u).run P w= .ok () {w with heap:=w.heap.setIfInBounds r (.map (l.modify i fun e=>{e with val:=u}) d)}:=by
   intro l w D hw
   have hg:(getObj r).run P w= .ok (.map l d) w:=by simp[getObj,Sem.run,hw]
   have E: ∀o,(setObj r (.map o d)).run P w= .ok () {w with heap:=w.heap.setIfInBounds r (.map o d)}:=by
    intro o;simp[setObj,Sem.run,hw]
   simp only[Instr.entryStore,Sem.run_bind,hg,Result.andThen_ok,asInt,Sem.run_pure,asIntOf,M l D,E]
  refine ⟨.map q g, .map f d, .map (f.modify i fun e=>{e with val:=u}) d,s.born,h1,f5,f6,?_,?_⟩
  ·intro w K hw N
   unfold mapEntry
   rcases hw with hw | hw | hw
   ·obtain ⟨x,hx⟩:=f7 hw
    rw[X9 hx]
    obtain ⟨u1,u2⟩:=Q3T (o:= .map f d) hw
    exact N x _ u1 (fun _=>u2) fun h=>absurd hw h
   ·have:=Vi (P:=P) (t:=t) W hw f1 f2 f3
    rw[Q2C hw] at this
    rw[X9 this]
    refine N _ w ⟨rfl,rfl,rfl,rfl,fun _ _=>rfl⟩ (fun h0=>?_) fun _=>rfl
    exact hw
   ·have:=Vi (P:=P) (t:=t) W hw am f9 f3
    rw[Q2C hw] at this
    rw[X9 this]
    refine N _ w ⟨rfl,rfl,rfl,rfl,fun _ _=>rfl⟩ (fun h0=>?_) fun _=>rfl
    rw[h0] at hw
    cases hw
    rw[h0,f5 rfl]
  ·intro w K hw N
   unfold entryStore
   rcases hw with hw | hw
   ·rw[Lc (B f rfl hw)]
    obtain ⟨u1,u2⟩:=Q3T (o:= .map (f.modify i fun e=>{e with val:=u}) d) hw
    exact N _ u1 u2
   ·have:=B _ J hw
    rw[ao,Q2C hw] at this
    rw[Lc this]
    exact N _ ⟨rfl,rfl,rfl,rfl,fun _ _=>rfl⟩ hw
 cases r' with
 | none=>
  obtain ⟨i,hi,bb,ba,av⟩:=tz.info
  have hz: ∀w:World,(zeroValue et).run P w= .ok z w:=fun w=>Zn tz w
  refine U (q.push {key:=S k,val:=z,born:=g}) (g+1) q.size {key:=S k,val:=z,born:=g} z ?_ (by simp) rfl ?_ ?_ ?_ ?_
  ·have:=Q0n k {key:=S k,val:=z,born:=g} rfl q.toList 0 Y
   simpa using this
  ·simp only[Array.toList_push,List.map_append,List.map_cons,List.map_nil]
   rw[List.pairwise_append]
   refine ⟨h3,by simp,?_⟩
   intro a ha b D
   simp at D;subst D
   obtain ⟨e,he,rfl⟩:=List.mem_map.1 ha
   exact h4 e he
  ·intro e
   injection e with s e2
   omega
  ·refine ⟨_,_,rfl,?_,?_,?_⟩
   ·rw[q4 rfl]
    simp only[Array.toList_modify,Array.toList_push]
    rw[←Array.length_toList,Ie]
    simp[h2]
   ·have:((q.push {key:=S k,val:=z,born:=g}).modify q.size fun e=>{e with val:=u}).toList.map (·.born)=q.toList.map (·.born)++[g]:=by
     simp only[Array.toList_modify,Array.toList_push]
     rw[←Array.length_toList,Ie]
     simp
    rw[this,List.pairwise_append]
    refine ⟨h3,by simp,?_⟩
    intro a ha b D
    simp at D;subst D
    obtain ⟨e,he,rfl⟩:=List.mem_map.1 ha
    exact h4 e he
   ·intro e he
    simp only[Array.toList_modify,Array.toList_push] at he
    rw[←Array.length_toList,Ie] at he
    rcases List.mem_append.1 he with he | he
    ·have:=h4 e he;omega
    ·simp at he;subst he;simp
  ·intro w hw
   have hg:(getObj r).run P w= .ok (.map q g) w:=by simp[getObj,Sem.run,hw]
   have E: ∀o c,(setObj r (.map o c)).run P w= .ok () {w with heap:=w.heap.setIfInBounds r (.map o c)}:=by
    intro o c;simp[setObj,Sem.run,hw]
   refine ⟨z,?_⟩
   simp only[Instr.mapEntry,Sem.run_bind,run_underlying tm.h,Result.andThen_ok,Instr.findKey,run_underlying W,Y,K2 W,hg,Sem.run_pure,hz,E]
   rfl
 | some p=>
  obtain ⟨j,v⟩:=p
  obtain ⟨z1,z2,z3⟩:=q3 j v rfl
  obtain ⟨e,s,e2⟩:=z2
  simp only[Nat.sub_zero] at s z3
  have Q:q[j]? =some e:=by rw[←Array.getElem?_toList];exact s
  refine U q g j e v Y Q e2 h3 (fun _=>rfl) ?_ fun hw=>⟨v,Vi W hw Y Q e2⟩
  refine ⟨_,_,rfl,?_,?_,?_⟩
  ·have:=z3 u
   rw[←this,Array.toList_modify]
   congr 1
   apply List.ext_getElem?
   intro n
   simp only[List.getElem?_modify]
   by_cases C:j=n
   ·subst C;rw[s];simp[e2]
   ·simp[C]
  ·have:(q.modify j fun e=>{e with val:=u}).toList.map (·.born)=q.toList.map (·.born):=by
    apply List.ext_getElem?
    intro n
    simp only[Array.toList_modify,List.getElem?_map,List.getElem?_modify]
    by_cases C:j=n<;>cases q.toList[n]? <;>simp[C]
   rw[this];exact h3
  ·intro x hx
   have:x.born∈(q.modify j fun e=>{e with val:=u}).toList.map (·.born):=List.mem_map.2 ⟨x,hx,rfl⟩
   have D:(q.modify j fun e=>{e with val:=u}).toList.map (·.born)=q.toList.map (·.born):=by
    apply List.ext_getElem?
    intro n
    simp only[Array.toList_modify,List.getElem?_map,List.getElem?_modify]
    by_cases C:j=n<;>cases q.toList[n]? <;>simp[C]
   rw[D] at this
   obtain ⟨y,hy,e⟩:=List.mem_map.1 this
   rw[←e];exact h4 y hy
end Go.Emb

namespace Go.Hm
open Go.Kd Go.Emb
abbrev B7:=List (X0×X0)
def C9:B7→X0→Option X0
 | [],_=>none
 | p::r,k=>if p.1=k then some p.2 else C9 r k
def Sg:B7→X0→X0→B7
 | [],k,v=>[(k,v)]
 | p::r,k,v=>if p.1=k then (k,v)::r else p::Sg r k v
def vals (m:B7):List (List UInt8×Value):=m.map fun p=>(p.1,S p.2)
theorem Q8W (m:B7) (k:X0):B0 (vals m) k=(C9 m k).map S:=by
 induction m with
 | nil=>rfl
 | cons p r a=>
  simp only[vals,List.map_cons,B0,C9]
  split
  ·rfl
  ·exact a
theorem Q5z (m:B7) (k v:X0):Wp (vals m) k (S v)=vals (Sg m k v):=by
 induction m with
 | nil=>rfl
 | cons p r a=>
  simp only[vals,List.map_cons,Wp,Sg]
  split
  ·rfl
  ·rw[List.map_cons];congr 1
theorem Q0s (m:B7) (k v n:X0):C9 (Sg m k v) n=if k=n then some v else C9 m n:=by
 induction m with
 | nil=>simp[Sg,C9]
 | cons p r b=>
  simp only[Sg]
  by_cases h:p.1=k
  ·rw[if_pos h]
   simp only[C9]
   by_cases a:k=n
   ·simp[a]
   ·rw[if_neg a,if_neg a,if_neg (by rw[h];exact a)]
  ·rw[if_neg h]
   simp only[C9]
   by_cases a:p.1=n
   ·rw[if_pos a,if_pos a,if_neg (by intro e;exact h (a.trans e.symm))]
   ·rw[if_neg a,if_neg a];exact b
def Vl (d:X0) (s:B7×B7) (m:Hm.Met):Bool×(B7×B7):=
 ((match C9 s.1 m.name with | some x=> !decide (x=Qw m) | none=>false),(Sg s.1 m.name (Qw m),Sg s.2 m.name d))
end Go.Hm
namespace Go.Emb
open Go.RowKit Go.Hm
theorem H5.of_below {w w':World} {r:Nat} {m:List (List UInt8×Value)} (h:H5 (w.heap[r]?) m) (e:Below w.heap.size w w'):H5 (w'.heap[r]?) m:=by
 obtain ⟨c,a,b,d⟩:=h
 rw[e.block r (Array.getElem?_eq_some_iff.1 b).1]
 exact ⟨c,a,b,d⟩
theorem Q9i {P:Program} {w:World} {K:Value→World→Prop} {t b c:TypeId} {sz a:Nat} {z:Value} [tm:TM P t b c] [tz:TZ P c sz a z] (f:P.underlying b=some .string) {r:Nat} {m:List (List UInt8×Value)} (d:H5 (w.heap[r]?) m) (k:List UInt8)
 (h:K (.tuple #[(B0 m k).getD z, .bool (B0 m k).isSome]) w):lookup P t (.map (some r)) (S k) true w K:=by
 rw[Q2u f d k];cases e:B0 m k<;>rw[e] at h<;>exact h
theorem H5.lt {w:World} {r:Nat} {m:List (List UInt8×Value)} (h:H5 (w.heap[r]?) m):r<w.heap.size:=by
 obtain ⟨c,a,b,d⟩:=h
 exact (Array.getElem?_eq_some_iff.1 b).1
end Go.Emb
namespace Go.Proofs.YtjdiakhipmggjaaGreatDoor
open Go.Emb Go.RowKit Go.Kd Go.Hm
variable {w : World} {K : Value → World → Prop} {σ : Q6} {v : Value} {l : List Cla}
theorem X3W {m:Hm.Met} {cs ds:List Value} {pa pb q:Addr} {b o:Nat} {s:B7×B7} {d:X0} (hs:X3 w σ) (hm:E8 σ m cs) (ac:SmM m) (hn:NmM m) (V:Z5 σ pa [.map (some b)]) (ae:Z5 σ pb [.map (some o)]) (hq:Z5 σ q (S d::ds))
 (af:σ b=none) (an:σ o=none) (Q:b≠o) (p:H5 (w.heap[b]?) (vals s.1)) (r:H5 (w.heap[o]?) (vals s.2))
 (h: ∀w',Kpt (fun k=>k=b∨k=o) w w'→H5 (w'.heap[b]?) (vals (Vl d s m).2.1)→H5 (w'.heap[o]?) (vals (Vl d s m).2.2)→K (.bool (Vl d s m).1) w'):
 Q1 P F.aM [.agg cs.toArray, .pointer (some pa), .pointer (some q), .pointer (some pb)] w K:=Hk (by
 have U:=hm
 obtain ⟨pv,cv,hv,rfl,g1,g2,g3,g4,g5,g6⟩:=hm
 unfold Zi
 refine Z0 hs fun a w1 σ1 f R=>?_
 have aj:=p.lt
 have aw:=r.lt
 have p:=p.of_below f.bel
 have r:=r.of_below f.bel
 have Z:σ1 b=none:=(f.old b aj).trans af
 have H:σ1 o=none:=(f.old o aw).trans an
 refine X7 f.sat (V.up f) rfl ?_
 rw[fa]
 refine ld f.sat R rfl ?_
 refine Q9i X8 p m.name ?_
 have aq:(.tuple #[(B0 (vals s.1) m.name).getD (.string ⟨#[]⟩), .bool (B0 (vals s.1) m.name).isSome]:Value)= .tuple #[S ((C9 s.1 m.name).getD []), .bool (C9 s.1 m.name).isSome]:=by
  rw[Q8W];cases C9 s.1 m.name<;>rfl
 rw[aq]
 refine J6 (vs:=[_,_]) rfl ?_
 refine J6 (vs:=[_,_]) rfl ?_
 obtain ⟨L,N,A,y,ap,E⟩:=X4d (P:=P) (t:=T.y) X8 p m.name (S (Qw m))
 have Y:=p.lt
 refine Kf (fun c i=>Kpt (fun k=>k=b) c i∧(i.heap[b]? =c.heap[b]? ∨(c.heap[b]? =some L∧L≠A∧i.heap[b]? =some N)∨i.heap[b]? =some A))
  (fun c=>Kpt (fun k=>k=b) w1 c∧X3 c σ1∧(c.heap[b]? =some L∨c.heap[b]? =some N∨c.heap[b]? =some A))
  ⟨.of_below (Below.refl _ _).drew,f.sat.below (Below.refl _ _).drew, .inl ap⟩ (fun c i g C=>⟨g.1.trans C.1,C.1.sat g.2.1 (fun k hk=>hk▸Z),by
   rcases C.2 with e | ⟨_,_,e⟩ | e
   ·rw[e];exact g.2.2
   ·exact .inr (.inl e)
   ·exact .inr (.inr e)⟩) ?_
 refine X4 (.pointer (some (a.add 0))) (fun w g=>by rw[fa];exact ⟨⟨Kpt.refl, .inl rfl⟩,rfl⟩) ?_
 refine X4 (.pointer (some (a.add 0))) (fun w g=>by rw[fa];exact ⟨⟨Kpt.refl, .inl rfl⟩,rfl⟩) ?_
 refine X4 (.pointer (some (q.add 0))) (fun w g=>by rw[fa];exact ⟨⟨Kpt.refl, .inl rfl⟩,rfl⟩) ?_
 refine X4 (.map (some b)) (fun w g=>X7 g.2.1 (V.up f) rfl ⟨⟨Kpt.refl, .inl rfl⟩,rfl⟩) ?_
 refine X4 (S m.name) (fun t w g e=>by rw[e];exact ld g.2.1 R rfl ⟨⟨Kpt.refl, .inl rfl⟩,rfl⟩) ?_
 refine X4 (.map (some o)) (fun w g=>X7 g.2.1 (ae.up f) rfl ⟨⟨Kpt.refl, .inl rfl⟩,rfl⟩) ?_
 refine X4 (S m.name) (fun t w g e=>by rw[e];exact ld g.2.1 R rfl ⟨⟨Kpt.refl, .inl rfl⟩,rfl⟩) ?_
 refine X4 (.agg [S m.name,pv,S m.result, .bool m.abs,I m.locals,cv,hv].toArray) (fun w g=>Y4 g.2.1 R rfl ⟨⟨Kpt.refl, .inl rfl⟩,rfl⟩) ?_
 refine X4 (S (Qw m)) (fun t c g e=>by
  rw[e]
  exact Q9j g.2.1 (RMe_lift U ⟨f.le⟩) ac hn fun i σ3 z=>⟨⟨.of_below z.bel, .inl (z.bel.block b (Nat.lt_of_lt_of_le Y g.1.size))⟩,rfl⟩) ?_
 refine X4 (S d) (fun t w g e=>by rw[e];exact ld g.2.1 (hq.up f) rfl ⟨⟨Kpt.refl, .inl rfl⟩,rfl⟩) ?_
 have st: ∀{c i:World},(c.heap[b]? =some N∨c.heap[b]? =some A)→(i.heap[b]? =c.heap[b]? ∨(c.heap[b]? =some L∧L≠A∧i.heap[b]? =some N)∨i.heap[b]? =some A)→(i.heap[b]? =some N∨i.heap[b]? =some A):=by
  intro c i j h2
  rcases h2 with e | ⟨_,_,e⟩ | e
  ·rw[e];exact j
  ·exact .inl e
  ·exact .inr e
 refine H4 (fun u c=>(∃x,u= .tuple #[x,I y])∧(c.heap[b]? =some N∨c.heap[b]? =some A)) (fun u c i j C=>⟨j.1,st j.2 C.2⟩) (fun aa ax c g e1 e2=>?_) ?_
 ·rw[e1,e2]
  refine E.entry g.2.2 fun x i n ak al=>?_
  by_cases W:c.heap[b]? =some L
  ·have j:=ak W
   refine ⟨⟨Kpt.of_upd n rfl,?_⟩,⟨x,rfl⟩, .inl j⟩
   by_cases B:L=A
   ·left;rw[j,W,E.same B]
   ·exact .inr (.inl ⟨W,B,j⟩)
  ·have j:=al W
   refine ⟨⟨Kpt.of_upd n rfl, .inl j⟩,⟨x,rfl⟩,?_⟩
   rw[j];exact g.2.2.resolve_left W
 refine H4 (fun u c=>u=I y∧(c.heap[b]? =some N∨c.heap[b]? =some A)) (fun u c i j C=>⟨j.1,st j.2 C.2⟩) (fun t c g e=>?_) ?_
 ·obtain ⟨⟨x,rfl⟩,j⟩:=e
  exact J6 (vs:=[_,_]) rfl ⟨⟨Kpt.refl, .inl rfl⟩,rfl,j⟩
 refine H4 (fun _ c=>c.heap[b]? =some A) (fun u c i j C=>?_) (fun aa am ar c g e1 e2 e3=>?_) ?_
 ·rcases C.2 with e | ⟨e,B,_⟩ | e
  ·exact e.trans j
  ·rw[j] at e;cases e;exact absurd rfl B
  ·exact e
 ·rw[e1,e3,e2.1]
  refine E.store e2.2 fun i n h3=>⟨⟨Kpt.of_upd n rfl, .inr (.inr h3)⟩,h3⟩
 rintro be ba a5 aa ax bh a6 bk ar bg a8 am a9 c O _ _ _ _ _ rfl rfl _ _ rfl _ _ ai
 have ao:H5 (c.heap[b]?) (vals (Sg s.1 m.name (Qw m))):=by
  rw[ai,←Q5z];exact E.put
 have ag:H5 (c.heap[o]?) (vals s.2):=by
  rw[O.1.block o r.lt fun e=>Q e.symm];exact r
 refine Ii X8 ⟨H,ag⟩ m.name (S d) fun i n ah=>?_
 have ab:H5 (i.heap[o]?) (vals (Sg s.2 m.name d)):=by rw[←Q5z];exact ah.2
 have J:H5 (i.heap[b]?) (vals (Sg s.1 m.name (Qw m))):=by rw[n.block b Q];exact ao
 have z:Kpt (fun k=>k=b∨k=o) w i:=((Kpt.of_below f.bel).trans (O.1.mono fun k _ h=> .inl h)).trans (Kpt.of_upd n (.inr rfl))
 have X:X3 i σ1:=(Kpt.of_upd (D:=fun k=>k=o) n rfl).sat O.2.1 fun k hk=>hk▸H
 unfold Vl at h
 cases ho:C9 s.1 m.name with
 | none=>
  rw[ho] at h
  simp only[Option.isSome_none,↓M2,M2,Mb,reduceIte]
  exact h i z J ab
 | some x=>
  rw[ho] at h
  simp only[Option.isSome_some,Option.getD_some,↓M2,M2,Mb,reduceIte]
  refine Y4 X R rfl ?_
  refine Q9j X (RMe_lift U ⟨f.le⟩) ac hn fun w4 σ4 M=>?_
  simp only[↓M2,M2,Mb,reduceIte]
  exact h w4 (z.trans (Kpt.of_below M.bel)) (J.of_below M.bel) (ab.of_below M.bel))
end Go.Proofs.YtjdiakhipmggjaaGreatDoor

namespace Go.Hm
open Go.Kd Go.Emb
def Sa (s:B7×B7) (c:Cla):Bool×(B7×B7):=((J5 (Vl c.name) s c.methods 0).1.isSome,(J5 (Vl c.name) s c.methods 0).2)
def Ri (a:List Hm.Met):Prop:= ∃x∈a,∃y∈a,x.name=y.name∧Qw x≠Qw y
theorem Q4u (a:List Hm.Met):Mh a=true↔Ri a:=by
 simp[Mh,Ri]
structure Gd (pre : List Hm.Met) (s : B7 × B7) : Prop where
  a : ∀ m ∈ pre, C9 s.1 m.name = some (Qw m)
  b : ∀ k x, C9 s.1 k = some x → ∃ m ∈ pre, m.name = k ∧ Qw m = x
  c : ∀ k, (C9 s.2 k).isSome = true ↔ ∃ m ∈ pre, m.name = k
theorem Gd.no {b:List Hm.Met} {s:B7×B7} (h:Gd b s): ¬Ri b:=by
 rintro ⟨x,f,y,g,d,i⟩
 have c:=h.a x f
 have e:=h.a y g
 rw[d,e] at c
 exact i (Option.some.inj c).symm
theorem Gd.step {g:List Hm.Met} {s:B7×B7} (h:Gd g s) (d:X0) (m:Hm.Met):((Vl d s m).1=true→Ri (g++[m]))∧((Vl d s m).1=false→Gd (g++[m]) (Vl d s m).2):=by
 unfold Vl
 constructor
 ·intro i
  cases o:C9 s.1 m.name with
  | none=>rw[o] at i;cases i
  | some x=>
   rw[o] at i
   obtain ⟨y,hy,f,p⟩:=h.b _ _ o
   exact ⟨y,by simp[hy],m,by simp,f,by rw[p];simpa using i⟩
 ·intro i
  have j: ∀x,C9 s.1 m.name=some x→x=Qw m:=fun x n=>by rw[n] at i;simpa using i
  refine ⟨fun y hy=>?_,fun k x n=>?_,fun k=>?_⟩
  ·simp only[Q0s]
   rcases List.mem_append.1 hy with hy | hy
   ·have:=h.a y hy
    by_cases e:m.name=y.name
    ·rw[if_pos e];congr 1;exact (j _ (by rw[e];exact this)).symm
    ·rw[if_neg e];exact this
   ·simp at hy;subst hy;simp
  ·simp only[Q0s] at n
   by_cases e:m.name=k
   ·rw[if_pos e] at n;cases n;exact ⟨m,by simp,e,rfl⟩
   ·rw[if_neg e] at n
    obtain ⟨y,hy,f⟩:=h.b _ _ n
    exact ⟨y,by simp[hy],f⟩
  ·simp only[Q0s]
   by_cases e:m.name=k
   ·rw[if_pos e];exact ⟨fun _=>⟨m,by simp,e⟩,fun _=>rfl⟩
   ·rw[if_neg e,h.c k]
    constructor
    ·rintro ⟨y,hy,f⟩;exact ⟨y,by simp[hy],f⟩
    ·rintro ⟨y,hy,f⟩
     rcases List.mem_append.1 hy with hy | hy
     ·exact ⟨y,hy,f⟩
     ·simp at hy;subst hy;exact absurd f e
theorem Ri.mono {a b:List Hm.Met} (h:Ri a) (c: ∀x∈a,x∈b):Ri b:=by
 obtain ⟨x,d,y,f,e⟩:=h
 exact ⟨x,c x d,y,c y f,e⟩
theorem Q39 (d:X0): ∀(b a:List Hm.Met) (s:B7×B7) (i:Nat),Gd a s→((J5 (Vl d) s b i).1.isSome=true→Ri (a++b))∧((J5 (Vl d) s b i).1.isSome=false→Gd (a++b) (J5 (Vl d) s b i).2)
 | [],a,s,i,h=>by simpa [J5] using h
 | m::r,a,s,i,h=>by
  obtain ⟨j,g⟩:=h.step d m
  simp only[J5]
  cases c:(Vl d s m).1 with
  | true=>
   simp only[if_true,Option.isSome_some]
   exact ⟨fun _=>(j c).mono fun x f=>by simp at f⊢;rcases f with h | h<;>simp[h],fun e=>by cases e⟩
  | false=>
   simp only[Bool.false_eq_true,if_false]
   have:=Q39 d r (a++[m]) (Vl d s m).2 (i+1) (g c)
   rw[show a++m::r=(a++[m])++r by simp]
   exact this
theorem Q3v: ∀(cs:List Cla) (a:List Hm.Met) (s:B7×B7) (i:Nat),Gd a s→((J5 Sa s cs i).1.isSome=true→Ri (a++cs.flatMap (·.methods)))∧((J5 Sa s cs i).1.isSome=false→Gd (a++cs.flatMap (·.methods)) (J5 Sa s cs i).2)
 | [],a,s,i,h=>by simpa [J5] using h
 | c::r,a,s,i,h=>by
  obtain ⟨f,d⟩:=Q39 c.name c.methods a s 0 h
  simp only[J5]
  cases b:(Sa s c).1 with
  | true=>
   simp only[if_true,Option.isSome_some]
   exact ⟨fun _=>(f b).mono (by simp;intro x hx;rcases hx with hx | hx;exact .inl hx;exact .inr (.inl hx)),fun e=>by cases e⟩
  | false=>
   simp only[Bool.false_eq_true,if_false]
   have:=Q3v r (a++c.methods) (Sa s c).2 (i+1) (d b)
   rw[List.flatMap_cons,←List.append_assoc]
   exact this
theorem X2J:Gd [] ([],[]):=⟨by simp,by simp[C9],by simp[C9]⟩
theorem Q85 (l:List Cla) (n:X0):Lu l n=(Mv l n).flatMap (·.methods):=by
 unfold Lu Mv
 induction G2 l n with
 | nil=>rfl
 | cons u r a=>
  rw[List.flatMap_cons,List.filterMap_cons]
  cases b:lk l u with
  | none=>simpa [b] using a
  | some c=>simp only[Option.map_some,Option.getD_some,List.flatMap_cons];rw[a]
end Go.Hm
namespace Go.Emb
open Go.RowKit Go.Hm
variable {P : Program} {w w0 w1 w' w'' : World} {K : Value → World → Prop} {σ σ0 σ1 σ' : Q6}
def It (σ:Q6) (w:World) (b r:Nat) (d:Array MapEntry) (a:Nat) (c:Array Nat):Prop:=σ b=none∧ ∃c0,a≤c0∧w.heap[b]? =some (.mapIter (some r) a c c0)
theorem It.step {b r:Nat} {d:Array MapEntry} {a:Nat} {c:Array Nat} (h:It σ w b r d a c) (k:Stp w σ w' σ'):It σ' w' b r d a c:=by
 obtain ⟨i,c0,g,f⟩:=h
 have e:=(Array.getElem?_eq_some_iff.1 f).1
 exact ⟨(k.old b e).trans i,c0,g,(k.bel.block b e).trans f⟩
theorem X3J {t e g:TypeId} [tm:TM P t e g] {r:Nat} {c:Array MapEntry} {a:Nat} (d:X3 w σ) (f:w.heap[r]? =some (.map c a))
 (h: ∀b w' σ',w.heap.size≤b→Stp w σ w' σ'→It σ' w' b r c a #[]→K (.pointer (some ⟨b,0,none⟩)) w'):rng P t (.map (some r)) w K:=by
 unfold rng
 have i:(getObj r).run P w= .ok (.map c a) w:=by simp[getObj,Sem.run,f]
 rw[X9 (v:= .pointer (some ⟨w.heap.size,0,none⟩)) (w':=w.alloc (.mapIter (some r) a #[] a)) (by
  simp only[Instr.range,Sem.run_bind,run_underlying tm.h,Result.andThen_ok,i,Sem.run_pure]
  simp)]
 exact h _ _ _ (Nat.le_refl _) (Stp.own d _) ⟨d.none (Nat.le_refl _),a,Nat.le_refl _,heap_alloc_new w _⟩
theorem X3y {t:TypeId} {b r:Nat} {es:Array MapEntry} {clock:Nat} {seen:Array Nat} (hi:It σ w b r es clock seen) (hm:w.heap[r]? =some (.map es clock)) (hold: ∀x∈es.toList,x.born<clock)
 (h0:(∀e∈es.toList,e.born∈seen)→K (.tuple #[.bool false]) w)
 (h1: ∀e w',e∈es.toList→e.born∉seen→Kpt (fun k=>k=b) w w'→It σ w' b r es clock (seen.push e.born)→w'.heap[b]? =some (.mapIter (some r) clock (seen.push e.born) clock)→K (.tuple #[.bool true,e.key,e.val]) w'):W4 P (.pointer (some ⟨b,0,none⟩)) false t w K:=by
 obtain ⟨hb,c0,hc,hh⟩:=hi
 unfold W4
 rcases run_next_at (P:=P) w t b r clock c0 seen es clock hh hm hold hc with ⟨hz,hrun⟩ | ⟨e,he,w1,hw1,hrun⟩
 ·rw[X9 hrun]
  refine h0 fun e he=>Classical.byContradiction fun hn=>?_
  have:e∈(leftOf es seen).toList:=by
   unfold leftOf
   simp only[Array.toList_filter,List.mem_filter]
   exact ⟨he,by simpa using hn⟩
  have hl:(leftOf es seen).toList.length=0:=by simpa using hz
  rw[List.eq_nil_of_length_eq_zero hl] at this
  cases this
 ·rw[X9 hrun]
  have he':e∈es.toList∧e.born∉seen:=by
   unfold leftOf at he
   simp only[Array.toList_filter,List.mem_filter] at he
   exact ⟨he.1,by simpa using he.2⟩
  have hh1:w1.heap[b]? =some (.mapIter (some r) clock seen c0):=by rcases hw1 with rfl | rfl<;>exact hh
  obtain ⟨u1,u2⟩:=Q3T (w:=w1) (o:= .mapIter (some r) clock (seen.push e.born) clock) hh1
  refine h1 e _ he'.1 he'.2 ?_ ⟨hb,clock,Nat.le_refl _,u2⟩ u2
  have k1:Kpt (fun k=>k=b) w w1:=by
   rcases hw1 with rfl | rfl
   ·exact Kpt.refl
   ·exact .of_below (Below.refl _ _).drew
  exact k1.trans (Kpt.of_upd u1 rfl)
theorem X3p {b r:Nat} {d:Array MapEntry} {a:Nat} {c:Array Nat} {e:MapEntry} (hh:w.heap[b]? =some (.mapIter (some r) a (c.push e.born) a)) (g:w.heap[r]? =some (.map d a)) (f:e∈d.toList) (i:(d.toList.map (·.born)).Nodup)
 (h:K (.tuple #[e.key,e.val]) w):Q8q P (.pointer (some ⟨b,0,none⟩)) w K:=by
 unfold Q8q
 rw[X9 (run_entry_at w b r a c d a e hh g f i)]
 exact h
end Go.Emb
namespace Go.Proofs.YtjdiakhipmggjaaGreatDoor
open Go.Emb Go.RowKit Go.Kd Go.Hm
variable {w : World} {K : Value → World → Prop} {σ : Q6} {v : Value} {l : List Cla}
theorem A0 (o:Option Nat):decide ((0:Int)≤L5 o)=o.isSome:=by
 cases o with
 | none=>rfl
 | some i=>simp[L5]
theorem Q3V {q:Addr} {s:X0} (c:X3 w σ) (g:Tab σ v l) (d:Z5 σ q [v]) (f:s.length≤U1) (h: ∀w' σ',Stp w σ w' σ'→K (.bool (O8 l s)) w'):Z3 P (.func (.func F.an) #[] #[.pointer (some q)]) [S s] w K:=Z7 (Rp (by
 unfold Ua
 unfold O8 at h
 refine Jf ?_
 by_cases a:s=H9
 ·have e:decide (s=[110,117,108,108])=true:=decide_eq_true a
  simp only[e,decide_eq_true a,↓M2,M2,Mb,reduceIte] at h⊢
  exact h _ _ (Stp.refl c)
 ·have e:decide (s=[110,117,108,108])=false:=decide_eq_false a
  simp only[e,decide_eq_false a,↓M2,M2,Mb,reduceIte] at h⊢
  refine X7 c d rfl ?_
  refine Q1a c g f fun w1 σ1 b=>?_
  (try simp only[↓M2,M2,Mb,reduceIte])
  exact h _ _ b))
theorem Q8P {q p:Addr} {s:X0} (b:X3 w σ) (e:Tab σ v l) (c:Z5 σ q [v]) (f:Z5 σ p [.func (.func F.an) #[] #[.pointer (some q)]]) (d:s.length≤U1) (h: ∀w' σ',Stp w σ w' σ'→K (.bool (!O8 l s)) w'):Z3 P (.func (.func F.ao) #[] #[.pointer (some p)]) [S s] w K:=Z7 (Sd (by
 unfold Ue
 refine X7 b f rfl ?_
 refine Q3V b e c d fun w1 σ1 a=>?_
 refine Wj ?_
 exact h _ _ a))
theorem Q6E {c:Cla} {cs:List Value} {pa J:Addr} {b e:Nat} {s:B7×B7} (V:X3 w σ) (M:V0 σ c cs) (B:Qj c) (W:Nm c) (y:Z5 σ pa [.map (some b)]) (p:Z5 σ J [.map (some e)])
 (r:σ b=none) (A:σ e=none) (t:b≠e) (n:H5 (w.heap[b]?) (vals s.1)) (i:H5 (w.heap[e]?) (vals s.2))
 (h: ∀w',Kpt (fun k=>k=b∨k=e) w w'→H5 (w'.heap[b]?) (vals (Sa s c).2.1)∧H5 (w'.heap[e]?) (vals (Sa s c).2.2)→K (.bool (Sa s c).1) w'):
 Z3 P (.func (.func F.b1) #[] #[.pointer (some pa), .pointer (some J)]) [.agg cs.toArray] w K:=Z7 (Se (by
 obtain ⟨lv,Y,mv,rfl,g1,g2,X,g4,Z⟩:=M
 unfold Ud
 refine Z0 V fun q w1 σ1 a D=>?_
 rw[fa]
 refine ld a.sat D rfl ?_
 rw[Qh]
 have u:=n.lt
 have z:=i.lt
 have j:σ1 b=none:=(a.old b u).trans r
 have o:σ1 e=none:=(a.old e z).trans A
 refine Jd (Vl c.name) s (fun s w'=>X3 w' σ1∧H5 (w'.heap[b]?) (vals s.1)∧H5 (w'.heap[e]?) (vals s.2)) (fun k=>k=b∨k=e) (fun _ _ h=>h.1) ⟨a.sat,n.of_below a.bel,i.of_below a.bel⟩ (X.up a)
  (fun s x cs E K H f g L C Q=>Z7 ?_) fun E f g=>?_
 ·refine X3W (s:=s) (d:=c.name) g.1 L (B.2.2.2 x H) (W.2.2 x H) (y.up a) (p.up a) D j o t g.2.1 g.2.2 fun O m U N=>?_
  exact Q O (f.trans m) ⟨m.sat g.1 fun k R=>by rcases R with rfl | rfl<;>assumption,U,N⟩
 ·exact h E ((Kpt.of_below a.bel).trans f) g.2))
end Go.Proofs.YtjdiakhipmggjaaGreatDoor

namespace Go.Emb
open Go.RowKit Go.Hm
theorem Stp.nx {D:Nat→Prop} {w w1 f:World} {σ σ1 g:Q6} (a:Stp w σ w1 σ1) (c:Nxt D w1 σ1 f g) (hD: ∀k,D k→w.heap.size≤k):Stp w σ f g:=
 ⟨⟨c.kp.os.trans a.bel.os,c.kp.tape.trans a.bel.tape,c.kp.output.trans a.bel.output,Nat.le_trans a.bel.size c.kp.size,fun k d=>(c.kp.block k (Nat.lt_of_lt_of_le d a.bel.size) fun e=>by have:=hD k e;omega).trans (a.bel.block k d)⟩,
  c.sat,fun b o e=>c.le.le b o (a.le b o e),fun k d=>(c.old k (Nat.lt_of_lt_of_le d a.bel.size)).trans (a.old k d)⟩
end Go.Emb
namespace Go.Hm
open Go.Kd Go.Emb
theorem X1y {d:Array MapEntry} {m:B7} (h:d.toList.map (fun e=>(e.key,e.val))=(vals m).map (fun p=>(S p.1,p.2))):
 (∀e∈d.toList,∃k,e.key=S k∧(C9 m k).isSome=true)∧ ∀k,(C9 m k).isSome=true→ ∃e∈d.toList,e.key=S k:=by
 have a: ∀(m:B7) k,(C9 m k).isSome=true↔k∈m.map (·.1):=by
  intro m
  induction m with
  | nil=>intro k;simp[C9]
  | cons p r n=>
   intro k
   simp only[C9,List.map_cons,List.mem_cons]
   by_cases e:p.1=k
   ·simp[e]
   ·rw[if_neg e,n k]
    constructor
    ·exact .inr
    ·rintro (h | h)
     ·exact absurd h.symm e
     ·exact h
 constructor
 ·intro e f
  have b:(e.key,e.val)∈d.toList.map (fun e=>(e.key,e.val)):=List.mem_map.2 ⟨e,f,rfl⟩
  rw[h] at b
  obtain ⟨p,j,c⟩:=List.mem_map.1 b
  obtain ⟨q,g,rfl⟩:=List.mem_map.1 j
  simp only[Prod.mk.injEq] at c
  exact ⟨q.1,c.1.symm,(a m _).2 (List.mem_map.2 ⟨q,g,rfl⟩)⟩
 ·intro k i
  obtain ⟨q,g,rfl⟩:=List.mem_map.1 ((a m k).1 i)
  have b:(S q.1,S q.2)∈(vals m).map (fun p=>(S p.1,p.2)):=List.mem_map.2 ⟨(q.1,S q.2),List.mem_map.2 ⟨q,g,rfl⟩,rfl⟩
  rw[←h] at b
  obtain ⟨e,f,c⟩:=List.mem_map.1 b
  simp only[Prod.mk.injEq] at c
  exact ⟨e,f,c.1⟩
def Eg (l:List Cla) (m:Hm.Met):Bool:=(!O8 l m.result&& !decide (m.result=[]))||m.params.any fun s=> !O8 l s
end Go.Hm
namespace Go.Proofs.YtjdiakhipmggjaaGreatDoor
open Go.Emb Go.RowKit Go.Kd Go.Hm
variable {w : World} {K : Value → World → Prop} {σ : Q6} {v : Value} {l : List Cla}
set_option maxHeartbeats 1000000 in
theorem Q8V {c:Cla} {cs:List Value} (hs:X3 w σ) (ht:Tab σ v l) (ok:Ok l) (hc:V0 σ c cs) (fz:Qj c) (hn:Nm c) (h: ∀w' W,Stp w σ w' W→K (I (V7 l c)) w'):Q1 P F.b7 [v, .agg cs.toArray] w K:=Fg (by
 obtain ⟨lv,fv,mv,rfl,g1,g2,g3,g4,g5⟩:=hc
 unfold Wc
 obtain ⟨a,_,_,_,hv,_⟩:=ht.ex
 unfold V7 at h
 refine U5 hs (by rw[hv];rfl) fun q2 w1 σ1 a5 y=>?_
 refine Z0 a5.sat fun q3 w2 σ2 av A=>?_
 have ed:=a5.trans av
 have y:=y.up av
 have g1:=(g1.up a5).up av
 have g2:=(g2.up a5).up av
 have g3:=(g3.up a5).up av
 have a6:=g2.max
 have cc:=g3.max
 rw[fa]
 refine ld av.sat A rfl ?_
 refine Q8 g2 ?_
 refine U2 c.fields.length (fun n w'=> ∃W,Stp w σ w' W∧SLe σ2 W∧((c.fields.take n).any fun f=>(Uf l c.super f.name).isSome)=false) ⟨σ2,ed,SLe.refl _,by simp⟩ fun n w3 d a9 af=>?_
 obtain ⟨σ3,a7,b7,H⟩:=af
 refine Y9 ?_
 refine Q7 (fun hh=>?_) (fun hh=>?_)
 ·have g:n<c.fields.length:=by simpa using hh
  refine Q9w (g2.lift b7) g fun p aq ab=>?_
  refine Y4 a7.sat aq rfl ?_
  refine Y8 a7.sat (by rfl) rfl (Rep.one ab) fun q4 w4 σ4 V dy=>?_
  have aa:SLe σ2 σ4:=b7.more ⟨V.le⟩
  have ay:=a7.trans V
  refine X7 V.sat (y.lift aa) rfl ?_
  rw[fa]
  refine ld V.sat (A.lift aa) rfl ?_
  rw[fa]
  refine ld V.sat dy rfl ?_
  refine X29 V.sat (ht.lift ⟨ay.le⟩) ok.acy ok.len ok.sm fun w5 σ5 b6=>?_
  refine K9 ?_
  rw[A0]
  refine Q7 (fun ak=>?_) (fun ak=>?_)
  ·have:Yo l c=true:=C2 g ak
   rw[if_pos this] at h
   exact h _ _ (ay.trans b6)
  ·refine N0 ?_
   refine Y5 a6 g ⟨σ5,ay.trans b6,aa.more ⟨b6.le⟩,?_⟩
   rw[L2 g,H,ak];rfl
 have g: ¬n<c.fields.length:=by simpa using hh
 rw[E3 g] at H
 have el:Yo l c=false:=H
 rw[if_neg (by rw[el];simp)] at h
 rw[Qh]
 clear H hh g a9
 refine U7 a7.sat (by rfl) rfl rfl fun q7 w4 σ4 V bb=>?_
 have aa:SLe σ2 σ4:=b7.more ⟨V.le⟩
 have ay:=a7.trans V
 have y:=y.lift aa
 have A:=A.lift aa
 have g1:=g1.lift aa
 have g2:=g2.lift aa
 have g3:=g3.lift aa
 rw[fa]
 refine ld V.sat A rfl ?_
 refine Q8 g2 ?_
 refine U2 c.fields.length (fun n w'=> ∃W,Stp w σ w' W∧SLe σ4 W∧((c.fields.take n).any fun f=> !O8 l f.kind)=false) ⟨σ4,ay,SLe.refl _,by simp⟩ fun n w5 d a9 af=>?_
 obtain ⟨σ5,a3,ar,H⟩:=af
 refine Y9 ?_
 refine Q7 (fun hh=>?_) (fun hh=>?_)
 ·have g:n<c.fields.length:=by simpa using hh
  refine Q9w (g2.lift ar) g fun p aq ab=>?_
  refine Y4 a3.sat aq rfl ?_
  refine Y8 a3.sat (by rfl) rfl (Rep.one ab) fun q9 w6 σ6 a4 d8=>?_
  have aj:SLe σ4 σ6:=ar.more ⟨a4.le⟩
  have O:=a3.trans a4
  refine X7 a4.sat (bb.lift aj) rfl ?_
  rw[fa]
  refine ld a4.sat d8 rfl ?_
  refine Q3V a4.sat (ht.lift ⟨O.le⟩) (y.lift aj) ab.2.2 fun w7 σ7 E=>?_
  refine Wj ?_
  refine Q7 (fun ak=>?_) (fun ak=>?_)
  ·have:F2 l c=true:=by
    unfold F2
    rw[C2 (p:=fun f:Fld=> !O8 l f.kind) g ak];rfl
   rw[if_pos this] at h
   exact h _ _ (O.trans E)
  ·refine N0 ?_
   refine Y5 a6 g ⟨σ7,O.trans E,aj.more ⟨E.le⟩,?_⟩
   rw[L2 g,H,ak];rfl
 have g: ¬n<c.fields.length:=by simpa using hh
 rw[E3 g] at H
 have d4:=H
 clear H hh g a9
 have y:=y.lift ar
 have A:=A.lift ar
 have bb:=bb.lift ar
 have g3:=g3.lift ar
 rw[fa]
 refine ld a3.sat A rfl ?_
 refine Q8 g3 ?_
 refine U2 c.methods.length (fun n w'=> ∃W,Stp w σ w' W∧SLe σ5 W∧((c.methods.take n).any (Eg l))=false) ⟨σ5,a3,SLe.refl _,by simp⟩ fun n w6 d a9 af=>?_
 obtain ⟨σ6,O,aj,H⟩:=af
 refine Y9 ?_
 refine Q7 (fun hh=>?_) (fun hh=>?_)
 ·have g:n<c.methods.length:=by simpa using hh
  refine M7 (g3.lift aj) g fun p cells aq c1 ab=>?_
  refine Y4 O.sat aq c1 ?_
  refine Y8 O.sat (by rfl) c1 (Rep.one ab) fun fi w7 σ7 E X=>?_
  obtain ⟨pv,cv,fl,rfl,m1,m2,m3,m4,m5,m6⟩:=ab
  have cl:SLe σ5 σ7:=aj.more ⟨E.le⟩
  have dp:=O.trans E
  have B:Eg l c.methods[n]=true→ ∀{w8:World} {Z:Q6},Stp w σ w8 Z→K (.int .i64 65) w8:=fun hb w8 Z q=>by
   have:F2 l c=true:=by
    unfold F2
    have:=C2 (p:=Eg l) g hb
    unfold Eg at this
    rw[this,Bool.or_true]
   rw[if_pos this] at h
   exact h _ _ q
  have z:Eg l c.methods[n]=false→ ∀{w8:World} {Z:Q6},Stp w σ w8 Z→SLe σ5 Z→UpI c.methods.length (fun n w'=> ∃W,Stp w σ w' W∧SLe σ5 W∧((c.methods.take n).any (Eg l))=false) (.int .i64 (IntKind.i64.wrap (n+1))) w8∧UpM c.methods.length (.int .i64 (IntKind.i64.wrap (n+1)))<UpM c.methods.length (I n):=fun hb w8 Z q ac=>
   Y5 cc g ⟨Z,q,ac,by rw[L2 g,H,hb];rfl⟩
  unfold Eg at B z
  refine X7 E.sat (bb.lift cl) rfl ?_
  rw[fa]
  refine ld E.sat X rfl ?_
  refine Q3V E.sat (ht.lift ⟨dp.le⟩) (y.lift cl) m5 fun w8 Z M=>?_
  have q:=dp.trans M
  have ac:SLe σ5 Z:=cl.more ⟨M.le⟩
  have X:=X.up M
  have m1:=(m1.up E).up M
  -- what the parameters come to
  have bp: ∀{w8:World} {Z:Q6} {K:Value→World→Prop},Stp w σ w8 Z→SLe σ5 Z→Sl 1 U8 Z pv c.methods[n].params→(∀w' W,Stp w8 Z w' W→K (.bool (c.methods[n].params.any fun s=> !O8 l s)) w')→Q1 P F.c [pv, .func (.func F.ao) #[] #[.pointer (some q7)]] w8 K:=by
   intro w8 Z K q ac m1 hK
   refine P6 (fun s=> !O8 l s) q.sat m1 (fun x w9 K _ d0 hx dx=>Q8P d0 (ht.lift ⟨q.le⟩) (y.lift ac) (bb.lift ac) hx fun w' W hk=>dx w' hk.bel) fun w9 hb=>hK w9 Z (Stp.of_below q.sat hb)
  cases e1:O8 l c.methods[n].result with
  | true=>
   rw[e1] at B z
   simp only[↓M2,M2,Mb,reduceIte]
   refine ld M.sat X rfl ?_
   (try simp only[↓M2,M2,Mb,reduceIte])
   refine bp q ac m1 fun w9 σ9 J=>?_
   cases e2:c.methods[n].params.any fun s=> !O8 l s with
   | true=>
    rw[e2] at B
    simp only[↓M2,M2,Mb,reduceIte]
    exact B rfl (q.trans J)
   | false=>
    rw[e2] at z
    simp only[↓M2,M2,Mb,reduceIte]
    exact z rfl (q.trans J) (ac.more ⟨J.le⟩)
  | false=>
   rw[e1] at B z
   simp only[↓M2,M2,Mb,reduceIte]
   refine ld M.sat X rfl ?_
   simp only[↓M2,M2,Mb,reduceIte]
   by_cases e3:c.methods[n].result=[]
   ·rw[decide_eq_true e3] at B z
    simp only[decide_eq_true e3,↓M2,M2,Mb,reduceIte]
    refine ld M.sat X rfl ?_
    (try simp only[↓M2,M2,Mb,reduceIte])
    refine bp q ac m1 fun w9 σ9 J=>?_
    cases e2:c.methods[n].params.any fun s=> !O8 l s with
    | true=>
     rw[e2] at B
     simp only[↓M2,M2,Mb,reduceIte]
     exact B rfl (q.trans J)
    | false=>
     rw[e2] at z
     simp only[↓M2,M2,Mb,reduceIte]
     exact z rfl (q.trans J) (ac.more ⟨J.le⟩)
   ·rw[decide_eq_false e3] at B
    simp only[decide_eq_false e3,↓M2,M2,Mb,reduceIte]
    exact B rfl q
 have g: ¬n<c.methods.length:=by simpa using hh
 rw[E3 g] at H
 have cb:F2 l c=false:=by
  unfold F2
  unfold Eg at H
  rw[d4,H];rfl
 rw[if_neg (by rw[cb];simp)] at h
 clear H hh g a9
 have y:=y.lift aj
 have A:=A.lift aj
 refine Q2Z O.sat fun r1 w7 ab E t=>?_
 refine Q2Z E.sat fun N w8 ek M u=>?_
 have aq:=t.lt
 have t:=t.up M
 have ee:r1≠N:=by omega
 have q:=(O.trans E).trans M
 have e8:w.heap.size≤r1:=Nat.le_trans O.bel.size ab
 have ew:w.heap.size≤N:=M8 ek (O.trans E)
 refine M9 M.sat fun b1 w9 σ9 d3 J D=>?_
 refine M9 J.sat fun b2 ej fg ea ah C=>?_
 have ep:=D.lt
 have ey:=t.lt
 have et:=u.lt
 have t:=(t.up J).up ah
 have u:=(u.up J).up ah
 have D:=D.up ah
 have ct:=(q.trans J).trans ah
 have bq:w.heap.size≤b1:=M8 d3 q
 have bz:w.heap.size≤b2:=M8 ea (q.trans J)
 refine st0 D (by simp[Value.cells]) rfl rfl fun dh cd D=>?_
 have cz:=cd.stp ct bq D.1
 have C:=C.upd cd (by omega)
 have dj:Kpt (fun k=>k=b1) ej dh:=Kpt.of_upd cd rfl
 have t:=t.kp dj (by omega)
 have u:=u.kp dj (by omega)
 refine st0 C (by simp[Value.cells]) rfl rfl fun aw cf C=>?_
 have c8:=cf.stp cz bz C.1
 have D:=D.upd cf (by omega)
 have c6:Kpt (fun k=>k=b2) dh aw:=Kpt.of_upd cf rfl
 have t:=t.kp c6 (by omega)
 have u:=u.kp c6 (by omega)
 obtain ⟨ca,dc,a2,dn,am⟩:=D.keep c8 bq
 have C:Y2 ca aw b2 _:=⟨(am b2 (by omega)).trans C.1,C.2⟩
 have t:B1 ca aw r1 []:=⟨(am r1 (by omega)).trans t.1,t.2⟩
 have u:B1 ca aw N []:=⟨(am N (by omega)).trans u.1,u.2⟩
 obtain ⟨az,ai,bg,bs,bc⟩:=C.keep dc bz
 have t:B1 az aw r1 []:=⟨(bc r1 (by omega)).trans t.1,t.2⟩
 have u:B1 az aw N []:=⟨(bc N (by omega)).trans u.1,u.2⟩
 have a2:=a2.le bs
 have a2:Z5 az ⟨b1,0,none⟩ [.map (some r1)]:=a2
 have bg:Z5 az ⟨b2,0,none⟩ [.map (some N)]:=bg
 have c2:SLe σ6 az:=⟨fun b o e=>bs b o (dn b o (ah.le b o (J.le b o (M.le b o (E.le b o e)))))⟩
 clear D C
 have y:=y.lift c2
 have A:=A.lift c2
 refine X7 ai.sat y rfl ?_
 rw[fa]
 refine ld ai.sat A rfl ?_
 rw[Qh]
 refine Q7i Sa ([],[]) (fun s w'=>H5 (w'.heap[r1]?) (vals s.1)∧H5 (w'.heap[N]?) (vals s.2)) (fun k=>k=r1∨k=N) ai.sat (ht.lift ⟨ai.le⟩) ok.len ok.sm g4
  (fun k hk=>by rcases hk with rfl | rfl;exact ⟨t.lt,t.1⟩;exact ⟨u.lt,u.1⟩) (fun s wa wb hi hk=>by rw[hk r1 (.inl rfl),hk N (.inr rfl)];exact hi) ⟨t.2,u.2⟩
  (fun s d ds wa σa K le dz cx hi hr em hK=>?_) fun fj b9 ae bu=>?_
 ·have c5:=(V3 em).2.1
  exact Q6E dz hr (ok.sm d c5) (ok.nm d c5) (a2.lift le) (bg.lift le) (cx r1 (.inl rfl)) (cx N (.inr rfl)) ee hi.1 hi.2 hK
 have U:=ai.nx ae fun k hk=>by rcases hk with rfl | rfl<;>assumption
 obtain ⟨c3,db⟩:=Q3v (Mv l c.name) [] ([],[]) 0 X2J
 rw[List.nil_append,←Q85] at c3 db
 cases di:(J5 Sa ([],[]) (Mv l c.name) 0).1.isSome with
 | true=>
  have:Zl l c=true:=(Q4u _).2 (c3 di)
  rw[if_pos this] at h
  refine Z9 ?_
  exact h _ _ U
 | false=>
  have bj:=db di
  have:Zl l c=false:=by
   cases e:Zl l c with
   | false=>rfl
   | true=>exact absurd ((Q4u _).1 e) bj.no
  rw[if_neg (by rw[this];simp)] at h
  refine Z4 ?_
  have y:=y.lift ae.le
  have A:=A.lift ae.le
  rw[fa]
  refine ld U.sat A rfl ?_
  unfold Dn at h
  cases cw:c.abs with
  | true=>
   rw[cw] at h
   refine Z9 ?_
   exact h _ _ U
  | false=>
   rw[cw] at h
   simp only[Bool.not_false,Bool.true_and] at h
   refine Z4 ?_
   refine X7 U.sat (bg.lift ae.le) rfl ?_
   generalize fk:(J5 Sa ([],[]) (Mv l c.name) 0).2=st at bj bu
   obtain ⟨es,al,e1,e2,e3,e4⟩:=bu.2
   have c0:b9 N=none:=(ae.old N u.lt).trans u.1
   obtain ⟨cq,dq⟩:=X1y e2
   refine X3J (tm:=inferInstance) U.sat e1 fun ib fb eh ei an ec=>?_
   have br:=(Array.getElem?_eq_some_iff.1 e1).1
   refine Pd (fun d _ w'=> ∃(W:Q6) (Q:Array Nat),d=es.toList.countP (fun e=> !Q.contains e.born)∧Stp w σ w' W∧SLe b9 W∧W N=none∧w'.heap[N]? =some (.map es al)∧It W w' ib N es al Q∧ ∀e∈es.toList,e.born∈Q→ ∀k,e.key=S k→Zf l c.name k=false) _
    ⟨eh, #[],rfl,U.trans an,⟨an.le⟩,(an.old N br).trans c0,(an.bel.block N br).trans e1,ec,by simp⟩ ?_
   rintro ck d x dd fy ⟨dl,Q,rfl,b3,ao,cr,ba,be,bd⟩ dw
   have c9:w.heap.size≤ib:=Nat.le_trans U.bel.size ei
   refine X3y be ba e4 (fun de=>?_) fun e c4 bi a8 bx b8 da=>?_
   ·refine J6 (vs:=[_]) rfl ?_
    refine Z4 ?_
    have:((Lu l c.name).any fun m=>Zf l c.name m.name)=false:=by
     rw[List.any_eq_false]
     intro m hm
     obtain ⟨e,he,bh⟩:=dq m.name ((bj.c m.name).2 ⟨m,hm,rfl⟩)
     rw[bd e he (de e he) _ bh];simp
    rw[this] at h
    exact h _ _ b3
   ·refine J6 (vs:=[_,_,_]) rfl ?_
    refine Z9 ?_
    have ap:c4.heap[N]? =some (.map es al):=by
     rw[bx.block N (Array.getElem?_eq_some_iff.1 ba).1 (by omega)];exact ba
    have b5:=be.1
    have ag:Stp w σ c4 dl:=b3.kp bx fun k hk=>by rw[hk];exact ⟨c9,b5⟩
    refine X3p da ap bi (e3.imp fun ce=>Nat.ne_of_lt ce) ?_
    refine J6 (vs:=[_,_]) rfl ?_
    obtain ⟨k,bh,ef⟩:=cq e bi
    have e5:SLe b9 dl:=ao
    refine X7 ag.sat (y.lift ao) rfl ?_
    rw[fa]
    refine ld ag.sat (A.lift ao) rfl ?_
    rw[bh]
    refine X0Z ag.sat (ht.lift ⟨ag.le⟩) ok fun pv cv hv fh fc L cu=>?_
    refine J6 (vs:=[_,_,_]) rfl ?_
    refine J6 (vs:=[_,_,_]) rfl ?_
    refine J6 (vs:=[_,_,_]) rfl ?_
    refine Y8 L.sat (by rfl) rfl (Rep.one cu) fun fm d9 d7 Y bw=>?_
    have a1:=(ag.trans L).trans Y
    have R:Zf l c.name k=true→ ∀{w8:World} {Z:Q6},Stp w σ w8 Z→K (.int .i64 67) w8:=fun hb w8 Z q=>by
     obtain ⟨m,hm,cb⟩:=(bj.c k).1 ef
     have:((Lu l c.name).any fun m=>Zf l c.name m.name)=true:=List.any_eq_true.2 ⟨m,hm,by rw[cb];exact hb⟩
     rw[this] at h
     exact h _ _ q
    have ci:Zf l c.name k=false→ck () d9:=fun hb=>by
     have df: ∀e':MapEntry,e'.born∈Q.push e.born↔e'.born∈Q∨e'.born=e.born:=fun e'=>by simp
     refine dw _ _ _ ?_ ⟨d7,Q.push e.born,rfl,a1,ao.more ⟨fun b o h=>Y.le _ _ (L.le _ _ h)⟩,?_,?_,(b8.step L).step Y,fun e' c7 eo k' cg=>?_⟩
     ·refine Q4n (fun x _ hx=>?_) ⟨e,bi,?_,?_⟩
      ·simp only[Bool.not_eq_true',Array.contains_push,Bool.or_eq_false_iff] at hx⊢
       exact hx.1
      ·simpa using a8
      ·simp
     ·have a0:=(Array.getElem?_eq_some_iff.1 ap).1
      rw[Y.old N (Nat.lt_of_lt_of_le a0 L.bel.size),L.old N a0];exact cr
     ·have a0:=(Array.getElem?_eq_some_iff.1 ap).1
      rw[Y.bel.block N (Nat.lt_of_lt_of_le a0 L.bel.size),L.bel.block N a0];exact ap
     ·rcases (df e').1 eo with h1 | h1
      ·exact bd e' c7 h1 k' cg
      ·have:e'=e:=by
        have d2:(es.toList.map (·.born)).Nodup:=e3.imp fun ce=>Nat.ne_of_lt ce
        obtain ⟨i,hi,rfl⟩:=List.getElem_of_mem c7
        obtain ⟨j,hj,rfl⟩:=List.getElem_of_mem bi
        have h5:(es.toList.map (·.born))[i]'(by simpa using hi)=(es.toList.map (·.born))[j]'(by simpa using hj):=by simpa using h1
        have:=(List.getElem_inj d2).1 h5
        subst this;rfl
       subst this
       rw[bh] at cg
       have:k=k':=by
        have:=cg
        simp at this
        exact this
       rw[←this];exact hb
    unfold Zf at R ci
    cases cy:V2 l c.name k with
    | none=>
     rw[cy] at R
     simp only[↓M2,M2,Mb,reduceIte,Option.isSome_none]
     exact R rfl a1
    | some r=>
     rw[cy] at R ci bw
     simp only[↓M2,M2,Mb,reduceIte,Option.isSome_some]
     refine ld Y.sat bw rfl ?_
     (try simp only[↓M2,M2,Mb,reduceIte])
     cases bk:r.2.abs with
     | true=>
      exact Q7 (fun _=>R bk a1) (fun e=>absurd (bk.symm.trans e) (by simp))
     | false=>
      exact Q7 (fun e=>absurd (bk.symm.trans e) (by simp)) (fun _=>ci bk))
end Go.Proofs.YtjdiakhipmggjaaGreatDoor

namespace Go.Emb
open Go.RowKit Go.Hm
variable {P : Program} {w w0 w1 w' w'' : World} {K : Value → World → Prop} {σ σ0 σ1 σ' : Q6}
theorem X3D {t e:TypeId} {n a:Nat} {z:Value} [ta:TA P t n e] [tz:TZ P e 1 a z] [tg:TG P e false] {cs:List Value} {i:Nat} {v:Value} (d:i<n) (b:cs[i]? =some v) (h:K v w):C4 P t (.agg cs.toArray) (I i) w K:=by
 unfold C4
 have c:(0:Int)≤i∧(i:Int)<n:=⟨by omega,by omega⟩
 rw[X9 (v:=v) (w':=w) (by
  simp only[Instr.index,asIntOf,Sem.run_bind,Sem.run_pure,Result.andThen_ok,run_underlying ta.h,c,and_self,if_true,L3 tz,part,Xn tg]
  simp[b])]
 exact h
theorem Q8u {α:Type} {R:Q6→α→List Value→Prop} {B sz:Nat} {e:TypeId} {v:Value} {xs:List α} {a t:TypeId} {cs:List Bool} [ts:TS P a e] (h:V6 B e sz R σ w v xs) (b:K (I xs.length) w):X2 P .len [a] t cs [v] w K:=Q1t (J7.of_acc h) b
theorem Jl {α:Type} {R:Q6→α→List Value→Prop} {B sz:Nat} {e:TypeId} {v:Value} {xs:List α} (h:V6 B e sz R σ w v xs):v.cells= #[v]∧v.oneCell'=true:=by
 obtain ⟨cells,b,_⟩:=h
 rcases b.2 with ⟨rfl,_⟩ | ⟨g,c,a,rfl,_⟩<;>exact ⟨rfl,rfl⟩
end Go.Emb
namespace Go.Proofs.YtjdiakhipmggjaaGreatDoor
open Go.Emb Go.RowKit Go.Kd Go.Hm
variable {w : World} {K : Value → World → Prop} {σ : Q6} {v : Value} {l : List Cla}
theorem X1K (C:X3 w σ) (B:Glb σ) (h: ∀t w' σ',Stp w σ w' σ'→V6 w.heap.size T.b 8 V0 σ' w' t I0→K t w'):Q1 P F.cF [] w K:=Q5R (by
 unfold Q1h
 refine V8 (cells:= #[S J9,S [], .slice none 0 0, .bool false, .bool false, .bool false, .slice none 0 0, .slice none 0 0]) (by kernel_rfl) ?_
 refine V8 (cells:= #[S Qr,S D2, .bool false]) (by kernel_rfl) ?_
 refine T5 (R:=S2) (sz:=3) C [.agg #[S Qr,S D2, .bool false]] [⟨Qr,D2,false⟩] rfl rfl (by simp;rfl) rfl ⟨⟨rfl,by decide,by decide⟩,trivial⟩ fun L w1 σ1 e i=>?_
 have j:=i
 obtain ⟨y,b,rfl,_⟩:=j
 refine V8 (cells:= #[S L6,S J9, .slice none 0 0, .bool false, .bool false, .bool false, .slice y 1 b, .slice none 0 0]) (by kernel_rfl) ?_
 refine Zh (R:=V0) (sz:=8) e [.agg #[S J9,S [], .slice none 0 0, .bool false, .bool false, .bool false, .slice none 0 0, .slice none 0 0], .agg #[S L6,S J9, .slice none 0 0, .bool false, .bool false, .bool false, .slice y 1 b, .slice none 0 0]]
  [⟨J9,[],[],false,false,false,[],[]⟩,⟨L6,J9,[],false,false,false,[⟨Qr,D2,false⟩],[]⟩] rfl rfl (by simp;exact ⟨rfl,rfl⟩) rfl
  ⟨⟨_,_,_,rfl,Sl.nil,Sl.nil,Sl.nil,by decide,by decide⟩,⟨_,_,_,rfl,Sl.nil,i,Sl.nil,by decide,by decide⟩,trivial⟩ fun O E m o _=>?_
 have r:=B.lift ⟨e.le⟩
 refine Y4 (cs:=U4.map S) m.sat r.flt rfl ?_
 refine E5 6 (fun n a w'=> ∃σ',Stp w σ w' σ'∧V6 w.heap.size T.b 8 V0 σ' w' a ([⟨J9,[],[],false,false,false,[],[]⟩,⟨L6,J9,[],false,false,false,[⟨Qr,D2,false⟩],[]⟩]++(U4.take n).map fun n=>⟨n,L6,[],false,false,true,[],[]⟩)) ⟨σ1,e.trans m,o⟩ fun n a J d N k=>?_
 obtain ⟨M,p,c⟩:=k
 have D:U4.length=6:=rfl
 refine Y9 ?_
 refine Q7 (fun hh=>?_) (fun hh=>?_)
 ·have f:n<6:=by have:=of_decide_eq_true hh;omega
  refine X3D (v:=S (U4[n]'(by omega))) f (by rw[List.getElem?_map,List.getElem?_eq_getElem (by omega)];rfl) ?_
  refine V8 (cells:= #[S (U4[n]'(by omega)),S L6, .slice none 0 0, .bool false, .bool false, .bool true, .slice none 0 0, .slice none 0 0]) (by kernel_rfl) ?_
  have g:(U4[n]'(by omega)).length≤10:=by
   have: ∀x∈U4,x.length≤10:=by decide
   exact this _ (List.getElem_mem _)
  refine Ug (x:=⟨U4[n]'(by omega),L6,[],false,false,true,[],[]⟩) p c ⟨_,_,_,rfl,Sl.nil,Sl.nil,Sl.nil,Nat.le_trans g (by decide),(by decide:L6.length≤U1)⟩ rfl rfl rfl (by simp;omega) (by simp;omega) fun s t H A z q u _=>?_
  refine N0 ?_
  refine J3 (by omega) f ⟨A,q,?_⟩
  rw[List.take_add_one,List.getElem?_eq_getElem (by omega),List.map_append,←List.append_assoc]
  exact u
 ·have f: ¬n<6:=by have:=of_decide_eq_false hh;omega
  rw[List.take_of_length_le (by omega)] at c
  exact h _ _ _ p c)
end Go.Proofs.YtjdiakhipmggjaaGreatDoor

namespace Go.Hm
open Go.Kd
def O9 {α:Type} (f:α→Int):List α→Nat→Option (Nat×Int)
 | [],_=>none
 | x::r,i=>if f x=0 then O9 f r (i+1) else some (i,f x)
theorem P9 {α:Type} {f:α→Int}: ∀{l:List α} {i:Nat},O9 f l i=none→ ∀x∈l,f x=0
 | [],_,_=>by simp
 | x::r,i,h=>by
  simp only[O9] at h
  split at h
  ·rename_i a
   intro y hy
   rcases List.mem_cons.1 hy with rfl | hy
   ·exact a
   ·exact P9 h y hy
  ·cases h
def Ry (a:List Cla):Option Nat:=(List.range a.length).find? fun i=>(Z2 (a.take i) (Y3 a i)).isSome
def Q4 (l:List Cla):List Cla:=I0++l
def Sw (a:Cla→Int) (l:List Cla):Option (Int×Int):=match O9 a l 0 with
 | some (i,e)=>some (i,e)
 | none=>match Ry (Q4 l) with
  | some i=>some ((i:Int)-8,60)
  | none=>match O9 (fun c=>(D0 (Q4 l) c:Int)) l 0 with
   | some (i,e)=>some (i,e)
   | none=>match l.findIdx? (T1 (Q4 l)) with
    | some i=>some (i,63)
    | none=>match (V9 (Q4 l) 8).find? fun j=> !decide (V7 (Q4 l) ((Q4 l).getD j Cla.zero)=0) with
     | some j=>some ((j:Int)-8,V7 (Q4 l) ((Q4 l).getD j Cla.zero))
     | none=>none
theorem Q6a {s:X0} (h:name s=true):s.length≤32:=by
 cases s with
 | nil=>simp
 | cons c r=>simp only[name,Bool.and_eq_true,decide_eq_true_eq] at h;exact h.1.1
theorem X0T {s:X0} (h:M6 s=true):s.length≤32:=Q6a (Mw (by rw[h,Bool.or_true]))
theorem Q8z {s:X0} (h:D9 s=true):s.length≤32:=by
 cases s with
 | nil=>simp
 | cons c r=>simp only[D9,Bool.and_eq_true] at h;exact Q6a h.1
theorem Kl {a:List Cla} (h:Ry a=none):T9 a:=by
 unfold Ry at h
 rw[List.find?_eq_none] at h
 unfold T9
 rw[List.nodup_iff_pairwise_ne,List.pairwise_iff_getElem]
 intro i j k b f e
 simp only[List.length_map] at k b
 have:=h j (by simp;exact b)
 apply this
 simp only[List.getElem_map] at e
 cases d:Z2 (a.take j) (Y3 a j) with
 | some _=>rfl
 | none=>
  have c:=List.findIdx?_eq_none_iff.1 d a[i] (List.mem_take_iff_getElem.2 ⟨i,by omega,rfl⟩)
  have g:Y3 a j=a[j].name:=by unfold Y3;rw[List.getD_eq_getElem?_getD,List.getElem?_eq_getElem b];rfl
  rw[g] at c
  simp[e] at c
theorem Jo: ∀c∈I0,Qj c∧Nm c∧c.like=[]:=by
 have h: ∀c∈I0,(c.like=[]∧c.methods=[]∧c.fields.length≤1∧c.name.length≤100∧ ∀f∈c.fields,f.name.length≤100∧f.kind.length≤100):=by decide
 intro c e
 obtain ⟨b,a,i,g,d⟩:=h c e
 refine ⟨⟨by rw[b];simp,by omega,by rw[a];simp,by rw[a];simp⟩,⟨g,d,by rw[a];simp⟩,b⟩
theorem X0R: ∀c∈I0,(c.name=J9∧U3 c=[[]])∨(c.name=L6∧U3 c=[J9])∨(c.name∈U4∧U3 c=[L6]):=by decide
theorem Q5s {l:List Cla} (q:T9 (Q4 l)) (z: ∀c∈l,c.name≠[]) (v: ∀c∈l,T1 (Q4 l) c=false):Ja (Q4 l):=by
 have k:lk (Q4 l) []=none:=by
  cases h:lk (Q4 l) [] with
  | none=>rfl
  | some c=>
   obtain ⟨e,hm,_⟩:=V3 h
   rcases List.mem_append.1 hm with hm | hm
   ·have: ∀c∈I0,c.name≠[]:=by decide
    exact absurd e (this c hm)
   ·exact absurd e (z c hm)
 have j:lk (Q4 l) J9=some ⟨J9,[],[],false,false,false,[],[]⟩:=q.lk (c:=⟨J9,[],[],false,false,false,[],[]⟩) (List.mem_append_left _ (by decide))
 have i:lk (Q4 l) L6=some ⟨L6,J9,[],false,false,false,[⟨Qr,D2,false⟩],[]⟩:=q.lk (c:=⟨L6,J9,[],false,false,false,[⟨Qr,D2,false⟩],[]⟩) (List.mem_append_left _ (by decide))
 have p: ∀b,¬Reach (lk (Q4 l)) [] b:=fun b h=>by obtain ⟨c,f⟩:=h.left;rw[k] at f;cases f
 have o: ∀b,Reach (lk (Q4 l)) J9 b→b=J9:=by
  intro b h
  cases h with
  | refl=>rfl
  | step f d g=>
   rw[j] at f;cases f
   simp[U3] at d;subst d
   exact absurd g (p b)
 have r: ∀b,Reach (lk (Q4 l)) L6 b→b=L6∨b=J9:=by
  intro b h
  cases h with
  | refl=>exact .inl rfl
  | step f d g=>
   rw[i] at f;cases f
   simp[U3] at d;subst d
   exact .inr (o b g)
 rintro a ⟨c,f,u,d,g⟩
 obtain ⟨e,hm,_⟩:=V3 f
 rcases List.mem_append.1 hm with hm | hm
 ·rcases X0R c hm with ⟨m,n⟩ | ⟨m,n⟩ | ⟨m,n⟩<;>rw[n] at d<;>simp at d<;>subst d
  ·exact p _ g
  ·have:=o _ g
   rw[←e,m] at this
   exact absurd this (by decide)
  ·have s: ∀x∈U4,x≠L6∧x≠J9:=by decide
   obtain ⟨t,y⟩:=s _ m
   rw[←e] at g
   rcases r _ g with h | h
   ·exact t h
   ·exact y h
 ·have:=v c hm
  unfold T1 at this
  have w:=List.any_eq_false.1 this u d
  apply w
  rw[List.contains_iff_mem,Ut,e];exact g
end Go.Hm
namespace Go.Proofs.YtjdiakhipmggjaaGreatDoor
open Go.Emb Go.RowKit Go.Kd Go.Hm
theorem Gs {s:X0} (h:right s=true):s.length≤38:=by
 simp only[right,Bool.and_eq_true,decide_eq_true_eq] at h
 have e:=Q1x s
 have:(base s).1.length≤32:=by
  have d:=h.2
  have b:=Mw d
  cases a:(base s).1 with
  | nil=>simp
  | cons c r=>
   rw[a] at b
   simp only[name,Bool.and_eq_true,decide_eq_true_eq] at b
   exact b.1.1
 omega
theorem Bu {c:Cla} (h:D7 c=0):Qj c∧Nm c∧c.name≠[]:=by
 unfold D7 at h
 split at h
 ·cases h
 ·rename_i b
  split at h
  ·rename_i i
   simp only[Zv,Bool.or_eq_true,decide_eq_true_eq,not_or,List.any_eq_true,not_exists,not_and] at b
   obtain ⟨⟨⟨r,w⟩,u⟩,v⟩:=b
   simp only[Lx,Bool.and_eq_true] at i
   obtain ⟨⟨⟨⟨⟨⟨⟨⟨l,A⟩,y⟩,B⟩,z⟩,s⟩,t⟩,n⟩,q⟩:=i
   have a:M6 c.name=true:=List.all_eq_true.1 l c.name (by simp)
   have d: ∀m∈c.methods,m.params.length≤32∧m.catches.length≤32∧m.code.length≤200:=fun m b=>by
    have:=r m b
    simp only[Wk,Bool.or_eq_true,decide_eq_true_eq,not_or] at this
    omega
   refine ⟨⟨by omega,by omega,by omega,fun m b=>by have:=d m b;unfold SmM;omega⟩,⟨by have:=X0T a;omega,fun f k=>?_,fun m b=>?_⟩,fun e=>by rw[e] at a;simp[M6] at a⟩
   ·have:=List.all_eq_true.1 n f k
    simp only[El,Bool.and_eq_true] at this
    have j:=Q8z this.1
    have g:=Gs this.2
    omega
   ·have:=List.all_eq_true.1 q m b
    simp only[I9,Bool.and_eq_true,Bool.or_eq_true,decide_eq_true_eq,List.all_eq_true] at this
    obtain ⟨⟨⟨_,j⟩,g⟩,_⟩:=this
    refine ⟨?_,fun p o=>by have:=Gs (j p o);omega⟩
    rcases g with e | e
    ·rw[e];simp
    ·have:=Gs e;omega
  ·cases h
end Go.Proofs.YtjdiakhipmggjaaGreatDoor

namespace Go.Hm
open Go.Kd
theorem We {α:Type} {f:α→Int} {xs:List α} {n:Nat} (h:n<xs.length) (a:O9 f xs 0=O9 f (xs.drop n) n):O9 f xs 0=if f xs[n]=0 then O9 f (xs.drop (n+1)) (n+1) else some (n,f xs[n]):=by
 rw[a,List.drop_eq_getElem_cons h];rfl
theorem Q7V {a:List Cla} {n:Nat} (h:n<a.length) (k:X0):Z2 (a.take (n+1)) k=match Z2 (a.take n) k with
 | some i=>some i
 | none=>if a[n].name=k then some n else none:=by
 unfold Z2
 rw[List.take_add_one,List.getElem?_eq_getElem h]
 simp only[Option.toList_some,List.findIdx?_append]
 cases (a.take n).findIdx? fun c=>decide (c.name=k) with
 | some i=>rfl
 | none=>
  simp only[Option.none_or,List.findIdx?_cons,List.findIdx?_nil,List.length_take]
  by_cases e:a[n].name=k
  ·simp[e];omega
  ·simp[e]
end Go.Hm
namespace Go.Proofs.YtjdiakhipmggjaaGreatDoor
open Go.Emb Go.RowKit Go.Kd Go.Hm
variable {w : World} {K : Value → World → Prop} {σ : Q6} {v : Value} {l : List Cla}
theorem Pk {a:List Cla} {n:Nat} (h:n<a.length):Y3 a n=a[n].name:=by unfold Y3;rw[List.getD_eq_getElem?_getD,List.getElem?_eq_getElem h];rfl
set_option maxHeartbeats 1000000 in
theorem X3T {lv:Value} (hs:X3 w σ) (hg:Glb σ) (hl:Sl 8 V0 σ lv l) (hlen:l.length≤1000) (hsm: ∀c∈l,Qj c)
 (h1: ∀i e w' σ',Sw D7 l=some (i,e)→Stp w σ w' σ'→K (.tuple #[.pointer none,I i,I e]) w')
 (h0: ∀v w' σ',Sw D7 l=none→Stp w σ w' σ'→Tab σ' v (Q4 l)→Ok (Q4 l)→T9 (Q4 l)→K (.tuple #[v,I 0,I 0]) w'):Q1 P F.cN [lv] w K:=Q7O (by
 unfold Q2P
 have hgl:I0.length=8:=rfl
 have hal:(Q4 l).length=8+l.length:=by simp[Q4,hgl]
 refine X1K hs hg fun x0 w1 σ1 hk1 ha1=>?_
 refine Q2Z hk1.sat fun r w2 hr hk2 hm2=>?_
 have ha2:=ha1.up hk2
 have hx0:x0.cells= #[x0]∧x0.oneCell'=true:=Jl ha1
 have hx0s: ∃a n c,x0= .slice a n c:=by
  obtain ⟨cells,q1,_⟩:=ha1
  rcases q1.2 with ⟨rfl,_⟩ | ⟨g,cap,cur,rfl,_⟩<;>exact ⟨_,_,_,rfl⟩
 have hx0r:x0.ownBlock≠some r:=fun e=>by have:=(ha1.mem r e).2.1;omega
 obtain ⟨a0,n0,c0,hx0e⟩:=hx0s
 rw[hx0e]
 refine V8 (cells:= #[.slice a0 n0 c0, .map (some r)]) (by kernel_rfl) ?_
 rw[←hx0e]
 refine Eh (cs:=[x0, .map (some r)]) hk2.sat fun bt w3 σ3 hbt hk3 hbm=>?_
 have hS3:=(hk1.trans hk2).trans hk3
 have ha3:=ha2.up hk3
 have hm3:=hm2.up hk3
 have hrw:w.heap.size≤r:=Nat.le_trans hk1.bel.size hr
 have hrl:r<w2.heap.size:=hm2.lt
 have hbtw:w.heap.size≤bt:=M8 hbt (hk1.trans hk2)
 have hrbt:r≠bt:=by omega
 have hx0b:x0.ownBlock≠some bt:=fun e=>by have:=(ha2.mem bt e).2.1;omega
 rw[L8,fa]
 refine Yg hbm rfl ?_
 refine Q8u ha3 ?_
 rw[hgl]
 have hl3:=hl.up hS3
 refine Q8 hl3 ?_
 -- classes, each by itself
 refine U2 l.length (fun n w'=> ∃σ' x,Stp w σ w' σ'∧SLe σ3 σ'∧Y2 σ' w' bt [x, .map (some r)]∧V6 w.heap.size T.b 8 V0 σ' w' x (I0++l.take n)∧B1 σ' w' r []∧x.ownBlock≠some bt∧x.ownBlock≠some r∧O9 D7 l 0=O9 D7 (l.drop n) n)
  ⟨σ3,x0,hS3,SLe.refl _,hbm,by simpa using ha3,hm3,hx0b,hx0r,rfl⟩ fun n w4 d hn hinv=>?_
 obtain ⟨σ4,x,hS4,le4,hb4,ha4,hm4,hxb,hxr,hfb⟩:=hinv
 refine Y9 ?_
 refine Q7 (fun hh=>?_) (fun hh=>?_)
 ·have hn':n<l.length:=by simpa using hh
  refine M7 (hl3.lift le4) hn' fun p cells hl1 hl2 hr1=>?_
  refine Y4 hS4.sat hl1 hl2 ?_
  refine Y8 hS4.sat (by rfl) hl2 (Rep.one hr1) fun q w5 σ5 hk5 hq5=>?_
  have hS5:=hS4.trans hk5
  have hr5:=RCl_lift hr1 ⟨hk5.le⟩
  refine Y4 hk5.sat hq5 hl2 ?_
  have hsmn:=hsm _ (List.getElem_mem hn')
  refine X1H hk5.sat (hg.lift ⟨hS5.le⟩) hr5 hsmn.1 fun w6 σ6 hk6=>?_
  have hS6:=hS5.trans hk6
  have hfb2:=We hn' hfb
  refine Xh ?_
  refine Q7 (fun hh2=>?_) (fun hh2=>?_)
  ·have hne: ¬D7 l[n]=0:=by simpa using hh2
   rw[if_neg hne] at hfb2
   refine h1 _ _ _ _ ?_ hS6
   unfold Sw
   rw[hfb2]
  ·have hz:D7 l[n]=0:=by simpa using hh2
   rw[if_pos hz] at hfb2
   have hk56:=hk5.trans hk6
   have hb6:=hb4.up hk56
   have ha6:=ha4.up hk56
   have hm6:=hm4.up hk56
   have hq6:=hq5.up hk6
   have hr6:=RCl_lift hr5 ⟨hk6.le⟩
   have hxs: ∀k,x.ownBlock=some k→k<w6.heap.size:=fun k hk=>(ha6.mem k hk).2.1
   refine U0 hk6.sat ?_
   refine X4 (.pointer (some ⟨bt,0,none⟩)) (fun w hb=>by rw[L8];exact X6 rfl) ?_
   refine X4 (.pointer (some ((⟨bt,0,none⟩:Addr).add 0))) (fun t w hb e=>by rw[e,fa];exact X6 rfl) ?_
   refine X4 x (fun t w hb e=>by rw[e];exact Yg (hb6.step hb.stp) rfl (X6 rfl)) ?_
   refine X4 (.agg cells.toArray) (fun w hb=>Y4 hb.sat hq6 hl2 (X6 rfl)) ?_
   refine Wm (Φ:=fun σ' v=> ∃ds:List Value,v= .agg ds.toArray∧ds.length=8∧V0 σ' l[n] ds) (fun t w hb e=>by
    rw[e];exact X0f hb.sat hr6 hsmn fun lv fv mv w' σ' hk hrc=>Sf hb hk ⟨_,rfl,rfl,hrc⟩) ?_
   refine Wm (w:=w6) (σ:=σ6) (Φ:=fun σ' v=>Sl 8 V0 σ' v [l[n]]) (fun t w hb e=>by
    obtain ⟨σ',hk,ds,rfl,hd1,hd2⟩:=e
    refine T5 (R:=V0) (sz:=8) hk.sat [.agg ds.toArray] [l[n]] rfl rfl (by simpa [Value.cells] using hd1) rfl ⟨by simpa [Value.cells] using hd2,trivial⟩ fun u w2 σ2 hk2 hu=>?_
    exact ⟨hk2.bel,σ2,hk.trans hk2,hu⟩) ?_
   rintro t43 t44 t45 t46 t47 t48 w7 hb7 _ _ e45 _ _ ⟨σ8,hk8,hu8⟩
   subst e45
   have hS8:=hS6.trans hk8
   have hb8:=hb6.up hk8
   have ha8:=ha6.up hk8
   have hm8:=hm6.up hk8
   have hbl:=hb6.lt
   have hml:=hm6.lt
   refine Wh hS8 ha8 hu8 rfl (by simp[hgl];omega) (by simp[hgl];omega) fun x' w9 hn9 hS9 ha9 hat9=>?_
   have hb9:=hb8.nx hn9 hxb
   have hm9:=hm8.nx hn9 hxr
   have hxb':x'.ownBlock≠some bt:=fun e=>by
    rcases hat9 with e2 | e2
    ·exact hxb (e2▸e)
    ·have:=e2 bt e;have:=hk8.bel.size;omega
   have hxr':x'.ownBlock≠some r:=fun e=>by
    rcases hat9 with e2 | e2
    ·exact hxr (e2▸e)
    ·have:=e2 r e;have:=hk8.bel.size;omega
   obtain ⟨hxc1,hxc2⟩:=Jl ha9
   rw[L8,fa]
   refine Jv hb9 (by simp) hxc1 hxc2 fun w10 u10 hb10=>?_
   have hS10:=u10.stp hS9 hbtw hb9.1
   have k10:Kpt (fun k=>k=bt) w9 w10:=Kpt.of_upd u10 rfl
   refine N0 ?_
   refine Y5 hl3.max hn' ⟨σ8,x',hS10,le4.more ⟨fun b o e=>hk8.le _ _ (hk56.le _ _ e)⟩,hb10,?_,hm9.kp k10 hrbt,hxb',hxr',hfb2⟩
   have:=ha9.kp k10 fun k hk e=>hxb' (e▸hk)
   rw[List.take_add_one,List.getElem?_eq_getElem hn',←List.append_assoc]
   exact this
 have hn': ¬n<l.length:=by simpa using hh
 rw[List.take_of_length_le (by omega)] at ha4
 rw[List.drop_eq_nil_of_le (by omega)] at hfb
 have hfb:O9 D7 l 0=none:=hfb
 have hck:=P9 hfb
 have hcf: ∀c∈l,Qj c∧Nm c∧c.name≠[]:=fun c hc=>Bu (hck c hc)
 have hsmall: ∀c∈Q4 l,Qj c:=fun c hc=>by
  rcases List.mem_append.1 hc with hc | hc
  ·exact (Jo c hc).1
  ·exact (hcf c hc).1
 have hnmall: ∀c∈Q4 l,Nm c:=fun c hc=>by
  rcases List.mem_append.1 hc with hc | hc
  ·exact (Jo c hc).2.1
  ·exact (hcf c hc).2.1
 have hlenall:(Q4 l).length≤100000:=by omega
 unfold Sw at h1 h0
 rw[hfb] at h1 h0
 simp only at h1 h0
 -- from now on the classes stay
 obtain ⟨σ5,hS5,hv5,le5,old5⟩:=ha4.keep hS4
 have hb5:Y2 σ5 w4 bt _:=⟨(old5 bt fun e=>hxb e.symm).trans hb4.1,hb4.2⟩
 have hm5:B1 σ5 w4 r []:=⟨(old5 r fun e=>hxr e.symm).trans hm4.1,hm4.2⟩
 obtain ⟨σ6,hS6,hb6,le6,old6⟩:=hb5.keep hS5 hbtw
 have hm6:B1 σ6 w4 r []:=⟨(old6 r hrbt).trans hm5.1,hm5.2⟩
 have hv6:Sl 8 V0 σ6 x (Q4 l):=hv5.le le6
 clear hb5 hb4 ha4
 rw[L8,fa]
 refine ld hS6.sat hb6 rfl ?_
 refine Q8 hv6 ?_
 refine U2 (Q4 l).length (fun n w'=> ∃σ' m,Stp w σ w' σ'∧SLe σ6 σ'∧B1 σ' w' r m∧(∀k,B0 m k=(Z2 ((Q4 l).take n) k).map (fun i:Nat=>I (i:Int)))∧ ∀j,j<n→(Z2 ((Q4 l).take j) (Y3 (Q4 l) j)).isSome=false)
  ⟨σ6,[],hS6,SLe.refl _,hm6,by simp[B0,Z2],by intro j hj;omega⟩ fun n w5 d hn2 hinv=>?_
 obtain ⟨σ7,m,hS7,le7,hm7,hlm,hnd⟩:=hinv
 refine Y9 ?_
 refine Q7 (fun hh2=>?_) (fun hh2=>?_)
 ·have hn3:n<(Q4 l).length:=by simpa using hh2
  refine M7 (hv6.lift le7) hn3 fun p cells hl1 hl2 hr1=>?_
  refine Y4 hS7.sat hl1 hl2 ?_
  refine Y8 hS7.sat (by rfl) hl2 (Rep.one hr1) fun q w6 σ8 hk8 hq8=>?_
  obtain ⟨lv',fv,mv,rfl,f1,f2,f3,f4,f5⟩:=hr1
  have hS8:=hS7.trans hk8
  have le8:SLe σ6 σ8:=le7.more ⟨hk8.le⟩
  have hm8:=hm7.up hk8
  have hb8:=hb6.lift le8
  rw[fa]
  refine ld hk8.sat hq8 rfl ?_
  refine He ?_
  unfold Uh
  rw[L8,fa]
  refine ld hk8.sat hb8 rfl ?_
  refine Q9i X8 hm8.2 _ ?_
  refine J6 (vs:=[_,_]) rfl ?_
  refine J6 (vs:=[_,_]) rfl ?_
  have hna:=Pk hn3
  have hfd:=hlm (Q4 l)[n].name
  cases hfc:Z2 ((Q4 l).take n) (Q4 l)[n].name with
  | some i=>
   rw[hfc] at hfd
   rw[hfd]
   refine Z9 ?_
   have hdup:Ry (Q4 l)=some n:=by
    unfold Ry
    rw[List.find?_range_eq_some]
    refine ⟨by rw[hna,hfc];rfl,by simpa using hn3,fun j hj=>by rw[hnd j hj];rfl⟩
   refine Zp ⟨by omega,by omega⟩ ?_
   refine h1 _ _ _ _ ?_ hS8
   rw[hdup]
   rfl
  | none=>
   rw[hfc] at hfd
   rw[hfd]
   refine Z4 ?_
   refine U0 hk8.sat ?_
   refine X4 (.pointer (some ⟨bt,0,none⟩)) (fun w hb=>by rw[L8];exact X6 rfl) ?_
   refine X4 (.pointer (some ((⟨bt,0,none⟩:Addr).add 1))) (fun t w hb e=>by rw[e,fa];exact X6 rfl) ?_
   refine X4 (.pointer (some (q.add 0))) (fun w hb=>by rw[fa];exact X6 rfl) ?_
   refine X4 (.map (some r)) (fun t w hb e=>by rw[e];exact ld hb.sat hb8 rfl (X6 rfl)) ?_
   refine X4 (S (Q4 l)[n].name) (fun t w hb e=>by rw[e];exact ld hb.sat hq8 rfl (X6 rfl)) ?_
   rintro t71 t72 t74 t73 t75 w9 hb9 _ _ _ rfl rfl
   refine Ii X8 (hm8.up hb9.stp) _ (I n) fun w10 u10 hm10=>?_
   have hS9:=hS8.trans hb9.stp
   have hS10:=u10.stp hS9 hrw hm10.1
   refine N0 ?_
   refine Y5 (by omega) hn3 ⟨σ8,_,hS10,le8,hm10,fun k=>?_,fun j hj=>?_⟩
   ·rw[Q4b,Q7V hn3 k]
    by_cases e:(Q4 l)[n].name=k
    ·subst e
     rw[if_pos rfl,hfc];simp
    ·rw[if_neg e,hlm k]
     cases Z2 ((Q4 l).take n) k with
     | some i=>rfl
     | none=>simp[e]
   ·by_cases e:j=n
    ·subst e;rw[hna,hfc];rfl
    ·exact hnd j (by omega)
 have hn3: ¬n<(Q4 l).length:=by simpa using hh2
 have hne:n=(Q4 l).length:=by omega
 subst hne
 rw[List.take_of_length_le (Nat.le_refl _)] at hlm
 have hdup:Ry (Q4 l)=none:=by
  unfold Ry
  rw[List.find?_eq_none]
  intro j hj
  rw[hnd j (by simpa using hj)];simp
 rw[hdup] at h1 h0
 simp only at h1 h0
 have hown:=Kl hdup
 obtain ⟨σ8,hS8,hm8,le8,_⟩:=hm7.keep hS7 hrw
 have le68:SLe σ6 σ8:=le7.more ⟨le8⟩
 have ht8:Tab σ8 (.pointer (some ⟨bt,0,none⟩)) (Q4 l):=⟨⟨bt,0,none⟩,x,r,m,rfl,hb6.lift le68,hv6.lift le68,hm8,hlm⟩
 have hb8:=hb6.lift le68
 have hv8:=hv6.lift le68
 clear hm7 hm8 hh2 hn3 hn2 hh hn' hn hnd
 have hdr:(Q4 l).drop 8=l:=by simp[Q4,hgl]
 rw[L8,fa]
 refine ld hS8.sat hb8 rfl ?_
 refine Ec hv8 (some (I (8:Nat))) none 8 (Q4 l).length (.inr rfl) (.inl ⟨rfl,rfl⟩) (by omega) (Nat.le_refl _) fun v9 hv9=>?_
 rw[hdr,List.take_of_length_le (by omega)] at hv9
 refine Q8 hv9 ?_
 refine U2 l.length (fun n w'=> ∃σ',Stp w σ w' σ'∧SLe σ8 σ'∧O9 (fun c=>(D0 (Q4 l) c:Int)) l 0=O9 (fun c=>(D0 (Q4 l) c:Int)) (l.drop n) n) ⟨σ8,hS8,SLe.refl _,rfl⟩ fun n w6 d hn hinv=>?_
 obtain ⟨σ9,hS9,le9,hfu⟩:=hinv
 refine Y9 ?_
 refine Q7 (fun hh=>?_) (fun hh=>?_)
 ·have hn':n<l.length:=by simpa using hh
  refine M7 (hv9.lift le9) hn' fun p cells hl1 hl2 hr1=>?_
  refine Y4 hS9.sat hl1 hl2 ?_
  refine Y8 hS9.sat (by rfl) hl2 (Rep.one hr1) fun q w7 σ10 hk10 hq10=>?_
  have hS10:=hS9.trans hk10
  refine Y4 hk10.sat hq10 hl2 ?_
  have hfu2:=We hn' hfu
  refine X0e hk10.sat (ht8.lift (le9.more ⟨hk10.le⟩)) (RCl_lift hr1 ⟨hk10.le⟩) fun w8 σ11 hk11=>?_
  refine Xh ?_
  refine Q7 (fun hh2=>?_) (fun hh2=>?_)
  ·have hne: ¬(D0 (Q4 l) l[n]:Int)=0:=by simpa using hh2
   rw[if_neg hne] at hfu2
   refine h1 _ _ _ _ ?_ (hS10.trans hk11)
   rw[hfu2]
  ·have hz:(D0 (Q4 l) l[n]:Int)=0:=by simpa using hh2
   rw[if_pos hz] at hfu2
   refine N0 ?_
   exact Y5 hl3.max hn' ⟨σ11,hS10.trans hk11,le9.more ⟨fun b o e=>hk11.le _ _ (hk10.le _ _ e)⟩,hfu2⟩
 have hn': ¬n<l.length:=by simpa using hh
 rw[List.drop_eq_nil_of_le (by omega)] at hfu
 have hfu:O9 (fun c=>(D0 (Q4 l) c:Int)) l 0=none:=hfu
 rw[hfu] at h1 h0
 simp only at h1 h0
 have hup:=P9 hfu
 have ht9:=ht8.lift le9
 clear hh hn' hn
 rw[L8,fa]
 refine ld hS9.sat (hb8.lift le9) rfl ?_
 refine Ec (hv8.lift le9) (some (I (8:Nat))) none 8 (Q4 l).length (.inr rfl) (.inl ⟨rfl,rfl⟩) (by omega) (Nat.le_refl _) fun v10 hv10=>?_
 rw[hdr,List.take_of_length_le (by omega)] at hv10
 rw[Qh]
 refine Ia (T1 (Q4 l)) hS9.sat hv10 (fun c cs w7 K hc hs7 hr hlen hK=>Z7 (first:=[.pointer (some ⟨bt,0,none⟩)]) (caps:=[]) ?_) fun w7 hb7=>?_
 ·exact X27 hs7 ht9 hlenall hsmall hr fun w' σ' hk=>hK w' hk.bel
 have hS10:=hS9.trans (Stp.of_below hS9.sat hb7)
 refine K9 ?_
 rw[A0]
 cases hlo:l.findIdx? (T1 (Q4 l)) with
 | some i=>
  refine Z9 ?_
  refine h1 _ _ _ _ ?_ hS10
  rw[hlo];rfl
 | none=>
  rw[hlo] at h1 h0
  simp only at h1 h0
  refine Z4 ?_
  have hlo': ∀c∈l,T1 (Q4 l) c=false:=fun c hc=>List.findIdx?_eq_none_iff.1 hlo c hc
  have hacy:=Q5s hown (fun c hc=>(hcf c hc).2.2) hlo'
  have hfull:X0Q (Q4 l):=fun c hc u hu=>by
   rcases List.mem_append.1 hc with hc | hc
   ·rw[(Jo c hc).2.2] at hu;simp at hu
   ·have:=hup c hc
    unfold D0 at this
    split at this
    ·simp at this
    ·split at this
     ·simp at this
     ·rename_i hnb
      have hnb:c.like.any (R6 (Q4 l))=false:=eq_false_of_ne_true hnb
      have:=List.any_eq_false.1 hnb u hu
      unfold R6 at this
      cases hd:lk (Q4 l) u with
      | none=>rw[hd] at this;simp at this
      | some d=>exact ⟨d,rfl⟩
  have hok:Ok (Q4 l):=⟨hacy,hlenall,hsmall,hfull,hnmall⟩
  refine X2d (frm:=8) hS10.sat (ht9.lift ⟨(Stp.of_below hS9.sat hb7).le⟩) hacy hown hlenall hsmall (by omega) (by omega) fun v11 w8 σ11 hk11 hv11 hol hoi=>?_
  have hS11:=hS10.trans hk11
  have ht11:=ht9.lift ⟨fun b o e=>hk11.le _ _ e⟩
  refine Q8 hv11 ?_
  have hil:(ints (V9 (Q4 l) 8)).length=(V9 (Q4 l) 8).length:=by simp
  rw[hil]
  refine U2 (V9 (Q4 l) 8).length (fun n w'=> ∃σ',Stp w σ w' σ'∧SLe σ11 σ'∧ ∀j∈(V9 (Q4 l) 8).take n,V7 (Q4 l) ((Q4 l).getD j Cla.zero)=0) ⟨σ11,hS11,SLe.refl _,by simp⟩ fun n w9 d hn hinv=>?_
  obtain ⟨σ12,hS12,le12,hno⟩:=hinv
  refine Y9 ?_
  refine Q7 (fun hh=>?_) (fun hh=>?_)
  ·have hn':n<(V9 (Q4 l) 8).length:=by simpa using hh
   refine M7 (hv11.lift le12) (by rw[hil];exact hn') fun p cells hl1 hl2 hr1=>?_
   obtain ⟨rfl,_⟩:=hr1
   refine X7 hS12.sat hl1 rfl ?_
   simp only[List.getElem_map]
   rw[L8,fa]
   have le8x:SLe σ8 σ12:=le9.more (SLe.more ⟨hk11.le⟩ le12)
   refine ld hS12.sat (hb8.lift le8x) rfl ?_
   have hji:=hoi _ (List.getElem_mem hn')
   refine M7 (hv8.lift le8x) hji fun p2 cells hl1 hl2 hr1=>?_
   refine Y4 hS12.sat hl1 hl2 ?_
   have hat:(Q4 l).getD (V9 (Q4 l) 8)[n] Cla.zero=(Q4 l)[(V9 (Q4 l) 8)[n]]:=by rw[List.getD_eq_getElem?_getD,List.getElem?_eq_getElem hji];rfl
   have hmem:=List.getElem_mem hji
   refine Q8V hS12.sat (ht11.lift le12) hok hr1 (hsmall _ hmem) (hnmall _ hmem) fun w10 σ13 hk13=>?_
   have hS13:=hS12.trans hk13
   refine Xh ?_
   refine Q7 (fun hh2=>?_) (fun hh2=>?_)
   ·have hne: ¬V7 (Q4 l) (Q4 l)[(V9 (Q4 l) 8)[n]]=0:=by simpa using hh2
    refine Zp ⟨by omega,by omega⟩ ?_
    have hfind:(V9 (Q4 l) 8).find? (fun j=> !decide (V7 (Q4 l) ((Q4 l).getD j Cla.zero)=0))=some (V9 (Q4 l) 8)[n]:=by
     rw[List.find?_eq_some_iff_getElem]
     refine ⟨by rw[hat];simpa using hne,n,hn',rfl,fun j hj=>?_⟩
     have:=hno _ (List.mem_take_iff_getElem.2 ⟨j,by omega,rfl⟩)
     rw[this];simp
    have:=h1 (((V9 (Q4 l) 8)[n]:Int)-8) (V7 (Q4 l) (Q4 l)[(V9 (Q4 l) 8)[n]]) w10 σ13 (by rw[hfind];simp only[hat]) hS13
    exact this
   ·have hz:V7 (Q4 l) (Q4 l)[(V9 (Q4 l) 8)[n]]=0:=by simpa using hh2
    refine N0 ?_
    refine Y5 (by omega) hn' ⟨σ13,hS13,le12.more ⟨hk13.le⟩,fun j hj=>?_⟩
    rw[List.take_add_one,List.getElem?_eq_getElem hn'] at hj
    rcases List.mem_append.1 hj with hj | hj
    ·exact hno j hj
    ·simp at hj;subst hj;rw[hat];exact hz
  ·have hn': ¬n<(V9 (Q4 l) 8).length:=by simpa using hh
   rw[List.take_of_length_le (by omega)] at hno
   have hfind:(V9 (Q4 l) 8).find? (fun j=> !decide (V7 (Q4 l) ((Q4 l).getD j Cla.zero)=0))=none:=by
    rw[List.find?_eq_none]
    intro j hj
    rw[hno j hj];simp
   rw[hfind] at h0
   exact h0 _ _ _ rfl hS12 (ht11.lift le12) hok hown)
end Go.Proofs.YtjdiakhipmggjaaGreatDoor

namespace Go.Hm
open Go.Kd
def Q9c (m:Hm.Met):Bool:= !(decide (50<m.code.length)||decide (8<m.params.length)||decide (8<m.catches.length))
def X0l (c:Cla):Bool:= !(decide (6<c.like.length)||decide (6<c.fields.length)||decide (6<c.methods.length))&&c.methods.all Q9c
def X0F (l:List Cla):Bool:= !decide (12<l.length)&&l.all X0l
theorem Q99 {l:List Cla} (h:X0F l=true):l.length≤12∧ ∀c∈l,X0l c=true:=by
 simp only[X0F,Bool.and_eq_true,Bool.not_eq_true',decide_eq_false_iff_not,List.all_eq_true] at h
 exact ⟨by omega,h.2⟩
theorem X3a {l:List Cla} (h:X0F l=true): ∀c∈l,Qj c:=by
 intro c f
 have:=(Q99 h).2 c f
 simp only[X0l,Q9c,Bool.and_eq_true,Bool.not_eq_true',Bool.or_eq_false_iff,decide_eq_false_iff_not,List.all_eq_true] at this
 obtain ⟨⟨⟨a,b⟩,g⟩,d⟩:=this
 refine ⟨by omega,by omega,by omega,fun m e=>?_⟩
 obtain ⟨⟨p,q⟩,r⟩:=d m e
 exact ⟨by omega,by omega,by omega⟩
end Go.Hm
namespace Go.Proofs.YtjdiakhipmggjaaGreatDoor
open Go.Emb Go.RowKit Go.Kd Go.Hm
variable {w : World} {K : Value → World → Prop} {σ : Q6} {v : Value} {l : List Cla}
end Go.Proofs.YtjdiakhipmggjaaGreatDoor

namespace Go.Proofs.YtjdiakhipmggjaaGreatDoor
open Go.Emb Go.RowKit Go.Kd Go.Hm
variable {w : World} {K : Value → World → Prop} {σ : Q6} {v : Value} {l : List Cla}
theorem X3V:P.underlying T.s=some (.pointer T.a0):=by kernel_rfl
theorem Q5r (d:Nat) (o:Option Addr):(Op.equalIn (d+1) T.s (.pointer o) (.pointer none)).run P w= .ok o.isNone w:=by
 cases o<;>simp[Op.equalIn,run_underlying X3V]
theorem X3q {a:Addr} {c b:Operand} (h:K (.bool false) w):Q3 P .eql T.s c b (.pointer (some a)) (.pointer none) w K:=by
 have e:(Op.equal T.s (.pointer (some a)) (.pointer none)).run P w= .ok false w:=Q5r 9999 _
 unfold Q3
 rw[X9 (v:= .bool false) (w':=w) (by simp[eqGuard,Go.binOp,e])]
 exact h
end Go.Proofs.YtjdiakhipmggjaaGreatDoor

namespace Go.Hm
open Go.Kd
theorem Q55 {l:List Cla} {frm:Nat}: ∀(f:Nat) (a:List Nat) (i:Nat),(∀y∈a,y∈A5 l frm f a i)∧(0<f→frm≤i→i∈A5 l frm f a i):=by
 intro f
 induction f with
 | zero=>intro a i;exact ⟨fun y b=>b,fun h=>by omega⟩
 | succ f g=>
  intro a i
  have c: ∀(e:List X0) (o:List Nat),∀y∈o,y∈e.foldl (fun a n=>A5 l frm f a ((Z2 l n).getD 0)) o:=by
   intro e
   induction e with
   | nil=>intro o y b;exact b
   | cons u r d=>intro o y b;exact d _ y ((g o _).1 y b)
  simp only[A5]
  split
  ·exact ⟨fun y b=>b,fun _ h=>by omega⟩
  ·split
   ·rename_i h;exact ⟨fun y b=>b,fun _ _=>h⟩
   ·exact ⟨fun y b=>List.mem_append_left _ (c _ _ y b),fun _ _=>by simp⟩
theorem Q97 {l:List Cla} {frm i:Nat} (e:frm≤i) (f:i<l.length):i∈V9 l frm:=by
 unfold V9
 have key: ∀(is b:List Nat),(∀y∈b,y∈is.foldl (fun b i=>A5 l frm (l.length+1) b i) b)∧(i∈is→i∈is.foldl (fun b i=>A5 l frm (l.length+1) b i) b):=by
  intro is
  induction is with
  | nil=>intro b;exact ⟨fun y c=>c,fun h=>by simp at h⟩
  | cons a r d=>
   intro b
   refine ⟨fun y c=>(d _).1 y ((Q55 _ _ _).1 y c),fun h=>?_⟩
   rcases List.mem_cons.1 h with rfl | h
   ·exact (d _).1 _ ((Q55 _ _ _).2 (by omega) e)
   ·exact (d _).2 h
 refine (key _ _).2 ?_
 rw[List.mem_drop_iff_getElem]
 exact ⟨i-frm,by simp;omega,by simp;omega⟩
theorem Q9l {s:X0} (h:M6 s=true):name s=true:=Mw (by rw[h,Bool.or_true])
theorem Q6e {a:X0} (h:name a=true):arr a=false:=by
 cases d:arr a with
 | false=>rfl
 | true=>
  exfalso
  have e:2≤a.length∧a.drop (a.length-2)=[91,93]:=by simpa [arr] using d
  have b:(93:UInt8)∈a:=List.mem_of_mem_drop (i:=a.length-2) (by rw[e.2];simp)
  cases a with
  | nil=>simp at b
  | cons c r=>
   simp only[name,Bool.and_eq_true,List.all_eq_true] at h
   have:=h.2 _ b
   revert this;decide
end Go.Hm
namespace Go.Proofs.YtjdiakhipmggjaaGreatDoor
open Go.Emb Go.RowKit Go.Kd Go.Hm
theorem Q8Q {a:X0} (h:name a=true):base a=(a,0):=by rw[Xo,Q6e h];simp
theorem Nw {s:X0} (h:M6 s=true):arr s=false∧base s=(s,0)∧right s=true∧plain s=false∧elem s=[]∧s≠H9∧s≠[]:=by
 have d:=Hm.Q9l h
 have a:=Q6e d
 have c:=Q8Q d
 refine ⟨a,c,?_,?_,by simp[elem,a],?_,?_⟩
 ·simp[right,c,h]
 ·cases b:plain s with
  | false=>rfl
  | true=>
   simp only[plain,Bool.or_eq_true,decide_eq_true_eq] at b
   rcases b with (e | e) | e<;>subst e<;>revert h<;>decide
 ·rintro rfl;revert h;decide
 ·rintro rfl;revert h;decide
structure Wf (l : List Cla) : Prop where
  ck : ∀ c ∈ l, D7 c = 0
  own : T9 (Q4 l)
  acy : Ja (Q4 l)
  up : ∀ c ∈ l, D0 (Q4 l) c = 0
  mem : ∀ c ∈ l, V7 (Q4 l) c = 0
theorem X3F {l:List Cla} (h:Sw D7 l=none):Wf l:=by
 unfold Sw at h
 split at h
 ·cases h
 rename_i m
 split at h
 ·cases h
 rename_i n
 split at h
 ·cases h
 rename_i o
 split at h
 ·cases h
 rename_i k
 split at h
 ·cases h
 rename_i j
 have d:=P9 m
 have a:=Kl n
 have g: ∀c∈l,T1 (Q4 l) c=false:=fun c b=>List.findIdx?_eq_none_iff.1 k c b
 refine ⟨d,a,Q5s a (fun c b=>(Bu (d c b)).2.2) g,fun c b=>by have:=P9 o c b;omega,fun c b=>?_⟩
 obtain ⟨i,p,rfl⟩:=List.getElem_of_mem b
 have f:I0.length=8:=rfl
 have:=List.find?_eq_none.1 j (8+i) (Q97 (by omega) (by simp[Q4,f];omega))
 have e:(Q4 l).getD (8+i) Cla.zero=l[i]:=by
  rw[List.getD_eq_getElem?_getD,Q4,List.getElem?_append_right (by omega),f,show 8+i-8=i by omega,List.getElem?_eq_getElem p];rfl
 rw[e] at this
 simpa using this
section
variable {l : List Cla} (wf : Wf l)
include wf
theorem Wf.names {c:Cla} (hc:c∈Q4 l):M6 c.name=true:=by
 rcases List.mem_append.1 hc with hc | hc
 ·have: ∀c∈I0,M6 c.name=true:=by decide+kernel
  exact this c hc
 ·have:=wf.ck c hc
  unfold D7 at this
  split at this
  ·cases this
  ·split at this
   ·rename_i a
    simp only[Lx,Bool.and_eq_true] at a
    obtain ⟨⟨⟨⟨⟨⟨⟨⟨b,_⟩,_⟩,_⟩,_⟩,_⟩,_⟩,_⟩,_⟩:=a
    exact List.all_eq_true.1 b c.name (by simp)
   ·cases this
theorem Wf.lkn {n:X0} {c:Cla} (h:lk (Q4 l) n=some c):M6 n=true:=by
 obtain ⟨e,a,_⟩:=V3 h
 rw[←e];exact wf.names a
theorem Wf.root:lk (Q4 l) J9=some ⟨J9,[],[],false,false,false,[],[]⟩:=wf.own.lk (c:=⟨J9,[],[],false,false,false,[],[]⟩) (List.mem_append_left _ (by decide))
theorem Wf.fault:lk (Q4 l) L6=some ⟨L6,J9,[],false,false,false,[⟨Qr,D2,false⟩],[]⟩:=wf.own.lk (c:=⟨L6,J9,[],false,false,false,[⟨Qr,D2,false⟩],[]⟩) (List.mem_append_left _ (by decide))
theorem Wf.super {c:Cla} (hc:c∈Q4 l):c.name=J9∨ ∃d,lk (Q4 l) c.super=some d:=by
 rcases List.mem_append.1 hc with hc | hc
 ·have: ∀c∈I0,c.name=J9∨c.super=J9∨c.super=L6:=by decide
  rcases this c hc with h | h | h
  ·exact .inl h
  ·exact .inr ⟨_,h▸wf.root⟩
  ·exact .inr ⟨_,h▸wf.fault⟩
 ·right
  have:=wf.up c hc
  unfold D0 at this
  split at this
  ·cases this
  ·rename_i h
   unfold Qx at h
   cases a:lk (Q4 l) c.super with
   | none=>rw[a] at h;simp at h
   | some d=>exact ⟨d,rfl⟩
theorem Wf.toRoot: ∀(k:Nat) {n:X0} {c:Cla},P1 (Q4 l) n<k→lk (Q4 l) n=some c→Hm.Reach (lk (Q4 l)) n J9:=by
 intro k
 induction k with
 | zero=>intro n c h;omega
 | succ k i=>
  intro n c j a
  obtain ⟨e,g,_⟩:=V3 a
  rcases wf.super g with h | ⟨d,b⟩
  ·rw[←e,h];exact .refl wf.root
  ·have f:c.super∈U3 c:=by simp[U3]
   exact .step a f (i (by have:=Xq wf.acy a f b;omega) b)
theorem Wf.atRoot {b:X0} (h:Hm.Reach (lk (Q4 l)) J9 b):b=J9:=by
 cases h with
 | refl=>rfl
 | step a c e=>
  rw[wf.root] at a;cases a
  simp[U3] at c;subst c
  obtain ⟨d,f⟩:=e.left
  exact absurd (wf.lkn f) (by decide)
theorem Wf.kind {n:X0} {c:Cla} (h:lk (Q4 l) n=some c):N1 (Q4 l) n=true:=by
 obtain ⟨g,a,b,i,e,f,d⟩:=Nw (wf.lkn h)
 have:Q0t (Q4 l) n=true:=by rw[Q1F,h];rfl
 simp[N1,b,a,this]
theorem Wf.sub_iff {a b:X0}:Xr (Q4 l) a b=true↔N1 (Q4 l) a=true∧N1 (Q4 l) b=true∧(a=b∨(plain a=false∧plain b=false∧(a=H9∨(elem a≠[]∧b=J9)∨(lk (Q4 l) a≠none∧Hm.Reach (lk (Q4 l)) a b)))):=by
 unfold Xr
 cases m:N1 (Q4 l) a<;>cases j:N1 (Q4 l) b<;>simp
 by_cases e:a=b
 ·simp[e]
 cases pa:plain a<;>cases k:plain b<;>simp[e]
 by_cases g:a=H9
 ·simp[g]
 simp only[g,false_or]
 by_cases d:elem a=[]
 ·simp only[d,if_true,not_true_eq_false,false_and,false_or,Ut]
  constructor
  ·intro h;obtain ⟨c,i⟩:=h.left;exact ⟨by rw[i];simp,h⟩
  ·intro h;exact h.2
 ·simp only[d,if_false,not_false_eq_true,true_and]
  constructor
  ·exact .inl
  ·rintro (h | ⟨h,_⟩)
   ·exact h
   ·cases f:lk (Q4 l) a with
    | none=>exact absurd f h
    | some c=>exact absurd (Nw (wf.lkn f)).2.2.2.2.1 d
theorem Wf.sub_class {a b:X0} {c:Cla} (e:lk (Q4 l) a=some c):Xr (Q4 l) a b=true↔Hm.Reach (lk (Q4 l)) a b:=by
 obtain ⟨m,n,o,i,g,j,k⟩:=Nw (wf.lkn e)
 rw[wf.sub_iff]
 constructor
 ·rintro ⟨_,_,rfl | ⟨_,_,h | ⟨h,_⟩ | ⟨_,h⟩⟩⟩
  ·exact .refl e
  ·exact absurd h j
  ·exact absurd g h
  ·exact h
 ·intro h
  obtain ⟨d,f⟩:=h.right
  exact ⟨wf.kind e,wf.kind f, .inr ⟨i,(Nw (wf.lkn f)).2.2.2.1, .inr (.inr ⟨by rw[e];simp,h⟩)⟩⟩
end
end Go.Proofs.YtjdiakhipmggjaaGreatDoor

namespace Go.Proofs.YtjdiakhipmggjaaGreatDoor
open Go.Emb Go.RowKit Go.Kd Go.Hm
theorem Q6X {L:List Cla} (i:Ja L): ∀(k:Nat) {n:X0} {c:Cla},P1 L n<k→c∈chain L n→Hm.Reach (lk L) n c.name∧lk L c.name=some c:=by
 intro k
 induction k with
 | zero=>intro n c h;omega
 | succ k o=>
  intro n c p hc
  rw[A6 i] at hc
  cases a:lk L n with
  | none=>rw[a] at hc;simp at hc
  | some d=>
   rw[a] at hc
   have b:=(V3 a).1
   rcases List.mem_cons.1 hc with rfl | hc
   ·rw[b];exact ⟨.refl a,a⟩
   ·cases g:lk L d.super with
    | none=>rw[Yp g] at hc;simp at hc
    | some e=>
     have f:d.super∈U3 d:=by simp[U3]
     obtain ⟨m,j⟩:=o (by have:=Xq i a f g;omega) hc
     exact ⟨.step a f m,j⟩
theorem X0c {l:List Cla} {a:X0} (h:N1 (Q4 l) a=true) (f:plain a=false):a=H9∨elem a≠[]∨ ∃c,lk (Q4 l) a=some c:=by
 simp only[N1,Bool.or_eq_true,decide_eq_true_eq,Bool.and_eq_true] at h
 rcases h with h | ⟨e,h⟩
 ·exact .inl h
 ·by_cases d:elem a=[]
  ·right;right
   have b:arr a=false:=by
    cases b:arr a with
    | false=>rfl
    | true=>
     have i:=Q4j b e
     have:elem a=Kd.cutA a:=by simp[elem,b,e]
     rw[this] at d
     have:=K7 b
     rw[d] at this;simp at this;omega
   have g:base a=(a,0):=by rw[Xo,b];simp
   rw[g,f] at h
   have h:Q0t (Q4 l) a=true:=by simpa using h
   rw[Q1F] at h
   exact Option.isSome_iff_exists.1 h
  ·exact .inr (.inl d)
section
variable {l : List Cla} (wf : Wf l)
include wf
theorem Wf.kRoot:N1 (Q4 l) J9=true:=wf.kind wf.root
theorem Wf.lkArr {a:X0} {c:Cla} (h:lk (Q4 l) a=some c):elem a=[]:=(Nw (wf.lkn h)).2.2.2.2.1
theorem Wf.none_null:lk (Q4 l) H9=none:=by
 cases h:lk (Q4 l) H9 with
 | none=>rfl
 | some c=>exact absurd (wf.lkn h) (by decide)
theorem Wf.sub_root {a:X0} (h:N1 (Q4 l) a=true) (b:plain a=false):Xr (Q4 l) a J9=true:=by
 rw[wf.sub_iff]
 refine ⟨h,wf.kRoot, .inr ⟨b,by decide,?_⟩⟩
 rcases X0c h b with e | e | ⟨c,e⟩
 ·exact .inl e
 ·exact .inr (.inl ⟨e,rfl⟩)
 ·exact .inr (.inr ⟨by rw[e];simp,wf.toRoot _ (Nat.lt_succ_self _) e⟩)
theorem Wf.sub_refl {a:X0} (h:N1 (Q4 l) a=true):Xr (Q4 l) a a=true:=wf.sub_iff.2 ⟨h,h, .inl rfl⟩
end
end Go.Proofs.YtjdiakhipmggjaaGreatDoor

namespace Go.Proofs.YtjdiakhipmggjaaGreatDoor
open Go.Emb Go.RowKit Go.Kd Go.Hm
theorem Q6N {c:Cla} (h:D7 c=0):M6 c.name=true∧M6 c.super=true∧(c.iface=true→c.super=J9∧c.fields=[]∧c.abs=true∧ ∀m∈c.methods,m.abs=true)∧(∀m∈c.methods,m.abs=true→c.abs=true)∧c.fields.all El=true∧c.methods.all I9=true∧C8 Fld.name [] c.fields=true∧C8 Hm.Met.name [] c.methods=true:=by
 unfold D7 at h
 split at h
 ·cases h
 split at h
 ·rename_i k
  simp only[Lx,Bool.and_eq_true] at k
  obtain ⟨⟨⟨⟨⟨⟨⟨⟨j,v⟩,u⟩,i⟩,f⟩,n⟩,p⟩,q⟩,r⟩:=k
  refine ⟨List.all_eq_true.1 j c.name (by simp),List.all_eq_true.1 j c.super (by simp),fun t=>?_,fun m g o=>?_,q,r,n,p⟩
  ·rw[t] at i
   simp only[Bool.true_and,Bool.not_eq_true',Bool.or_eq_false_iff,Bool.not_eq_false',decide_eq_true_eq] at i
   obtain ⟨⟨⟨a,b⟩,d⟩,e⟩:=i
   refine ⟨b,d,a,fun m g=>?_⟩
   have:=List.any_eq_false.1 e m g
   simpa using this
  ·simp only[Bool.not_eq_true',Bool.or_eq_false_iff] at f
   obtain ⟨_,f⟩:=f
   have s:c.methods.any (·.abs)=true:=List.any_eq_true.2 ⟨m,g,o⟩
   rw[s] at f
   simpa using f
 ·cases h
theorem Q8n {l:List Cla} {c:Cla} (b:c∈Q4 l) (a:c.iface=true):c∈l:=by
 rcases List.mem_append.1 b with h | h
 ·have: ∀c∈I0,c.iface=false:=by decide
  rw[this c h] at a;cases a
 ·exact h
section
variable {l : List Cla} (wf : Wf l)
include wf
theorem Wf.likes {c:Cla} (f:c∈Q4 l) {u:X0} (b:u∈c.like): ∃d,lk (Q4 l) u=some d∧d.iface=true:=by
 rcases List.mem_append.1 f with h | h
 ·rw[(Jo c h).2.2] at b;simp at b
 ·have:=wf.up c h
  unfold D0 at this
  split at this
  ·cases this
  ·split at this
   ·cases this
   ·rename_i a
    have a:=List.any_eq_false.1 (eq_false_of_ne_true a) u b
    unfold R6 at a
    cases e:lk (Q4 l) u with
    | none=>rw[e] at a;simp at a
    | some d=>rw[e] at a;exact ⟨d,rfl,by simpa using a⟩
theorem Wf.above_iface {u b:X0} (h:Hm.Reach (lk (Q4 l)) u b): ∀d,lk (Q4 l) u=some d→d.iface=true→b=J9∨ ∃e,lk (Q4 l) b=some e∧e.iface=true:=by
 induction h with
 | refl h=>intro d a c;exact .inr ⟨d,a,c⟩
 | step k hu i n=>
  intro d a c
  rw[k] at a;cases a
  obtain ⟨e,j,_⟩:=V3 k
  rcases List.mem_cons.1 hu with rfl | hu
  ·rw[((Q6N (wf.ck _ (Q8n j c))).2.2.1 c).1] at i
   exact .inl (wf.atRoot i)
  ·obtain ⟨f,m,g⟩:=wf.likes j hu
   exact n f m g
theorem Wf.by_chain {n b:X0} (h:Hm.Reach (lk (Q4 l)) n b): ∀e,lk (Q4 l) b=some e→e.iface=false→b≠J9→e∈chain (Q4 l) n:=by
 induction h with
 | refl h=>
  intro e c _ _
  rw[A6 wf.acy,c];simp
 | step j hu p q=>
  intro e c m i
  obtain ⟨en,r,_⟩:=V3 j
  rcases List.mem_cons.1 hu with rfl | hu
  ·rw[A6 wf.acy,j]
   exact List.mem_cons_of_mem _ (q e c m i)
  ·obtain ⟨f,o,d⟩:=wf.likes r hu
   rcases wf.above_iface p f o d with h | ⟨g,k,a⟩
   ·exact absurd h i
   ·rw[c] at k;cases k;rw[m] at a;cases a
theorem Wf.chain_tail: ∀(k:Nat) {n:X0} {c:Cla},P1 (Q4 l) n<k→c∈chain (Q4 l) n→ ∃a,chain (Q4 l) n=a++chain (Q4 l) c.name:=by
 intro k
 induction k with
 | zero=>intro n c h;omega
 | succ k m=>
  intro n c o hc
  rw[A6 wf.acy] at hc
  cases b:lk (Q4 l) n with
  | none=>rw[b] at hc;simp at hc
  | some d=>
   rw[b] at hc
   have f:=(V3 b).1
   rcases List.mem_cons.1 hc with rfl | hc
   ·exact ⟨[],by rw[f];rfl⟩
   ·cases g:lk (Q4 l) d.super with
    | none=>rw[Yp g] at hc;simp at hc
    | some e=>
     have i:d.super∈U3 d:=by simp[U3]
     obtain ⟨a,j⟩:=m (by have:=Xq wf.acy b i g;omega) hc
     exact ⟨d::a,by rw[A6 wf.acy,b];show d::chain (Q4 l) d.super=_;rw[j];rfl⟩
theorem Wf.fields_tail {n:X0} {c:Cla} (h:c∈chain (Q4 l) n): ∃a,Y6 (Q4 l) n=Y6 (Q4 l) c.name++a:=by
 obtain ⟨b,d⟩:=wf.chain_tail _ (Nat.lt_succ_self _) h
 exact ⟨b.reverse.flatMap (·.fields),by unfold Y6;rw[d];simp⟩
theorem Wf.none_nil:lk (Q4 l) []=none:=by
 cases h:lk (Q4 l) [] with
 | none=>rfl
 | some c=>exact absurd (wf.lkn h) (by decide)
theorem Wf.fault_fields:Y6 (Q4 l) L6=[⟨Qr,D2,false⟩]:=by
 unfold Y6
 rw[A6 wf.acy,wf.fault]
 simp only
 rw[A6 wf.acy,wf.root]
 simp only
 rw[Yp wf.none_nil]
 rfl
theorem Wf.what {n:X0} (h:Xr (Q4 l) n L6=true) {c:Cla} (f:lk (Q4 l) n=some c):Uf (Q4 l) n Qr=some 0:=by
 have b:=(wf.sub_class f).1 h
 have d:=wf.by_chain b _ wf.fault rfl (by decide)
 obtain ⟨a,e⟩:=wf.fields_tail d
 unfold Uf
 rw[e,show (Cla.mk L6 J9 [] false false false [⟨Qr,D2,false⟩] []).name=L6 from rfl,wf.fault_fields]
 rfl
end
end Go.Proofs.YtjdiakhipmggjaaGreatDoor

namespace Go.Hm
open Go.Kd
end Go.Hm
namespace Go.Proofs.YtjdiakhipmggjaaGreatDoor
open Go.Emb Go.RowKit Go.Kd Go.Hm
section
variable {l : List Cla} (wf : Wf l)
include wf
end
end Go.Proofs.YtjdiakhipmggjaaGreatDoor
namespace Go.Proofs.YtjdiakhipmggjaaGreatDoor
open Go.Emb Go.RowKit Go.Kd Go.Hm
end Go.Proofs.YtjdiakhipmggjaaGreatDoor
namespace Go.Proofs.YtjdiakhipmggjaaGreatDoor
open Go.Emb Go.RowKit Go.Kd Go.Hm
section
variable {l : List Cla} (wf : Wf l)
include wf
end
end Go.Proofs.YtjdiakhipmggjaaGreatDoor

namespace Go.Hm
open Go.Kd
structure Val where
  sort : Int
  n : Int
  s : X0
  ref : Int
deriving DecidableEq
structure Cel where
  kind : X0
  vals : List Val
deriving DecidableEq
def Val.zero:Val:=⟨0,0,[],0⟩
def Cel.zero:Cel:=⟨[],[]⟩
def T0:X0:=[105,110,116]
def Zz:X0:=[98,111,111,108]
def L9 (k:X0):Val:=if k=T0 then ⟨1,0,[],0⟩ else if k=Zz then ⟨2,0,[],0⟩ else if k=D2 then ⟨3,0,[],0⟩ else Val.zero
def Z1 (cs:List Cel):Int:=(cs.map fun c=>1+(c.vals.length:Int)).sum
def W1 (room:Int) (cs:List Cel):Int:=room-Z1 cs
def L7 (cs:List Cel) (r:Int):Bool:=decide (0≤r)&&decide (r<cs.length)
def Wn (cs:List Cel) (r:Int):Cel:=cs.getD r.toNat Cel.zero
def O6 (cs:List Cel) (r:Int):X0:=if L7 cs r then (Wn cs r).kind else []
def Q5O (cs:List Cel) (r:Int):Int:=if L7 cs r then (Wn cs r).vals.length else 0
def K3 (ok:X0→Bool) (cs:List Cel) (v:Val):X0:=
 if v=Val.zero then H9 else if v=⟨1,v.n,[],0⟩ then T0 else if v=⟨2,v.n,[],0⟩∧(v.n=0∨v.n=1) then Zz
 else if v=⟨3,0,v.s,0⟩∧ok v.s=true then D2 else if v=⟨4,0,[],v.ref⟩ then O6 cs v.ref else []
def C7 (ok:X0→Bool) (l:List Cla) (cs:List Cel) (v:Val) (k:X0):Bool:= !decide (K3 ok cs v=[])&&Xr l (K3 ok cs v) k
def Yq (l:List Cla) (room:Int) (cs:List Cel) (k:X0):List Cel×Int:=
 if A9 l k=false then (cs,91) else if W1 room cs<1+((Y6 l k).length:Int) then (cs,90) else (cs++[⟨k,(Y6 l k).map fun f=>L9 f.kind⟩],0)
def G0 (l:List Cla) (e:X0):Bool:= !decide (e=H9)&&N1 l e&&decide (Yc e≤2)
def Zc (l:List Cla) (room:Int) (cs:List Cel) (e:X0) (n:Int):List Cel×Int:=
 if G0 l e=false then (cs,91) else if n<0 then (cs,93) else if W1 room cs≤n then (cs,90) else (cs++[⟨e++[91,93],List.replicate n.toNat (L9 e)⟩],0)
def E4 (cs:List Cel) (r a:Int):Int:=if L7 cs r then (if 0≤a∧a<((Wn cs r).vals.length:Int) then 0 else 93) else 92
def Hj (cs:List Cel) (r a:Int):Val:=if E4 cs r a=0 then (Wn cs r).vals.getD a.toNat Val.zero else Val.zero
def Xl (l:List Cla) (k:X0) (i:Nat):X0:=if elem k=[] then ((Y6 l k).getD i Fld.zero).kind else elem k
def B8 (cs:List Cel) (r a:Int) (v:Val):List Cel:=cs.set r.toNat ⟨(Wn cs r).kind,(Wn cs r).vals.set a.toNat v⟩
def H2 (ok:X0→Bool) (l:List Cla) (cs:List Cel) (r a:Int) (v:Val):List Cel×Int:=
 if E4 cs r a≠0 then (cs,E4 cs r a) else if C7 ok l cs v (Xl l (Wn cs r).kind a.toNat) then (B8 cs r a v,0) else (cs,91)
def C6 (n:Int) (v:Val):Bool:=decide (v.sort=4)&&decide (n≤v.ref)
def Sr (cs:List Cel) (n:Int):List Cel:=
 if (cs.take (max n 0).toNat).any (fun c=>c.vals.any (C6 (max n 0))) then cs else cs.take (max n 0).toNat
structure ActH where
  kind : Int
  s : X0
  n : Int
  ref : Int
  v : Val
deriving DecidableEq
def S8 (ok:X0→Bool) (l:List Cla) (room:Int) (cs:List Cel) (x:ActH):List Cel:=
 if x.kind=0 then (Yq l room cs x.s).1 else if x.kind=1 then (Zc l room cs x.s x.n).1 else if x.kind=2 then (H2 ok l cs x.ref x.n x.v).1
 else if x.kind=4 then Sr cs x.ref else cs
structure GoodC (ok : X0 → Bool) (l : List Cla) (cs : List Cel) (c : Cel) : Prop where
  is : elem c.kind ≠ [] ∨ (A9 l c.kind = true ∧ c.vals.length = (Y6 l c.kind).length)
  kd : N1 l c.kind = true
  fits : ∀ i (h : i < c.vals.length), C7 ok l cs c.vals[i] (Xl l c.kind i) = true
structure GoodH (ok : X0 → Bool) (l : List Cla) (room : Int) (cs : List Cel) : Prop where
  cells : ∀ c ∈ cs, GoodC ok l cs c
  left : 0 ≤ W1 room cs
theorem T4 (a b:List Cel):Z1 (a++b)=Z1 a+Z1 b:=by simp[Z1]
theorem M0 (a:List Cel):0≤Z1 a:=by
 unfold Z1
 induction a with
 | nil=>simp
 | cons c r b=>simp only[List.map_cons,List.sum_cons];omega
theorem K5 (a:List Cel):(a.length:Int)≤Z1 a:=by
 unfold Z1
 induction a with
 | nil=>simp
 | cons c r b=>simp only[List.map_cons,List.sum_cons,List.length_cons];omega
theorem E1 {cs:List Cel} {r:Int}:L7 cs r=true↔ ∃i:Nat,r=i∧i<cs.length:=by
 simp only[L7,Bool.and_eq_true,decide_eq_true_eq]
 constructor
 ·rintro ⟨b,a⟩;exact ⟨r.toNat,by omega,by omega⟩
 ·rintro ⟨i,rfl,h⟩;omega
theorem L4 {cs:List Cel} {i:Nat} (h:i<cs.length):Wn cs (i:Int)=cs[i]:=by
 unfold Wn;rw[Int.toNat_natCast,List.getD_eq_getElem?_getD,List.getElem?_eq_getElem h];rfl
theorem Yv {cs:List Cel} {i:Nat} (h:i<cs.length):O6 cs (i:Int)=cs[i].kind:=by
 unfold O6;rw[if_pos (E1.2 ⟨i,rfl,h⟩),L4 h]
theorem X0S {ok:X0→Bool} {cs a:List Cel} {v:Val} (h:v.sort=4→O6 cs v.ref≠[]→O6 a v.ref=O6 cs v.ref) (c:K3 ok cs v≠[]):K3 ok a v=K3 ok cs v:=by
 unfold K3 at*
 split
 ·rfl
 ·split
  ·rfl
  ·split
   ·rfl
   ·split
    ·rfl
    ·split
     ·rename_i d e f g b
      rw[if_neg d,if_neg e,if_neg f,if_neg g,if_pos b] at c
      exact h (by rw[b]) c
     ·rfl
theorem Hw {ok:X0→Bool} {l:List Cla} {cs a:List Cel} {v:Val} {k:X0} (h:v.sort=4→O6 cs v.ref≠[]→O6 a v.ref=O6 cs v.ref) (b:C7 ok l cs v k=true):C7 ok l a v k=true:=by
 unfold C7 at*
 have c:K3 ok cs v≠[]:=by
  intro e;rw[e] at b;simp at b
 rw[X0S h c];exact b
theorem Q8c {cs more:List Cel} {r:Int} (h:O6 cs r≠[]):O6 (cs++more) r=O6 cs r:=by
 have c:L7 cs r=true:=by
  cases b:L7 cs r with
  | true=>rfl
  | false=>unfold O6 at h;rw[b] at h;simp at h
 obtain ⟨i,rfl,a⟩:=E1.1 c
 rw[Yv a,Yv (by simp;omega),List.getElem_append_left a]
theorem GoodC.app {ok:X0→Bool} {l:List Cla} {cs more:List Cel} {c:Cel} (h:GoodC ok l cs c):GoodC ok l (cs++more) c:=
 ⟨h.is,h.kd,fun i b=>Hw (fun _ a=>Q8c a) (h.fits i b)⟩
section
variable {ok : X0 → Bool} {l : List Cla} {room : Int} {cs : List Cel}
theorem GoodH.snoc (h:GoodH ok l room cs) {c:Cel} (a:GoodC ok l (cs++[c]) c) (b:1+(c.vals.length:Int)≤W1 room cs):GoodH ok l room (cs++[c]):=by
 refine ⟨fun d hd=>?_,?_⟩
 ·rcases List.mem_append.1 hd with hd | hd
  ·exact (h.cells d hd).app
  ·simp at hd;subst hd;exact a
 ·unfold W1 at*;rw[T4];simp only[Z1,List.map_cons,List.map_nil,List.sum_cons,List.sum_nil] at*;omega
end
end Go.Hm
namespace Go.Proofs.YtjdiakhipmggjaaGreatDoor
open Go.Emb Go.RowKit Go.Kd Go.Hm
section
variable {l : List Cla} (wf : Wf l)
include wf
theorem Wf.field_kinds {n:X0} {f:Fld} (h:f∈Y6 (Q4 l) n):O8 (Q4 l) f.kind=true:=by
 unfold Y6 at h
 obtain ⟨c,j,e⟩:=List.mem_flatMap.1 h
 have i:=(Q6X wf.acy _ (Nat.lt_succ_self _) (by simpa using j)).2
 obtain ⟨_,a,_⟩:=V3 i
 rcases List.mem_append.1 a with k | hl
 ·have d: ∀c∈I0,∀f∈c.fields,f.kind=D2:=by decide
  rw[d c k f e]
  have:N1 (Q4 l) D2=true:=by
   have g:right D2=true:=by decide
   have m:plain (base D2).1=true:=by decide
   simp[N1,g,m]
  simp[O8,this];decide
 ·have:=wf.mem c hl
  unfold V7 at this
  split at this
  ·cases this
  ·split at this
   ·cases this
   ·rename_i b
    have b:F2 (Q4 l) c=false:=eq_false_of_ne_true b
    unfold F2 at b
    rw[Bool.or_eq_false_iff] at b
    have:=List.any_eq_false.1 b.1 f e
    simpa using this
theorem Wf.zero_fits {ok:X0→Bool} (g:ok []=true) {cs:List Cel} {k:X0} (h:O8 (Q4 l) k=true):C7 ok (Q4 l) cs (L9 k) k=true:=by
 have a:N1 (Q4 l) k=true∧k≠H9:=by
  simp only[O8,Bool.and_eq_true,Bool.not_eq_true',decide_eq_false_iff_not] at h;exact ⟨h.2,h.1⟩
 by_cases d:k=T0
 ·subst d
  have:C7 ok (Q4 l) cs (L9 T0) T0=Xr (Q4 l) T0 T0:=by
   unfold C7;simp[L9,K3,Val.zero,T0]
  rw[this];exact wf.sub_refl a.1
 by_cases f:k=Zz
 ·subst f
  have:C7 ok (Q4 l) cs (L9 Zz) Zz=Xr (Q4 l) Zz Zz:=by
   unfold C7;simp[L9,K3,Val.zero,Zz,T0]
  rw[this];exact wf.sub_refl a.1
 by_cases c:k=D2
 ·subst c
  have:C7 ok (Q4 l) cs (L9 D2) D2=Xr (Q4 l) D2 D2:=by
   unfold C7;simp[L9,K3,Val.zero,Zz,T0,D2,g]
  rw[this];exact wf.sub_refl a.1
 ·have i:L9 k=Val.zero:=by simp[L9,d,f,c]
  have:C7 ok (Q4 l) cs (L9 k) k=Xr (Q4 l) H9 k:=by
   rw[i];unfold C7 K3;simp[H9]
  rw[this]
  have b:plain k=false:=by
   cases b:plain k with
   | false=>rfl
   | true=>
    simp only[plain,Bool.or_eq_true,decide_eq_true_eq] at b
    rcases b with (e | e) | e
    ·exact absurd e d
    ·exact absurd e f
    ·exact absurd e c
  exact wf.sub_iff.2 ⟨by simp[N1],a.1, .inr ⟨by decide,b, .inl rfl⟩⟩
end
theorem Q5g (a:X0):arr (a++[91,93])=true:=by
 simp[arr]
theorem Q5G (a:X0):Kd.cutA (a++[91,93])=a:=by
 simp[Kd.cutA]
theorem Q0O (a:X0):base (a++[91,93])=((base a).1,(base a).2+1):=by
 rw[Xo,Q5g,if_pos rfl,Q5G]
theorem Q87 {a:X0} (h:right a=true) (b:(base a).2≤2):right (a++[91,93])=true:=by
 unfold right at*
 rw[Q0O]
 simp only[Bool.and_eq_true,decide_eq_true_eq] at*
 exact ⟨by omega,h.2⟩
theorem Q9z {a:X0} (h:right (a++[91,93])=true):elem (a++[91,93])=a:=by
 unfold elem;rw[Q5g,h,Q5G];rfl
theorem Q8k {l:List Cla} {e:X0}:G0 l e=true↔O8 l e=true∧right (e++[91,93])=true:=by
 unfold G0 O8
 simp only[Bool.and_eq_true,Bool.not_eq_true',decide_eq_false_iff_not,decide_eq_true_eq]
 constructor
 ·rintro ⟨⟨b,h2⟩,a⟩
  have c:right e=true:=by
   unfold N1 at h2
   simp only[Bool.or_eq_true,Bool.and_eq_true,decide_eq_true_eq] at h2
   rcases h2 with h2 | h2
   ·exact absurd h2 b
   ·exact h2.1
  unfold Yc at a
  rw[if_pos c] at a
  exact ⟨⟨b,h2⟩,Q87 c a⟩
 ·rintro ⟨⟨b,h2⟩,a⟩
  refine ⟨⟨b,h2⟩,?_⟩
  unfold right at a
  rw[Q0O] at a
  simp only[Bool.and_eq_true,decide_eq_true_eq] at a
  unfold Yc
  split
  ·omega
  ·omega
section
variable {ok : X0 → Bool} {l : List Cla} {room : Int} {cs : List Cel}
theorem GoodH.obj (wf:Wf l) (g:ok []=true) (h:GoodH ok (Q4 l) room cs) (k:X0):GoodH ok (Q4 l) room (Yq (Q4 l) room cs k).1:=by
 unfold Yq
 split
 ·exact h
 split
 ·exact h
 rename_i a j
 have a:A9 (Q4 l) k=true:=by simpa using a
 have d: ∃c,lk (Q4 l) k=some c:=by
  unfold A9 at a
  cases b:lk (Q4 l) k with
  | none=>rw[b] at a;cases a
  | some c=>exact ⟨c,rfl⟩
 obtain ⟨c,b⟩:=d
 have f:elem k=[]:=wf.lkArr b
 refine h.snoc ⟨.inr ⟨a,by simp⟩,wf.kind b,fun i e=>?_⟩ (by simp only[List.length_map];omega)
 simp only[List.length_map] at e
 simp only[List.getElem_map,Xl,f,if_pos]
 rw[List.getD_eq_getElem?_getD,List.getElem?_eq_getElem e]
 exact wf.zero_fits g (wf.field_kinds (List.getElem_mem e))
theorem GoodH.arr (wf:Wf l) (k:ok []=true) (h:GoodH ok (Q4 l) room cs) (e:X0) (n:Int):GoodH ok (Q4 l) room (Zc (Q4 l) room cs e n).1:=by
 unfold Zc
 split
 ·exact h
 split
 ·exact h
 split
 ·exact h
 rename_i f m o
 have f:G0 (Q4 l) e=true:=by simpa using f
 obtain ⟨j,c⟩:=Q8k.1 f
 have g:=Q9z c
 have b:e≠[]:=by
  rintro rfl
  revert c;decide
 have a:N1 (Q4 l) (e++[91,93])=true:=by
  have a:=j
  unfold O8 at a
  simp only[Bool.and_eq_true,Bool.not_eq_true',decide_eq_false_iff_not] at a
  obtain ⟨d,hk2⟩:=a
  unfold N1 at hk2⊢
  simp only[Bool.or_eq_true,Bool.and_eq_true,decide_eq_true_eq] at hk2⊢
  rcases hk2 with hk2 | hk2
  ·exact absurd hk2 d
  ·right;rw[Q0O];exact ⟨c,hk2.2⟩
 refine h.snoc ⟨.inl (by simp only;rw[g];exact b),a,fun i p=>?_⟩ (by simp only[List.length_replicate];omega)
 simp only[List.getElem_replicate,Xl,g,if_neg b]
 exact wf.zero_fits k j
theorem Q3y {r b x:Int} {v:Val} (f:L7 cs r=true):O6 (B8 cs r b v) x=O6 cs x:=by
 obtain ⟨i,rfl,g⟩:=E1.1 f
 have a:(B8 cs i b v).length=cs.length:=by simp[B8]
 cases c:L7 cs x with
 | false=>
  have:L7 (B8 cs i b v) x=false:=by unfold L7 at*;rw[a];exact c
  unfold O6;rw[c,this];rfl
 | true=>
  obtain ⟨j,rfl,d⟩:=E1.1 c
  rw[Yv d,Yv (by rw[a];exact d)]
  simp only[B8,Int.toNat_natCast,L4 g,List.getElem_set]
  split
  ·rename_i e;subst e;rfl
  ·rfl
theorem Lp {r a:Int} (h:E4 cs r a=0): ∃i j:Nat,r=i∧a=j∧ ∃(b:i<cs.length),j<(cs[i]).vals.length:=by
 unfold E4 at h
 split at h
 ·rename_i c
  obtain ⟨i,rfl,b⟩:=E1.1 c
  split at h
  ·rename_i d
   rw[L4 b] at d
   exact ⟨i,a.toNat,rfl,by omega,b,by omega⟩
  ·cases h
 ·cases h
theorem GoodH.set (h:GoodH ok (Q4 l) room cs) (r m:Int) (v:Val):GoodH ok (Q4 l) room (H2 ok (Q4 l) cs r m v).1:=by
 unfold H2
 split
 ·exact h
 rename_i o
 have o:E4 cs r m=0:=by simpa using o
 split
 ·rename_i t
  obtain ⟨i,j,rfl,rfl,g,C⟩:=Lp o
  have y:L7 cs (i:Int)=true:=E1.2 ⟨i,rfl,g⟩
  rw[L4 g,Int.toNat_natCast] at t
  refine ⟨fun c z=>?_,?_⟩
  ·have a: ∀{u:Val} {k:X0},C7 ok (Q4 l) cs u k=true→C7 ok (Q4 l) (B8 cs i j v) u k=true:=fun w=>Hw (fun _ _=>Q3y y) w
   have b: ∀d∈cs,GoodC ok (Q4 l) (B8 cs i j v) d:=fun d p=>⟨(h.cells d p).is,(h.cells d p).kd,fun q n=>a ((h.cells d p).fits q n)⟩
   have f:c∈cs.set i ⟨cs[i].kind,cs[i].vals.set j v⟩:=by simpa [B8,L4 g] using z
   rcases List.mem_or_eq_of_mem_set f with f | rfl
   ·exact b c f
   ·have s:=b _ (List.getElem_mem g)
    refine ⟨by simpa using s.is,s.kd,fun q n=>?_⟩
    simp only[List.length_set] at n
    simp only[List.getElem_set]
    split
    ·rename_i e;subst e;exact a t
    ·exact s.fits q n
  ·have e:Z1 (B8 cs i j v)=Z1 cs:=by
    unfold Z1
    congr 1
    have A:(B8 cs i j v).map (fun c=>1+(c.vals.length:Int))=cs.map (fun c=>1+(c.vals.length:Int)):=by
     unfold B8
     rw[List.map_set,L4 g]
     simp only[List.length_set,Int.toNat_natCast]
     have B:1+(cs[i].vals.length:Int)=(cs.map (fun c=>1+(c.vals.length:Int)))[i]'(by simpa using g):=by simp
     rw[B,List.set_getElem_self]
    exact A
   have:=h.left
   unfold W1 at*
   rw[e];exact this
 ·exact h
theorem GoodH.cut (h:GoodH ok (Q4 l) room cs) (n:Int):GoodH ok (Q4 l) room (Sr cs n):=by
 unfold Sr
 split
 ·exact h
 rename_i hn
 have hn:=eq_false_of_ne_true hn
 generalize hm:max n 0=m at*
 have hm0:0≤m:=by omega
 refine ⟨fun c hc=>?_,?_⟩
 ·have hcs:=List.mem_of_mem_take hc
  refine ⟨(h.cells c hcs).is,(h.cells c hcs).kd,fun i hi=>Hw (fun h4 hk=>?_) ((h.cells c hcs).fits i hi)⟩
  have h1:=List.any_eq_false.1 hn c hc
  have h2: ¬C6 m c.vals[i]=true:=fun e=>h1 (List.any_eq_true.2 ⟨_,List.getElem_mem hi,e⟩)
  have hr:L7 cs c.vals[i].ref=true:=by
   cases he:L7 cs c.vals[i].ref with
   | true=>rfl
   | false=>unfold O6 at hk;rw[he] at hk;simp at hk
  obtain ⟨j,hj,hjl⟩:=E1.1 hr
  have hjm:(j:Int)<m:=by
   simp only[C6,Bool.and_eq_true,decide_eq_true_eq,not_and] at h2
   have:=h2 h4
   omega
  rw[hj,Yv hjl,Yv (by rw[List.length_take];omega)]
  simp
 ·have:Z1 cs=Z1 (cs.take m.toNat)+Z1 (cs.drop m.toNat):=by rw[←T4,List.take_append_drop]
  have h3:=M0 (cs.drop m.toNat)
  have:=h.left
  unfold W1 at*
  omega
theorem GoodH.act (wf:Wf l) (a:ok []=true) (h:GoodH ok (Q4 l) room cs) (x:ActH):GoodH ok (Q4 l) room (S8 ok (Q4 l) room cs x):=by
 unfold S8
 split
 ·exact GoodH.obj wf a h _
 split
 ·exact GoodH.arr wf a h _ _
 split
 ·exact GoodH.set h _ _ _
 split
 ·exact GoodH.cut h _
 ·exact h
theorem GoodH.empty (a:0≤room):GoodH ok l room []:=⟨by simp,by simpa [W1,Z1] using a⟩
end
end Go.Proofs.YtjdiakhipmggjaaGreatDoor

namespace Go.Emb
open Go.RowKit Go.Hm
variable {P : Program} {w w0 w1 w' w'' : World} {K : Value → World → Prop} {σ σ0 σ1 σ' : Q6}
def N3 (_:Q6) (v:Val) (cs:List Value):Prop:=cs=[I v.sort,I v.n,S v.s,I v.ref]∧Yw v.sort∧Yw v.n∧v.s.length≤U1∧Yw v.ref
instance:Rep N3:=⟨fun _ h=>h,fun h u hu=>by rw[h.1] at hu;simp at hu;rcases hu with rfl | rfl | rfl | rfl<;>rfl⟩
def H0 (σ:Q6) (c:Cel) (cs:List Value):Prop:= ∃v,cs=[S c.kind,v]∧Sl 4 N3 σ v c.vals∧c.kind.length≤U1
instance:Rep H0:=⟨fun hk ⟨v,h1,h2,h3⟩=>⟨v,h1,h2.le hk,h3⟩,fun ⟨v,h1,h2,h3⟩ u hu=>by
 rw[h1] at hu;simp at hu;rcases hu with rfl | rfl
 ·rfl
 ·exact A7 h2⟩
theorem Q9C {c:Cel} {cs:List Value} (h:H0 σ0 c cs) (k:SLe σ0 σ):H0 σ c cs:=Rep.up k.le h
def Q3D (_:Q6) (x:List UInt8×Value) (cs:List Value):Prop:=cs=[S x.1,x.2]∧x.1.length≤U1∧ ∃a n c,x.2= .slice a n c
instance:Rep Q3D:=⟨fun _ h=>h,fun ⟨h1,_,a,n,c,h2⟩ u hu=>by
 rw[h1,h2] at hu;simp at hu;rcases hu with rfl | rfl<;>rfl⟩
section
variable {α : Type} {R : Q6 → α → List Value → Prop} {B sz : Nat} {e : TypeId} {v u : Value} {xs : List α}
theorem J7.shiftR [hr:Rep R] (h:J7 B e sz R σ w v xs) (o:SLe σ σ') (m: ∀k,v.ownBlock=some k→σ' k=none):J7 B e sz R σ' w v xs:=by
 obtain ⟨a,l,rfl,z,r,c,p⟩:=h
 refine ⟨a,l,rfl,z,r,fun b d=>⟨(c b d).1,(c b d).2.1,(c b d).2.2.1,by subst d;exact m _ rfl⟩,fun q=>?_⟩
 obtain ⟨g,j,f,rfl,n,C,s,A,y⟩:=p q
 exact ⟨g,j,f,rfl,n,m g rfl,s,A,fun i x t=>hr.up o.le (y i x t)⟩
def Ku (w:World):World:={w with heap:= #[]}
theorem Yu (d:X3 w σ):Stp (Ku w) (fun _=>none) w σ:=
 ⟨⟨rfl,rfl,rfl,Nat.zero_le _,fun k a=>absurd a (Nat.not_lt_zero k)⟩,d,fun _ _ h=>(by cases h),fun b c=>absurd c (Nat.not_lt_zero b)⟩
theorem J7.freeze [hr:Rep R] (f:X3 w σ) (h:J7 B e sz R σ w v xs): ∃σ',X3 w σ'∧SLe σ σ'∧Sl sz R σ' v xs∧ ∀k,some k≠v.ownBlock→σ' k=σ k:=by
 obtain ⟨σ',a,b,c,d⟩:=(h.mono (Nat.zero_le B):J7 (Ku w).heap.size e sz R σ w v xs).keep (Yu f)
 exact ⟨σ',a.sat,c,b,d⟩
theorem Y2.freeze {b:Nat} {cs:List Value} (g:X3 w σ) (h:Y2 σ w b cs): ∃σ',X3 w σ'∧SLe σ σ'∧Z5 σ' ⟨b,0,none⟩ cs∧ ∀k,k≠b→σ' k=σ k:=by
 obtain ⟨σ',a,c,d,f⟩:=h.keep (Yu g) (Nat.zero_le b)
 exact ⟨σ',a.sat,⟨d⟩,c,f⟩
end
def X1s (vs:List Value):Prop:=vs.Pairwise fun a b=> ∀k,a.ownBlock=some k→b.ownBlock≠some k
def Q32 (B:Nat) (e:TypeId) (σ:Q6) (w:World) (vs:List Value) (cs:List Cel):Prop:=vs.length=cs.length∧ ∀i (h:i<vs.length) (a:i<cs.length),J7 B e 4 N3 σ w vs[i] cs[i].vals
theorem Q32.freeze {B:Nat} {e:TypeId}: ∀{vs:List Value} {cs:List Cel} {σ:Q6},X3 w σ→Q32 B e σ w vs cs→X1s vs→
 ∃σ',X3 w σ'∧SLe σ σ'∧(∀i (h:i<vs.length) (z:i<cs.length),Sl 4 N3 σ' vs[i] cs[i].vals)∧ ∀k,(∀v∈vs,v.ownBlock≠some k)→σ' k=σ k
 | [],cs,σ,d,h,g=>⟨σ,d,SLe.refl _,fun i h=>absurd h (Nat.not_lt_zero i),fun _ _=>rfl⟩
 | v::vs,[],σ,d,h,g=>by have:=h.1;simp at this
 | v::vs,c::cs,σ,d,h,g=>by
  obtain ⟨σ1,p,m,s,o1⟩:=(h.2 0 (by simp) (by simp)).freeze d
  obtain ⟨l,j⟩:=List.pairwise_cons.1 g
  have t:Q32 B e σ1 w vs cs:=⟨by simpa using h.1,fun i f a=>by
   have:=h.2 (i+1) (by simpa using f) (by simpa using a)
   simp only[List.getElem_cons_succ] at this
   refine this.shiftR m fun k b=>?_
   rw[o1 k fun e=>l _ (List.getElem_mem f) k e.symm b]
   exact (this.mem b).2.2⟩
  obtain ⟨y,o,n,r,o2⟩:=Q32.freeze p t j
  refine ⟨y,o,m.more n,fun i f a=>?_,fun k b=>?_⟩
  ·cases i with
   | zero=>exact s.lift n
   | succ i=>exact r i (by simpa using f) (by simpa using a)
  ·rw[o2 k fun u q=>b u (by simp[q]),o1 k fun e=>b v (by simp) e.symm]
def Qy (vs:List Value) (cs:List Cel):List (List UInt8×Value):=List.zipWith (fun v c=>(c.kind,v)) vs cs
theorem Du {vs:List Value} {cs:List Cel} (h:vs.length=cs.length):(Qy vs cs).length=cs.length:=by simp[Qy,h]
end Go.Emb
namespace Go.Proofs.YtjdiakhipmggjaaGreatDoor
open Go.Emb Go.RowKit Go.Kd Go.Hm
variable {w w' : World} {K : Value → World → Prop} {σ σ' : Q6}
def S5 (σ:Q6) (hp tv:Value) (room:Int) (cs:List Cel):Prop:= ∃a lv,hp= .pointer (some a)∧Z5 σ a [tv,I room,I (Z1 cs),lv]∧Sl 2 H0 σ lv cs
theorem S5.lift {hp tv:Value} {room:Int} {cs:List Cel} (h:S5 σ hp tv room cs) (b:SLe σ σ'):S5 σ' hp tv room cs:=by
 obtain ⟨a,lv,c,d,f⟩:=h
 exact ⟨a,lv,c,d.lift b,f.lift b⟩
structure RowsIs (B : Nat) (D : Nat → Prop) (σ : Q6) (w : World) (lv : Value) (cs : List Cel) : Prop where
  ex : ∃ vs, J7 B T.n 2 Q3D σ w lv (Qy vs cs) ∧ Q32 B T.g σ w vs cs ∧ X1s (lv :: vs) ∧ ∀ k, D k ↔ ∃ v ∈ lv :: vs, v.ownBlock = some k
structure HeapIs (B : Nat) (D : Nat → Prop) (σ : Q6) (w : World) (hp tv : Value) (room : Int) (cs : List Cel) : Prop where
  ex : ∃ b lv E, hp = .pointer (some ⟨b, 0, none⟩) ∧ B ≤ b ∧ Y2 σ w b [tv, I room, I (Z1 cs), lv] ∧ RowsIs B E σ w lv cs ∧ ¬ E b ∧ ∀ k, D k ↔ (k = b ∨ E k)
section
variable {B : Nat} {D E : Nat → Prop} {lv hp tv : Value} {room : Int} {cs : List Cel}
theorem RowsIs.mem (h:RowsIs B D σ w lv cs) {k:Nat} (a:D k):B≤k∧k<w.heap.size∧σ k=none:=by
 obtain ⟨vs,d,b,f,hD⟩:=h.ex
 obtain ⟨v,hv,a⟩:=(hD k).1 a
 rcases List.mem_cons.1 hv with rfl | hv
 ·exact d.mem a
 ·obtain ⟨i,c,rfl⟩:=List.getElem_of_mem hv
  exact (b.2 i c (by rw[←b.1];exact c)).mem a
theorem RowsIs.nx (h:RowsIs B D σ w lv cs) (k:Nxt E w σ w' σ') (d: ∀k,D k→ ¬E k):RowsIs B D σ' w' lv cs:=by
 obtain ⟨vs,g,c,l,hD⟩:=h.ex
 exact ⟨vs,g.nx k fun i a=>d i ((hD i).2 ⟨lv,by simp,a⟩),⟨c.1,fun i a b=>(c.2 i a b).nx k fun j f=>d j ((hD j).2 ⟨vs[i],by simp[List.getElem_mem a],f⟩)⟩,l,hD⟩
theorem RowsIs.up (h:RowsIs B D σ w lv cs) (k:Stp w σ w' σ'):RowsIs B D σ' w' lv cs:=
 h.nx (E:=fun _=>False) (.of_stp k) fun _ _=>id
theorem RowsIs.freeze (h:RowsIs B D σ w lv cs) (H:X3 w σ): ∃σ',X3 w σ'∧SLe σ σ'∧Sl 2 H0 σ' lv cs∧ ∀k,¬D k→σ' k=σ k:=by
 obtain ⟨vs,m,d,y,hD⟩:=h.ex
 obtain ⟨l,b⟩:=List.pairwise_cons.1 y
 obtain ⟨σ1,t,o,C,o1⟩:=d.freeze H b
 have f:J7 B T.n 2 Q3D σ1 w lv (Qy vs cs):=m.shiftR o fun k a=>by
  rw[o1 k fun v g e=>l v g k a e];exact (m.mem a).2.2
 obtain ⟨J,s,q,A,o2⟩:=f.freeze t
 refine ⟨J,s,o.more q,A.conv (R':=H0) (ys:=cs) (by rw[Du d.1]) fun i L r c z=>?_,fun k a=>?_⟩
 ·have j:i<vs.length:=by rw[d.1];exact r
  obtain ⟨p,n,_⟩:=z
  have e:(Qy vs cs)[i]=(cs[i].kind,vs[i]):=by simp[Qy]
  rw[e] at p n
  exact ⟨vs[i],p,(C i j r).lift q,n⟩
 ·rw[o2 k fun e=>a ((hD k).2 ⟨lv,by simp,e.symm⟩),o1 k fun v g e=>a ((hD k).2 ⟨v,by simp[g],e⟩)]
theorem HeapIs.mem (h:HeapIs B D σ w hp tv room cs) {k:Nat} (hk:D k):B≤k∧k<w.heap.size∧σ k=none:=by
 obtain ⟨b,lv,E,rfl,hB,a,c,hE,hD⟩:=h.ex
 rcases (hD k).1 hk with rfl | hk
 ·exact ⟨hB,a.lt,a.1⟩
 ·exact c.mem hk
theorem HeapIs.nx {F:Nat→Prop} (h:HeapIs B D σ w hp tv room cs) (k:Nxt F w σ w' σ') (a: ∀k,D k→ ¬F k):HeapIs B D σ' w' hp tv room cs:=by
 obtain ⟨b,lv,E,rfl,hB,d,c,hE,hD⟩:=h.ex
 exact ⟨b,lv,E,rfl,hB,d.nx k (a b ((hD b).2 (.inl rfl))),c.nx k fun i f=>a i ((hD i).2 (.inr f)),hE,hD⟩
theorem HeapIs.up (h:HeapIs B D σ w hp tv room cs) (k:Stp w σ w' σ'):HeapIs B D σ' w' hp tv room cs:=
 h.nx (F:=fun _=>False) (.of_stp k) fun _ _=>id
theorem HeapIs.freeze (h:HeapIs B D σ w hp tv room cs) (p:X3 w σ): ∃σ',X3 w σ'∧SLe σ σ'∧S5 σ' hp tv room cs∧ ∀k,¬D k→σ' k=σ k:=by
 obtain ⟨b,lv,E,rfl,hB,f,j,hE,hD⟩:=h.ex
 obtain ⟨σ1,i,o,n,o1⟩:=j.freeze p
 have a:Y2 σ1 w b [tv,I room,I (Z1 cs),lv]:=⟨by rw[o1 b hE];exact f.1,f.2⟩
 obtain ⟨q,l,c,m,g⟩:=a.freeze i
 exact ⟨q,l,o.more c,⟨_,lv,rfl,m,n.lift c⟩,fun k d=>by rw[g k fun e=>d ((hD k).2 (.inl e)),o1 k fun e=>d ((hD k).2 (.inr e))]⟩
end
end Go.Proofs.YtjdiakhipmggjaaGreatDoor

namespace Go.Emb
open Go.RowKit Go.Hm
variable {H : Type} {enc : TypeId × Value → H} {P : Program} {W : World} {t : TypeId} {cs : List Value} {fuel : Nat} {x : DataW H × List MemPlace}
theorem X1M {g:Array Field} (c:P.underlying t=some (.struct g)) (h:DataW.trod enc P W 0 (fun _=>true) true fuel t cs=some x) (q:Wt P t x.1) (i:Nat) {o m:Nat} {b:TypeId}
 (k:(g[i]?).map (fun f=>(f.type,f.offset))=some (b,o)) (r:P.cellsOf b=m): ∃n y,DataW.trod enc P W 0 (fun _=>true) true n b ((cs.drop o).take m)=some y∧Wt P b y.1:=by
 obtain ⟨xs,n,_,rfl,A,s,l⟩:=DataW.trod_struct c h
 obtain ⟨f,a,w⟩:=Option.map_eq_some_iff.1 k
 cases w
 have e:=l i f a
 have j:i<xs.length:=by rw[s];exact (Array.getElem?_eq_some_iff.1 a).1
 rw[List.getElem?_eq_getElem j,r] at e
 refine ⟨n,_,e,fun m z=>q m ?_⟩
 simp only[DataW.weights,c]
 exact Q7D (i:=i) (u:=f.type) (by rw[List.getElem?_map,Array.getElem?_toList,a];rfl) (by rw[List.getElem?_map,List.getElem?_eq_getElem j];rfl) m z
def Sb (_:Q6) (x:ActH) (cs:List Value):Prop:=cs=[I x.kind,S x.s,I x.n,I x.ref,I x.v.sort,I x.v.n,S x.v.s,I x.v.ref]∧(Yw x.kind∧x.s.length≤U1∧Yw x.n∧Yw x.ref)∧Yw x.v.sort∧Yw x.v.n∧x.v.s.length≤U1∧Yw x.v.ref
instance:Rep Sb:=⟨fun _ h=>h,fun h u hu=>by rw[h.1] at hu;simp at hu;rcases hu with rfl | rfl | rfl | rfl | rfl | rfl | rfl | rfl<;>rfl⟩
end Go.Emb
namespace Go.Proofs.YtjdiakhipmggjaaGreatDoor
open Go.Emb Go.RowKit Go.Kd Go.Hm
variable {H : Type} {enc : TypeId × Value → H} {W : World} {cs : List Value} {fuel : Nat} {x : DataW H × List MemPlace}
def X3R:Array Field:= #[⟨"Sort",T.e,0,false, "", "",0⟩,⟨"N",T.a1,1,false, "", "",8⟩,⟨"S",T.c,2,false, "", "",16⟩,⟨"Ref",T.e,3,false, "", "",32⟩]
theorem Q3z:P.underlying T.g=some (.struct X3R):=by kernel_rfl
theorem Q7F:P.underlying T.a1=some (.int .i64):=by kernel_rfl
theorem X2U (h:DataW.trod enc P W 0 (fun _=>true) true fuel T.g cs=some x) (a:Wt P T.g x.1): ∃y,N3 (Wi W) y cs:=by
 obtain ⟨c0,D,C,B,rfl⟩:=X3U (Q9P Q3z (by kernel_rfl) h)
 obtain ⟨_,_,z,w0⟩:=Li (o:=0) Q3z h a 0 rfl Q51
 obtain ⟨_,_,s,w1⟩:=Li (o:=1) Q3z h a 1 rfl (by kernel_rfl)
 obtain ⟨_,_,u,q⟩:=Li (o:=2) Q3z h a 2 rfl Pj
 obtain ⟨_,_,w,A⟩:=Li (o:=3) Q3z h a 3 rfl Q51
 obtain ⟨n,f,k⟩:=Gv Q1L z
 obtain ⟨j,b,i⟩:=Gv Q7F s
 obtain ⟨g,e,m⟩:=Q9G X8 u q
 obtain ⟨r,c,l⟩:=Gv Q1L w
 simp at f b e c
 subst f b e c
 exact ⟨⟨n,j,g,r⟩,rfl,k,i,m,l⟩
def X3w:Array Field:= #[⟨"Kind",T.e,0,false, "", "",0⟩,⟨"S",T.c,1,false, "", "",8⟩,⟨"N",T.a1,2,false, "", "",24⟩,⟨"Ref",T.e,3,false, "", "",32⟩,⟨"V",T.g,4,false, "", "",40⟩]
theorem Q1w:P.underlying T.m=some (.struct X3w):=by kernel_rfl
theorem X2z (h:DataW.trod enc P W 0 (fun _=>true) true fuel T.m cs=some x) (a:Wt P T.m x.1): ∃y,Sb (Wi W) y cs:=by
 obtain ⟨c0,c1,Y,X,R,Z,Q,V,rfl⟩:=X3z (Q9P Q1w (by kernel_rfl) h)
 obtain ⟨_,_,L,w0⟩:=Li (o:=0) Q1w h a 0 rfl Q51
 obtain ⟨_,_,w,w1⟩:=Li (o:=1) Q1w h a 1 rfl Pj
 obtain ⟨_,_,A,O⟩:=Li (o:=2) Q1w h a 2 rfl (by kernel_rfl)
 obtain ⟨_,_,D,U⟩:=Li (o:=3) Q1w h a 3 rfl Q51
 obtain ⟨_,_,i,z⟩:=X1M (o:=4) (m:=4) Q1w h a 4 rfl (by kernel_rfl)
 obtain ⟨s,c,n⟩:=Gv Q1L L
 obtain ⟨l,b,k⟩:=Q9G X8 w w1
 obtain ⟨j,f,r⟩:=Gv Q7F A
 obtain ⟨u,e,q⟩:=Gv Q1L D
 obtain ⟨E,g,C⟩:=X2U i z
 simp at c b f e g
 obtain ⟨N,M,B,J⟩:=g
 subst c b f e N M B J
 exact ⟨⟨s,l,j,u,E⟩,rfl,⟨n,k,r,q⟩,C⟩
theorem Q9T:P.underlying T.q=some (.slice T.m):=by kernel_rfl
section
variable {v : Value} {d : DataW H} {p : List MemPlace}
set_option maxRecDepth 100000 in
theorem Q7z {base:Nat} (f:Value.okWide P W .any base T.q v) (h:DataW.Trod enc P W 0 (fun _=>true) true T.q v d p) (b:Wt P T.q d): ∃l,Sl 8 Sb (Wi W) v l:=by
 obtain ⟨a,n,c,rfl⟩:=WideShapes.okWide_slice Q9T f
 unfold DataW.Trod at h
 obtain ⟨fuel,h⟩:=h
 obtain ⟨u,l,e,g⟩:=X3M (R:=Sb) (sz:=8) Q9T (by kernel_rfl) (by decide) (fun _ _ _ h b=>X2z h b) h b
 simp[Value.cells] at e
 subst e
 exact ⟨l,g⟩
end
end Go.Proofs.YtjdiakhipmggjaaGreatDoor

namespace Go.Emb
open Go.RowKit Go.Hm
variable {P : Program} {w : World} {K : Value → World → Prop}
theorem X05 (n:Int):(BitVec.ofInt 64 n &&& BitVec.ofInt 64 1).toNat=(n % 2).toNat:=by
 rw[BitVec.toNat_and,BitVec.toNat_ofInt,BitVec.toNat_ofInt]
 have e:((1:Int) % ((2 ^ 64:Nat):Int)).toNat=1:=by decide
 rw[e,Nat.and_one_is_mod]
 omega
theorem X2E {t:TypeId} {b a:Operand} {n:Int} (h:K (I (n % 2)) w):Q3 P .and t b a (I n) (I 1) w K:=by
 have e:Q3 P .and t b a (I n) (I 1) w K=K (I (n % 2)) w:=X9 (by
  have f:(BitVec.ofInt IntKind.i64.bits n &&& BitVec.ofInt IntKind.i64.bits 1).toNat=(n % 2).toNat:=X05 n
  have d:IntKind.i64.wrap ((n % 2).toNat:Int)=n % 2:=by rw[G1 (by omega) (by omega)];omega
  have c:((n % 2 ^ IntKind.i64.bits).toNat &&& 1 % 2 ^ IntKind.i64.bits)=(n % 2).toNat:=by
   show ((n % 18446744073709551616).toNat &&& 1)=_
   rw[Nat.and_one_is_mod];omega
  simp[eqGuard,binOp,Op.intBits,c]
  rw[show max (n % 2) 0=n % 2 by omega,G1 (by omega) (by omega)])
 rw[e];exact h
end Go.Emb
namespace Go.Proofs.YtjdiakhipmggjaaGreatDoor
open Go.Emb Go.RowKit Go.Kd Go.Hm
variable {w w' : World} {K : Value → World → Prop} {σ σ' : Q6} {hp tv : Value} {room : Int} {cs : List Cel} {l : List Cla}
theorem X2R:(P.fieldsOf T.g).toList=[⟨"Sort",T.e,0,false, "", "",0⟩,⟨"N",T.a1,1,false, "", "",8⟩,⟨"S",T.c,2,false, "", "",16⟩,⟨"Ref",T.e,3,false, "", "",32⟩]:=by kernel_rfl
set_option maxRecDepth 100000 in
theorem Q7f (a b:Val):(Op.eqFields 9999 [I a.sort,I a.n,S a.s,I a.ref].toArray [I b.sort,I b.n,S b.s,I b.ref].toArray (P.fieldsOf T.g).toList).run P w= .ok (decide (a=b)) w:=by
 rw[X2R]
 have:=Iq (P:=P) (w:=w) (d:=9999) (xs:=[I a.sort,I a.n,S a.s,I a.ref].toArray) (ys:=[I b.sort,I b.n,S b.s,I b.ref].toArray) (f:=⟨"Sort",T.e,0,false, "", "",0⟩) (by decide) rfl rfl (Q3A (k:= .i64) (by kernel_rfl) _ _)
  (Iq (f:=⟨"N",T.a1,1,false, "", "",8⟩) (by decide) rfl rfl (Q3A (k:= .i64) (by kernel_rfl) _ _) (Iq (f:=⟨"S",T.c,2,false, "", "",16⟩) (by decide) rfl rfl (X2c X8 _ _) (Iq (f:=⟨"Ref",T.e,3,false, "", "",32⟩) (by decide) rfl rfl (Q3A (k:= .i64) (by kernel_rfl) _ _) X23)))
 rw[this]
 congr 1
 obtain ⟨i,e,h,c⟩:=a
 obtain ⟨j,o,g,m⟩:=b
 simp[Bool.decide_and]
theorem Sq {a b d:Int} {c:X0}: ∀u∈[I a,I b,S c,I d],u.oneCell'=true:=by
 intro u e
 simp only[List.mem_cons,List.not_mem_nil,or_false] at e
 rcases e with rfl | rfl | rfl | rfl<;>rfl
set_option maxRecDepth 100000 in
theorem Ds {k j:Operand} {d b a e i f:Int} {c g:X0} (h:K (.bool (decide ((⟨d,b,c,a⟩:Val)=⟨e,i,g,f⟩))) w):Q3 P .eql T.g k j (.agg [I d,I b,S c,I a].toArray) (.agg [I e,I i,S g,I f].toArray) w K:=
 X1G (by kernel_rfl) (by kernel_rfl) (by kernel_rfl) (Q7f ⟨d,b,c,a⟩ ⟨e,i,g,f⟩) h
set_option maxRecDepth 100000 in
theorem X1W {k j:Operand} {d b a e i f:Int} {c g:X0} (h:K (.bool (!decide ((⟨d,b,c,a⟩:Val)=⟨e,i,g,f⟩))) w):Q3 P .neq T.g k j (.agg [I d,I b,S c,I a].toArray) (.agg [I e,I i,S g,I f].toArray) w K:=
 X2q (by kernel_rfl) (by kernel_rfl) (by kernel_rfl) (Q7f ⟨d,b,c,a⟩ ⟨e,i,g,f⟩) h
theorem Sl.elV {v:Value} {xs:List Val} (h:Sl 4 N3 σ v xs) {i:Nat} (c:i<xs.length):Z5 σ (Vs 4 v i) [I xs[i].sort,I xs[i].n,S xs[i].s,I xs[i].ref]∧N3 σ xs[i] [I xs[i].sort,I xs[i].n,S xs[i].s,I xs[i].ref]:=by
 obtain ⟨cs,b,d,rfl,a⟩:=h.el c;exact ⟨b,rfl,a⟩
theorem Sl.elO {v:Value} {xs:List Cel} (h:Sl 2 H0 σ v xs) {i:Nat} (e:i<xs.length): ∃a,Z5 σ (Vs 2 v i) [S xs[i].kind,a]∧Sl 4 N3 σ a xs[i].vals∧xs[i].kind.length≤U1:=by
 obtain ⟨cs,b,f,a,rfl,c,d⟩:=h.el e;exact ⟨a,b,c,d⟩
theorem Q5C (d:X3 w σ) (hh:S5 σ hp tv room cs) (h:K (I cs.length) w):Q1 P F.aj [hp] w K:=Q1Q (by
 obtain ⟨a,e,rfl,c,b⟩:=hh
 unfold Ht
 (try simp only[↓M1,M1,Mb,reduceIte])
 refine ld d c rfl ?_
 refine Q8 b ?_
 exact h)
theorem X0n (c:X3 w σ) (hh:S5 σ hp tv room cs) (h:K tv w):Q1 P F.bD [hp] w K:=Q07 (by
 obtain ⟨a,e,rfl,b,d⟩:=hh
 unfold Oo
 rw[L8,fa]
 exact ld c b rfl h)
theorem Q1o (c:X3 w σ) (hh:S5 σ hp tv room cs) (f:0≤W1 room cs) (k:room≤1048576) (h: ∀w',Below w.heap.size w w'→K (I (W1 room cs)) w'):Q1 P F.q [hp] w K:=Q0Y (by
 obtain ⟨a,j,rfl,i,g⟩:=hh
 unfold Hc
 have m:=M0 cs
 unfold W1 at*
 refine U0 c ?_
 (repeat refine J4 Qc ?_)
 (intros;(repeat (rename_i d;subst d));(try simp only[↓M2,M2,Mb,reduceIte]))
 rename_i e b
 rw[G1 (by omega) (by omega)]
 exact h _ b.stp.bel)
theorem Q5k (e:X3 w σ) (hh:S5 σ hp tv room cs) {r:Int} (h:K (.bool (L7 cs r)) w):Q1 P F.aH [hp,I r] w K:=Q1P (by
 obtain ⟨a,f,rfl,d,c⟩:=hh
 unfold Hn
 refine K9 ?_
 unfold L7 at h
 cases b:decide ((0:Int)≤r) with
 | false=>
  rw[b] at h
  (try simp only[↓M1,M1,Mb,reduceIte])
  exact h
 | true=>
  rw[b] at h
  (try simp only[↓M1,M1,Mb,reduceIte])
  refine ld e d rfl ?_
  refine Q8 c ?_
  refine Y9 ?_
  (try simp only[↓M1,M1,Mb,reduceIte])
  exact h)
theorem Q7h (d:X3 w σ) (hh:S5 σ hp tv room cs) {r:Int} (h:K (S (O6 cs r)) w):Q1 P F.aB [hp,I r] w K:=Q0l (by
 unfold Ha
 refine Q5k d hh ?_
 unfold O6 at h
 cases c:L7 cs r with
 | false=>rw[c] at h;(try simp only[↓M1,M1,Mb,reduceIte]);exact h
 | true=>
  rw[c] at h
  obtain ⟨i,rfl,b⟩:=E1.1 c
  rw[L4 b] at h
  obtain ⟨a,j,rfl,f,e⟩:=hh
  obtain ⟨k,g,_,_⟩:=Sl.elO e b
  (try simp only[↓M1,M1,Mb,reduceIte])
  refine ld d f rfl ?_
  refine Y0 e b ?_
  (try simp only[↓M1,M1,Mb,reduceIte])
  exact ld d g rfl h)
theorem X1B (d:X3 w σ) (hh:S5 σ hp tv room cs) {r:Int} (h:K (I (Q5O cs r)) w):Q1 P F.bO [hp,I r] w K:=Q0k (by
 unfold Dz
 refine Q5k d hh ?_
 unfold Q5O at h
 cases c:L7 cs r with
 | false=>rw[c] at h;(try simp only[↓M1,M1,Mb,reduceIte]);exact h
 | true=>
  rw[c] at h
  obtain ⟨i,rfl,b⟩:=E1.1 c
  rw[L4 b] at h
  obtain ⟨a,k,rfl,f,e⟩:=hh
  obtain ⟨m,j,g,_⟩:=Sl.elO e b
  (try simp only[↓M1,M1,Mb,reduceIte])
  refine ld d f rfl ?_
  refine Y0 e b ?_
  (try simp only[↓M1,M1,Mb,reduceIte])
  refine ld d j rfl ?_
  exact Q8 g h)
theorem Q7j (d:X3 w σ) (hh:S5 σ hp tv room cs) {r i:Int} (h:K (I (E4 cs r i)) w):Q1 P F.aU [hp,I r,I i] w K:=Tp (by
 unfold Dc
 refine Q5k d hh ?_
 unfold E4 at h
 cases c:L7 cs r with
 | false=>rw[c] at h;(try simp only[↓M1,M1,Mb,reduceIte]);exact h
 | true=>
  rw[c] at h
  obtain ⟨j,rfl,e⟩:=E1.1 c
  rw[L4 e] at h
  obtain ⟨a,o,rfl,m,f⟩:=hh
  obtain ⟨p,n,k,_⟩:=Sl.elO f e
  (try simp only[↓M1,M1,Mb,reduceIte])
  by_cases g:i<0
  ·rw[decide_eq_true g]
   (try simp only[↓M1,M1,Mb,reduceIte])
   rw[if_pos rfl,if_neg (by omega)] at h
   exact h
  ·rw[decide_eq_false g]
   (try simp only[↓M1,M1,Mb,reduceIte])
   refine ld d m rfl ?_
   refine Y0 f e ?_
   (try simp only[↓M1,M1,Mb,reduceIte])
   refine ld d n rfl ?_
   refine Q8 k ?_
   refine K9 ?_
   (try simp only[↓M1,M1,Mb,reduceIte])
   refine Q7 (fun b=>?_) (fun b=>?_)
   ·have b:(cs[j].vals.length:Int)≤i:=by simpa using b
    rw[if_pos rfl,if_neg (by omega)] at h
    exact h
   ·have b: ¬(cs[j].vals.length:Int)≤i:=by simpa using b
    rw[if_pos rfl,if_pos (by omega)] at h
    exact h)
theorem X2P (p:X3 w σ) (hh:S5 σ hp tv room cs) {r i:Int} (h: ∀w' σ',Stp w σ w' σ'→K (.tuple #[.agg [I (Hj cs r i).sort,I (Hj cs r i).n,S (Hj cs r i).s,I (Hj cs r i).ref].toArray,I (E4 cs r i)]) w'):Q1 P F.c3 [hp,I r,I i] w K:=Q1U (by
 unfold Hl
 refine M9 p fun b w1 σ1 v c o=>?_
 have k:=hh.lift ⟨c.le⟩
 refine Q7j c.sat k ?_
 refine Xh ?_
 unfold Hj at h
 by_cases g:E4 cs r i=0
 ·have e:decide (E4 cs r i=0)=true:=decide_eq_true g
  rw[if_pos g,g] at h
  obtain ⟨a,E,rfl,D,u⟩:=k
  simp only[e,Bool.not_true,↓M1,M1,Mb,reduceIte]
  obtain ⟨j,m,rfl,rfl,t,q⟩:=Lp g
  rw[L4 t,Int.toNat_natCast] at h
  obtain ⟨H,A,y,_⟩:=Sl.elO u t
  obtain ⟨B,z⟩:=Sl.elV y q
  refine ld c.sat D rfl ?_
  refine Y0 u t ?_
  (try simp only[↓M1,M1,Mb,reduceIte])
  refine ld c.sat A rfl ?_
  refine Y0 y q ?_
  refine Y4 c.sat B rfl ?_
  refine G7 o c (M8 v (Stp.refl p)) rfl rfl (Rep.one z) fun C d f=>?_
  refine V1 f rfl ?_
  have e:cs[j].vals.getD m Val.zero=cs[j].vals[m]:=by rw[List.getD_eq_getElem?_getD,List.getElem?_eq_getElem q];rfl
  rw[e] at h
  exact h _ _ d.stp
 ·have e:decide (E4 cs r i=0)=false:=by simpa using g
  rw[if_neg g] at h
  simp only[e,Bool.not_false,↓M1,M1,Mb,reduceIte]
  refine V8 (cells:= #[I 0,I 0,S [],I 0]) (by kernel_rfl) ?_
  refine G7 (ds:=[I 0,I 0,S [],I 0]) o c (M8 v (Stp.refl p)) rfl rfl Sq fun C d f=>?_
  refine V1 f rfl ?_
  exact h _ _ d.stp)
theorem Q9u {k:X0} (o:X3 w σ) (h: ∀w' σ',Stp w σ w' σ'→K (.agg [I (L9 k).sort,I (L9 k).n,S (L9 k).s,I (L9 k).ref].toArray) w'):Q1 P F.cv [S k] w K:=Q6L (by
 unfold Q2l
 refine M9 o fun b w1 σ1 q i m=>?_
 have hB:=M8 q (Stp.refl o)
 unfold L9 at h
 have a: ∀(n:Int) (t:K (.agg [I n,I 0,S [],I 0].toArray)=K (.agg [I n,I 0,S [],I 0].toArray)),(∀w' σ',Stp w σ w' σ'→K (.agg [I n,I 0,S [],I 0].toArray) w')→Y1 P T.g (.pointer (some ⟨b,0,none⟩)) (.agg #[I n,I 0,S [],I 0]) w1 fun _ g=>Y7 P T.g (.pointer (some ⟨b,0,none⟩)) g fun p=>K p g:=fun n _ r=>
  G7 (ds:=[I n,I 0,S [],I 0]) m i hB rfl rfl Sq fun g f j=>V1 j rfl (r _ _ f.stp)
 refine P7 ?_
 by_cases e:k=T0
 ·simp only[if_pos e] at h
  rw[show decide (k=[105,110,116])=true from decide_eq_true e]
  refine Z9 ?_
  refine V8 (cells:= #[I 1,I 0,S [],I 0]) (by kernel_rfl) ?_
  exact a 1 rfl h
 simp only[if_neg e] at h
 rw[show decide (k=[105,110,116])=false from decide_eq_false e]
 refine Z4 ?_
 refine P7 ?_
 by_cases d:k=Zz
 ·simp only[if_pos d] at h
  rw[show decide (k=[98,111,111,108])=true from decide_eq_true d]
  refine Z9 ?_
  refine V8 (cells:= #[I 2,I 0,S [],I 0]) (by kernel_rfl) ?_
  exact a 2 rfl h
 simp only[if_neg d] at h
 rw[show decide (k=[98,111,111,108])=false from decide_eq_false d]
 refine Z4 ?_
 refine P7 ?_
 by_cases c:k=D2
 ·simp only[if_pos c] at h
  rw[show decide (k=[116,101,120,116])=true from decide_eq_true c]
  refine Z9 ?_
  refine V8 (cells:= #[I 3,I 0,S [],I 0]) (by kernel_rfl) ?_
  exact a 3 rfl h
 ·simp only[if_neg c] at h
  rw[show decide (k=[116,101,120,116])=false from decide_eq_false c]
  refine Z4 ?_
  refine V8 (cells:= #[I 0,I 0,S [],I 0]) (by kernel_rfl) ?_
  exact a 0 rfl h)
def W6 (s:X0):Bool:=decide (s.length≤4096)&&Lib.validD s
theorem Q8s (hh:S5 σ hp tv room cs) (r:Int):(O6 cs r).length≤U1:=by
 unfold O6
 split
 ·rename_i c
  obtain ⟨i,rfl,b⟩:=E1.1 c
  rw[L4 b]
  obtain ⟨a,e,rfl,f,d⟩:=hh
  exact (Sl.elO d b).choose_spec.2.2
 ·exact Nat.zero_le _
theorem X1D (hh:S5 σ hp tv room cs) (v:Val):(K3 W6 cs v).length≤U1:=by
 unfold K3
 split
 ·decide
 split
 ·decide
 split
 ·decide
 split
 ·decide
 split
 ·exact Q8s hh _
 ·exact Nat.zero_le _
theorem Q68 (n:Int):n=n % 2↔n=0∨n=1:=by omega
set_option maxHeartbeats 1000000 in
theorem X47 (X:X3 w σ) (Y:Glb σ) (hh:S5 σ hp tv room cs) {v:Val} (W:v.s.length≤U1) (h: ∀w' σ',Stp w σ w' σ'→K (S (K3 W6 cs v)) w'):Q1 P F.ce [hp, .agg [I v.sort,I v.n,S v.s,I v.ref].toArray] w K:=Q2z (by
 unfold Rn
 refine Z0 X fun q w1 σ1 g k=>?_
 have f:=g.sat
 refine Y4 f k rfl ?_
 refine V8 (cells:= #[I 0,I 0,S [],I 0]) (by kernel_rfl) ?_
 refine Ds ?_
 unfold K3 at h
 by_cases t:v=Val.zero
 ·rw[if_pos t] at h
  have:decide ((⟨v.sort,v.n,v.s,v.ref⟩:Val)=⟨0,0,[],0⟩)=true:=decide_eq_true t
  rw[this]
  exact Z9 (h _ _ g)
 rw[if_neg t] at h
 have:decide ((⟨v.sort,v.n,v.s,v.ref⟩:Val)=⟨0,0,[],0⟩)=false:=decide_eq_false t
 rw[this]
 refine Z4 ?_
 refine Y4 f k rfl ?_
 refine W2 ?_
 refine ld f k rfl ?_
 refine V8 (cells:= #[I 1,I v.n,S [],I 0]) (by kernel_rfl) ?_
 refine Ds ?_
 by_cases u:v=⟨1,v.n,[],0⟩
 ·rw[if_pos u] at h
  have:decide ((⟨v.sort,v.n,v.s,v.ref⟩:Val)=⟨1,v.n,[],0⟩)=true:=decide_eq_true u
  rw[this]
  exact Z9 (h _ _ g)
 rw[if_neg u] at h
 have:decide ((⟨v.sort,v.n,v.s,v.ref⟩:Val)=⟨1,v.n,[],0⟩)=false:=decide_eq_false u
 rw[this]
 refine Z4 ?_
 refine Y4 f k rfl ?_
 refine W2 ?_
 refine ld f k rfl ?_
 refine X2E ?_
 refine V8 (cells:= #[I 2,I (v.n % 2),S [],I 0]) (by kernel_rfl) ?_
 refine Ds ?_
 have p:(v=⟨2,v.n % 2,[],0⟩)↔(v=⟨2,v.n,[],0⟩∧(v.n=0∨v.n=1)):=by
  obtain ⟨a,b,c,d⟩:=v
  simp only[Val.mk.injEq,true_and]
  constructor
  ·rintro ⟨Q,L,p⟩;exact ⟨⟨Q,p⟩,(Q68 b).1 L⟩
  ·rintro ⟨⟨Q,p⟩,L⟩;exact ⟨Q,(Q68 b).2 L,p⟩
 by_cases z:v=⟨2,v.n % 2,[],0⟩
 ·rw[if_pos (p.1 z)] at h
  have:decide ((⟨v.sort,v.n,v.s,v.ref⟩:Val)=⟨2,v.n % 2,[],0⟩)=true:=decide_eq_true z
  rw[this]
  exact Z9 (h _ _ g)
 rw[if_neg (fun e=>z (p.2 e))] at h
 have:decide ((⟨v.sort,v.n,v.s,v.ref⟩:Val)=⟨2,v.n % 2,[],0⟩)=false:=decide_eq_false z
 rw[this]
 refine Z4 ?_
 refine Y4 f k rfl ?_
 refine W2 ?_
 refine ld f k rfl ?_
 refine V8 (cells:= #[I 3,I 0,S v.s,I 0]) (by kernel_rfl) ?_
 refine Ds ?_
 have j: ∀{y R},Stp w σ y R→SLe σ1 R→(∀w' σ',Stp w σ w' σ'→K (S (if v=⟨4,0,[],v.ref⟩ then O6 cs v.ref else [])) w')→Q2 P T.g (.pointer (some q)) y fun N w=>
  Q2 P T.e (.pointer (some (q.add 3))) w fun H w=>
  H1 P T.g [(0,(.int .i64 4)),(3,H)] w fun M w=>
  Q3 P .eql T.g (.tmp 40) (.tmp 43) N M w fun O w=>
  X1 O (
   Q2 P T.e (.pointer (some (q.add 3))) w fun C w=>
   Q1 P F.aB [hp,C] w fun E w=>
   K E w) (
   K (.string ⟨#[]⟩) w):=by
  intro y R i J h
  have m:=k.lift J
  refine Y4 i.sat m rfl ?_
  refine ld i.sat m rfl ?_
  refine V8 (cells:= #[I 4,I 0,S [],I v.ref]) (by kernel_rfl) ?_
  refine Ds ?_
  by_cases A:v=⟨4,0,[],v.ref⟩
  ·rw[if_pos A] at h
   have:decide ((⟨v.sort,v.n,v.s,v.ref⟩:Val)=⟨4,0,[],v.ref⟩)=true:=decide_eq_true A
   rw[this]
   refine Z9 ?_
   refine ld i.sat m rfl ?_
   exact Q7h i.sat (hh.lift ⟨i.le⟩) (h _ _ i)
  ·rw[if_neg A] at h
   have:decide ((⟨v.sort,v.n,v.s,v.ref⟩:Val)=⟨4,0,[],v.ref⟩)=false:=decide_eq_false A
   rw[this]
   exact Z4 (h _ _ i)
 by_cases B:v=⟨3,0,v.s,0⟩
 ·have:decide ((⟨v.sort,v.n,v.s,v.ref⟩:Val)=⟨3,0,v.s,0⟩)=true:=decide_eq_true B
  rw[this]
  (try simp only[↓M1,M1,Mb,reduceIte])
  refine ld f k rfl ?_
  refine Gb X8 ?_
  refine Q52 ?_
  by_cases U:v.s.length≤4096
  ·rw[decide_eq_true (show (v.s.length:Int)≤4096 by omega)]
   (try simp only[↓M1,M1,Mb,reduceIte])
   refine ld f k rfl ?_
   refine Tk W (Y.tabs _ (fun b o e=>f b o (g.le b o e))) fun y D=>?_
   have r:=g.trans (Stp.of_below f D)
   cases V:Lib.validD v.s with
   | true=>
    (try simp only[↓M1,M1,Mb,reduceIte])
    rw[if_pos ⟨B,by simp[W6,V,U]⟩] at h
    exact h _ _ r
   | false=>
    (try simp only[↓M1,M1,Mb,reduceIte])
    rw[if_neg (by rintro ⟨_,e⟩;simp[W6,V] at e)] at h
    exact j r (SLe.refl _) h
  ·rw[decide_eq_false (show¬(v.s.length:Int)≤4096 by omega)]
   (try simp only[↓M1,M1,Mb,reduceIte])
   rw[if_neg (by rintro ⟨_,e⟩;simp[W6,U] at e)] at h
   exact j g (SLe.refl _) h
 ·have:decide ((⟨v.sort,v.n,v.s,v.ref⟩:Val)=⟨3,0,v.s,0⟩)=false:=decide_eq_false B
  rw[this]
  (try simp only[↓M1,M1,Mb,reduceIte])
  rw[if_neg (fun e=>B e.1)] at h
  exact j g (SLe.refl _) h)
end Go.Proofs.YtjdiakhipmggjaaGreatDoor

namespace Go.Proofs.YtjdiakhipmggjaaGreatDoor
open Go.Emb Go.RowKit Go.Kd Go.Hm
variable {w : World} {K : Value → World → Prop} {σ : Q6}
theorem Gw {β:Type} {xs:List Val} {v f:Value} (a:β→Val→Bool×β) (j:β) (b:β→World→Prop) (D:Nat→Prop) (i: ∀s w,b s w→X3 w σ) (z:b j w) (t:Sl 4 N3 σ v xs)
 (y: ∀s x cs (w1:World) (K:Value→World→Prop),x∈xs→Kpt D w w1→b s w1→N3 σ x cs→cs.length=4→(∀w',Kpt D w w'→b (a s x).2 w'→K (.bool (a s x).1) w')→Z3 P f [.agg cs.toArray] w1 K)
 (h: ∀w',Kpt D w w'→b (J5 a j xs 0).2 w'→K (I (L5 (J5 a j xs 0).1)) w'):Q1 P F.a5 [v,f] w K:=Yy (by
 unfold G4
 ((try simp only[↓M1,M1,Mb,reduceIte]);repeat ((first | refine ld (by assumption) (by assumption) rfl ?_ | refine X7 (by assumption) (by assumption) rfl ?_ | refine Q8 (by assumption) ?_);(try simp only[↓M1,M1,Mb,reduceIte])))
 refine U2 xs.length (fun n w'=>Kpt D w w'∧ ∃s,b s w'∧J5 a j xs 0=J5 a s (xs.drop n) n) ⟨Kpt.refl,j,z,rfl⟩ fun n w1 d E m=>?_
 obtain ⟨u,s,m,g⟩:=m
 have r:=i s w1 m
 ((try simp only[↓M1,M1,Mb,reduceIte]);repeat ((first | refine ld (by assumption) (by assumption) rfl ?_ | refine X7 (by assumption) (by assumption) rfl ?_ | refine Q8 (by assumption) ?_);(try simp only[↓M1,M1,Mb,reduceIte])))
 refine Q7 (fun q=>?_) (fun q=>?_)
 ·have c:n<xs.length:=by simpa using q
  refine M7 t c fun p cs C e A=>?_
  refine Y4 r C e ?_
  refine y s xs[n] cs w1 _ (List.getElem_mem c) u m A e fun B k l=>?_
  rw[List.drop_eq_getElem_cons c] at g
  simp only[J5] at g
  refine Q7 (fun o=>?_) (fun o=>?_)
  ·rw[o] at g
   have:=h B k
   rw[g] at this
   exact this l
  ·rw[o] at g
   ((try simp only[↓M1,M1,Mb,reduceIte]);repeat ((first | refine ld (by assumption) (by assumption) rfl ?_ | refine X7 (by assumption) (by assumption) rfl ?_ | refine Q8 (by assumption) ?_);(try simp only[↓M1,M1,Mb,reduceIte])))
   exact Y5 t.max c ⟨k,_,l,by simpa using g⟩
 ·have c: ¬n<xs.length:=by simpa using q
  rw[List.drop_eq_nil_of_le (by omega)] at g
  have:=h w1 u
  rw[g] at this
  exact this m)
theorem Sh {β:Type} {xs:List Val} {v f:Value} (b:β→Val→Bool×β) (d:β) (a:β→World→Prop) (D:Nat→Prop) (c: ∀s w,a s w→X3 w σ) (g:a d w) (i:Sl 4 N3 σ v xs)
 (e: ∀s x cs (w1:World) (K:Value→World→Prop),x∈xs→Kpt D w w1→a s w1→N3 σ x cs→cs.length=4→(∀w',Kpt D w w'→a (b s x).2 w'→K (.bool (b s x).1) w')→Z3 P f [.agg cs.toArray] w1 K)
 (h: ∀w',Kpt D w w'→a (J5 b d xs 0).2 w'→K (.bool (J5 b d xs 0).1.isSome) w'):Q1 P F.k [v,f] w K:=Xf (by
 unfold B5
 refine Gw b d a D c g i e fun w1 j k=>?_
 (try simp only[↓M1,M1,Mb,reduceIte])
 rw[Dt]
 exact h w1 j k)
theorem Rw {xs:List Val} {v f:Value} (p:Val→Bool) (hs:X3 w σ) (hv:Sl 4 N3 σ v xs)
 (hf: ∀x cs (w1:World) (K:Value→World→Prop),x∈xs→X3 w1 σ→N3 σ x cs→cs.length=4→(∀w',Below w1.heap.size w1 w'→K (.bool (p x)) w')→Z3 P f [.agg cs.toArray] w1 K)
 (h: ∀w',Below w.heap.size w w'→K (.bool (xs.any p)) w'):Q1 P F.k [v,f] w K:=by
 refine Sh (fun (_:Unit) x=>(p x,())) () (fun _ w'=>Below w.heap.size w w') (fun _=>False) (fun _ w' hb=>hs.below hb) (Below.refl _ _) hv (fun s x cs w1 K hx hk hi hr hl hK=>hf x cs w1 K hx (hs.below hi) hr hl fun w' hb=>hK w' (.of_below (bt hi hb)) (bt hi hb)) fun w' hk hi=>?_
 rw[P0]
 simpa using h w' hi
theorem Pt {β:Type} {xs:List Cel} {v f:Value} (a:β→Cel→Bool×β) (j:β) (b:β→World→Prop) (D:Nat→Prop) (i: ∀s w,b s w→X3 w σ) (z:b j w) (t:Sl 2 H0 σ v xs)
 (y: ∀s x cs (w1:World) (K:Value→World→Prop),x∈xs→Kpt D w w1→b s w1→H0 σ x cs→cs.length=2→(∀w',Kpt D w w'→b (a s x).2 w'→K (.bool (a s x).1) w')→Z3 P f [.agg cs.toArray] w1 K)
 (h: ∀w',Kpt D w w'→b (J5 a j xs 0).2 w'→K (I (L5 (J5 a j xs 0).1)) w'):Q1 P F.aa [v,f] w K:=Zx (by
 unfold I4
 ((try simp only[↓M1,M1,Mb,reduceIte]);repeat ((first | refine ld (by assumption) (by assumption) rfl ?_ | refine X7 (by assumption) (by assumption) rfl ?_ | refine Q8 (by assumption) ?_);(try simp only[↓M1,M1,Mb,reduceIte])))
 refine U2 xs.length (fun n w'=>Kpt D w w'∧ ∃s,b s w'∧J5 a j xs 0=J5 a s (xs.drop n) n) ⟨Kpt.refl,j,z,rfl⟩ fun n w1 d E m=>?_
 obtain ⟨u,s,m,g⟩:=m
 have r:=i s w1 m
 ((try simp only[↓M1,M1,Mb,reduceIte]);repeat ((first | refine ld (by assumption) (by assumption) rfl ?_ | refine X7 (by assumption) (by assumption) rfl ?_ | refine Q8 (by assumption) ?_);(try simp only[↓M1,M1,Mb,reduceIte])))
 refine Q7 (fun q=>?_) (fun q=>?_)
 ·have c:n<xs.length:=by simpa using q
  refine M7 t c fun p cs C e A=>?_
  refine Y4 r C e ?_
  refine y s xs[n] cs w1 _ (List.getElem_mem c) u m A e fun B k l=>?_
  rw[List.drop_eq_getElem_cons c] at g
  simp only[J5] at g
  refine Q7 (fun o=>?_) (fun o=>?_)
  ·rw[o] at g
   have:=h B k
   rw[g] at this
   exact this l
  ·rw[o] at g
   ((try simp only[↓M1,M1,Mb,reduceIte]);repeat ((first | refine ld (by assumption) (by assumption) rfl ?_ | refine X7 (by assumption) (by assumption) rfl ?_ | refine Q8 (by assumption) ?_);(try simp only[↓M1,M1,Mb,reduceIte])))
   exact Y5 t.max c ⟨k,_,l,by simpa using g⟩
 ·have c: ¬n<xs.length:=by simpa using q
  rw[List.drop_eq_nil_of_le (by omega)] at g
  have:=h w1 u
  rw[g] at this
  exact this m)
theorem Cn {β:Type} {xs:List Cel} {v f:Value} (b:β→Cel→Bool×β) (d:β) (a:β→World→Prop) (D:Nat→Prop) (c: ∀s w,a s w→X3 w σ) (g:a d w) (i:Sl 2 H0 σ v xs)
 (e: ∀s x cs (w1:World) (K:Value→World→Prop),x∈xs→Kpt D w w1→a s w1→H0 σ x cs→cs.length=2→(∀w',Kpt D w w'→a (b s x).2 w'→K (.bool (b s x).1) w')→Z3 P f [.agg cs.toArray] w1 K)
 (h: ∀w',Kpt D w w'→a (J5 b d xs 0).2 w'→K (.bool (J5 b d xs 0).1.isSome) w'):Q1 P F.n [v,f] w K:=Yd (by
 unfold F6
 refine Pt b d a D c g i e fun w1 j k=>?_
 (try simp only[↓M1,M1,Mb,reduceIte])
 rw[Dt]
 exact h w1 j k)
theorem Cv {xs:List Cel} {v f:Value} (p:Cel→Bool) (hs:X3 w σ) (hv:Sl 2 H0 σ v xs)
 (hf: ∀x cs (w1:World) (K:Value→World→Prop),x∈xs→X3 w1 σ→H0 σ x cs→cs.length=2→(∀w',Below w1.heap.size w1 w'→K (.bool (p x)) w')→Z3 P f [.agg cs.toArray] w1 K)
 (h: ∀w',Below w.heap.size w w'→K (.bool (xs.any p)) w'):Q1 P F.n [v,f] w K:=by
 refine Cn (fun (_:Unit) x=>(p x,())) () (fun _ w'=>Below w.heap.size w w') (fun _=>False) (fun _ w' hb=>hs.below hb) (Below.refl _ _) hv (fun s x cs w1 K hx hk hi hr hl hK=>hf x cs w1 K hx (hs.below hi) hr hl fun w' hb=>hK w' (.of_below (bt hi hb)) (bt hi hb)) fun w' hk hi=>?_
 rw[P0]
 simpa using h w' hi
end Go.Proofs.YtjdiakhipmggjaaGreatDoor
