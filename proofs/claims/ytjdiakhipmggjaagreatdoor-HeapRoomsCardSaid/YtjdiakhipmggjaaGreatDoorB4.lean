/- Parts of a proof about the given program: its functions as texts of their own, what each computes, plain laws of that. The conditions of each stand in its statement. -/
import Derived.Test.YtjdiakhipmggjaaGreatDoorB3
import Derived.Shelf.Strings.Builder1
import Derived.Shelf.Strings.Builder2
import Derived.Shelf.Strings.OnBuilder
import Derived.Shelf.Strings.Trim
import Derived.Shelf.Small.Utf8
import Derived.Shelf.Small.Strs
import Derived.Shelf.Strings.BuilderF
import Derived.Shelf.Strings.BuilderK
import Derived.Shelf.Strings.Builder2Cap
import Derived.Shelf.Strings.Search1
import Derived.Shelf.Strings.Search2
import Derived.Shelf.Strings.Search3
import Derived.Shelf.Strings.Cut
import Derived.Shelf.LaysM
import Derived.Shelf.Strings.Shaped
import Derived.Shelf.Strings.Prefix
import Derived.Shelf.Unicode.Decode
import Derived.Shelf.Strings.Runes
import Derived.Shelf.Strings.AsciiSet
import Derived.Shelf.Unicode.DecodeSlow
import Derived.Shelf.Unicode.DecodeAny
import Derived.Shelf.Unicode.DecodeLast
import Derived.Ground.Names2Prog
import Derived.Shelf.Slices.Clone
import Derived.Shelf.Unicode.ValidAny
import Derived.Test.YtjdiakhipmggjaaGreatDoorProg
import Derived.Test.YtjdiakhipmggjaaGreatDoorRows
import Derived.Lib.LaidU8T
import Derived.OpenShut
import Derived.MakeChecks
import Derived.WideShapes
import Derived.Lib.AsciiSet
import Derived.Lib.Join
import Derived.Maps.RangeRun
set_option linter.unnecessarySimpa false
set_option linter.defProp false
set_option linter.unusedSectionVars false
set_option linter.unusedVariables false
set_option linter.unusedSimpArgs false
namespace Go.Proofs
open Go.Shelf
def Tryz.lays156_ren : Go.Shelf.Ren := ⟨fun | 156 => 143 | 165 => 176 | 166 => 177 | 169 => 178 | 240 => 200 | 241 => 201 | 276 => 213 | 277 => 214 | n => n, fun | 31 => 54 | 9 => 9 | 3 => 3 | 4 => 4 | 0 => 0 | 20 => 20 | 72 => 205 | 76 => 208 | 70 => 202 | 37 => 203 | 75 => 207 | 127 => 220 | 164 => 230 | 5 => 5 | 80 => 210 | n => n, fun | n => n⟩
theorem Tryz.lays156 : Go.Proofs.Lays.n156 Tryz.prog Tryz.lays156_ren := {
  mixed := by kernel_rfl
  f156 := Tryz.func143.trans (congrArg some (by kernel_rfl))
  f165 := Tryz.func176.trans (congrArg some (by kernel_rfl))
  f166 := Tryz.func177.trans (congrArg some (by kernel_rfl))
  f169 := Tryz.func178.trans (congrArg some (by kernel_rfl))
  f240 := Tryz.func200.trans (congrArg some (by kernel_rfl))
  f241 := Tryz.func201.trans (congrArg some (by kernel_rfl))
  f276 := Tryz.func213.trans (congrArg some (by kernel_rfl))
  f277 := Tryz.func214.trans (congrArg some (by kernel_rfl))
  t0 := Tryz.underlying0
  a0 := Tryz.isAgg0
  z0 := Tryz.sizeOf0
  v0 := Tryz.zeroValue0
  t3 := Tryz.underlying3
  a3 := Tryz.isAgg3
  z3 := Tryz.sizeOf3
  v3 := Tryz.zeroValue3
  t4 := Tryz.underlying4
  a4 := Tryz.isAgg4
  z4 := Tryz.sizeOf4
  v4 := Tryz.zeroValue4
  t9 := Tryz.underlying9
  a9 := Tryz.isAgg9
  z9 := Tryz.sizeOf9
  v9 := Tryz.zeroValue9
  t20 := Tryz.underlying20
  a20 := Tryz.isAgg20
  z20 := Tryz.sizeOf20
  v20 := Tryz.zeroValue20
  t31 := Tryz.underlying54
  a31 := Tryz.isAgg54
  z31 := Tryz.sizeOf54
  v31 := Tryz.zeroValue54
  t37 := Tryz.underlying203
  a37 := Tryz.isAgg203
  z37 := Tryz.sizeOf203
  v37 := Tryz.zeroValue203
  t70 := Tryz.underlying202
  a70 := Tryz.isAgg202
  z70 := Tryz.sizeOf202
  v70 := Tryz.zeroValue202
  t72 := Tryz.underlying205
  a72 := Tryz.isAgg205
  z72 := Tryz.sizeOf205
  v72 := Tryz.zeroValue205
  t75 := Tryz.underlying207
  a75 := Tryz.isAgg207
  z75 := Tryz.sizeOf207
  v75 := Tryz.zeroValue207
  t76 := Tryz.underlying208
  a76 := Tryz.isAgg208
  z76 := Tryz.sizeOf208
  v76 := Tryz.zeroValue208
  t127 := Tryz.underlying220
  a127 := Tryz.isAgg220
  z127 := Tryz.sizeOf220
  v127 := Tryz.zeroValue220
  t164 := Tryz.underlying230
  a164 := Tryz.isAgg230
  z164 := Tryz.sizeOf230
  v164 := Tryz.zeroValue230 }
theorem Tryz.Builder_Extra_156 : Builder.Extra Tryz.prog Tryz.lays156_ren := {
  sizeBuilder := by kernel_rfl
  liesBuilder := by kernel_rfl
  t5 := Tryz.underlying5
  a5 := Tryz.isAgg5
  z5 := Tryz.sizeOf5
  v5 := Tryz.zeroValue5
  infoByte := by kernel_rfl
  cellsByte := by kernel_rfl
  sizeByte := by kernel_rfl
  neB5 := by decide }
open Go.RowKit in
theorem Tryz.strings_Join_none (a : Option Addr) (c : Nat) (sep : ByteArray) (w : World) :
    Calls Tryz.prog 143 #[.slice a 0 c, .string sep] w fun e w' => e = .returned (.string ⟨#[]⟩) ∧ w' = w := Any.strings_Join_none Tryz.lays156 Tryz.Builder_Extra_156 a c sep w
open Go.RowKit in
theorem Tryz.strings_Join (bk o c : Nat) (xs : List ByteArray) (sep : ByteArray) (w : World) (hcells : ∀ (j : Nat) x, xs[j]? = some x → w.cell? ⟨bk, o + j, none⟩ = some (.string x)) (hbk : bk < w.heap.size) (hN : xs.length ≤ 140737488355328) (hcap : xs.length ≤ c) (hlen : (Lib.join (xs.map (·.data.toList)) sep.data.toList).length ≤ 140737488355328) :
    Calls Tryz.prog 143 #[.slice (some ⟨bk, o, none⟩) xs.length c, .string sep] w fun e w' => e = .returned (.string ⟨(Lib.join (xs.map (·.data.toList)) sep.data.toList).toArray⟩) ∧ Below w.heap.size w w' := Any.strings_Join Tryz.lays156 Tryz.Builder_Extra_156 bk o c xs sep w hcells hbk hN hcap hlen
open Go.RowKit in
def Tryz.lays144_ren : Go.Shelf.Ren := ⟨fun | 144 => 210 | 143 => 223 | 219 => 228 | 217 => 227 | 225 => 220 | 224 => 219 | 267 => 232 | 266 => 231 | 314 => 234 | n => n, fun | 9 => 9 | 4 => 4 | 3 => 3 | 5 => 5 | 46 => 158 | 146 => 242 | 51 => 241 | n => n, fun | 1 => 4 | n => n⟩
theorem Tryz.lays144 : Go.Proofs.Lays.n144 Tryz.prog Tryz.lays144_ren := {
  mixed := by kernel_rfl
  f143 := Tryz.func223.trans (congrArg some (by kernel_rfl))
  f144 := Tryz.func210.trans (congrArg some (by kernel_rfl))
  f217 := Tryz.func227.trans (congrArg some (by kernel_rfl))
  f219 := Tryz.func228.trans (congrArg some (by kernel_rfl))
  f224 := Tryz.func219.trans (congrArg some (by kernel_rfl))
  f225 := Tryz.func220.trans (congrArg some (by kernel_rfl))
  f266 := Tryz.func231.trans (congrArg some (by kernel_rfl))
  f267 := Tryz.func232.trans (congrArg some (by kernel_rfl))
  f314 := Tryz.func234.trans (congrArg some (by kernel_rfl))
  t3 := Tryz.underlying3
  a3 := Tryz.isAgg3
  z3 := Tryz.sizeOf3
  v3 := Tryz.zeroValue3
  t4 := Tryz.underlying4
  a4 := Tryz.isAgg4
  z4 := Tryz.sizeOf4
  v4 := Tryz.zeroValue4
  t5 := Tryz.underlying5
  a5 := Tryz.isAgg5
  z5 := Tryz.sizeOf5
  v5 := Tryz.zeroValue5
  t9 := Tryz.underlying9
  a9 := Tryz.isAgg9
  z9 := Tryz.sizeOf9
  v9 := Tryz.zeroValue9
  t46 := Tryz.underlying158
  a46 := Tryz.isAgg158
  z46 := Tryz.sizeOf158
  v46 := Tryz.zeroValue158
  t51 := Tryz.underlying241
  a51 := Tryz.isAgg241
  z51 := Tryz.sizeOf241
  v51 := Tryz.zeroValue241
  t146 := Tryz.underlying242
  a146 := Tryz.isAgg242
  z146 := Tryz.sizeOf242
  v146 := Tryz.zeroValue242
  g1 := by kernel_rfl }
open Go.RowKit Go.Lib in
theorem Tryz.strings_Contains_one (s : ByteArray) (c : UInt8) (w : World) :
    Calls Tryz.prog 210 #[.string s, .string ⟨#[c]⟩] w fun e w' => e = .returned (.bool (decide (0 ≤ Lib.indexByte s.data.toList c))) ∧ w' = w := Any.strings_Contains_one Tryz.lays144 s c w
def Tryz.lays227_ren : Go.Shelf.Ren := ⟨fun | 227 => 157 | n => n, fun | 9 => 9 | 116 => 190 | 4 => 4 | 0 => 0 | 3 => 3 | 5 => 5 | n => n, fun | n => n⟩
theorem Tryz.lays227 : Go.Proofs.Lays.n227 Tryz.prog Tryz.lays227_ren := {
  mixed := by kernel_rfl
  f227 := Tryz.func157.trans (congrArg some (by kernel_rfl))
  t0 := Tryz.underlying0
  a0 := Tryz.isAgg0
  z0 := Tryz.sizeOf0
  v0 := Tryz.zeroValue0
  t3 := Tryz.underlying3
  a3 := Tryz.isAgg3
  z3 := Tryz.sizeOf3
  v3 := Tryz.zeroValue3
  t4 := Tryz.underlying4
  a4 := Tryz.isAgg4
  z4 := Tryz.sizeOf4
  v4 := Tryz.zeroValue4
  t5 := Tryz.underlying5
  a5 := Tryz.isAgg5
  z5 := Tryz.sizeOf5
  v5 := Tryz.zeroValue5
  t9 := Tryz.underlying9
  a9 := Tryz.isAgg9
  z9 := Tryz.sizeOf9
  v9 := Tryz.zeroValue9
  t116 := Tryz.underlying190
  a116 := Tryz.isAgg190
  z116 := Tryz.sizeOf190 }
open Go.RowKit Go.Lib in
theorem Tryz.strings_makeASCIISet (hv116 : ∀ w, (zeroValue 190).run Tryz.prog w = .ok (.agg (Array.replicate 256 (.bool false))) w) (chars : ByteArray) (w : World) (hs : chars.size < 4294967281) (hascii : ∀ (j : Nat) b, chars.data.toList[j]? = some b → b.toNat < 128) :
    Calls Tryz.prog 157 #[.string chars] w fun e w' => e = .returned (.tuple #[.agg (Lib.setCells chars.data.toList), .bool true]) ∧ w' = w.alloc (.cells (Lib.setCells chars.data.toList) 190) := Any.strings_makeASCIISet Tryz.lays227 hv116 (by kernel_rfl) chars w hs hascii
open Go.RowKit Go.Lib in
def Tryz.lays196_ren : Go.Shelf.Ren := ⟨fun | 196 => 64 | 259 => 112 | n => n, fun | 9 => 9 | 4 => 4 | 3 => 3 | 5 => 5 | 12 => 12 | 119 => 154 | 0 => 0 | 46 => 158 | 139 => 157 | 138 => 156 | 53 => 184 | n => n, fun | 3 => 1 | 4 => 2 | n => n⟩
theorem Tryz.lays196 : Go.Proofs.Lays.n196 Tryz.prog Tryz.lays196_ren := {
  mixed := by kernel_rfl
  f196 := Tryz.func64.trans (congrArg some (by kernel_rfl))
  f259 := Tryz.func112.trans (congrArg some (by kernel_rfl))
  t0 := Tryz.underlying0
  a0 := Tryz.isAgg0
  z0 := Tryz.sizeOf0
  v0 := Tryz.zeroValue0
  t3 := Tryz.underlying3
  a3 := Tryz.isAgg3
  z3 := Tryz.sizeOf3
  v3 := Tryz.zeroValue3
  t4 := Tryz.underlying4
  a4 := Tryz.isAgg4
  z4 := Tryz.sizeOf4
  v4 := Tryz.zeroValue4
  t5 := Tryz.underlying5
  a5 := Tryz.isAgg5
  z5 := Tryz.sizeOf5
  v5 := Tryz.zeroValue5
  t9 := Tryz.underlying9
  a9 := Tryz.isAgg9
  z9 := Tryz.sizeOf9
  v9 := Tryz.zeroValue9
  t12 := Tryz.underlying12
  a12 := Tryz.isAgg12
  z12 := Tryz.sizeOf12
  v12 := Tryz.zeroValue12
  t46 := Tryz.underlying158
  a46 := Tryz.isAgg158
  z46 := Tryz.sizeOf158
  v46 := Tryz.zeroValue158
  t53 := Tryz.underlying184
  a53 := Tryz.isAgg184
  z53 := Tryz.sizeOf184
  v53 := Tryz.zeroValue184
  t119 := Tryz.underlying154
  a119 := Tryz.isAgg154
  z119 := Tryz.sizeOf154
  t138 := Tryz.underlying156
  a138 := Tryz.isAgg156
  z138 := Tryz.sizeOf156
  v138 := Tryz.zeroValue156
  t139 := Tryz.underlying157
  a139 := Tryz.isAgg157
  z139 := Tryz.sizeOf157
  v139 := Tryz.zeroValue157
  g3 := by kernel_rfl
  g4 := by kernel_rfl }
end Go.Proofs

namespace Go.Proofs.YtjdiakhipmggjaaGreatDoor
open Go.Emb Go.RowKit Go.Kd Go.Hm
variable {w : World} {K : Value → World → Prop} {σ : Q5}
theorem X0l {f:FuncId} {fn:Func} {a:List Value} {V:Value} (g:P.funcs[f]? =some fn) (b:fn.body.isSome=true) (c:(fn.name== "runtime.NumGoroutine")=false)
 (h:Calls P f a.toArray w fun e w'=>e= .returned V∧Below w.heap.size w w') (d: ∀w',Below w.heap.size w w'→K V w'):Q1 P f a w K:=by
 refine Wo g b c (Calls.mono h ?_)
 rintro e w' ⟨rfl,b⟩
 exact d w' b
theorem Px {a:X0} (b:a.length≤U0) (c:Lib.Utf8Tabs G.e G.d w) (h: ∀w',Below w.heap.size w w'→K (.bool (Lib.validD a)) w'):Q1 P F.aZ [S a] w K:=
 X0l Tryz.func64 (by kernel_rfl) (by kernel_rfl) (by
  have:=Any.utf8_ValidString Tryz.lays196 ⟨a.toArray⟩ w (by rw[G9];simp only[U0] at b;omega) c
  simp only[List.toList_toArray] at this
  exact this) h
theorem Q6N {a:X0} {c:UInt8} (h:K (.bool (decide (0≤Lib.indexByte a c))) w):Q1 P F.cC [S a,S [c]] w K:=by
 refine Wo (fn:=Tryz.f210) Tryz.func210 (by kernel_rfl) (by kernel_rfl) (Calls.mono (Tryz.strings_Contains_one ⟨a.toArray⟩ c w) ?_)
 rintro e w' ⟨rfl,rfl⟩
 exact h
structure Glb (σ : Q5) : Prop where
  ops : Q2n σ
  tabs : ∀ w, X2 w σ → Lib.Utf8Tabs G.e G.d w
  flt : Z4 σ ⟨G.b, 0, none⟩ (U4.map S)
theorem Glb.lift {σ0:Q5} (h:Glb σ0) (k:SLe σ0 σ):Glb σ:=⟨h.ops.le k.le,fun w a=>h.tabs w fun b o e=>a b o (k.le b o e),h.flt.le k.le⟩
def txt (n s:X0):Bool:=
 if n=[119,111,114,100] then decide (s.length≤64)&&Lib.validD s&& !decide (0≤Lib.indexByte s 10)
 else if n=[110,101,119] then M6 s
 else if n=[105,115]∨n=[99,97,115,116] then right s&& !plain s
 else if n=[97,114,114,97,121] then right s&&decide (Xf s<3)
 else Zh s
theorem X28 {n a:X0} (ha:a.length≤U0) (hs:X2 w σ) (hg:Glb σ) (h: ∀w' σ',Stp w σ w' σ'→K (.bool (txt n a)) w'):Q1 P F.cJ [S n,S a] w K:=Q6w (by
 unfold Q24
 have ha':a.length≤140737488355320:=by simp only[U0] at ha;omega
 have ha2:a.length≤140737488355328:=by simp only[U0] at ha;omega
 have hv: ∀{w1:World} {K:Value→World→Prop},X2 w1 σ→(∀w',Below w1.heap.size w1 w'→K (.bool (Lib.validD a)) w')→Q1 P F.aZ [S a] w1 K:=fun hk h=>Px ha (hg.tabs _ hk) h
 unfold txt at h
 have e:decide ((a.length:Int)≤64)=decide (a.length≤64):=by rw[Bool.eq_iff_iff];simp only[decide_eq_true_eq];omega
 have e3:decide ((Xf a:Int)<3)=decide (Xf a<3):=by rw[Bool.eq_iff_iff];simp only[decide_eq_true_eq];omega
 by_cases h1:n=[119,111,114,100]
 ·rw[if_pos h1] at h
  simp only[decide_eq_true h1,↓M1,M1,Mb,reduceIte,e]
  by_cases h2:a.length≤64
  ·simp only[decide_eq_true h2,↓M1,M1,Mb,reduceIte] at h⊢
   refine hv hs (L1 hs ?_)
   intro w1 σ1 hk
   by_cases h3:Lib.validD a=true
   ·simp only[h3,↓M1,M1,Mb,reduceIte] at h⊢
    refine Q6N ?_
    (repeat' (first | (with_reducible intro _) | (with_reducible refine U6 ?_) | (simp only[↓M2,M2,Mb,reduceIte]) | (with_reducible first | refine ld aS aL aR ?_ | refine X7 aS aL aR ?_ | refine Y4 aS aL aR ?_ | refine Q8 aL ?_ | refine J4 aR ?_ | refine Z0 aS ?_ | refine N1 aS aL ?_ | refine U5 aS aR ?_ | refine Y9 aS aR aR (Rep.one (by assumption)) ?_ | refine U7 aS aR aR aR ?_ | (refine Z8 (fun hh=>?_) (fun hh=>?_)<;>(try simp only[hh,Bool.not_true,Bool.not_false,↓M2,M2,Mb,reduceIte])) | (refine Q7 (fun hh=>?_) (fun hh=>?_)<;>(try simp only[hh,Bool.not_true,Bool.not_false,↓M2,M2,Mb,reduceIte])))))
    all_goals exact aF
   ·simp only[eq_false_of_ne_true h3,↓M1,M1,Mb,reduceIte] at h⊢
    (repeat' (first | (with_reducible intro _) | (with_reducible refine U6 ?_) | (simp only[↓M2,M2,Mb,reduceIte]) | (with_reducible first | refine ld aS aL aR ?_ | refine X7 aS aL aR ?_ | refine Y4 aS aL aR ?_ | refine Q8 aL ?_ | refine J4 aR ?_ | refine Z0 aS ?_ | refine N1 aS aL ?_ | refine U5 aS aR ?_ | refine Y9 aS aR aR (Rep.one (by assumption)) ?_ | refine U7 aS aR aR aR ?_ | (refine Z8 (fun hh=>?_) (fun hh=>?_)<;>(try simp only[hh,Bool.not_true,Bool.not_false,↓M2,M2,Mb,reduceIte])) | (refine Q7 (fun hh=>?_) (fun hh=>?_)<;>(try simp only[hh,Bool.not_true,Bool.not_false,↓M2,M2,Mb,reduceIte])))))
    all_goals exact aF
  ·simp only[decide_eq_false h2,↓M1,M1,Mb,reduceIte] at h⊢
   (repeat' (first | (with_reducible intro _) | (with_reducible refine U6 ?_) | (simp only[↓M2,M2,Mb,reduceIte]) | (with_reducible first | refine ld aS aL aR ?_ | refine X7 aS aL aR ?_ | refine Y4 aS aL aR ?_ | refine Q8 aL ?_ | refine J4 aR ?_ | refine Z0 aS ?_ | refine N1 aS aL ?_ | refine U5 aS aR ?_ | refine Y9 aS aR aR (Rep.one (by assumption)) ?_ | refine U7 aS aR aR aR ?_ | (refine Z8 (fun hh=>?_) (fun hh=>?_)<;>(try simp only[hh,Bool.not_true,Bool.not_false,↓M2,M2,Mb,reduceIte])) | (refine Q7 (fun hh=>?_) (fun hh=>?_)<;>(try simp only[hh,Bool.not_true,Bool.not_false,↓M2,M2,Mb,reduceIte])))))
   all_goals exact aF
 rw[if_neg h1] at h
 simp only[decide_eq_false h1,↓M1,M1,Mb,reduceIte]
 by_cases h2:n=[110,101,119]
 ·rw[if_pos h2] at h
  simp only[decide_eq_true h2,↓M1,M1,Mb,reduceIte]
  (repeat' (first | (with_reducible intro _) | (with_reducible refine U6 ?_) | (simp only[↓M2,M2,Mb,reduceIte]) | (with_reducible first | refine ld aS aL aR ?_ | refine X7 aS aL aR ?_ | refine Y4 aS aL aR ?_ | refine Q8 aL ?_ | refine J4 aR ?_ | refine Z0 aS ?_ | refine N1 aS aL ?_ | refine U5 aS aR ?_ | refine Y9 aS aR aR (Rep.one (by assumption)) ?_ | refine U7 aS aR aR aR ?_ | refine Hz _ au (L1 aS ?_) | (refine Z8 (fun hh=>?_) (fun hh=>?_)<;>(try simp only[hh,Bool.not_true,Bool.not_false,↓M2,M2,Mb,reduceIte])) | (refine Q7 (fun hh=>?_) (fun hh=>?_)<;>(try simp only[hh,Bool.not_true,Bool.not_false,↓M2,M2,Mb,reduceIte])))))
  all_goals exact aF
 rw[if_neg h2] at h
 simp only[decide_eq_false h2,↓M1,M1,Mb,reduceIte]
 by_cases h3:n=[105,115]∨n=[99,97,115,116]
 ·rw[if_pos h3] at h
  have e4:(decide (n=[105,115])||decide (n=[99,97,115,116]))=true:=by simpa using h3
  refine U6 ?_
  refine Q7 (fun h4=>?_) (fun h4=>?_)
  ·simp only[h4,↓M1,M1,Mb,reduceIte]
   (repeat' (first | (with_reducible intro _) | (with_reducible refine U6 ?_) | (simp only[↓M2,M2,Mb,reduceIte]) | (with_reducible first | refine ld aS aL aR ?_ | refine X7 aS aL aR ?_ | refine Y4 aS aL aR ?_ | refine Q8 aL ?_ | refine J4 aR ?_ | refine Z0 aS ?_ | refine N1 aS aL ?_ | refine U5 aS aR ?_ | refine Y9 aS aR aR (Rep.one (by assumption)) ?_ | refine U7 aS aR aR aR ?_ | refine Ze _ au (L1 aS ?_) | refine Rb _ ?_ | (refine Z8 (fun hh=>?_) (fun hh=>?_)<;>(try simp only[hh,Bool.not_true,Bool.not_false,↓M2,M2,Mb,reduceIte])) | (refine Q7 (fun hh=>?_) (fun hh=>?_)<;>(try simp only[hh,Bool.not_true,Bool.not_false,↓M2,M2,Mb,reduceIte])))))
   all_goals exact aF
  ·rw[h4,Bool.false_or] at e4
   simp only[e4,↓M1,M1,Mb,reduceIte]
   (repeat' (first | (with_reducible intro _) | (with_reducible refine U6 ?_) | (simp only[↓M2,M2,Mb,reduceIte]) | (with_reducible first | refine ld aS aL aR ?_ | refine X7 aS aL aR ?_ | refine Y4 aS aL aR ?_ | refine Q8 aL ?_ | refine J4 aR ?_ | refine Z0 aS ?_ | refine N1 aS aL ?_ | refine U5 aS aR ?_ | refine Y9 aS aR aR (Rep.one (by assumption)) ?_ | refine U7 aS aR aR aR ?_ | refine Ze _ au (L1 aS ?_) | refine Rb _ ?_ | (refine Z8 (fun hh=>?_) (fun hh=>?_)<;>(try simp only[hh,Bool.not_true,Bool.not_false,↓M2,M2,Mb,reduceIte])) | (refine Q7 (fun hh=>?_) (fun hh=>?_)<;>(try simp only[hh,Bool.not_true,Bool.not_false,↓M2,M2,Mb,reduceIte])))))
   all_goals exact aF
 rw[if_neg h3] at h
 obtain ⟨h3,h4⟩:=not_or.1 h3
 refine U6 ?_
 simp only[decide_eq_false h3,decide_eq_false h4,↓M1,M1,Mb,reduceIte]
 by_cases h5:n=[97,114,114,97,121]
 ·rw[if_pos h5] at h
  simp only[decide_eq_true h5,↓M1,M1,Mb,reduceIte]
  (repeat' (first | (with_reducible intro _) | (with_reducible refine U6 ?_) | (simp only[↓M2,M2,Mb,reduceIte]) | (with_reducible first | refine ld aS aL aR ?_ | refine X7 aS aL aR ?_ | refine Y4 aS aL aR ?_ | refine Q8 aL ?_ | refine J4 aR ?_ | refine Z0 aS ?_ | refine N1 aS aL ?_ | refine U5 aS aR ?_ | refine Y9 aS aR aR (Rep.one (by assumption)) ?_ | refine U7 aS aR aR aR ?_ | refine Ze _ au (L1 aS ?_) | refine Q9F _ au (L1 aS ?_) | (refine Z8 (fun hh=>?_) (fun hh=>?_)<;>(try simp only[hh,Bool.not_true,Bool.not_false,↓M2,M2,Mb,reduceIte])) | (refine Q7 (fun hh=>?_) (fun hh=>?_)<;>(try simp only[hh,Bool.not_true,Bool.not_false,↓M2,M2,Mb,reduceIte])))))
  all_goals (try rw[e3])
  all_goals exact aF
 rw[if_neg h5] at h
 simp only[decide_eq_false h5,↓M1,M1,Mb,reduceIte]
 intro _
 refine X1z a ha2 (L1 hs fun w1 σ1 hk=>?_)
 by_cases hp:Zh a=true
 ·simp only[hp,if_true] at h⊢
  (repeat' (first | (with_reducible intro _) | (with_reducible refine U6 ?_) | (simp only[↓M2,M2,Mb,reduceIte]) | (with_reducible first | refine ld aS aL aR ?_ | refine X7 aS aL aR ?_ | refine Y4 aS aL aR ?_ | refine Q8 aL ?_ | refine J4 aR ?_ | refine Z0 aS ?_ | refine N1 aS aL ?_ | refine U5 aS aR ?_ | refine Y9 aS aR aR (Rep.one (by assumption)) ?_ | refine U7 aS aR aR aR ?_ | (refine Z8 (fun hh=>?_) (fun hh=>?_)<;>(try simp only[hh,Bool.not_true,Bool.not_false,↓M2,M2,Mb,reduceIte])) | (refine Q7 (fun hh=>?_) (fun hh=>?_)<;>(try simp only[hh,Bool.not_true,Bool.not_false,↓M2,M2,Mb,reduceIte])))))
  all_goals exact aF
 ·simp only[eq_false_of_ne_true hp,Bool.false_eq_true,if_false] at h⊢
  (repeat' (first | (with_reducible intro _) | (with_reducible refine U6 ?_) | (simp only[↓M2,M2,Mb,reduceIte]) | (with_reducible first | refine ld aS aL aR ?_ | refine X7 aS aL aR ?_ | refine Y4 aS aL aR ?_ | refine Q8 aL ?_ | refine J4 aR ?_ | refine Z0 aS ?_ | refine N1 aS aL ?_ | refine U5 aS aR ?_ | refine Y9 aS aR aR (Rep.one (by assumption)) ?_ | refine U7 aS aR aR aR ?_ | (refine Z8 (fun hh=>?_) (fun hh=>?_)<;>(try simp only[hh,Bool.not_true,Bool.not_false,↓M2,M2,Mb,reduceIte])) | (refine Q7 (fun hh=>?_) (fun hh=>?_)<;>(try simp only[hh,Bool.not_true,Bool.not_false,↓M2,M2,Mb,reduceIte])))))
  all_goals exact aF)
def H3 (i:Ins):Int:=if !(takes i.op).2.2 then 40 else if (!(takes i.op).1&&decide (i.n≠0))||(!(takes i.op).2.1&&decide (i.s≠[]))||((takes i.op).2.1&& !txt i.op i.s) then 41 else 0
theorem Q9S {a:X0} (c:X2 w σ) (b:Glb σ) (h: ∀w',Below w.heap.size w w'→K (.tuple #[.bool (takes a).1, .bool (takes a).2.1, .bool (takes a).2.2]) w'):Q1 P F.ck [S a] w K:=X1y c b.ops h
theorem Q6H {i:Ins} {cs:List Value} (hs:X2 w σ) (hg:Glb σ) (hi:Qk σ i cs) (h: ∀w' σ',Stp w σ w' σ'→K (I (H3 i)) w'):Q1 P F.cF [.agg cs.toArray] w K:=Q5o (by
 obtain ⟨rfl,h1,h2,h3⟩:=hi
 unfold Aw
 unfold H3 at h
 (repeat' (first | (with_reducible intro _) | (with_reducible refine U6 ?_) | (simp only[↓M2,M2,Mb,reduceIte]) | (with_reducible first | refine ld aS aL aR ?_ | refine X7 aS aL aR ?_ | refine Y4 aS aL aR ?_ | refine Q8 aL ?_ | refine J4 aR ?_ | refine Z0 aS ?_ | refine N1 aS aL ?_ | refine U5 aS aR ?_ | refine Y9 aS aR aR (Rep.one (by assumption)) ?_ | refine U7 aS aR aR aR ?_ | refine Q9S au au (L1 aS ?_) | refine X28 au au au ?_ | (refine Z8 (fun hh=>?_) (fun hh=>?_)<;>(try simp only[hh,Bool.not_true,Bool.not_false,↓M2,M2,Mb,reduceIte])) | (refine Q7 (fun hh=>?_) (fun hh=>?_)<;>(try simp only[hh,Bool.not_true,Bool.not_false,↓M2,M2,Mb,reduceIte])))))
 all_goals exact aF)
end Go.Proofs.YtjdiakhipmggjaaGreatDoor

namespace Go.Emb
open Go.RowKit Go.Hm
variable {P : Program} {W : World}
theorem Q2h {w:World} (c:X2 w (Wc W)) {a:Addr} {v:Value} (h:W.cell? a=some v):w.cell? a=some v:=by
 unfold World.cell? at h⊢
 cases b:W.heap[a.block]? with
 | none=>rw[b] at h;cases h
 | some o=>rw[b] at h;rw[c _ o b];exact h
theorem X2K {α:Type} {f:α→List Value} {sz:Nat} (k: ∀a,(f a).length=sz): ∀(l:List α) (cs:List Value),cs.length=l.length*sz→(∀i a,l[i]? =some a→(cs.drop (i*sz)).take sz=f a)→cs=l.flatMap f:=by
 intro l
 induction l with
 | nil=>intro cs h _;simp at h;simp[h]
 | cons a r c=>
  intro cs h hh
  have j:=hh 0 a rfl
  have e:=c (cs.drop sz) (by rw[List.length_drop,h,List.length_cons,Nat.succ_mul];omega) (fun i b g=>by
   have:=hh (i+1) b (by simpa using g)
   rw[List.drop_drop]
   rwa [Nat.succ_mul,Nat.add_comm] at this)
  rw[List.flatMap_cons,←e,←j]
  simp
theorem Q44 {α H:Type} {enc:TypeId×Value→H} {base:Nat} {u:Nat→Bool} {b:Bool} {f:α→List Value} {o:α→DataW H} {n sz:Nat} {t e:TypeId} {c:Nat} {cs:List Value} {p:List MemPlace} (C:P.underlying t=some (.array n e)) (D:P.cellsOf e=sz) (g:P.cellsOf t=n*sz)
 (l:List α) (z: ∀a,(f a).length=sz) (j: ∀m cs a q,DataW.trod enc P W base u b m e cs=some (o a,q)→cs=f a)
 (h:DataW.trod enc P W base u b c t cs=some (.agg (l.map o),p)):cs=l.flatMap f:=by
 obtain ⟨xs,m,_,k,A,J,y⟩:=DataW.trod_array C h
 simp only[Prod.mk.injEq,DataW.agg.injEq] at k
 have E:l.length=n:=by have:=congrArg List.length k.1;simp at this;omega
 refine X2K z l cs (by rw[A,g,E]) fun i a r=>?_
 have L:i<l.length:=(List.getElem?_eq_some_iff.1 r).1
 have s:=y i (by omega)
 have w:i<xs.length:=by omega
 rw[List.getElem?_eq_getElem w,D] at s
 have B:(xs[i]).1=o a:=by
  have:=congrArg (·[i]?) k.1
  simp only[List.getElem?_map,r,List.getElem?_eq_getElem w,Option.map_some,Option.some.injEq] at this
  exact this.symm
 exact j m _ a _ (by rw[s];congr 1;exact Prod.ext B rfl)
theorem Q5Y {n:String} {g:Nat} {cs:Array Value} {l:List Value} (f:P.globalNamed n=some g) (a:W.var? P n=some cs) (j:cs.toList=l):Z4 (Wc W) ⟨g,0,none⟩ l:=by
 unfold World.var? at a
 rw[f] at a
 simp only[Option.bind_some] at a
 cases b:W.heap[g]? with
 | none=>rw[b] at a;cases a
 | some o=>
  rw[b] at a
  cases o with
  | cells arr e h=>
   cases a
   refine ⟨rfl,cs,e,h,b,fun i v c=>?_⟩
   subst j
   simpa using c
  | _=>cases a
end Go.Emb
namespace Go.Proofs.YtjdiakhipmggjaaGreatDoor
open Go.Emb Go.RowKit Go.Kd Go.Hm
variable {W : World}
def laidAll:List (String×DataW Unit):=[("unicode/utf8.acceptRanges",Rows.laid_unicode_utf8_acceptRanges),("squinch/code.ops",Rows.laid_squinch_code_ops),("squinch/hier.faults",Rows.laid_squinch_hier_faults),("unicode/utf8.first",Rows.laid_unicode_utf8_first)]
theorem X31:Rows.laid_squinch_code_ops=(.agg (Ji.map fun o=> .agg [.lit (.string o.name), .lit (.bool o.number), .lit (.bool o.text)]):DataW Unit):=by rfl
theorem X0y:Rows.laid_squinch_hier_faults=(.agg (U4.map fun s=> .lit (.string s)):DataW Unit):=by rfl
theorem X3v:(Rows.laid_unicode_utf8_acceptRanges:DataW Unit)=Lib.acceptData:=by rfl
theorem X26:Rows.laid_unicode_utf8_first=Lib.firstData:=by kernel_rfl
def X3U:Array Field:= #[⟨"name",T.c,0,false, "", "squinch/code",0⟩,⟨"number",T.u,1,false, "", "squinch/code",16⟩,⟨"text",T.u,2,false, "", "squinch/code",17⟩]
theorem X3N:P.underlying T.ad=some (.struct X3U):=by kernel_rfl
theorem X2s (h:laidMetH P laidAll W):Glb (Wc W):=by
 rw[Go.MakeChecks.laidMetH_plain _ _ _ (by kernel_rfl)] at h
 refine ⟨?_,fun w A=>?_,?_⟩
 ·obtain ⟨g,t,cs,u,p,l,k,b,o⟩:=Lib.laidMet.reads h (.tail _ (.head _))
  obtain rfl:=Option.some.inj ((show P.globalNamed "squinch/code.ops"=some G.a by kernel_rfl).symm.trans l)
  obtain rfl:=Option.some.inj ((show (P.globals[G.a]?).map (·.type)=some T.af by kernel_rfl).symm.trans k)
  rw[X31] at o
  refine Q5Y l b (Q44 (f:=cOp) (sz:=3) (n:=42) (e:=T.ad) (by kernel_rfl) (by kernel_rfl) (by kernel_rfl) Ji (fun _=>rfl) (fun m cs a q h=>by
  obtain ⟨xs,n,_,j,h1,V,z⟩:=DataW.trod_struct X3N h
  simp only[Prod.mk.injEq,DataW.agg.injEq] at j
  have r:cs.length=3:=by rw[h1];kernel_rfl
  obtain ⟨y,C,B,rfl⟩:=X0N r
  obtain ⟨x0,x1,Z,rfl⟩:=X0N (show xs.length=3 by rw[V];rfl)
  have j:=j.1
  simp only[List.map_cons,List.map_nil,List.cons.injEq,and_true] at j
  obtain ⟨R,D,L⟩:=j
  have U:DataW.trod (fun _=>()) P W 0 (fun _=>true) false n T.c (List.take (P.cellsOf T.c) (List.drop 0 [y,C,B]))=some x0:=z 0 _ rfl
  have M:DataW.trod (fun _=>()) P W 0 (fun _=>true) false n T.u (List.take (P.cellsOf T.u) (List.drop 1 [y,C,B]))=some x1:=z 1 _ rfl
  have Q:DataW.trod (fun _=>()) P W 0 (fun _=>true) false n T.u (List.take (P.cellsOf T.u) (List.drop 2 [y,C,B]))=some Z:=z 2 _ rfl
  rw[Kf] at U
  rw[X2R] at M Q
  obtain ⟨⟨⟨s0⟩⟩,J,X,_⟩:=DataW.trod_string X8 U
  obtain ⟨b1,O,Y⟩:=DataW.trod_bool Q2N M
  obtain ⟨b2,N,r2⟩:=DataW.trod_bool Q2N Q
  simp at J O N
  subst J O N X Y r2
  simp at R D L
  simp[cOp,←R,←D,←L]) o)
 ·have:=utf8Tabs_of_readsT (U8Types.of196 Tryz.lays196) ⟨by kernel_rfl,by kernel_rfl,by kernel_rfl,by kernel_rfl,by kernel_rfl,by kernel_rfl,by kernel_rfl⟩ (X26▸Lib.laidMet.reads h (.tail _ (.tail _ (.tail _ (.head _))))) (X3v▸Lib.laidMet.reads h (.head _))
  exact ⟨fun c hc=>Q2h A (this.1 c hc),fun i E=>⟨Q2h A (this.2 i E).1,Q2h A (this.2 i E).2⟩⟩
 ·obtain ⟨g,t,cs,u,p,l,k,b,o⟩:=Lib.laidMet.reads h (.tail _ (.tail _ (.head _)))
  obtain rfl:=Option.some.inj ((show P.globalNamed "squinch/hier.faults"=some G.b by kernel_rfl).symm.trans l)
  obtain rfl:=Option.some.inj ((show (P.globals[G.b]?).map (·.type)=some T.ap by kernel_rfl).symm.trans k)
  rw[X0y] at o
  have:=Q44 (f:=fun s=>[S s]) (sz:=1) (n:=6) (e:=T.c) (by kernel_rfl) Kf (by kernel_rfl) U4 (fun _=>rfl) (fun m cs a q h=>by
   obtain ⟨⟨⟨s⟩⟩,rfl,j,_⟩:=DataW.trod_string X8 h
   cases j;rfl) o
  exact Q5Y l b (this.trans (by rfl))
end Go.Proofs.YtjdiakhipmggjaaGreatDoor
namespace Go.Emb
open Go.RowKit Go.Hm
theorem X2D {H:Type} {P:Program} {a:List TypeId} {ds:List (DataW H)} (h:(DataW.weightsEach P a ds).all (· ≤reachBytes)=true) {j:Nat} {t:TypeId} {d:DataW H} (c:a[j]? =some t) (e:ds[j]? =some d):Wt P t d:=fun n b=>by
 have:=List.all_eq_true.1 h _ (DataW.weights_mem_each c e n b)
 simpa using this
end Go.Emb
namespace Go.Proofs.YtjdiakhipmggjaaGreatDoor
open Go.Emb Go.RowKit Go.Kd Go.Hm
section
variable {H : Type} {enc : TypeId × Value → H} {W : World} {v : Value} {d : DataW H} {p : List MemPlace}
end
end Go.Proofs.YtjdiakhipmggjaaGreatDoor

namespace Go.Proofs.YtjdiakhipmggjaaGreatDoor
open Go.Emb Go.RowKit Go.Kd Go.Hm
variable {w : World} {K : Value → World → Prop} {σ : Q5}
def G4 (n:Int) (x:Cat):Bool:=decide (0≤x.frm)&&decide (x.frm<x.to)&&decide (x.to≤n)&&decide (0≤x.at_)&&decide (x.at_<n)&&M6 x.cls
theorem Q88 {cs:List Value} {c:Cat} {q:Addr} {n:Int} (hs:X2 w σ) (hc:Ui σ c cs) (hq:Z4 σ q [I n]) (h: ∀w' σ',Stp w σ w' σ'→K (.bool (G4 n c)) w'):Q1 P F.bh [.agg cs.toArray, .pointer (some q)] w K:=Q2v (by
 obtain ⟨rfl,h1,h2,h3,h4⟩:=hc
 unfold Rs
 unfold G4 at h
 (repeat' (first | (with_reducible intro _) | (with_reducible refine U6 ?_) | (simp only[↓M2,M2,Mb,reduceIte]) | (with_reducible first | refine ld aS aL aR ?_ | refine X7 aS aL aR ?_ | refine Y4 aS aL aR ?_ | refine Q8 aL ?_ | refine J4 aR ?_ | refine Z0 aS ?_ | refine N1 aS aL ?_ | refine U5 aS aR ?_ | refine Y9 aS aR aR (Rep.one (by assumption)) ?_ | refine U7 aS aR aR aR ?_ | refine Hz _ au (L1 aS ?_) | (refine Z8 (fun hh=>?_) (fun hh=>?_)<;>(try simp only[hh,Bool.not_true,Bool.not_false,↓M2,M2,Mb,reduceIte])) | (refine Q7 (fun hh=>?_) (fun hh=>?_)<;>(try simp only[hh,Bool.not_true,Bool.not_false,↓M2,M2,Mb,reduceIte])))))
 all_goals exact aF)
theorem Q7y {cs:List Value} {i:Ins} (hs:X2 w σ) (hg:Glb σ) (hc:Qk σ i cs) (h: ∀w' σ',Stp w σ w' σ'→K (.bool (decide (H3 i=0))) w'):Q1 P F.bi [.agg cs.toArray] w K:=Q2s (by
 obtain ⟨rfl,h1,h2,h3⟩:=hc
 have hc:Qk σ i [S i.op,I i.n,S i.s]:=⟨rfl,h1,h2,h3⟩
 unfold Sb
 (repeat' (first | (with_reducible intro _) | (with_reducible refine U6 ?_) | (simp only[↓M2,M2,Mb,reduceIte]) | (with_reducible first | refine ld aS aL aR ?_ | refine X7 aS aL aR ?_ | refine Y4 aS aL aR ?_ | refine Q8 aL ?_ | refine J4 aR ?_ | refine Z0 aS ?_ | refine N1 aS aL ?_ | refine U5 aS aR ?_ | refine Y9 aS aR aR (Rep.one (by assumption)) ?_ | refine U7 aS aR aR aR ?_ | refine Q6H au au au ?_ | (refine Z8 (fun hh=>?_) (fun hh=>?_)<;>(try simp only[hh,Bool.not_true,Bool.not_false,↓M2,M2,Mb,reduceIte])) | (refine Q7 (fun hh=>?_) (fun hh=>?_)<;>(try simp only[hh,Bool.not_true,Bool.not_false,↓M2,M2,Mb,reduceIte])))))
 all_goals exact aF)
def I2 (m:Hm.Met):Bool:=D1 m.name&&m.params.all right&&(decide (m.result=[])||right m.result)&&
 if m.abs then decide (m.locals=0)&&decide (m.code=[])&&decide (m.catches=[])
 else decide (m.code≠[])&&decide ((m.params.length:Int)<m.locals)&&m.code.all (fun i=>decide (H3 i=0))&&m.catches.all (G4 m.code.length)
theorem Q9N {cs:List Value} {m:Hm.Met} (hs:X2 w σ) (hg:Glb σ) (hm:E5 σ m cs) (h: ∀w' σ',Stp w σ w' σ'→K (.bool (I2 m)) w'):Q1 P F.ba [.agg cs.toArray] w K:=Q3p (by
 obtain ⟨pv,cv,hv,rfl,g1,g2,g3,g4,g5,g6⟩:=hm
 unfold Gf
 unfold I2 at h
 have e1:decide ((0:Int)<m.code.length)=decide (m.code≠[]):=by cases m.code<;>simp
 have e2:decide ((m.code.length:Int)=0)=decide (m.code=[]):=by cases m.code<;>simp;omega
 have e3:decide ((m.catches.length:Int)=0)=decide (m.catches=[]):=by cases m.catches<;>simp;omega
 have hA: ∀{w1:World} {σ1:Q5} {K:Value→World→Prop},X2 w1 σ1→Sl 1 U9 σ1 pv m.params→(∀w' σ',Stp w1 σ1 w' σ'→K (.bool (m.params.all right)) w')→Q1 P F.aa [pv, .func (.func F.a0) #[] #[]] w1 K:=
  fun hs hv h=>Fh right hs hv (fun σ1 x w1 K _ _ hs hl hK=>Z6 (Ze x (Nat.le_trans hl (by decide)) hK)) (L1 hs h)
 have hB: ∀{w1:World} {σ1:Q5} {K:Value→World→Prop},X2 w1 σ1→Glb σ1→Sl 3 Qk σ1 cv m.code→(∀w' σ',Stp w1 σ1 w' σ'→K (.bool (m.code.all fun i=>decide (H3 i=0))) w')→Q1 P F.aq [cv, .func (.func F.bi) #[] #[]] w1 K:=
  fun hs hg hv h=>Q1H (fun i=>decide (H3 i=0)) hs hv (fun σ1 x cs w1 K le _ hs hr hl hK=>Z6 (Q7y hs (hg.lift ⟨le⟩) hr fun w' σ' hk=>hK w' hk.bel)) (L1 hs h)
 have hC: ∀{w1:World} {σ1:Q5} {K:Value→World→Prop} {q:Addr},X2 w1 σ1→Sl 4 Ui σ1 hv m.catches→Z4 σ1 q [I m.code.length]→(∀w' σ',Stp w1 σ1 w' σ'→K (.bool (m.catches.all (G4 m.code.length))) w')→Q1 P F.ar [hv, .func (.func F.bh) #[] #[.pointer (some q)]] w1 K:=
  fun hs hv hq h=>Q1F (G4 m.code.length) hs hv (fun σ1 x cs w1 K le _ hs hr hl hK=>Z6 (Q88 hs hr (hq.le le) fun w' σ' hk=>hK w' hk.bel)) (L1 hs h)
 refine Z0 hs fun a w1 σ1 hk1 ha1=>?_
 (repeat' (first | (with_reducible intro _) | (with_reducible refine U6 ?_) | (simp only[↓M2,M2,Mb,reduceIte]) | (with_reducible first | refine ld aS aL aR ?_ | refine X7 aS aL aR ?_ | refine Y4 aS aL aR ?_ | refine Q8 aL ?_ | refine J4 aR ?_ | refine Z0 aS ?_ | refine N1 aS aL ?_ | refine U5 aS aR ?_ | refine Y9 aS aR aR (Rep.one (by assumption)) ?_ | refine U7 aS aR aR aR ?_ | refine Q60 au (L1 aS ?_) | refine Ze _ au (L1 aS ?_) | refine hA au au ?_ | refine hB au au au ?_ | refine hC au au au ?_ | (refine Z8 (fun hh=>?_) (fun hh=>?_)<;>(try simp only[hh,Bool.not_true,Bool.not_false,↓M2,M2,Mb,reduceIte])) | (refine Q7 (fun hh=>?_) (fun hh=>?_)<;>(try simp only[hh,Bool.not_true,Bool.not_false,↓M2,M2,Mb,reduceIte])))))
 all_goals (simp only[←e1,←e2,←e3] at h;clear e1 e2 e3;exact aF))
theorem Q8F {cs:List Value} {m:Hm.Met} (d:X2 w σ) (a:Glb σ) (b:E5 σ m cs) (h: ∀w' c,Stp w σ w' c→K (.bool (I2 m)) w'):Z3 P (.func (.func F.ba) #[] #[]) [.agg cs.toArray] w K:=Z6 (Q9N d a b h)
def Ep (f:Fld):Bool:=D1 f.name&&right f.kind
def Ng (c:Cla):Bool:=(c.name::c.super::c.like).all M6&& !((c.super::c.like).any fun y=>decide (c.name=y))&&C1 id [] c.like&&
 !(c.iface&&(!c.abs|| !decide (c.super=J9)|| !decide (c.fields=[])||c.methods.any (fun m=> !m.abs)))&&
 !((c.abs&&c.fin)||(c.methods.any (·.abs)&& !c.abs))&&C1 Fld.name [] c.fields&&C1 Hm.Met.name [] c.methods&&c.fields.all Ep&&c.methods.all I2
def D6 (c:Cla):Int:=if Zl c then 51 else if Ng c then 0 else 50
theorem Q9G {cs:List Value} {f:Fld} (hs:X2 w σ) (hf:R3 σ f cs) (h: ∀w' σ',Stp w σ w' σ'→K (.bool (Ep f)) w'):Q1 P F.bx [.agg cs.toArray] w K:=Q2D (by
 obtain ⟨rfl,h1,h2⟩:=hf
 unfold Cu
 unfold Ep at h
 (repeat' (first | (with_reducible intro _) | (with_reducible refine U6 ?_) | (simp only[↓M2,M2,Mb,reduceIte]) | (with_reducible first | refine ld aS aL aR ?_ | refine X7 aS aL aR ?_ | refine Y4 aS aL aR ?_ | refine Q8 aL ?_ | refine J4 aR ?_ | refine Z0 aS ?_ | refine N1 aS aL ?_ | refine U5 aS aR ?_ | refine Y9 aS aR aR (Rep.one (by assumption)) ?_ | refine U7 aS aR aR aR ?_ | refine Q60 au (L1 aS ?_) | refine Ze _ au (L1 aS ?_) | (refine Z8 (fun hh=>?_) (fun hh=>?_)<;>(try simp only[hh,Bool.not_true,Bool.not_false,↓M2,M2,Mb,reduceIte])) | (refine Q7 (fun hh=>?_) (fun hh=>?_)<;>(try simp only[hh,Bool.not_true,Bool.not_false,↓M2,M2,Mb,reduceIte])))))
 all_goals exact aF)
set_option maxHeartbeats 1600000 in
theorem X1w {cs:List Value} {c:Cla} (hs:X2 w σ) (hg:Glb σ) (hc:V0 σ c cs) (hl:c.like.length≤1000000) (h: ∀w' σ',Stp w σ w' σ'→K (.bool (Ng c)) w'):Q1 P F.cy [.agg cs.toArray] w K:=Q4x (by
 obtain ⟨lv,fv,mv,rfl,g1,g2,g3,g4,g5⟩:=hc
 unfold Pw
 unfold Ng at h
 refine Z0 hs fun a w1 σ1 hk1 ha1=>?_
 rw[fa]
 refine ld hk1.sat ha1 rfl ?_
 rw[fa]
 refine ld hk1.sat ha1 rfl ?_
 refine Yu (R:=U9) (sz:=1) (xs:=[c.name,c.super]) hk1 [_,_] rfl rfl (by simp;exact ⟨rfl,rfl⟩) rfl ⟨⟨rfl,g4⟩,⟨rfl,g5⟩,trivial⟩ fun v w2 hk2 hacc _=>?_
 rw[fa]
 refine ld hk2.sat ha1 rfl ?_
 refine Vw (hk1.trans hk2) hacc (g1.up hk1) rfl (by simp;omega) (by simp;omega) fun v' w3 hn3 hS3 hacc3 _=>?_
 obtain ⟨σ3,hS3,hv3,le3,_⟩:=hacc3.keep hS3
 have hv3:Sl 1 U9 σ3 v' (c.name::c.super::c.like):=hv3
 have ha3:=ha1.le le3
 have le13:SLe σ σ3:=⟨hS3.le⟩
 have g1:=g1.lift le13
 have g2:=g2.lift le13
 have g3:=g3.lift le13
 have hg:=hg.lift le13
 refine U2 hS3.sat ?_
 refine E7 (fun v _=>Sl 1 U9 σ3 v (c.super::c.like)) (fun _ _ _ h _=>h) (fun w hb=>?_) ?_
 ·refine Dq hv3 (some (I 1)) none 1 (c.like.length+2) (.inr rfl) (.inl ⟨rfl,by simp⟩) (by omega) (by simp) fun v' hv'=>⟨Below.refl _ _,?_⟩
  simpa using hv'
 refine X4 (.pointer (some (a.add 0))) (fun w hb=>by rw[fa];exact X6 rfl) ?_
 refine X4 (S c.name) (fun t w hb e=>by rw[e];exact ld hb.sat ha3 rfl (X6 rfl)) ?_
 rintro t16 t17 t18 w4 hb4 f16 rfl rfl
 have hS4:=hS3.trans hb4.stp
 clear hb4 hk1 hk2 hn3
 have hs4:=hS4.sat
 refine Q1B hs4 f16 ?_
 have hA: ∀{w1:World} {σ1:Q5} {K:Value→World→Prop},X2 w1 σ1→Sl 7 E5 σ1 mv c.methods→(∀w' σ',Stp w1 σ1 w' σ'→K (.bool (c.methods.any (·.abs))) w')→Q1 P F.a [mv, .func (.func F.cl) #[] #[]] w1 K:=
  fun hs hv h=>B4 (·.abs) hs hv (fun x cs w1 K _ hs hr hl hK=>Z6 (Q3c (by
   obtain ⟨pv,cv,hv,rfl,_⟩:=hr
   unfold Cv
   refine Z0 hs fun a w1 σ1 hk1 ha1=>?_
   (repeat' (first | (with_reducible intro _) | (with_reducible refine U6 ?_) | (simp only[↓M2,M2,Mb,reduceIte]) | (with_reducible first | refine ld aS aL aR ?_ | refine X7 aS aL aR ?_ | refine Y4 aS aL aR ?_ | refine Q8 aL ?_ | refine J4 aR ?_ | refine Z0 aS ?_ | refine N1 aS aL ?_ | refine U5 aS aR ?_ | refine Y9 aS aR aR (Rep.one (by assumption)) ?_ | refine U7 aS aR aR aR ?_ | (refine Z8 (fun hh=>?_) (fun hh=>?_)<;>(try simp only[hh,Bool.not_true,Bool.not_false,↓M2,M2,Mb,reduceIte])) | (refine Q7 (fun hh=>?_) (fun hh=>?_)<;>(try simp only[hh,Bool.not_true,Bool.not_false,↓M2,M2,Mb,reduceIte])))))
   exact hK _ hk1.bel))) (L1 hs h)
 have hB: ∀{w1:World} {σ1:Q5} {K:Value→World→Prop},X2 w1 σ1→Sl 7 E5 σ1 mv c.methods→(∀w' σ',Stp w1 σ1 w' σ'→K (.bool (c.methods.any fun m=> !m.abs)) w')→Q1 P F.a [mv, .func (.func F.cm) #[] #[]] w1 K:=
  fun hs hv h=>B4 (fun m=> !m.abs) hs hv (fun x cs w1 K _ hs hr hl hK=>Z6 (Q2V (by
   obtain ⟨pv,cv,hv,rfl,_⟩:=hr
   unfold Cn
   refine Z0 hs fun a w1 σ1 hk1 ha1=>?_
   (repeat' (first | (with_reducible intro _) | (with_reducible refine U6 ?_) | (simp only[↓M2,M2,Mb,reduceIte]) | (with_reducible first | refine ld aS aL aR ?_ | refine X7 aS aL aR ?_ | refine Y4 aS aL aR ?_ | refine Q8 aL ?_ | refine J4 aR ?_ | refine Z0 aS ?_ | refine N1 aS aL ?_ | refine U5 aS aR ?_ | refine Y9 aS aR aR (Rep.one (by assumption)) ?_ | refine U7 aS aR aR aR ?_ | (refine Z8 (fun hh=>?_) (fun hh=>?_)<;>(try simp only[hh,Bool.not_true,Bool.not_false,↓M2,M2,Mb,reduceIte])) | (refine Q7 (fun hh=>?_) (fun hh=>?_)<;>(try simp only[hh,Bool.not_true,Bool.not_false,↓M2,M2,Mb,reduceIte])))))
   exact hK _ hk1.bel))) (L1 hs h)
 have hC: ∀{w1:World} {σ1:Q5} {K:Value→World→Prop},X2 w1 σ1→Sl 1 U9 σ1 v' (c.name::c.super::c.like)→(∀w' σ',Stp w1 σ1 w' σ'→K (.bool ((c.name::c.super::c.like).all M6)) w')→Q1 P F.aa [v', .func (.func F.ai) #[] #[]] w1 K:=
  fun hs hv h=>Fh M6 hs hv (fun σ1 x w1 K _ _ hs hl hK=>Z6 (Hz x (Nat.le_trans hl (by decide)) hK)) (L1 hs h)
 have hD: ∀{w1:World} {σ1:Q5} {K:Value→World→Prop},X2 w1 σ1→Sl 1 U9 σ1 lv c.like→(∀w' σ',Stp w1 σ1 w' σ'→K (.bool (C1 id [] c.like)) w')→Q1 P F.aR [lv, .func (.func F.cn) #[] #[]] w1 K:=
  fun hs hv h=>Q4E id hs hv (fun σ1 x w1 K _ hs hl hK=>Z6 (Q39 (hK _ (Below.refl _ _)))) (L1 hs h)
 have hE: ∀{w1:World} {σ1:Q5} {K:Value→World→Prop},X2 w1 σ1→Sl 3 R3 σ1 fv c.fields→(∀w' σ',Stp w1 σ1 w' σ'→K (.bool (C1 Fld.name [] c.fields)) w')→Q1 P F.aB [fv, .func (.func F.co) #[] #[]] w1 K:=
  fun hs hv h=>Q2o Fld.name hs hv (fun σ1 x cs w1 K _ hs hr hl hK=>Z6 (Q3i (by
   obtain ⟨rfl,_⟩:=hr
   unfold Cx
   refine Z0 hs fun a w1 σ1 hk1 ha1=>?_
   (repeat' (first | (with_reducible intro _) | (with_reducible refine U6 ?_) | (simp only[↓M2,M2,Mb,reduceIte]) | (with_reducible first | refine ld aS aL aR ?_ | refine X7 aS aL aR ?_ | refine Y4 aS aL aR ?_ | refine Q8 aL ?_ | refine J4 aR ?_ | refine Z0 aS ?_ | refine N1 aS aL ?_ | refine U5 aS aR ?_ | refine Y9 aS aR aR (Rep.one (by assumption)) ?_ | refine U7 aS aR aR aR ?_ | (refine Z8 (fun hh=>?_) (fun hh=>?_)<;>(try simp only[hh,Bool.not_true,Bool.not_false,↓M2,M2,Mb,reduceIte])) | (refine Q7 (fun hh=>?_) (fun hh=>?_)<;>(try simp only[hh,Bool.not_true,Bool.not_false,↓M2,M2,Mb,reduceIte])))))
   exact hK _ hk1.bel))) (L1 hs h)
 have hF: ∀{w1:World} {σ1:Q5} {K:Value→World→Prop},X2 w1 σ1→Sl 7 E5 σ1 mv c.methods→(∀w' σ',Stp w1 σ1 w' σ'→K (.bool (C1 Hm.Met.name [] c.methods)) w')→Q1 P F.an [mv, .func (.func F.cp) #[] #[]] w1 K:=
  fun hs hv h=>Q1D Hm.Met.name hs hv (fun σ1 x cs w1 K _ hs hr hl hK=>Z6 (Q3f (by
   obtain ⟨pv,cv,hv,rfl,_⟩:=hr
   unfold Cw
   refine Z0 hs fun a w1 σ1 hk1 ha1=>?_
   (repeat' (first | (with_reducible intro _) | (with_reducible refine U6 ?_) | (simp only[↓M2,M2,Mb,reduceIte]) | (with_reducible first | refine ld aS aL aR ?_ | refine X7 aS aL aR ?_ | refine Y4 aS aL aR ?_ | refine Q8 aL ?_ | refine J4 aR ?_ | refine Z0 aS ?_ | refine N1 aS aL ?_ | refine U5 aS aR ?_ | refine Y9 aS aR aR (Rep.one (by assumption)) ?_ | refine U7 aS aR aR aR ?_ | (refine Z8 (fun hh=>?_) (fun hh=>?_)<;>(try simp only[hh,Bool.not_true,Bool.not_false,↓M2,M2,Mb,reduceIte])) | (refine Q7 (fun hh=>?_) (fun hh=>?_)<;>(try simp only[hh,Bool.not_true,Bool.not_false,↓M2,M2,Mb,reduceIte])))))
   exact hK _ hk1.bel))) (L1 hs h)
 have hG: ∀{w1:World} {σ1:Q5} {K:Value→World→Prop},X2 w1 σ1→Sl 3 R3 σ1 fv c.fields→(∀w' σ',Stp w1 σ1 w' σ'→K (.bool (c.fields.all Ep)) w')→Q1 P F.ao [fv, .func (.func F.bx) #[] #[]] w1 K:=
  fun hs hv h=>Q1N Ep hs hv (fun σ1 x cs w1 K _ _ hs hr hl hK=>Z6 (Q9G hs hr fun w' σ' hk=>hK w' hk.bel)) (L1 hs h)
 have hH: ∀{w1:World} {σ1:Q5} {K:Value→World→Prop},X2 w1 σ1→Glb σ1→Sl 7 E5 σ1 mv c.methods→(∀w' σ',Stp w1 σ1 w' σ'→K (.bool (c.methods.all I2)) w')→Q1 P F.al [mv, .func (.func F.ba) #[] #[]] w1 K:=
  fun hs hg hv h=>Q0F I2 hs hv (fun σ1 x cs w1 K le _ hs hr hl hK=>Q8F hs (hg.lift ⟨le⟩) hr fun w' σ' hk=>hK w' hk.bel) (L1 hs h)
 have e1:decide ((0:Int)<c.fields.length)= !decide (c.fields=[]):=by cases c.fields<;>simp
 have e2:decide (c.super=[79,98,106,101,99,116])=decide (c.super=J9):=rfl
 (repeat' (first | (with_reducible intro _) | (with_reducible refine U6 ?_) | (simp only[↓M2,M2,Mb,reduceIte]) | (with_reducible first | refine ld aS aL aR ?_ | refine X7 aS aL aR ?_ | refine Y4 aS aL aR ?_ | refine Q8 aL ?_ | refine J4 aR ?_ | refine Z0 aS ?_ | refine N1 aS aL ?_ | refine U5 aS aR ?_ | refine Y9 aS aR aR (Rep.one (by assumption)) ?_ | refine U7 aS aR aR aR ?_ | refine hA au au ?_ | refine hB au au ?_ | refine hC au au ?_ | refine hD au au ?_ | refine hE au au ?_ | refine hF au au ?_ | refine hG au au ?_ | refine hH au au au ?_ | (refine Z8 (fun hh=>?_) (fun hh=>?_)<;>(try simp only[hh,Bool.not_true,Bool.not_false,↓M2,M2,Mb,reduceIte])) | (refine Q7 (fun hh=>?_) (fun hh=>?_)<;>(try simp only[hh,Bool.not_true,Bool.not_false,↓M2,M2,Mb,reduceIte])))))
 all_goals (simp only[←e1,←e2] at h;clear hA hB hC hD hE hF hG hH e1 e2;exact aF))
theorem X1f {cs:List Value} {c:Cla} (hs:X2 w σ) (hg:Glb σ) (hc:V0 σ c cs) (hl:c.like.length≤1000000) (h: ∀w' σ',Stp w σ w' σ'→K (I (D6 c)) w'):Q1 P F.cw [.agg cs.toArray] w K:=Q4u (by
 have hc0:=hc
 obtain ⟨lv,fv,mv,rfl,g1,g2,g3,g4,g5⟩:=hc
 unfold Tb
 unfold D6 at h
 (repeat' (first | (with_reducible intro _) | (with_reducible refine U6 ?_) | (simp only[↓M2,M2,Mb,reduceIte]) | (with_reducible first | refine ld aS aL aR ?_ | refine X7 aS aL aR ?_ | refine Y4 aS aL aR ?_ | refine Q8 aL ?_ | refine J4 aR ?_ | refine Z0 aS ?_ | refine N1 aS aL ?_ | refine U5 aS aR ?_ | refine Y9 aS aR aR (Rep.one (by assumption)) ?_ | refine U7 aS aR aR aR ?_ | refine X2k au au (L1 aS ?_) | refine X1w au au au au ?_ | (refine Z8 (fun hh=>?_) (fun hh=>?_)<;>(try simp only[hh,Bool.not_true,Bool.not_false,↓M2,M2,Mb,reduceIte])) | (refine Q7 (fun hh=>?_) (fun hh=>?_)<;>(try simp only[hh,Bool.not_true,Bool.not_false,↓M2,M2,Mb,reduceIte])))))
 all_goals exact aF)
end Go.Proofs.YtjdiakhipmggjaaGreatDoor

namespace Go.Emb
open Go.RowKit Go.Hm
structure Tab (σ : Q5) (v : Value) (l : List Cla) : Prop where
  ex : ∃ a lv r m, v = .pointer (some a) ∧ Z4 σ a [lv, .map (some r)] ∧ Sl 8 V0 σ lv l ∧ Xd σ r m ∧ ∀ n, S8 m n = (Z1 l n).map (fun i : Nat => I (i : Int))
theorem Tab.lift {σ0 σ:Q5} {v:Value} {l:List Cla} (h:Tab σ0 v l) (k:SLe σ0 σ):Tab σ v l:=by
 obtain ⟨a,d,r,m,g,b,e,f,c⟩:=h.ex
 exact ⟨a,d,r,m,g,b.lift k,e.lift k,f.lift k,c⟩
end Go.Emb
namespace Go.Proofs.YtjdiakhipmggjaaGreatDoor
open Go.Emb Go.RowKit Go.Kd Go.Hm
variable {w : World} {K : Value → World → Prop} {σ : Q5} {v : Value} {l : List Cla}
theorem Q7U {n:X0} (b:X2 w σ) (d:Tab σ v l) (h:K (.bool (Q0Q l n)) w):Q1 P F.j [v,S n] w K:=Du (by
 obtain ⟨a,i,r,m,rfl,g,j,e,f⟩:=d.ex
 unfold Jg
 rw[M3,fa]
 refine ld b g rfl ?_
 rw[Q2x X8 (e.is b) n,f n]
 unfold Q0Q at h
 cases c:Z1 l n<;>rw[c] at h<;>((try simp only[Option.map_some,Option.map_none]);(try simp only[↓M1,M1,Mb,reduceIte]);exact h))
theorem Zb {n:X0} {c:Cla} (R:X2 w σ) (ht:Tab σ v l) (hc:lk l n=some c)
 (h: ∀o s mv w' q,Stp w σ w' q→Sl 1 U9 q o c.like→Sl 3 R3 q s c.fields→Sl 7 E5 q mv c.methods→c.name.length≤U0→c.super.length≤U0→V0 q c [S c.name,S c.super,o, .bool c.iface, .bool c.abs, .bool c.fin,s,mv]→
  K (.agg [S c.name,S c.super,o, .bool c.iface, .bool c.abs, .bool c.fin,s,mv].toArray) w'):Q1 P F.h [v,S n] w K:=Gp (by
 obtain ⟨a,o,r,m,rfl,D,Z,t3,Y⟩:=ht.ex
 obtain ⟨_,_,i,J,A⟩:=V3 hc
 obtain ⟨u,rfl⟩:=List.getElem?_eq_some_iff.1 A
 unfold Nt
 refine M8 R fun b w1 σ1 f d z=>?_
 refine U2 d.sat ?_
 refine X4 (.pointer (some a)) (fun w f=>by rw[M3];exact X6 rfl) ?_
 refine X4 (.pointer (some (a.add 0))) (fun t w f e=>by rw[e,fa];exact X6 rfl) ?_
 refine X4 (.pointer (some a)) (fun w f=>by rw[M3];exact X6 rfl) ?_
 refine X4 (.pointer (some (a.add 1))) (fun t w f e=>by rw[e,fa];exact X6 rfl) ?_
 refine X4 o (fun t w f e=>by rw[e];exact ld f.sat (D.up d) rfl (X6 rfl)) ?_
 refine X4 (.map (some r)) (fun t w f e=>by rw[e];exact ld f.sat (D.up d) rfl (X6 rfl)) ?_
 refine X4 (I i) (fun t w f e=>by rw[e,Q4q X8 ((t3.up d).is f.sat) n,Y n,J];exact X6 rfl) ?_
 rintro t6 t7 ad M t8 H Q w2 g rfl rfl rfl rfl W rfl rfl
 subst W
 have C:=z.step g.stp
 refine M9 (Z.up d) u fun p cs hl k E=>?_
 refine Y4 g.sat hl k ?_
 have j:=E
 obtain ⟨X,s,mv,rfl,L,N,U,O,g5⟩:=E
 refine F8 C (d.trans g.stp) f rfl rfl (Rep.one j) fun V y B=>?_
 refine V1 B rfl ?_
 exact h _ _ _ V σ1 y.stp L N U O g5 j)
theorem Q00 {n:X0} (c:X2 w σ) (a:Tab σ v l) (b:lk l n=none) (h:K (.bool false) w):Q1 P F.j [v,S n] w K:=Q7U c a (by rw[Q1s,b];exact h)
theorem Ca {n:X0} {d:Cla} (c:X2 w σ) (a:Tab σ v l) (b:lk l n=some d) (h:K (.bool true) w):Q1 P F.j [v,S n] w K:=Q7U c a (by rw[Q1s,b];exact h)
theorem X01 {c:Cla} {cs:List Value} (hs:X2 w σ) (ht:Tab σ v l) (hc:V0 σ c cs) (h: ∀w' σ',Stp w σ w' σ'→K (I (O9 l c)) w'):Q1 P F.bb [v, .agg cs.toArray] w K:=Fr (by
 obtain ⟨lv,fv,mv,rfl,g1,g2,g3,g4,g5⟩:=hc
 unfold Lj
 unfold O9 at h
 cases hd:lk l c.super with
 | none=>
  simp only[Qr,hd,if_true] at h
  (repeat' (first | (with_reducible intro _) | (with_reducible refine U6 ?_) | (simp only[↓M2,M2,Mb,reduceIte]) | (with_reducible first | refine ld aS aL aR ?_ | refine X7 aS aL aR ?_ | refine Y4 aS aL aR ?_ | refine Q8 aL ?_ | refine J4 aR ?_ | refine Z0 aS ?_ | refine N1 aS aL ?_ | refine U5 aS aR ?_ | refine Y9 aS aR aR (Rep.one (by assumption)) ?_ | refine U7 aS aR aR aR ?_ | refine Q00 au au au ?_ | (refine Z8 (fun hh=>?_) (fun hh=>?_)<;>(try simp only[hh,Bool.not_true,Bool.not_false,↓M2,M2,Mb,reduceIte])) | (refine Q7 (fun hh=>?_) (fun hh=>?_)<;>(try simp only[hh,Bool.not_true,Bool.not_false,↓M2,M2,Mb,reduceIte])))))
  all_goals exact aF
 | some d=>
  simp only[Qr,hd] at h
  obtain ⟨dn,ds,dl,di,da,df,dfs,dms⟩:=d
  cases di<;>cases df
  ·simp only[Bool.or_self,Bool.false_eq_true,if_false] at h
   (repeat' (first | (with_reducible intro _) | (with_reducible refine U6 ?_) | (simp only[↓M2,M2,Mb,reduceIte]) | (with_reducible first | refine ld aS aL aR ?_ | refine X7 aS aL aR ?_ | refine Y4 aS aL aR ?_ | refine Q8 aL ?_ | refine J4 aR ?_ | refine Z0 aS ?_ | refine N1 aS aL ?_ | refine U5 aS aR ?_ | refine Y9 aS aR aR (Rep.one (by assumption)) ?_ | refine U7 aS aR aR aR ?_ | refine Ca au au au ?_ | refine Zb au au au ?_ | (refine Z8 (fun hh=>?_) (fun hh=>?_)<;>(try simp only[hh,Bool.not_true,Bool.not_false,↓M2,M2,Mb,reduceIte])) | (refine Q7 (fun hh=>?_) (fun hh=>?_)<;>(try simp only[hh,Bool.not_true,Bool.not_false,↓M2,M2,Mb,reduceIte])))))
   rename_i w3 σ3 hk3 _ _ _ _ _ _
   have hS:Stp w σ w3 σ3:=by (repeat (first | exact Stp.refl (by (first | assumption | exact Stp.sat (by assumption) | exact Hst.sat (by assumption))) | assumption | refine Stp.trans ?_ (by first | assumption | exact Hst.stp (by assumption))))
   refine U1 c.like.length (fun n w'=> ∃σ',Stp w σ w' σ'∧SLe σ3 σ'∧((c.like.take n).any (R0 l))=false) ⟨σ3,hS,SLe.refl _,by simp⟩ fun n w4 d hn hi=>?_
   obtain ⟨σ4,hS4,le4,hq⟩:=hi
   clear hk3
   refine Z2 ?_
   refine Q7 (fun hh=>?_) (fun hh=>?_)
   ·have hn':n<c.like.length:=by simpa using hh
    have hmax:c.like.length≤9223372036854775807:=g1.max
    refine Q5a (by (first | assumption | exact Sl.lift (by assumption) (by (repeat (first | exact SLe.refl _ | refine SLe.more ?_ (by assumption) | refine SLe.more ?_ (Nxt.le (by assumption)) | refine SLe.step ?_ (by assumption)))) | exact Z4.lift (by assumption) (by (repeat (first | exact SLe.refl _ | refine SLe.more ?_ (by assumption) | refine SLe.more ?_ (Nxt.le (by assumption)) | refine SLe.step ?_ (by assumption)))) | exact Xd.lift (by assumption) (by (repeat (first | exact SLe.refl _ | refine SLe.more ?_ (by assumption) | refine SLe.more ?_ (Nxt.le (by assumption)) | refine SLe.step ?_ (by assumption)))) | exact RCl_lift (by assumption) (by (repeat (first | exact SLe.refl _ | refine SLe.more ?_ (by assumption) | refine SLe.more ?_ (Nxt.le (by assumption)) | refine SLe.step ?_ (by assumption)))) | exact RMe_lift (by assumption) (by (repeat (first | exact SLe.refl _ | refine SLe.more ?_ (by assumption) | refine SLe.more ?_ (Nxt.le (by assumption)) | refine SLe.step ?_ (by assumption)))) | exact Glb.lift (by assumption) (by (repeat (first | exact SLe.refl _ | refine SLe.more ?_ (by assumption) | refine SLe.more ?_ (Nxt.le (by assumption)) | refine SLe.step ?_ (by assumption)))) | exact Tab.lift (by assumption) (by (repeat (first | exact SLe.refl _ | refine SLe.more ?_ (by assumption) | refine SLe.more ?_ (Nxt.le (by assumption)) | refine SLe.step ?_ (by assumption)))) | exact RIn_any (by assumption) | exact RFd_any (by assumption) | exact RCa_any (by assumption))) hn' fun p hl hbig=>?_
    have hq':=L4 (p:=R0 l) hn'
    rw[hq] at hq'
    cases hx:lk l c.like[n] with
    | none=>
     simp only[S1 (p:=R0 l) hn' (by simp only[R0,hx]),if_true] at h
     (repeat' (first | (with_reducible intro _) | (with_reducible refine U6 ?_) | (simp only[↓M2,M2,Mb,reduceIte]) | (with_reducible first | refine ld aS aL aR ?_ | refine X7 aS aL aR ?_ | refine Y4 aS aL aR ?_ | refine Q8 aL ?_ | refine J4 aR ?_ | refine Z0 aS ?_ | refine N1 aS aL ?_ | refine U5 aS aR ?_ | refine Y9 aS aR aR (Rep.one (by assumption)) ?_ | refine U7 aS aR aR aR ?_ | refine Q00 au au au ?_ | (refine Z8 (fun hh=>?_) (fun hh=>?_)<;>(try simp only[hh,Bool.not_true,Bool.not_false,↓M2,M2,Mb,reduceIte])) | (refine Q7 (fun hh=>?_) (fun hh=>?_)<;>(try simp only[hh,Bool.not_true,Bool.not_false,↓M2,M2,Mb,reduceIte])))))
     all_goals exact aF
    | some x=>
     obtain ⟨xn,xs,xl,xi,xa,xf,xfs,xms⟩:=x
     cases xi
     ·simp only[S1 (p:=R0 l) hn' (by simp only[R0,hx];rfl),if_true] at h
      (repeat' (first | (with_reducible intro _) | (with_reducible refine U6 ?_) | (simp only[↓M2,M2,Mb,reduceIte]) | (with_reducible first | refine ld aS aL aR ?_ | refine X7 aS aL aR ?_ | refine Y4 aS aL aR ?_ | refine Q8 aL ?_ | refine J4 aR ?_ | refine Z0 aS ?_ | refine N1 aS aL ?_ | refine U5 aS aR ?_ | refine Y9 aS aR aR (Rep.one (by assumption)) ?_ | refine U7 aS aR aR aR ?_ | refine Ca au au au ?_ | refine Zb au au au ?_ | (refine Z8 (fun hh=>?_) (fun hh=>?_)<;>(try simp only[hh,Bool.not_true,Bool.not_false,↓M2,M2,Mb,reduceIte])) | (refine Q7 (fun hh=>?_) (fun hh=>?_)<;>(try simp only[hh,Bool.not_true,Bool.not_false,↓M2,M2,Mb,reduceIte])))))
      all_goals exact aF
     ·(repeat' (first | (with_reducible intro _) | (with_reducible refine U6 ?_) | (simp only[↓M2,M2,Mb,reduceIte]) | (with_reducible first | refine ld aS aL aR ?_ | refine X7 aS aL aR ?_ | refine Y4 aS aL aR ?_ | refine Q8 aL ?_ | refine J4 aR ?_ | refine Z0 aS ?_ | refine N1 aS aL ?_ | refine U5 aS aR ?_ | refine Y9 aS aR aR (Rep.one (by assumption)) ?_ | refine U7 aS aR aR aR ?_ | refine Ca au au au ?_ | refine Zb au au au ?_ | (refine Z8 (fun hh=>?_) (fun hh=>?_)<;>(try simp only[hh,Bool.not_true,Bool.not_false,↓M2,M2,Mb,reduceIte])) | (refine Q7 (fun hh=>?_) (fun hh=>?_)<;>(try simp only[hh,Bool.not_true,Bool.not_false,↓M2,M2,Mb,reduceIte])))))
      refine Y6 hmax hn' ⟨_,by (repeat (first | exact Stp.refl (by (first | assumption | exact Stp.sat (by assumption) | exact Hst.sat (by assumption))) | assumption | refine Stp.trans ?_ (by first | assumption | exact Hst.stp (by assumption)))),by (repeat (first | exact SLe.refl _ | refine SLe.more ?_ (by assumption) | refine SLe.more ?_ (Nxt.le (by assumption)) | refine SLe.step ?_ (by assumption))),by rw[hq'];simp only[R0,hx];rfl⟩
   ·have hn': ¬n<c.like.length:=by simpa using hh
    rw[D9 hn'] at hq
    simp only[hq,Bool.false_eq_true,if_false] at h
    exact h _ _ hS4
  all_goals
   simp only[Bool.or_self,Bool.or_true,Bool.true_or,if_true] at h
   (repeat' (first | (with_reducible intro _) | (with_reducible refine U6 ?_) | (simp only[↓M2,M2,Mb,reduceIte]) | (with_reducible first | refine ld aS aL aR ?_ | refine X7 aS aL aR ?_ | refine Y4 aS aL aR ?_ | refine Q8 aL ?_ | refine J4 aR ?_ | refine Z0 aS ?_ | refine N1 aS aL ?_ | refine U5 aS aR ?_ | refine Y9 aS aR aR (Rep.one (by assumption)) ?_ | refine U7 aS aR aR aR ?_ | refine Ca au au au ?_ | refine Zb au au au ?_ | (refine Z8 (fun hh=>?_) (fun hh=>?_)<;>(try simp only[hh,Bool.not_true,Bool.not_false,↓M2,M2,Mb,reduceIte])) | (refine Q7 (fun hh=>?_) (fun hh=>?_)<;>(try simp only[hh,Bool.not_true,Bool.not_false,↓M2,M2,Mb,reduceIte])))))
   all_goals exact aF)
end Go.Proofs.YtjdiakhipmggjaaGreatDoor

namespace Go.Emb
open Go.RowKit Go.Hm
variable {P : Program} {w w0 w1 w' w'' : World} {K : Value → World → Prop} {σ σ0 σ1 σ' : Q5}
theorem Q7W {a:Addr} {v:Value} (h:w.cell? a=some v) (b:Below w.heap.size w w'):w'.cell? a=some v:=by
 rw[←h];exact World.cell?_of_block (b.block a.block (World.block_lt_of_cell? _ _ h))
def Ptr {α:Type} (sz:Nat) (R:Q5→α→List Value→Prop) (σ:Q5) (x:α) (p:Value) (w:World):Prop:=
 ∃a cs,p= .pointer (some a)∧(∀j u,cs[j]? =some u→w.cell? (a.add j)=some u)∧cs.length=sz∧R σ x cs
theorem Ptr.below {α:Type} {sz:Nat} {R:Q5→α→List Value→Prop} {x:α} {p:Value} (h:Ptr sz R σ x p w) (f:Below w.heap.size w w'):Ptr sz R σ x p w':=by
 obtain ⟨a,cs,c,d,e⟩:=h
 exact ⟨a,cs,c,fun j u b=>Q7W (d j u b) f,e⟩
end Go.Emb
namespace Go.Proofs.YtjdiakhipmggjaaGreatDoor
open Go.Emb Go.RowKit Go.Kd Go.Hm
variable {w : World} {K : Value → World → Prop} {σ : Q5} {v : Value} {l : List Cla}
theorem Q41 {w0:World} {σ0:Q5} {xs:List Cla} (hS:Stp w0 σ0 w σ) (z:J8 w0.heap.size T.b 8 V0 σ w v xs)
 (h: ∀w',Kpt (fun k=>v.ownBlock=some k) w w'→Stp w0 σ0 w' σ→J8 w0.heap.size T.b 8 V0 σ w' v xs.reverse→K (.tuple #[]) w'):Q1 P F.q [v] w K:=Zm (by
 unfold G5
 have R:xs.length≤9223372036854775807:=by
  obtain ⟨a,W,_,g,b,_⟩:=z
  simp only[maxLen] at b;omega
 refine Q1t z ?_
 refine Zg ⟨by omega,by omega⟩ ?_
 refine Vv (fun x w'=> ∃i:Nat,x=(I i,I ((xs.length:Int)-1-i))∧2*i≤xs.length∧Kpt (fun k=>v.ownBlock=some k) w w'∧Stp w0 σ0 w' σ∧J8 w0.heap.size T.b 8 V0 σ w' v (C0 i xs)) (fun x _=>match x.2 with | .int _ n=>(n+1).toNat | _=>0) ⟨0,by simp,by omega,Kpt.refl,hS,z⟩ ?_
 rintro _ d w1 ⟨i,rfl,N,Q,q,c⟩
 obtain ⟨M,O⟩:=Q0r xs i N
 refine Z2 ?_
 refine Q7 (fun hh=>?_) (fun hh=>?_)
 ·have ae:(i:Int)<(xs.length:Int)-1-i:=by simpa using hh
  have U:((xs.length:Int)-1-i)=((xs.length-1-i:Nat):Int):=by omega
  have j:i<(C0 i xs).length:=by omega
  have o:xs.length-1-i<(C0 i xs).length:=by omega
  refine U2 q.sat ?_
  refine E7 (Ptr 8 V0 σ (C0 i xs)[xs.length-1-i]) (fun _ _ _ h f=>h.below f) (fun w f=>?_) ?_
  ·simp only[U]
   exact Q51 (c.step f.stp) o fun a cs g b m=>⟨Below.refl _ _,a,cs,rfl,g,b,m⟩
  refine E7 (Ptr 8 V0 σ (C0 i xs)[i]) (fun _ _ _ h f=>h.below f) (fun w f=>?_) ?_
  ·exact Q51 (c.step f.stp) j fun a cs g b m=>⟨Below.refl _ _,a,cs,rfl,g,b,m⟩
  refine E7 (fun v _=> ∃cs:List Value,v= .agg cs.toArray∧cs.length=8∧V0 σ (C0 i xs)[xs.length-1-i] cs) (fun _ _ _ h _=>h) (fun t w f e=>?_) ?_
  ·obtain ⟨a,cs,rfl,g,b,m⟩:=e
   exact Ik b g ⟨Below.refl _ _,cs,rfl,b,m⟩
  refine E7 (fun v _=> ∃cs:List Value,v= .agg cs.toArray∧cs.length=8∧V0 σ (C0 i xs)[i] cs) (fun _ _ _ h _=>h) (fun t w f e=>?_) ?_
  ·obtain ⟨a,cs,rfl,g,b,m⟩:=e
   exact Ik b g ⟨Below.refl _ _,cs,rfl,b,m⟩
  rintro Z ab Y ad w2 r _ _ ⟨cs,rfl,H,s⟩ ⟨ds,rfl,E,y⟩
  refine Q2P (q.trans r.stp) (c.step r.stp) j H s (Rep.one s) fun p u w3 L C A=>?_
  simp only[U]
  refine Q2P C.stp A (by simpa using o) E y (Rep.one y) fun p u w4 J D B=>?_
  refine Xg ⟨by omega,by omega⟩ ?_
  refine Zg ⟨by omega,by omega⟩ ?_
  refine ⟨⟨i+1,by congr 1<;>congr 1<;>omega,by omega,?_,D.stp,?_⟩,?_⟩
  ·exact ((Q.trans (Kpt.of_below r.stp.bel)).trans L).trans J
  ·have V:(C0 i xs)[i]? =some (C0 i xs)[i]:=List.getElem?_eq_getElem j
   have X:(C0 i xs)[xs.length-1-i]? =some (C0 i xs)[xs.length-1-i]:=List.getElem?_eq_getElem o
   have:C0 (i+1) xs=((C0 i xs).set i (C0 i xs)[xs.length-1-i]).set (xs.length-1-i) (C0 i xs)[i]:=by
    simp only[C0,V,X]
   rw[this];exact B
  ·simp only;omega
 ·have aa: ¬(i:Int)<(xs.length:Int)-1-i:=by simpa using hh
  rw[Q95 xs i N (by omega)] at c
  exact h w1 Q q c)
def sOf:Value→X0 | .string b=>b.data.toList | _=>[]
theorem Q97 {n:X0} (J:X2 w σ) (B:Tab σ v l) (C:Zy l) (Z:l.length≤100000) (h: ∀y w' σ',Stp w σ w' σ'→J8 w.heap.size T.b 8 V0 σ' w' y (chain l n).reverse→K y w'):Q1 P F.aQ [v,S n] w K:=Ap (by
 unfold Nw
 refine Vv (fun x w'=> ∃(s:X0) (k:List Cla) (σ':Q5),x.2=S s∧chain l n=k++chain l s∧Stp w σ w' σ'∧V5 w.heap.size T.b 8 V0 σ' w' x.1 k) (fun x _=>(chain l (sOf x.2)).length)
  ⟨n,[],σ,rfl,rfl,Stp.refl J,V5.nil⟩ ?_
 rintro ⟨x1,_⟩ d w1 ⟨s,k,σ1,rfl,o,a,i⟩
 have e:=B.lift ⟨a.le⟩
 have z:=Cs l n
 have p:sOf (S s)=s:=by simp[sOf]
 simp only[p]
 cases j:lk l s with
 | none=>
  refine Q00 a.sat e j ?_
  refine Z7 ?_
  rw[Ys j,List.append_nil] at o
  rw[←o] at i
  refine Q41 a (J8.of_acc i) fun H f q t=>?_
  exact h _ _ _ q t
 | some c=>
  refine Ca a.sat e j ?_
  refine J3 ?_
  refine Zb a.sat e j fun V M mv H σ2 f U D E O N A=>?_
  have b:=T4 C s
  rw[j] at b
  simp only at b
  have R:k.length+1≤l.length+1:=by
   have:=congrArg List.length o
   rw[List.length_append,b,List.length_cons] at this;omega
  refine Jm (a.trans f) (i.up f) A rfl rfl rfl (by omega) (by omega) fun u y X W Q g r _=>?_
  refine Zb g.sat (B.lift ⟨g.le⟩) j fun V M mv Y L m U D E O N A=>?_
  refine J4 (v:=S c.super) rfl ?_
  refine ⟨⟨c.super,k++[c],L,rfl,?_,g.trans m,r.up m⟩,?_⟩
  ·rw[o,b];simp
  ·have:sOf (S c.super)=c.super:=by simp[sOf]
   simp only[this,b,List.length_cons];omega)
theorem Gt {n:X0} (Y:X2 w σ) (ht:Tab σ v l) (U:Zy l) (hl:l.length≤100000) (u: ∀c∈l,Qj c) (h: ∀E w' σ',Stp w σ w' σ'→Sl 3 R3 σ' E (Y5 l n)→K E w'):Q1 P F.a3 [v,S n] w K:=Gb (by
 unfold Wy
 refine Q97 Y ht U hl fun v1 w1 σ1 B H=>?_
 obtain ⟨R,y,r,ab,_⟩:=H.keep B
 generalize g:(chain l n).reverse=cs at*
 have N:cs.length≤l.length+1:=by rw[←g,List.length_reverse];exact Cs l n
 have m: ∀c∈cs,c.fields.length≤1000000:=fun c t=>(u c (Ct (by rw[←g] at t;simpa using t))).2.1
 refine Q8 r ?_
 refine E3 cs.length (fun i a w'=> ∃σ',Stp w σ w' σ'∧SLe R σ'∧V5 w.heap.size T.n 3 R3 σ' w' a ((cs.take i).flatMap (·.fields))) ⟨R,y,SLe.refl _,V5.nil⟩ fun i a w3 d hi s=>?_
 obtain ⟨σ3,f,k,j⟩:=s
 refine Z2 ?_
 refine Q7 (fun hh=>?_) (fun hh=>?_)
 ·have e:i<cs.length:=by simpa using hh
  refine M9 (r.lift k) e fun p cells z o O=>?_
  refine Y4 f.sat z o ?_
  refine Y9 f.sat (by rfl) o (Rep.one O) fun q w4 Q b Z=>?_
  obtain ⟨lv,fv,mv,rfl,f1,W,f3,f4,f5⟩:=O
  rw[fa]
  refine ld b.sat Z rfl ?_
  have D:=Vu (fun c:Cla=>c.fields) 1000000 (cs.take i) fun c t=>m c (List.mem_of_mem_take t)
  rw[List.length_take] at D
  have X:=m cs[i] (List.getElem_mem e)
  have M:min i cs.length*1000000≤100000*1000000:=Nat.mul_le_mul_right _ (by omega)
  refine Vw (f.trans b) (j.up b) (W.up b) rfl (by omega) (by omega) fun E w5 V J L _=>?_
  refine L8 ?_
  refine Z9 (by omega) e ⟨Q,J,k.more ⟨b.le⟩,?_⟩
  rw[List.take_add_one,List.getElem?_eq_getElem e,List.flatMap_append]
  simpa using L
 ·have e: ¬i<cs.length:=by simpa using hh
  rw[List.take_of_length_le (by omega)] at j
  obtain ⟨Q,C,A,ac,_⟩:=j.keep f
  refine h _ _ _ C ?_
  unfold Y5
  rw[g];exact A)
theorem X1F {n f:X0} (hs:X2 w σ) (ht:Tab σ v l) (ha:Zy l) (hl:l.length≤100000) (hsm: ∀c∈l,Qj c) (h: ∀w' σ',Stp w σ w' σ'→K (I (L5 (Jh l n f))) w'):Q1 P F.bm [v,S n,S f] w K:=Ii (by
 unfold Nd
 refine U5 hs rfl fun q w1 σ1 hk1 hq=>?_
 refine Gt hk1.sat (ht.lift ⟨hk1.le⟩) ha hl hsm fun v' w2 σ2 hk2 hv2=>?_
 rw[A9]
 refine Ge (fun x=>decide (x.name=f)) hk2.sat hv2 (fun x cs w3 K _ hs3 hr hl hK=>Z6 (Bj ?_)) fun w3 hb=>?_
 ·obtain ⟨rfl,_⟩:=hr
  unfold Vg
  have hq2:=hq.up hk2
  refine Z0 hs3 fun a w4 σ4 hk4 ha4=>?_
  (repeat' (first | (with_reducible intro _) | (with_reducible refine U6 ?_) | (simp only[↓M2,M2,Mb,reduceIte]) | (with_reducible first | refine ld aS aL aR ?_ | refine X7 aS aL aR ?_ | refine Y4 aS aL aR ?_ | refine Q8 aL ?_ | refine J4 aR ?_ | refine Z0 aS ?_ | refine N1 aS aL ?_ | refine U5 aS aR ?_ | refine Y9 aS aR aR (Rep.one (by assumption)) ?_ | refine U7 aS aR aR aR ?_ | (refine Z8 (fun hh=>?_) (fun hh=>?_)<;>(try simp only[hh,Bool.not_true,Bool.not_false,↓M2,M2,Mb,reduceIte])) | (refine Q7 (fun hh=>?_) (fun hh=>?_)<;>(try simp only[hh,Bool.not_true,Bool.not_false,↓M2,M2,Mb,reduceIte])))))
  exact hK _ hk4.bel
 ·exact h _ _ ((hk1.trans hk2).trans (Stp.of_below hk2.sat hb)))
end Go.Proofs.YtjdiakhipmggjaaGreatDoor

namespace Go.Hm
open Go.Kd
theorem Q5i {α:Type} (p:α→Bool): ∀xs:List α,xs.find? p=(xs.findIdx? p).bind (xs[·]?)
 | []=>rfl
 | x::r=>by
  rw[List.find?_cons,List.findIdx?_cons]
  cases p x with
  | true=>rfl
  | false=>
   simp only[Bool.false_eq_true,if_false]
   rw[Q5i p r]
   cases r.findIdx? p<;>simp
def Q9X (l:List Cla):Prop:= ∀c∈l,∀u∈c.like,∃d,lk l u=some d
def Nm (c:Cla):Prop:=c.name.length≤100∧(∀f∈c.fields,f.name.length≤100∧f.kind.length≤100)∧ ∀m∈c.methods,m.result.length≤100∧ ∀p∈m.params,p.length≤100
structure Ok (l : List Cla) : Prop where
  acy : Zy l
  len : l.length ≤ 100000
  sm : ∀ c ∈ l, Qj c
  full : Q9X l
  nm : ∀ c ∈ l, Nm c
abbrev oM (o:Option Hm.Met):Hm.Met:=o.getD Hm.Met.zero
abbrev o1 (o:Option (X0×Hm.Met)):X0:=(o.map (·.1)).getD []
abbrev o2 (o:Option (X0×Hm.Met)):Hm.Met:=(o.map (·.2)).getD Hm.Met.zero
theorem Xp {α β:Type} {xs:List α} {f:α→Option β} {n:Nat} (h:n<xs.length) (a:(xs.take n).findSome? f=none):(xs.take (n+1)).findSome? f=f xs[n]:=by
 rw[List.take_add_one,List.getElem?_eq_getElem h,List.findSome?_append,a];simp
theorem Xq {α β:Type} {xs:List α} {f:α→Option β} {n:Nat} {y:β} (h:n<xs.length) (a:(xs.take n).findSome? f=none) (b:f xs[n]=some y):xs.findSome? f=some y:=by
 have:=Xp h a
 rw[b] at this
 rw[←List.take_append_drop (n+1) xs,List.findSome?_append,this];rfl
end Go.Hm
namespace Go.Proofs.YtjdiakhipmggjaaGreatDoor
open Go.Emb Go.RowKit Go.Kd Go.Hm
variable {w : World} {K : Value → World → Prop} {σ : Q5} {v : Value} {l : List Cla}
theorem Qo:E5 σ Hm.Met.zero [S [], .slice none 0 0,S [], .bool false,I 0, .slice none 0 0, .slice none 0 0]:=
 ⟨_,_,_,rfl,Sl.nil,Sl.nil,Sl.nil,by decide,by decide,by decide,by decide⟩
theorem Fq (h:K (.agg [S [], .slice none 0 0,S [], .bool false,I 0, .slice none 0 0, .slice none 0 0].toArray) w):H1 P T.d [] w K:=W1 (by kernel_rfl) h
theorem X0T {c:Cla} {cs:List Value} {n:X0} (hs:X2 w σ) (hc:V0 σ c cs) (hsm:Qj c)
 (h: ∀pv cv hv w' σ',Stp w σ w' σ'→E5 σ' (oM (B6 c n)) [S (oM (B6 c n)).name,pv,S (oM (B6 c n)).result, .bool (oM (B6 c n)).abs,I (oM (B6 c n)).locals,cv,hv]→
  K (.tuple #[.agg [S (oM (B6 c n)).name,pv,S (oM (B6 c n)).result, .bool (oM (B6 c n)).abs,I (oM (B6 c n)).locals,cv,hv].toArray, .bool (B6 c n).isSome]) w'):Q1 P F.cA [.agg cs.toArray,S n] w K:=Q82 (by
 obtain ⟨lv,fv,mv,rfl,g1,g2,g3,g4,g5⟩:=hc
 unfold Q2T
 refine Z0 hs fun a w1 σ1 hk1 ha1=>?_
 refine U5 hk1.sat rfl fun q w2 σ2 hk2 hq=>?_
 refine M8 hk2.sat fun b w3 σ3 hb hk3 hm=>?_
 rw[fa]
 have ha3:=(ha1.up hk2).up hk3
 have g3:=((g3.up hk1).up hk2).up hk3
 have hq3:=hq.up hk3
 refine ld hk3.sat ha3 rfl ?_
 rw[A9]
 have hS3:=(hk1.trans hk2).trans hk3
 have hb0:w.heap.size≤b:=M7 hb (hk1.trans hk2)
 refine Bx (fun x=>decide (x.name=n)) hk3.sat g3 (fun x cs w4 K _ hs4 hr hl hK=>Z6 (Q5r ?_)) fun w4 hb4=>?_
 ·obtain ⟨pv,cv,hv,rfl,_⟩:=hr
  unfold Q03
  refine Z0 hs4 fun a w5 σ5 hk5 ha5=>?_
  (repeat' (first | (with_reducible intro _) | (with_reducible refine U6 ?_) | (simp only[↓M2,M2,Mb,reduceIte]) | (with_reducible first | refine ld aS aL aR ?_ | refine X7 aS aL aR ?_ | refine Y4 aS aL aR ?_ | refine Q8 aL ?_ | refine J4 aR ?_ | refine Z0 aS ?_ | refine N1 aS aL ?_ | refine U5 aS aR ?_ | refine Y9 aS aR aR (Rep.one (by assumption)) ?_ | refine U7 aS aR aR aR ?_ | (refine Z8 (fun hh=>?_) (fun hh=>?_)<;>(try simp only[hh,Bool.not_true,Bool.not_false,↓M2,M2,Mb,reduceIte])) | (refine Q7 (fun hh=>?_) (fun hh=>?_)<;>(try simp only[hh,Bool.not_true,Bool.not_false,↓M2,M2,Mb,reduceIte])))))
  exact hK _ hk5.bel
 have hk4:Stp w3 σ3 w4 σ3:=Stp.of_below hk3.sat hb4
 have hm:=hm.step hk4
 have hS4:=hS3.trans hk4
 unfold B6 at h
 rw[Q5i] at h
 refine Z2 ?_
 cases hf:c.methods.findIdx? fun x=>decide (x.name=n) with
 | none=>
  rw[hf] at h
  simp only[L5]
  refine J3 ?_
  refine Fq ?_
  refine F8 hm hS4 hb0 rfl rfl (Rep.one (Qo (σ:=σ3))) fun w5 hS5 hm5=>?_
  refine V1 hm5 rfl ?_
  exact h _ _ _ w5 σ3 hS5.stp Qo
 | some i=>
  rw[hf] at h
  have hi:i<c.methods.length:=(List.findIdx?_eq_some_iff_getElem.1 hf).1
  simp only[Option.bind_some,List.getElem?_eq_getElem hi] at h
  simp only[L5]
  refine Q7 (fun hh=>absurd (of_decide_eq_true hh) (by omega)) (fun _=>?_)
  rw[fa]
  refine ld hk4.sat ha3 rfl ?_
  refine M9 g3 hi fun p cells hl1 hl2 hr=>?_
  refine Y4 hk4.sat hl1 hl2 ?_
  refine Q4m hk4.sat hr (hsm.2.2.2 _ (List.getElem_mem hi)) fun pv cv hv w5 σ5 hk5 hr5=>?_
  refine F8 (hm.step hk5) (hS4.trans hk5) hb0 rfl rfl (Rep.one hr5) fun w6 hS6 hm6=>?_
  refine V1 hm6 rfl ?_
  exact h _ _ _ w6 σ5 hS6.stp hr5)
theorem X2i {n:X0} (ok:Ok l): ∀(k:Nat) {c:Cla} {cs:List Value} {w:World} {σ:Q5} {K:Value→World→Prop},K3 l c.name<k→lk l c.name=some c→X2 w σ→Tab σ v l→V0 σ c cs→
 (∀pv X Y w' Z,Stp w σ w' Z→E5 Z (o2 (V4 l c n)) [S (o2 (V4 l c n)).name,pv,S (o2 (V4 l c n)).result, .bool (o2 (V4 l c n)).abs,I (o2 (V4 l c n)).locals,X,Y]→
  K (.tuple #[S (o1 (V4 l c n)), .agg [S (o2 (V4 l c n)).name,pv,S (o2 (V4 l c n)).result, .bool (o2 (V4 l c n)).abs,I (o2 (V4 l c n)).locals,X,Y].toArray, .bool (V4 l c n).isSome]) w')→
 Q1 P F.aS [v, .agg cs.toArray,S n] w K:=by
 intro k
 induction k with
 | zero=>
  intro c cs w σ K hk
  omega
 | succ k ih=>
  intro c cs w σ K hk hc hs ht hr h
  refine Tg ?_
  obtain ⟨lv,fv,mv,rfl,g1,g2,g3,g4,g5⟩:=hr
  have E:=Q43 ok.acy hc n
  generalize hf:(fun u=>match lk l u with | none=>none | some d=>match B6 d n with | some m=>some (u,m) | none=>V4 l d n)=f at E
  unfold Ob
  refine Z0 hs fun a w1 σ1 M bb=>?_
  refine M8 M.sat fun b w2 σ2 hb C a7=>?_
  have V:w.heap.size≤b:=M7 hb M
  have a0:=bb.up C
  rw[fa]
  refine ld C.sat a0 rfl ?_
  have g1:=(g1.up M).up C
  refine Q8 g1 ?_
  refine U1 c.like.length (fun i w'=> ∃Z,Stp w σ w' Z∧SLe σ2 Z∧Y1 Z w' b [S [], .slice none 0 0,S [], .bool false,I 0, .slice none 0 0, .slice none 0 0]∧(c.like.take i).findSome? f=none) ⟨σ2,M.trans C,SLe.refl _,a7,rfl⟩ fun i w3 d hi ak=>?_
  obtain ⟨σ3,y,ac,al,z⟩:=ak
  have a4:=ht.lift ⟨y.le⟩
  refine Z2 ?_
  refine Q7 (fun hh=>?_) (fun hh=>?_)
  ·have g:i<c.like.length:=by simpa using hh
   refine Q5a (g1.lift ac) g fun p ar ah=>?_
   refine X7 y.sat ar rfl ?_
   obtain ⟨d,W⟩:=ok.full c (V3 hc).2.1 _ (List.getElem_mem g)
   obtain ⟨am,aq,_⟩:=V3 W
   have j:f c.like[i]=match B6 d n with | some m=>some (c.like[i],m) | none=>V4 l d n:=by rw[←hf];simp only[W]
   refine Zb y.sat a4 W fun az ax a3 w4 σ4 D f1 f2 f3 f4 f5 a2=>?_
   refine X0T D.sat a2 (ok.sm d aq) fun pv X Y w5 σ5 H ad=>?_
   refine J5 (vs:=[_,_]) rfl ?_
   refine J5 (vs:=[_,_]) rfl ?_
   refine Y9 H.sat (by rfl) rfl (Rep.one ad) fun q w6 σ6 B an=>?_
   have t:=((y.trans D).trans H).trans B
   have aj:=((al.step D).step H).step B
   have R:=RMe_lift ad ⟨B.le⟩
   cases ho:B6 d n with
   | some m=>
    rw[ho] at j R an
    (try simp only[ho])
    refine J3 ?_
    refine U2 t.sat ?_
    refine E7 (fun v _=>v= .agg [S m.name,pv,S m.result, .bool m.abs,I m.locals,X,Y].toArray) (fun _ _ _ h _=>h) (fun w hb=>Y4 hb.sat an rfl ⟨Below.refl _ _,rfl⟩) ?_
    rintro _ w7 ag rfl
    refine F8 (aj.step ag.stp) (t.trans ag.stp) V rfl rfl (Rep.one R) fun w8 ay a9=>?_
    refine V1 a9 rfl ?_
    have O:=E.trans (Xq g z j)
    rw[O] at h
    exact h _ _ _ w8 σ6 ay.stp R
   | none=>
    rw[ho] at j
    (try simp only[Option.isSome_none])
    refine Z7 ?_
    refine Zb t.sat (ht.lift ⟨t.le⟩) W fun az ax a3 w7 σ7 A f1 f2 f3 f4 f5 a8=>?_
    have bp:=Xt ok.acy hc (by simp[U3,List.getElem_mem g]:c.like[i]∈U3 c) W
    refine ih (by rw[am];omega) (by rw[am];exact W) A.sat (ht.lift ⟨(t.trans A).le⟩) a8 fun pv X Y w8 σ8 J ab=>?_
    refine J5 (vs:=[_,_,_]) rfl ?_
    refine J5 (vs:=[_,_,_]) rfl ?_
    refine J5 (vs:=[_,_,_]) rfl ?_
    refine Y9 J.sat (by rfl) rfl (Rep.one ab) fun q w9 σ9 L ai=>?_
    have U:=((t.trans A).trans J).trans L
    have aa:=((aj.step A).step J).step L
    have Q:=RMe_lift ab ⟨L.le⟩
    cases O:V4 l d n with
    | some r=>
     obtain ⟨s,m⟩:=r
     rw[O] at j Q ai
     (try simp only[O])
     refine J3 ?_
     refine U2 U.sat ?_
     refine E7 (fun v _=>v= .agg [S m.name,pv,S m.result, .bool m.abs,I m.locals,X,Y].toArray) (fun _ _ _ h _=>h) (fun w hb=>Y4 hb.sat ai rfl ⟨Below.refl _ _,rfl⟩) ?_
     rintro _ br N rfl
     refine F8 (aa.step N.stp) (U.trans N.stp) V rfl rfl (Rep.one Q) fun ba ao ae=>?_
     refine V1 ae rfl ?_
     have ah:=E.trans (Xq g z j)
     rw[ah] at h
     exact h _ _ _ ba σ9 ao.stp Q
    | none=>
     rw[O] at j
     (try simp only[Option.isSome_none])
     refine Z7 ?_
     refine L8 ?_
     refine Y6 (by have:=g1.max;omega) g ⟨σ9,U,?_,aa,?_⟩
     ·exact ac.more ⟨fun b o e=>L.le _ _ (J.le _ _ (A.le _ _ (B.le _ _ (H.le _ _ (D.le _ _ e)))))⟩
     ·rw[Xp g z];exact j
  ·have g: ¬i<c.like.length:=by simpa using hh
   rw[List.take_of_length_le (by omega)] at z
   refine Fq ?_
   refine F8 al y V rfl rfl (Rep.one (Qo (σ:=σ3))) fun w5 av a1=>?_
   refine V1 a1 rfl ?_
   have O:=E.trans z
   rw[O] at h
   exact h _ _ _ w5 σ3 av.stp Qo
end Go.Proofs.YtjdiakhipmggjaaGreatDoor

namespace Go.Hm
open Go.Kd
theorem X0w {l:List Cla} {n:X0} {c:Cla} (h:c∈chain l n):lk l c.name=some c:=by
 have key: ∀(f:Nat) (n:X0),c∈G6 (lk l) f n→lk l c.name=some c:=by
  intro f
  induction f with
  | zero=>intro n h;simp[G6] at h
  | succ f b=>
   intro n h
   simp only[G6] at h
   split at h
   ·simp at h
   ·rename_i d a
    rcases List.mem_cons.1 h with rfl | h
    ·rw[(V3 a).1];exact a
    ·exact b _ h
 exact key _ _ h
end Go.Hm
namespace Go.Proofs.YtjdiakhipmggjaaGreatDoor
open Go.Emb Go.RowKit Go.Kd Go.Hm
variable {w : World} {K : Value → World → Prop} {σ : Q5} {v : Value} {l : List Cla}
theorem X0e {k n:X0} (hs:X2 w σ) (ht:Tab σ v l) (ok:Ok l)
 (h: ∀pv cv hv w' E,Stp w σ w' E→E5 E (o2 (V2 l k n)) [S (o2 (V2 l k n)).name,pv,S (o2 (V2 l k n)).result, .bool (o2 (V2 l k n)).abs,I (o2 (V2 l k n)).locals,cv,hv]→
  K (.tuple #[S (o1 (V2 l k n)), .agg [S (o2 (V2 l k n)).name,pv,S (o2 (V2 l k n)).result, .bool (o2 (V2 l k n)).abs,I (o2 (V2 l k n)).locals,cv,hv].toArray, .bool (V2 l k n).isSome]) w'):
 Q1 P F.bd [v,S k,S n] w K:=Fx (by
 unfold Lm
 refine M8 hs fun b w1 σ1 H Q ay=>?_
 refine Q97 Q.sat (ht.lift ⟨Q.le⟩) ok.acy ok.len fun v1 w2 σ2 aj ax=>?_
 have ba:=ay.step aj
 have bh:=ay.lt
 refine Q41 (Q.trans aj) (ax.mono Q.bel.size) fun w3 bd a6 ap=>?_
 rw[List.reverse_reverse] at ap
 obtain ⟨σ3,aw,N,bq,a2⟩:=ap.keep a6
 have bl:=Cs l k
 have a1:v1.ownBlock≠some b:=fun e=>by have:=ax.own e;omega
 have al:Y1 σ3 w3 b [S [], .slice none 0 0,S [], .bool false,I 0, .slice none 0 0, .slice none 0 0]:=by
  have:=ba.kp bd a1
  exact ⟨(a2 b fun e=>a1 e.symm).trans this.1,this.2⟩
 refine Q8 N ?_
 unfold V2 at h
 refine U1 (chain l k).length (fun i w'=> ∃E,Stp w σ w' E∧SLe σ3 E∧Y1 E w' b [S [], .slice none 0 0,S [], .bool false,I 0, .slice none 0 0, .slice none 0 0]∧((chain l k).take i).findSome? (fun c=>(B6 c n).map (c.name,·))=none) ⟨σ3,aw,SLe.refl _,al,rfl⟩ fun i w5 d hi C=>?_
 obtain ⟨σ5,L,M,ag,u⟩:=C
 refine Z2 ?_
 refine Q7 (fun hh=>?_) (fun hh=>?_)
 ·have a:i<(chain l k).length:=by simpa using hh
  refine M9 (N.lift M) a fun p cells W z Z=>?_
  refine Y4 L.sat W z ?_
  refine Y9 L.sat (by rfl) z (Rep.one Z) fun q w6 σ6 A aq=>?_
  refine Y4 A.sat aq z ?_
  have af:=Ct (List.getElem_mem a)
  refine X0T A.sat (Rep.up A.le Z) (ok.sm _ af) fun pv cv hv w7 σ7 j am=>?_
  refine J5 (vs:=[_,_]) rfl ?_
  refine J5 (vs:=[_,_]) rfl ?_
  refine Y9 j.sat (by rfl) rfl (Rep.one am) fun q8 w8 σ8 y a0=>?_
  have X:=((L.trans A).trans j).trans y
  have an:=((ag.step A).step j).step y
  have B:=RMe_lift am ⟨y.le⟩
  cases D:B6 (chain l k)[i] n with
  | some m=>
   rw[D] at B a0
   (try simp only[D])
   refine J3 ?_
   obtain ⟨lv,fv,mv,rfl,g⟩:=Z
   refine U2 X.sat ?_
   refine X4 (.pointer (some (q.add 0))) (fun w H=>by rw[fa];exact X6 rfl) ?_
   refine X4 (S (chain l k)[i].name) (fun t w H e=>by rw[e];exact ld H.sat ((aq.up j).up y) rfl (X6 rfl)) ?_
   refine E7 (fun v _=>v= .agg [S m.name,pv,S m.result, .bool m.abs,I m.locals,cv,hv].toArray) (fun _ _ _ h _=>h) (fun w H=>Y4 H.sat a0 rfl ⟨Below.refl _ _,rfl⟩) ?_
   rintro _ _ _ w9 az rfl rfl rfl
   refine F8 (an.step az.stp) (X.trans az.stp) H rfl rfl (Rep.one B) fun ac ak ae=>?_
   refine V1 ae rfl ?_
   rw[Xq (f:=fun c=>(B6 c n).map (c.name,·)) a u (by simp only[D];rfl)] at h
   exact h _ _ _ ac σ8 ak.stp B
  | none=>
   (try simp only[D])
   refine Z7 ?_
   refine L8 ?_
   refine Y6 (by have:=ok.len;omega) a ⟨σ8,X,M.more ⟨fun b o e=>y.le _ _ (j.le _ _ (A.le _ _ e))⟩,an,?_⟩
   rw[Xp a u];simp only[D];rfl
 ·have a: ¬i<(chain l k).length:=by simpa using hh
  rw[List.take_of_length_le (by omega)] at u
  rw[u] at h
  clear al aw hh
  refine Q8 (N.lift M) ?_
  refine U1 (chain l k).length (fun i w'=> ∃E,Stp w σ w' E∧SLe σ3 E∧Y1 E w' b [S [], .slice none 0 0,S [], .bool false,I 0, .slice none 0 0, .slice none 0 0]∧((chain l k).take i).findSome? (fun c=>V4 l c n)=none) ⟨σ5,L,M,ag,rfl⟩ fun i w6 d hi C=>?_
  obtain ⟨σ6,R,ad,ai,u⟩:=C
  refine Z2 ?_
  refine Q7 (fun hh=>?_) (fun hh=>?_)
  ·have a:i<(chain l k).length:=by simpa using hh
   refine M9 (N.lift ad) a fun p cells W z Z=>?_
   refine Y4 R.sat W z ?_
   refine Y9 R.sat (by rfl) z (Rep.one Z) fun q w7 σ7 j a9=>?_
   refine Y4 j.sat a9 z ?_
   have O:=R.trans j
   have a8:=X0w (List.getElem_mem a)
   refine X2i ok _ (Nat.lt_succ_self _) a8 j.sat (ht.lift ⟨O.le⟩) (Rep.up j.le Z) fun pv cv hv w8 σ8 y B=>?_
   refine J5 (vs:=[_,_,_]) rfl ?_
   refine J5 (vs:=[_,_,_]) rfl ?_
   refine J5 (vs:=[_,_,_]) rfl ?_
   refine Y9 y.sat (by rfl) rfl (Rep.one B) fun q9 w9 σ9 J av=>?_
   have V:=(O.trans y).trans J
   have ah:=((ai.step j).step y).step J
   have Y:=RMe_lift B ⟨J.le⟩
   cases D:V4 l (chain l k)[i] n with
   | some r=>
    obtain ⟨s,m⟩:=r
    rw[D] at Y av
    (try simp only[D])
    refine J3 ?_
    refine U2 V.sat ?_
    refine E7 (fun v _=>v= .agg [S m.name,pv,S m.result, .bool m.abs,I m.locals,cv,hv].toArray) (fun _ _ _ h _=>h) (fun w H=>Y4 H.sat av rfl ⟨Below.refl _ _,rfl⟩) ?_
    rintro _ ac U rfl
    refine F8 (ah.step U.stp) (V.trans U.stp) H rfl rfl (Rep.one Y) fun bc ar ao=>?_
    refine V1 ao rfl ?_
    have:=Xq (f:=fun c=>V4 l c n) a u D
    unfold V4 at this
    rw[this] at h
    exact h _ _ _ bc σ9 ar.stp Y
   | none=>
    (try simp only[D])
    refine Z7 ?_
    refine L8 ?_
    refine Y6 (by have:=ok.len;omega) a ⟨σ9,V,ad.more ⟨fun b o e=>J.le _ _ (y.le _ _ (j.le _ _ e))⟩,ah,?_⟩
    rw[Xp a u];exact D
  ·have a: ¬i<(chain l k).length:=by simpa using hh
   rw[List.take_of_length_le (by omega)] at u
   refine Fq ?_
   refine F8 ai R H rfl rfl (Rep.one (Qo (σ:=σ6))) fun w7 O a7=>?_
   refine V1 a7 rfl ?_
   unfold V4 at u
   rw[u] at h
   exact h _ _ _ w7 σ6 O.stp Qo)
theorem Q4k {n:X0} (hs:X2 w σ) (ht:Tab σ v l) (h: ∀w' σ',Stp w σ w' σ'→K (.bool (T7 l n)) w'):Q1 P F.aA [v,S n] w K:=Bi (by
 unfold Vj
 unfold T7 at h
 cases hd:lk l n with
 | none=>
  rw[hd] at h
  (repeat' (first | (with_reducible intro _) | (with_reducible refine U6 ?_) | (simp only[↓M2,M2,Mb,reduceIte]) | (with_reducible first | refine ld aS aL aR ?_ | refine X7 aS aL aR ?_ | refine Y4 aS aL aR ?_ | refine Q8 aL ?_ | refine J4 aR ?_ | refine Z0 aS ?_ | refine N1 aS aL ?_ | refine U5 aS aR ?_ | refine Y9 aS aR aR (Rep.one (by assumption)) ?_ | refine U7 aS aR aR aR ?_ | refine Q00 au au au ?_ | (refine Z8 (fun hh=>?_) (fun hh=>?_)<;>(try simp only[hh,Bool.not_true,Bool.not_false,↓M2,M2,Mb,reduceIte])) | (refine Q7 (fun hh=>?_) (fun hh=>?_)<;>(try simp only[hh,Bool.not_true,Bool.not_false,↓M2,M2,Mb,reduceIte])))))
  all_goals exact aF
 | some d=>
  rw[hd] at h
  (repeat' (first | (with_reducible intro _) | (with_reducible refine U6 ?_) | (simp only[↓M2,M2,Mb,reduceIte]) | (with_reducible first | refine ld aS aL aR ?_ | refine X7 aS aL aR ?_ | refine Y4 aS aL aR ?_ | refine Q8 aL ?_ | refine J4 aR ?_ | refine Z0 aS ?_ | refine N1 aS aL ?_ | refine U5 aS aR ?_ | refine Y9 aS aR aR (Rep.one (by assumption)) ?_ | refine U7 aS aR aR aR ?_ | refine Ca au au au ?_ | refine Zb au au au ?_ | (refine Z8 (fun hh=>?_) (fun hh=>?_)<;>(try simp only[hh,Bool.not_true,Bool.not_false,↓M2,M2,Mb,reduceIte])) | (refine Q7 (fun hh=>?_) (fun hh=>?_)<;>(try simp only[hh,Bool.not_true,Bool.not_false,↓M2,M2,Mb,reduceIte])))))
  all_goals exact aF)
end Go.Proofs.YtjdiakhipmggjaaGreatDoor

namespace Go.Kd
def brk (b:UInt8):Bool:=[(91:UInt8),93].contains b
def Q1i:Nat→X0→X0
 | 0,s=>s
 | n+1,s=>match s.getLast? with
  | some b=>if brk b then Q1i n (s.take (s.length-1)) else s
  | none=>s
def Ha (s:X0):X0:=Q1i s.length s
theorem Q7M: ∀(n m:Nat) (s:X0),s.length≤n→s.length≤m→Q1i n s=Q1i m s:=by
 intro n
 induction n with
 | zero=>
  intro m s h _
  have:s=[]:=List.eq_nil_of_length_eq_zero (by omega)
  subst this
  cases m<;>rfl
 | succ n a=>
  intro m s h c
  cases m with
  | zero=>
   have:s=[]:=List.eq_nil_of_length_eq_zero (by omega)
   subst this;rfl
  | succ m=>
   simp only[Q1i]
   cases d:s.getLast? with
   | none=>rfl
   | some b=>
    simp only
    split
    ·exact a m _ (by rw[List.length_take];omega) (by rw[List.length_take];omega)
    ·rfl
theorem Q1u (s:X0):Ha s=match s.getLast? with | some b=>if brk b then Ha (s.take (s.length-1)) else s | none=>s:=by
 unfold Ha
 cases d:s with
 | nil=>rfl
 | cons c r=>
  rw[←d]
  obtain ⟨n,e⟩: ∃n,s.length=n+1:=⟨r.length,by rw[d];rfl⟩
  have a:s.length-1=n:=by omega
  rw[e]
  simp only[Q1i,a]
  cases f:s.getLast? with
  | none=>rfl
  | some b=>
   simp only
   split
   ·rw[show n+1-1=n by omega];exact Q7M n (s.take n).length _ (by rw[List.length_take];omega) (Nat.le_refl _)
   ·rfl
theorem Q8C {s:X0} (h:name s=true): ∃b,s.getLast?=some b∧S2 b.toNat=true:=by
 cases s with
 | nil=>simp[name] at h
 | cons c r=>
  refine ⟨(c::r).getLast (by simp),List.getLast?_eq_some_getLast (by simp),?_⟩
  simp only[name,Bool.and_eq_true,List.all_eq_true] at h
  exact h.2 _ (List.getLast_mem _)
theorem Q9t {b:UInt8} (h:S2 b.toNat=true):brk b=false:=by
 have a:b≠91:=by rintro rfl;revert h;decide
 have c:b≠93:=by rintro rfl;revert h;decide
 simp[brk,a,c]
theorem Mt {s:X0} (h:(plain s||M6 s)=true):name s=true:=by
 simp only[Bool.or_eq_true] at h
 rcases h with h | h
 ·simp only[plain,Bool.or_eq_true,decide_eq_true_eq] at h
  rcases h with (h | h) | h<;>subst h<;>decide
 ·cases s with
  | nil=>simp[M6] at h
  | cons c r=>simp only[M6,Bool.and_eq_true] at h;exact h.1
end Go.Kd
namespace Go.Proofs.YtjdiakhipmggjaaGreatDoor
open Go.Emb Go.RowKit Go.Kd Go.Hm
variable {w : World} {K : Value → World → Prop} {σ : Q5} {v : Value} {l : List Cla}
theorem X02 {s:X0} (h:arr s=true):Ha s=Ha (Kd.cutA s):=by
 have f:2≤s.length∧s.drop (s.length-2)=[91,93]:=by simpa [arr] using h
 obtain ⟨g,e⟩:=f
 have a:s=Kd.cutA s++[91,93]:=by unfold Kd.cutA;rw[←e,List.take_append_drop]
 have i:(Kd.cutA s).length+2=s.length:=by unfold Kd.cutA;rw[List.length_take];omega
 have c:s.getLast?=some 93:=by rw[a];simp
 have b:s.take (s.length-1)=Kd.cutA s++[91]:=by
  conv=>lhs;rw[a]
  rw[List.take_append,List.length_append]
  simp
  exact List.take_of_length_le (by omega)
 rw[Q1u s,c]
 simp only[show brk 93=true from rfl,if_true,b]
 rw[Q1u]
 have d:(Kd.cutA s++[91]).getLast?=some 91:=by simp
 rw[d]
 simp only[show brk 91=true from rfl,if_true]
 congr 1
 simp
theorem Q9n {s:X0}:(plain (base s).1||M6 (base s).1)=true→Ha s=(base s).1:=by
 have key: ∀(n:Nat) (s:X0),s.length≤n→(plain (base s).1||M6 (base s).1)=true→Ha s=(base s).1:=by
  intro n
  induction n with
  | zero=>
   intro s h a
   have:s=[]:=List.eq_nil_of_length_eq_zero (by omega)
   subst this;rfl
  | succ n e=>
   intro s h a
   by_cases c:arr s=true
   ·have d:base s=((base (Kd.cutA s)).1,(base (Kd.cutA s)).2+1):=by rw[Xo s,c];simp
    rw[d] at a⊢
    rw[X02 c]
    exact e _ (by have:=I4 c;omega) a
   ·have d:base s=(s,0):=by rw[Xo s,eq_false_of_ne_true c];simp
    rw[d] at a⊢
    obtain ⟨b,f,g⟩:=Q8C (Mt a)
    rw[Q1u,f]
    simp[Q9t g]
 exact key _ s (Nat.le_refl _)
instance z_asciiSet:TZ P T.ab 256 256 (.agg (Array.replicate 256 (.bool false))):=⟨by kernel_rfl⟩
theorem Q6i (h: ∀w',Below w.heap.size w w'→K (.tuple #[.agg (Lib.setCells [91,93]), .bool true]) w'):Q1 P F.cg [S [91,93]] w K:=by
 refine Wo (fn:=Tryz.f157) Tryz.func157 (by kernel_rfl) (by kernel_rfl) (Calls.mono (Tryz.strings_makeASCIISet (fun w=>Zf z_asciiSet w) ⟨[91,93].toArray⟩ w (by decide) (by
  intro j b a
  have:b∈[(91:UInt8),93]:=List.mem_of_getElem? a
  simp at this;rcases this with rfl | rfl<;>decide)) ?_)
 rintro e w' ⟨rfl,rfl⟩
 exact h _ ((Below.refl _ _).alloc (Nat.le_refl _) _)
theorem Q3g {q:Addr} {b:UInt8} (c:X2 w σ) (a:Z4 σ q (Lib.setCells [91,93]).toList) (h:K (.bool (brk b)) w):Q1 P F.av [.pointer (some q), .int .u8 b.toNat] w K:=Nu (by
 unfold Qs
 rw[M3]
 have d:=b.toNat_lt
 rw[Q9D (by omega) (by omega)]
 refine ld c a ?_ h
 have:=Lib.setCells_at [91,93] b
 rw[←Array.getElem?_toList] at this
 simpa [brk] using this)
theorem Q2w {q:Addr} {s:X0} (j:X2 w σ) (m:s.length≤U0) (k:Z4 σ q (Lib.setCells [91,93]).toList) (h:K (S (Ha s)) w):Q1 P F.am [S s, .pointer (some q)] w K:=Rp (by
 unfold Jp
 refine U6 ?_
 refine Vv (fun x w'=>w'=w∧ ∃u:X0,x=S u∧u.length≤U0∧Ha u=Ha s) (fun x _=>(sOf x).length) ⟨rfl,s,rfl,m,rfl⟩ ?_
 rintro _ d _ ⟨rfl,u,rfl,e,f⟩
 have g:sOf (S u)=u:=by simp[sOf]
 simp only[g]
 refine Ff X8 ?_
 refine Q1v ?_
 refine Q7 (fun hh=>?_) (fun hh=>?_)
 ·have n:0<u.length:=by simpa using hh
  have o:u.length≤9223372036854775807:=Nat.le_trans e (by decide)
  refine Ff X8 ?_
  refine Zg ⟨by omega,by omega⟩ ?_
  have i:((u.length:Int)-1).toNat=u.length-1:=by omega
  rw[Xm X8 (by omega) (by omega)]
  simp only[i]
  have b:u.getLast?=some (u[u.length-1]'(by omega)):=by rw[List.getLast?_eq_getElem?,List.getElem?_eq_getElem]
  have a:=Q1u u
  rw[b] at a
  simp only at a
  refine Q3g j k ?_
  cases c:brk (u[u.length-1]'(by omega)) with
  | true=>
   rw[c] at a
   simp only[↓M1,M1,Mb,reduceIte]
   rw[S7 (by omega) (by omega),P8 X8 (by omega) (by omega)]
   simp only[i]
   refine ⟨⟨trivial,_,rfl,by rw[List.length_take];omega,?_⟩,?_⟩
   ·rw[←f,a];simp
   ·have:sOf (S (u.take (u.length-1)))=u.take (u.length-1):=by simp[sOf]
    simp only[this,List.length_take];omega
  | false=>
   rw[c] at a
   simp only[↓M1,M1,Mb,reduceIte]
   intro _
   rw[←f,a] at h
   simpa using h
 ·have n: ¬0<u.length:=by simpa using hh
  have:u=[]:=List.eq_nil_of_length_eq_zero (by omega)
  subst this
  intro _
  rw[←f] at h
  exact h)
theorem Q6L {s:X0} (hs:X2 w σ) (hl:s.length≤U0) (h: ∀w' σ',Stp w σ w' σ'→K (S (Ha s)) w'):Q1 P F.bH [S s,S [91,93]] w K:=Ai (by
 unfold Oh
 by_cases hs0:s=[]
 ·subst hs0
  (repeat' (first | (with_reducible intro _) | (with_reducible refine U6 ?_) | (simp only[↓M2,M2,Mb,reduceIte]) | (with_reducible first | refine ld aS aL aR ?_ | refine X7 aS aL aR ?_ | refine Y4 aS aL aR ?_ | refine Q8 aL ?_ | refine J4 aR ?_ | refine Z0 aS ?_ | refine N1 aS aL ?_ | refine U5 aS aR ?_ | refine Y9 aS aR aR (Rep.one (by assumption)) ?_ | refine U7 aS aR aR aR ?_ | (refine Z8 (fun hh=>?_) (fun hh=>?_)<;>(try simp only[hh,Bool.not_true,Bool.not_false,↓M2,M2,Mb,reduceIte])) | (refine Q7 (fun hh=>?_) (fun hh=>?_)<;>(try simp only[hh,Bool.not_true,Bool.not_false,↓M2,M2,Mb,reduceIte])))))
  all_goals first | exact h _ _ (by (repeat (first | exact Stp.refl (by (first | assumption | exact Stp.sat (by assumption) | exact Hst.sat (by assumption))) | assumption | refine Stp.trans ?_ (by first | assumption | exact Hst.stp (by assumption))))) | (exfalso;simp_all)
 have d1:decide (s=[])=false:=decide_eq_false hs0
 simp only[d1,show decide (([91,93]:X0)=[])=false from rfl,show decide ((([91,93]:X0).length:Int)=1)=false from rfl,↓M1,M1,Mb,reduceIte]
 refine Q6i (L1 hs fun w1 σ1 hk1=>?_)
 simp only[↓M1,M1,Mb,reduceIte]
 have hsz:(Lib.setCells [91,93]).toList.length=256:=by rw[Array.length_toList];exact Lib.setCells_size _
 have hone: ∀u∈(Lib.setCells [91,93]).toList,u.oneCell'=true:=by
  have:=Lib.setCells_one [91,93]
  rw[Array.all_eq_true'] at this
  intro u hu;exact this u (by simpa using hu)
 have htr: ∀{w:World} {σ:Q5} {K:Value→World→Prop} {q:Addr},X2 w σ→Z4 σ q (Lib.setCells [91,93]).toList→K (S (Ha s)) w→Q1 P F.am [S s, .pointer (some q)] w K:=fun hs hq h=>Q2w hs hl hq h
 have hta:Lib.setCells [91,93]=(Lib.setCells [91,93]).toList.toArray:=Array.toArray_toList.symm
 generalize (Lib.setCells [91,93]).toList=cs at*
 rw[hta]
 refine Y9 hk1.sat (by show (Array.replicate 256 (Value.bool false)).size=256;exact Array.size_replicate) hsz hone fun q w2 σ2 hk2 hq=>?_
 refine htr hk2.sat hq ?_
 exact h _ _ (hk1.trans hk2))
theorem Q0U {s:X0} (hs:X2 w σ) (ht:Tab σ v l) (hl:s.length≤U0) (h: ∀w' σ',Stp w σ w' σ'→K (.bool (N0 l s)) w'):Q1 P F.s [v,S s] w K:=Tu (by
 unfold Oo
 unfold N0 at h
 refine K6 ?_
 refine Q7 (fun hh=>?_) (fun hh=>?_)
 ·have e:decide (s=H6)=true:=hh
  rw[e] at h
  exact h _ _ (Stp.refl hs)
 ·have e:decide (s=H6)=false:=hh
  rw[e] at h
  refine Q6L hs hl fun w1 σ1 hk1=>?_
  refine Ze s (Nat.le_trans hl (by decide)) (L1 hk1.sat fun w2 σ2 hk2=>?_)
  cases hr:right s with
  | false=>
   rw[hr] at h
   (repeat' (first | (with_reducible intro _) | (with_reducible refine U6 ?_) | (simp only[↓M2,M2,Mb,reduceIte]) | (with_reducible first | refine ld aS aL aR ?_ | refine X7 aS aL aR ?_ | refine Y4 aS aL aR ?_ | refine Q8 aL ?_ | refine J4 aR ?_ | refine Z0 aS ?_ | refine N1 aS aL ?_ | refine U5 aS aR ?_ | refine Y9 aS aR aR (Rep.one (by assumption)) ?_ | refine U7 aS aR aR aR ?_ | (refine Z8 (fun hh=>?_) (fun hh=>?_)<;>(try simp only[hh,Bool.not_true,Bool.not_false,↓M2,M2,Mb,reduceIte])) | (refine Q7 (fun hh=>?_) (fun hh=>?_)<;>(try simp only[hh,Bool.not_true,Bool.not_false,↓M2,M2,Mb,reduceIte])))))
   all_goals exact aF
  | true=>
   rw[hr] at h
   have hr2:(plain (base s).1||M6 (base s).1)=true:=by
    simp only[right,Bool.and_eq_true] at hr;exact hr.2
   rw[Q9n hr2]
   (repeat' (first | (with_reducible intro _) | (with_reducible refine U6 ?_) | (simp only[↓M2,M2,Mb,reduceIte]) | (with_reducible first | refine ld aS aL aR ?_ | refine X7 aS aL aR ?_ | refine Y4 aS aL aR ?_ | refine Q8 aL ?_ | refine J4 aR ?_ | refine Z0 aS ?_ | refine N1 aS aL ?_ | refine U5 aS aR ?_ | refine Y9 aS aR aR (Rep.one (by assumption)) ?_ | refine U7 aS aR aR aR ?_ | refine Rb _ ?_ | refine Q7U au au ?_ | (refine Z8 (fun hh=>?_) (fun hh=>?_)<;>(try simp only[hh,Bool.not_true,Bool.not_false,↓M2,M2,Mb,reduceIte])) | (refine Q7 (fun hh=>?_) (fun hh=>?_)<;>(try simp only[hh,Bool.not_true,Bool.not_false,↓M2,M2,Mb,reduceIte])))))
   all_goals exact aF)
end Go.Proofs.YtjdiakhipmggjaaGreatDoor

namespace Go.Emb
open Go.RowKit Go.Hm
variable {P : Program} {w w0 w1 w' w'' : World} {K : Value → World → Prop} {σ σ0 σ1 σ' : Q5}
theorem Q4r (m:List (List UInt8×Value)) (k n:List UInt8) (v:Value):S8 (Wn m k v) n=if k=n then some v else S8 m n:=by
 induction m with
 | nil=>simp[Wn,S8]
 | cons p r b=>
  simp only[Wn]
  by_cases h:p.1=k
  ·rw[if_pos h]
   simp only[S8]
   by_cases a:k=n
   ·simp[a]
   ·rw[if_neg a,if_neg a,if_neg (by rw[h];exact a)]
  ·rw[if_neg h]
   simp only[S8]
   by_cases a:p.1=n
   ·rw[if_pos a,if_pos a,if_neg (by intro e;exact h (a.trans e.symm))]
   ·rw[if_neg a,if_neg a];exact b
theorem J8.shift {B sz:Nat} {e:TypeId} {v:Value} {xs:List (List UInt8)} (h:J8 B e sz U9 σ w v xs) (m: ∀k,v.ownBlock=some k→σ' k=none):J8 B e sz U9 σ' w v xs:=by
 obtain ⟨a,f,rfl,s,n,c,o⟩:=h
 refine ⟨a,f,rfl,s,n,fun b d=>⟨(c b d).1,(c b d).2.1,(c b d).2.2.1,m _ (by subst d;rfl)⟩,fun u=>?_⟩
 obtain ⟨g,i,j,rfl,r,y,p,t,q⟩:=o u
 exact ⟨g,i,j,rfl,r,m g rfl,p,t,q⟩
theorem Kpt.sat {D:Nat→Prop} (a:X2 w σ) (c:Kpt D w w') (d: ∀k,D k→σ k=none):X2 w' σ:=fun b o e=>by
 rw[c.block b (a.lt e) fun h=>by rw[d b h] at e;cases e];exact a b o e
theorem Nxt.kpt {D a:Nat→Prop} (h:Nxt D w σ w' σ') (b:Kpt a w' w'') (d: ∀k,a k→D k) (c: ∀k,a k→σ' k=none):Nxt D w σ w'' σ':=
 ⟨h.kp.trans (b.mono fun k _ h=>d k h),h.le,h.old,b.sat h.sat c⟩
theorem X2H {t X:TypeId} {e:TypeId} {r:Nat} {z:Value} {cs:List Bool} [ts:TS P t e] [tz:TZ P e 1 r z] {B:Nat} {A:World} {f σ':Q5} {g u:Value} {xs:List (List UInt8)} {s:List UInt8}
 (C:J8 B e 1 U9 f A g xs) (hB:B≤A.heap.size) (R:J8 B e 1 U9 f w1 g xs) (y:Nxt (fun k=>g.ownBlock=some k) A f w1 σ') (J:Sl 1 U9 σ' u [s]) (U:(z.cells.size==1&&decide (0<1))=true)
 (j:(xs.length+1)*r≤140737488355328) (W:xs.length+1≤1000000000000):
 X3 P .append [t,t] X cs [g,u] w1 (dk (Fp B e 1 U9 f g xs s) (VQa A.heap.size B e 1 U9 f g xs s) w1):=by
 have m: ∀k,g.ownBlock=some k→σ' k=none:=fun k c=>(y.old k (C.mem c).2.1).trans (C.mem c).2.2
 refine Q8i y.sat (Nat.le_trans hB y.kp.size) (R.shift m) J U (by simpa using j) (by simpa using W) fun V M D N q i=>?_
 have b:J8 B e 1 U9 f M V (xs++[s]):=q.shift fun k c=>by
  have:=(q.mem c).2.2
  cases hh:f k with
  | none=>rfl
  | some o=>rw[y.le.le _ _ hh] at this;cases this
 refine ⟨⟨D.mono fun k _ h=>h.1,fun h=>?_,fun a d E h=>?_⟩,b,?_⟩
 ·rcases i with ⟨a,d,n,p⟩ | ⟨j,_⟩
  ·rw[p] at b;rw[n];exact b.pre rfl
  ·exact h.below j
 ·rcases i with ⟨Y,H,n,p⟩ | ⟨j,_⟩
  ·rw[n] at E;injection E with Q q2 O
   subst Q O
   rw[p] at b;exact b
  ·exact h.below j
 ·rcases i with ⟨a,d,n,p⟩ | ⟨j,L⟩
  ·exact .inl ⟨a,d,n,p⟩
  ·exact .inr ⟨fun k c=>Nat.le_trans y.kp.size (L k c),fun k c=>(C.mem c).2.1⟩
end Go.Emb
namespace Go.Hm
open Go.Kd
def Ma (l:List Cla) (n:X0):List Cla:=(F0 l n).filterMap (lk l)
theorem Q6M {l:List Cla} (h: ∀c∈l,Qj c) (a:List X0):weigh l a≤l.length*1000001:=by
 unfold weigh
 induction l with
 | nil=>simp
 | cons c r b=>
  have f:=b fun c d=>h c (by simp[d])
  have g:=(h c (by simp)).1
  simp only[List.map_cons,List.sum_cons,List.length_cons,Nat.add_mul]
  have e:(U3 c).length=c.like.length+1:=rfl
  split<;>omega
end Go.Hm
namespace Go.Proofs.YtjdiakhipmggjaaGreatDoor
open Go.Emb Go.RowKit Go.Kd Go.Hm
variable {w : World} {K : Value → World → Prop} {σ : Q5} {v : Value} {l : List Cla}
theorem Q7k {β:Type} {n:X0} {f:Value} (J:β→Cla→Bool×β) (s0:β) (O:β→World→Prop) (D:Nat→Prop) (hs:X2 w σ) (ht:Tab σ v l) (hl:l.length≤100000) (bm: ∀c∈l,Qj c) (hn:n.length≤U0)
 (hD: ∀k,D k→k<w.heap.size∧σ k=none) (am: ∀s w1 w2,O s w1→(∀k,D k→w2.heap[k]? =w1.heap[k]?)→O s w2) (h0:O s0 w)
 (hf: ∀s c cs (w1:World) (σ1:Q5) (K:Value→World→Prop),SLe σ σ1→X2 w1 σ1→(∀k,D k→σ1 k=none)→O s w1→V0 σ1 c cs→lk l c.name=some c→(∀w',Kpt D w1 w'→O (J s c).2 w'→K (.bool (J s c).1) w')→Z3 P f [.agg cs.toArray] w1 K)
 (h: ∀w' σ',Nxt D w σ w' σ'→O (J0 J s0 (Ma l n) 0).2 w'→K (.bool (J0 J s0 (Ma l n) 0).1.isSome) w'):Q1 P F.x [v,S n,f] w K:=Gw (by
 unfold Ly
 refine Yu (R:=U9) (sz:=1) (xs:=[n]) (Stp.refl hs) [S n] rfl rfl (by simp;rfl) rfl ⟨⟨rfl,hn⟩,trivial⟩ fun x0 w1 a7 bz _=>?_
 refine Q3h a7.sat fun r w2 hr X ch=>?_
 have b9:=J8.of_acc (bz.up X)
 have bp:=a7.trans X
 have be:w.heap.size≤r:=Nat.le_trans a7.bel.size hr
 have bf: ∀b,weigh l b≤100001000000:=fun b=>by
  have:=Q6M bm b
  have h2:l.length*1000001≤100000*1000001:=Nat.mul_le_mul_right _ hl
  omega
 refine Kp (fun d x w1=> ∃(B b:List X0) (s:β) (σ1:Q5) (m:List (X0×Value)),d=B.length+weigh l b∧d≤1+weigh l []∧Nxt D w σ w1 σ1∧J8 w.heap.size T.c 1 U9 σ1 w1 x B∧C2 σ1 w1 r m∧(∀k,(S8 m k).isSome=decide (k∈b))∧x.ownBlock≠some r∧O s w1∧
  F0 l n=Us (lk l) d B b∧(∃i,J0 J s0 (Ma l n) 0=J0 J s (((F0 l n).drop b.length).filterMap (lk l)) i)) (1+weigh l []) ?_ ?_
 ·refine ⟨[n],[],s0,σ,[],by simp,Nat.le_refl _,Nxt.of_stp bp,b9,ch,by simp[S8],?_,am _ _ _ h0 fun k o=>bp.bel.block k (hD k o).1,rfl,0,by simp[Ma]⟩
  intro e
  have:=bz.mem r e
  omega
 rintro ar d x dd w3 ⟨B,b,s,σ3,m,hd,cy,A,ax,af,N,ce,a4,hv,i,y⟩ bw
 have cx:=bf []
 have a5:=A.sat
 obtain ⟨aq,C⟩:=Q17 (lk l) d B b
 rw[←hv] at C
 have ac:(F0 l n).drop b.length=aq:=by rw[C];simp
 rw[ac] at y
 refine Q1t ax ?_
 refine Q1v ?_
 cases ab:B with
 | nil=>
  subst ab
  refine Q7 (fun hh=>absurd (of_decide_eq_true hh) (by simp)) (fun _=>?_)
  have:F0 l n=b:=by rw[hv];cases d<;>rfl
  have hp:aq=[]:=by rw[this] at C;simpa using C
  rw[hp] at y
  rw[y] at h
  exact h _ _ A a4
 | cons t g=>
  subst ab
  refine Q7 (fun _=>?_) (fun hh=>absurd (of_decide_eq_false hh) (by simp))
  simp only[List.length_cons] at hd
  refine Q51 (n:=0) ax (by simp) fun a cs h1 h2 h3=>?_
  obtain ⟨rfl,cp⟩:=h3
  simp only[List.getElem_cons_zero] at h1 cp
  have Y:=h1 0 _ rfl
  rw[add_zero] at Y
  refine A6 Y ?_
  refine X3t ax 1 (by simp) fun x' aa bb=>?_
  simp only[List.drop_succ_cons,List.drop_zero] at aa
  have H:x'.ownBlock≠some r:=by
   rcases bb with e | e<;>rw[e]
   ·exact ce
   ·simp
  rw[Q2x X8 af.2 t]
  have ca:d=(g.length+weigh l b)+1:=by omega
  have p:=hv
  rw[ca] at p
  simp only[Us] at p
  have skip:(lk l t=none∨t∈b)→F0 l n=Us (lk l) (g.length+weigh l b) g b:=by
   rintro (e | e)
   ·rw[e] at p;exact p
   ·cases e2:lk l t with
    | none=>rw[e2] at p;exact p
    | some c=>rw[e2] at p;simp only[if_pos e] at p;exact p
  have ad:(lk l t=none∨t∈b)→ar x' w3:=fun cl=>
   bw (g.length+weigh l b) x' w3 (by omega) ⟨g,b,s,σ3,m,rfl,by omega,A,aa,af,N,H,a4,skip cl,i,by rw[ac];exact y⟩
  have a3:=ht.lift A.le
  have U:=N t
  cases bn:S8 m t with
  | some u=>
   rw[bn] at U
   have al:t∈b:=by simpa using U
   simp only[↓M2,M2,Mb,reduceIte]
   exact ad (.inr al)
  | none=>
   rw[bn] at U
   have al:t∉b:=by simpa using U
   simp only[↓M2,M2,Mb,reduceIte]
   cases L:lk l t with
   | none=>
    refine Q00 a5 a3 L ?_
    simp only[↓M2,M2,Mb,reduceIte]
    exact ad (.inl L)
   | some c=>
    obtain ⟨a0,b1,_⟩:=V3 L
    refine Ca a5 a3 L ?_
    simp only[↓M2,M2,Mb,reduceIte]
    refine Ir X8 af t (I 1) fun w4 bd b8=>?_
    have Z:Kpt (fun k=>k=r) w3 w4:=Kpt.of_upd bd rfl
    have cd:X2 w4 σ3:=Z.sat a5 fun k o=>by rw[o];exact af.1
    have bv:=aa.kp Z fun k o e=>H (e▸o)
    have cr:=am _ _ _ a4 fun k o=>bd.block k (by have:=(hD k o).1;omega)
    have c3:r<w3.heap.size:=af.lt
    refine Zb cd a3 L fun lv fv mv w5 σ5 bh f1 f2 f3 f4 f5 bj=>?_
    refine Y9 bh.sat (by rfl) rfl (Rep.one bj) fun q w6 M V a6=>?_
    refine Y4 V.sat a6 rfl ?_
    have z:=bh.trans V
    have br: ∀k,D k→k<w4.heap.size:=fun k o=>by
     have h1:=(hD k o).1
     have h2:=A.kp.size
     have h3:=Z.size
     omega
    have b5:=am _ _ _ cr fun k o=>z.bel.block k (br k o)
    have a1:SLe σ M:=A.le.more ⟨z.le⟩
    have bs: ∀k,D k→M k=none:=fun k o=>by
     rw[z.old k (br k o),A.old k (hD k o).1];exact (hD k o).2
    refine hf s c _ w6 M _ a1 V.sat bs b5 (RCl_lift bj ⟨V.le⟩) (by rw[a0];exact L) fun w7 an bq=>?_
    have bi:X2 w7 M:=an.sat V.sat bs
    have ak:Nxt D w σ w7 M:=⟨((A.kp.more Z fun j e=>by rw[e];exact be).trans (Kpt.of_below z.bel)).trans an,a1,fun k o=>by
     rw[z.old k (by have:=A.kp.size;have:=Z.size;omega)];exact A.old k o,bi⟩
    have ao: ∀k,w.heap.size≤k→ ¬D k:=fun k o e=>by have:=(hD k e).1;omega
    have W:=(bv.up z).kp an fun k o=>ao k ((bv.mem o).1)
    have bg:=(b8.up z).kp an (ao r be)
    have bx: ∀k,(S8 (Wn m t (I 1)) k).isSome=decide (k∈b++[t]):=fun k=>by
     rw[Q4r]
     by_cases e:t=k
     ·subst e;simp
     ·rw[if_neg e,N k];simp[Ne.symm e]
    rw[L] at p
    simp only[if_neg al] at p
    obtain ⟨bl,az⟩:=Q17 (lk l) (g.length+weigh l b) (g++U3 c) (b++[t])
    have bo:aq=t::bl:=by
     have:=C.symm.trans (p.trans az)
     simpa using this
    rw[bo] at y
    simp only[List.filterMap_cons,L,J0] at y
    cases E:(J s c).1 with
    | true=>
     rw[E] at y
     simp only[if_true] at y
     refine J3 ?_
     have:=h w7 M ak
     rw[y] at this
     exact this bq
    | false=>
     rw[E] at y
     simp only[Bool.false_eq_true,if_false] at y
     refine Z7 ?_
     have ap:w.heap.size≤w7.heap.size:=ak.kp.size
     have ae: ∀k,x'.ownBlock=some k→M k=none:=fun k o=>(W.mem o).2.2
     have hw:=Kj l b c b1 (by rw[a0];exact al)
     rw[a0] at hw
     have dm:=bf b
     have ci:g.length≤100001000001:=by omega
     have cj:=(bm c b1).1
     have ct:=bg.lt
     refine Im (Fp w.heap.size T.c 1 U9 M x' g c.super) (fun w1=>Kpt (fun k=>x'.ownBlock=some k) w7 w1∧X2 w1 M∧J8 w.heap.size T.c 1 U9 M w1 x' g)
      ⟨.of_below (Below.refl _ _).drew,bi.below (Below.refl _ _).drew,W.below (Below.refl _ _).drew⟩ (fun w1 w2 E ht=>⟨E.1.trans ht.1,ht.1.sat E.2.1 ae,ht.2.1 E.2.2⟩) ?_
     refine X4 (.pointer (some (q.add 1))) (fun w E=>by rw[fa];exact ⟨Fp.refl,rfl⟩) ?_
     refine X4 (.pointer (some (q.add 2))) (fun w E=>by rw[fa];exact ⟨Fp.refl,rfl⟩) ?_
     refine X4 (S c.super) (fun t w E e=>by rw[e];exact ld E.2.1 a6 rfl ⟨Fp.refl,rfl⟩) ?_
     refine E7 (fun u w1=> ∃σ',Nxt (fun k=>x'.ownBlock=some k) w7 M w1 σ'∧Sl 1 U9 σ' u [c.super]) (fun u w1 w2 e ht=>by obtain ⟨σ',h1,h2⟩:=e;exact ⟨σ',h1.kpt ht.1 (fun _ o=>o) (fun k o=>(h1.old k (W.mem o).2.1).trans (ae k o)),h2⟩) (fun t w1 E e=>?_) ?_
     ·rw[e]
      refine P6 (R:=U9) (sz:=1) E.2.1 [S c.super] [c.super] rfl rfl (by simp;rfl) rfl ⟨⟨rfl,f5⟩,trivial⟩ fun u w2 σ2 X hu=>?_
      have b7:Nxt (fun k=>x'.ownBlock=some k) w7 M w1 M:=⟨E.1,SLe.refl _,fun _ _=>rfl,E.2.1⟩
      exact ⟨Fp.below X.bel,σ2,b7.trans (Nxt.of_stp X),hu⟩
     refine E7 (VQa w7.heap.size w.heap.size T.c 1 U9 M x' g c.super) (fun _ _ _ h1 ht=>h1.stable ht) (fun u w1 E e=>?_) ?_
     ·obtain ⟨σ',h1,h2⟩:=e
      exact X2H W ap E.2.2 h1 h2 rfl (by omega) (by omega)
     refine X4 lv (fun t w E e=>by rw[e];exact ld E.2.1 a6 rfl ⟨Fp.refl,rfl⟩) ?_
     rintro dh c0 de c7 cq c9 w8 Q _ _ _ _ ⟨cf,b0⟩ rfl
     have av:cq.ownBlock≠some r:=by
      rcases b0 with ⟨a,ck,e1,e2⟩ | ⟨e1,_⟩
      ·rw[e2];rw[e1] at H;cases a<;>exact H
      ·intro e;have:=e1 r e;omega
     refine Q8i Q.2.1 (Nat.le_trans ap Q.1.size) cf (f1.up V) rfl (by rw[List.length_append,List.length_cons,List.length_nil];omega) (by rw[List.length_append,List.length_cons,List.length_nil];omega) fun bu w9 a2 b6 co bk=>?_
     have cb:bu.ownBlock≠some r:=by
      rcases bk with ⟨a,ck,e1,e2⟩ | ⟨_,e1⟩
      ·rw[e2];rw[e1] at av;cases a<;>exact av
      ·intro e;have:=e1 r e;have:=Q.1.size;omega
     have cg:Nxt D w σ w9 M:=⟨(ak.kp.more Q.1 fun j e=>(W.mem e).1).more a2 fun j e=>e.2.1,a1,ak.old,b6⟩
     have b3:=(bg.kp Q.1 H).kp a2 fun e=>av e.1
     have cm:=am _ w7 w9 bq fun k o=>by
      have h1:=(hD k o).1
      rw[a2.block k (by have:=Q.1.size;omega) fun e=>by have:=e.2.1;omega,Q.1.block k (by omega) fun e=>by have:=(W.mem e).1;omega]
     have di:(g++U3 c).length=g.length+1+c.like.length:=by simp[U3];omega
     have cw:(U3 c).length=c.like.length+1:=rfl
     have ay:Us (lk l) (g.length+weigh l b) (g++U3 c) (b++[t])=Us (lk l) ((g++U3 c).length+weigh l (b++[t])) (g++U3 c) (b++[t]):=by
      have:=Q9Z l ((g++U3 c).length+weigh l (b++[t])) (g++U3 c) (b++[t]) (Nat.le_refl _) (g.length+weigh l b-((g++U3 c).length+weigh l (b++[t])))
      rw[←this];congr 1;omega
     refine bw ((g++U3 c).length+weigh l (b++[t])) bu w9 (by omega) ⟨g++U3 c,b++[t],(J s c).2,M,_,rfl,by omega,cg,?_,b3,bx,cb,cm,p.trans ay,i+1,?_⟩
     ·have:g++U3 c=(g++[c.super])++c.like:=by simp[U3]
      rw[this];exact co
     ·rw[y,C,bo];simp)
end Go.Proofs.YtjdiakhipmggjaaGreatDoor

namespace Go.Emb
open Go.RowKit Go.Hm
theorem Nxt.stp {w w':World} {σ a:Q5} (h:Nxt (fun _=>False) w σ w' a):Stp w σ w' a:=⟨h.kp.below fun _=>id,h.sat,h.le.le,h.old⟩
end Go.Emb
namespace Go.Hm
open Go.Kd Go.Emb
theorem Q3V {α:Type} (p:α→Bool): ∀(xs:List α) (i:Nat),(J0 (fun (_:Unit) x=>(p x,())) () xs i).1.isSome=xs.any p
 | [],_=>rfl
 | x::r,i=>by
  simp only[J0,List.any_cons]
  cases p x with
  | true=>simp
  | false=>simpa using Q3V p r (i+1)
theorem Q54 {l:List Cla} (n b:X0):((Ma l n).any fun c=>decide (c.name=b))=(F0 l n).contains b:=by
 have key: ∀vs:List X0,(∀x∈vs,∃c,lk l x=some c)→((vs.filterMap (lk l)).any fun c=>decide (c.name=b))=vs.contains b:=by
  intro vs
  induction vs with
  | nil=>intro _;rfl
  | cons x r e=>
   intro h
   obtain ⟨c,a⟩:=h x (by simp)
   rw[List.filterMap_cons,a]
   simp only[List.any_cons,List.contains_cons]
   rw[e fun y d=>h y (by simp[d]),(V3 a).1]
   congr 1
   rw[Bool.eq_iff_iff,beq_iff_eq,decide_eq_true_eq];exact ⟨Eq.symm,Eq.symm⟩
 exact key _ fun x f=>(Uk.1 f).right
end Go.Hm
namespace Go.Proofs.YtjdiakhipmggjaaGreatDoor
open Go.Emb Go.RowKit Go.Kd Go.Hm
variable {w : World} {K : Value → World → Prop} {σ : Q5} {v : Value} {l : List Cla}
theorem Q70 {n:X0} {f:Value} (p:Cla→Bool) (hs:X2 w σ) (ht:Tab σ v l) (hl:l.length≤100000) (hsm: ∀c∈l,Qj c) (hn:n.length≤U0)
 (hf: ∀c cs (w1:World) (σ1:Q5) (K:Value→World→Prop),SLe σ σ1→X2 w1 σ1→V0 σ1 c cs→(∀w' σ',Stp w1 σ1 w' σ'→K (.bool (p c)) w')→Z3 P f [.agg cs.toArray] w1 K)
 (h: ∀w' σ',Stp w σ w' σ'→K (.bool ((Ma l n).any p)) w'):Q1 P F.x [v,S n,f] w K:=by
 refine Q7k (fun (_:Unit) c=>(p c,())) () (fun _ _=>True) (fun _=>False) hs ht hl hsm hn (fun _ e=>e.elim) (fun _ _ _ _ _=>trivial) trivial (fun s c cs w1 σ1 K le hs1 _ _ hr _ hK=>hf c cs w1 σ1 K le hs1 hr fun w' σ' hk=>hK w' (.of_below hk.bel) trivial) fun w' σ' hn _=>?_
 rw[Q3V]
 exact h w' σ' hn.stp
theorem X0E {n b:X0} {q:Addr} (hs:X2 w σ) (ht:Tab σ v l) (ok:Ok l) (hn:n.length≤U0) (hq:Z4 σ q [S b]) (h: ∀w' σ',Stp w σ w' σ'→K (.bool ((F0 l n).contains b)) w'):
 Q1 P F.x [v,S n, .func (.func F.bp) #[] #[.pointer (some q)]] w K:=by
 refine Q70 (fun c=>decide (c.name=b)) hs ht ok.len ok.sm hn (fun c cs w1 σ1 K le hs1 hr hK=>Z6 (Ic ?_)) (by rw[Q54];exact h)
 obtain ⟨lv,fv,mv,rfl,_⟩:=hr
 unfold Ni
 have hq1:=hq.lift le
 refine Z0 hs1 fun a w2 σ2 hk2 ha2=>?_
 (repeat' (first | (with_reducible intro _) | (with_reducible refine U6 ?_) | (simp only[↓M2,M2,Mb,reduceIte]) | (with_reducible first | refine ld aS aL aR ?_ | refine X7 aS aL aR ?_ | refine Y4 aS aL aR ?_ | refine Q8 aL ?_ | refine J4 aR ?_ | refine Z0 aS ?_ | refine N1 aS aL ?_ | refine U5 aS aR ?_ | refine Y9 aS aR aR (Rep.one (by assumption)) ?_ | refine U7 aS aR aR aR ?_ | (refine Z8 (fun hh=>?_) (fun hh=>?_)<;>(try simp only[hh,Bool.not_true,Bool.not_false,↓M2,M2,Mb,reduceIte])) | (refine Q7 (fun hh=>?_) (fun hh=>?_)<;>(try simp only[hh,Bool.not_true,Bool.not_false,↓M2,M2,Mb,reduceIte])))))
 exact hK _ _ hk2
theorem X3D {a b:X0} (D:X2 w σ) (u:Tab σ v l) (ok:Ok l) (s:a.length≤U0) (E:b.length≤U0) (h: ∀w' H,Stp w σ w' H→K (.bool (Xl l a b)) w'):Q1 P F.bQ [v,S a,S b] w K:=Q14 (by
 unfold Ej
 unfold Xl at h
 refine U5 D rfl fun q w1 σ1 k A=>?_
 refine Q0U k.sat (u.lift ⟨k.le⟩) s fun M U d=>?_
 have i:=k.trans d
 cases y:N0 l a with
 | false=>
  simp only[y,↓M2,M2,Mb,reduceIte,Bool.not_false,Bool.true_or,if_true] at h⊢
  exact h _ _ i
 | true=>
  simp only[y,↓M2,M2,Mb,reduceIte,Bool.not_true,Bool.false_or] at h⊢
  refine X7 d.sat (A.up d) rfl ?_
  refine Q0U d.sat (u.lift ⟨i.le⟩) E fun N L e=>?_
  have c:=i.trans e
  cases z:N0 l b with
  | false=>
   simp only[z,↓M2,M2,Mb,reduceIte,Bool.not_false,if_true] at h⊢
   exact h _ _ c
  | true=>
   simp only[z,↓M2,M2,Mb,reduceIte,Bool.not_true,Bool.false_eq_true,if_false] at h⊢
   have m:=(A.up d).up e
   refine X7 e.sat m rfl ?_
   refine K6 ?_
   by_cases f:a=b
   ·rw[if_pos f] at h
    simp only[decide_eq_true f,↓M2,M2,Mb,reduceIte]
    exact h _ _ c
   rw[if_neg f] at h
   simp only[decide_eq_false f,↓M2,M2,Mb,reduceIte]
   refine Rb a ?_
   cases B:plain a with
   | true=>
    simp only[B,↓M2,M2,Mb,reduceIte,Bool.true_or,if_true] at h⊢
    exact h _ _ c
   | false=>
    simp only[B,↓M2,M2,Mb,reduceIte,Bool.false_or] at h⊢
    refine X7 e.sat m rfl ?_
    refine Rb b ?_
    cases C:plain b with
    | true=>
     simp only[C,↓M2,M2,Mb,reduceIte,if_true] at h⊢
     exact h _ _ c
    | false=>
     simp only[C,↓M2,M2,Mb,reduceIte,Bool.false_eq_true,if_false] at h⊢
     by_cases p:a=H6
     ·rw[if_pos p] at h
      have t:decide (a=[110,117,108,108])=true:=decide_eq_true p
      simp only[t,↓M2,M2,Mb,reduceIte]
      exact h _ _ c
     rw[if_neg p] at h
     have t:decide (a=[110,117,108,108])=false:=decide_eq_false p
     simp only[t,↓M2,M2,Mb,reduceIte]
     refine Q5g a (Nat.le_trans s (by decide)) (L1 e.sat fun R O g=>?_)
     have j:=c.trans g
     have n:=m.up g
     refine Vy ?_
     by_cases o:elem a=[]
     ·rw[if_neg (by simpa using o)] at h
      simp only[decide_eq_true o,↓M2,M2,Mb,reduceIte]
      exact X0E g.sat (u.lift ⟨j.le⟩) ok s n fun Q J r=>h _ _ (j.trans r)
     ·rw[if_pos o] at h
      simp only[decide_eq_false o,↓M2,M2,Mb,reduceIte]
      refine X7 g.sat n rfl ?_
      refine K6 ?_
      exact h _ _ j)
theorem X1V {c:Cla} {cs:List Value} (hs:X2 w σ) (ht:Tab σ v l) (hl:l.length≤100000) (hsm: ∀c∈l,Qj c) (hc:V0 σ c cs) (h: ∀w' σ',Stp w σ w' σ'→K (.bool (P3 l c)) w'):Q1 P F.bj [v, .agg cs.toArray] w K:=Pd (by
 obtain ⟨lv,fv,mv,rfl,g1,g2,g3,g4,g5⟩:=hc
 unfold Lt
 obtain ⟨a,_,_,_,rfl,_⟩:=ht.ex
 refine U5 hs rfl fun q w1 σ1 hk1 hq=>?_
 refine Z0 hk1.sat fun q2 w2 σ2 hk2 hq2=>?_
 rw[A9,fa]
 have hS2:=hk1.trans hk2
 have back: ∀{n:X0} {w3:World} {σ3:Q5} {K:Value→World→Prop},SLe σ2 σ3→X2 w3 σ3→n.length≤U0→(∀w' σ',Stp w3 σ3 w' σ'→K (.bool ((F0 l n).contains c.name)) w')→
  Z3 P (.func (.func F.b8) #[] #[.pointer (some q), .pointer (some q2)]) [S n] w3 K:=by
  intro n w3 σ3 K le hs3 hn hK
  refine Z6 (Bo ?_)
  unfold Vh
  refine X7 hs3 ((hq.up hk2).lift le) rfl ?_
  rw[A9]
  have le3:SLe σ σ3:=SLe.more ⟨hS2.le⟩ le
  refine Q70 (fun d=>decide (d.name=c.name)) hs3 (ht.lift le3) hl hsm hn (fun d ds w4 σ4 K le4 hs4 hr hK=>Z6 (Rf ?_)) (by rw[Q54];exact hK)
  obtain ⟨lv,fv,mv,rfl,_⟩:=hr
  unfold Uh
  have hq4:=(hq2.lift le).lift le4
  refine Z0 hs4 fun a w5 σ5 hk5 ha5=>?_
  (repeat' (first | (with_reducible intro _) | (with_reducible refine U6 ?_) | (simp only[↓M2,M2,Mb,reduceIte]) | (with_reducible first | refine ld aS aL aR ?_ | refine X7 aS aL aR ?_ | refine Y4 aS aL aR ?_ | refine Q8 aL ?_ | refine J4 aR ?_ | refine Z0 aS ?_ | refine N1 aS aL ?_ | refine U5 aS aR ?_ | refine Y9 aS aR aR (Rep.one (by assumption)) ?_ | refine U7 aS aR aR aR ?_ | (refine Z8 (fun hh=>?_) (fun hh=>?_)<;>(try simp only[hh,Bool.not_true,Bool.not_false,↓M2,M2,Mb,reduceIte])) | (refine Q7 (fun hh=>?_) (fun hh=>?_)<;>(try simp only[hh,Bool.not_true,Bool.not_false,↓M2,M2,Mb,reduceIte])))))
  exact hK _ _ hk5
 refine ld hk2.sat hq2 rfl ?_
 unfold P3 at h
 simp only[U3,List.any_cons] at h
 refine back (SLe.refl _) hk2.sat g5 fun w3 σ3 hk3=>?_
 cases e1:(F0 l c.super).contains c.name with
 | true=>
  rw[e1] at h
  simp only[↓M2,M2,Mb,reduceIte]
  exact h _ _ (hS2.trans hk3)
 | false=>
  rw[e1,Bool.false_or] at h
  simp only[↓M2,M2,Mb,reduceIte]
  refine ld hk3.sat (hq2.up hk3) rfl ?_
  refine K8 (fun n=>(F0 l n).contains c.name) hk3.sat (((g1.up hk1).up hk2).up hk3) (fun x w4 K _ hs4 hx hK=>back ⟨hk3.le⟩ hs4 hx fun w' σ' hk=>hK _ hk.bel) fun w4 hb=>?_
  (try simp only[↓M2,M2,Mb,reduceIte])
  exact h _ _ ((hS2.trans hk3).trans (Stp.of_below hk3.sat hb)))
end Go.Proofs.YtjdiakhipmggjaaGreatDoor

namespace Go.Emb
open Go.RowKit Go.Hm
variable {P : Program} {w w0 w1 w' w'' : World} {K : Value → World → Prop} {σ σ0 σ1 σ' : Q5}
theorem Sl.at {α:Type} {R:Q5→α→List Value→Prop} {sz:Nat} {v:Value} {xs:List α} (h:Sl sz R σ v xs) {i:Nat} (f:i<xs.length):
 ∃p cs,Z4 σ p cs∧cs.length=sz∧R σ xs[i] cs∧ ∀{P:Program} {t e:TypeId} {c:Nat} {z:Value} {w:World} {K:Value→World→Prop} [TS P t e] [TZ P e sz c z],K (.pointer (some p)) w→indexAddr P t v (I i) w K:=by
 obtain ⟨a,d,rfl,q,r,g,n⟩:=h
 cases a with
 | none=>have:=g rfl;omega
 | some b=>
  obtain ⟨cs,j,k,m⟩:=(n b rfl).2 i xs[i] (by simp[f])
  refine ⟨_,cs,j,k,m,?_⟩
  intro P t e c z w K _ _ o
  rw[Ro (by omega) (by omega)]
  simpa using o
abbrev ints (xs:List Nat):List Int:=xs.map fun n:Nat=>(n:Int)
theorem V5.grow {α:Type} {R:Q5→α→List Value→Prop} [hr:Rep R] {B sz:Nat} {e:TypeId} {v:Value} {xs:List α} (h:V5 B e sz R σ w v xs) (c:SLe σ σ') (a: ∀k,v.ownBlock=some k→σ' k=none):V5 B e sz R σ' w v xs:=by
 obtain ⟨cells,b,g,f⟩:=h
 exact ⟨cells,b,a,fun i x d=>hr.up c.le (f i x d)⟩
end Go.Emb
namespace Go.Proofs.YtjdiakhipmggjaaGreatDoor
open Go.Emb Go.RowKit Go.Kd Go.Hm
variable {w : World} {K : Value → World → Prop} {σ : Q5} {v : Value} {l : List Cla}
theorem Q6z {B i:Nat} {xs:List Nat} {x:Value} (m:J8 B T.e 1 Wl σ w x (ints xs)) (h:K (.bool (decide (i∈xs))) w):Q1 P F.aE [x,I i] w K:=Ee (by
 unfold Xw
 have k:xs.length≤9223372036854775807:=by
  obtain ⟨a,s,_,o,p,_⟩:=m
  simp only[maxLen,ints,List.length_map] at p o;omega
 refine Sp ?_
 unfold Jc
 refine Q1t m ?_
 have j:(ints xs).length=xs.length:=by simp
 refine U1 xs.length (fun n w'=>w'=w∧i∉xs.take n) ⟨rfl,by simp⟩ fun n w' d u g=>?_
 obtain ⟨rfl,g⟩:=g
 rw[j]
 refine Z2 ?_
 refine Q7 (fun hh=>?_) (fun hh=>?_)
 ·have b:n<xs.length:=by simpa using hh
  refine Q51 m (by rw[j];exact b) fun a cs o p r=>?_
  obtain ⟨rfl,_⟩:=r
  have q:=o 0 _ rfl
  rw[add_zero] at q
  refine A6 q ?_
  simp only[List.getElem_map]
  refine K9 ?_
  refine Q7 (fun c=>?_) (fun c=>?_)
  ·have e:(i:Int)=xs[n]:=by simpa using c
   have:i=xs[n]:=by omega
   have f:decide (i∈xs)=true:=decide_eq_true (by rw[this];exact List.getElem_mem b)
   rw[f] at h
   refine P0 ?_
   rw[decide_eq_true (by omega:(0:Int)≤n)]
   exact h
  ·have e: ¬(i:Int)=xs[n]:=by simpa using c
   refine L8 ?_
   refine Y6 k b ⟨rfl,?_⟩
   rw[List.take_add_one,List.getElem?_eq_getElem b]
   simp only[Option.toList_some,List.mem_append,List.mem_singleton,not_or]
   exact ⟨g,fun t=>e (by rw[t])⟩
 ·have b: ¬n<xs.length:=by simpa using hh
  rw[List.take_of_length_le (by omega)] at g
  rw[decide_eq_false g] at h
  refine P0 ?_
  exact h)
theorem X2I {w0:World} {σ0 σb:Q5} {pf pt pw:Addr} {C frm:Nat} (ha:Zy l) (ho:T1 l) (hl:l.length≤100000) (bv: ∀c∈l,Qj c) (hf:0<frm) (ht:Tab σb v l) (a4:Z4 σb pf [I frm]) (bw:Z4 σb pt [v])
 (b7:Z4 σb pw [.func (.func F.z) #[] #[.pointer (some pf), .pointer (some ⟨C,0,none⟩), .pointer (some pt), .pointer (some pw)]]) (bl:w0.heap.size≤C):
 ∀(k:Nat) {i:Nat} {b:List Nat} {x:Value} {w1:World} {σ1:Q5} {K:Value→World→Prop},i<l.length→(i<frm∨K3 l (Y2 l i)<k)→SLe σb σ1→Stp w0 σ0 w1 σ1→Y1 σ1 w1 C [x]→V5 w0.heap.size T.e 1 Wl σ1 w1 x (ints b)→x.ownBlock≠some C→Few l b→
  (∀w2 σ2 x',SLe σ1 σ2→Stp w0 σ0 w2 σ2→Y1 σ2 w2 C [x']→V5 w0.heap.size T.e 1 Wl σ2 w2 x' (ints (Xh l frm b i))→x'.ownBlock≠some C→K (.tuple #[]) w2)→
  Z3 P (.func (.func F.z) #[] #[.pointer (some pf), .pointer (some ⟨C,0,none⟩), .pointer (some pt), .pointer (some pw)]) [I i] w1 K:=by
 obtain ⟨a,lv,r,m,rfl,t1,t2,t3,t4⟩:=ht.ex
 intro k
 induction k with
 | zero=>
  intro i b x w1 σ1 K hi hk O U hm o hx ab h
  have A:i<frm:=hk.resolve_right (by omega)
  refine Z6 (Vr ?_)
  unfold Qn
  refine X7 U.sat (a4.lift O) rfl ?_
  refine Z2 ?_
  rw[decide_eq_true (by omega:(i:Int)<frm)]
  simp only[↓M2,M2,Mb,reduceIte]
  have:Xh l frm b i=b:=Ym _ _ A
  rw[this] at h
  exact h _ _ _ (SLe.refl _) U hm o hx
 | succ k ih=>
  intro i b x w1 σ1 K hi hk O U hm o hx ab h
  refine Z6 (Vr ?_)
  unfold Qn
  refine X7 U.sat (a4.lift O) rfl ?_
  refine Z2 ?_
  have z:=Q7b ha ho hf b hi
  by_cases A:i<frm
  ·rw[decide_eq_true (by omega:(i:Int)<frm)]
   simp only[↓M2,M2,Mb,reduceIte]
   rw[if_pos A] at z
   rw[z] at h
   exact h _ _ _ (SLe.refl _) U hm o hx
  rw[if_neg A] at z
  rw[decide_eq_false (by omega: ¬(i:Int)<frm)]
  simp only[↓M2,M2,Mb,reduceIte]
  refine Q7N hm rfl ?_
  refine Q6z (J8.of_acc o) ?_
  by_cases V:i∈b
  ·rw[if_pos V] at z
   rw[z] at h
   simp only[decide_eq_true V,↓M2,M2,Mb,reduceIte]
   exact h _ _ _ (SLe.refl _) U hm o hx
  rw[if_neg V] at z
  simp only[decide_eq_false V,↓M2,M2,Mb,reduceIte]
  have c1:K3 l (Y2 l i)<k+1:=hk.resolve_left A
  have t1:=t1.lift O
  have t2:=t2.lift O
  have t3:=t3.lift O
  have J:=bw.lift O
  obtain ⟨p,cs,a6,db,cb,a7⟩:=t2.at hi
  obtain ⟨b0,fv,mv,rfl,f1,f2,f3,f4,f5⟩:=cb
  have ar:l.getD i Cla.zero=l[i]:=by rw[List.getD_eq_getElem?_getD,List.getElem?_eq_getElem hi];rfl
  have ci:=hm.lt
  refine U2 U.sat ?_
  refine X4 (.pointer (some a)) (fun w f=>X7 f.sat J rfl (X6 rfl)) ?_
  refine X4 (.pointer (some a)) (fun t w f e=>by rw[e,M3];exact X6 rfl) ?_
  refine X4 (.pointer (some (a.add 0))) (fun t w f e=>by rw[e,fa];exact X6 rfl) ?_
  refine X4 lv (fun t w f e=>by rw[e];exact ld f.sat t1 rfl (X6 rfl)) ?_
  refine X4 (.pointer (some p)) (fun t w f e=>by rw[e];exact a7 (X6 rfl)) ?_
  refine X4 (.pointer (some (p.add 1))) (fun t w f e=>by rw[e,fa];exact X6 rfl) ?_
  refine X4 (S l[i].super) (fun t w f e=>by rw[e];exact ld f.sat a6 rfl (X6 rfl)) ?_
  refine E7 (fun u w=>X2 w σ1∧V5 w0.heap.size T.c 1 U9 σ1 w u [l[i].super]∧ ∀k,u.ownBlock=some k→w1.heap.size≤k) (fun u w2 w3 h f=>⟨h.1.below f,h.2.1.up (Stp.of_below h.1 f),h.2.2⟩) (fun t w f e=>?_) ?_
  ·rw[e]
   refine Yu (R:=U9) (sz:=1) (xs:=[l[i].super]) (U.trans f.stp) [S l[i].super] rfl rfl (by simp;rfl) rfl ⟨⟨rfl,f5⟩,trivial⟩ fun u w2 aw hu bk=>?_
   exact ⟨aw.bel,aw.sat,hu,fun k hk=>Nat.le_trans f.stp.bel.size (bk k hk)⟩
  refine X4 (.pointer (some a)) (fun w f=>X7 f.sat J rfl (X6 rfl)) ?_
  refine X4 (.pointer (some a)) (fun t w f e=>by rw[e,M3];exact X6 rfl) ?_
  refine X4 (.pointer (some (a.add 0))) (fun t w f e=>by rw[e,fa];exact X6 rfl) ?_
  refine X4 lv (fun t w f e=>by rw[e];exact ld f.sat t1 rfl (X6 rfl)) ?_
  refine X4 (.pointer (some p)) (fun t w f e=>by rw[e];exact a7 (X6 rfl)) ?_
  refine X4 (.pointer (some (p.add 2))) (fun t w f e=>by rw[e,fa];exact X6 rfl) ?_
  refine X4 b0 (fun t w f e=>by rw[e];exact ld f.sat a6 rfl (X6 rfl)) ?_
  rintro dl ck di dm dh cm c7 da c5 cj c3 dn c9 cw cr w2 X _ _ _ _ _ _ _ ⟨dg,bj,N⟩ _ _ _ _ _ _ bs
  subst bs
  have bx:=U.trans X.stp
  have b6:=(bv _ (List.getElem_mem hi)).1
  have a1: ∀j,x.ownBlock=some j→j<w1.heap.size:=fun j E=>(o.mem j E).2.1
  have b5:=hm.step X.stp
  have aj:=o.step X.stp
  refine Vw bx bj f1 rfl (by simp only[List.length_cons,List.length_nil];omega) (by simp only[List.length_cons,List.length_nil];omega) fun bb w3 a5 bm bu ay=>?_
  have Z: ∀j,bb.ownBlock=some j→w1.heap.size≤j:=fun j E=>by
   rcases ay with e | e
   ·exact N j (e▸E)
   ·exact Nat.le_trans X.stp.bel.size (e j E)
  have a9:=b5.nx a5 fun e=>by have:=N _ e;omega
  have L:=aj.nx a5 fun j E e=>by have:=N _ e;have:=a1 j E;omega
  obtain ⟨σ4,ca,Y,bc,aa⟩:=bu.keep bm
  have Y:Sl 1 U9 σ4 bb (U3 l[i]):=Y
  have b1:Y1 σ4 w3 C [x]:=⟨(aa C fun e=>by have:=Z C e.symm;omega).trans a9.1,a9.2⟩
  have ai:V5 w0.heap.size T.e 1 Wl σ4 w3 x (ints b):=L.grow ⟨bc⟩ fun j E=>(aa j fun e=>by have:=Z j e.symm;have:=a1 j E;omega).trans (L.mem j E).2.2
  have aq:SLe σ1 σ4:=⟨bc⟩
  refine Q8 Y ?_
  refine U1 (U3 l[i]).length (fun n w'=> ∃σ' x',SLe σ4 σ'∧Stp w0 σ0 w' σ'∧Y1 σ' w' C [x']∧V5 w0.heap.size T.e 1 Wl σ' w' x' (ints (((U3 l[i]).take n).foldl (fun b u=>Xh l frm b ((Z1 l u).getD 0)) b))∧x'.ownBlock≠some C∧Few l (((U3 l[i]).take n).foldl (fun b u=>Xh l frm b ((Z1 l u).getD 0)) b))
   ⟨σ4,x,SLe.refl _,ca,b1,ai,hx,ab⟩ fun n w5 d hn a8=>?_
  obtain ⟨σ5,x5,ae,Q,W,B,al,s⟩:=a8
  refine Z2 ?_
  have y:=aq.more ae
  refine Q7 (fun hh=>?_) (fun hh=>?_)
  ·have H:n<(U3 l[i]).length:=by simpa using hh
   refine Q5a (Y.lift ae) H fun q hq co=>?_
   refine X7 Q.sat hq rfl ?_
   have e1:((U3 l[i]).take (n+1)).foldl (fun b u=>Xh l frm b ((Z1 l u).getD 0)) b=Xh l frm (((U3 l[i]).take n).foldl (fun b u=>Xh l frm b ((Z1 l u).getD 0)) b) ((Z1 l (U3 l[i])[n]).getD 0):=by
    rw[List.take_add_one,List.getElem?_eq_getElem H,List.foldl_append];rfl
   refine U2 Q.sat ?_
   refine X4 _ (fun w f=>X7 f.sat (b7.lift (O.more y)) rfl (X6 rfl)) ?_
   refine X4 (.pointer (some a)) (fun w f=>X7 f.sat (J.lift y) rfl (X6 rfl)) ?_
   refine X4 (.pointer (some a)) (fun t w f e=>by rw[e,M3];exact X6 rfl) ?_
   refine X4 (.pointer (some (a.add 1))) (fun t w f e=>by rw[e,fa];exact X6 rfl) ?_
   refine X4 (.map (some r)) (fun t w f e=>by rw[e];exact ld f.sat (t1.lift y) rfl (X6 rfl)) ?_
   refine X4 (I ((Z1 l (U3 l[i])[n]).getD 0:Nat)) (fun t w f e=>by
    rw[e,Q4q X8 ((t3.lift y).is f.sat) _,t4]
    cases Z1 l (U3 l[i])[n]<;>exact X6 rfl) ?_
   rintro cq c4 cx c6 df dd w6 af rfl _ _ _ _ rfl
   have cv:l.length≤9223372036854775807:=by omega
   refine ih ?_ ?_ (O.more y) (Q.trans af.stp) (W.step af.stp) (B.step af.stp) al s fun w7 σ7 x7 cd b9 bn ah bz=>?_
   ·cases E:Z1 l (U3 l[i])[n] with
    | none=>simp only[Option.getD_none];omega
    | some j=>exact (R7 E).1
   ·cases E:Z1 l (U3 l[i])[n] with
    | none=>exact .inl hf
    | some j=>
     right
     have:=Q1m ha ho hi (u:=(U3 l[i])[n]) (by rw[ar];exact List.getElem_mem H) E
     simp only[Option.getD_some];omega
   ·refine L8 ?_
    refine Y6 (by have:(U3 l[i]).length=l[i].like.length+1:=rfl;omega) H ⟨σ7,x7,ae.more cd,b9,bn,?_,bz,?_⟩
    ·rw[e1];exact ah
    ·rw[e1]
     cases E:Z1 l (U3 l[i])[n] with
     | none=>simp only[Option.getD_none];rw[show Xh l frm _ 0=_ from Ym _ _ hf];exact s
     | some j=>exact Gy ha ho hf _ _ _ (R7 E).1 s
  ·have H: ¬n<(U3 l[i]).length:=by simpa using hh
   rw[List.take_of_length_le (by omega)] at B s
   rw[ar] at z
   refine Q7N W rfl ?_
   have c0:=s.len
   refine Jm (x:=(i:Int)) Q B ⟨rfl,by omega,by omega⟩ rfl rfl rfl (by rw[List.length_map];omega) (by rw[List.length_map];omega) fun u x8 w8 σ8 ax br M bd=>?_
   have ba:=W.nx ax al
   have az:x8.ownBlock≠some C:=fun e=>by
    rcases bd with e2 | e2
    ·exact al (e2▸e)
    ·have:=e2 C e;have:=W.lt;omega
   have a2:x8.cells= #[x8]∧x8.oneCell'=true:=by
    obtain ⟨cells,h1,_⟩:=M
    rcases h1.2 with ⟨rfl,_⟩ | ⟨g,de,ct,rfl,_⟩<;>exact ⟨rfl,rfl⟩
   refine st0 ba (by simp) a2.1 a2.2 fun w9 a0 bi=>?_
   have b3:=a0.stp br bl ba.1
   have am:V5 w0.heap.size T.e 1 Wl σ8 w9 x8 (ints (Xh l frm b i)):=by
    rw[z]
    have:=M.kp (Kpt.of_upd (D:=fun k=>k=C) a0 rfl) fun k hk e=>az (e▸hk)
    simpa [ints] using this
   exact h w9 σ8 x8 (y.more ax.le) b3 bi am az
theorem X21 {frm:Nat} (hs:X2 w σ) (ht:Tab σ v l) (ha:Zy l) (ho:T1 l) (hl:l.length≤100000) (aj: ∀c∈l,Qj c) (hf:0<frm) (an:frm≤l.length) (h: ∀v' w' σ',Stp w σ w' σ'→Sl 1 Wl σ' v' (ints (V7 l frm))→(V7 l frm).length≤l.length→(∀y∈V7 l frm,y<l.length)→K v' w'):Q1 P F.bk [v,I frm] w K:=Is (by
 unfold Mf
 have ac:=ht
 obtain ⟨a,lv,r,m,rfl,Z,t2,t3,t4⟩:=ht.ex
 refine U5 hs rfl fun pt w1 σ1 s ak=>?_
 refine U5 s.sat rfl fun pf w2 σ2 k aq=>?_
 refine M8 k.sat fun E w3 σ3 ad p N=>?_
 refine M8 p.sat fun bw w4 σ4 Y q V=>?_
 rw[A9]
 have O:=N.step q
 have aw:=N.lt
 have U:=((s.trans k).trans p).trans q
 have R:w.heap.size≤E:=M7 ad (s.trans k)
 have u:w.heap.size≤bw:=M7 Y ((s.trans k).trans p)
 refine st0 V (by simp[Value.cells]) rfl rfl fun w5 J X=>?_
 have ag:=J.stp U u V.1
 have B:=O.upd J (by omega)
 obtain ⟨H,W,Q,j,L⟩:=X.keep ag u
 have ab:Y1 H w5 E [.slice none 0 0]:=⟨(L E (by omega)).trans B.1,B.2⟩
 have j:SLe σ4 H:=⟨j⟩
 have z:=((aq.up p).up q).lift j
 have A:=(((ak.up k).up p).up q).lift j
 have e:SLe σ H:=SLe.more ⟨U.le⟩ j
 have Z:=Z.lift e
 have t2:=t2.lift e
 refine X7 W.sat z rfl ?_
 have a8:(List.range l.length).length=l.length:=List.length_range
 have hz:([Value.nilFunc].set 0 (Value.func (Fn.func F.z) #[] #[.pointer (some pf), .pointer (some ⟨E,0,none⟩), .pointer (some pt), .pointer (some ⟨bw,0,none⟩)]))=[Value.func (Fn.func F.z) #[] #[.pointer (some pf), .pointer (some ⟨E,0,none⟩), .pointer (some pt), .pointer (some ⟨bw,0,none⟩)]]:=rfl
 refine Kp (fun d x w'=> ∃(i:Nat) (σ':Q5) (x':Value),x=I i∧frm≤i∧i≤l.length∧d=l.length-i∧SLe H σ'∧Stp w σ w' σ'∧Y1 σ' w' E [x']∧V5 w.heap.size T.e 1 Wl σ' w' x' (ints (((List.range i).drop frm).foldl (fun f i=>Xh l frm f i) []))∧x'.ownBlock≠some E∧Few l (((List.range i).drop frm).foldl (fun f i=>Xh l frm f i) [])) _
  ⟨frm,H, .slice none 0 0,rfl,Nat.le_refl _,an,rfl,SLe.refl _,W,ab,by rw[List.drop_eq_nil_of_le (by simp)];exact V5.nil,by simp[Value.ownBlock],by rw[List.drop_eq_nil_of_le (by simp)];exact ⟨by simp,by simp⟩⟩ ?_
 rintro ah d x dd w7 ⟨i,σ7,x7,rfl,a7,a6,rfl,g,n,M,o,al,b⟩ am
 refine X7 n.sat (A.lift g) rfl ?_
 rw[M3,fa]
 refine ld n.sat (Z.lift g) rfl ?_
 refine Q8 (t2.lift g) ?_
 refine Z2 ?_
 refine Q7 (fun hh=>?_) (fun hh=>?_)
 ·have t:i<l.length:=by simpa using hh
  refine X7 n.sat (Q.lift g) rfl ?_
  refine X2I (w0:=w) (σ0:=σ) (σb:=H) ha ho hl aj hf (ac.lift e) z A Q R (K3 l (Y2 l i)+1) t (.inr (Nat.lt_succ_self _)) g n M o al b fun w8 σ8 x8 ap D ai C ae=>?_
  refine Xg ⟨by omega,by omega⟩ ?_
  have e1:((List.range (i+1)).drop frm).foldl (fun f i=>Xh l frm f i) []=Xh l frm (((List.range i).drop frm).foldl (fun f i=>Xh l frm f i) []) i:=by
   rw[List.range_succ,List.drop_append_of_le_length (by simp;omega),List.foldl_append];rfl
  refine am _ _ _ (by omega:l.length-(i+1)<l.length-i) ⟨i+1,σ8,x8,by simp,by omega,by omega,rfl,g.more ap,D,ai,?_,ae,?_⟩
  ·rw[e1];exact C
  ·rw[e1];exact Gy ha ho hf _ _ _ t b
 ·have t:i=l.length:=by
   have: ¬i<l.length:=by simpa using hh
   omega
  subst t
  refine Q7N M rfl ?_
  obtain ⟨σ8,D,aa,_,_⟩:=o.keep n
  exact h _ _ _ D aa b.len b.2)
end Go.Proofs.YtjdiakhipmggjaaGreatDoor

namespace Go.Hm
open Go.Kd
theorem Q6f (x:X0) (r:List X0):H8 (x::r)=x++Lib.joinTail [44] r:=by
 induction r generalizing x with
 | nil=>simp[H8,Lib.joinTail]
 | cons y r a=>
  simp only[H8]
  rw[a y]
  simp[Lib.joinTail]
theorem Q1Y (xs:List X0):Lib.join xs [44]=H8 xs:=by
 cases xs with
 | nil=>rfl
 | cons x r=>rw[Lib.join_cons,Q6f]
theorem Hu: ∀xs:List X0,(∀x∈xs,x.length≤100)→(H8 xs).length≤xs.length*101
 | [],_=>by simp[H8]
 | [a],h=>by have:=h a (by simp);simp[H8];omega
 | a::b::r,h=>by
  have d:=h a (by simp)
  have e:=Hu (b::r) fun x c=>h x (by simp[c])
  simp only[H8,List.length_append,List.length_cons,List.length_nil,Nat.add_mul] at*
  omega
def NmM (m:Hm.Met):Prop:=m.result.length≤100∧ ∀p∈m.params,p.length≤100
end Go.Hm
namespace Go.Proofs.YtjdiakhipmggjaaGreatDoor
open Go.Emb Go.RowKit Go.Kd Go.Hm
variable {w : World} {K : Value → World → Prop} {σ : Q5} {v : Value} {l : List Cla}
theorem X22 {xs:List X0} {pv:Value} (E:X2 w σ) (L:Sl 1 U9 σ pv xs) (N:xs.length≤1000000) (H: ∀x∈xs,x.length≤100) (h: ∀w',Below w.heap.size w w'→K (S (H8 xs)) w'):Q1 P F.cN [pv,S [44]] w K:=by
 obtain ⟨a,k,rfl,A,O,B,J⟩:=L
 have t:=Hu xs H
 have u:xs.length*101≤1000000*101:=Nat.mul_le_mul_right _ N
 cases a with
 | none=>
  have U:=B rfl
  have d:xs=[]:=List.eq_nil_of_length_eq_zero (by omega)
  subst d
  refine Wo (fn:=Tryz.f143) Tryz.func143 (by kernel_rfl) (by kernel_rfl) (Calls.mono (Tryz.strings_Join_none none k ⟨[44].toArray⟩ w) ?_)
  rintro e w' ⟨rfl,rfl⟩
  exact h _ (Below.refl _ _)
 | some b=>
  obtain ⟨f,p⟩:=J b rfl
  by_cases d:xs=[]
  ·subst d
   refine Wo (fn:=Tryz.f143) Tryz.func143 (by kernel_rfl) (by kernel_rfl) (Calls.mono (Tryz.strings_Join_none (some b) k ⟨[44].toArray⟩ w) ?_)
   rintro e w' ⟨rfl,rfl⟩
   exact h _ (Below.refl _ _)
  have f:=f (List.length_pos_iff.2 d)
  obtain ⟨m,o,R⟩:=b
  simp only at f
  subst f
  have c: ∀(j:Nat) (x:ByteArray),(xs.map fun s=>(⟨s.toArray⟩:ByteArray))[j]? =some x→w.cell? ⟨m,o+j,none⟩=some (.string x):=by
   intro j x n
   rw[List.getElem?_map] at n
   cases g:xs[j]? with
   | none=>rw[g] at n;cases n
   | some s=>
    rw[g] at n
    cases n
    obtain ⟨cs,C,Q,D⟩:=p j s g
    obtain ⟨rfl,_⟩:=D
    have:=C.cell E (i:=0) (v:=S s) rfl
    rw[add_zero] at this
    have e:(⟨m,o,none⟩:Addr).add (j*1)=⟨m,o+j,none⟩:=by unfold Addr.add;split<;>simp_all
    rw[e] at this;exact this
  have q:m<w.heap.size:=by
   obtain ⟨x,r,rfl⟩: ∃x r,xs=x::r:=by cases xs with | nil=>exact absurd rfl d | cons x r=>exact ⟨x,r,rfl⟩
   have:=c 0 ⟨x.toArray⟩ (by simp)
   exact World.block_lt_of_cell? _ _ this
  have z:(xs.map fun s=>(⟨s.toArray⟩:ByteArray)).map (·.data.toList)=xs:=by rw[List.map_map];simp[Function.comp_def]
  have y:=Tryz.strings_Join m o k (xs.map fun s=>(⟨s.toArray⟩:ByteArray)) ⟨[44].toArray⟩ w c q (by rw[List.length_map];omega) (by rw[List.length_map];exact A) (by rw[z];show (Lib.join xs [44]).length≤_;rw[Q1Y];omega)
  rw[z,List.length_map] at y
  refine Wo (fn:=Tryz.f143) Tryz.func143 (by kernel_rfl) (by kernel_rfl) (Calls.mono y ?_)
  rintro e w' ⟨rfl,M⟩
  have:=h w' M
  rw[←Q1Y] at this
  exact this
theorem Q8P {m:Hm.Met} {cs:List Value} (o:X2 w σ) (q:E5 σ m cs) (d:SmM m) (f:NmM m) (h: ∀w' r,Stp w σ w' r→K (S (Qp m)) w'):Q1 P F.ce [.agg cs.toArray] w K:=Q5z (by
 obtain ⟨pv,L,J,rfl,n,z,C,A,N,O⟩:=q
 unfold Q0K
 refine Z0 o fun a w1 σ1 c j=>?_
 have p:=Hu m.params f.2
 have k:m.params.length*101≤1000000*101:=Nat.mul_le_mul_right _ d.1
 refine U2 c.sat ?_
 refine X4 (.pointer (some (a.add 1))) (fun w b=>by rw[fa];exact X6 rfl) ?_
 refine X4 (.pointer (some (a.add 2))) (fun w b=>by rw[fa];exact X6 rfl) ?_
 refine X4 pv (fun t w b e=>by rw[e];exact ld b.sat j rfl (X6 rfl)) ?_
 refine X4 (S (H8 m.params)) (fun t w b e=>by rw[e];exact X22 b.sat (n.up c) d.1 f.2 fun w' i=>Q3e i rfl) ?_
 refine X4 (S ([40]++H8 m.params)) (fun t w b e=>by rw[e];exact Hy (by simp only[List.length_cons,List.length_nil];omega) (X6 rfl)) ?_
 refine X4 (S ([40]++H8 m.params++[41])) (fun t w b e=>by rw[e];exact Hy (by simp only[List.length_append,List.length_cons,List.length_nil];omega) (X6 rfl)) ?_
 refine X4 (S m.result) (fun t w b e=>by rw[e];exact ld b.sat j rfl (X6 rfl)) ?_
 rintro M D E H y u B s g _ _ _ _ _ rfl rfl
 have:=f.1
 refine Hy (by simp only[List.length_append,List.length_cons,List.length_nil];omega) ?_
 exact h _ _ (c.trans g.stp))
end Go.Proofs.YtjdiakhipmggjaaGreatDoor

namespace Go.Emb
open Go.RowKit Go.Hm
variable {P : Program} {w w0 w1 w' w'' : World} {K : Value → World → Prop} {σ σ0 σ1 σ' : Q5}
theorem Pg {α:Type} (f:α→α) (e:α): ∀l:List α,(l++[e]).modify l.length f=l++[f e]
 | []=>rfl
 | x::r=>by simp[Pg f e r]
theorem Q0W (k:List UInt8) (e:MapEntry) (b:e.key=S k): ∀(a:List MapEntry) (i:Nat),Instr.findNow .string (S k) a i=some none→Instr.findNow .string (S k) (a++[e]) i=some (some (i+a.length,e.val))
 | [],i,_=>by
  simp[Instr.findNow,b,Instr.sameNow,Eb]
 | x::r,i,h=>by
  simp only[Instr.findNow,List.cons_append] at h⊢
  split at h
  ·cases h
  ·rename_i c
   rw[Q0W k e b r (i+1) h]
   simp;omega
  ·cases h
theorem Q2b (k:List UInt8) (u:Value): ∀(b:List MapEntry) (i j:Nat) (v:Value),Instr.findNow .string (S k) b i=some (some (j,v))→i≤j∧j-i<b.length∧Instr.findNow .string (S k) (b.modify (j-i) fun e=>{e with val:=u}) i=some (some (j,u))
 | [],i,j,v,h=>by simp[Instr.findNow] at h
 | x::r,i,j,v,h=>by
  simp only[Instr.findNow] at h
  split at h
  ·rename_i a
   cases h
   refine ⟨Nat.le_refl _,by simp,?_⟩
   simp only[Nat.sub_self,List.modify_zero_cons,Instr.findNow,a]
  ·rename_i a
   obtain ⟨d,f,c⟩:=Q2b k u r (i+1) j v h
   refine ⟨by omega,by simp;omega,?_⟩
   rw[show j-i=(j-(i+1))+1 by omega]
   simp only[List.modify_succ_cons,Instr.findNow,a]
   exact c
  ·cases h
theorem Uz {t m s:TypeId} [tm:TM P t m s] (p:P.underlying m=some .string) {r:Nat} {b:Array MapEntry} {a:Nat} {k:List UInt8} {i:Nat} {v:Value} {e:MapEntry} (o:w.heap[r]? =some (.map b a))
 (u:Instr.findNow .string (S k) b.toList 0=some (some (i,v))) (n:b[i]? =some e) (l:e.key=S k):
 (Instr.mapEntry t (.map (some r)) (S k)).run P w= .ok (.tuple #[v,goInt e.born]) {w with heap:=w.heap.setIfInBounds r (.map b a)}:=by
 have q:(getObj r).run P w= .ok (.map b a) w:=by simp[getObj,Sem.run,o]
 have c:(Instr.keyThatStays (S k) (S k)).run P w= .ok (S k) w:=by
  simp[Instr.keyThatStays,Instr.sameBits,Eb]
 have d:(b.modify i fun e=>{e with key:=S k})=b:=by
  apply Array.ext'
  apply List.ext_getElem?
  intro j
  simp only[Array.toList_modify,List.getElem?_modify]
  by_cases g:i=j
  ·subst g
   rw[Array.getElem?_toList,n]
   simp[←l]
  ·cases b.toList[j]? <;>simp[g]
 have f:(setObj r (.map b a)).run P w= .ok () {w with heap:=w.heap.setIfInBounds r (.map b a)}:=by
  simp[setObj,Sem.run,o]
 simp only[Instr.mapEntry,Sem.run_bind,run_underlying tm.h,Result.andThen_ok,Instr.findKey,run_underlying p,u,G8 p,q,Sem.run_pure]
 simp only[n,Option.map_some,Option.getD_some,l,c,Result.andThen_ok,d,f]
theorem Q2k {r:Nat} {o:Obj} (h:w.heap[r]? =some o):({w with heap:=w.heap.setIfInBounds r o}:World)=w:=by
 have:w.heap.setIfInBounds r o=w.heap:=by
  apply Array.ext'
  apply List.ext_getElem?
  intro j
  simp only[Array.toList_setIfInBounds,List.getElem?_set]
  by_cases a:r=j
  ·subst a
   rw[if_pos rfl]
   have:=h
   rw[←Array.getElem?_toList] at this
   rw[this,if_pos (by have:=(Array.getElem?_eq_some_iff.1 h).1;simpa using this)]
  ·rw[if_neg a]
 rw[this]
theorem Q3J {r:Nat} {o b:Obj} (h:w.heap[r]? =some b):Upd w r {w with heap:=w.heap.setIfInBounds r o}∧({w with heap:=w.heap.setIfInBounds r o}:World).heap[r]? =some o:=by
 have a:=(Array.getElem?_eq_some_iff.1 h).1
 exact ⟨⟨rfl,rfl,rfl,by simp,fun k c=>by simp only[Array.getElem?_setIfInBounds];rw[if_neg (by omega)]⟩,by simp[Array.getElem?_setIfInBounds,a]⟩
structure Ent3 (P : Program) (t : TypeId) (r : Nat) (k : List UInt8) (u : Value) (m : List (List UInt8 × Value)) (O0 O1 O2 : Obj) (stamp : Nat) : Prop where
  same : O0 = O2 → O1 = O0
  put : H0 (some O2) (Wn m k u)
  entry : ∀ {w : World} {K : Value → World → Prop}, (w.heap[r]? = some O0 ∨ w.heap[r]? = some O1 ∨ w.heap[r]? = some O2) → (∀ x w', Upd w r w' → (w.heap[r]? = some O0 → w'.heap[r]? = some O1) → (w.heap[r]? ≠ some O0 → w'.heap[r]? = w.heap[r]?) → K (.tuple #[x, I stamp]) w') → mapEntry P t (.map (some r)) (S k) w K
  store : ∀ {w : World} {K : Value → World → Prop}, (w.heap[r]? = some O1 ∨ w.heap[r]? = some O2) → (∀ w', Upd w r w' → w'.heap[r]? = some O2 → K undef w') → entryStore P t (.map (some r)) (I stamp) u w K
theorem X3Q {t kt et:TypeId} {aj:Nat} {z:Value} [tm:TM P t kt et] [tz:TZ P et 1 aj z] (O:P.underlying kt=some .string) {r:Nat} {m:List (List UInt8×Value)} (hm:H0 (w.heap[r]?) m) (k:List UInt8) (u:Value):
 ∃X O1 O2 A,w.heap[r]? =some X∧Ent3 P t r k u m X O1 O2 A:=by
 obtain ⟨q,g,h1,h2,Y,h4⟩:=hm
 obtain ⟨r',q1,q2,q3,q4⟩:=Ba k q.toList m 0 h2
 -- the array behind it, the place, the stamp
 have V: ∀(f:Array MapEntry) (d i:Nat) (s:MapEntry) (v1:Value),Instr.findNow .string (S k) f.toList 0=some (some (i,v1))→f[i]? =some s→s.key=S k→(f.toList.map (·.born)).Pairwise (· < ·)→
  (Obj.map q g= .map (f.modify i fun e=>{e with val:=u}) d→Obj.map f d=Obj.map q g)→H0 (some (.map (f.modify i fun e=>{e with val:=u}) d)) (Wn m k u)→
  (∀{w:World},w.heap[r]? =some (.map q g)→ ∃x,(Instr.mapEntry t (.map (some r)) (S k)).run P w= .ok (.tuple #[x,I s.born]) {w with heap:=w.heap.setIfInBounds r (.map f d)})→
  ∃X O1 O2 A,w.heap[r]? =some X∧Ent3 P t r k u m X O1 O2 A:=by
  intro f d i s v1 f1 f2 f3 f4 f5 f6 f7
  obtain ⟨_,H,f8⟩:=Q2b k u f.toList 0 i v1 f1
  simp only[Nat.sub_zero] at H f8
  have az:i<f.size:=by simpa using H
  have f9:(f.modify i fun e=>{e with val:=u})[i]? =some {s with val:=u}:=by
   rw[Array.getElem?_modify,if_pos rfl,f2];rfl
  have af:Instr.findNow .string (S k) (f.modify i fun e=>{e with val:=u}).toList 0=some (some (i,u)):=by
   rw[Array.toList_modify];exact f8
  have M: ∀(l:Array MapEntry),l.toList.map (·.born)=f.toList.map (·.born)→l.findIdx? (fun e=>(e.born:Int)==s.born)=some i:=by
   intro l D
   obtain ⟨le⟩:=l
   have e0:(Array.mk le).findIdx? (fun e=>(e.born:Int)==s.born)=le.findIdx? (fun e=>(e.born:Int)==s.born):=List.findIdx?_toArray ..
   rw[e0,List.findIdx?_eq_some_iff_getElem]
   generalize Q:(Array.mk le)=l at*
   have ak:le=l.toList:=by rw[←Q]
   subst ak
   have ay:l.toList.length=f.toList.length:=by have:=congrArg List.length D;simpa using this
   have U: ∀j (hj:j<l.toList.length),(l.toList[j]).born=(f.toList[j]'(by omega)).born:=fun j hj=>by
    have h5:(l.toList.map (·.born))[j]? =(f.toList.map (·.born))[j]? :=by rw[D]
    rw[List.getElem?_map,List.getElem?_map,List.getElem?_eq_getElem hj,List.getElem?_eq_getElem (by omega)] at h5
    simpa using h5
   have W:f.toList[i]=s:=by
    have:=f2
    rw[←Array.getElem?_toList,List.getElem?_eq_getElem H] at this
    simpa using this
   refine ⟨by omega,by rw[U i (by omega),W];simp,fun j hj=>?_⟩
   have ao:j<f.toList.length:=by omega
   have:=(List.pairwise_iff_getElem.1 f4) j i (by simpa using ao) (by simpa using H) hj
   simp only[List.getElem_map] at this
   rw[U j (by omega)]
   rw[W] at this
   simp only[beq_iff_eq];omega
  have J:(f.modify i fun e=>{e with val:=u}).toList.map (·.born)=f.toList.map (·.born):=by
   apply List.ext_getElem?
   intro j
   simp only[Array.toList_modify,List.getElem?_map,List.getElem?_modify]
   by_cases L:i=j<;>cases f.toList[j]? <;>simp[L]
  have ap:(f.modify i fun e=>{e with val:=u}).modify i (fun e=>{e with val:=u})=f.modify i fun e=>{e with val:=u}:=by
   apply Array.ext'
   apply List.ext_getElem?
   intro j
   simp only[Array.toList_modify,List.getElem?_modify]
   by_cases L:i=j<;>cases f.toList[j]? <;>simp[L]
  have B: ∀(l:Array MapEntry) {w:World},l.toList.map (·.born)=f.toList.map (·.born)→w.heap[r]? =some (.map l d)→(Instr.entryStore t (.map (some r)) (I s.born) u).run P w= .ok () {w with heap:=w.heap.setIfInBounds r (.map (l.modify i fun e=>{e with val:=u}) d)}:=by
   intro l w D hw
   have hg:(getObj r).run P w= .ok (.map l d) w:=by simp[getObj,Sem.run,hw]
   have E: ∀o,(setObj r (.map o d)).run P w= .ok () {w with heap:=w.heap.setIfInBounds r (.map o d)}:=by
    intro o;simp[setObj,Sem.run,hw]
   simp only[Instr.entryStore,Sem.run_bind,hg,Result.andThen_ok,asInt,Sem.run_pure,asIntOf,M l D,E]
  refine ⟨.map q g, .map f d, .map (f.modify i fun e=>{e with val:=u}) d,s.born,h1,f5,f6,?_,?_⟩
  ·intro w K hw N
   unfold mapEntry
   rcases hw with hw | hw | hw
   ·obtain ⟨x,hx⟩:=f7 hw
    rw[X9 hx]
    obtain ⟨u1,u2⟩:=Q3J (o:= .map f d) hw
    exact N x _ u1 (fun _=>u2) fun h=>absurd hw h
   ·have:=Uz (P:=P) (t:=t) O hw f1 f2 f3
    rw[Q2k hw] at this
    rw[X9 this]
    refine N _ w ⟨rfl,rfl,rfl,rfl,fun _ _=>rfl⟩ (fun h0=>?_) fun _=>rfl
    exact hw
   ·have:=Uz (P:=P) (t:=t) O hw af f9 f3
    rw[Q2k hw] at this
    rw[X9 this]
    refine N _ w ⟨rfl,rfl,rfl,rfl,fun _ _=>rfl⟩ (fun h0=>?_) fun _=>rfl
    rw[h0] at hw
    cases hw
    rw[h0,f5 rfl]
  ·intro w K hw N
   unfold entryStore
   rcases hw with hw | hw
   ·rw[Ww (B f rfl hw)]
    obtain ⟨u1,u2⟩:=Q3J (o:= .map (f.modify i fun e=>{e with val:=u}) d) hw
    exact N _ u1 u2
   ·have:=B _ J hw
    rw[ap,Q2k hw] at this
    rw[Ww this]
    exact N _ ⟨rfl,rfl,rfl,rfl,fun _ _=>rfl⟩ hw
 cases r' with
 | none=>
  obtain ⟨i,hi,bf,a9,ar⟩:=tz.info
  have hz: ∀w:World,(zeroValue et).run P w= .ok z w:=fun w=>Zf tz w
  refine V (q.push {key:=S k,val:=z,born:=g}) (g+1) q.size {key:=S k,val:=z,born:=g} z ?_ (by simp) rfl ?_ ?_ ?_ ?_
  ·have:=Q0W k {key:=S k,val:=z,born:=g} rfl q.toList 0 q1
   simpa using this
  ·simp only[Array.toList_push,List.map_append,List.map_cons,List.map_nil]
   rw[List.pairwise_append]
   refine ⟨Y,by simp,?_⟩
   intro a ha b D
   simp at D;subst D
   obtain ⟨e,he,rfl⟩:=List.mem_map.1 ha
   exact h4 e he
  ·intro e
   injection e with s Z
   omega
  ·refine ⟨_,_,rfl,?_,?_,?_⟩
   ·rw[q4 rfl]
    simp only[Array.toList_modify,Array.toList_push]
    rw[←Array.length_toList,Pg]
    simp[h2]
   ·have:((q.push {key:=S k,val:=z,born:=g}).modify q.size fun e=>{e with val:=u}).toList.map (·.born)=q.toList.map (·.born)++[g]:=by
     simp only[Array.toList_modify,Array.toList_push]
     rw[←Array.length_toList,Pg]
     simp
    rw[this,List.pairwise_append]
    refine ⟨Y,by simp,?_⟩
    intro a ha b D
    simp at D;subst D
    obtain ⟨e,he,rfl⟩:=List.mem_map.1 ha
    exact h4 e he
   ·intro e he
    simp only[Array.toList_modify,Array.toList_push] at he
    rw[←Array.length_toList,Pg] at he
    rcases List.mem_append.1 he with he | he
    ·have:=h4 e he;omega
    ·simp at he;subst he;simp
  ·intro w hw
   have hg:(getObj r).run P w= .ok (.map q g) w:=by simp[getObj,Sem.run,hw]
   have E: ∀o c,(setObj r (.map o c)).run P w= .ok () {w with heap:=w.heap.setIfInBounds r (.map o c)}:=by
    intro o c;simp[setObj,Sem.run,hw]
   refine ⟨z,?_⟩
   simp only[Instr.mapEntry,Sem.run_bind,run_underlying tm.h,Result.andThen_ok,Instr.findKey,run_underlying O,q1,G8 O,hg,Sem.run_pure,hz,E]
   rfl
 | some p=>
  obtain ⟨j,v⟩:=p
  obtain ⟨z1,z2,z3⟩:=q3 j v rfl
  obtain ⟨e,s,Z⟩:=z2
  simp only[Nat.sub_zero] at s z3
  have R:q[j]? =some e:=by rw[←Array.getElem?_toList];exact s
  refine V q g j e v q1 R Z Y (fun _=>rfl) ?_ fun hw=>⟨v,Uz O hw q1 R Z⟩
  refine ⟨_,_,rfl,?_,?_,?_⟩
  ·have:=z3 u
   rw[←this,Array.toList_modify]
   congr 1
   apply List.ext_getElem?
   intro n
   simp only[List.getElem?_modify]
   by_cases C:j=n
   ·subst C;rw[s];simp[Z]
   ·simp[C]
  ·have:(q.modify j fun e=>{e with val:=u}).toList.map (·.born)=q.toList.map (·.born):=by
    apply List.ext_getElem?
    intro n
    simp only[Array.toList_modify,List.getElem?_map,List.getElem?_modify]
    by_cases C:j=n<;>cases q.toList[n]? <;>simp[C]
   rw[this];exact Y
  ·intro x hx
   have:x.born∈(q.modify j fun e=>{e with val:=u}).toList.map (·.born):=List.mem_map.2 ⟨x,hx,rfl⟩
   have D:(q.modify j fun e=>{e with val:=u}).toList.map (·.born)=q.toList.map (·.born):=by
    apply List.ext_getElem?
    intro n
    simp only[Array.toList_modify,List.getElem?_map,List.getElem?_modify]
    by_cases C:j=n<;>cases q.toList[n]? <;>simp[C]
   rw[D] at this
   obtain ⟨y,hy,e⟩:=List.mem_map.1 this
   rw[←e];exact h4 y hy
end Go.Emb

namespace Go.Hm
open Go.Kd Go.Emb
abbrev C7:=List (X0×X0)
def S9:C7→X0→Option X0
 | [],_=>none
 | p::r,k=>if p.1=k then some p.2 else S9 r k
def Sg:C7→X0→X0→C7
 | [],k,v=>[(k,v)]
 | p::r,k,v=>if p.1=k then (k,v)::r else p::Sg r k v
def vals (m:C7):List (List UInt8×Value):=m.map fun p=>(p.1,S p.2)
theorem Q9u (m:C7) (k:X0):S8 (vals m) k=(S9 m k).map S:=by
 induction m with
 | nil=>rfl
 | cons p r a=>
  simp only[vals,List.map_cons,S8,S9]
  split
  ·rfl
  ·exact a
theorem Q5t (m:C7) (k v:X0):Wn (vals m) k (S v)=vals (Sg m k v):=by
 induction m with
 | nil=>rfl
 | cons p r a=>
  simp only[vals,List.map_cons,Wn,Sg]
  split
  ·rfl
  ·rw[List.map_cons];congr 1
theorem Q0H (m:C7) (k v n:X0):S9 (Sg m k v) n=if k=n then some v else S9 m n:=by
 induction m with
 | nil=>simp[Sg,S9]
 | cons p r b=>
  simp only[Sg]
  by_cases h:p.1=k
  ·rw[if_pos h]
   simp only[S9]
   by_cases a:k=n
   ·simp[a]
   ·rw[if_neg a,if_neg a,if_neg (by rw[h];exact a)]
  ·rw[if_neg h]
   simp only[S9]
   by_cases a:p.1=n
   ·rw[if_pos a,if_pos a,if_neg (by intro e;exact h (a.trans e.symm))]
   ·rw[if_neg a,if_neg a];exact b
def Va (d:X0) (s:C7×C7) (m:Hm.Met):Bool×(C7×C7):=
 ((match S9 s.1 m.name with | some x=> !decide (x=Qp m) | none=>false),(Sg s.1 m.name (Qp m),Sg s.2 m.name d))
end Go.Hm
namespace Go.Emb
open Go.RowKit Go.Hm
theorem H0.of_below {w w':World} {r:Nat} {m:List (List UInt8×Value)} (h:H0 (w.heap[r]?) m) (d:Below w.heap.size w w'):H0 (w'.heap[r]?) m:=by
 obtain ⟨e,a,b,c⟩:=h
 rw[d.block r (Array.getElem?_eq_some_iff.1 b).1]
 exact ⟨e,a,b,c⟩
theorem Q9B {P:Program} {w:World} {K:Value→World→Prop} {t b c:TypeId} {sz a:Nat} {z:Value} [tm:TM P t b c] [tz:TZ P c sz a z] (d:P.underlying b=some .string) {r:Nat} {m:List (List UInt8×Value)} (f:H0 (w.heap[r]?) m) (k:List UInt8)
 (h:K (.tuple #[(S8 m k).getD z, .bool (S8 m k).isSome]) w):lookup P t (.map (some r)) (S k) true w K:=by
 rw[Q2x d f k];cases e:S8 m k<;>rw[e] at h<;>exact h
theorem H0.lt {w:World} {r:Nat} {m:List (List UInt8×Value)} (h:H0 (w.heap[r]?) m):r<w.heap.size:=by
 obtain ⟨d,a,b,c⟩:=h
 exact (Array.getElem?_eq_some_iff.1 b).1
end Go.Emb
namespace Go.Proofs.YtjdiakhipmggjaaGreatDoor
open Go.Emb Go.RowKit Go.Kd Go.Hm
variable {w : World} {K : Value → World → Prop} {σ : Q5} {v : Value} {l : List Cla}
theorem X3H {m:Hm.Met} {cs ds:List Value} {pa pb q:Addr} {b o:Nat} {s:C7×C7} {d:X0} (hs:X2 w σ) (hm:E5 σ m cs) (Y:SmM m) (hn:NmM m) (aa:Z4 σ pa [.map (some b)]) (ax:Z4 σ pb [.map (some o)]) (hq:Z4 σ q (S d::ds))
 (av:σ b=none) (am:σ o=none) (ab:b≠o) (p:H0 (w.heap[b]?) (vals s.1)) (y:H0 (w.heap[o]?) (vals s.2))
 (h: ∀w',Kpt (fun k=>k=b∨k=o) w w'→H0 (w'.heap[b]?) (vals (Va d s m).2.1)→H0 (w'.heap[o]?) (vals (Va d s m).2.2)→K (.bool (Va d s m).1) w'):
 Q1 P F.aI [.agg cs.toArray, .pointer (some pa), .pointer (some q), .pointer (some pb)] w K:=Ez (by
 have W:=hm
 obtain ⟨pv,cv,hv,rfl,g1,g2,g3,g4,g5,g6⟩:=hm
 unfold Yy
 refine Z0 hs fun a w1 σ1 f Q=>?_
 have af:=p.lt
 have aw:=y.lt
 have p:=p.of_below f.bel
 have y:=y.of_below f.bel
 have R:σ1 b=none:=(f.old b af).trans av
 have H:σ1 o=none:=(f.old o aw).trans am
 refine X7 f.sat (aa.up f) rfl ?_
 rw[fa]
 refine ld f.sat Q rfl ?_
 refine Q9B X8 p m.name ?_
 have aj:(.tuple #[(S8 (vals s.1) m.name).getD (.string ⟨#[]⟩), .bool (S8 (vals s.1) m.name).isSome]:Value)= .tuple #[S ((S9 s.1 m.name).getD []), .bool (S9 s.1 m.name).isSome]:=by
  rw[Q9u];cases S9 s.1 m.name<;>rfl
 rw[aj]
 refine J5 (vs:=[_,_]) rfl ?_
 refine J5 (vs:=[_,_]) rfl ?_
 obtain ⟨N,O,r,z,ar,E⟩:=X3Q (P:=P) (t:=T.w) X8 p m.name (S (Qp m))
 have U:=p.lt
 refine Im (fun c i=>Kpt (fun k=>k=b) c i∧(i.heap[b]? =c.heap[b]? ∨(c.heap[b]? =some N∧N≠r∧i.heap[b]? =some O)∨i.heap[b]? =some r))
  (fun c=>Kpt (fun k=>k=b) w1 c∧X2 c σ1∧(c.heap[b]? =some N∨c.heap[b]? =some O∨c.heap[b]? =some r))
  ⟨.of_below (Below.refl _ _).drew,f.sat.below (Below.refl _ _).drew, .inl ar⟩ (fun c i g B=>⟨g.1.trans B.1,B.1.sat g.2.1 (fun k hk=>hk▸R),by
   rcases B.2 with e | ⟨_,_,e⟩ | e
   ·rw[e];exact g.2.2
   ·exact .inr (.inl e)
   ·exact .inr (.inr e)⟩) ?_
 refine X4 (.pointer (some (a.add 0))) (fun w g=>by rw[fa];exact ⟨⟨Kpt.refl, .inl rfl⟩,rfl⟩) ?_
 refine X4 (.pointer (some (a.add 0))) (fun w g=>by rw[fa];exact ⟨⟨Kpt.refl, .inl rfl⟩,rfl⟩) ?_
 refine X4 (.pointer (some (q.add 0))) (fun w g=>by rw[fa];exact ⟨⟨Kpt.refl, .inl rfl⟩,rfl⟩) ?_
 refine X4 (.map (some b)) (fun w g=>X7 g.2.1 (aa.up f) rfl ⟨⟨Kpt.refl, .inl rfl⟩,rfl⟩) ?_
 refine X4 (S m.name) (fun t w g e=>by rw[e];exact ld g.2.1 Q rfl ⟨⟨Kpt.refl, .inl rfl⟩,rfl⟩) ?_
 refine X4 (.map (some o)) (fun w g=>X7 g.2.1 (ax.up f) rfl ⟨⟨Kpt.refl, .inl rfl⟩,rfl⟩) ?_
 refine X4 (S m.name) (fun t w g e=>by rw[e];exact ld g.2.1 Q rfl ⟨⟨Kpt.refl, .inl rfl⟩,rfl⟩) ?_
 refine X4 (.agg [S m.name,pv,S m.result, .bool m.abs,I m.locals,cv,hv].toArray) (fun w g=>Y4 g.2.1 Q rfl ⟨⟨Kpt.refl, .inl rfl⟩,rfl⟩) ?_
 refine X4 (S (Qp m)) (fun t c g e=>by
  rw[e]
  exact Q8P g.2.1 (RMe_lift W ⟨f.le⟩) Y hn fun i σ3 A=>⟨⟨.of_below A.bel, .inl (A.bel.block b (Nat.lt_of_lt_of_le U g.1.size))⟩,rfl⟩) ?_
 refine X4 (S d) (fun t w g e=>by rw[e];exact ld g.2.1 (hq.up f) rfl ⟨⟨Kpt.refl, .inl rfl⟩,rfl⟩) ?_
 have st: ∀{c i:World},(c.heap[b]? =some O∨c.heap[b]? =some r)→(i.heap[b]? =c.heap[b]? ∨(c.heap[b]? =some N∧N≠r∧i.heap[b]? =some O)∨i.heap[b]? =some r)→(i.heap[b]? =some O∨i.heap[b]? =some r):=by
  intro c i j h2
  rcases h2 with e | ⟨_,_,e⟩ | e
  ·rw[e];exact j
  ·exact .inl e
  ·exact .inr e
 refine E7 (fun u c=>(∃x,u= .tuple #[x,I z])∧(c.heap[b]? =some O∨c.heap[b]? =some r)) (fun u c i j B=>⟨j.1,st j.2 B.2⟩) (fun V ai c g e1 e2=>?_) ?_
 ·rw[e1,e2]
  refine E.entry g.2.2 fun x i n ak an=>?_
  by_cases X:c.heap[b]? =some N
  ·have j:=ak X
   refine ⟨⟨Kpt.of_upd n rfl,?_⟩,⟨x,rfl⟩, .inl j⟩
   by_cases C:N=r
   ·left;rw[j,X,E.same C]
   ·exact .inr (.inl ⟨X,C,j⟩)
  ·have j:=an X
   refine ⟨⟨Kpt.of_upd n rfl, .inl j⟩,⟨x,rfl⟩,?_⟩
   rw[j];exact g.2.2.resolve_left X
 refine E7 (fun u c=>u=I z∧(c.heap[b]? =some O∨c.heap[b]? =some r)) (fun u c i j B=>⟨j.1,st j.2 B.2⟩) (fun t c g e=>?_) ?_
 ·obtain ⟨⟨x,rfl⟩,j⟩:=e
  exact J5 (vs:=[_,_]) rfl ⟨⟨Kpt.refl, .inl rfl⟩,rfl,j⟩
 refine E7 (fun _ c=>c.heap[b]? =some r) (fun u c i j B=>?_) (fun V ag ay c g e1 e2 e3=>?_) ?_
 ·rcases B.2 with e | ⟨e,C,_⟩ | e
  ·exact e.trans j
  ·rw[j] at e;cases e;exact absurd rfl C
  ·exact e
 ·rw[e1,e3,e2.1]
  refine E.store e2.2 fun i n h3=>⟨⟨Kpt.of_upd n rfl, .inr (.inr h3)⟩,h3⟩
 rintro bf bg a6 V ai be a7 bc ay a8 bk ag a5 c L _ _ _ _ _ rfl rfl _ _ rfl _ _ ao
 have ap:H0 (c.heap[b]?) (vals (Sg s.1 m.name (Qp m))):=by
  rw[ao,←Q5t];exact E.put
 have ae:H0 (c.heap[o]?) (vals s.2):=by
  rw[L.1.block o y.lt fun e=>ab e.symm];exact y
 refine Ir X8 ⟨H,ae⟩ m.name (S d) fun i n al=>?_
 have ac:H0 (i.heap[o]?) (vals (Sg s.2 m.name d)):=by rw[←Q5t];exact al.2
 have J:H0 (i.heap[b]?) (vals (Sg s.1 m.name (Qp m))):=by rw[n.block b ab];exact ap
 have A:Kpt (fun k=>k=b∨k=o) w i:=((Kpt.of_below f.bel).trans (L.1.mono fun k _ h=> .inl h)).trans (Kpt.of_upd n (.inr rfl))
 have Z:X2 i σ1:=(Kpt.of_upd (D:=fun k=>k=o) n rfl).sat L.2.1 fun k hk=>hk▸H
 unfold Va at h
 cases ho:S9 s.1 m.name with
 | none=>
  rw[ho] at h
  simp only[Option.isSome_none,↓M2,M2,Mb,reduceIte]
  exact h i A J ac
 | some x=>
  rw[ho] at h
  simp only[Option.isSome_some,Option.getD_some,↓M2,M2,Mb,reduceIte]
  refine Y4 Z Q rfl ?_
  refine Q8P Z (RMe_lift W ⟨f.le⟩) Y hn fun w4 σ4 M=>?_
  simp only[↓M2,M2,Mb,reduceIte]
  exact h w4 (A.trans (Kpt.of_below M.bel)) (J.of_below M.bel) (ac.of_below M.bel))
end Go.Proofs.YtjdiakhipmggjaaGreatDoor

namespace Go.Hm
open Go.Kd Go.Emb
def Sn (s:C7×C7) (c:Cla):Bool×(C7×C7):=((J0 (Va c.name) s c.methods 0).1.isSome,(J0 (Va c.name) s c.methods 0).2)
def Hn (a:List Hm.Met):Prop:= ∃x∈a,∃y∈a,x.name=y.name∧Qp x≠Qp y
theorem Q40 (a:List Hm.Met):Ns a=true↔Hn a:=by
 simp[Ns,Hn]
structure Gd (pre : List Hm.Met) (s : C7 × C7) : Prop where
  a : ∀ m ∈ pre, S9 s.1 m.name = some (Qp m)
  b : ∀ k x, S9 s.1 k = some x → ∃ m ∈ pre, m.name = k ∧ Qp m = x
  c : ∀ k, (S9 s.2 k).isSome = true ↔ ∃ m ∈ pre, m.name = k
theorem Gd.no {b:List Hm.Met} {s:C7×C7} (h:Gd b s): ¬Hn b:=by
 rintro ⟨x,i,y,e,f,d⟩
 have c:=h.a x i
 have g:=h.a y e
 rw[f,g] at c
 exact d (Option.some.inj c).symm
theorem Gd.step {j:List Hm.Met} {s:C7×C7} (h:Gd j s) (d:X0) (m:Hm.Met):((Va d s m).1=true→Hn (j++[m]))∧((Va d s m).1=false→Gd (j++[m]) (Va d s m).2):=by
 unfold Va
 constructor
 ·intro g
  cases o:S9 s.1 m.name with
  | none=>rw[o] at g;cases g
  | some x=>
   rw[o] at g
   obtain ⟨y,hy,f,p⟩:=h.b _ _ o
   exact ⟨y,by simp[hy],m,by simp,f,by rw[p];simpa using g⟩
 ·intro g
  have i: ∀x,S9 s.1 m.name=some x→x=Qp m:=fun x n=>by rw[n] at g;simpa using g
  refine ⟨fun y hy=>?_,fun k x n=>?_,fun k=>?_⟩
  ·simp only[Q0H]
   rcases List.mem_append.1 hy with hy | hy
   ·have:=h.a y hy
    by_cases e:m.name=y.name
    ·rw[if_pos e];congr 1;exact (i _ (by rw[e];exact this)).symm
    ·rw[if_neg e];exact this
   ·simp at hy;subst hy;simp
  ·simp only[Q0H] at n
   by_cases e:m.name=k
   ·rw[if_pos e] at n;cases n;exact ⟨m,by simp,e,rfl⟩
   ·rw[if_neg e] at n
    obtain ⟨y,hy,f⟩:=h.b _ _ n
    exact ⟨y,by simp[hy],f⟩
  ·simp only[Q0H]
   by_cases e:m.name=k
   ·rw[if_pos e];exact ⟨fun _=>⟨m,by simp,e⟩,fun _=>rfl⟩
   ·rw[if_neg e,h.c k]
    constructor
    ·rintro ⟨y,hy,f⟩;exact ⟨y,by simp[hy],f⟩
    ·rintro ⟨y,hy,f⟩
     rcases List.mem_append.1 hy with hy | hy
     ·exact ⟨y,hy,f⟩
     ·simp at hy;subst hy;exact absurd f e
theorem Hn.mono {a b:List Hm.Met} (h:Hn a) (c: ∀x∈a,x∈b):Hn b:=by
 obtain ⟨x,f,y,d,e⟩:=h
 exact ⟨x,c x f,y,c y d,e⟩
theorem Q2J (d:X0): ∀(b a:List Hm.Met) (s:C7×C7) (i:Nat),Gd a s→((J0 (Va d) s b i).1.isSome=true→Hn (a++b))∧((J0 (Va d) s b i).1.isSome=false→Gd (a++b) (J0 (Va d) s b i).2)
 | [],a,s,i,h=>by simpa [J0] using h
 | m::r,a,s,i,h=>by
  obtain ⟨g,j⟩:=h.step d m
  simp only[J0]
  cases c:(Va d s m).1 with
  | true=>
   simp only[if_true,Option.isSome_some]
   exact ⟨fun _=>(g c).mono fun x f=>by simp at f⊢;rcases f with h | h<;>simp[h],fun e=>by cases e⟩
  | false=>
   simp only[Bool.false_eq_true,if_false]
   have:=Q2J d r (a++[m]) (Va d s m).2 (i+1) (j c)
   rw[show a++m::r=(a++[m])++r by simp]
   exact this
theorem Q2Q: ∀(cs:List Cla) (a:List Hm.Met) (s:C7×C7) (i:Nat),Gd a s→((J0 Sn s cs i).1.isSome=true→Hn (a++cs.flatMap (·.methods)))∧((J0 Sn s cs i).1.isSome=false→Gd (a++cs.flatMap (·.methods)) (J0 Sn s cs i).2)
 | [],a,s,i,h=>by simpa [J0] using h
 | c::r,a,s,i,h=>by
  obtain ⟨d,f⟩:=Q2J c.name c.methods a s 0 h
  simp only[J0]
  cases b:(Sn s c).1 with
  | true=>
   simp only[if_true,Option.isSome_some]
   exact ⟨fun _=>(d b).mono (by simp;intro x hx;rcases hx with hx | hx;exact .inl hx;exact .inr (.inl hx)),fun e=>by cases e⟩
  | false=>
   simp only[Bool.false_eq_true,if_false]
   have:=Q2Q r (a++c.methods) (Sn s c).2 (i+1) (f b)
   rw[List.flatMap_cons,←List.append_assoc]
   exact this
theorem X2Y:Gd [] ([],[]):=⟨by simp,by simp[S9],by simp[S9]⟩
theorem Q8d (l:List Cla) (n:X0):Wv l n=(Ma l n).flatMap (·.methods):=by
 unfold Wv Ma
 induction F0 l n with
 | nil=>rfl
 | cons u r a=>
  rw[List.flatMap_cons,List.filterMap_cons]
  cases b:lk l u with
  | none=>simpa [b] using a
  | some c=>simp only[Option.map_some,Option.getD_some,List.flatMap_cons];rw[a]
end Go.Hm
namespace Go.Emb
open Go.RowKit Go.Hm
variable {P : Program} {w w0 w1 w' w'' : World} {K : Value → World → Prop} {σ σ0 σ1 σ' : Q5}
def It (σ:Q5) (w:World) (b r:Nat) (e:Array MapEntry) (a:Nat) (c:Array Nat):Prop:=σ b=none∧ ∃d,a≤d∧w.heap[b]? =some (.mapIter (some r) a c d)
theorem It.step {b r:Nat} {f:Array MapEntry} {a:Nat} {c:Array Nat} (h:It σ w b r f a c) (k:Stp w σ w' σ'):It σ' w' b r f a c:=by
 obtain ⟨i,g,j,d⟩:=h
 have e:=(Array.getElem?_eq_some_iff.1 d).1
 exact ⟨(k.old b e).trans i,g,j,(k.bel.block b e).trans d⟩
theorem X3q {t e i:TypeId} [tm:TM P t e i] {r:Nat} {c:Array MapEntry} {a:Nat} (d:X2 w σ) (g:w.heap[r]? =some (.map c a))
 (h: ∀b w' σ',w.heap.size≤b→Stp w σ w' σ'→It σ' w' b r c a #[]→K (.pointer (some ⟨b,0,none⟩)) w'):rng P t (.map (some r)) w K:=by
 unfold rng
 have f:(getObj r).run P w= .ok (.map c a) w:=by simp[getObj,Sem.run,g]
 rw[X9 (v:= .pointer (some ⟨w.heap.size,0,none⟩)) (w':=w.alloc (.mapIter (some r) a #[] a)) (by
  simp only[Instr.range,Sem.run_bind,run_underlying tm.h,Result.andThen_ok,f,Sem.run_pure]
  simp)]
 exact h _ _ _ (Nat.le_refl _) (Stp.own d _) ⟨d.none (Nat.le_refl _),a,Nat.le_refl _,heap_alloc_new w _⟩
theorem X3z {t:TypeId} {b r:Nat} {es:Array MapEntry} {clock:Nat} {seen:Array Nat} (hi:It σ w b r es clock seen) (hm:w.heap[r]? =some (.map es clock)) (hold: ∀x∈es.toList,x.born<clock)
 (h0:(∀e∈es.toList,e.born∈seen)→K (.tuple #[.bool false]) w)
 (h1: ∀e w',e∈es.toList→e.born∉seen→Kpt (fun k=>k=b) w w'→It σ w' b r es clock (seen.push e.born)→w'.heap[b]? =some (.mapIter (some r) clock (seen.push e.born) clock)→K (.tuple #[.bool true,e.key,e.val]) w'):W3 P (.pointer (some ⟨b,0,none⟩)) false t w K:=by
 obtain ⟨hb,c0,hc,hh⟩:=hi
 unfold W3
 rcases run_next_at (P:=P) w t b r clock c0 seen es clock hh hm hold hc with ⟨hz,hrun⟩ | ⟨e,he,w1,hw1,hrun⟩
 ·rw[X9 hrun]
  refine h0 fun e he=>Classical.byContradiction fun hn=>?_
  have:e∈(leftOf es seen).toList:=by
   unfold leftOf
   simp only[Array.toList_filter,List.mem_filter]
   exact ⟨he,by simpa using hn⟩
  have hl:(leftOf es seen).toList.length=0:=by simpa using hz
  rw[List.eq_nil_of_length_eq_zero hl] at this
  cases this
 ·rw[X9 hrun]
  have he':e∈es.toList∧e.born∉seen:=by
   unfold leftOf at he
   simp only[Array.toList_filter,List.mem_filter] at he
   exact ⟨he.1,by simpa using he.2⟩
  have hh1:w1.heap[b]? =some (.mapIter (some r) clock seen c0):=by rcases hw1 with rfl | rfl<;>exact hh
  obtain ⟨u1,u2⟩:=Q3J (w:=w1) (o:= .mapIter (some r) clock (seen.push e.born) clock) hh1
  refine h1 e _ he'.1 he'.2 ?_ ⟨hb,clock,Nat.le_refl _,u2⟩ u2
  have k1:Kpt (fun k=>k=b) w w1:=by
   rcases hw1 with rfl | rfl
   ·exact Kpt.refl
   ·exact .of_below (Below.refl _ _).drew
  exact k1.trans (Kpt.of_upd u1 rfl)
theorem X2o {b r:Nat} {d:Array MapEntry} {a:Nat} {c:Array Nat} {e:MapEntry} (hh:w.heap[b]? =some (.mapIter (some r) a (c.push e.born) a)) (i:w.heap[r]? =some (.map d a)) (g:e∈d.toList) (f:(d.toList.map (·.born)).Nodup)
 (h:K (.tuple #[e.key,e.val]) w):Q7t P (.pointer (some ⟨b,0,none⟩)) w K:=by
 unfold Q7t
 rw[X9 (run_entry_at w b r a c d a e hh i g f)]
 exact h
end Go.Emb
namespace Go.Proofs.YtjdiakhipmggjaaGreatDoor
open Go.Emb Go.RowKit Go.Kd Go.Hm
variable {w : World} {K : Value → World → Prop} {σ : Q5} {v : Value} {l : List Cla}
theorem T2 (o:Option Nat):decide ((0:Int)≤L5 o)=o.isSome:=by
 cases o with
 | none=>rfl
 | some i=>simp[L5]
theorem Q3v {q:Addr} {s:X0} (c:X2 w σ) (f:Tab σ v l) (d:Z4 σ q [v]) (g:s.length≤U0) (h: ∀w' σ',Stp w σ w' σ'→K (.bool (O6 l s)) w'):Z3 P (.func (.func F.aj) #[] #[.pointer (some q)]) [S s] w K:=Z6 (Rk (by
 unfold Jo
 unfold O6 at h
 refine Vy ?_
 by_cases a:s=H6
 ·have e:decide (s=[110,117,108,108])=true:=decide_eq_true a
  simp only[e,decide_eq_true a,↓M2,M2,Mb,reduceIte] at h⊢
  exact h _ _ (Stp.refl c)
 ·have e:decide (s=[110,117,108,108])=false:=decide_eq_false a
  simp only[e,decide_eq_false a,↓M2,M2,Mb,reduceIte] at h⊢
  refine X7 c d rfl ?_
  refine Q0U c f g fun w1 σ1 b=>?_
  (try simp only[↓M2,M2,Mb,reduceIte])
  exact h _ _ b))
theorem Q8u {q p:Addr} {s:X0} (b:X2 w σ) (d:Tab σ v l) (c:Z4 σ q [v]) (e:Z4 σ p [.func (.func F.aj) #[] #[.pointer (some q)]]) (f:s.length≤U0) (h: ∀w' σ',Stp w σ w' σ'→K (.bool (!O6 l s)) w'):Z3 P (.func (.func F.ak) #[] #[.pointer (some p)]) [S s] w K:=Z6 (Sr (by
 unfold Jq
 refine X7 b e rfl ?_
 refine Q3v b d c f fun w1 σ1 a=>?_
 refine Wd ?_
 exact h _ _ a))
theorem Q6p {c:Cla} {cs:List Value} {pa E:Addr} {b e:Nat} {s:C7×C7} (N:X2 w σ) (X:V0 σ c cs) (p:Qj c) (W:Nm c) (u:Z4 σ pa [.map (some b)]) (z:Z4 σ E [.map (some e)])
 (y:σ b=none) (B:σ e=none) (A:b≠e) (j:H0 (w.heap[b]?) (vals s.1)) (n:H0 (w.heap[e]?) (vals s.2))
 (h: ∀w',Kpt (fun k=>k=b∨k=e) w w'→H0 (w'.heap[b]?) (vals (Sn s c).2.1)∧H0 (w'.heap[e]?) (vals (Sn s c).2.2)→K (.bool (Sn s c).1) w'):
 Z3 P (.func (.func F.aW) #[] #[.pointer (some pa), .pointer (some E)]) [.agg cs.toArray] w K:=Z6 (Sz (by
 obtain ⟨lv,fv,mv,rfl,Y,Z,O,g4,g5⟩:=X
 unfold Jx
 refine Z0 N fun q w1 σ1 a H=>?_
 rw[fa]
 refine ld a.sat H rfl ?_
 rw[A9]
 have r:=j.lt
 have t:=n.lt
 have i:σ1 b=none:=(a.old b r).trans y
 have m:σ1 e=none:=(a.old e t).trans B
 refine Zq (Va c.name) s (fun s w'=>X2 w' σ1∧H0 (w'.heap[b]?) (vals s.1)∧H0 (w'.heap[e]?) (vals s.2)) (fun k=>k=b∨k=e) (fun _ _ h=>h.1) ⟨a.sat,j.of_below a.bel,n.of_below a.bel⟩ (O.up a)
  (fun s x cs D K J f g M C V=>Z6 ?_) fun D f g=>?_
 ·refine X3H (s:=s) (d:=c.name) g.1 M (p.2.2.2 x J) (W.2.2 x J) (u.up a) (z.up a) H i m A g.2.1 g.2.2 fun R o U L=>?_
  exact V R (f.trans o) ⟨o.sat g.1 fun k Q=>by rcases Q with rfl | rfl<;>assumption,U,L⟩
 ·exact h D ((Kpt.of_below a.bel).trans f) g.2))
end Go.Proofs.YtjdiakhipmggjaaGreatDoor

namespace Go.Emb
open Go.RowKit Go.Hm
theorem Stp.nx {D:Nat→Prop} {w w1 f:World} {σ σ1 g:Q5} (a:Stp w σ w1 σ1) (c:Nxt D w1 σ1 f g) (hD: ∀k,D k→w.heap.size≤k):Stp w σ f g:=
 ⟨⟨c.kp.os.trans a.bel.os,c.kp.tape.trans a.bel.tape,c.kp.output.trans a.bel.output,Nat.le_trans a.bel.size c.kp.size,fun k d=>(c.kp.block k (Nat.lt_of_lt_of_le d a.bel.size) fun e=>by have:=hD k e;omega).trans (a.bel.block k d)⟩,
  c.sat,fun b o e=>c.le.le b o (a.le b o e),fun k d=>(c.old k (Nat.lt_of_lt_of_le d a.bel.size)).trans (a.old k d)⟩
end Go.Emb
namespace Go.Hm
open Go.Kd Go.Emb
theorem X1S {d:Array MapEntry} {m:C7} (h:d.toList.map (fun e=>(e.key,e.val))=(vals m).map (fun p=>(S p.1,p.2))):
 (∀e∈d.toList,∃k,e.key=S k∧(S9 m k).isSome=true)∧ ∀k,(S9 m k).isSome=true→ ∃e∈d.toList,e.key=S k:=by
 have a: ∀(m:C7) k,(S9 m k).isSome=true↔k∈m.map (·.1):=by
  intro m
  induction m with
  | nil=>intro k;simp[S9]
  | cons p r j=>
   intro k
   simp only[S9,List.map_cons,List.mem_cons]
   by_cases e:p.1=k
   ·simp[e]
   ·rw[if_neg e,j k]
    constructor
    ·exact .inr
    ·rintro (h | h)
     ·exact absurd h.symm e
     ·exact h
 constructor
 ·intro e g
  have c:(e.key,e.val)∈d.toList.map (fun e=>(e.key,e.val)):=List.mem_map.2 ⟨e,g,rfl⟩
  rw[h] at c
  obtain ⟨p,n,b⟩:=List.mem_map.1 c
  obtain ⟨q,f,rfl⟩:=List.mem_map.1 n
  simp only[Prod.mk.injEq] at b
  exact ⟨q.1,b.1.symm,(a m _).2 (List.mem_map.2 ⟨q,f,rfl⟩)⟩
 ·intro k i
  obtain ⟨q,f,rfl⟩:=List.mem_map.1 ((a m k).1 i)
  have c:(S q.1,S q.2)∈(vals m).map (fun p=>(S p.1,p.2)):=List.mem_map.2 ⟨(q.1,S q.2),List.mem_map.2 ⟨q,f,rfl⟩,rfl⟩
  rw[←h] at c
  obtain ⟨e,g,b⟩:=List.mem_map.1 c
  simp only[Prod.mk.injEq] at b
  exact ⟨e,g,b.1⟩
def Dz (l:List Cla) (m:Hm.Met):Bool:=(!O6 l m.result&& !decide (m.result=[]))||m.params.any fun s=> !O6 l s
end Go.Hm
namespace Go.Proofs.YtjdiakhipmggjaaGreatDoor
open Go.Emb Go.RowKit Go.Kd Go.Hm
variable {w : World} {K : Value → World → Prop} {σ : Q5} {v : Value} {l : List Cla}
set_option maxHeartbeats 1000000 in
theorem Q9i {c:Cla} {cs:List Value} (hs:X2 w σ) (ht:Tab σ v l) (ok:Ok l) (hc:V0 σ c cs) (fu:Qj c) (hn:Nm c) (h: ∀w' W,Stp w σ w' W→K (I (V6 l c)) w'):Q1 P F.b5 [v, .agg cs.toArray] w K:=Bl (by
 obtain ⟨lv,fv,mv,rfl,g1,g2,g3,g4,g5⟩:=hc
 unfold Vm
 obtain ⟨a,_,_,_,hv,_⟩:=ht.ex
 unfold V6 at h
 refine U5 hs (by rw[hv];rfl) fun q2 w1 σ1 bd y=>?_
 refine Z0 bd.sat fun q3 w2 σ2 aq z=>?_
 have dy:=bd.trans aq
 have y:=y.up aq
 have g1:=(g1.up bd).up aq
 have g2:=(g2.up bd).up aq
 have g3:=(g3.up bd).up aq
 have a0:=g2.max
 have ck:=g3.max
 rw[fa]
 refine ld aq.sat z rfl ?_
 refine Q8 g2 ?_
 refine U1 c.fields.length (fun n w'=> ∃W,Stp w σ w' W∧SLe σ2 W∧((c.fields.take n).any fun f=>(Jh l c.super f.name).isSome)=false) ⟨σ2,dy,SLe.refl _,by simp⟩ fun n w3 d a4 ag=>?_
 obtain ⟨σ3,az,cj,H⟩:=ag
 refine Z2 ?_
 refine Q7 (fun hh=>?_) (fun hh=>?_)
 ·have g:n<c.fields.length:=by simpa using hh
  refine Q8Z (g2.lift cj) g fun p av ab=>?_
  refine Y4 az.sat av rfl ?_
  refine Y9 az.sat (by rfl) rfl (Rep.one ab) fun q4 w4 σ4 V ea=>?_
  have aa:SLe σ2 σ4:=cj.more ⟨V.le⟩
  have bc:=az.trans V
  refine X7 V.sat (y.lift aa) rfl ?_
  rw[fa]
  refine ld V.sat (z.lift aa) rfl ?_
  rw[fa]
  refine ld V.sat ea rfl ?_
  refine X1F V.sat (ht.lift ⟨bc.le⟩) ok.acy ok.len ok.sm fun w5 σ5 ci=>?_
  refine P0 ?_
  rw[T2]
  refine Q7 (fun am=>?_) (fun am=>?_)
  ·have:Yj l c=true:=S1 g am
   rw[if_pos this] at h
   exact h _ _ (bc.trans ci)
  ·refine L8 ?_
   refine Y6 a0 g ⟨σ5,bc.trans ci,aa.more ⟨ci.le⟩,?_⟩
   rw[L4 g,H,am];rfl
 have g: ¬n<c.fields.length:=by simpa using hh
 rw[D9 g] at H
 have ee:Yj l c=false:=H
 rw[if_neg (by rw[ee];simp)] at h
 rw[A9]
 clear H hh g a4
 refine U7 az.sat (by rfl) rfl rfl fun q7 w4 σ4 V a6=>?_
 have aa:SLe σ2 σ4:=cj.more ⟨V.le⟩
 have bc:=az.trans V
 have y:=y.lift aa
 have z:=z.lift aa
 have g1:=g1.lift aa
 have g2:=g2.lift aa
 have g3:=g3.lift aa
 rw[fa]
 refine ld V.sat z rfl ?_
 refine Q8 g2 ?_
 refine U1 c.fields.length (fun n w'=> ∃W,Stp w σ w' W∧SLe σ4 W∧((c.fields.take n).any fun f=> !O6 l f.kind)=false) ⟨σ4,bc,SLe.refl _,by simp⟩ fun n w5 d a4 ag=>?_
 obtain ⟨σ5,a1,aw,H⟩:=ag
 refine Z2 ?_
 refine Q7 (fun hh=>?_) (fun hh=>?_)
 ·have g:n<c.fields.length:=by simpa using hh
  refine Q8Z (g2.lift aw) g fun p av ab=>?_
  refine Y4 a1.sat av rfl ?_
  refine Y9 a1.sat (by rfl) rfl (Rep.one ab) fun q9 w6 σ6 ay dz=>?_
  have af:SLe σ4 σ6:=aw.more ⟨ay.le⟩
  have R:=a1.trans ay
  refine X7 ay.sat (a6.lift af) rfl ?_
  rw[fa]
  refine ld ay.sat dz rfl ?_
  refine Q3v ay.sat (ht.lift ⟨R.le⟩) (y.lift af) ab.2.2 fun w7 σ7 E=>?_
  refine Wd ?_
  refine Q7 (fun am=>?_) (fun am=>?_)
  ·have:B1 l c=true:=by
    unfold B1
    rw[S1 (p:=fun f:Fld=> !O6 l f.kind) g am];rfl
   rw[if_pos this] at h
   exact h _ _ (R.trans E)
  ·refine L8 ?_
   refine Y6 a0 g ⟨σ7,R.trans E,af.more ⟨E.le⟩,?_⟩
   rw[L4 g,H,am];rfl
 have g: ¬n<c.fields.length:=by simpa using hh
 rw[D9 g] at H
 have em:=H
 clear H hh g a4
 have y:=y.lift aw
 have z:=z.lift aw
 have a6:=a6.lift aw
 have g3:=g3.lift aw
 rw[fa]
 refine ld a1.sat z rfl ?_
 refine Q8 g3 ?_
 refine U1 c.methods.length (fun n w'=> ∃W,Stp w σ w' W∧SLe σ5 W∧((c.methods.take n).any (Dz l))=false) ⟨σ5,a1,SLe.refl _,by simp⟩ fun n w6 d a4 ag=>?_
 obtain ⟨σ6,R,af,H⟩:=ag
 refine Z2 ?_
 refine Q7 (fun hh=>?_) (fun hh=>?_)
 ·have g:n<c.methods.length:=by simpa using hh
  refine M9 (g3.lift af) g fun p cells av da ab=>?_
  refine Y4 R.sat av da ?_
  refine Y9 R.sat (by rfl) da (Rep.one ab) fun fq w7 σ7 E Y=>?_
  obtain ⟨pv,cv,fo,rfl,m1,m2,m3,m4,m5,m6⟩:=ab
  have cb:SLe σ5 σ7:=af.more ⟨E.le⟩
  have dm:=R.trans E
  have D:Dz l c.methods[n]=true→ ∀{w8:World} {Z:Q5},Stp w σ w8 Z→K (.int .i64 65) w8:=fun hb w8 Z q=>by
   have:B1 l c=true:=by
    unfold B1
    have:=S1 (p:=Dz l) g hb
    unfold Dz at this
    rw[this,Bool.or_true]
   rw[if_pos this] at h
   exact h _ _ q
  have A:Dz l c.methods[n]=false→ ∀{w8:World} {Z:Q5},Stp w σ w8 Z→SLe σ5 Z→UpI c.methods.length (fun n w'=> ∃W,Stp w σ w' W∧SLe σ5 W∧((c.methods.take n).any (Dz l))=false) (.int .i64 (IntKind.i64.wrap (n+1))) w8∧UpM c.methods.length (.int .i64 (IntKind.i64.wrap (n+1)))<UpM c.methods.length (I n):=fun hb w8 Z q ac=>
   Y6 ck g ⟨Z,q,ac,by rw[L4 g,H,hb];rfl⟩
  unfold Dz at D A
  refine X7 E.sat (a6.lift cb) rfl ?_
  rw[fa]
  refine ld E.sat Y rfl ?_
  refine Q3v E.sat (ht.lift ⟨dm.le⟩) (y.lift cb) m5 fun w8 Z M=>?_
  have q:=dm.trans M
  have ac:SLe σ5 Z:=cb.more ⟨M.le⟩
  have Y:=Y.up M
  have m1:=(m1.up E).up M
  -- what the parameters come to
  have bz: ∀{w8:World} {Z:Q5} {K:Value→World→Prop},Stp w σ w8 Z→SLe σ5 Z→Sl 1 U9 Z pv c.methods[n].params→(∀w' W,Stp w8 Z w' W→K (.bool (c.methods[n].params.any fun s=> !O6 l s)) w')→Q1 P F.c [pv, .func (.func F.ak) #[] #[.pointer (some q7)]] w8 K:=by
   intro w8 Z K q ac m1 hK
   refine K8 (fun s=> !O6 l s) q.sat m1 (fun x w9 K _ eb hx ej=>Q8u eb (ht.lift ⟨q.le⟩) (y.lift ac) (a6.lift ac) hx fun w' W hk=>ej w' hk.bel) fun w9 hb=>hK w9 Z (Stp.of_below q.sat hb)
  cases e1:O6 l c.methods[n].result with
  | true=>
   rw[e1] at D A
   simp only[↓M2,M2,Mb,reduceIte]
   refine ld M.sat Y rfl ?_
   (try simp only[↓M2,M2,Mb,reduceIte])
   refine bz q ac m1 fun w9 σ9 J=>?_
   cases e2:c.methods[n].params.any fun s=> !O6 l s with
   | true=>
    rw[e2] at D
    simp only[↓M2,M2,Mb,reduceIte]
    exact D rfl (q.trans J)
   | false=>
    rw[e2] at A
    simp only[↓M2,M2,Mb,reduceIte]
    exact A rfl (q.trans J) (ac.more ⟨J.le⟩)
  | false=>
   rw[e1] at D A
   simp only[↓M2,M2,Mb,reduceIte]
   refine ld M.sat Y rfl ?_
   simp only[↓M2,M2,Mb,reduceIte]
   by_cases e3:c.methods[n].result=[]
   ·rw[decide_eq_true e3] at D A
    simp only[decide_eq_true e3,↓M2,M2,Mb,reduceIte]
    refine ld M.sat Y rfl ?_
    (try simp only[↓M2,M2,Mb,reduceIte])
    refine bz q ac m1 fun w9 σ9 J=>?_
    cases e2:c.methods[n].params.any fun s=> !O6 l s with
    | true=>
     rw[e2] at D
     simp only[↓M2,M2,Mb,reduceIte]
     exact D rfl (q.trans J)
    | false=>
     rw[e2] at A
     simp only[↓M2,M2,Mb,reduceIte]
     exact A rfl (q.trans J) (ac.more ⟨J.le⟩)
   ·rw[decide_eq_false e3] at D
    simp only[decide_eq_false e3,↓M2,M2,Mb,reduceIte]
    exact D rfl q
 have g: ¬n<c.methods.length:=by simpa using hh
 rw[D9 g] at H
 have ca:B1 l c=false:=by
  unfold B1
  unfold Dz at H
  rw[em,H];rfl
 rw[if_neg (by rw[ca];simp)] at h
 clear H hh g a4
 have y:=y.lift af
 have z:=z.lift af
 refine Q3h R.sat fun r1 w7 ab E t=>?_
 refine Q3h E.sat fun N w8 ek M u=>?_
 have av:=t.lt
 have t:=t.up M
 have d8:r1≠N:=by omega
 have q:=(R.trans E).trans M
 have eu:w.heap.size≤r1:=Nat.le_trans R.bel.size ab
 have e0:w.heap.size≤N:=M7 ek (R.trans E)
 refine M8 M.sat fun b1 w9 σ9 d1 J C=>?_
 refine M8 J.sat fun b2 ef fn eg ai B=>?_
 have e5:=C.lt
 have e8:=t.lt
 have ez:=u.lt
 have t:=(t.up J).up ai
 have u:=(u.up J).up ai
 have C:=C.up ai
 have c3:=(q.trans J).trans ai
 have bx:w.heap.size≤b1:=M7 d1 q
 have b3:w.heap.size≤b2:=M7 eg (q.trans J)
 refine st0 C (by simp[Value.cells]) rfl rfl fun dj b6 C=>?_
 have dl:=b6.stp c3 bx C.1
 have B:=B.upd b6 (by omega)
 have c7:Kpt (fun k=>k=b1) ef dj:=Kpt.of_upd b6 rfl
 have t:=t.kp c7 (by omega)
 have u:=u.kp c7 (by omega)
 refine st0 B (by simp[Value.cells]) rfl rfl fun ar b5 B=>?_
 have di:=b5.stp dl b3 B.1
 have C:=C.upd b5 (by omega)
 have c1:Kpt (fun k=>k=b2) dj ar:=Kpt.of_upd b5 rfl
 have t:=t.kp c1 (by omega)
 have u:=u.kp c1 (by omega)
 obtain ⟨cd,dp,a8,c0,ak⟩:=C.keep di bx
 have B:Y1 cd ar b2 _:=⟨(ak b2 (by omega)).trans B.1,B.2⟩
 have t:C2 cd ar r1 []:=⟨(ak r1 (by omega)).trans t.1,t.2⟩
 have u:C2 cd ar N []:=⟨(ak N (by omega)).trans u.1,u.2⟩
 obtain ⟨ba,ah,bm,bq,a7⟩:=B.keep dp b3
 have t:C2 ba ar r1 []:=⟨(a7 r1 (by omega)).trans t.1,t.2⟩
 have u:C2 ba ar N []:=⟨(a7 N (by omega)).trans u.1,u.2⟩
 have a8:=a8.le bq
 have a8:Z4 ba ⟨b1,0,none⟩ [.map (some r1)]:=a8
 have bm:Z4 ba ⟨b2,0,none⟩ [.map (some N)]:=bm
 have c8:SLe σ6 ba:=⟨fun b o e=>bq b o (c0 b o (ai.le b o (J.le b o (M.le b o (E.le b o e)))))⟩
 clear C B
 have y:=y.lift c8
 have z:=z.lift c8
 refine X7 ah.sat y rfl ?_
 rw[fa]
 refine ld ah.sat z rfl ?_
 rw[A9]
 refine Q7k Sn ([],[]) (fun s w'=>H0 (w'.heap[r1]?) (vals s.1)∧H0 (w'.heap[N]?) (vals s.2)) (fun k=>k=r1∨k=N) ah.sat (ht.lift ⟨ah.le⟩) ok.len ok.sm g4
  (fun k hk=>by rcases hk with rfl | rfl;exact ⟨t.lt,t.1⟩;exact ⟨u.lt,u.1⟩) (fun s wa wb hi hk=>by rw[hk r1 (.inl rfl),hk N (.inr rfl)];exact hi) ⟨t.2,u.2⟩
  (fun s d ds wa σa K le ed cw hi hr eh hK=>?_) fun fi cg ae bv=>?_
 ·have c6:=(V3 eh).2.1
  exact Q6p ed hr (ok.sm d c6) (ok.nm d c6) (a8.lift le) (bm.lift le) (cw r1 (.inl rfl)) (cw N (.inr rfl)) d8 hi.1 hi.2 hK
 have Q:=ah.nx ae fun k hk=>by rcases hk with rfl | rfl<;>assumption
 obtain ⟨dq,dn⟩:=Q2Q (Ma l c.name) [] ([],[]) 0 X2Y
 rw[List.nil_append,←Q8d] at dq dn
 cases de:(J0 Sn ([],[]) (Ma l c.name) 0).1.isSome with
 | true=>
  have:Zi l c=true:=(Q40 _).2 (dq de)
  rw[if_pos this] at h
  refine J3 ?_
  exact h _ _ Q
 | false=>
  have bl:=dn de
  have:Zi l c=false:=by
   cases e:Zi l c with
   | false=>rfl
   | true=>exact absurd ((Q40 _).1 e) bl.no
  rw[if_neg (by rw[this];simp)] at h
  refine Z7 ?_
  have y:=y.lift ae.le
  have z:=z.lift ae.le
  rw[fa]
  refine ld Q.sat z rfl ?_
  unfold Dc at h
  cases cy:c.abs with
  | true=>
   rw[cy] at h
   refine J3 ?_
   exact h _ _ Q
  | false=>
   rw[cy] at h
   simp only[Bool.not_false,Bool.true_and] at h
   refine Z7 ?_
   refine X7 Q.sat (bm.lift ae.le) rfl ?_
   generalize fj:(J0 Sn ([],[]) (Ma l c.name) 0).2=st at bl bv
   obtain ⟨es,al,e1,e2,e3,e4⟩:=bv.2
   have ct:cg N=none:=(ae.old N u.lt).trans u.1
   obtain ⟨dh,cx⟩:=X1S e2
   refine X3q (tm:=inferInstance) Q.sat e1 fun ib e9 el d4 ao dw=>?_
   have br:=(Array.getElem?_eq_some_iff.1 e1).1
   refine Kp (fun d _ w'=> ∃(W:Q5) (O:Array Nat),d=es.toList.countP (fun e=> !O.contains e.born)∧Stp w σ w' W∧SLe cg W∧W N=none∧w'.heap[N]? =some (.map es al)∧It W w' ib N es al O∧ ∀e∈es.toList,e.born∈O→ ∀k,e.key=S k→Yx l c.name k=false) _
    ⟨el, #[],rfl,Q.trans ao,⟨ao.le⟩,(ao.old N br).trans ct,(ao.bel.block N br).trans e1,dw,by simp⟩ ?_
   rintro ch d x dd fh ⟨c2,O,rfl,bp,ap,c4,ax,a5,bb⟩ eo
   have dg:w.heap.size≤ib:=Nat.le_trans Q.bel.size d4
   refine X3z a5 ax e4 (fun c5=>?_) fun e dc bh be bu b9 db=>?_
   ·refine J5 (vs:=[_]) rfl ?_
    refine Z7 ?_
    have:((Wv l c.name).any fun m=>Yx l c.name m.name)=false:=by
     rw[List.any_eq_false]
     intro m hm
     obtain ⟨e,he,bn⟩:=cx m.name ((bl.c m.name).2 ⟨m,hm,rfl⟩)
     rw[bb e he (c5 e he) _ bn];simp
    rw[this] at h
    exact h _ _ bp
   ·refine J5 (vs:=[_,_,_]) rfl ?_
    refine J3 ?_
    have an:dc.heap[N]? =some (.map es al):=by
     rw[bu.block N (Array.getElem?_eq_some_iff.1 ax).1 (by omega)];exact ax
    have b8:=a5.1
    have aj:Stp w σ dc c2:=bp.kp bu fun k hk=>by rw[hk];exact ⟨dg,b8⟩
    refine X2o db an bh (e3.imp fun cc=>Nat.ne_of_lt cc) ?_
    refine J5 (vs:=[_,_]) rfl ?_
    obtain ⟨k,bn,d6⟩:=dh e bh
    have ey:SLe cg c2:=ap
    refine X7 aj.sat (y.lift ap) rfl ?_
    rw[fa]
    refine ld aj.sat (z.lift ap) rfl ?_
    rw[bn]
    refine X0e aj.sat (ht.lift ⟨aj.le⟩) ok fun pv cv hv fp fb L cz=>?_
    refine J5 (vs:=[_,_,_]) rfl ?_
    refine J5 (vs:=[_,_,_]) rfl ?_
    refine J5 (vs:=[_,_,_]) rfl ?_
    refine Y9 L.sat (by rfl) rfl (Rep.one cz) fun ft d0 d5 X b0=>?_
    have a3:=(aj.trans L).trans X
    have U:Yx l c.name k=true→ ∀{w8:World} {Z:Q5},Stp w σ w8 Z→K (.int .i64 67) w8:=fun hb w8 Z q=>by
     obtain ⟨m,hm,ca⟩:=(bl.c k).1 d6
     have:((Wv l c.name).any fun m=>Yx l c.name m.name)=true:=List.any_eq_true.2 ⟨m,hm,by rw[ca];exact hb⟩
     rw[this] at h
     exact h _ _ q
    have b4:Yx l c.name k=false→ch () d0:=fun hb=>by
     have cr: ∀e':MapEntry,e'.born∈O.push e.born↔e'.born∈O∨e'.born=e.born:=fun e'=>by simp
     refine eo _ _ _ ?_ ⟨d5,O.push e.born,rfl,a3,ap.more ⟨fun b o h=>X.le _ _ (L.le _ _ h)⟩,?_,?_,(b9.step L).step X,fun e' df d9 k' cf=>?_⟩
     ·refine Q3T (fun x _ hx=>?_) ⟨e,bh,?_,?_⟩
      ·simp only[Bool.not_eq_true',Array.contains_push,Bool.or_eq_false_iff] at hx⊢
       exact hx.1
      ·simpa using be
      ·simp
     ·have a2:=(Array.getElem?_eq_some_iff.1 an).1
      rw[X.old N (Nat.lt_of_lt_of_le a2 L.bel.size),L.old N a2];exact c4
     ·have a2:=(Array.getElem?_eq_some_iff.1 an).1
      rw[X.bel.block N (Nat.lt_of_lt_of_le a2 L.bel.size),L.bel.block N a2];exact an
     ·rcases (cr e').1 d9 with h1 | h1
      ·exact bb e' df h1 k' cf
      ·have:e'=e:=by
        have dx:(es.toList.map (·.born)).Nodup:=e3.imp fun cc=>Nat.ne_of_lt cc
        obtain ⟨i,hi,rfl⟩:=List.getElem_of_mem df
        obtain ⟨j,hj,rfl⟩:=List.getElem_of_mem bh
        have h5:(es.toList.map (·.born))[i]'(by simpa using hi)=(es.toList.map (·.born))[j]'(by simpa using hj):=by simpa using h1
        have:=(List.getElem_inj dx).1 h5
        subst this;rfl
       subst this
       rw[bn] at cf
       have:k=k':=by
        have:=cf
        simp at this
        exact this
       rw[←this];exact hb
    unfold Yx at U b4
    cases c9:V2 l c.name k with
    | none=>
     rw[c9] at U
     simp only[↓M2,M2,Mb,reduceIte,Option.isSome_none]
     exact U rfl a3
    | some r=>
     rw[c9] at U b4 b0
     simp only[↓M2,M2,Mb,reduceIte,Option.isSome_some]
     refine ld X.sat b0 rfl ?_
     (try simp only[↓M2,M2,Mb,reduceIte])
     cases bj:r.2.abs with
     | true=>
      exact Q7 (fun _=>U bj a3) (fun e=>absurd (bj.symm.trans e) (by simp))
     | false=>
      exact Q7 (fun e=>absurd (bj.symm.trans e) (by simp)) (fun _=>b4 bj))
end Go.Proofs.YtjdiakhipmggjaaGreatDoor

namespace Go.Emb
open Go.RowKit Go.Hm
variable {P : Program} {w w0 w1 w' w'' : World} {K : Value → World → Prop} {σ σ0 σ1 σ' : Q5}
theorem X3l {t e:TypeId} {n a:Nat} {z:Value} [ta:TA P t n e] [tz:TZ P e 1 a z] [tg:TG P e false] {cs:List Value} {i:Nat} {v:Value} (d:i<n) (c:cs[i]? =some v) (h:K v w):S6 P t (.agg cs.toArray) (I i) w K:=by
 unfold S6
 have b:(0:Int)≤i∧(i:Int)<n:=⟨by omega,by omega⟩
 rw[X9 (v:=v) (w':=w) (by
  simp only[Instr.index,asIntOf,Sem.run_bind,Sem.run_pure,Result.andThen_ok,run_underlying ta.h,b,and_self,if_true,L2 tz,part,Xu tg]
  simp[c])]
 exact h
theorem Q7O {α:Type} {R:Q5→α→List Value→Prop} {B sz:Nat} {e:TypeId} {v:Value} {xs:List α} {a t:TypeId} {cs:List Bool} [ts:TS P a e] (h:V5 B e sz R σ w v xs) (b:K (I xs.length) w):X3 P .len [a] t cs [v] w K:=Q1t (J8.of_acc h) b
theorem Jt {α:Type} {R:Q5→α→List Value→Prop} {B sz:Nat} {e:TypeId} {v:Value} {xs:List α} (h:V5 B e sz R σ w v xs):v.cells= #[v]∧v.oneCell'=true:=by
 obtain ⟨cells,a,_⟩:=h
 rcases a.2 with ⟨rfl,_⟩ | ⟨g,b,c,rfl,_⟩<;>exact ⟨rfl,rfl⟩
end Go.Emb
namespace Go.Proofs.YtjdiakhipmggjaaGreatDoor
open Go.Emb Go.RowKit Go.Kd Go.Hm
variable {w : World} {K : Value → World → Prop} {σ : Q5} {v : Value} {l : List Cla}
theorem X1d (B:X2 w σ) (z:Glb σ) (h: ∀t w' σ',Stp w σ w' σ'→V5 w.heap.size T.b 8 V0 σ' w' t G2→K t w'):Q1 P F.cD [] w K:=Q5x (by
 unfold Q0O
 refine W1 (cells:= #[S J9,S [], .slice none 0 0, .bool false, .bool false, .bool false, .slice none 0 0, .slice none 0 0]) (by kernel_rfl) ?_
 refine W1 (cells:= #[S Qg,S D0, .bool false]) (by kernel_rfl) ?_
 refine P6 (R:=R3) (sz:=3) B [.agg #[S Qg,S D0, .bool false]] [⟨Qg,D0,false⟩] rfl rfl (by simp;rfl) rfl ⟨⟨rfl,by decide,by decide⟩,trivial⟩ fun L w1 σ1 f o=>?_
 have i:=o
 obtain ⟨y,b,rfl,_⟩:=i
 refine W1 (cells:= #[S L6,S J9, .slice none 0 0, .bool false, .bool false, .bool false, .slice y 1 b, .slice none 0 0]) (by kernel_rfl) ?_
 refine Yu (R:=V0) (sz:=8) f [.agg #[S J9,S [], .slice none 0 0, .bool false, .bool false, .bool false, .slice none 0 0, .slice none 0 0], .agg #[S L6,S J9, .slice none 0 0, .bool false, .bool false, .bool false, .slice y 1 b, .slice none 0 0]]
  [⟨J9,[],[],false,false,false,[],[]⟩,⟨L6,J9,[],false,false,false,[⟨Qg,D0,false⟩],[]⟩] rfl rfl (by simp;exact ⟨rfl,rfl⟩) rfl
  ⟨⟨_,_,_,rfl,Sl.nil,Sl.nil,Sl.nil,by decide,by decide⟩,⟨_,_,_,rfl,Sl.nil,o,Sl.nil,by decide,by decide⟩,trivial⟩ fun E J j p _=>?_
 have u:=z.lift ⟨f.le⟩
 refine Y4 (cs:=U4.map S) j.sat u.flt rfl ?_
 refine E3 6 (fun n a w'=> ∃σ',Stp w σ w' σ'∧V5 w.heap.size T.b 8 V0 σ' w' a ([⟨J9,[],[],false,false,false,[],[]⟩,⟨L6,J9,[],false,false,false,[⟨Qg,D0,false⟩],[]⟩]++(U4.take n).map fun n=>⟨n,L6,[],false,false,true,[],[]⟩)) ⟨σ1,f.trans j,p⟩ fun n a M d O m=>?_
 obtain ⟨H,k,e⟩:=m
 have C:U4.length=6:=rfl
 refine Z2 ?_
 refine Q7 (fun hh=>?_) (fun hh=>?_)
 ·have c:n<6:=by have:=of_decide_eq_true hh;omega
  refine X3l (v:=S (U4[n]'(by omega))) c (by rw[List.getElem?_map,List.getElem?_eq_getElem (by omega)];rfl) ?_
  refine W1 (cells:= #[S (U4[n]'(by omega)),S L6, .slice none 0 0, .bool false, .bool false, .bool true, .slice none 0 0, .slice none 0 0]) (by kernel_rfl) ?_
  have g:(U4[n]'(by omega)).length≤10:=by
   have: ∀x∈U4,x.length≤10:=by decide
   exact this _ (List.getElem_mem _)
  refine Jm (x:=⟨U4[n]'(by omega),L6,[],false,false,true,[],[]⟩) k e ⟨_,_,_,rfl,Sl.nil,Sl.nil,Sl.nil,Nat.le_trans g (by decide),(by decide:L6.length≤U0)⟩ rfl rfl rfl (by simp;omega) (by simp;omega) fun s t N D A r q _=>?_
  refine L8 ?_
  refine Z9 (by omega) c ⟨D,r,?_⟩
  rw[List.take_add_one,List.getElem?_eq_getElem (by omega),List.map_append,←List.append_assoc]
  exact q
 ·have c: ¬n<6:=by have:=of_decide_eq_false hh;omega
  rw[List.take_of_length_le (by omega)] at e
  exact h _ _ _ k e)
end Go.Proofs.YtjdiakhipmggjaaGreatDoor

namespace Go.Hm
open Go.Kd
def O8 {α:Type} (f:α→Int):List α→Nat→Option (Nat×Int)
 | [],_=>none
 | x::r,i=>if f x=0 then O8 f r (i+1) else some (i,f x)
theorem P1 {α:Type} {f:α→Int}: ∀{l:List α} {i:Nat},O8 f l i=none→ ∀x∈l,f x=0
 | [],_,_=>by simp
 | x::r,i,h=>by
  simp only[O8] at h
  split at h
  ·rename_i a
   intro y hy
   rcases List.mem_cons.1 hy with rfl | hy
   ·exact a
   ·exact P1 h y hy
  ·cases h
def Rq (a:List Cla):Option Nat:=(List.range a.length).find? fun i=>(Z1 (a.take i) (Y2 a i)).isSome
def Q4 (l:List Cla):List Cla:=G2++l
def Ru (a:Cla→Int) (l:List Cla):Option (Int×Int):=match O8 a l 0 with
 | some (i,e)=>some (i,e)
 | none=>match Rq (Q4 l) with
  | some i=>some ((i:Int)-8,60)
  | none=>match O8 (fun c=>(O9 (Q4 l) c:Int)) l 0 with
   | some (i,e)=>some (i,e)
   | none=>match l.findIdx? (P3 (Q4 l)) with
    | some i=>some (i,63)
    | none=>match (V7 (Q4 l) 8).find? fun j=> !decide (V6 (Q4 l) ((Q4 l).getD j Cla.zero)=0) with
     | some j=>some ((j:Int)-8,V6 (Q4 l) ((Q4 l).getD j Cla.zero))
     | none=>none
theorem Q4U {s:X0} (h:name s=true):s.length≤32:=by
 cases s with
 | nil=>simp
 | cons c r=>simp only[name,Bool.and_eq_true,decide_eq_true_eq] at h;exact h.1.1
theorem X0r {s:X0} (h:M6 s=true):s.length≤32:=Q4U (Mt (by rw[h,Bool.or_true]))
theorem Q8k {s:X0} (h:D1 s=true):s.length≤32:=by
 cases s with
 | nil=>simp
 | cons c r=>simp only[D1,Bool.and_eq_true] at h;exact Q4U h.1
theorem Gr {a:List Cla} (h:Rq a=none):T1 a:=by
 unfold Rq at h
 rw[List.find?_eq_none] at h
 unfold T1
 rw[List.nodup_iff_pairwise_ne,List.pairwise_iff_getElem]
 intro i j d b g e
 simp only[List.length_map] at d b
 have:=h j (by simp;exact b)
 apply this
 simp only[List.getElem_map] at e
 cases f:Z1 (a.take j) (Y2 a j) with
 | some _=>rfl
 | none=>
  have c:=List.findIdx?_eq_none_iff.1 f a[i] (List.mem_take_iff_getElem.2 ⟨i,by omega,rfl⟩)
  have k:Y2 a j=a[j].name:=by unfold Y2;rw[List.getD_eq_getElem?_getD,List.getElem?_eq_getElem b];rfl
  rw[k] at c
  simp[e] at c
theorem Jw: ∀c∈G2,Qj c∧Nm c∧c.like=[]:=by
 have h: ∀c∈G2,(c.like=[]∧c.methods=[]∧c.fields.length≤1∧c.name.length≤100∧ ∀f∈c.fields,f.name.length≤100∧f.kind.length≤100):=by decide
 intro c e
 obtain ⟨b,a,i,d,g⟩:=h c e
 refine ⟨⟨by rw[b];simp,by omega,by rw[a];simp,by rw[a];simp⟩,⟨d,g,by rw[a];simp⟩,b⟩
theorem X0t: ∀c∈G2,(c.name=J9∧U3 c=[[]])∨(c.name=L6∧U3 c=[J9])∨(c.name∈U4∧U3 c=[L6]):=by decide
theorem Q4V {l:List Cla} (q:T1 (Q4 l)) (w: ∀c∈l,c.name≠[]) (z: ∀c∈l,P3 (Q4 l) c=false):Zy (Q4 l):=by
 have k:lk (Q4 l) []=none:=by
  cases h:lk (Q4 l) [] with
  | none=>rfl
  | some c=>
   obtain ⟨e,hm,_⟩:=V3 h
   rcases List.mem_append.1 hm with hm | hm
   ·have: ∀c∈G2,c.name≠[]:=by decide
    exact absurd e (this c hm)
   ·exact absurd e (w c hm)
 have j:lk (Q4 l) J9=some ⟨J9,[],[],false,false,false,[],[]⟩:=q.lk (c:=⟨J9,[],[],false,false,false,[],[]⟩) (List.mem_append_left _ (by decide))
 have i:lk (Q4 l) L6=some ⟨L6,J9,[],false,false,false,[⟨Qg,D0,false⟩],[]⟩:=q.lk (c:=⟨L6,J9,[],false,false,false,[⟨Qg,D0,false⟩],[]⟩) (List.mem_append_left _ (by decide))
 have o: ∀b,¬Reach (lk (Q4 l)) [] b:=fun b h=>by obtain ⟨c,f⟩:=h.left;rw[k] at f;cases f
 have p: ∀b,Reach (lk (Q4 l)) J9 b→b=J9:=by
  intro b h
  cases h with
  | refl=>rfl
  | step f d g=>
   rw[j] at f;cases f
   simp[U3] at d;subst d
   exact absurd g (o b)
 have y: ∀b,Reach (lk (Q4 l)) L6 b→b=L6∨b=J9:=by
  intro b h
  cases h with
  | refl=>exact .inl rfl
  | step f d g=>
   rw[i] at f;cases f
   simp[U3] at d;subst d
   exact .inr (p b g)
 rintro a ⟨c,f,u,d,g⟩
 obtain ⟨e,hm,_⟩:=V3 f
 rcases List.mem_append.1 hm with hm | hm
 ·rcases X0t c hm with ⟨m,n⟩ | ⟨m,n⟩ | ⟨m,n⟩<;>rw[n] at d<;>simp at d<;>subst d
  ·exact o _ g
  ·have:=p _ g
   rw[←e,m] at this
   exact absurd this (by decide)
  ·have s: ∀x∈U4,x≠L6∧x≠J9:=by decide
   obtain ⟨t,v⟩:=s _ m
   rw[←e] at g
   rcases y _ g with h | h
   ·exact t h
   ·exact v h
 ·have:=z c hm
  unfold P3 at this
  have r:=List.any_eq_false.1 this u d
  apply r
  rw[List.contains_iff_mem,Uk,e];exact g
end Go.Hm
namespace Go.Proofs.YtjdiakhipmggjaaGreatDoor
open Go.Emb Go.RowKit Go.Kd Go.Hm
theorem Gm {s:X0} (h:right s=true):s.length≤38:=by
 simp only[right,Bool.and_eq_true,decide_eq_true_eq] at h
 have e:=Q1n s
 have:(base s).1.length≤32:=by
  have d:=h.2
  have a:=Mt d
  cases b:(base s).1 with
  | nil=>simp
  | cons c r=>
   rw[b] at a
   simp only[name,Bool.and_eq_true,decide_eq_true_eq] at a
   exact a.1.1
 omega
theorem Be {c:Cla} (h:D6 c=0):Qj c∧Nm c∧c.name≠[]:=by
 unfold D6 at h
 split at h
 ·cases h
 ·rename_i b
  split at h
  ·rename_i i
   simp only[Zl,Bool.or_eq_true,decide_eq_true_eq,not_or,List.any_eq_true,not_exists,not_and] at b
   obtain ⟨⟨⟨n,t⟩,u⟩,v⟩:=b
   simp only[Ng,Bool.and_eq_true] at i
   obtain ⟨⟨⟨⟨⟨⟨⟨⟨l,z⟩,w⟩,B⟩,y⟩,s⟩,A⟩,q⟩,r⟩:=i
   have a:M6 c.name=true:=List.all_eq_true.1 l c.name (by simp)
   have d: ∀m∈c.methods,m.params.length≤32∧m.catches.length≤32∧m.code.length≤200:=fun m b=>by
    have:=n m b
    simp only[Wa,Bool.or_eq_true,decide_eq_true_eq,not_or] at this
    omega
   refine ⟨⟨by omega,by omega,by omega,fun m b=>by have:=d m b;unfold SmM;omega⟩,⟨by have:=X0r a;omega,fun f k=>?_,fun m b=>?_⟩,fun e=>by rw[e] at a;simp[M6] at a⟩
   ·have:=List.all_eq_true.1 q f k
    simp only[Ep,Bool.and_eq_true] at this
    have j:=Q8k this.1
    have g:=Gm this.2
    omega
   ·have:=List.all_eq_true.1 r m b
    simp only[I2,Bool.and_eq_true,Bool.or_eq_true,decide_eq_true_eq,List.all_eq_true] at this
    obtain ⟨⟨⟨_,j⟩,g⟩,_⟩:=this
    refine ⟨?_,fun p o=>by have:=Gm (j p o);omega⟩
    rcases g with e | e
    ·rw[e];simp
    ·have:=Gm e;omega
  ·cases h
end Go.Proofs.YtjdiakhipmggjaaGreatDoor

namespace Go.Hm
open Go.Kd
theorem We {α:Type} {f:α→Int} {xs:List α} {n:Nat} (h:n<xs.length) (a:O8 f xs 0=O8 f (xs.drop n) n):O8 f xs 0=if f xs[n]=0 then O8 f (xs.drop (n+1)) (n+1) else some (n,f xs[n]):=by
 rw[a,List.drop_eq_getElem_cons h];rfl
theorem Q7Y {a:List Cla} {n:Nat} (h:n<a.length) (k:X0):Z1 (a.take (n+1)) k=match Z1 (a.take n) k with
 | some i=>some i
 | none=>if a[n].name=k then some n else none:=by
 unfold Z1
 rw[List.take_add_one,List.getElem?_eq_getElem h]
 simp only[Option.toList_some,List.findIdx?_append]
 cases (a.take n).findIdx? fun c=>decide (c.name=k) with
 | some i=>rfl
 | none=>
  simp only[Option.none_or,List.findIdx?_cons,List.findIdx?_nil,List.length_take]
  by_cases e:a[n].name=k
  ·simp[e];omega
  ·simp[e]
end Go.Hm
namespace Go.Proofs.YtjdiakhipmggjaaGreatDoor
open Go.Emb Go.RowKit Go.Kd Go.Hm
variable {w : World} {K : Value → World → Prop} {σ : Q5} {v : Value} {l : List Cla}
theorem Gx {a:List Cla} {n:Nat} (h:n<a.length):Y2 a n=a[n].name:=by unfold Y2;rw[List.getD_eq_getElem?_getD,List.getElem?_eq_getElem h];rfl
set_option maxHeartbeats 1000000 in
theorem X3r {lv:Value} (hs:X2 w σ) (hg:Glb σ) (hl:Sl 8 V0 σ lv l) (hlen:l.length≤1000) (hsm: ∀c∈l,Qj c)
 (h1: ∀i e w' σ',Ru D6 l=some (i,e)→Stp w σ w' σ'→K (.tuple #[.pointer none,I i,I e]) w')
 (h0: ∀v w' σ',Ru D6 l=none→Stp w σ w' σ'→Tab σ' v (Q4 l)→Ok (Q4 l)→T1 (Q4 l)→K (.tuple #[v,I 0,I 0]) w'):Q1 P F.cL [lv] w K:=Q8c (by
 unfold Q2G
 have hgl:G2.length=8:=rfl
 have hal:(Q4 l).length=8+l.length:=by simp[Q4,hgl]
 refine X1d hs hg fun x0 w1 σ1 hk1 ha1=>?_
 refine Q3h hk1.sat fun r w2 hr hk2 hm2=>?_
 have ha2:=ha1.up hk2
 have hx0:x0.cells= #[x0]∧x0.oneCell'=true:=Jt ha1
 have hx0s: ∃a n c,x0= .slice a n c:=by
  obtain ⟨cells,q1,_⟩:=ha1
  rcases q1.2 with ⟨rfl,_⟩ | ⟨g,cap,cur,rfl,_⟩<;>exact ⟨_,_,_,rfl⟩
 have hx0r:x0.ownBlock≠some r:=fun e=>by have:=(ha1.mem r e).2.1;omega
 obtain ⟨a0,n0,c0,hx0e⟩:=hx0s
 rw[hx0e]
 refine W1 (cells:= #[.slice a0 n0 c0, .map (some r)]) (by kernel_rfl) ?_
 rw[←hx0e]
 refine En (cs:=[x0, .map (some r)]) hk2.sat fun bt w3 σ3 hbt hk3 hbm=>?_
 have hS3:=(hk1.trans hk2).trans hk3
 have ha3:=ha2.up hk3
 have hm3:=hm2.up hk3
 have hrw:w.heap.size≤r:=Nat.le_trans hk1.bel.size hr
 have hrl:r<w2.heap.size:=hm2.lt
 have hbtw:w.heap.size≤bt:=M7 hbt (hk1.trans hk2)
 have hrbt:r≠bt:=by omega
 have hx0b:x0.ownBlock≠some bt:=fun e=>by have:=(ha2.mem bt e).2.1;omega
 rw[M3,fa]
 refine Xx hbm rfl ?_
 refine Q7O ha3 ?_
 rw[hgl]
 have hl3:=hl.up hS3
 refine Q8 hl3 ?_
 -- classes, each by itself
 refine U1 l.length (fun n w'=> ∃σ' x,Stp w σ w' σ'∧SLe σ3 σ'∧Y1 σ' w' bt [x, .map (some r)]∧V5 w.heap.size T.b 8 V0 σ' w' x (G2++l.take n)∧C2 σ' w' r []∧x.ownBlock≠some bt∧x.ownBlock≠some r∧O8 D6 l 0=O8 D6 (l.drop n) n)
  ⟨σ3,x0,hS3,SLe.refl _,hbm,by simpa using ha3,hm3,hx0b,hx0r,rfl⟩ fun n w4 d hn hinv=>?_
 obtain ⟨σ4,x,hS4,le4,hb4,ha4,hm4,hxb,hxr,hfb⟩:=hinv
 refine Z2 ?_
 refine Q7 (fun hh=>?_) (fun hh=>?_)
 ·have hn':n<l.length:=by simpa using hh
  refine M9 (hl3.lift le4) hn' fun p cells hl1 hl2 hr1=>?_
  refine Y4 hS4.sat hl1 hl2 ?_
  refine Y9 hS4.sat (by rfl) hl2 (Rep.one hr1) fun q w5 σ5 hk5 hq5=>?_
  have hS5:=hS4.trans hk5
  have hr5:=RCl_lift hr1 ⟨hk5.le⟩
  refine Y4 hk5.sat hq5 hl2 ?_
  have hsmn:=hsm _ (List.getElem_mem hn')
  refine X1f hk5.sat (hg.lift ⟨hS5.le⟩) hr5 hsmn.1 fun w6 σ6 hk6=>?_
  have hS6:=hS5.trans hk6
  have hfb2:=We hn' hfb
  refine Zz ?_
  refine Q7 (fun hh2=>?_) (fun hh2=>?_)
  ·have hne: ¬D6 l[n]=0:=by simpa using hh2
   rw[if_neg hne] at hfb2
   refine h1 _ _ _ _ ?_ hS6
   unfold Ru
   rw[hfb2]
  ·have hz:D6 l[n]=0:=by simpa using hh2
   rw[if_pos hz] at hfb2
   have hk56:=hk5.trans hk6
   have hb6:=hb4.up hk56
   have ha6:=ha4.up hk56
   have hm6:=hm4.up hk56
   have hq6:=hq5.up hk6
   have hr6:=RCl_lift hr5 ⟨hk6.le⟩
   have hxs: ∀k,x.ownBlock=some k→k<w6.heap.size:=fun k hk=>(ha6.mem k hk).2.1
   refine U2 hk6.sat ?_
   refine X4 (.pointer (some ⟨bt,0,none⟩)) (fun w hb=>by rw[M3];exact X6 rfl) ?_
   refine X4 (.pointer (some ((⟨bt,0,none⟩:Addr).add 0))) (fun t w hb e=>by rw[e,fa];exact X6 rfl) ?_
   refine X4 x (fun t w hb e=>by rw[e];exact Xx (hb6.step hb.stp) rfl (X6 rfl)) ?_
   refine X4 (.agg cells.toArray) (fun w hb=>Y4 hb.sat hq6 hl2 (X6 rfl)) ?_
   refine Wb (Φ:=fun σ' v=> ∃ds:List Value,v= .agg ds.toArray∧ds.length=8∧V0 σ' l[n] ds) (fun t w hb e=>by
    rw[e];exact X0C hb.sat hr6 hsmn fun lv fv mv w' σ' hk hrc=>Rm hb hk ⟨_,rfl,rfl,hrc⟩) ?_
   refine Wb (w:=w6) (σ:=σ6) (Φ:=fun σ' v=>Sl 8 V0 σ' v [l[n]]) (fun t w hb e=>by
    obtain ⟨σ',hk,ds,rfl,hd1,hd2⟩:=e
    refine P6 (R:=V0) (sz:=8) hk.sat [.agg ds.toArray] [l[n]] rfl rfl (by simpa [Value.cells] using hd1) rfl ⟨by simpa [Value.cells] using hd2,trivial⟩ fun u w2 σ2 hk2 hu=>?_
    exact ⟨hk2.bel,σ2,hk.trans hk2,hu⟩) ?_
   rintro t43 t44 t45 t46 t47 t48 w7 hb7 _ _ e45 _ _ ⟨σ8,hk8,hu8⟩
   subst e45
   have hS8:=hS6.trans hk8
   have hb8:=hb6.up hk8
   have ha8:=ha6.up hk8
   have hm8:=hm6.up hk8
   have hbl:=hb6.lt
   have hml:=hm6.lt
   refine Vw hS8 ha8 hu8 rfl (by simp[hgl];omega) (by simp[hgl];omega) fun x' w9 hn9 hS9 ha9 hat9=>?_
   have hb9:=hb8.nx hn9 hxb
   have hm9:=hm8.nx hn9 hxr
   have hxb':x'.ownBlock≠some bt:=fun e=>by
    rcases hat9 with e2 | e2
    ·exact hxb (e2▸e)
    ·have:=e2 bt e;have:=hk8.bel.size;omega
   have hxr':x'.ownBlock≠some r:=fun e=>by
    rcases hat9 with e2 | e2
    ·exact hxr (e2▸e)
    ·have:=e2 r e;have:=hk8.bel.size;omega
   obtain ⟨hxc1,hxc2⟩:=Jt ha9
   rw[M3,fa]
   refine Ug hb9 (by simp) hxc1 hxc2 fun w10 u10 hb10=>?_
   have hS10:=u10.stp hS9 hbtw hb9.1
   have k10:Kpt (fun k=>k=bt) w9 w10:=Kpt.of_upd u10 rfl
   refine L8 ?_
   refine Y6 hl3.max hn' ⟨σ8,x',hS10,le4.more ⟨fun b o e=>hk8.le _ _ (hk56.le _ _ e)⟩,hb10,?_,hm9.kp k10 hrbt,hxb',hxr',hfb2⟩
   have:=ha9.kp k10 fun k hk e=>hxb' (e▸hk)
   rw[List.take_add_one,List.getElem?_eq_getElem hn',←List.append_assoc]
   exact this
 have hn': ¬n<l.length:=by simpa using hh
 rw[List.take_of_length_le (by omega)] at ha4
 rw[List.drop_eq_nil_of_le (by omega)] at hfb
 have hfb:O8 D6 l 0=none:=hfb
 have hck:=P1 hfb
 have hcf: ∀c∈l,Qj c∧Nm c∧c.name≠[]:=fun c hc=>Be (hck c hc)
 have hsmall: ∀c∈Q4 l,Qj c:=fun c hc=>by
  rcases List.mem_append.1 hc with hc | hc
  ·exact (Jw c hc).1
  ·exact (hcf c hc).1
 have hnmall: ∀c∈Q4 l,Nm c:=fun c hc=>by
  rcases List.mem_append.1 hc with hc | hc
  ·exact (Jw c hc).2.1
  ·exact (hcf c hc).2.1
 have hlenall:(Q4 l).length≤100000:=by omega
 unfold Ru at h1 h0
 rw[hfb] at h1 h0
 simp only at h1 h0
 -- from now on the classes stay
 obtain ⟨σ5,hS5,hv5,le5,old5⟩:=ha4.keep hS4
 have hb5:Y1 σ5 w4 bt _:=⟨(old5 bt fun e=>hxb e.symm).trans hb4.1,hb4.2⟩
 have hm5:C2 σ5 w4 r []:=⟨(old5 r fun e=>hxr e.symm).trans hm4.1,hm4.2⟩
 obtain ⟨σ6,hS6,hb6,le6,old6⟩:=hb5.keep hS5 hbtw
 have hm6:C2 σ6 w4 r []:=⟨(old6 r hrbt).trans hm5.1,hm5.2⟩
 have hv6:Sl 8 V0 σ6 x (Q4 l):=hv5.le le6
 clear hb5 hb4 ha4
 rw[M3,fa]
 refine ld hS6.sat hb6 rfl ?_
 refine Q8 hv6 ?_
 refine U1 (Q4 l).length (fun n w'=> ∃σ' m,Stp w σ w' σ'∧SLe σ6 σ'∧C2 σ' w' r m∧(∀k,S8 m k=(Z1 ((Q4 l).take n) k).map (fun i:Nat=>I (i:Int)))∧ ∀j,j<n→(Z1 ((Q4 l).take j) (Y2 (Q4 l) j)).isSome=false)
  ⟨σ6,[],hS6,SLe.refl _,hm6,by simp[S8,Z1],by intro j hj;omega⟩ fun n w5 d hn2 hinv=>?_
 obtain ⟨σ7,m,hS7,le7,hm7,hlm,hnd⟩:=hinv
 refine Z2 ?_
 refine Q7 (fun hh2=>?_) (fun hh2=>?_)
 ·have hn3:n<(Q4 l).length:=by simpa using hh2
  refine M9 (hv6.lift le7) hn3 fun p cells hl1 hl2 hr1=>?_
  refine Y4 hS7.sat hl1 hl2 ?_
  refine Y9 hS7.sat (by rfl) hl2 (Rep.one hr1) fun q w6 σ8 hk8 hq8=>?_
  obtain ⟨lv',fv,mv,rfl,f1,f2,f3,f4,f5⟩:=hr1
  have hS8:=hS7.trans hk8
  have le8:SLe σ6 σ8:=le7.more ⟨hk8.le⟩
  have hm8:=hm7.up hk8
  have hb8:=hb6.lift le8
  rw[fa]
  refine ld hk8.sat hq8 rfl ?_
  refine Du ?_
  unfold Jg
  rw[M3,fa]
  refine ld hk8.sat hb8 rfl ?_
  refine Q9B X8 hm8.2 _ ?_
  refine J5 (vs:=[_,_]) rfl ?_
  refine J5 (vs:=[_,_]) rfl ?_
  have hna:=Gx hn3
  have hfd:=hlm (Q4 l)[n].name
  cases hfc:Z1 ((Q4 l).take n) (Q4 l)[n].name with
  | some i=>
   rw[hfc] at hfd
   rw[hfd]
   refine J3 ?_
   have hdup:Rq (Q4 l)=some n:=by
    unfold Rq
    rw[List.find?_range_eq_some]
    refine ⟨by rw[hna,hfc];rfl,by simpa using hn3,fun j hj=>by rw[hnd j hj];rfl⟩
   refine Zg ⟨by omega,by omega⟩ ?_
   refine h1 _ _ _ _ ?_ hS8
   rw[hdup]
   rfl
  | none=>
   rw[hfc] at hfd
   rw[hfd]
   refine Z7 ?_
   refine U2 hk8.sat ?_
   refine X4 (.pointer (some ⟨bt,0,none⟩)) (fun w hb=>by rw[M3];exact X6 rfl) ?_
   refine X4 (.pointer (some ((⟨bt,0,none⟩:Addr).add 1))) (fun t w hb e=>by rw[e,fa];exact X6 rfl) ?_
   refine X4 (.pointer (some (q.add 0))) (fun w hb=>by rw[fa];exact X6 rfl) ?_
   refine X4 (.map (some r)) (fun t w hb e=>by rw[e];exact ld hb.sat hb8 rfl (X6 rfl)) ?_
   refine X4 (S (Q4 l)[n].name) (fun t w hb e=>by rw[e];exact ld hb.sat hq8 rfl (X6 rfl)) ?_
   rintro t71 t72 t74 t73 t75 w9 hb9 _ _ _ rfl rfl
   refine Ir X8 (hm8.up hb9.stp) _ (I n) fun w10 u10 hm10=>?_
   have hS9:=hS8.trans hb9.stp
   have hS10:=u10.stp hS9 hrw hm10.1
   refine L8 ?_
   refine Y6 (by omega) hn3 ⟨σ8,_,hS10,le8,hm10,fun k=>?_,fun j hj=>?_⟩
   ·rw[Q4r,Q7Y hn3 k]
    by_cases e:(Q4 l)[n].name=k
    ·subst e
     rw[if_pos rfl,hfc];simp
    ·rw[if_neg e,hlm k]
     cases Z1 ((Q4 l).take n) k with
     | some i=>rfl
     | none=>simp[e]
   ·by_cases e:j=n
    ·subst e;rw[hna,hfc];rfl
    ·exact hnd j (by omega)
 have hn3: ¬n<(Q4 l).length:=by simpa using hh2
 have hne:n=(Q4 l).length:=by omega
 subst hne
 rw[List.take_of_length_le (Nat.le_refl _)] at hlm
 have hdup:Rq (Q4 l)=none:=by
  unfold Rq
  rw[List.find?_eq_none]
  intro j hj
  rw[hnd j (by simpa using hj)];simp
 rw[hdup] at h1 h0
 simp only at h1 h0
 have hown:=Gr hdup
 obtain ⟨σ8,hS8,hm8,le8,_⟩:=hm7.keep hS7 hrw
 have le68:SLe σ6 σ8:=le7.more ⟨le8⟩
 have ht8:Tab σ8 (.pointer (some ⟨bt,0,none⟩)) (Q4 l):=⟨⟨bt,0,none⟩,x,r,m,rfl,hb6.lift le68,hv6.lift le68,hm8,hlm⟩
 have hb8:=hb6.lift le68
 have hv8:=hv6.lift le68
 clear hm7 hm8 hh2 hn3 hn2 hh hn' hn hnd
 have hdr:(Q4 l).drop 8=l:=by simp[Q4,hgl]
 rw[M3,fa]
 refine ld hS8.sat hb8 rfl ?_
 refine Dq hv8 (some (I (8:Nat))) none 8 (Q4 l).length (.inr rfl) (.inl ⟨rfl,rfl⟩) (by omega) (Nat.le_refl _) fun v9 hv9=>?_
 rw[hdr,List.take_of_length_le (by omega)] at hv9
 refine Q8 hv9 ?_
 refine U1 l.length (fun n w'=> ∃σ',Stp w σ w' σ'∧SLe σ8 σ'∧O8 (fun c=>(O9 (Q4 l) c:Int)) l 0=O8 (fun c=>(O9 (Q4 l) c:Int)) (l.drop n) n) ⟨σ8,hS8,SLe.refl _,rfl⟩ fun n w6 d hn hinv=>?_
 obtain ⟨σ9,hS9,le9,hfu⟩:=hinv
 refine Z2 ?_
 refine Q7 (fun hh=>?_) (fun hh=>?_)
 ·have hn':n<l.length:=by simpa using hh
  refine M9 (hv9.lift le9) hn' fun p cells hl1 hl2 hr1=>?_
  refine Y4 hS9.sat hl1 hl2 ?_
  refine Y9 hS9.sat (by rfl) hl2 (Rep.one hr1) fun q w7 σ10 hk10 hq10=>?_
  have hS10:=hS9.trans hk10
  refine Y4 hk10.sat hq10 hl2 ?_
  have hfu2:=We hn' hfu
  refine X01 hk10.sat (ht8.lift (le9.more ⟨hk10.le⟩)) (RCl_lift hr1 ⟨hk10.le⟩) fun w8 σ11 hk11=>?_
  refine Zz ?_
  refine Q7 (fun hh2=>?_) (fun hh2=>?_)
  ·have hne: ¬(O9 (Q4 l) l[n]:Int)=0:=by simpa using hh2
   rw[if_neg hne] at hfu2
   refine h1 _ _ _ _ ?_ (hS10.trans hk11)
   rw[hfu2]
  ·have hz:(O9 (Q4 l) l[n]:Int)=0:=by simpa using hh2
   rw[if_pos hz] at hfu2
   refine L8 ?_
   exact Y6 hl3.max hn' ⟨σ11,hS10.trans hk11,le9.more ⟨fun b o e=>hk11.le _ _ (hk10.le _ _ e)⟩,hfu2⟩
 have hn': ¬n<l.length:=by simpa using hh
 rw[List.drop_eq_nil_of_le (by omega)] at hfu
 have hfu:O8 (fun c=>(O9 (Q4 l) c:Int)) l 0=none:=hfu
 rw[hfu] at h1 h0
 simp only at h1 h0
 have hup:=P1 hfu
 have ht9:=ht8.lift le9
 clear hh hn' hn
 rw[M3,fa]
 refine ld hS9.sat (hb8.lift le9) rfl ?_
 refine Dq (hv8.lift le9) (some (I (8:Nat))) none 8 (Q4 l).length (.inr rfl) (.inl ⟨rfl,rfl⟩) (by omega) (Nat.le_refl _) fun v10 hv10=>?_
 rw[hdr,List.take_of_length_le (by omega)] at hv10
 rw[A9]
 refine Fe (P3 (Q4 l)) hS9.sat hv10 (fun c cs w7 K hc hs7 hr hlen hK=>Z6 (first:=[.pointer (some ⟨bt,0,none⟩)]) (caps:=[]) ?_) fun w7 hb7=>?_
 ·exact X1V hs7 ht9 hlenall hsmall hr fun w' σ' hk=>hK w' hk.bel
 have hS10:=hS9.trans (Stp.of_below hS9.sat hb7)
 refine P0 ?_
 rw[T2]
 cases hlo:l.findIdx? (P3 (Q4 l)) with
 | some i=>
  refine J3 ?_
  refine h1 _ _ _ _ ?_ hS10
  rw[hlo];rfl
 | none=>
  rw[hlo] at h1 h0
  simp only at h1 h0
  refine Z7 ?_
  have hlo': ∀c∈l,P3 (Q4 l) c=false:=fun c hc=>List.findIdx?_eq_none_iff.1 hlo c hc
  have hacy:=Q4V hown (fun c hc=>(hcf c hc).2.2) hlo'
  have hfull:Q9X (Q4 l):=fun c hc u hu=>by
   rcases List.mem_append.1 hc with hc | hc
   ·rw[(Jw c hc).2.2] at hu;simp at hu
   ·have:=hup c hc
    unfold O9 at this
    split at this
    ·simp at this
    ·split at this
     ·simp at this
     ·rename_i hnb
      have hnb:c.like.any (R0 (Q4 l))=false:=eq_false_of_ne_true hnb
      have:=List.any_eq_false.1 hnb u hu
      unfold R0 at this
      cases hd:lk (Q4 l) u with
      | none=>rw[hd] at this;simp at this
      | some d=>exact ⟨d,rfl⟩
  have hok:Ok (Q4 l):=⟨hacy,hlenall,hsmall,hfull,hnmall⟩
  refine X21 (frm:=8) hS10.sat (ht9.lift ⟨(Stp.of_below hS9.sat hb7).le⟩) hacy hown hlenall hsmall (by omega) (by omega) fun v11 w8 σ11 hk11 hv11 hol hoi=>?_
  have hS11:=hS10.trans hk11
  have ht11:=ht9.lift ⟨fun b o e=>hk11.le _ _ e⟩
  refine Q8 hv11 ?_
  have hil:(ints (V7 (Q4 l) 8)).length=(V7 (Q4 l) 8).length:=by simp
  rw[hil]
  refine U1 (V7 (Q4 l) 8).length (fun n w'=> ∃σ',Stp w σ w' σ'∧SLe σ11 σ'∧ ∀j∈(V7 (Q4 l) 8).take n,V6 (Q4 l) ((Q4 l).getD j Cla.zero)=0) ⟨σ11,hS11,SLe.refl _,by simp⟩ fun n w9 d hn hinv=>?_
  obtain ⟨σ12,hS12,le12,hno⟩:=hinv
  refine Z2 ?_
  refine Q7 (fun hh=>?_) (fun hh=>?_)
  ·have hn':n<(V7 (Q4 l) 8).length:=by simpa using hh
   refine M9 (hv11.lift le12) (by rw[hil];exact hn') fun p cells hl1 hl2 hr1=>?_
   obtain ⟨rfl,_⟩:=hr1
   refine X7 hS12.sat hl1 rfl ?_
   simp only[List.getElem_map]
   rw[M3,fa]
   have le8x:SLe σ8 σ12:=le9.more (SLe.more ⟨hk11.le⟩ le12)
   refine ld hS12.sat (hb8.lift le8x) rfl ?_
   have hji:=hoi _ (List.getElem_mem hn')
   refine M9 (hv8.lift le8x) hji fun p2 cells hl1 hl2 hr1=>?_
   refine Y4 hS12.sat hl1 hl2 ?_
   have hat:(Q4 l).getD (V7 (Q4 l) 8)[n] Cla.zero=(Q4 l)[(V7 (Q4 l) 8)[n]]:=by rw[List.getD_eq_getElem?_getD,List.getElem?_eq_getElem hji];rfl
   have hmem:=List.getElem_mem hji
   refine Q9i hS12.sat (ht11.lift le12) hok hr1 (hsmall _ hmem) (hnmall _ hmem) fun w10 σ13 hk13=>?_
   have hS13:=hS12.trans hk13
   refine Zz ?_
   refine Q7 (fun hh2=>?_) (fun hh2=>?_)
   ·have hne: ¬V6 (Q4 l) (Q4 l)[(V7 (Q4 l) 8)[n]]=0:=by simpa using hh2
    refine Zg ⟨by omega,by omega⟩ ?_
    have hfind:(V7 (Q4 l) 8).find? (fun j=> !decide (V6 (Q4 l) ((Q4 l).getD j Cla.zero)=0))=some (V7 (Q4 l) 8)[n]:=by
     rw[List.find?_eq_some_iff_getElem]
     refine ⟨by rw[hat];simpa using hne,n,hn',rfl,fun j hj=>?_⟩
     have:=hno _ (List.mem_take_iff_getElem.2 ⟨j,by omega,rfl⟩)
     rw[this];simp
    have:=h1 (((V7 (Q4 l) 8)[n]:Int)-8) (V6 (Q4 l) (Q4 l)[(V7 (Q4 l) 8)[n]]) w10 σ13 (by rw[hfind];simp only[hat]) hS13
    exact this
   ·have hz:V6 (Q4 l) (Q4 l)[(V7 (Q4 l) 8)[n]]=0:=by simpa using hh2
    refine L8 ?_
    refine Y6 (by omega) hn' ⟨σ13,hS13,le12.more ⟨hk13.le⟩,fun j hj=>?_⟩
    rw[List.take_add_one,List.getElem?_eq_getElem hn'] at hj
    rcases List.mem_append.1 hj with hj | hj
    ·exact hno j hj
    ·simp at hj;subst hj;rw[hat];exact hz
  ·have hn': ¬n<(V7 (Q4 l) 8).length:=by simpa using hh
   rw[List.take_of_length_le (by omega)] at hno
   have hfind:(V7 (Q4 l) 8).find? (fun j=> !decide (V6 (Q4 l) ((Q4 l).getD j Cla.zero)=0))=none:=by
    rw[List.find?_eq_none]
    intro j hj
    rw[hno j hj];simp
   rw[hfind] at h0
   exact h0 _ _ _ rfl hS12 (ht11.lift le12) hok hown)
end Go.Proofs.YtjdiakhipmggjaaGreatDoor

namespace Go.Hm
open Go.Kd
def Q9I (m:Hm.Met):Bool:= !(decide (50<m.code.length)||decide (8<m.params.length)||decide (8<m.catches.length))
def X0k (c:Cla):Bool:= !(decide (6<c.like.length)||decide (6<c.fields.length)||decide (6<c.methods.length))&&c.methods.all Q9I
def X0g (l:List Cla):Bool:= !decide (12<l.length)&&l.all X0k
theorem Q9h {l:List Cla} (h:X0g l=true):l.length≤12∧ ∀c∈l,X0k c=true:=by
 simp only[X0g,Bool.and_eq_true,Bool.not_eq_true',decide_eq_false_iff_not,List.all_eq_true] at h
 exact ⟨by omega,h.2⟩
theorem X2Z {l:List Cla} (h:X0g l=true): ∀c∈l,Qj c:=by
 intro c e
 have:=(Q9h h).2 c e
 simp only[X0k,Q9I,Bool.and_eq_true,Bool.not_eq_true',Bool.or_eq_false_iff,decide_eq_false_iff_not,List.all_eq_true] at this
 obtain ⟨⟨⟨a,b⟩,g⟩,d⟩:=this
 refine ⟨by omega,by omega,by omega,fun m f=>?_⟩
 obtain ⟨⟨p,q⟩,r⟩:=d m f
 exact ⟨by omega,by omega,by omega⟩
end Go.Hm
namespace Go.Proofs.YtjdiakhipmggjaaGreatDoor
open Go.Emb Go.RowKit Go.Kd Go.Hm
variable {w : World} {K : Value → World → Prop} {σ : Q5} {v : Value} {l : List Cla}
end Go.Proofs.YtjdiakhipmggjaaGreatDoor

namespace Go.Proofs.YtjdiakhipmggjaaGreatDoor
open Go.Emb Go.RowKit Go.Kd Go.Hm
variable {w : World} {K : Value → World → Prop} {σ : Q5} {v : Value} {l : List Cla}
theorem X3G:P.underlying T.r=some (.pointer T.z):=by kernel_rfl
theorem Q5E (d:Nat) (o:Option Addr):(Op.equalIn (d+1) T.r (.pointer o) (.pointer none)).run P w= .ok o.isNone w:=by
 cases o<;>simp[Op.equalIn,run_underlying X3G]
theorem X2U {a:Addr} {c b:Operand} (h:K (.bool false) w):Q3 P .eql T.r c b (.pointer (some a)) (.pointer none) w K:=by
 have e:(Op.equal T.r (.pointer (some a)) (.pointer none)).run P w= .ok false w:=Q5E 9999 _
 unfold Q3
 rw[X9 (v:= .bool false) (w':=w) (by simp[eqGuard,Go.binOp,e])]
 exact h
end Go.Proofs.YtjdiakhipmggjaaGreatDoor

namespace Go.Hm
open Go.Kd
theorem Q5Z {l:List Cla} {frm:Nat}: ∀(f:Nat) (a:List Nat) (i:Nat),(∀y∈a,y∈T8 l frm f a i)∧(0<f→frm≤i→i∈T8 l frm f a i):=by
 intro f
 induction f with
 | zero=>intro a i;exact ⟨fun y b=>b,fun h=>by omega⟩
 | succ f g=>
  intro a i
  have c: ∀(d:List X0) (o:List Nat),∀y∈o,y∈d.foldl (fun a n=>T8 l frm f a ((Z1 l n).getD 0)) o:=by
   intro d
   induction d with
   | nil=>intro o y b;exact b
   | cons u r e=>intro o y b;exact e _ y ((g o _).1 y b)
  simp only[T8]
  split
  ·exact ⟨fun y b=>b,fun _ h=>by omega⟩
  ·split
   ·rename_i h;exact ⟨fun y b=>b,fun _ _=>h⟩
   ·exact ⟨fun y b=>List.mem_append_left _ (c _ _ y b),fun _ _=>by simp⟩
theorem Q94 {l:List Cla} {frm i:Nat} (e:frm≤i) (f:i<l.length):i∈V7 l frm:=by
 unfold V7
 have key: ∀(is b:List Nat),(∀y∈b,y∈is.foldl (fun b i=>T8 l frm (l.length+1) b i) b)∧(i∈is→i∈is.foldl (fun b i=>T8 l frm (l.length+1) b i) b):=by
  intro is
  induction is with
  | nil=>intro b;exact ⟨fun y c=>c,fun h=>by simp at h⟩
  | cons a r d=>
   intro b
   refine ⟨fun y c=>(d _).1 y ((Q5Z _ _ _).1 y c),fun h=>?_⟩
   rcases List.mem_cons.1 h with rfl | h
   ·exact (d _).1 _ ((Q5Z _ _ _).2 (by omega) e)
   ·exact (d _).2 h
 refine (key _ _).2 ?_
 rw[List.mem_drop_iff_getElem]
 exact ⟨i-frm,by simp;omega,by simp;omega⟩
theorem Q99 {s:X0} (h:M6 s=true):name s=true:=Mt (by rw[h,Bool.or_true])
theorem Q5J {a:X0} (h:name a=true):arr a=false:=by
 cases e:arr a with
 | false=>rfl
 | true=>
  exfalso
  have d:2≤a.length∧a.drop (a.length-2)=[91,93]:=by simpa [arr] using e
  have b:(93:UInt8)∈a:=List.mem_of_mem_drop (i:=a.length-2) (by rw[d.2];simp)
  cases a with
  | nil=>simp at b
  | cons c r=>
   simp only[name,Bool.and_eq_true,List.all_eq_true] at h
   have:=h.2 _ b
   revert this;decide
end Go.Hm
namespace Go.Proofs.YtjdiakhipmggjaaGreatDoor
open Go.Emb Go.RowKit Go.Kd Go.Hm
theorem Q8U {a:X0} (h:name a=true):base a=(a,0):=by rw[Xo,Q5J h];simp
theorem Mq {s:X0} (h:M6 s=true):arr s=false∧base s=(s,0)∧right s=true∧plain s=false∧elem s=[]∧s≠H6∧s≠[]:=by
 have a:=Hm.Q99 h
 have b:=Q5J a
 have d:=Q8U a
 refine ⟨b,d,?_,?_,by simp[elem,b],?_,?_⟩
 ·simp[right,d,h]
 ·cases c:plain s with
  | false=>rfl
  | true=>
   simp only[plain,Bool.or_eq_true,decide_eq_true_eq] at c
   rcases c with (e | e) | e<;>subst e<;>revert h<;>decide
 ·rintro rfl;revert h;decide
 ·rintro rfl;revert h;decide
structure Wf (l : List Cla) : Prop where
  ck : ∀ c ∈ l, D6 c = 0
  own : T1 (Q4 l)
  acy : Zy (Q4 l)
  up : ∀ c ∈ l, O9 (Q4 l) c = 0
  mem : ∀ c ∈ l, V6 (Q4 l) c = 0
theorem X3w {l:List Cla} (h:Ru D6 l=none):Wf l:=by
 unfold Ru at h
 split at h
 ·cases h
 rename_i k
 split at h
 ·cases h
 rename_i n
 split at h
 ·cases h
 rename_i o
 split at h
 ·cases h
 rename_i m
 split at h
 ·cases h
 rename_i p
 have f:=P1 k
 have a:=Gr n
 have g: ∀c∈l,P3 (Q4 l) c=false:=fun c b=>List.findIdx?_eq_none_iff.1 m c b
 refine ⟨f,a,Q4V a (fun c b=>(Be (f c b)).2.2) g,fun c b=>by have:=P1 o c b;omega,fun c b=>?_⟩
 obtain ⟨i,j,rfl⟩:=List.getElem_of_mem b
 have d:G2.length=8:=rfl
 have:=List.find?_eq_none.1 p (8+i) (Q94 (by omega) (by simp[Q4,d];omega))
 have e:(Q4 l).getD (8+i) Cla.zero=l[i]:=by
  rw[List.getD_eq_getElem?_getD,Q4,List.getElem?_append_right (by omega),d,show 8+i-8=i by omega,List.getElem?_eq_getElem j];rfl
 rw[e] at this
 simpa using this
section
variable {l : List Cla} (wf : Wf l)
include wf
theorem Wf.names {c:Cla} (hc:c∈Q4 l):M6 c.name=true:=by
 rcases List.mem_append.1 hc with hc | hc
 ·have: ∀c∈G2,M6 c.name=true:=by decide+kernel
  exact this c hc
 ·have:=wf.ck c hc
  unfold D6 at this
  split at this
  ·cases this
  ·split at this
   ·rename_i a
    simp only[Ng,Bool.and_eq_true] at a
    obtain ⟨⟨⟨⟨⟨⟨⟨⟨b,_⟩,_⟩,_⟩,_⟩,_⟩,_⟩,_⟩,_⟩:=a
    exact List.all_eq_true.1 b c.name (by simp)
   ·cases this
theorem Wf.lkn {n:X0} {c:Cla} (h:lk (Q4 l) n=some c):M6 n=true:=by
 obtain ⟨e,a,_⟩:=V3 h
 rw[←e];exact wf.names a
theorem Wf.root:lk (Q4 l) J9=some ⟨J9,[],[],false,false,false,[],[]⟩:=wf.own.lk (c:=⟨J9,[],[],false,false,false,[],[]⟩) (List.mem_append_left _ (by decide))
theorem Wf.fault:lk (Q4 l) L6=some ⟨L6,J9,[],false,false,false,[⟨Qg,D0,false⟩],[]⟩:=wf.own.lk (c:=⟨L6,J9,[],false,false,false,[⟨Qg,D0,false⟩],[]⟩) (List.mem_append_left _ (by decide))
theorem Wf.super {c:Cla} (hc:c∈Q4 l):c.name=J9∨ ∃d,lk (Q4 l) c.super=some d:=by
 rcases List.mem_append.1 hc with hc | hc
 ·have: ∀c∈G2,c.name=J9∨c.super=J9∨c.super=L6:=by decide
  rcases this c hc with h | h | h
  ·exact .inl h
  ·exact .inr ⟨_,h▸wf.root⟩
  ·exact .inr ⟨_,h▸wf.fault⟩
 ·right
  have:=wf.up c hc
  unfold O9 at this
  split at this
  ·cases this
  ·rename_i h
   unfold Qr at h
   cases a:lk (Q4 l) c.super with
   | none=>rw[a] at h;simp at h
   | some d=>exact ⟨d,rfl⟩
theorem Wf.toRoot: ∀(k:Nat) {n:X0} {c:Cla},K3 (Q4 l) n<k→lk (Q4 l) n=some c→Hm.Reach (lk (Q4 l)) n J9:=by
 intro k
 induction k with
 | zero=>intro n c h;omega
 | succ k g=>
  intro n c j a
  obtain ⟨e,i,_⟩:=V3 a
  rcases wf.super i with h | ⟨d,f⟩
  ·rw[←e,h];exact .refl wf.root
  ·have b:c.super∈U3 c:=by simp[U3]
   exact .step a b (g (by have:=Xt wf.acy a b f;omega) f)
theorem Wf.atRoot {b:X0} (h:Hm.Reach (lk (Q4 l)) J9 b):b=J9:=by
 cases h with
 | refl=>rfl
 | step c a f=>
  rw[wf.root] at c;cases c
  simp[U3] at a;subst a
  obtain ⟨d,e⟩:=f.left
  exact absurd (wf.lkn e) (by decide)
theorem Wf.kind {n:X0} {c:Cla} (h:lk (Q4 l) n=some c):N0 (Q4 l) n=true:=by
 obtain ⟨e,a,b,f,i,d,g⟩:=Mq (wf.lkn h)
 have:Q0Q (Q4 l) n=true:=by rw[Q1s,h];rfl
 simp[N0,b,a,this]
theorem Wf.sub_iff {a b:X0}:Xl (Q4 l) a b=true↔N0 (Q4 l) a=true∧N0 (Q4 l) b=true∧(a=b∨(plain a=false∧plain b=false∧(a=H6∨(elem a≠[]∧b=J9)∨(lk (Q4 l) a≠none∧Hm.Reach (lk (Q4 l)) a b)))):=by
 unfold Xl
 cases m:N0 (Q4 l) a<;>cases k:N0 (Q4 l) b<;>simp
 by_cases e:a=b
 ·simp[e]
 cases pa:plain a<;>cases j:plain b<;>simp[e]
 by_cases f:a=H6
 ·simp[f]
 simp only[f,false_or]
 by_cases d:elem a=[]
 ·simp only[d,if_true,not_true_eq_false,false_and,false_or,Uk]
  constructor
  ·intro h;obtain ⟨c,i⟩:=h.left;exact ⟨by rw[i];simp,h⟩
  ·intro h;exact h.2
 ·simp only[d,if_false,not_false_eq_true,true_and]
  constructor
  ·exact .inl
  ·rintro (h | ⟨h,_⟩)
   ·exact h
   ·cases g:lk (Q4 l) a with
    | none=>exact absurd g h
    | some c=>exact absurd (Mq (wf.lkn g)).2.2.2.2.1 d
theorem Wf.sub_class {a b:X0} {c:Cla} (e:lk (Q4 l) a=some c):Xl (Q4 l) a b=true↔Hm.Reach (lk (Q4 l)) a b:=by
 obtain ⟨k,m,n,i,j,g,o⟩:=Mq (wf.lkn e)
 rw[wf.sub_iff]
 constructor
 ·rintro ⟨_,_,rfl | ⟨_,_,h | ⟨h,_⟩ | ⟨_,h⟩⟩⟩
  ·exact .refl e
  ·exact absurd h g
  ·exact absurd j h
  ·exact h
 ·intro h
  obtain ⟨d,f⟩:=h.right
  exact ⟨wf.kind e,wf.kind f, .inr ⟨i,(Mq (wf.lkn f)).2.2.2.1, .inr (.inr ⟨by rw[e];simp,h⟩)⟩⟩
end
end Go.Proofs.YtjdiakhipmggjaaGreatDoor

namespace Go.Proofs.YtjdiakhipmggjaaGreatDoor
open Go.Emb Go.RowKit Go.Kd Go.Hm
theorem Q6b {L:List Cla} (f:Zy L): ∀(k:Nat) {n:X0} {c:Cla},K3 L n<k→c∈chain L n→Hm.Reach (lk L) n c.name∧lk L c.name=some c:=by
 intro k
 induction k with
 | zero=>intro n c h;omega
 | succ k j=>
  intro n c p hc
  rw[T4 f] at hc
  cases a:lk L n with
  | none=>rw[a] at hc;simp at hc
  | some d=>
   rw[a] at hc
   have b:=(V3 a).1
   rcases List.mem_cons.1 hc with rfl | hc
   ·rw[b];exact ⟨.refl a,a⟩
   ·cases i:lk L d.super with
    | none=>rw[Ys i] at hc;simp at hc
    | some e=>
     have g:d.super∈U3 d:=by simp[U3]
     obtain ⟨m,o⟩:=j (by have:=Xt f a g i;omega) hc
     exact ⟨.step a g m,o⟩
theorem X00 {l:List Cla} {a:X0} (h:N0 (Q4 l) a=true) (f:plain a=false):a=H6∨elem a≠[]∨ ∃c,lk (Q4 l) a=some c:=by
 simp only[N0,Bool.or_eq_true,decide_eq_true_eq,Bool.and_eq_true] at h
 rcases h with h | ⟨e,h⟩
 ·exact .inl h
 ·by_cases d:elem a=[]
  ·right;right
   have b:arr a=false:=by
    cases b:arr a with
    | false=>rfl
    | true=>
     have i:=Q4p b e
     have:elem a=Kd.cutA a:=by simp[elem,b,e]
     rw[this] at d
     have:=I4 b
     rw[d] at this;simp at this;omega
   have g:base a=(a,0):=by rw[Xo,b];simp
   rw[g,f] at h
   have h:Q0Q (Q4 l) a=true:=by simpa using h
   rw[Q1s] at h
   exact Option.isSome_iff_exists.1 h
  ·exact .inr (.inl d)
section
variable {l : List Cla} (wf : Wf l)
include wf
theorem Wf.kRoot:N0 (Q4 l) J9=true:=wf.kind wf.root
theorem Wf.lkArr {a:X0} {c:Cla} (h:lk (Q4 l) a=some c):elem a=[]:=(Mq (wf.lkn h)).2.2.2.2.1
theorem Wf.none_null:lk (Q4 l) H6=none:=by
 cases h:lk (Q4 l) H6 with
 | none=>rfl
 | some c=>exact absurd (wf.lkn h) (by decide)
theorem Wf.sub_root {a:X0} (h:N0 (Q4 l) a=true) (b:plain a=false):Xl (Q4 l) a J9=true:=by
 rw[wf.sub_iff]
 refine ⟨h,wf.kRoot, .inr ⟨b,by decide,?_⟩⟩
 rcases X00 h b with e | e | ⟨c,e⟩
 ·exact .inl e
 ·exact .inr (.inl ⟨e,rfl⟩)
 ·exact .inr (.inr ⟨by rw[e];simp,wf.toRoot _ (Nat.lt_succ_self _) e⟩)
theorem Wf.sub_refl {a:X0} (h:N0 (Q4 l) a=true):Xl (Q4 l) a a=true:=wf.sub_iff.2 ⟨h,h, .inl rfl⟩
end
end Go.Proofs.YtjdiakhipmggjaaGreatDoor

namespace Go.Proofs.YtjdiakhipmggjaaGreatDoor
open Go.Emb Go.RowKit Go.Kd Go.Hm
theorem Q6g {c:Cla} (h:D6 c=0):M6 c.name=true∧M6 c.super=true∧(c.iface=true→c.super=J9∧c.fields=[]∧c.abs=true∧ ∀m∈c.methods,m.abs=true)∧(∀m∈c.methods,m.abs=true→c.abs=true)∧c.fields.all Ep=true∧c.methods.all I2=true∧C1 Fld.name [] c.fields=true∧C1 Hm.Met.name [] c.methods=true:=by
 unfold D6 at h
 split at h
 ·cases h
 split at h
 ·rename_i j
  simp only[Ng,Bool.and_eq_true] at j
  obtain ⟨⟨⟨⟨⟨⟨⟨⟨k,v⟩,u⟩,g⟩,f⟩,o⟩,r⟩,s⟩,t⟩:=j
  refine ⟨List.all_eq_true.1 k c.name (by simp),List.all_eq_true.1 k c.super (by simp),fun p=>?_,fun m i n=>?_,s,t,o,r⟩
  ·rw[p] at g
   simp only[Bool.true_and,Bool.not_eq_true',Bool.or_eq_false_iff,Bool.not_eq_false',decide_eq_true_eq] at g
   obtain ⟨⟨⟨a,b⟩,d⟩,e⟩:=g
   refine ⟨b,d,a,fun m i=>?_⟩
   have:=List.any_eq_false.1 e m i
   simpa using this
  ·simp only[Bool.not_eq_true',Bool.or_eq_false_iff] at f
   obtain ⟨_,f⟩:=f
   have q:c.methods.any (·.abs)=true:=List.any_eq_true.2 ⟨m,i,n⟩
   rw[q] at f
   simpa using f
 ·cases h
theorem Q7S {l:List Cla} {c:Cla} (b:c∈Q4 l) (a:c.iface=true):c∈l:=by
 rcases List.mem_append.1 b with h | h
 ·have: ∀c∈G2,c.iface=false:=by decide
  rw[this c h] at a;cases a
 ·exact h
section
variable {l : List Cla} (wf : Wf l)
include wf
theorem Wf.likes {c:Cla} (f:c∈Q4 l) {u:X0} (b:u∈c.like): ∃d,lk (Q4 l) u=some d∧d.iface=true:=by
 rcases List.mem_append.1 f with h | h
 ·rw[(Jw c h).2.2] at b;simp at b
 ·have:=wf.up c h
  unfold O9 at this
  split at this
  ·cases this
  ·split at this
   ·cases this
   ·rename_i a
    have a:=List.any_eq_false.1 (eq_false_of_ne_true a) u b
    unfold R0 at a
    cases e:lk (Q4 l) u with
    | none=>rw[e] at a;simp at a
    | some d=>rw[e] at a;exact ⟨d,rfl,by simpa using a⟩
theorem Wf.above_iface {u b:X0} (h:Hm.Reach (lk (Q4 l)) u b): ∀d,lk (Q4 l) u=some d→d.iface=true→b=J9∨ ∃e,lk (Q4 l) b=some e∧e.iface=true:=by
 induction h with
 | refl h=>intro d c a;exact .inr ⟨d,c,a⟩
 | step i hu k n=>
  intro d c a
  rw[i] at c;cases c
  obtain ⟨e,j,_⟩:=V3 i
  rcases List.mem_cons.1 hu with rfl | hu
  ·rw[((Q6g (wf.ck _ (Q7S j a))).2.2.1 a).1] at k
   exact .inl (wf.atRoot k)
  ·obtain ⟨f,m,g⟩:=wf.likes j hu
   exact n f m g
theorem Wf.by_chain {n b:X0} (h:Hm.Reach (lk (Q4 l)) n b): ∀e,lk (Q4 l) b=some e→e.iface=false→b≠J9→e∈chain (Q4 l) n:=by
 induction h with
 | refl h=>
  intro e c _ _
  rw[T4 wf.acy,c];simp
 | step k hu o q=>
  intro e c j m
  obtain ⟨en,r,_⟩:=V3 k
  rcases List.mem_cons.1 hu with rfl | hu
  ·rw[T4 wf.acy,k]
   exact List.mem_cons_of_mem _ (q e c j m)
  ·obtain ⟨f,p,d⟩:=wf.likes r hu
   rcases wf.above_iface o f p d with h | ⟨g,i,a⟩
   ·exact absurd h m
   ·rw[c] at i;cases i;rw[j] at a;cases a
theorem Wf.chain_tail: ∀(k:Nat) {n:X0} {c:Cla},K3 (Q4 l) n<k→c∈chain (Q4 l) n→ ∃a,chain (Q4 l) n=a++chain (Q4 l) c.name:=by
 intro k
 induction k with
 | zero=>intro n c h;omega
 | succ k i=>
  intro n c o hc
  rw[T4 wf.acy] at hc
  cases b:lk (Q4 l) n with
  | none=>rw[b] at hc;simp at hc
  | some d=>
   rw[b] at hc
   have f:=(V3 b).1
   rcases List.mem_cons.1 hc with rfl | hc
   ·exact ⟨[],by rw[f];rfl⟩
   ·cases g:lk (Q4 l) d.super with
    | none=>rw[Ys g] at hc;simp at hc
    | some e=>
     have j:d.super∈U3 d:=by simp[U3]
     obtain ⟨a,m⟩:=i (by have:=Xt wf.acy b j g;omega) hc
     exact ⟨d::a,by rw[T4 wf.acy,b];show d::chain (Q4 l) d.super=_;rw[m];rfl⟩
theorem Wf.fields_tail {n:X0} {c:Cla} (h:c∈chain (Q4 l) n): ∃a,Y5 (Q4 l) n=Y5 (Q4 l) c.name++a:=by
 obtain ⟨b,d⟩:=wf.chain_tail _ (Nat.lt_succ_self _) h
 exact ⟨b.reverse.flatMap (·.fields),by unfold Y5;rw[d];simp⟩
theorem Wf.none_nil:lk (Q4 l) []=none:=by
 cases h:lk (Q4 l) [] with
 | none=>rfl
 | some c=>exact absurd (wf.lkn h) (by decide)
theorem Wf.fault_fields:Y5 (Q4 l) L6=[⟨Qg,D0,false⟩]:=by
 unfold Y5
 rw[T4 wf.acy,wf.fault]
 simp only
 rw[T4 wf.acy,wf.root]
 simp only
 rw[Ys wf.none_nil]
 rfl
theorem Wf.what {n:X0} (h:Xl (Q4 l) n L6=true) {c:Cla} (b:lk (Q4 l) n=some c):Jh (Q4 l) n Qg=some 0:=by
 have f:=(wf.sub_class b).1 h
 have e:=wf.by_chain f _ wf.fault rfl (by decide)
 obtain ⟨a,d⟩:=wf.fields_tail e
 unfold Jh
 rw[d,show (Cla.mk L6 J9 [] false false false [⟨Qg,D0,false⟩] []).name=L6 from rfl,wf.fault_fields]
 rfl
end
end Go.Proofs.YtjdiakhipmggjaaGreatDoor

namespace Go.Hm
open Go.Kd
end Go.Hm
namespace Go.Proofs.YtjdiakhipmggjaaGreatDoor
open Go.Emb Go.RowKit Go.Kd Go.Hm
section
variable {l : List Cla} (wf : Wf l)
include wf
end
end Go.Proofs.YtjdiakhipmggjaaGreatDoor
namespace Go.Proofs.YtjdiakhipmggjaaGreatDoor
open Go.Emb Go.RowKit Go.Kd Go.Hm
end Go.Proofs.YtjdiakhipmggjaaGreatDoor
namespace Go.Proofs.YtjdiakhipmggjaaGreatDoor
open Go.Emb Go.RowKit Go.Kd Go.Hm
section
variable {l : List Cla} (wf : Wf l)
include wf
end
end Go.Proofs.YtjdiakhipmggjaaGreatDoor

namespace Go.Hm
open Go.Kd
structure Val where
  sort : Int
  n : Int
  s : X0
  ref : Int
deriving DecidableEq
structure Cel where
  kind : X0
  vals : List Val
deriving DecidableEq
def Val.zero:Val:=⟨0,0,[],0⟩
def Cel.zero:Cel:=⟨[],[]⟩
def P2:X0:=[105,110,116]
def Zx:X0:=[98,111,111,108]
def L7 (k:X0):Val:=if k=P2 then ⟨1,0,[],0⟩ else if k=Zx then ⟨2,0,[],0⟩ else if k=D0 then ⟨3,0,[],0⟩ else Val.zero
def Y8 (cs:List Cel):Int:=(cs.map fun c=>1+(c.vals.length:Int)).sum
def V9 (room:Int) (cs:List Cel):Int:=room-Y8 cs
def M0 (cs:List Cel) (r:Int):Bool:=decide (0≤r)&&decide (r<cs.length)
def Vz (cs:List Cel) (r:Int):Cel:=cs.getD r.toNat Cel.zero
def D2 (cs:List Cel) (r:Int):X0:=if M0 cs r then (Vz cs r).kind else []
def Q0v (cs:List Cel) (r:Int):Int:=if M0 cs r then (Vz cs r).vals.length else 0
def K7 (ok:X0→Bool) (cs:List Cel) (v:Val):X0:=
 if v=Val.zero then H6 else if v=⟨1,v.n,[],0⟩ then P2 else if v=⟨2,v.n,[],0⟩∧(v.n=0∨v.n=1) then Zx
 else if v=⟨3,0,v.s,0⟩∧ok v.s=true then D0 else if v=⟨4,0,[],v.ref⟩ then D2 cs v.ref else []
def B3 (ok:X0→Bool) (l:List Cla) (cs:List Cel) (v:Val) (k:X0):Bool:= !decide (K7 ok cs v=[])&&Xl l (K7 ok cs v) k
def Zn (l:List Cla) (room:Int) (cs:List Cel) (k:X0):List Cel×Int:=
 if T7 l k=false then (cs,91) else if V9 room cs<1+((Y5 l k).length:Int) then (cs,90) else (cs++[⟨k,(Y5 l k).map fun f=>L7 f.kind⟩],0)
def G0 (l:List Cla) (e:X0):Bool:= !decide (e=H6)&&N0 l e&&decide (Xf e≤2)
def Zj (l:List Cla) (room:Int) (cs:List Cel) (e:X0) (n:Int):List Cel×Int:=
 if G0 l e=false then (cs,91) else if n<0 then (cs,93) else if V9 room cs≤n then (cs,90) else (cs++[⟨e++[91,93],List.replicate n.toNat (L7 e)⟩],0)
def E2 (cs:List Cel) (r a:Int):Int:=if M0 cs r then (if 0≤a∧a<((Vz cs r).vals.length:Int) then 0 else 93) else 92
def Ex (cs:List Cel) (r a:Int):Val:=if E2 cs r a=0 then (Vz cs r).vals.getD a.toNat Val.zero else Val.zero
def Xe (l:List Cla) (k:X0) (i:Nat):X0:=if elem k=[] then ((Y5 l k).getD i Fld.zero).kind else elem k
def B5 (cs:List Cel) (r a:Int) (v:Val):List Cel:=cs.set r.toNat ⟨(Vz cs r).kind,(Vz cs r).vals.set a.toNat v⟩
def H5 (ok:X0→Bool) (l:List Cla) (cs:List Cel) (r a:Int) (v:Val):List Cel×Int:=
 if E2 cs r a≠0 then (cs,E2 cs r a) else if B3 ok l cs v (Xe l (Vz cs r).kind a.toNat) then (B5 cs r a v,0) else (cs,91)
def F9 (n:Int) (v:Val):Bool:=decide (v.sort=4)&&decide (n≤v.ref)
def Iw (cs:List Cel) (n:Int):List Cel:=
 if (cs.take (max n 0).toNat).any (fun c=>c.vals.any (F9 (max n 0))) then cs else cs.take (max n 0).toNat
structure ActH where
  kind : Int
  s : X0
  n : Int
  ref : Int
  v : Val
deriving DecidableEq
def C8 (ok:X0→Bool) (l:List Cla) (room:Int) (cs:List Cel) (x:ActH):List Cel:=
 if x.kind=0 then (Zn l room cs x.s).1 else if x.kind=1 then (Zj l room cs x.s x.n).1 else if x.kind=2 then (H5 ok l cs x.ref x.n x.v).1
 else if x.kind=4 then Iw cs x.ref else cs
structure GoodC (ok : X0 → Bool) (l : List Cla) (cs : List Cel) (c : Cel) : Prop where
  is : elem c.kind ≠ [] ∨ (T7 l c.kind = true ∧ c.vals.length = (Y5 l c.kind).length)
  kd : N0 l c.kind = true
  fits : ∀ i (h : i < c.vals.length), B3 ok l cs c.vals[i] (Xe l c.kind i) = true
structure GoodH (ok : X0 → Bool) (l : List Cla) (room : Int) (cs : List Cel) : Prop where
  cells : ∀ c ∈ cs, GoodC ok l cs c
  left : 0 ≤ V9 room cs
theorem I5 (a b:List Cel):Y8 (a++b)=Y8 a+Y8 b:=by simp[Y8]
theorem L9 (a:List Cel):0≤Y8 a:=by
 unfold Y8
 induction a with
 | nil=>simp
 | cons c r b=>simp only[List.map_cons,List.sum_cons];omega
theorem P9 (a:List Cel):(a.length:Int)≤Y8 a:=by
 unfold Y8
 induction a with
 | nil=>simp
 | cons c r b=>simp only[List.map_cons,List.sum_cons,List.length_cons];omega
theorem N3 {cs:List Cel} {r:Int}:M0 cs r=true↔ ∃i:Nat,r=i∧i<cs.length:=by
 simp only[M0,Bool.and_eq_true,decide_eq_true_eq]
 constructor
 ·rintro ⟨a,b⟩;exact ⟨r.toNat,by omega,by omega⟩
 ·rintro ⟨i,rfl,h⟩;omega
theorem W7 {cs:List Cel} {i:Nat} (h:i<cs.length):Vz cs (i:Int)=cs[i]:=by
 unfold Vz;rw[Int.toNat_natCast,List.getD_eq_getElem?_getD,List.getElem?_eq_getElem h];rfl
theorem Ye {cs:List Cel} {i:Nat} (h:i<cs.length):D2 cs (i:Int)=cs[i].kind:=by
 unfold D2;rw[if_pos (N3.2 ⟨i,rfl,h⟩),W7 h]
theorem Q9T {ok:X0→Bool} {cs a:List Cel} {v:Val} (h:v.sort=4→D2 cs v.ref≠[]→D2 a v.ref=D2 cs v.ref) (b:K7 ok cs v≠[]):K7 ok a v=K7 ok cs v:=by
 unfold K7 at*
 split
 ·rfl
 ·split
  ·rfl
  ·split
   ·rfl
   ·split
    ·rfl
    ·split
     ·rename_i d f g e c
      rw[if_neg d,if_neg f,if_neg g,if_neg e,if_pos c] at b
      exact h (by rw[c]) b
     ·rfl
theorem Hp {ok:X0→Bool} {l:List Cla} {cs a:List Cel} {v:Val} {k:X0} (h:v.sort=4→D2 cs v.ref≠[]→D2 a v.ref=D2 cs v.ref) (b:B3 ok l cs v k=true):B3 ok l a v k=true:=by
 unfold B3 at*
 have c:K7 ok cs v≠[]:=by
  intro e;rw[e] at b;simp at b
 rw[Q9T h c];exact b
theorem Q8b {cs more:List Cel} {r:Int} (h:D2 cs r≠[]):D2 (cs++more) r=D2 cs r:=by
 have c:M0 cs r=true:=by
  cases b:M0 cs r with
  | true=>rfl
  | false=>unfold D2 at h;rw[b] at h;simp at h
 obtain ⟨i,rfl,a⟩:=N3.1 c
 rw[Ye a,Ye (by simp;omega),List.getElem_append_left a]
theorem GoodC.app {ok:X0→Bool} {l:List Cla} {cs more:List Cel} {c:Cel} (h:GoodC ok l cs c):GoodC ok l (cs++more) c:=
 ⟨h.is,h.kd,fun i b=>Hp (fun _ a=>Q8b a) (h.fits i b)⟩
section
variable {ok : X0 → Bool} {l : List Cla} {room : Int} {cs : List Cel}
theorem GoodH.snoc (h:GoodH ok l room cs) {c:Cel} (a:GoodC ok l (cs++[c]) c) (b:1+(c.vals.length:Int)≤V9 room cs):GoodH ok l room (cs++[c]):=by
 refine ⟨fun d hd=>?_,?_⟩
 ·rcases List.mem_append.1 hd with hd | hd
  ·exact (h.cells d hd).app
  ·simp at hd;subst hd;exact a
 ·unfold V9 at*;rw[I5];simp only[Y8,List.map_cons,List.map_nil,List.sum_cons,List.sum_nil] at*;omega
end
end Go.Hm
namespace Go.Proofs.YtjdiakhipmggjaaGreatDoor
open Go.Emb Go.RowKit Go.Kd Go.Hm
section
variable {l : List Cla} (wf : Wf l)
include wf
theorem Wf.field_kinds {n:X0} {f:Fld} (h:f∈Y5 (Q4 l) n):O6 (Q4 l) f.kind=true:=by
 unfold Y5 at h
 obtain ⟨c,j,e⟩:=List.mem_flatMap.1 h
 have k:=(Q6b wf.acy _ (Nat.lt_succ_self _) (by simpa using j)).2
 obtain ⟨_,b,_⟩:=V3 k
 rcases List.mem_append.1 b with g | hl
 ·have d: ∀c∈G2,∀f∈c.fields,f.kind=D0:=by decide
  rw[d c g f e]
  have:N0 (Q4 l) D0=true:=by
   have m:right D0=true:=by decide
   have i:plain (base D0).1=true:=by decide
   simp[N0,m,i]
  simp[O6,this];decide
 ·have:=wf.mem c hl
  unfold V6 at this
  split at this
  ·cases this
  ·split at this
   ·cases this
   ·rename_i a
    have a:B1 (Q4 l) c=false:=eq_false_of_ne_true a
    unfold B1 at a
    rw[Bool.or_eq_false_iff] at a
    have:=List.any_eq_false.1 a.1 f e
    simpa using this
theorem Wf.zero_fits {ok:X0→Bool} (i:ok []=true) {cs:List Cel} {k:X0} (h:O6 (Q4 l) k=true):B3 ok (Q4 l) cs (L7 k) k=true:=by
 have a:N0 (Q4 l) k=true∧k≠H6:=by
  simp only[O6,Bool.and_eq_true,Bool.not_eq_true',decide_eq_false_iff_not] at h;exact ⟨h.2,h.1⟩
 by_cases d:k=P2
 ·subst d
  have:B3 ok (Q4 l) cs (L7 P2) P2=Xl (Q4 l) P2 P2:=by
   unfold B3;simp[L7,K7,Val.zero,P2]
  rw[this];exact wf.sub_refl a.1
 by_cases c:k=Zx
 ·subst c
  have:B3 ok (Q4 l) cs (L7 Zx) Zx=Xl (Q4 l) Zx Zx:=by
   unfold B3;simp[L7,K7,Val.zero,Zx,P2]
  rw[this];exact wf.sub_refl a.1
 by_cases f:k=D0
 ·subst f
  have:B3 ok (Q4 l) cs (L7 D0) D0=Xl (Q4 l) D0 D0:=by
   unfold B3;simp[L7,K7,Val.zero,Zx,P2,D0,i]
  rw[this];exact wf.sub_refl a.1
 ·have g:L7 k=Val.zero:=by simp[L7,d,c,f]
  have:B3 ok (Q4 l) cs (L7 k) k=Xl (Q4 l) H6 k:=by
   rw[g];unfold B3 K7;simp[H6]
  rw[this]
  have b:plain k=false:=by
   cases b:plain k with
   | false=>rfl
   | true=>
    simp only[plain,Bool.or_eq_true,decide_eq_true_eq] at b
    rcases b with (e | e) | e
    ·exact absurd e d
    ·exact absurd e c
    ·exact absurd e f
  exact wf.sub_iff.2 ⟨by simp[N0],a.1, .inr ⟨by decide,b, .inl rfl⟩⟩
end
theorem Q4X (a:X0):arr (a++[91,93])=true:=by
 simp[arr]
theorem Q5m (a:X0):Kd.cutA (a++[91,93])=a:=by
 simp[Kd.cutA]
theorem Q0I (a:X0):base (a++[91,93])=((base a).1,(base a).2+1):=by
 rw[Xo,Q4X,if_pos rfl,Q5m]
theorem Q8l {a:X0} (h:right a=true) (b:(base a).2≤2):right (a++[91,93])=true:=by
 unfold right at*
 rw[Q0I]
 simp only[Bool.and_eq_true,decide_eq_true_eq] at*
 exact ⟨by omega,h.2⟩
theorem Q91 {a:X0} (h:right (a++[91,93])=true):elem (a++[91,93])=a:=by
 unfold elem;rw[Q4X,h,Q5m];rfl
theorem Q89 {l:List Cla} {e:X0}:G0 l e=true↔O6 l e=true∧right (e++[91,93])=true:=by
 unfold G0 O6
 simp only[Bool.and_eq_true,Bool.not_eq_true',decide_eq_false_iff_not,decide_eq_true_eq]
 constructor
 ·rintro ⟨⟨b,h2⟩,a⟩
  have c:right e=true:=by
   unfold N0 at h2
   simp only[Bool.or_eq_true,Bool.and_eq_true,decide_eq_true_eq] at h2
   rcases h2 with h2 | h2
   ·exact absurd h2 b
   ·exact h2.1
  unfold Xf at a
  rw[if_pos c] at a
  exact ⟨⟨b,h2⟩,Q8l c a⟩
 ·rintro ⟨⟨b,h2⟩,a⟩
  refine ⟨⟨b,h2⟩,?_⟩
  unfold right at a
  rw[Q0I] at a
  simp only[Bool.and_eq_true,decide_eq_true_eq] at a
  unfold Xf
  split
  ·omega
  ·omega
section
variable {ok : X0 → Bool} {l : List Cla} {room : Int} {cs : List Cel}
theorem GoodH.obj (wf:Wf l) (g:ok []=true) (h:GoodH ok (Q4 l) room cs) (k:X0):GoodH ok (Q4 l) room (Zn (Q4 l) room cs k).1:=by
 unfold Zn
 split
 ·exact h
 split
 ·exact h
 rename_i a j
 have a:T7 (Q4 l) k=true:=by simpa using a
 have e: ∃c,lk (Q4 l) k=some c:=by
  unfold T7 at a
  cases b:lk (Q4 l) k with
  | none=>rw[b] at a;cases a
  | some c=>exact ⟨c,rfl⟩
 obtain ⟨c,b⟩:=e
 have f:elem k=[]:=wf.lkArr b
 refine h.snoc ⟨.inr ⟨a,by simp⟩,wf.kind b,fun i d=>?_⟩ (by simp only[List.length_map];omega)
 simp only[List.length_map] at d
 simp only[List.getElem_map,Xe,f,if_pos]
 rw[List.getD_eq_getElem?_getD,List.getElem?_eq_getElem d]
 exact wf.zero_fits g (wf.field_kinds (List.getElem_mem d))
theorem GoodH.arr (wf:Wf l) (k:ok []=true) (h:GoodH ok (Q4 l) room cs) (e:X0) (n:Int):GoodH ok (Q4 l) room (Zj (Q4 l) room cs e n).1:=by
 unfold Zj
 split
 ·exact h
 split
 ·exact h
 split
 ·exact h
 rename_i d p o
 have d:G0 (Q4 l) e=true:=by simpa using d
 obtain ⟨g,f⟩:=Q89.1 d
 have j:=Q91 f
 have b:e≠[]:=by
  rintro rfl
  revert f;decide
 have a:N0 (Q4 l) (e++[91,93])=true:=by
  have a:=g
  unfold O6 at a
  simp only[Bool.and_eq_true,Bool.not_eq_true',decide_eq_false_iff_not] at a
  obtain ⟨c,hk2⟩:=a
  unfold N0 at hk2⊢
  simp only[Bool.or_eq_true,Bool.and_eq_true,decide_eq_true_eq] at hk2⊢
  rcases hk2 with hk2 | hk2
  ·exact absurd hk2 c
  ·right;rw[Q0I];exact ⟨f,hk2.2⟩
 refine h.snoc ⟨.inl (by simp only;rw[j];exact b),a,fun i m=>?_⟩ (by simp only[List.length_replicate];omega)
 simp only[List.getElem_replicate,Xe,j,if_neg b]
 exact wf.zero_fits k g
theorem Q2M {r b x:Int} {v:Val} (g:M0 cs r=true):D2 (B5 cs r b v) x=D2 cs x:=by
 obtain ⟨i,rfl,f⟩:=N3.1 g
 have a:(B5 cs i b v).length=cs.length:=by simp[B5]
 cases c:M0 cs x with
 | false=>
  have:M0 (B5 cs i b v) x=false:=by unfold M0 at*;rw[a];exact c
  unfold D2;rw[c,this];rfl
 | true=>
  obtain ⟨j,rfl,d⟩:=N3.1 c
  rw[Ye d,Ye (by rw[a];exact d)]
  simp only[B5,Int.toNat_natCast,W7 f,List.getElem_set]
  split
  ·rename_i e;subst e;rfl
  ·rfl
theorem Ll {r a:Int} (h:E2 cs r a=0): ∃i j:Nat,r=i∧a=j∧ ∃(b:i<cs.length),j<(cs[i]).vals.length:=by
 unfold E2 at h
 split at h
 ·rename_i d
  obtain ⟨i,rfl,b⟩:=N3.1 d
  split at h
  ·rename_i c
   rw[W7 b] at c
   exact ⟨i,a.toNat,rfl,by omega,b,by omega⟩
  ·cases h
 ·cases h
theorem GoodH.set (h:GoodH ok (Q4 l) room cs) (r m:Int) (v:Val):GoodH ok (Q4 l) room (H5 ok (Q4 l) cs r m v).1:=by
 unfold H5
 split
 ·exact h
 rename_i s
 have s:E2 cs r m=0:=by simpa using s
 split
 ·rename_i t
  obtain ⟨i,j,rfl,rfl,g,C⟩:=Ll s
  have z:M0 cs (i:Int)=true:=N3.2 ⟨i,rfl,g⟩
  rw[W7 g,Int.toNat_natCast] at t
  refine ⟨fun c A=>?_,?_⟩
  ·have a: ∀{u:Val} {k:X0},B3 ok (Q4 l) cs u k=true→B3 ok (Q4 l) (B5 cs i j v) u k=true:=fun w=>Hp (fun _ _=>Q2M z) w
   have b: ∀d∈cs,GoodC ok (Q4 l) (B5 cs i j v) d:=fun d p=>⟨(h.cells d p).is,(h.cells d p).kd,fun q n=>a ((h.cells d p).fits q n)⟩
   have f:c∈cs.set i ⟨cs[i].kind,cs[i].vals.set j v⟩:=by simpa [B5,W7 g] using A
   rcases List.mem_or_eq_of_mem_set f with f | rfl
   ·exact b c f
   ·have o:=b _ (List.getElem_mem g)
    refine ⟨by simpa using o.is,o.kd,fun q n=>?_⟩
    simp only[List.length_set] at n
    simp only[List.getElem_set]
    split
    ·rename_i e;subst e;exact a t
    ·exact o.fits q n
  ·have e:Y8 (B5 cs i j v)=Y8 cs:=by
    unfold Y8
    congr 1
    have B:(B5 cs i j v).map (fun c=>1+(c.vals.length:Int))=cs.map (fun c=>1+(c.vals.length:Int)):=by
     unfold B5
     rw[List.map_set,W7 g]
     simp only[List.length_set,Int.toNat_natCast]
     have y:1+(cs[i].vals.length:Int)=(cs.map (fun c=>1+(c.vals.length:Int)))[i]'(by simpa using g):=by simp
     rw[y,List.set_getElem_self]
    exact B
   have:=h.left
   unfold V9 at*
   rw[e];exact this
 ·exact h
theorem GoodH.cut (h:GoodH ok (Q4 l) room cs) (n:Int):GoodH ok (Q4 l) room (Iw cs n):=by
 unfold Iw
 split
 ·exact h
 rename_i hn
 have hn:=eq_false_of_ne_true hn
 generalize hm:max n 0=m at*
 have hm0:0≤m:=by omega
 refine ⟨fun c hc=>?_,?_⟩
 ·have hcs:=List.mem_of_mem_take hc
  refine ⟨(h.cells c hcs).is,(h.cells c hcs).kd,fun i hi=>Hp (fun h4 hk=>?_) ((h.cells c hcs).fits i hi)⟩
  have h1:=List.any_eq_false.1 hn c hc
  have h2: ¬F9 m c.vals[i]=true:=fun e=>h1 (List.any_eq_true.2 ⟨_,List.getElem_mem hi,e⟩)
  have hr:M0 cs c.vals[i].ref=true:=by
   cases he:M0 cs c.vals[i].ref with
   | true=>rfl
   | false=>unfold D2 at hk;rw[he] at hk;simp at hk
  obtain ⟨j,hj,hjl⟩:=N3.1 hr
  have hjm:(j:Int)<m:=by
   simp only[F9,Bool.and_eq_true,decide_eq_true_eq,not_and] at h2
   have:=h2 h4
   omega
  rw[hj,Ye hjl,Ye (by rw[List.length_take];omega)]
  simp
 ·have:Y8 cs=Y8 (cs.take m.toNat)+Y8 (cs.drop m.toNat):=by rw[←I5,List.take_append_drop]
  have h3:=L9 (cs.drop m.toNat)
  have:=h.left
  unfold V9 at*
  omega
theorem GoodH.act (wf:Wf l) (a:ok []=true) (h:GoodH ok (Q4 l) room cs) (x:ActH):GoodH ok (Q4 l) room (C8 ok (Q4 l) room cs x):=by
 unfold C8
 split
 ·exact GoodH.obj wf a h _
 split
 ·exact GoodH.arr wf a h _ _
 split
 ·exact GoodH.set h _ _ _
 split
 ·exact GoodH.cut h _
 ·exact h
theorem GoodH.empty (a:0≤room):GoodH ok l room []:=⟨by simp,by simpa [V9,Y8] using a⟩
end
end Go.Proofs.YtjdiakhipmggjaaGreatDoor

namespace Go.Emb
open Go.RowKit Go.Hm
variable {P : Program} {w w0 w1 w' w'' : World} {K : Value → World → Prop} {σ σ0 σ1 σ' : Q5}
def O3 (_:Q5) (v:Val) (cs:List Value):Prop:=cs=[I v.sort,I v.n,S v.s,I v.ref]∧Yc v.sort∧Yc v.n∧v.s.length≤U0∧Yc v.ref
instance:Rep O3:=⟨fun _ h=>h,fun h u hu=>by rw[h.1] at hu;simp at hu;rcases hu with rfl | rfl | rfl | rfl<;>rfl⟩
def R5 (σ:Q5) (c:Cel) (cs:List Value):Prop:= ∃v,cs=[S c.kind,v]∧Sl 4 O3 σ v c.vals∧c.kind.length≤U0
instance:Rep R5:=⟨fun hk ⟨v,h1,h2,h3⟩=>⟨v,h1,h2.le hk,h3⟩,fun ⟨v,h1,h2,h3⟩ u hu=>by
 rw[h1] at hu;simp at hu;rcases hu with rfl | rfl
 ·rfl
 ·exact T3 h2⟩
theorem Q8R {c:Cel} {cs:List Value} (h:R5 σ0 c cs) (k:SLe σ0 σ):R5 σ c cs:=Rep.up k.le h
def Q3n (_:Q5) (x:List UInt8×Value) (cs:List Value):Prop:=cs=[S x.1,x.2]∧x.1.length≤U0∧ ∃a n c,x.2= .slice a n c
instance:Rep Q3n:=⟨fun _ h=>h,fun ⟨h1,_,a,n,c,h2⟩ u hu=>by
 rw[h1,h2] at hu;simp at hu;rcases hu with rfl | rfl<;>rfl⟩
section
variable {α : Type} {R : Q5 → α → List Value → Prop} {B sz : Nat} {e : TypeId} {v u : Value} {xs : List α}
theorem J8.shiftR [hr:Rep R] (h:J8 B e sz R σ w v xs) (t:SLe σ σ') (m: ∀k,v.ownBlock=some k→σ' k=none):J8 B e sz R σ' w v xs:=by
 obtain ⟨a,f,rfl,s,o,c,n⟩:=h
 refine ⟨a,f,rfl,s,o,fun b d=>⟨(c b d).1,(c b d).2.1,(c b d).2.2.1,by subst d;exact m _ rfl⟩,fun A=>?_⟩
 obtain ⟨g,j,l,rfl,r,C,p,z,q⟩:=n A
 exact ⟨g,j,l,rfl,r,m g rfl,p,z,fun i x y=>hr.up t.le (q i x y)⟩
def Kt (w:World):World:={w with heap:= #[]}
theorem Yh (d:X2 w σ):Stp (Kt w) (fun _=>none) w σ:=
 ⟨⟨rfl,rfl,rfl,Nat.zero_le _,fun k a=>absurd a (Nat.not_lt_zero k)⟩,d,fun _ _ h=>(by cases h),fun b c=>absurd c (Nat.not_lt_zero b)⟩
theorem J8.freeze [hr:Rep R] (f:X2 w σ) (h:J8 B e sz R σ w v xs): ∃σ',X2 w σ'∧SLe σ σ'∧Sl sz R σ' v xs∧ ∀k,some k≠v.ownBlock→σ' k=σ k:=by
 obtain ⟨σ',a,c,d,b⟩:=(h.mono (Nat.zero_le B):J8 (Kt w).heap.size e sz R σ w v xs).keep (Yh f)
 exact ⟨σ',a.sat,d,c,b⟩
theorem Y1.freeze {b:Nat} {cs:List Value} (g:X2 w σ) (h:Y1 σ w b cs): ∃σ',X2 w σ'∧SLe σ σ'∧Z4 σ' ⟨b,0,none⟩ cs∧ ∀k,k≠b→σ' k=σ k:=by
 obtain ⟨σ',a,d,f,c⟩:=h.keep (Yh g) (Nat.zero_le b)
 exact ⟨σ',a.sat,⟨f⟩,d,c⟩
end
def X15 (vs:List Value):Prop:=vs.Pairwise fun a b=> ∀k,a.ownBlock=some k→b.ownBlock≠some k
def Q36 (B:Nat) (e:TypeId) (σ:Q5) (w:World) (vs:List Value) (cs:List Cel):Prop:=vs.length=cs.length∧ ∀i (h:i<vs.length) (a:i<cs.length),J8 B e 4 O3 σ w vs[i] cs[i].vals
theorem Q36.freeze {B:Nat} {e:TypeId}: ∀{vs:List Value} {cs:List Cel} {σ:Q5},X2 w σ→Q36 B e σ w vs cs→X15 vs→
 ∃σ',X2 w σ'∧SLe σ σ'∧(∀i (h:i<vs.length) (z:i<cs.length),Sl 4 O3 σ' vs[i] cs[i].vals)∧ ∀k,(∀v∈vs,v.ownBlock≠some k)→σ' k=σ k
 | [],cs,σ,f,h,g=>⟨σ,f,SLe.refl _,fun i h=>absurd h (Nat.not_lt_zero i),fun _ _=>rfl⟩
 | v::vs,[],σ,f,h,g=>by have:=h.1;simp at this
 | v::vs,c::cs,σ,f,h,g=>by
  obtain ⟨σ1,p,n,y,o1⟩:=(h.2 0 (by simp) (by simp)).freeze f
  obtain ⟨l,j⟩:=List.pairwise_cons.1 g
  have t:Q36 B e σ1 w vs cs:=⟨by simpa using h.1,fun i d a=>by
   have:=h.2 (i+1) (by simpa using d) (by simpa using a)
   simp only[List.getElem_cons_succ] at this
   refine this.shiftR n fun k b=>?_
   rw[o1 k fun e=>l _ (List.getElem_mem d) k e.symm b]
   exact (this.mem b).2.2⟩
  obtain ⟨s,r,m,q,o2⟩:=Q36.freeze p t j
  refine ⟨s,r,n.more m,fun i d a=>?_,fun k b=>?_⟩
  ·cases i with
   | zero=>exact y.lift m
   | succ i=>exact q i (by simpa using d) (by simpa using a)
  ·rw[o2 k fun u o=>b u (by simp[o]),o1 k fun e=>b v (by simp) e.symm]
def Qq (vs:List Value) (cs:List Cel):List (List UInt8×Value):=List.zipWith (fun v c=>(c.kind,v)) vs cs
theorem Df {vs:List Value} {cs:List Cel} (h:vs.length=cs.length):(Qq vs cs).length=cs.length:=by simp[Qq,h]
end Go.Emb
namespace Go.Proofs.YtjdiakhipmggjaaGreatDoor
open Go.Emb Go.RowKit Go.Kd Go.Hm
variable {w w' : World} {K : Value → World → Prop} {σ σ' : Q5}
def S4 (σ:Q5) (hp tv:Value) (room:Int) (cs:List Cel):Prop:= ∃a lv,hp= .pointer (some a)∧Z4 σ a [tv,I room,I (Y8 cs),lv]∧Sl 2 R5 σ lv cs
theorem S4.lift {hp tv:Value} {room:Int} {cs:List Cel} (h:S4 σ hp tv room cs) (b:SLe σ σ'):S4 σ' hp tv room cs:=by
 obtain ⟨a,lv,c,d,f⟩:=h
 exact ⟨a,lv,c,d.lift b,f.lift b⟩
structure RowsIs (B : Nat) (D : Nat → Prop) (σ : Q5) (w : World) (lv : Value) (cs : List Cel) : Prop where
  ex : ∃ vs, J8 B T.o 2 Q3n σ w lv (Qq vs cs) ∧ Q36 B T.f σ w vs cs ∧ X15 (lv :: vs) ∧ ∀ k, D k ↔ ∃ v ∈ lv :: vs, v.ownBlock = some k
structure HeapIs (B : Nat) (D : Nat → Prop) (σ : Q5) (w : World) (hp tv : Value) (room : Int) (cs : List Cel) : Prop where
  ex : ∃ b lv E, hp = .pointer (some ⟨b, 0, none⟩) ∧ B ≤ b ∧ Y1 σ w b [tv, I room, I (Y8 cs), lv] ∧ RowsIs B E σ w lv cs ∧ ¬ E b ∧ ∀ k, D k ↔ (k = b ∨ E k)
section
variable {B : Nat} {D E : Nat → Prop} {lv hp tv : Value} {room : Int} {cs : List Cel}
theorem RowsIs.mem (h:RowsIs B D σ w lv cs) {k:Nat} (a:D k):B≤k∧k<w.heap.size∧σ k=none:=by
 obtain ⟨vs,d,c,f,hD⟩:=h.ex
 obtain ⟨v,hv,a⟩:=(hD k).1 a
 rcases List.mem_cons.1 hv with rfl | hv
 ·exact d.mem a
 ·obtain ⟨i,b,rfl⟩:=List.getElem_of_mem hv
  exact (c.2 i b (by rw[←c.1];exact b)).mem a
theorem RowsIs.nx (h:RowsIs B D σ w lv cs) (k:Nxt E w σ w' σ') (c: ∀k,D k→ ¬E k):RowsIs B D σ' w' lv cs:=by
 obtain ⟨vs,l,d,f,hD⟩:=h.ex
 exact ⟨vs,l.nx k fun i a=>c i ((hD i).2 ⟨lv,by simp,a⟩),⟨d.1,fun i a b=>(d.2 i a b).nx k fun j g=>c j ((hD j).2 ⟨vs[i],by simp[List.getElem_mem a],g⟩)⟩,f,hD⟩
theorem RowsIs.up (h:RowsIs B D σ w lv cs) (k:Stp w σ w' σ'):RowsIs B D σ' w' lv cs:=
 h.nx (E:=fun _=>False) (.of_stp k) fun _ _=>id
theorem RowsIs.freeze (h:RowsIs B D σ w lv cs) (z:X2 w σ): ∃σ',X2 w σ'∧SLe σ σ'∧Sl 2 R5 σ' lv cs∧ ∀k,¬D k→σ' k=σ k:=by
 obtain ⟨vs,r,b,s,hD⟩:=h.ex
 obtain ⟨j,g⟩:=List.pairwise_cons.1 s
 obtain ⟨σ1,t,o,C,o1⟩:=b.freeze z g
 have d:J8 B T.o 2 Q3n σ1 w lv (Qq vs cs):=r.shiftR o fun k a=>by
  rw[o1 k fun v l e=>j v l k a e];exact (r.mem a).2.2
 obtain ⟨J,A,n,y,o2⟩:=d.freeze t
 refine ⟨J,A,o.more n,y.conv (R':=R5) (ys:=cs) (by rw[Df b.1]) fun i L q c H=>?_,fun k a=>?_⟩
 ·have f:i<vs.length:=by rw[b.1];exact q
  obtain ⟨p,m,_⟩:=H
  have e:(Qq vs cs)[i]=(cs[i].kind,vs[i]):=by simp[Qq]
  rw[e] at p m
  exact ⟨vs[i],p,(C i f q).lift n,m⟩
 ·rw[o2 k fun e=>a ((hD k).2 ⟨lv,by simp,e.symm⟩),o1 k fun v l e=>a ((hD k).2 ⟨v,by simp[l],e⟩)]
theorem HeapIs.mem (h:HeapIs B D σ w hp tv room cs) {k:Nat} (hk:D k):B≤k∧k<w.heap.size∧σ k=none:=by
 obtain ⟨b,lv,E,rfl,hB,a,c,hE,hD⟩:=h.ex
 rcases (hD k).1 hk with rfl | hk
 ·exact ⟨hB,a.lt,a.1⟩
 ·exact c.mem hk
theorem HeapIs.nx {F:Nat→Prop} (h:HeapIs B D σ w hp tv room cs) (k:Nxt F w σ w' σ') (a: ∀k,D k→ ¬F k):HeapIs B D σ' w' hp tv room cs:=by
 obtain ⟨b,lv,E,rfl,hB,d,f,hE,hD⟩:=h.ex
 exact ⟨b,lv,E,rfl,hB,d.nx k (a b ((hD b).2 (.inl rfl))),f.nx k fun i c=>a i ((hD i).2 (.inr c)),hE,hD⟩
theorem HeapIs.up (h:HeapIs B D σ w hp tv room cs) (k:Stp w σ w' σ'):HeapIs B D σ' w' hp tv room cs:=
 h.nx (F:=fun _=>False) (.of_stp k) fun _ _=>id
theorem HeapIs.freeze (h:HeapIs B D σ w hp tv room cs) (n:X2 w σ): ∃σ',X2 w σ'∧SLe σ σ'∧S4 σ' hp tv room cs∧ ∀k,¬D k→σ' k=σ k:=by
 obtain ⟨b,lv,E,rfl,hB,f,l,hE,hD⟩:=h.ex
 obtain ⟨σ1,i,m,q,o1⟩:=l.freeze n
 have a:Y1 σ1 w b [tv,I room,I (Y8 cs),lv]:=⟨by rw[o1 b hE];exact f.1,f.2⟩
 obtain ⟨g,p,d,j,o⟩:=a.freeze i
 exact ⟨g,p,m.more d,⟨_,lv,rfl,j,q.lift d⟩,fun k c=>by rw[o k fun e=>c ((hD k).2 (.inl e)),o1 k fun e=>c ((hD k).2 (.inr e))]⟩
end
end Go.Proofs.YtjdiakhipmggjaaGreatDoor

namespace Go.Emb
open Go.RowKit Go.Hm
variable {H : Type} {enc : TypeId × Value → H} {P : Program} {W : World} {t : TypeId} {cs : List Value} {fuel : Nat} {x : DataW H × List MemPlace}
theorem X1E {e:Array Field} (c:P.underlying t=some (.struct e)) (h:DataW.trod enc P W 0 (fun _=>true) true fuel t cs=some x) (s:Wt P t x.1) (i:Nat) {o m:Nat} {b:TypeId}
 (q:(e[i]?).map (fun f=>(f.type,f.offset))=some (b,o)) (w:P.cellsOf b=m): ∃n y,DataW.trod enc P W 0 (fun _=>true) true n b ((cs.drop o).take m)=some y∧Wt P b y.1:=by
 obtain ⟨xs,n,_,rfl,A,k,l⟩:=DataW.trod_struct c h
 obtain ⟨f,a,r⟩:=Option.map_eq_some_iff.1 q
 cases r
 have j:=l i f a
 have g:i<xs.length:=by rw[k];exact (Array.getElem?_eq_some_iff.1 a).1
 rw[List.getElem?_eq_getElem g,w] at j
 refine ⟨n,_,j,fun m z=>s m ?_⟩
 simp only[DataW.weights,c]
 exact Q7p (i:=i) (u:=f.type) (by rw[List.getElem?_map,Array.getElem?_toList,a];rfl) (by rw[List.getElem?_map,List.getElem?_eq_getElem g];rfl) m z
def Ke (_:Q5) (x:ActH) (cs:List Value):Prop:=cs=[I x.kind,S x.s,I x.n,I x.ref,I x.v.sort,I x.v.n,S x.v.s,I x.v.ref]∧(Yc x.kind∧x.s.length≤U0∧Yc x.n∧Yc x.ref)∧Yc x.v.sort∧Yc x.v.n∧x.v.s.length≤U0∧Yc x.v.ref
instance:Rep Ke:=⟨fun _ h=>h,fun h u hu=>by rw[h.1] at hu;simp at hu;rcases hu with rfl | rfl | rfl | rfl | rfl | rfl | rfl | rfl<;>rfl⟩
end Go.Emb
namespace Go.Proofs.YtjdiakhipmggjaaGreatDoor
open Go.Emb Go.RowKit Go.Kd Go.Hm
variable {H : Type} {enc : TypeId × Value → H} {W : World} {cs : List Value} {fuel : Nat} {x : DataW H × List MemPlace}
def X3h:Array Field:= #[⟨"Sort",T.e,0,false, "", "",0⟩,⟨"N",T.a1,1,false, "", "",8⟩,⟨"S",T.c,2,false, "", "",16⟩,⟨"Ref",T.e,3,false, "", "",32⟩]
theorem Q31:P.underlying T.f=some (.struct X3h):=by kernel_rfl
theorem Q6Q:P.underlying T.a1=some (.int .i64):=by kernel_rfl
theorem X2N (h:DataW.trod enc P W 0 (fun _=>true) true fuel T.f cs=some x) (a:Wt P T.f x.1): ∃y,O3 (Wc W) y cs:=by
 obtain ⟨A,E,D,C,rfl⟩:=X3E (Q8y Q31 (by kernel_rfl) h)
 obtain ⟨_,_,s,w0⟩:=Wz (o:=0) Q31 h a 0 rfl Q4N
 obtain ⟨_,_,g,w1⟩:=Wz (o:=1) Q31 h a 1 rfl (by kernel_rfl)
 obtain ⟨_,_,j,l⟩:=Wz (o:=2) Q31 h a 2 rfl Kf
 obtain ⟨_,_,q,B⟩:=Wz (o:=3) Q31 h a 3 rfl Q4N
 obtain ⟨n,b,k⟩:=Gl Ks s
 obtain ⟨i,f,m⟩:=Gl Q6Q g
 obtain ⟨r,e,z⟩:=Q9c X8 j l
 obtain ⟨u,c,w⟩:=Gl Ks q
 simp at b f e c
 subst b f e c
 exact ⟨⟨n,i,r,u⟩,rfl,k,m,z,w⟩
def X3y:Array Field:= #[⟨"Kind",T.e,0,false, "", "",0⟩,⟨"S",T.c,1,false, "", "",8⟩,⟨"N",T.a1,2,false, "", "",24⟩,⟨"Ref",T.e,3,false, "", "",32⟩,⟨"V",T.f,4,false, "", "",40⟩]
theorem Q18:P.underlying T.m=some (.struct X3y):=by kernel_rfl
theorem X2l (h:DataW.trod enc P W 0 (fun _=>true) true fuel T.m cs=some x) (a:Wt P T.m x.1): ∃y,Ke (Wc W) y cs:=by
 obtain ⟨O,c1,Z,X,Q,c5,Y,U,rfl⟩:=X33 (Q8y Q18 (by kernel_rfl) h)
 obtain ⟨_,_,A,w0⟩:=Wz (o:=0) Q18 h a 0 rfl Q4N
 obtain ⟨_,_,i,w1⟩:=Wz (o:=1) Q18 h a 1 rfl Kf
 obtain ⟨_,_,k,R⟩:=Wz (o:=2) Q18 h a 2 rfl (by kernel_rfl)
 obtain ⟨_,_,u,V⟩:=Wz (o:=3) Q18 h a 3 rfl Q4N
 obtain ⟨_,_,r,D⟩:=X1E (o:=4) (m:=4) Q18 h a 4 rfl (by kernel_rfl)
 obtain ⟨s,b,l⟩:=Gl Ks A
 obtain ⟨j,f,n⟩:=Q9c X8 i w1
 obtain ⟨w,e,L⟩:=Gl Q6Q k
 obtain ⟨C,c,E⟩:=Gl Ks u
 obtain ⟨N,g,J⟩:=X2N r D
 simp at b f e c g
 obtain ⟨M,z,B,q⟩:=g
 subst b f e c M z B q
 exact ⟨⟨s,j,w,C,N⟩,rfl,⟨l,n,L,E⟩,J⟩
theorem Q8H:P.underlying T.a0=some (.slice T.m):=by kernel_rfl
section
variable {v : Value} {d : DataW H} {p : List MemPlace}
set_option maxRecDepth 100000 in
theorem X1j {base:Nat} (g:Value.okWide P W .any base T.a0 v) (h:DataW.Trod enc P W 0 (fun _=>true) true T.a0 v d p) (b:Wt P T.a0 d): ∃l,Sl 8 Ke (Wc W) v l:=by
 obtain ⟨a,n,c,rfl⟩:=WideShapes.okWide_slice Q8H g
 unfold DataW.Trod at h
 obtain ⟨fuel,h⟩:=h
 obtain ⟨u,l,e,f⟩:=X3u (R:=Ke) (sz:=8) Q8H (by kernel_rfl) (by decide) (fun _ _ _ h b=>X2l h b) h b
 simp[Value.cells] at e
 subst e
 exact ⟨l,f⟩
end
end Go.Proofs.YtjdiakhipmggjaaGreatDoor

namespace Go.Emb
open Go.RowKit Go.Hm
variable {P : Program} {w : World} {K : Value → World → Prop}
theorem Q9E (n:Int):(BitVec.ofInt 64 n &&& BitVec.ofInt 64 1).toNat=(n % 2).toNat:=by
 rw[BitVec.toNat_and,BitVec.toNat_ofInt,BitVec.toNat_ofInt]
 have e:((1:Int) % ((2 ^ 64:Nat):Int)).toNat=1:=by decide
 rw[e,Nat.and_one_is_mod]
 omega
theorem X2L {t:TypeId} {b a:Operand} {n:Int} (h:K (I (n % 2)) w):Q3 P .and t b a (I n) (I 1) w K:=by
 have e:Q3 P .and t b a (I n) (I 1) w K=K (I (n % 2)) w:=X9 (by
  have d:(BitVec.ofInt IntKind.i64.bits n &&& BitVec.ofInt IntKind.i64.bits 1).toNat=(n % 2).toNat:=Q9E n
  have f:IntKind.i64.wrap ((n % 2).toNat:Int)=n % 2:=by rw[S7 (by omega) (by omega)];omega
  have c:((n % 2 ^ IntKind.i64.bits).toNat &&& 1 % 2 ^ IntKind.i64.bits)=(n % 2).toNat:=by
   show ((n % 18446744073709551616).toNat &&& 1)=_
   rw[Nat.and_one_is_mod];omega
  simp[eqGuard,binOp,Op.intBits,c]
  rw[show max (n % 2) 0=n % 2 by omega,S7 (by omega) (by omega)])
 rw[e];exact h
end Go.Emb
namespace Go.Proofs.YtjdiakhipmggjaaGreatDoor
open Go.Emb Go.RowKit Go.Kd Go.Hm
variable {w w' : World} {K : Value → World → Prop} {σ σ' : Q5} {hp tv : Value} {room : Int} {cs : List Cel} {l : List Cla}
theorem X2E:(P.fieldsOf T.f).toList=[⟨"Sort",T.e,0,false, "", "",0⟩,⟨"N",T.a1,1,false, "", "",8⟩,⟨"S",T.c,2,false, "", "",16⟩,⟨"Ref",T.e,3,false, "", "",32⟩]:=by kernel_rfl
set_option maxRecDepth 100000 in
theorem X1t (a b:Val):(Op.eqFields 9999 [I a.sort,I a.n,S a.s,I a.ref].toArray [I b.sort,I b.n,S b.s,I b.ref].toArray (P.fieldsOf T.f).toList).run P w= .ok (decide (a=b)) w:=by
 rw[X2E]
 have:=Pk (P:=P) (w:=w) (d:=9999) (xs:=[I a.sort,I a.n,S a.s,I a.ref].toArray) (ys:=[I b.sort,I b.n,S b.s,I b.ref].toArray) (f:=⟨"Sort",T.e,0,false, "", "",0⟩) (by decide) rfl rfl (Q3q (k:= .i64) (by kernel_rfl) _ _)
  (Pk (f:=⟨"N",T.a1,1,false, "", "",8⟩) (by decide) rfl rfl (Q3q (k:= .i64) (by kernel_rfl) _ _) (Pk (f:=⟨"S",T.c,2,false, "", "",16⟩) (by decide) rfl rfl (X1U X8 _ _) (Pk (f:=⟨"Ref",T.e,3,false, "", "",32⟩) (by decide) rfl rfl (Q3q (k:= .i64) (by kernel_rfl) _ _) X1e)))
 rw[this]
 congr 1
 obtain ⟨j,e,g,i⟩:=a
 obtain ⟨o,h,c,m⟩:=b
 simp[Bool.decide_and]
theorem Rr {a b d:Int} {c:X0}: ∀u∈[I a,I b,S c,I d],u.oneCell'=true:=by
 intro u e
 simp only[List.mem_cons,List.not_mem_nil,or_false] at e
 rcases e with rfl | rfl | rfl | rfl<;>rfl
set_option maxRecDepth 100000 in
theorem Dh {k j:Operand} {f b e i d g:Int} {c a:X0} (h:K (.bool (decide ((⟨f,b,c,e⟩:Val)=⟨i,d,a,g⟩))) w):Q3 P .eql T.f k j (.agg [I f,I b,S c,I e].toArray) (.agg [I i,I d,S a,I g].toArray) w K:=
 X1D (by kernel_rfl) (by kernel_rfl) (by kernel_rfl) (X1t ⟨f,b,c,e⟩ ⟨i,d,a,g⟩) h
theorem Sl.elV {v:Value} {xs:List Val} (h:Sl 4 O3 σ v xs) {i:Nat} (a:i<xs.length):Z4 σ (Vp 4 v i) [I xs[i].sort,I xs[i].n,S xs[i].s,I xs[i].ref]∧O3 σ xs[i] [I xs[i].sort,I xs[i].n,S xs[i].s,I xs[i].ref]:=by
 obtain ⟨cs,b,d,rfl,c⟩:=h.el a;exact ⟨b,rfl,c⟩
theorem Sl.elO {v:Value} {xs:List Cel} (h:Sl 2 R5 σ v xs) {i:Nat} (b:i<xs.length): ∃a,Z4 σ (Vp 2 v i) [S xs[i].kind,a]∧Sl 4 O3 σ a xs[i].vals∧xs[i].kind.length≤U0:=by
 obtain ⟨cs,c,f,a,rfl,e,d⟩:=h.el b;exact ⟨a,c,e,d⟩
theorem Q9r (c:X2 w σ) (hh:S4 σ hp tv room cs) (h:K (I cs.length) w):Q1 P F.b3 [hp] w K:=Q1I (by
 obtain ⟨a,e,rfl,b,d⟩:=hh
 unfold Hc
 (try simp only[↓M1,M1,Mb,reduceIte])
 refine ld c b rfl ?_
 refine Q8 d ?_
 exact h)
theorem X0F (c:X2 w σ) (hh:S4 σ hp tv room cs) (h:K tv w):Q1 P F.bB [hp] w K:=Tk (by
 obtain ⟨a,d,rfl,b,e⟩:=hh
 unfold Oq
 rw[M3,fa]
 exact ld c b rfl h)
theorem Q1w (c:X2 w σ) (hh:S4 σ hp tv room cs) (j:0≤V9 room cs) (g:room≤1048576) (h: ∀w',Below w.heap.size w w'→K (I (V9 room cs)) w'):Q1 P F.v [hp] w K:=Q04 (by
 obtain ⟨a,i,rfl,f,m⟩:=hh
 unfold Ec
 have e:=L9 cs
 unfold V9 at*
 refine U2 c ?_
 (repeat refine J6 Qt ?_)
 (intros;(repeat (rename_i d;subst d));(try simp only[↓M2,M2,Mb,reduceIte]))
 rename_i k b
 rw[S7 (by omega) (by omega)]
 exact h _ b.stp.bel)
theorem Q5d (d:X2 w σ) (hh:S4 σ hp tv room cs) {r:Int} (h:K (.bool (M0 cs r)) w):Q1 P F.aD [hp,I r] w K:=Q1E (by
 obtain ⟨a,f,rfl,c,e⟩:=hh
 unfold Hj
 refine P0 ?_
 unfold M0 at h
 cases b:decide ((0:Int)≤r) with
 | false=>
  rw[b] at h
  (try simp only[↓M1,M1,Mb,reduceIte])
  exact h
 | true=>
  rw[b] at h
  (try simp only[↓M1,M1,Mb,reduceIte])
  refine ld d c rfl ?_
  refine Q8 e ?_
  refine Z2 ?_
  (try simp only[↓M1,M1,Mb,reduceIte])
  exact h)
theorem Q7m (d:X2 w σ) (hh:S4 σ hp tv room cs) {r:Int} (h:K (S (D2 cs r)) w):Q1 P F.ax [hp,I r] w K:=Q0h (by
 unfold Dv
 refine Q5d d hh ?_
 unfold D2 at h
 cases c:M0 cs r with
 | false=>rw[c] at h;(try simp only[↓M1,M1,Mb,reduceIte]);exact h
 | true=>
  rw[c] at h
  obtain ⟨i,rfl,b⟩:=N3.1 c
  rw[W7 b] at h
  obtain ⟨a,j,rfl,g,e⟩:=hh
  obtain ⟨k,f,_,_⟩:=Sl.elO e b
  (try simp only[↓M1,M1,Mb,reduceIte])
  refine ld d g rfl ?_
  refine Y3 e b ?_
  (try simp only[↓M1,M1,Mb,reduceIte])
  exact ld d f rfl h)
theorem Q7l (d:X2 w σ) (hh:S4 σ hp tv room cs) {r:Int} (h:K (I (Q0v cs r)) w):Q1 P F.aX [hp,I r] w K:=Q0N (by
 unfold Dt
 refine Q5d d hh ?_
 unfold Q0v at h
 cases c:M0 cs r with
 | false=>rw[c] at h;(try simp only[↓M1,M1,Mb,reduceIte]);exact h
 | true=>
  rw[c] at h
  obtain ⟨i,rfl,b⟩:=N3.1 c
  rw[W7 b] at h
  obtain ⟨a,k,rfl,g,e⟩:=hh
  obtain ⟨m,f,j,_⟩:=Sl.elO e b
  (try simp only[↓M1,M1,Mb,reduceIte])
  refine ld d g rfl ?_
  refine Y3 e b ?_
  (try simp only[↓M1,M1,Mb,reduceIte])
  refine ld d f rfl ?_
  exact Q8 j h)
theorem Q79 (c:X2 w σ) (hh:S4 σ hp tv room cs) {r i:Int} (h:K (I (E2 cs r i)) w):Q1 P F.aP [hp,I r,I i] w K:=Tw (by
 unfold Ow
 refine Q5d c hh ?_
 unfold E2 at h
 cases e:M0 cs r with
 | false=>rw[e] at h;(try simp only[↓M1,M1,Mb,reduceIte]);exact h
 | true=>
  rw[e] at h
  obtain ⟨j,rfl,d⟩:=N3.1 e
  rw[W7 d] at h
  obtain ⟨a,p,rfl,m,f⟩:=hh
  obtain ⟨o,n,k,_⟩:=Sl.elO f d
  (try simp only[↓M1,M1,Mb,reduceIte])
  by_cases g:i<0
  ·rw[decide_eq_true g]
   (try simp only[↓M1,M1,Mb,reduceIte])
   rw[if_pos rfl,if_neg (by omega)] at h
   exact h
  ·rw[decide_eq_false g]
   (try simp only[↓M1,M1,Mb,reduceIte])
   refine ld c m rfl ?_
   refine Y3 f d ?_
   (try simp only[↓M1,M1,Mb,reduceIte])
   refine ld c n rfl ?_
   refine Q8 k ?_
   refine P0 ?_
   (try simp only[↓M1,M1,Mb,reduceIte])
   refine Q7 (fun b=>?_) (fun b=>?_)
   ·have b:(cs[j].vals.length:Int)≤i:=by simpa using b
    rw[if_pos rfl,if_neg (by omega)] at h
    exact h
   ·have b: ¬(cs[j].vals.length:Int)≤i:=by simpa using b
    rw[if_pos rfl,if_pos (by omega)] at h
    exact h)
theorem X2u (p:X2 w σ) (hh:S4 σ hp tv room cs) {r i:Int} (h: ∀w' σ',Stp w σ w' σ'→K (.tuple #[.agg [I (Ex cs r i).sort,I (Ex cs r i).n,S (Ex cs r i).s,I (Ex cs r i).ref].toArray,I (E2 cs r i)]) w'):Q1 P F.c0 [hp,I r,I i] w K:=Q1K (by
 unfold He
 refine M8 p fun b w1 σ1 y c o=>?_
 have k:=hh.lift ⟨c.le⟩
 refine Q79 c.sat k ?_
 refine Zz ?_
 unfold Ex at h
 by_cases g:E2 cs r i=0
 ·have e:decide (E2 cs r i=0)=true:=decide_eq_true g
  rw[if_pos g,g] at h
  obtain ⟨a,H,rfl,B,u⟩:=k
  simp only[e,Bool.not_true,↓M1,M1,Mb,reduceIte]
  obtain ⟨j,m,rfl,rfl,q,t⟩:=Ll g
  rw[W7 q,Int.toNat_natCast] at h
  obtain ⟨E,D,v,_⟩:=Sl.elO u q
  obtain ⟨z,C⟩:=Sl.elV v t
  refine ld c.sat B rfl ?_
  refine Y3 u q ?_
  (try simp only[↓M1,M1,Mb,reduceIte])
  refine ld c.sat D rfl ?_
  refine Y3 v t ?_
  refine Y4 c.sat z rfl ?_
  refine F8 o c (M7 y (Stp.refl p)) rfl rfl (Rep.one C) fun A d f=>?_
  refine V1 f rfl ?_
  have e:cs[j].vals.getD m Val.zero=cs[j].vals[m]:=by rw[List.getD_eq_getElem?_getD,List.getElem?_eq_getElem t];rfl
  rw[e] at h
  exact h _ _ d.stp
 ·have e:decide (E2 cs r i=0)=false:=by simpa using g
  rw[if_neg g] at h
  simp only[e,Bool.not_false,↓M1,M1,Mb,reduceIte]
  refine W1 (cells:= #[I 0,I 0,S [],I 0]) (by kernel_rfl) ?_
  refine F8 (ds:=[I 0,I 0,S [],I 0]) o c (M7 y (Stp.refl p)) rfl rfl Rr fun A d f=>?_
  refine V1 f rfl ?_
  exact h _ _ d.stp)
theorem Q9v {k:X0} (o:X2 w σ) (h: ∀w' σ',Stp w σ w' σ'→K (.agg [I (L7 k).sort,I (L7 k).n,S (L7 k).s,I (L7 k).ref].toArray) w'):Q1 P F.ct [S k] w K:=Q6e (by
 unfold Q1U
 refine M8 o fun b w1 σ1 r g i=>?_
 have hB:=M7 r (Stp.refl o)
 unfold L7 at h
 have a: ∀(n:Int) (t:K (.agg [I n,I 0,S [],I 0].toArray)=K (.agg [I n,I 0,S [],I 0].toArray)),(∀w' σ',Stp w σ w' σ'→K (.agg [I n,I 0,S [],I 0].toArray) w')→Y0 P T.f (.pointer (some ⟨b,0,none⟩)) (.agg #[I n,I 0,S [],I 0]) w1 fun _ f=>Y7 P T.f (.pointer (some ⟨b,0,none⟩)) f fun p=>K p f:=fun n _ q=>
  F8 (ds:=[I n,I 0,S [],I 0]) i g hB rfl rfl Rr fun f j m=>V1 m rfl (q _ _ j.stp)
 refine K6 ?_
 by_cases e:k=P2
 ·simp only[if_pos e] at h
  rw[show decide (k=[105,110,116])=true from decide_eq_true e]
  refine J3 ?_
  refine W1 (cells:= #[I 1,I 0,S [],I 0]) (by kernel_rfl) ?_
  exact a 1 rfl h
 simp only[if_neg e] at h
 rw[show decide (k=[105,110,116])=false from decide_eq_false e]
 refine Z7 ?_
 refine K6 ?_
 by_cases c:k=Zx
 ·simp only[if_pos c] at h
  rw[show decide (k=[98,111,111,108])=true from decide_eq_true c]
  refine J3 ?_
  refine W1 (cells:= #[I 2,I 0,S [],I 0]) (by kernel_rfl) ?_
  exact a 2 rfl h
 simp only[if_neg c] at h
 rw[show decide (k=[98,111,111,108])=false from decide_eq_false c]
 refine Z7 ?_
 refine K6 ?_
 by_cases d:k=D0
 ·simp only[if_pos d] at h
  rw[show decide (k=[116,101,120,116])=true from decide_eq_true d]
  refine J3 ?_
  refine W1 (cells:= #[I 3,I 0,S [],I 0]) (by kernel_rfl) ?_
  exact a 3 rfl h
 ·simp only[if_neg d] at h
  rw[show decide (k=[116,101,120,116])=false from decide_eq_false d]
  refine Z7 ?_
  refine W1 (cells:= #[I 0,I 0,S [],I 0]) (by kernel_rfl) ?_
  exact a 0 rfl h)
def W5 (s:X0):Bool:=decide (s.length≤4096)&&Lib.validD s
theorem Q84 (hh:S4 σ hp tv room cs) (r:Int):(D2 cs r).length≤U0:=by
 unfold D2
 split
 ·rename_i c
  obtain ⟨i,rfl,b⟩:=N3.1 c
  rw[W7 b]
  obtain ⟨a,f,rfl,e,d⟩:=hh
  exact (Sl.elO d b).choose_spec.2.2
 ·exact Nat.zero_le _
theorem X1L (hh:S4 σ hp tv room cs) (v:Val):(K7 W5 cs v).length≤U0:=by
 unfold K7
 split
 ·decide
 split
 ·decide
 split
 ·decide
 split
 ·decide
 split
 ·exact Q84 hh _
 ·exact Nat.zero_le _
theorem Q52 (n:Int):n=n % 2↔n=0∨n=1:=by omega
set_option maxHeartbeats 1000000 in
theorem X3W (X:X2 w σ) (W:Glb σ) (hh:S4 σ hp tv room cs) {v:Val} (Y:v.s.length≤U0) (h: ∀w' σ',Stp w σ w' σ'→K (S (K7 W5 cs v)) w'):Q1 P F.cc [hp, .agg [I v.sort,I v.n,S v.s,I v.ref].toArray] w K:=Q2m (by
 unfold St
 refine Z0 X fun q w1 σ1 g k=>?_
 have f:=g.sat
 refine Y4 f k rfl ?_
 refine W1 (cells:= #[I 0,I 0,S [],I 0]) (by kernel_rfl) ?_
 refine Dh ?_
 unfold K7 at h
 by_cases t:v=Val.zero
 ·rw[if_pos t] at h
  have:decide ((⟨v.sort,v.n,v.s,v.ref⟩:Val)=⟨0,0,[],0⟩)=true:=decide_eq_true t
  rw[this]
  exact J3 (h _ _ g)
 rw[if_neg t] at h
 have:decide ((⟨v.sort,v.n,v.s,v.ref⟩:Val)=⟨0,0,[],0⟩)=false:=decide_eq_false t
 rw[this]
 refine Z7 ?_
 refine Y4 f k rfl ?_
 refine W4 ?_
 refine ld f k rfl ?_
 refine W1 (cells:= #[I 1,I v.n,S [],I 0]) (by kernel_rfl) ?_
 refine Dh ?_
 by_cases y:v=⟨1,v.n,[],0⟩
 ·rw[if_pos y] at h
  have:decide ((⟨v.sort,v.n,v.s,v.ref⟩:Val)=⟨1,v.n,[],0⟩)=true:=decide_eq_true y
  rw[this]
  exact J3 (h _ _ g)
 rw[if_neg y] at h
 have:decide ((⟨v.sort,v.n,v.s,v.ref⟩:Val)=⟨1,v.n,[],0⟩)=false:=decide_eq_false y
 rw[this]
 refine Z7 ?_
 refine Y4 f k rfl ?_
 refine W4 ?_
 refine ld f k rfl ?_
 refine X2L ?_
 refine W1 (cells:= #[I 2,I (v.n % 2),S [],I 0]) (by kernel_rfl) ?_
 refine Dh ?_
 have p:(v=⟨2,v.n % 2,[],0⟩)↔(v=⟨2,v.n,[],0⟩∧(v.n=0∨v.n=1)):=by
  obtain ⟨a,b,c,d⟩:=v
  simp only[Val.mk.injEq,true_and]
  constructor
  ·rintro ⟨J,D,p⟩;exact ⟨⟨J,p⟩,(Q52 b).1 D⟩
  ·rintro ⟨⟨J,p⟩,D⟩;exact ⟨J,(Q52 b).2 D,p⟩
 by_cases A:v=⟨2,v.n % 2,[],0⟩
 ·rw[if_pos (p.1 A)] at h
  have:decide ((⟨v.sort,v.n,v.s,v.ref⟩:Val)=⟨2,v.n % 2,[],0⟩)=true:=decide_eq_true A
  rw[this]
  exact J3 (h _ _ g)
 rw[if_neg (fun e=>A (p.2 e))] at h
 have:decide ((⟨v.sort,v.n,v.s,v.ref⟩:Val)=⟨2,v.n % 2,[],0⟩)=false:=decide_eq_false A
 rw[this]
 refine Z7 ?_
 refine Y4 f k rfl ?_
 refine W4 ?_
 refine ld f k rfl ?_
 refine W1 (cells:= #[I 3,I 0,S v.s,I 0]) (by kernel_rfl) ?_
 refine Dh ?_
 have j: ∀{u R},Stp w σ u R→SLe σ1 R→(∀w' σ',Stp w σ w' σ'→K (S (if v=⟨4,0,[],v.ref⟩ then D2 cs v.ref else [])) w')→Q2 P T.f (.pointer (some q)) u fun M w=>
  Q2 P T.e (.pointer (some (q.add 3))) w fun C w=>
  H1 P T.f [(0,(.int .i64 4)),(3,C)] w fun E w=>
  Q3 P .eql T.f (.tmp 40) (.tmp 43) M E w fun Q w=>
  X1 Q (
   Q2 P T.e (.pointer (some (q.add 3))) w fun L w=>
   Q1 P F.ax [hp,L] w fun H w=>
   K H w) (
   K (.string ⟨#[]⟩) w):=by
  intro u R i O h
  have m:=k.lift O
  refine Y4 i.sat m rfl ?_
  refine ld i.sat m rfl ?_
  refine W1 (cells:= #[I 4,I 0,S [],I v.ref]) (by kernel_rfl) ?_
  refine Dh ?_
  by_cases z:v=⟨4,0,[],v.ref⟩
  ·rw[if_pos z] at h
   have:decide ((⟨v.sort,v.n,v.s,v.ref⟩:Val)=⟨4,0,[],v.ref⟩)=true:=decide_eq_true z
   rw[this]
   refine J3 ?_
   refine ld i.sat m rfl ?_
   exact Q7m i.sat (hh.lift ⟨i.le⟩) (h _ _ i)
  ·rw[if_neg z] at h
   have:decide ((⟨v.sort,v.n,v.s,v.ref⟩:Val)=⟨4,0,[],v.ref⟩)=false:=decide_eq_false z
   rw[this]
   exact Z7 (h _ _ i)
 by_cases B:v=⟨3,0,v.s,0⟩
 ·have:decide ((⟨v.sort,v.n,v.s,v.ref⟩:Val)=⟨3,0,v.s,0⟩)=true:=decide_eq_true B
  rw[this]
  (try simp only[↓M1,M1,Mb,reduceIte])
  refine ld f k rfl ?_
  refine Ff X8 ?_
  refine Q4K ?_
  by_cases U:v.s.length≤4096
  ·rw[decide_eq_true (show (v.s.length:Int)≤4096 by omega)]
   (try simp only[↓M1,M1,Mb,reduceIte])
   refine ld f k rfl ?_
   refine Px Y (W.tabs _ (fun b o e=>f b o (g.le b o e))) fun u N=>?_
   have r:=g.trans (Stp.of_below f N)
   cases V:Lib.validD v.s with
   | true=>
    (try simp only[↓M1,M1,Mb,reduceIte])
    rw[if_pos ⟨B,by simp[W5,V,U]⟩] at h
    exact h _ _ r
   | false=>
    (try simp only[↓M1,M1,Mb,reduceIte])
    rw[if_neg (by rintro ⟨_,e⟩;simp[W5,V] at e)] at h
    exact j r (SLe.refl _) h
  ·rw[decide_eq_false (show¬(v.s.length:Int)≤4096 by omega)]
   (try simp only[↓M1,M1,Mb,reduceIte])
   rw[if_neg (by rintro ⟨_,e⟩;simp[W5,U] at e)] at h
   exact j g (SLe.refl _) h
 ·have:decide ((⟨v.sort,v.n,v.s,v.ref⟩:Val)=⟨3,0,v.s,0⟩)=false:=decide_eq_false B
  rw[this]
  (try simp only[↓M1,M1,Mb,reduceIte])
  rw[if_neg (fun e=>B e.1)] at h
  exact j g (SLe.refl _) h)
end Go.Proofs.YtjdiakhipmggjaaGreatDoor

namespace Go.Proofs.YtjdiakhipmggjaaGreatDoor
open Go.Emb Go.RowKit Go.Kd Go.Hm
variable {w : World} {K : Value → World → Prop} {σ : Q5}
theorem Fm {β:Type} {xs:List Val} {v f:Value} (b:β→Val→Bool×β) (j:β) (a:β→World→Prop) (D:Nat→Prop) (k: ∀s w,a s w→X2 w σ) (C:a j w) (u:Sl 4 O3 σ v xs)
 (A: ∀s x cs (w1:World) (K:Value→World→Prop),x∈xs→Kpt D w w1→a s w1→O3 σ x cs→cs.length=4→(∀w',Kpt D w w'→a (b s x).2 w'→K (.bool (b s x).1) w')→Z3 P f [.agg cs.toArray] w1 K)
 (h: ∀w',Kpt D w w'→a (J0 b j xs 0).2 w'→K (I (L5 (J0 b j xs 0).1)) w'):Q1 P F.a4 [v,f] w K:=Yt (by
 unfold F4
 ((try simp only[↓M1,M1,Mb,reduceIte]);repeat ((first | refine ld (by assumption) (by assumption) rfl ?_ | refine X7 (by assumption) (by assumption) rfl ?_ | refine Q8 (by assumption) ?_);(try simp only[↓M1,M1,Mb,reduceIte])))
 refine U1 xs.length (fun n w'=>Kpt D w w'∧ ∃s,a s w'∧J0 b j xs 0=J0 b s (xs.drop n) n) ⟨Kpt.refl,j,C,rfl⟩ fun n w1 d E i=>?_
 obtain ⟨t,s,i,g⟩:=i
 have o:=k s w1 i
 ((try simp only[↓M1,M1,Mb,reduceIte]);repeat ((first | refine ld (by assumption) (by assumption) rfl ?_ | refine X7 (by assumption) (by assumption) rfl ?_ | refine Q8 (by assumption) ?_);(try simp only[↓M1,M1,Mb,reduceIte])))
 refine Q7 (fun q=>?_) (fun q=>?_)
 ·have c:n<xs.length:=by simpa using q
  refine M9 u c fun p cs B e z=>?_
  refine Y4 o B e ?_
  refine A s xs[n] cs w1 _ (List.getElem_mem c) t i z e fun y m l=>?_
  rw[List.drop_eq_getElem_cons c] at g
  simp only[J0] at g
  refine Q7 (fun r=>?_) (fun r=>?_)
  ·rw[r] at g
   have:=h y m
   rw[g] at this
   exact this l
  ·rw[r] at g
   ((try simp only[↓M1,M1,Mb,reduceIte]);repeat ((first | refine ld (by assumption) (by assumption) rfl ?_ | refine X7 (by assumption) (by assumption) rfl ?_ | refine Q8 (by assumption) ?_);(try simp only[↓M1,M1,Mb,reduceIte])))
   exact Y6 u.max c ⟨m,_,l,by simpa using g⟩
 ·have c: ¬n<xs.length:=by simpa using q
  rw[List.drop_eq_nil_of_le (by omega)] at g
  have:=h w1 t
  rw[g] at this
  exact this i)
theorem Sx {β:Type} {xs:List Val} {v f:Value} (b:β→Val→Bool×β) (d:β) (a:β→World→Prop) (D:Nat→Prop) (c: ∀s w,a s w→X2 w σ) (k:a d w) (j:Sl 4 O3 σ v xs)
 (g: ∀s x cs (w1:World) (K:Value→World→Prop),x∈xs→Kpt D w w1→a s w1→O3 σ x cs→cs.length=4→(∀w',Kpt D w w'→a (b s x).2 w'→K (.bool (b s x).1) w')→Z3 P f [.agg cs.toArray] w1 K)
 (h: ∀w',Kpt D w w'→a (J0 b d xs 0).2 w'→K (.bool (J0 b d xs 0).1.isSome) w'):Q1 P F.k [v,f] w K:=Qy (by
 unfold C3
 refine Fm b d a D c k j g fun w1 i e=>?_
 (try simp only[↓M1,M1,Mb,reduceIte])
 rw[Dd]
 exact h w1 i e)
theorem Se {xs:List Val} {v f:Value} (p:Val→Bool) (hs:X2 w σ) (hv:Sl 4 O3 σ v xs)
 (hf: ∀x cs (w1:World) (K:Value→World→Prop),x∈xs→X2 w1 σ→O3 σ x cs→cs.length=4→(∀w',Below w1.heap.size w1 w'→K (.bool (p x)) w')→Z3 P f [.agg cs.toArray] w1 K)
 (h: ∀w',Below w.heap.size w w'→K (.bool (xs.any p)) w'):Q1 P F.k [v,f] w K:=by
 refine Sx (fun (_:Unit) x=>(p x,())) () (fun _ w'=>Below w.heap.size w w') (fun _=>False) (fun _ w' hb=>hs.below hb) (Below.refl _ _) hv (fun s x cs w1 K hx hk hi hr hl hK=>hf x cs w1 K hx (hs.below hi) hr hl fun w' hb=>hK w' (.of_below (bt hi hb)) (bt hi hb)) fun w' hk hi=>?_
 rw[K5]
 simpa using h w' hi
theorem Ij {β:Type} {xs:List Cel} {v f:Value} (b:β→Cel→Bool×β) (j:β) (a:β→World→Prop) (D:Nat→Prop) (k: ∀s w,a s w→X2 w σ) (C:a j w) (u:Sl 2 R5 σ v xs)
 (A: ∀s x cs (w1:World) (K:Value→World→Prop),x∈xs→Kpt D w w1→a s w1→R5 σ x cs→cs.length=2→(∀w',Kpt D w w'→a (b s x).2 w'→K (.bool (b s x).1) w')→Z3 P f [.agg cs.toArray] w1 K)
 (h: ∀w',Kpt D w w'→a (J0 b j xs 0).2 w'→K (I (L5 (J0 b j xs 0).1)) w'):Q1 P F.a9 [v,f] w K:=Zp (by
 unfold G3
 ((try simp only[↓M1,M1,Mb,reduceIte]);repeat ((first | refine ld (by assumption) (by assumption) rfl ?_ | refine X7 (by assumption) (by assumption) rfl ?_ | refine Q8 (by assumption) ?_);(try simp only[↓M1,M1,Mb,reduceIte])))
 refine U1 xs.length (fun n w'=>Kpt D w w'∧ ∃s,a s w'∧J0 b j xs 0=J0 b s (xs.drop n) n) ⟨Kpt.refl,j,C,rfl⟩ fun n w1 d E i=>?_
 obtain ⟨t,s,i,g⟩:=i
 have o:=k s w1 i
 ((try simp only[↓M1,M1,Mb,reduceIte]);repeat ((first | refine ld (by assumption) (by assumption) rfl ?_ | refine X7 (by assumption) (by assumption) rfl ?_ | refine Q8 (by assumption) ?_);(try simp only[↓M1,M1,Mb,reduceIte])))
 refine Q7 (fun q=>?_) (fun q=>?_)
 ·have c:n<xs.length:=by simpa using q
  refine M9 u c fun p cs B e z=>?_
  refine Y4 o B e ?_
  refine A s xs[n] cs w1 _ (List.getElem_mem c) t i z e fun y m l=>?_
  rw[List.drop_eq_getElem_cons c] at g
  simp only[J0] at g
  refine Q7 (fun r=>?_) (fun r=>?_)
  ·rw[r] at g
   have:=h y m
   rw[g] at this
   exact this l
  ·rw[r] at g
   ((try simp only[↓M1,M1,Mb,reduceIte]);repeat ((first | refine ld (by assumption) (by assumption) rfl ?_ | refine X7 (by assumption) (by assumption) rfl ?_ | refine Q8 (by assumption) ?_);(try simp only[↓M1,M1,Mb,reduceIte])))
   exact Y6 u.max c ⟨m,_,l,by simpa using g⟩
 ·have c: ¬n<xs.length:=by simpa using q
  rw[List.drop_eq_nil_of_le (by omega)] at g
  have:=h w1 t
  rw[g] at this
  exact this i)
theorem Cf {β:Type} {xs:List Cel} {v f:Value} (b:β→Cel→Bool×β) (d:β) (a:β→World→Prop) (D:Nat→Prop) (c: ∀s w,a s w→X2 w σ) (k:a d w) (j:Sl 2 R5 σ v xs)
 (g: ∀s x cs (w1:World) (K:Value→World→Prop),x∈xs→Kpt D w w1→a s w1→R5 σ x cs→cs.length=2→(∀w',Kpt D w w'→a (b s x).2 w'→K (.bool (b s x).1) w')→Z3 P f [.agg cs.toArray] w1 K)
 (h: ∀w',Kpt D w w'→a (J0 b d xs 0).2 w'→K (.bool (J0 b d xs 0).1.isSome) w'):Q1 P F.n [v,f] w K:=Xv (by
 unfold B7
 refine Ij b d a D c k j g fun w1 i e=>?_
 (try simp only[↓M1,M1,Mb,reduceIte])
 rw[Dd]
 exact h w1 i e)
theorem Cc {xs:List Cel} {v f:Value} (p:Cel→Bool) (hs:X2 w σ) (hv:Sl 2 R5 σ v xs)
 (hf: ∀x cs (w1:World) (K:Value→World→Prop),x∈xs→X2 w1 σ→R5 σ x cs→cs.length=2→(∀w',Below w1.heap.size w1 w'→K (.bool (p x)) w')→Z3 P f [.agg cs.toArray] w1 K)
 (h: ∀w',Below w.heap.size w w'→K (.bool (xs.any p)) w'):Q1 P F.n [v,f] w K:=by
 refine Cf (fun (_:Unit) x=>(p x,())) () (fun _ w'=>Below w.heap.size w w') (fun _=>False) (fun _ w' hb=>hs.below hb) (Below.refl _ _) hv (fun s x cs w1 K hx hk hi hr hl hK=>hf x cs w1 K hx (hs.below hi) hr hl fun w' hb=>hK w' (.of_below (bt hi hb)) (bt hi hb)) fun w' hk hi=>?_
 rw[K5]
 simpa using h w' hi
end Go.Proofs.YtjdiakhipmggjaaGreatDoor
