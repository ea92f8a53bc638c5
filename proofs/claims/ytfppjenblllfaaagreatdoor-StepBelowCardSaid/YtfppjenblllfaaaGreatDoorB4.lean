/- Parts of a proof about the given program: its functions as texts of their own, what each computes, plain laws of that. The conditions of each stand in its statement. -/
import Derived.Test.YtfppjenblllfaaaGreatDoorB3
import Derived.Shelf.Strings.Builder1
import Derived.Shelf.Strings.Builder2
import Derived.Shelf.Strings.OnBuilder
import Derived.Shelf.Strings.Trim
import Derived.Shelf.Small.Utf8
import Derived.Shelf.Small.Strs
import Derived.Shelf.Small.Wraps
import Derived.Shelf.Strings.BuilderF
import Derived.Shelf.Strings.BuilderK
import Derived.Shelf.Strings.Builder2Cap
import Derived.Shelf.Strings.Search1
import Derived.Shelf.Strings.Search2
import Derived.Shelf.Strings.Search3
import Derived.Shelf.Strings.Cut
import Derived.Shelf.LaysM
import Derived.Shelf.Strings.Shaped
import Derived.Shelf.Strings.Prefix
import Derived.Shelf.Unicode.Decode
import Derived.Shelf.Strings.Runes
import Derived.Shelf.Strings.AsciiSet
import Derived.Shelf.Unicode.DecodeSlow
import Derived.Shelf.Unicode.DecodeAny
import Derived.Shelf.Unicode.DecodeLast
import Derived.Shelf.Slices.Turned
import Derived.Ground.Names2Prog
import Derived.Shelf.Slices.Clone
import Derived.Ground.SlgnProg
import Derived.Shelf.SlicesE.Clone
import Derived.Shelf.Unicode.ValidAny
import Derived.Test.YtfppjenblllfaaaGreatDoorProg
import Derived.Test.YtfppjenblllfaaaGreatDoorRows
import Derived.Lib.LaidU8T
import Derived.OpenShut
import Derived.MakeChecks
import Derived.WideShapes
import Derived.Lib.AsciiSet
import Derived.Lib.Join
import Derived.Maps.RangeRun
import Derived.Laws.OwnMore
set_option linter.unnecessarySimpa false
set_option linter.defProp false
set_option linter.unusedSectionVars false
set_option linter.unusedVariables false
set_option linter.unusedSimpArgs false
namespace Go.Proofs
open Go.Shelf
def Tryz.lays156_ren : Go.Shelf.Ren := ⟨fun | 156 => 165 | 165 => 200 | 166 => 201 | 169 => 202 | 240 => 219 | 241 => 220 | 276 => 230 | 277 => 231 | n => n, fun | 31 => 22 | 9 => 9 | 3 => 3 | 4 => 4 | 0 => 0 | 20 => 20 | 72 => 188 | 76 => 191 | 70 => 185 | 37 => 186 | 75 => 190 | 127 => 199 | 164 => 209 | 5 => 5 | 80 => 141 | n => n, fun | n => n⟩
theorem Tryz.lays156 : Go.Proofs.Lays.n156 Tryz.prog Tryz.lays156_ren := {
  mixed := by kernel_rfl
  f156 := Tryz.func165.trans (congrArg some (by kernel_rfl))
  f165 := Tryz.func200.trans (congrArg some (by kernel_rfl))
  f166 := Tryz.func201.trans (congrArg some (by kernel_rfl))
  f169 := Tryz.func202.trans (congrArg some (by kernel_rfl))
  f240 := Tryz.func219.trans (congrArg some (by kernel_rfl))
  f241 := Tryz.func220.trans (congrArg some (by kernel_rfl))
  f276 := Tryz.func230.trans (congrArg some (by kernel_rfl))
  f277 := Tryz.func231.trans (congrArg some (by kernel_rfl))
  t0 := Tryz.underlying0
  a0 := Tryz.isAgg0
  z0 := Tryz.sizeOf0
  v0 := Tryz.zeroValue0
  t3 := Tryz.underlying3
  a3 := Tryz.isAgg3
  z3 := Tryz.sizeOf3
  v3 := Tryz.zeroValue3
  t4 := Tryz.underlying4
  a4 := Tryz.isAgg4
  z4 := Tryz.sizeOf4
  v4 := Tryz.zeroValue4
  t9 := Tryz.underlying9
  a9 := Tryz.isAgg9
  z9 := Tryz.sizeOf9
  v9 := Tryz.zeroValue9
  t20 := Tryz.underlying20
  a20 := Tryz.isAgg20
  z20 := Tryz.sizeOf20
  v20 := Tryz.zeroValue20
  t31 := Tryz.underlying22
  a31 := Tryz.isAgg22
  z31 := Tryz.sizeOf22
  v31 := Tryz.zeroValue22
  t37 := Tryz.underlying186
  a37 := Tryz.isAgg186
  z37 := Tryz.sizeOf186
  v37 := Tryz.zeroValue186
  t70 := Tryz.underlying185
  a70 := Tryz.isAgg185
  z70 := Tryz.sizeOf185
  v70 := Tryz.zeroValue185
  t72 := Tryz.underlying188
  a72 := Tryz.isAgg188
  z72 := Tryz.sizeOf188
  v72 := Tryz.zeroValue188
  t75 := Tryz.underlying190
  a75 := Tryz.isAgg190
  z75 := Tryz.sizeOf190
  v75 := Tryz.zeroValue190
  t76 := Tryz.underlying191
  a76 := Tryz.isAgg191
  z76 := Tryz.sizeOf191
  v76 := Tryz.zeroValue191
  t127 := Tryz.underlying199
  a127 := Tryz.isAgg199
  z127 := Tryz.sizeOf199
  v127 := Tryz.zeroValue199
  t164 := Tryz.underlying209
  a164 := Tryz.isAgg209
  z164 := Tryz.sizeOf209
  v164 := Tryz.zeroValue209 }
theorem Tryz.Builder_Extra_156 : Builder.Extra Tryz.prog Tryz.lays156_ren := {
  sizeBuilder := by kernel_rfl
  liesBuilder := by kernel_rfl
  t5 := Tryz.underlying5
  a5 := Tryz.isAgg5
  z5 := Tryz.sizeOf5
  v5 := Tryz.zeroValue5
  infoByte := by kernel_rfl
  cellsByte := by kernel_rfl
  sizeByte := by kernel_rfl
  neB5 := by decide }
open Go.RowKit in
theorem Tryz.strings_Join_none (a : Option Addr) (c : Nat) (sep : ByteArray) (w : World) :
    Calls Tryz.prog 165 #[.slice a 0 c, .string sep] w fun e w' => e = .returned (.string ⟨#[]⟩) ∧ w' = w := Any.strings_Join_none Tryz.lays156 Tryz.Builder_Extra_156 a c sep w
open Go.RowKit in
theorem Tryz.strings_Join (bk o c : Nat) (xs : List ByteArray) (sep : ByteArray) (w : World) (hcells : ∀ (j : Nat) x, xs[j]? = some x → w.cell? ⟨bk, o + j, none⟩ = some (.string x)) (hbk : bk < w.heap.size) (hN : xs.length ≤ 140737488355328) (hcap : xs.length ≤ c) (hlen : (Lib.join (xs.map (·.data.toList)) sep.data.toList).length ≤ 140737488355328) :
    Calls Tryz.prog 165 #[.slice (some ⟨bk, o, none⟩) xs.length c, .string sep] w fun e w' => e = .returned (.string ⟨(Lib.join (xs.map (·.data.toList)) sep.data.toList).toArray⟩) ∧ Below w.heap.size w w' := Any.strings_Join Tryz.lays156 Tryz.Builder_Extra_156 bk o c xs sep w hcells hbk hN hcap hlen
open Go.RowKit in
def Tryz.lays144_ren : Go.Shelf.Ren := ⟨fun | 144 => 227 | 143 => 239 | 219 => 222 | 217 => 223 | 225 => 212 | 224 => 211 | 267 => 234 | 266 => 235 | 314 => 241 | n => n, fun | 9 => 9 | 4 => 4 | 3 => 3 | 5 => 5 | 46 => 196 | 146 => 218 | 51 => 217 | n => n, fun | 1 => 3 | n => n⟩
theorem Tryz.lays144 : Go.Proofs.Lays.n144 Tryz.prog Tryz.lays144_ren := {
  mixed := by kernel_rfl
  f143 := Tryz.func239.trans (congrArg some (by kernel_rfl))
  f144 := Tryz.func227.trans (congrArg some (by kernel_rfl))
  f217 := Tryz.func223.trans (congrArg some (by kernel_rfl))
  f219 := Tryz.func222.trans (congrArg some (by kernel_rfl))
  f224 := Tryz.func211.trans (congrArg some (by kernel_rfl))
  f225 := Tryz.func212.trans (congrArg some (by kernel_rfl))
  f266 := Tryz.func235.trans (congrArg some (by kernel_rfl))
  f267 := Tryz.func234.trans (congrArg some (by kernel_rfl))
  f314 := Tryz.func241.trans (congrArg some (by kernel_rfl))
  t3 := Tryz.underlying3
  a3 := Tryz.isAgg3
  z3 := Tryz.sizeOf3
  v3 := Tryz.zeroValue3
  t4 := Tryz.underlying4
  a4 := Tryz.isAgg4
  z4 := Tryz.sizeOf4
  v4 := Tryz.zeroValue4
  t5 := Tryz.underlying5
  a5 := Tryz.isAgg5
  z5 := Tryz.sizeOf5
  v5 := Tryz.zeroValue5
  t9 := Tryz.underlying9
  a9 := Tryz.isAgg9
  z9 := Tryz.sizeOf9
  v9 := Tryz.zeroValue9
  t46 := Tryz.underlying196
  a46 := Tryz.isAgg196
  z46 := Tryz.sizeOf196
  v46 := Tryz.zeroValue196
  t51 := Tryz.underlying217
  a51 := Tryz.isAgg217
  z51 := Tryz.sizeOf217
  v51 := Tryz.zeroValue217
  t146 := Tryz.underlying218
  a146 := Tryz.isAgg218
  z146 := Tryz.sizeOf218
  v146 := Tryz.zeroValue218
  g1 := by kernel_rfl }
open Go.RowKit Go.Lib in
theorem Tryz.strings_Contains_one (s : ByteArray) (c : UInt8) (w : World) :
    Calls Tryz.prog 227 #[.string s, .string ⟨#[c]⟩] w fun e w' => e = .returned (.bool (decide (0 ≤ Lib.indexByte s.data.toList c))) ∧ w' = w := Any.strings_Contains_one Tryz.lays144 s c w
def Tryz.lays227_ren : Go.Shelf.Ren := ⟨fun | 227 => 88 | n => n, fun | 9 => 9 | 116 => 107 | 4 => 4 | 0 => 0 | 3 => 3 | 5 => 5 | n => n, fun | n => n⟩
theorem Tryz.lays227 : Go.Proofs.Lays.n227 Tryz.prog Tryz.lays227_ren := {
  mixed := by kernel_rfl
  f227 := Tryz.func88.trans (congrArg some (by kernel_rfl))
  t0 := Tryz.underlying0
  a0 := Tryz.isAgg0
  z0 := Tryz.sizeOf0
  v0 := Tryz.zeroValue0
  t3 := Tryz.underlying3
  a3 := Tryz.isAgg3
  z3 := Tryz.sizeOf3
  v3 := Tryz.zeroValue3
  t4 := Tryz.underlying4
  a4 := Tryz.isAgg4
  z4 := Tryz.sizeOf4
  v4 := Tryz.zeroValue4
  t5 := Tryz.underlying5
  a5 := Tryz.isAgg5
  z5 := Tryz.sizeOf5
  v5 := Tryz.zeroValue5
  t9 := Tryz.underlying9
  a9 := Tryz.isAgg9
  z9 := Tryz.sizeOf9
  v9 := Tryz.zeroValue9
  t116 := Tryz.underlying107
  a116 := Tryz.isAgg107
  z116 := Tryz.sizeOf107 }
open Go.RowKit Go.Lib in
theorem Tryz.strings_makeASCIISet (hv116 : ∀ w, (zeroValue 107).run Tryz.prog w = .ok (.agg (Array.replicate 256 (.bool false))) w) (chars : ByteArray) (w : World) (hs : chars.size < 4294967281) (hascii : ∀ (j : Nat) b, chars.data.toList[j]? = some b → b.toNat < 128) :
    Calls Tryz.prog 88 #[.string chars] w fun e w' => e = .returned (.tuple #[.agg (Lib.setCells chars.data.toList), .bool true]) ∧ w' = w.alloc (.cells (Lib.setCells chars.data.toList) 107) := Any.strings_makeASCIISet Tryz.lays227 hv116 (by kernel_rfl) chars w hs hascii
open Go.RowKit Go.Lib in
def Tryz.lays196_ren : Go.Shelf.Ren := ⟨fun | 196 => 226 | 259 => 238 | n => n, fun | 9 => 9 | 4 => 4 | 3 => 3 | 5 => 5 | 12 => 12 | 119 => 200 | 0 => 0 | 46 => 196 | 139 => 203 | 138 => 202 | 53 => 220 | n => n, fun | 3 => 1 | 4 => 2 | n => n⟩
theorem Tryz.lays196 : Go.Proofs.Lays.n196 Tryz.prog Tryz.lays196_ren := {
  mixed := by kernel_rfl
  f196 := Tryz.func226.trans (congrArg some (by kernel_rfl))
  f259 := Tryz.func238.trans (congrArg some (by kernel_rfl))
  t0 := Tryz.underlying0
  a0 := Tryz.isAgg0
  z0 := Tryz.sizeOf0
  v0 := Tryz.zeroValue0
  t3 := Tryz.underlying3
  a3 := Tryz.isAgg3
  z3 := Tryz.sizeOf3
  v3 := Tryz.zeroValue3
  t4 := Tryz.underlying4
  a4 := Tryz.isAgg4
  z4 := Tryz.sizeOf4
  v4 := Tryz.zeroValue4
  t5 := Tryz.underlying5
  a5 := Tryz.isAgg5
  z5 := Tryz.sizeOf5
  v5 := Tryz.zeroValue5
  t9 := Tryz.underlying9
  a9 := Tryz.isAgg9
  z9 := Tryz.sizeOf9
  v9 := Tryz.zeroValue9
  t12 := Tryz.underlying12
  a12 := Tryz.isAgg12
  z12 := Tryz.sizeOf12
  v12 := Tryz.zeroValue12
  t46 := Tryz.underlying196
  a46 := Tryz.isAgg196
  z46 := Tryz.sizeOf196
  v46 := Tryz.zeroValue196
  t53 := Tryz.underlying220
  a53 := Tryz.isAgg220
  z53 := Tryz.sizeOf220
  v53 := Tryz.zeroValue220
  t119 := Tryz.underlying200
  a119 := Tryz.isAgg200
  z119 := Tryz.sizeOf200
  t138 := Tryz.underlying202
  a138 := Tryz.isAgg202
  z138 := Tryz.sizeOf202
  v138 := Tryz.zeroValue202
  t139 := Tryz.underlying203
  a139 := Tryz.isAgg203
  z139 := Tryz.sizeOf203
  v139 := Tryz.zeroValue203
  g3 := by kernel_rfl
  g4 := by kernel_rfl }
end Go.Proofs

namespace Go.Proofs.YtfppjenblllfaaaGreatDoor
open Go.Emb Go.RowKit Go.Kd Go.Hm
variable {w : World} {K : Value → World → Prop} {σ : Q4}
theorem X1k {f:FuncId} {fn:Func} {a:List Value} {V:Value} (c:P.funcs[f]? =some fn) (b:fn.body.isSome=true) (g:(fn.name== "runtime.NumGoroutine")=false)
 (h:Calls P f a.toArray w fun e w'=>e= .returned V∧Below w.heap.size w w') (d: ∀w',Below w.heap.size w w'→K V w'):Q0 P f a w K:=by
 refine Vt c b g (Calls.mono h ?_)
 rintro e w' ⟨rfl,b⟩
 exact d w' b
theorem Q5r {a:Q8} (c:a.length≤Y9) (b:Lib.Utf8Tabs G.e G.d w) (h: ∀w',Below w.heap.size w w'→K (.bool (Lib.validD a)) w'):Q0 P F.bY [S a] w K:=
 X1k Tryz.func226 (by kernel_rfl) (by kernel_rfl) (by
  have:=Any.utf8_ValidString Tryz.lays196 ⟨a.toArray⟩ w (by rw[F7];simp only[Y9] at c;omega) b
  simp only[List.toList_toArray] at this
  exact this) h
theorem Q7t {a:Q8} {c:UInt8} (h:K (.bool (decide (0≤Lib.indexByte a c))) w):Q0 P F.cD [S a,S [c]] w K:=by
 refine Vt (fn:=Tryz.f227) Tryz.func227 (by kernel_rfl) (by kernel_rfl) (Calls.mono (Tryz.strings_Contains_one ⟨a.toArray⟩ c w) ?_)
 rintro e w' ⟨rfl,rfl⟩
 exact h
structure Glb (σ : Q4) : Prop where
  ops : Q2o σ
  tabs : ∀ w, X4 w σ → Lib.Utf8Tabs G.e G.d w
  flt : Z2 σ ⟨G.b, 0, none⟩ (U5.map S)
theorem Glb.lift {σ0:Q4} (h:Glb σ0) (k:SLe σ0 σ):Glb σ:=⟨h.ops.le k.le,fun w a=>h.tabs w fun b o e=>a b o (k.le b o e),h.flt.le k.le⟩
def txt (n s:Q8):Bool:=
 if n=[119,111,114,100] then decide (s.length≤64)&&Lib.validD s&& !decide (0≤Lib.indexByte s 10)
 else if n=[110,101,119] then W9 s
 else if n=[105,115]∨n=[99,97,115,116] then right s&& !plain s
 else if n=[97,114,114,97,121] then right s&&decide (Q2O s<3)
 else T1 s
theorem X3D {n a:Q8} (ha:a.length≤Y9) (hs:X4 w σ) (hg:Glb σ) (h: ∀w' σ',Stp w σ w' σ'→K (.bool (txt n a)) w'):Q0 P F.cM [S n,S a] w K:=Q7A (by
 unfold Q2g
 have ha':a.length≤140737488355320:=by simp only[Y9] at ha;omega
 have ha2:a.length≤140737488355328:=by simp only[Y9] at ha;omega
 have hv: ∀{w1:World} {K:Value→World→Prop},X4 w1 σ→(∀w',Below w1.heap.size w1 w'→K (.bool (Lib.validD a)) w')→Q0 P F.bY [S a] w1 K:=fun hk h=>Q5r ha (hg.tabs _ hk) h
 unfold txt at h
 have e:decide ((a.length:Int)≤64)=decide (a.length≤64):=by rw[Bool.eq_iff_iff];simp only[decide_eq_true_eq];omega
 have e3:decide ((Q2O a:Int)<3)=decide (Q2O a<3):=by rw[Bool.eq_iff_iff];simp only[decide_eq_true_eq];omega
 by_cases h1:n=[119,111,114,100]
 ·rw[if_pos h1] at h
  simp only[decide_eq_true h1,↓M1,M1,Mb,reduceIte,e]
  by_cases h2:a.length≤64
  ·simp only[decide_eq_true h2,↓M1,M1,Mb,reduceIte] at h⊢
   refine hv hs (L1 hs ?_)
   intro w1 σ1 hk
   by_cases h3:Lib.validD a=true
   ·simp only[h3,↓M1,M1,Mb,reduceIte] at h⊢
    refine Q7t ?_
    (repeat' (first | (with_reducible intro _) | (with_reducible refine W2 ?_) | (simp only[↓M2,M2,Mb,reduceIte]) | (with_reducible first | refine ld aS aL aR ?_ | refine Y0 aS aL aR ?_ | refine Z1 aS aL aR ?_ | refine X0 aL ?_ | refine V6 aR ?_ | refine Z0 aS ?_ | refine L5 aS aL ?_ | refine U1 aS aR ?_ | refine Y6 aS aR aR (Rep.one (by assumption)) ?_ | refine U8 aS aR aR aR ?_ | (refine Z6 (fun hh=>?_) (fun hh=>?_)<;>(try simp only[hh,Bool.not_true,Bool.not_false,↓M2,M2,Mb,reduceIte])) | (refine Q5 (fun hh=>?_) (fun hh=>?_)<;>(try simp only[hh,Bool.not_true,Bool.not_false,↓M2,M2,Mb,reduceIte])))))
    all_goals exact aF
   ·simp only[eq_false_of_ne_true h3,↓M1,M1,Mb,reduceIte] at h⊢
    (repeat' (first | (with_reducible intro _) | (with_reducible refine W2 ?_) | (simp only[↓M2,M2,Mb,reduceIte]) | (with_reducible first | refine ld aS aL aR ?_ | refine Y0 aS aL aR ?_ | refine Z1 aS aL aR ?_ | refine X0 aL ?_ | refine V6 aR ?_ | refine Z0 aS ?_ | refine L5 aS aL ?_ | refine U1 aS aR ?_ | refine Y6 aS aR aR (Rep.one (by assumption)) ?_ | refine U8 aS aR aR aR ?_ | (refine Z6 (fun hh=>?_) (fun hh=>?_)<;>(try simp only[hh,Bool.not_true,Bool.not_false,↓M2,M2,Mb,reduceIte])) | (refine Q5 (fun hh=>?_) (fun hh=>?_)<;>(try simp only[hh,Bool.not_true,Bool.not_false,↓M2,M2,Mb,reduceIte])))))
    all_goals exact aF
  ·simp only[decide_eq_false h2,↓M1,M1,Mb,reduceIte] at h⊢
   (repeat' (first | (with_reducible intro _) | (with_reducible refine W2 ?_) | (simp only[↓M2,M2,Mb,reduceIte]) | (with_reducible first | refine ld aS aL aR ?_ | refine Y0 aS aL aR ?_ | refine Z1 aS aL aR ?_ | refine X0 aL ?_ | refine V6 aR ?_ | refine Z0 aS ?_ | refine L5 aS aL ?_ | refine U1 aS aR ?_ | refine Y6 aS aR aR (Rep.one (by assumption)) ?_ | refine U8 aS aR aR aR ?_ | (refine Z6 (fun hh=>?_) (fun hh=>?_)<;>(try simp only[hh,Bool.not_true,Bool.not_false,↓M2,M2,Mb,reduceIte])) | (refine Q5 (fun hh=>?_) (fun hh=>?_)<;>(try simp only[hh,Bool.not_true,Bool.not_false,↓M2,M2,Mb,reduceIte])))))
   all_goals exact aF
 rw[if_neg h1] at h
 simp only[decide_eq_false h1,↓M1,M1,Mb,reduceIte]
 by_cases h2:n=[110,101,119]
 ·rw[if_pos h2] at h
  simp only[decide_eq_true h2,↓M1,M1,Mb,reduceIte]
  (repeat' (first | (with_reducible intro _) | (with_reducible refine W2 ?_) | (simp only[↓M2,M2,Mb,reduceIte]) | (with_reducible first | refine ld aS aL aR ?_ | refine Y0 aS aL aR ?_ | refine Z1 aS aL aR ?_ | refine X0 aL ?_ | refine V6 aR ?_ | refine Z0 aS ?_ | refine L5 aS aL ?_ | refine U1 aS aR ?_ | refine Y6 aS aR aR (Rep.one (by assumption)) ?_ | refine U8 aS aR aR aR ?_ | refine Re _ au (L1 aS ?_) | (refine Z6 (fun hh=>?_) (fun hh=>?_)<;>(try simp only[hh,Bool.not_true,Bool.not_false,↓M2,M2,Mb,reduceIte])) | (refine Q5 (fun hh=>?_) (fun hh=>?_)<;>(try simp only[hh,Bool.not_true,Bool.not_false,↓M2,M2,Mb,reduceIte])))))
  all_goals exact aF
 rw[if_neg h2] at h
 simp only[decide_eq_false h2,↓M1,M1,Mb,reduceIte]
 by_cases h3:n=[105,115]∨n=[99,97,115,116]
 ·rw[if_pos h3] at h
  have e4:(decide (n=[105,115])||decide (n=[99,97,115,116]))=true:=by simpa using h3
  refine W2 ?_
  refine Q5 (fun h4=>?_) (fun h4=>?_)
  ·simp only[h4,↓M1,M1,Mb,reduceIte]
   (repeat' (first | (with_reducible intro _) | (with_reducible refine W2 ?_) | (simp only[↓M2,M2,Mb,reduceIte]) | (with_reducible first | refine ld aS aL aR ?_ | refine Y0 aS aL aR ?_ | refine Z1 aS aL aR ?_ | refine X0 aL ?_ | refine V6 aR ?_ | refine Z0 aS ?_ | refine L5 aS aL ?_ | refine U1 aS aR ?_ | refine Y6 aS aR aR (Rep.one (by assumption)) ?_ | refine U8 aS aR aR aR ?_ | refine Yv _ au (L1 aS ?_) | refine Jx _ ?_ | (refine Z6 (fun hh=>?_) (fun hh=>?_)<;>(try simp only[hh,Bool.not_true,Bool.not_false,↓M2,M2,Mb,reduceIte])) | (refine Q5 (fun hh=>?_) (fun hh=>?_)<;>(try simp only[hh,Bool.not_true,Bool.not_false,↓M2,M2,Mb,reduceIte])))))
   all_goals exact aF
  ·rw[h4,Bool.false_or] at e4
   simp only[e4,↓M1,M1,Mb,reduceIte]
   (repeat' (first | (with_reducible intro _) | (with_reducible refine W2 ?_) | (simp only[↓M2,M2,Mb,reduceIte]) | (with_reducible first | refine ld aS aL aR ?_ | refine Y0 aS aL aR ?_ | refine Z1 aS aL aR ?_ | refine X0 aL ?_ | refine V6 aR ?_ | refine Z0 aS ?_ | refine L5 aS aL ?_ | refine U1 aS aR ?_ | refine Y6 aS aR aR (Rep.one (by assumption)) ?_ | refine U8 aS aR aR aR ?_ | refine Yv _ au (L1 aS ?_) | refine Jx _ ?_ | (refine Z6 (fun hh=>?_) (fun hh=>?_)<;>(try simp only[hh,Bool.not_true,Bool.not_false,↓M2,M2,Mb,reduceIte])) | (refine Q5 (fun hh=>?_) (fun hh=>?_)<;>(try simp only[hh,Bool.not_true,Bool.not_false,↓M2,M2,Mb,reduceIte])))))
   all_goals exact aF
 rw[if_neg h3] at h
 obtain ⟨h3,h4⟩:=not_or.1 h3
 refine W2 ?_
 simp only[decide_eq_false h3,decide_eq_false h4,↓M1,M1,Mb,reduceIte]
 by_cases h5:n=[97,114,114,97,121]
 ·rw[if_pos h5] at h
  simp only[decide_eq_true h5,↓M1,M1,Mb,reduceIte]
  (repeat' (first | (with_reducible intro _) | (with_reducible refine W2 ?_) | (simp only[↓M2,M2,Mb,reduceIte]) | (with_reducible first | refine ld aS aL aR ?_ | refine Y0 aS aL aR ?_ | refine Z1 aS aL aR ?_ | refine X0 aL ?_ | refine V6 aR ?_ | refine Z0 aS ?_ | refine L5 aS aL ?_ | refine U1 aS aR ?_ | refine Y6 aS aR aR (Rep.one (by assumption)) ?_ | refine U8 aS aR aR aR ?_ | refine Yv _ au (L1 aS ?_) | refine X4v _ au (L1 aS ?_) | (refine Z6 (fun hh=>?_) (fun hh=>?_)<;>(try simp only[hh,Bool.not_true,Bool.not_false,↓M2,M2,Mb,reduceIte])) | (refine Q5 (fun hh=>?_) (fun hh=>?_)<;>(try simp only[hh,Bool.not_true,Bool.not_false,↓M2,M2,Mb,reduceIte])))))
  all_goals (try rw[e3])
  all_goals exact aF
 rw[if_neg h5] at h
 simp only[decide_eq_false h5,↓M1,M1,Mb,reduceIte]
 intro _
 refine Q8j a ha2 (L1 hs fun w1 σ1 hk=>?_)
 by_cases hp:T1 a=true
 ·simp only[hp,if_true] at h⊢
  (repeat' (first | (with_reducible intro _) | (with_reducible refine W2 ?_) | (simp only[↓M2,M2,Mb,reduceIte]) | (with_reducible first | refine ld aS aL aR ?_ | refine Y0 aS aL aR ?_ | refine Z1 aS aL aR ?_ | refine X0 aL ?_ | refine V6 aR ?_ | refine Z0 aS ?_ | refine L5 aS aL ?_ | refine U1 aS aR ?_ | refine Y6 aS aR aR (Rep.one (by assumption)) ?_ | refine U8 aS aR aR aR ?_ | (refine Z6 (fun hh=>?_) (fun hh=>?_)<;>(try simp only[hh,Bool.not_true,Bool.not_false,↓M2,M2,Mb,reduceIte])) | (refine Q5 (fun hh=>?_) (fun hh=>?_)<;>(try simp only[hh,Bool.not_true,Bool.not_false,↓M2,M2,Mb,reduceIte])))))
  all_goals exact aF
 ·simp only[eq_false_of_ne_true hp,Bool.false_eq_true,if_false] at h⊢
  (repeat' (first | (with_reducible intro _) | (with_reducible refine W2 ?_) | (simp only[↓M2,M2,Mb,reduceIte]) | (with_reducible first | refine ld aS aL aR ?_ | refine Y0 aS aL aR ?_ | refine Z1 aS aL aR ?_ | refine X0 aL ?_ | refine V6 aR ?_ | refine Z0 aS ?_ | refine L5 aS aL ?_ | refine U1 aS aR ?_ | refine Y6 aS aR aR (Rep.one (by assumption)) ?_ | refine U8 aS aR aR aR ?_ | (refine Z6 (fun hh=>?_) (fun hh=>?_)<;>(try simp only[hh,Bool.not_true,Bool.not_false,↓M2,M2,Mb,reduceIte])) | (refine Q5 (fun hh=>?_) (fun hh=>?_)<;>(try simp only[hh,Bool.not_true,Bool.not_false,↓M2,M2,Mb,reduceIte])))))
  all_goals exact aF)
def O9 (i:Ins):Int:=if !(takes i.op).2.2 then 40 else if (!(takes i.op).1&&decide (i.n≠0))||(!(takes i.op).2.1&&decide (i.s≠[]))||((takes i.op).2.1&& !txt i.op i.s) then 41 else 0
theorem X1b {a:Q8} (c:X4 w σ) (b:Glb σ) (h: ∀w',Below w.heap.size w w'→K (.tuple #[.bool (takes a).1, .bool (takes a).2.1, .bool (takes a).2.2]) w'):Q0 P F.cm [S a] w K:=X3h c b.ops h
theorem Q7h {i:Ins} {cs:List Value} (hs:X4 w σ) (hg:Glb σ) (hi:G9 σ i cs) (h: ∀w' σ',Stp w σ w' σ'→K (I (O9 i)) w'):Q0 P F.cI [.agg cs.toArray] w K:=Q6A (by
 obtain ⟨rfl,h1,h2,h3⟩:=hi
 unfold Q0G
 unfold O9 at h
 (repeat' (first | (with_reducible intro _) | (with_reducible refine W2 ?_) | (simp only[↓M2,M2,Mb,reduceIte]) | (with_reducible first | refine ld aS aL aR ?_ | refine Y0 aS aL aR ?_ | refine Z1 aS aL aR ?_ | refine X0 aL ?_ | refine V6 aR ?_ | refine Z0 aS ?_ | refine L5 aS aL ?_ | refine U1 aS aR ?_ | refine Y6 aS aR aR (Rep.one (by assumption)) ?_ | refine U8 aS aR aR aR ?_ | refine X1b au au (L1 aS ?_) | refine X3D au au au ?_ | (refine Z6 (fun hh=>?_) (fun hh=>?_)<;>(try simp only[hh,Bool.not_true,Bool.not_false,↓M2,M2,Mb,reduceIte])) | (refine Q5 (fun hh=>?_) (fun hh=>?_)<;>(try simp only[hh,Bool.not_true,Bool.not_false,↓M2,M2,Mb,reduceIte])))))
 all_goals exact aF)
end Go.Proofs.YtfppjenblllfaaaGreatDoor

namespace Go.Emb
open Go.RowKit Go.Hm
variable {P : Program} {W : World}
theorem Q2p {w:World} (c:X4 w (P8 W)) {a:Addr} {v:Value} (h:W.cell? a=some v):w.cell? a=some v:=by
 unfold World.cell? at h⊢
 cases b:W.heap[a.block]? with
 | none=>rw[b] at h;cases h
 | some o=>rw[b] at h;rw[c _ o b];exact h
theorem X4j {α:Type} {f:α→List Value} {sz:Nat} (k: ∀a,(f a).length=sz): ∀(l:List α) (cs:List Value),cs.length=l.length*sz→(∀i a,l[i]? =some a→(cs.drop (i*sz)).take sz=f a)→cs=l.flatMap f:=by
 intro l
 induction l with
 | nil=>intro cs h _;simp at h;simp[h]
 | cons a r e=>
  intro cs h hh
  have g:=hh 0 a rfl
  have j:=e (cs.drop sz) (by rw[List.length_drop,h,List.length_cons,Nat.succ_mul];omega) (fun i b c=>by
   have:=hh (i+1) b (by simpa using c)
   rw[List.drop_drop]
   rwa [Nat.succ_mul,Nat.add_comm] at this)
  rw[List.flatMap_cons,←j,←g]
  simp
theorem Q4J {α H:Type} {enc:TypeId×Value→H} {base:Nat} {r:Nat→Bool} {b:Bool} {f:α→List Value} {j:α→DataW H} {n sz:Nat} {t e:TypeId} {c:Nat} {cs:List Value} {p:List MemPlace} (y:P.underlying t=some (.array n e)) (B:P.cellsOf e=sz) (g:P.cellsOf t=n*sz)
 (l:List α) (z: ∀a,(f a).length=sz) (o: ∀m cs a q,DataW.trod enc P W base r b m e cs=some (j a,q)→cs=f a)
 (h:DataW.trod enc P W base r b c t cs=some (.agg (l.map j),p)):cs=l.flatMap f:=by
 obtain ⟨xs,m,_,k,D,L,E⟩:=DataW.trod_array y h
 simp only[Prod.mk.injEq,DataW.agg.injEq] at k
 have A:l.length=n:=by have:=congrArg List.length k.1;simp at this;omega
 refine X4j z l cs (by rw[D,g,A]) fun i a u=>?_
 have J:i<l.length:=(List.getElem?_eq_some_iff.1 u).1
 have w:=E i (by omega)
 have s:i<xs.length:=by omega
 rw[List.getElem?_eq_getElem s,B] at w
 have C:(xs[i]).1=j a:=by
  have:=congrArg (·[i]?) k.1
  simp only[List.getElem?_map,u,List.getElem?_eq_getElem s,Option.map_some,Option.some.injEq] at this
  exact this.symm
 exact o m _ a _ (by rw[w];congr 1;exact Prod.ext C rfl)
theorem Q6D {n:String} {g:Nat} {cs:Array Value} {l:List Value} (c:P.globalNamed n=some g) (a:W.var? P n=some cs) (f:cs.toList=l):Z2 (P8 W) ⟨g,0,none⟩ l:=by
 unfold World.var? at a
 rw[c] at a
 simp only[Option.bind_some] at a
 cases b:W.heap[g]? with
 | none=>rw[b] at a;cases a
 | some o=>
  rw[b] at a
  cases o with
  | cells L6 e h=>
   cases a
   refine ⟨rfl,cs,e,h,b,fun i v j=>?_⟩
   subst f
   simpa using j
  | _=>cases a
end Go.Emb
namespace Go.Proofs.YtfppjenblllfaaaGreatDoor
open Go.Emb Go.RowKit Go.Kd Go.Hm
variable {W : World}
def laidAll:List (String×DataW Unit):=[("unicode/utf8.acceptRanges",Rows.laid_unicode_utf8_acceptRanges),("squinch/code.ops",Rows.laid_squinch_code_ops),("squinch/hier.faults",Rows.laid_squinch_hier_faults),("unicode/utf8.first",Rows.laid_unicode_utf8_first)]
theorem X4T:Rows.laid_squinch_code_ops=(.agg (Zy.map fun o=> .agg [.lit (.string o.name), .lit (.bool o.number), .lit (.bool o.text)]):DataW Unit):=by rfl
theorem X1o:Rows.laid_squinch_hier_faults=(.agg (U5.map fun s=> .lit (.string s)):DataW Unit):=by rfl
theorem X5b:(Rows.laid_unicode_utf8_acceptRanges:DataW Unit)=Lib.acceptData:=by rfl
theorem X2N:Rows.laid_unicode_utf8_first=Lib.firstData:=by kernel_rfl
def X5e:Array Field:= #[⟨"name",T.a,0,false, "", "squinch/code",0⟩,⟨"number",T.p,1,false, "", "squinch/code",16⟩,⟨"text",T.p,2,false, "", "squinch/code",17⟩]
theorem X5l:P.underlying T.a6=some (.struct X5e):=by kernel_rfl
theorem X4t (h:laidMetH P laidAll W):Glb (P8 W):=by
 rw[Go.MakeChecks.laidMetH_plain _ _ _ (by kernel_rfl)] at h
 refine ⟨?_,fun w B=>?_,?_⟩
 ·obtain ⟨g,t,cs,l,p,r,j,b,o⟩:=Lib.laidMet.reads h (.tail _ (.head _))
  obtain rfl:=Option.some.inj ((show P.globalNamed "squinch/code.ops"=some G.a by kernel_rfl).symm.trans r)
  obtain rfl:=Option.some.inj ((show (P.globals[G.a]?).map (·.type)=some T.a8 by kernel_rfl).symm.trans j)
  rw[X4T] at o
  refine Q6D r b (Q4J (f:=cOp) (sz:=3) (n:=42) (e:=T.a6) (by kernel_rfl) (by kernel_rfl) (by kernel_rfl) Zy (fun _=>rfl) (fun m cs a q h=>by
  obtain ⟨xs,n,_,k,h1,Z,C⟩:=DataW.trod_struct X5l h
  simp only[Prod.mk.injEq,DataW.agg.injEq] at k
  have u:cs.length=3:=by rw[h1];kernel_rfl
  obtain ⟨y,z,A,rfl⟩:=Q5x u
  obtain ⟨x0,Y,V,rfl⟩:=Q5x (show xs.length=3 by rw[Z];rfl)
  have k:=k.1
  simp only[List.map_cons,List.map_nil,List.cons.injEq,and_true] at k
  obtain ⟨R,O,D⟩:=k
  have J:DataW.trod (fun _=>()) P W 0 (fun _=>true) false n T.a (List.take (P.cellsOf T.a) (List.drop 0 [y,z,A]))=some x0:=C 0 _ rfl
  have Q:DataW.trod (fun _=>()) P W 0 (fun _=>true) false n T.p (List.take (P.cellsOf T.p) (List.drop 1 [y,z,A]))=some Y:=C 1 _ rfl
  have M:DataW.trod (fun _=>()) P W 0 (fun _=>true) false n T.p (List.take (P.cellsOf T.p) (List.drop 2 [y,z,A]))=some V:=C 2 _ rfl
  rw[P1] at J
  rw[Q5U] at Q M
  obtain ⟨⟨⟨s0⟩⟩,q0,r0,_⟩:=DataW.trod_string X8 J
  obtain ⟨b1,E,r1⟩:=DataW.trod_bool Fi Q
  obtain ⟨b2,N,U⟩:=DataW.trod_bool Fi M
  simp at q0 E N
  subst q0 E N r0 r1 U
  simp at R O D
  simp[cOp,←R,←O,←D]) o)
 ·have:=utf8Tabs_of_readsT (U8Types.of196 Tryz.lays196) ⟨by kernel_rfl,by kernel_rfl,by kernel_rfl,by kernel_rfl,by kernel_rfl,by kernel_rfl,by kernel_rfl⟩ (X2N▸Lib.laidMet.reads h (.tail _ (.tail _ (.tail _ (.head _))))) (X5b▸Lib.laidMet.reads h (.head _))
  exact ⟨fun c X=>Q2p B (this.1 c X),fun i L=>⟨Q2p B (this.2 i L).1,Q2p B (this.2 i L).2⟩⟩
 ·obtain ⟨g,t,cs,l,p,r,j,b,o⟩:=Lib.laidMet.reads h (.tail _ (.tail _ (.head _)))
  obtain rfl:=Option.some.inj ((show P.globalNamed "squinch/hier.faults"=some G.b by kernel_rfl).symm.trans r)
  obtain rfl:=Option.some.inj ((show (P.globals[G.b]?).map (·.type)=some T.ah by kernel_rfl).symm.trans j)
  rw[X1o] at o
  have:=Q4J (f:=fun s=>[S s]) (sz:=1) (n:=6) (e:=T.a) (by kernel_rfl) P1 (by kernel_rfl) U5 (fun _=>rfl) (fun m cs a q h=>by
   obtain ⟨⟨⟨s⟩⟩,rfl,k,_⟩:=DataW.trod_string X8 h
   cases k;rfl) o
  exact Q6D r b (this.trans (by rfl))
end Go.Proofs.YtfppjenblllfaaaGreatDoor
namespace Go.Emb
open Go.RowKit Go.Hm
theorem Q3m {H:Type} {P:Program} {a:List TypeId} {ds:List (DataW H)} (h:(DataW.weightsEach P a ds).all (· ≤reachBytes)=true) {j:Nat} {t:TypeId} {d:DataW H} (c:a[j]? =some t) (b:ds[j]? =some d):Wt P t d:=fun n e=>by
 have:=List.all_eq_true.1 h _ (DataW.weights_mem_each c b n e)
 simpa using this
end Go.Emb
namespace Go.Proofs.YtfppjenblllfaaaGreatDoor
open Go.Emb Go.RowKit Go.Kd Go.Hm
section
variable {H : Type} {enc : TypeId × Value → H} {W : World} {v : Value} {d : DataW H} {p : List MemPlace}
end
end Go.Proofs.YtfppjenblllfaaaGreatDoor

namespace Go.Proofs.YtfppjenblllfaaaGreatDoor
open Go.Emb Go.RowKit Go.Kd Go.Hm
variable {w : World} {K : Value → World → Prop} {σ : Q4}
def F4 (n:Int) (x:Cat):Bool:=decide (0≤x.frm)&&decide (x.frm<x.to)&&decide (x.to≤n)&&decide (0≤x.at_)&&decide (x.at_<n)&&W9 x.cls
theorem Q8T {cs:List Value} {c:Cat} {q:Addr} {n:Int} (hs:X4 w σ) (hc:Yo σ c cs) (hq:Z2 σ q [I n]) (h: ∀w' σ',Stp w σ w' σ'→K (.bool (F4 n c)) w'):Q0 P F.bt [.agg cs.toArray, .pointer (some q)] w K:=Q2H (by
 obtain ⟨rfl,h1,h2,h3,h4⟩:=hc
 unfold Cf
 unfold F4 at h
 (repeat' (first | (with_reducible intro _) | (with_reducible refine W2 ?_) | (simp only[↓M2,M2,Mb,reduceIte]) | (with_reducible first | refine ld aS aL aR ?_ | refine Y0 aS aL aR ?_ | refine Z1 aS aL aR ?_ | refine X0 aL ?_ | refine V6 aR ?_ | refine Z0 aS ?_ | refine L5 aS aL ?_ | refine U1 aS aR ?_ | refine Y6 aS aR aR (Rep.one (by assumption)) ?_ | refine U8 aS aR aR aR ?_ | refine Re _ au (L1 aS ?_) | (refine Z6 (fun hh=>?_) (fun hh=>?_)<;>(try simp only[hh,Bool.not_true,Bool.not_false,↓M2,M2,Mb,reduceIte])) | (refine Q5 (fun hh=>?_) (fun hh=>?_)<;>(try simp only[hh,Bool.not_true,Bool.not_false,↓M2,M2,Mb,reduceIte])))))
 all_goals exact aF)
theorem Q99 {cs:List Value} {i:Ins} (hs:X4 w σ) (hg:Glb σ) (hc:G9 σ i cs) (h: ∀w' σ',Stp w σ w' σ'→K (.bool (decide (O9 i=0))) w'):Q0 P F.bu [.agg cs.toArray] w K:=Q2G (by
 obtain ⟨rfl,h1,h2,h3⟩:=hc
 have hc:G9 σ i [S i.op,I i.n,S i.s]:=⟨rfl,h1,h2,h3⟩
 unfold Ry
 (repeat' (first | (with_reducible intro _) | (with_reducible refine W2 ?_) | (simp only[↓M2,M2,Mb,reduceIte]) | (with_reducible first | refine ld aS aL aR ?_ | refine Y0 aS aL aR ?_ | refine Z1 aS aL aR ?_ | refine X0 aL ?_ | refine V6 aR ?_ | refine Z0 aS ?_ | refine L5 aS aL ?_ | refine U1 aS aR ?_ | refine Y6 aS aR aR (Rep.one (by assumption)) ?_ | refine U8 aS aR aR aR ?_ | refine Q7h au au au ?_ | (refine Z6 (fun hh=>?_) (fun hh=>?_)<;>(try simp only[hh,Bool.not_true,Bool.not_false,↓M2,M2,Mb,reduceIte])) | (refine Q5 (fun hh=>?_) (fun hh=>?_)<;>(try simp only[hh,Bool.not_true,Bool.not_false,↓M2,M2,Mb,reduceIte])))))
 all_goals exact aF)
def F6 (m:Hm.Met):Bool:=M8 m.name&&m.params.all right&&(decide (m.result=[])||right m.result)&&
 if m.abs then decide (m.locals=0)&&decide (m.code=[])&&decide (m.catches=[])
 else decide (m.code≠[])&&decide ((m.params.length:Int)<m.locals)&&m.code.all (fun i=>decide (O9 i=0))&&m.catches.all (F4 m.code.length)
theorem X1P {cs:List Value} {m:Hm.Met} (hs:X4 w σ) (hg:Glb σ) (hm:M3 σ m cs) (h: ∀w' σ',Stp w σ w' σ'→K (.bool (F6 m)) w'):Q0 P F.bm [.agg cs.toArray] w K:=Q3T (by
 obtain ⟨pv,cv,hv,rfl,g1,g2,g3,g4,g5,g6⟩:=hm
 unfold Gq
 unfold F6 at h
 have e1:decide ((0:Int)<m.code.length)=decide (m.code≠[]):=by cases m.code<;>simp
 have e2:decide ((m.code.length:Int)=0)=decide (m.code=[]):=by cases m.code<;>simp;omega
 have e3:decide ((m.catches.length:Int)=0)=decide (m.catches=[]):=by cases m.catches<;>simp;omega
 have hA: ∀{w1:World} {σ1:Q4} {K:Value→World→Prop},X4 w1 σ1→Sl 1 X7 σ1 pv m.params→(∀w' σ',Stp w1 σ1 w' σ'→K (.bool (m.params.all right)) w')→Q0 P F.a8 [pv, .func (.func F.z) #[] #[]] w1 K:=
  fun hs hv h=>Fq right hs hv (fun σ1 x w1 K _ _ hs hl hK=>X9 (Yv x (Nat.le_trans hl (by decide)) hK)) (L1 hs h)
 have hB: ∀{w1:World} {σ1:Q4} {K:Value→World→Prop},X4 w1 σ1→Glb σ1→Sl 3 G9 σ1 cv m.code→(∀w' σ',Stp w1 σ1 w' σ'→K (.bool (m.code.all fun i=>decide (O9 i=0))) w')→Q0 P F.ax [cv, .func (.func F.bu) #[] #[]] w1 K:=
  fun hs hg hv h=>Q1K (fun i=>decide (O9 i=0)) hs hv (fun σ1 x cs w1 K le _ hs hr hl hK=>X9 (Q99 hs (hg.lift ⟨le⟩) hr fun w' σ' hk=>hK w' hk.bel)) (L1 hs h)
 have hC: ∀{w1:World} {σ1:Q4} {K:Value→World→Prop} {q:Addr},X4 w1 σ1→Sl 4 Yo σ1 hv m.catches→Z2 σ1 q [I m.code.length]→(∀w' σ',Stp w1 σ1 w' σ'→K (.bool (m.catches.all (F4 m.code.length))) w')→Q0 P F.ay [hv, .func (.func F.bt) #[] #[.pointer (some q)]] w1 K:=
  fun hs hv hq h=>Q1T (F4 m.code.length) hs hv (fun σ1 x cs w1 K le _ hs hr hl hK=>X9 (Q8T hs hr (hq.le le) fun w' σ' hk=>hK w' hk.bel)) (L1 hs h)
 refine Z0 hs fun a w1 σ1 hk1 ha1=>?_
 (repeat' (first | (with_reducible intro _) | (with_reducible refine W2 ?_) | (simp only[↓M2,M2,Mb,reduceIte]) | (with_reducible first | refine ld aS aL aR ?_ | refine Y0 aS aL aR ?_ | refine Z1 aS aL aR ?_ | refine X0 aL ?_ | refine V6 aR ?_ | refine Z0 aS ?_ | refine L5 aS aL ?_ | refine U1 aS aR ?_ | refine Y6 aS aR aR (Rep.one (by assumption)) ?_ | refine U8 aS aR aR aR ?_ | refine Q5S au (L1 aS ?_) | refine Yv _ au (L1 aS ?_) | refine hA au au ?_ | refine hB au au au ?_ | refine hC au au au ?_ | (refine Z6 (fun hh=>?_) (fun hh=>?_)<;>(try simp only[hh,Bool.not_true,Bool.not_false,↓M2,M2,Mb,reduceIte])) | (refine Q5 (fun hh=>?_) (fun hh=>?_)<;>(try simp only[hh,Bool.not_true,Bool.not_false,↓M2,M2,Mb,reduceIte])))))
 all_goals (simp only[←e1,←e2,←e3] at h;clear e1 e2 e3;exact aF))
theorem X0S {cs:List Value} {m:Hm.Met} (d:X4 w σ) (b:Glb σ) (a:M3 σ m cs) (h: ∀w' c,Stp w σ w' c→K (.bool (F6 m)) w'):Z5 P (.func (.func F.bm) #[] #[]) [.agg cs.toArray] w K:=X9 (X1P d b a h)
def Ep (f:Fld):Bool:=M8 f.name&&right f.kind
def Lj (c:Cla):Bool:=(c.name::c.super::c.like).all W9&& !((c.super::c.like).any fun y=>decide (c.name=y))&&H9 id [] c.like&&
 !(c.iface&&(!c.abs|| !decide (c.super=J7)|| !decide (c.fields=[])||c.methods.any (fun m=> !m.abs)))&&
 !((c.abs&&c.fin)||(c.methods.any (·.abs)&& !c.abs))&&H9 Fld.name [] c.fields&&H9 Hm.Met.name [] c.methods&&c.fields.all Ep&&c.methods.all F6
def M6 (c:Cla):Int:=if Yz c then 51 else if Lj c then 0 else 50
theorem X0f {cs:List Value} {f:Fld} (hs:X4 w σ) (hf:H0 σ f cs) (h: ∀w' σ',Stp w σ w' σ'→K (.bool (Ep f)) w'):Q0 P F.bJ [.agg cs.toArray] w K:=Q3J (by
 obtain ⟨rfl,h1,h2⟩:=hf
 unfold Bi
 unfold Ep at h
 (repeat' (first | (with_reducible intro _) | (with_reducible refine W2 ?_) | (simp only[↓M2,M2,Mb,reduceIte]) | (with_reducible first | refine ld aS aL aR ?_ | refine Y0 aS aL aR ?_ | refine Z1 aS aL aR ?_ | refine X0 aL ?_ | refine V6 aR ?_ | refine Z0 aS ?_ | refine L5 aS aL ?_ | refine U1 aS aR ?_ | refine Y6 aS aR aR (Rep.one (by assumption)) ?_ | refine U8 aS aR aR aR ?_ | refine Q5S au (L1 aS ?_) | refine Yv _ au (L1 aS ?_) | (refine Z6 (fun hh=>?_) (fun hh=>?_)<;>(try simp only[hh,Bool.not_true,Bool.not_false,↓M2,M2,Mb,reduceIte])) | (refine Q5 (fun hh=>?_) (fun hh=>?_)<;>(try simp only[hh,Bool.not_true,Bool.not_false,↓M2,M2,Mb,reduceIte])))))
 all_goals exact aF)
set_option maxHeartbeats 1600000 in
theorem X3m {cs:List Value} {c:Cla} (hs:X4 w σ) (hg:Glb σ) (hc:V4 σ c cs) (hl:c.like.length≤1000000) (h: ∀w' σ',Stp w σ w' σ'→K (.bool (Lj c)) w'):Q0 P F.cy [.agg cs.toArray] w K:=Q5k (by
 obtain ⟨lv,fv,mv,rfl,g1,g2,g3,g4,g5⟩:=hc
 unfold Tg
 unfold Lj at h
 refine Z0 hs fun a w1 σ1 hk1 ha1=>?_
 rw[fa]
 refine ld hk1.sat ha1 rfl ?_
 rw[fa]
 refine ld hk1.sat ha1 rfl ?_
 refine Xc (R:=X7) (sz:=1) (xs:=[c.name,c.super]) hk1 [_,_] rfl rfl (by simp;exact ⟨rfl,rfl⟩) rfl ⟨⟨rfl,g4⟩,⟨rfl,g5⟩,trivial⟩ fun v w2 hk2 hacc _=>?_
 rw[fa]
 refine ld hk2.sat ha1 rfl ?_
 refine Hu (hk1.trans hk2) hacc (g1.up hk1) rfl (by simp;omega) (by simp;omega) fun v' w3 hn3 hS3 hacc3 _=>?_
 obtain ⟨σ3,hS3,hv3,le3,_⟩:=hacc3.keep hS3
 have hv3:Sl 1 X7 σ3 v' (c.name::c.super::c.like):=hv3
 have ha3:=ha1.le le3
 have le13:SLe σ σ3:=⟨hS3.le⟩
 have g1:=g1.lift le13
 have g2:=g2.lift le13
 have g3:=g3.lift le13
 have hg:=hg.lift le13
 refine V0 hS3.sat ?_
 refine L3 (fun v _=>Sl 1 X7 σ3 v (c.super::c.like)) (fun _ _ _ h _=>h) (fun w hb=>?_) ?_
 ·refine Gf hv3 (some (I 1)) none 1 (c.like.length+2) (.inr rfl) (.inl ⟨rfl,by simp⟩) (by omega) (by simp) fun v' hv'=>⟨Below.refl _ _,?_⟩
  simpa using hv'
 refine X2 (.pointer (some (a.add 0))) (fun w hb=>by rw[fa];exact X6 rfl) ?_
 refine X2 (S c.name) (fun t w hb e=>by rw[e];exact ld hb.sat ha3 rfl (X6 rfl)) ?_
 rintro t16 t17 t18 w4 hb4 f16 rfl rfl
 have hS4:=hS3.trans hb4.stp
 clear hb4 hk1 hk2 hn3
 have hs4:=hS4.sat
 refine Q1N hs4 f16 ?_
 have hA: ∀{w1:World} {σ1:Q4} {K:Value→World→Prop},X4 w1 σ1→Sl 7 M3 σ1 mv c.methods→(∀w' σ',Stp w1 σ1 w' σ'→K (.bool (c.methods.any (·.abs))) w')→Q0 P F.a [mv, .func (.func F.cn) #[] #[]] w1 K:=
  fun hs hv h=>C4 (·.abs) hs hv (fun x cs w1 K _ hs hr hl hK=>X9 (Q3C (by
   obtain ⟨pv,cv,hv,rfl,_⟩:=hr
   unfold Bd
   refine Z0 hs fun a w1 σ1 hk1 ha1=>?_
   (repeat' (first | (with_reducible intro _) | (with_reducible refine W2 ?_) | (simp only[↓M2,M2,Mb,reduceIte]) | (with_reducible first | refine ld aS aL aR ?_ | refine Y0 aS aL aR ?_ | refine Z1 aS aL aR ?_ | refine X0 aL ?_ | refine V6 aR ?_ | refine Z0 aS ?_ | refine L5 aS aL ?_ | refine U1 aS aR ?_ | refine Y6 aS aR aR (Rep.one (by assumption)) ?_ | refine U8 aS aR aR aR ?_ | (refine Z6 (fun hh=>?_) (fun hh=>?_)<;>(try simp only[hh,Bool.not_true,Bool.not_false,↓M2,M2,Mb,reduceIte])) | (refine Q5 (fun hh=>?_) (fun hh=>?_)<;>(try simp only[hh,Bool.not_true,Bool.not_false,↓M2,M2,Mb,reduceIte])))))
   exact hK _ hk1.bel))) (L1 hs h)
 have hB: ∀{w1:World} {σ1:Q4} {K:Value→World→Prop},X4 w1 σ1→Sl 7 M3 σ1 mv c.methods→(∀w' σ',Stp w1 σ1 w' σ'→K (.bool (c.methods.any fun m=> !m.abs)) w')→Q0 P F.a [mv, .func (.func F.co) #[] #[]] w1 K:=
  fun hs hv h=>C4 (fun m=> !m.abs) hs hv (fun x cs w1 K _ hs hr hl hK=>X9 (Q3o (by
   obtain ⟨pv,cv,hv,rfl,_⟩:=hr
   unfold Cp
   refine Z0 hs fun a w1 σ1 hk1 ha1=>?_
   (repeat' (first | (with_reducible intro _) | (with_reducible refine W2 ?_) | (simp only[↓M2,M2,Mb,reduceIte]) | (with_reducible first | refine ld aS aL aR ?_ | refine Y0 aS aL aR ?_ | refine Z1 aS aL aR ?_ | refine X0 aL ?_ | refine V6 aR ?_ | refine Z0 aS ?_ | refine L5 aS aL ?_ | refine U1 aS aR ?_ | refine Y6 aS aR aR (Rep.one (by assumption)) ?_ | refine U8 aS aR aR aR ?_ | (refine Z6 (fun hh=>?_) (fun hh=>?_)<;>(try simp only[hh,Bool.not_true,Bool.not_false,↓M2,M2,Mb,reduceIte])) | (refine Q5 (fun hh=>?_) (fun hh=>?_)<;>(try simp only[hh,Bool.not_true,Bool.not_false,↓M2,M2,Mb,reduceIte])))))
   exact hK _ hk1.bel))) (L1 hs h)
 have hC: ∀{w1:World} {σ1:Q4} {K:Value→World→Prop},X4 w1 σ1→Sl 1 X7 σ1 v' (c.name::c.super::c.like)→(∀w' σ',Stp w1 σ1 w' σ'→K (.bool ((c.name::c.super::c.like).all W9)) w')→Q0 P F.a8 [v', .func (.func F.ak) #[] #[]] w1 K:=
  fun hs hv h=>Fq W9 hs hv (fun σ1 x w1 K _ _ hs hl hK=>X9 (Re x (Nat.le_trans hl (by decide)) hK)) (L1 hs h)
 have hD: ∀{w1:World} {σ1:Q4} {K:Value→World→Prop},X4 w1 σ1→Sl 1 X7 σ1 lv c.like→(∀w' σ',Stp w1 σ1 w' σ'→K (.bool (H9 id [] c.like)) w')→Q0 P F.aW [lv, .func (.func F.cp) #[] #[]] w1 K:=
  fun hs hv h=>Q5j id hs hv (fun σ1 x w1 K _ hs hl hK=>X9 (Q3r (hK _ (Below.refl _ _)))) (L1 hs h)
 have hE: ∀{w1:World} {σ1:Q4} {K:Value→World→Prop},X4 w1 σ1→Sl 3 H0 σ1 fv c.fields→(∀w' σ',Stp w1 σ1 w' σ'→K (.bool (H9 Fld.name [] c.fields)) w')→Q0 P F.aC [fv, .func (.func F.cq) #[] #[]] w1 K:=
  fun hs hv h=>Q2J Fld.name hs hv (fun σ1 x cs w1 K _ hs hr hl hK=>X9 (Q3w (by
   obtain ⟨rfl,_⟩:=hr
   unfold Be
   refine Z0 hs fun a w1 σ1 hk1 ha1=>?_
   (repeat' (first | (with_reducible intro _) | (with_reducible refine W2 ?_) | (simp only[↓M2,M2,Mb,reduceIte]) | (with_reducible first | refine ld aS aL aR ?_ | refine Y0 aS aL aR ?_ | refine Z1 aS aL aR ?_ | refine X0 aL ?_ | refine V6 aR ?_ | refine Z0 aS ?_ | refine L5 aS aL ?_ | refine U1 aS aR ?_ | refine Y6 aS aR aR (Rep.one (by assumption)) ?_ | refine U8 aS aR aR aR ?_ | (refine Z6 (fun hh=>?_) (fun hh=>?_)<;>(try simp only[hh,Bool.not_true,Bool.not_false,↓M2,M2,Mb,reduceIte])) | (refine Q5 (fun hh=>?_) (fun hh=>?_)<;>(try simp only[hh,Bool.not_true,Bool.not_false,↓M2,M2,Mb,reduceIte])))))
   exact hK _ hk1.bel))) (L1 hs h)
 have hF: ∀{w1:World} {σ1:Q4} {K:Value→World→Prop},X4 w1 σ1→Sl 7 M3 σ1 mv c.methods→(∀w' σ',Stp w1 σ1 w' σ'→K (.bool (H9 Hm.Met.name [] c.methods)) w')→Q0 P F.au [mv, .func (.func F.cr) #[] #[]] w1 K:=
  fun hs hv h=>Q1H Hm.Met.name hs hv (fun σ1 x cs w1 K _ hs hr hl hK=>X9 (Q39 (by
   obtain ⟨pv,cv,hv,rfl,_⟩:=hr
   unfold Bg
   refine Z0 hs fun a w1 σ1 hk1 ha1=>?_
   (repeat' (first | (with_reducible intro _) | (with_reducible refine W2 ?_) | (simp only[↓M2,M2,Mb,reduceIte]) | (with_reducible first | refine ld aS aL aR ?_ | refine Y0 aS aL aR ?_ | refine Z1 aS aL aR ?_ | refine X0 aL ?_ | refine V6 aR ?_ | refine Z0 aS ?_ | refine L5 aS aL ?_ | refine U1 aS aR ?_ | refine Y6 aS aR aR (Rep.one (by assumption)) ?_ | refine U8 aS aR aR aR ?_ | (refine Z6 (fun hh=>?_) (fun hh=>?_)<;>(try simp only[hh,Bool.not_true,Bool.not_false,↓M2,M2,Mb,reduceIte])) | (refine Q5 (fun hh=>?_) (fun hh=>?_)<;>(try simp only[hh,Bool.not_true,Bool.not_false,↓M2,M2,Mb,reduceIte])))))
   exact hK _ hk1.bel))) (L1 hs h)
 have hG: ∀{w1:World} {σ1:Q4} {K:Value→World→Prop},X4 w1 σ1→Sl 3 H0 σ1 fv c.fields→(∀w' σ',Stp w1 σ1 w' σ'→K (.bool (c.fields.all Ep)) w')→Q0 P F.av [fv, .func (.func F.bJ) #[] #[]] w1 K:=
  fun hs hv h=>Q1L Ep hs hv (fun σ1 x cs w1 K _ _ hs hr hl hK=>X9 (X0f hs hr fun w' σ' hk=>hK w' hk.bel)) (L1 hs h)
 have hH: ∀{w1:World} {σ1:Q4} {K:Value→World→Prop},X4 w1 σ1→Glb σ1→Sl 7 M3 σ1 mv c.methods→(∀w' σ',Stp w1 σ1 w' σ'→K (.bool (c.methods.all F6)) w')→Q0 P F.ap [mv, .func (.func F.bm) #[] #[]] w1 K:=
  fun hs hg hv h=>Q0K F6 hs hv (fun σ1 x cs w1 K le _ hs hr hl hK=>X0S hs (hg.lift ⟨le⟩) hr fun w' σ' hk=>hK w' hk.bel) (L1 hs h)
 have e1:decide ((0:Int)<c.fields.length)= !decide (c.fields=[]):=by cases c.fields<;>simp
 have e2:decide (c.super=[79,98,106,101,99,116])=decide (c.super=J7):=rfl
 (repeat' (first | (with_reducible intro _) | (with_reducible refine W2 ?_) | (simp only[↓M2,M2,Mb,reduceIte]) | (with_reducible first | refine ld aS aL aR ?_ | refine Y0 aS aL aR ?_ | refine Z1 aS aL aR ?_ | refine X0 aL ?_ | refine V6 aR ?_ | refine Z0 aS ?_ | refine L5 aS aL ?_ | refine U1 aS aR ?_ | refine Y6 aS aR aR (Rep.one (by assumption)) ?_ | refine U8 aS aR aR aR ?_ | refine hA au au ?_ | refine hB au au ?_ | refine hC au au ?_ | refine hD au au ?_ | refine hE au au ?_ | refine hF au au ?_ | refine hG au au ?_ | refine hH au au au ?_ | (refine Z6 (fun hh=>?_) (fun hh=>?_)<;>(try simp only[hh,Bool.not_true,Bool.not_false,↓M2,M2,Mb,reduceIte])) | (refine Q5 (fun hh=>?_) (fun hh=>?_)<;>(try simp only[hh,Bool.not_true,Bool.not_false,↓M2,M2,Mb,reduceIte])))))
 all_goals (simp only[←e1,←e2] at h;clear hA hB hC hD hE hF hG hH e1 e2;exact aF))
theorem X2R {cs:List Value} {c:Cla} (hs:X4 w σ) (hg:Glb σ) (hc:V4 σ c cs) (hl:c.like.length≤1000000) (h: ∀w' σ',Stp w σ w' σ'→K (I (M6 c)) w'):Q0 P F.cw [.agg cs.toArray] w K:=Q5p (by
 have hc0:=hc
 obtain ⟨lv,fv,mv,rfl,g1,g2,g3,g4,g5⟩:=hc
 unfold Pz
 unfold M6 at h
 (repeat' (first | (with_reducible intro _) | (with_reducible refine W2 ?_) | (simp only[↓M2,M2,Mb,reduceIte]) | (with_reducible first | refine ld aS aL aR ?_ | refine Y0 aS aL aR ?_ | refine Z1 aS aL aR ?_ | refine X0 aL ?_ | refine V6 aR ?_ | refine Z0 aS ?_ | refine L5 aS aL ?_ | refine U1 aS aR ?_ | refine Y6 aS aR aR (Rep.one (by assumption)) ?_ | refine U8 aS aR aR aR ?_ | refine X3G au au (L1 aS ?_) | refine X3m au au au au ?_ | (refine Z6 (fun hh=>?_) (fun hh=>?_)<;>(try simp only[hh,Bool.not_true,Bool.not_false,↓M2,M2,Mb,reduceIte])) | (refine Q5 (fun hh=>?_) (fun hh=>?_)<;>(try simp only[hh,Bool.not_true,Bool.not_false,↓M2,M2,Mb,reduceIte])))))
 all_goals exact aF)
end Go.Proofs.YtfppjenblllfaaaGreatDoor

namespace Go.Emb
open Go.RowKit Go.Hm
structure Tab (σ : Q4) (v : Value) (l : List Cla) : Prop where
  ex : ∃ a lv r m, v = .pointer (some a) ∧ Z2 σ a [lv, .map (some r)] ∧ Sl 8 V4 σ lv l ∧ P9 σ r m ∧ ∀ n, M9 m n = (Y7 l n).map (fun i : Nat => I (i : Int))
theorem Tab.lift {σ0 σ:Q4} {v:Value} {l:List Cla} (h:Tab σ0 v l) (k:SLe σ0 σ):Tab σ v l:=by
 obtain ⟨a,c,r,m,d,f,g,b,e⟩:=h.ex
 exact ⟨a,c,r,m,d,f.lift k,g.lift k,b.lift k,e⟩
end Go.Emb
namespace Go.Proofs.YtfppjenblllfaaaGreatDoor
open Go.Emb Go.RowKit Go.Kd Go.Hm
variable {w : World} {K : Value → World → Prop} {σ : Q4} {v : Value} {l : List Cla}
theorem Q8J {n:Q8} (b:X4 w σ) (d:Tab σ v l) (h:K (.bool (Q2Q l n)) w):Q0 P F.n [v,S n] w K:=Dw (by
 obtain ⟨a,j,r,m,rfl,g,i,c,f⟩:=d.ex
 unfold Ja
 rw[H7,fa]
 refine ld b g rfl ?_
 rw[Q2B X8 (c.is b) n,f n]
 unfold Q2Q at h
 cases e:Y7 l n<;>rw[e] at h<;>((try simp only[Option.map_some,Option.map_none]);(try simp only[↓M1,M1,Mb,reduceIte]);exact h))
theorem Xe {n:Q8} {c:Cla} (hs:X4 w σ) (Q:Tab σ v l) (W:lk l n=some c)
 (h: ∀k s mv w' q,Stp w σ w' q→Sl 1 X7 q k c.like→Sl 3 H0 q s c.fields→Sl 7 M3 q mv c.methods→c.name.length≤Y9→c.super.length≤Y9→V4 q c [S c.name,S c.super,k, .bool c.iface, .bool c.abs, .bool c.fin,s,mv]→
  K (.agg [S c.name,S c.super,k, .bool c.iface, .bool c.abs, .bool c.fin,s,mv].toArray) w'):Q0 P F.h [v,S n] w K:=Km (by
 obtain ⟨a,k,r,m,rfl,D,X,t3,U⟩:=Q.ex
 obtain ⟨_,_,i,V,y⟩:=V2 W
 obtain ⟨z,rfl⟩:=List.getElem?_eq_some_iff.1 y
 unfold Na
 refine P3 hs fun b w1 σ1 f d C=>?_
 refine V0 d.sat ?_
 refine X2 (.pointer (some a)) (fun w f=>by rw[H7];exact X6 rfl) ?_
 refine X2 (.pointer (some (a.add 0))) (fun t w f e=>by rw[e,fa];exact X6 rfl) ?_
 refine X2 (.pointer (some a)) (fun w f=>by rw[H7];exact X6 rfl) ?_
 refine X2 (.pointer (some (a.add 1))) (fun t w f e=>by rw[e,fa];exact X6 rfl) ?_
 refine X2 k (fun t w f e=>by rw[e];exact ld f.sat (D.up d) rfl (X6 rfl)) ?_
 refine X2 (.map (some r)) (fun t w f e=>by rw[e];exact ld f.sat (D.up d) rfl (X6 rfl)) ?_
 refine X2 (I i) (fun t w f e=>by rw[e,Q50 X8 ((t3.up d).is f.sat) n,U n,V];exact X6 rfl) ?_
 rintro t6 t7 af L t8 O ae w2 g rfl rfl rfl rfl e8 rfl rfl
 subst e8
 have A:=C.step g.stp
 refine M7 (X.up d) z fun p cs R o E=>?_
 refine Z1 g.sat R o ?_
 have j:=E
 obtain ⟨H,s,mv,rfl,g1,Y,Z,J,N⟩:=E
 refine Qz A (d.trans g.stp) f rfl rfl (Rep.one j) fun M B u=>?_
 refine W7 u rfl ?_
 exact h _ _ _ M σ1 B.stp g1 Y Z J N j)
theorem Fk {n:Q8} (c:X4 w σ) (b:Tab σ v l) (a:lk l n=none) (h:K (.bool false) w):Q0 P F.n [v,S n] w K:=Q8J c b (by rw[Q4p,a];exact h)
theorem Ea {n:Q8} {d:Cla} (c:X4 w σ) (b:Tab σ v l) (a:lk l n=some d) (h:K (.bool true) w):Q0 P F.n [v,S n] w K:=Q8J c b (by rw[Q4p,a];exact h)
theorem X17 {c:Cla} {cs:List Value} (hs:X4 w σ) (ht:Tab σ v l) (hc:V4 σ c cs) (h: ∀w' σ',Stp w σ w' σ'→K (I (M5 l c)) w'):Q0 P F.bo [v, .agg cs.toArray] w K:=Fl (by
 obtain ⟨lv,fv,mv,rfl,g1,g2,g3,g4,g5⟩:=hc
 unfold Wo
 unfold M5 at h
 cases hd:lk l c.super with
 | none=>
  simp only[Qp,hd,if_true] at h
  (repeat' (first | (with_reducible intro _) | (with_reducible refine W2 ?_) | (simp only[↓M2,M2,Mb,reduceIte]) | (with_reducible first | refine ld aS aL aR ?_ | refine Y0 aS aL aR ?_ | refine Z1 aS aL aR ?_ | refine X0 aL ?_ | refine V6 aR ?_ | refine Z0 aS ?_ | refine L5 aS aL ?_ | refine U1 aS aR ?_ | refine Y6 aS aR aR (Rep.one (by assumption)) ?_ | refine U8 aS aR aR aR ?_ | refine Fk au au au ?_ | (refine Z6 (fun hh=>?_) (fun hh=>?_)<;>(try simp only[hh,Bool.not_true,Bool.not_false,↓M2,M2,Mb,reduceIte])) | (refine Q5 (fun hh=>?_) (fun hh=>?_)<;>(try simp only[hh,Bool.not_true,Bool.not_false,↓M2,M2,Mb,reduceIte])))))
  all_goals exact aF
 | some d=>
  simp only[Qp,hd] at h
  obtain ⟨dn,ds,dl,di,da,df,dfs,dms⟩:=d
  cases di<;>cases df
  ·simp only[Bool.or_self,Bool.false_eq_true,if_false] at h
   (repeat' (first | (with_reducible intro _) | (with_reducible refine W2 ?_) | (simp only[↓M2,M2,Mb,reduceIte]) | (with_reducible first | refine ld aS aL aR ?_ | refine Y0 aS aL aR ?_ | refine Z1 aS aL aR ?_ | refine X0 aL ?_ | refine V6 aR ?_ | refine Z0 aS ?_ | refine L5 aS aL ?_ | refine U1 aS aR ?_ | refine Y6 aS aR aR (Rep.one (by assumption)) ?_ | refine U8 aS aR aR aR ?_ | refine Ea au au au ?_ | refine Xe au au au ?_ | (refine Z6 (fun hh=>?_) (fun hh=>?_)<;>(try simp only[hh,Bool.not_true,Bool.not_false,↓M2,M2,Mb,reduceIte])) | (refine Q5 (fun hh=>?_) (fun hh=>?_)<;>(try simp only[hh,Bool.not_true,Bool.not_false,↓M2,M2,Mb,reduceIte])))))
   rename_i w3 σ3 hk3 _ _ _ _ _ _
   have hS:Stp w σ w3 σ3:=by (repeat (first | exact Stp.refl (by (first | assumption | exact Stp.sat (by assumption) | exact Hst.sat (by assumption))) | assumption | refine Stp.trans ?_ (by first | assumption | exact Hst.stp (by assumption))))
   refine U3 c.like.length (fun n w'=> ∃σ',Stp w σ w' σ'∧SLe σ3 σ'∧((c.like.take n).any (E0 l))=false) ⟨σ3,hS,SLe.refl _,by simp⟩ fun n w4 d hn hi=>?_
   obtain ⟨σ4,hS4,le4,hq⟩:=hi
   clear hk3
   refine Z3 ?_
   refine Q5 (fun hh=>?_) (fun hh=>?_)
   ·have hn':n<c.like.length:=by simpa using hh
    have hmax:c.like.length≤9223372036854775807:=g1.max
    refine Zp (by (first | assumption | exact Sl.lift (by assumption) (by (repeat (first | exact SLe.refl _ | refine SLe.more ?_ (by assumption) | refine SLe.more ?_ (Nxt.le (by assumption)) | refine SLe.step ?_ (by assumption)))) | exact Z2.lift (by assumption) (by (repeat (first | exact SLe.refl _ | refine SLe.more ?_ (by assumption) | refine SLe.more ?_ (Nxt.le (by assumption)) | refine SLe.step ?_ (by assumption)))) | exact P9.lift (by assumption) (by (repeat (first | exact SLe.refl _ | refine SLe.more ?_ (by assumption) | refine SLe.more ?_ (Nxt.le (by assumption)) | refine SLe.step ?_ (by assumption)))) | exact RCl_lift (by assumption) (by (repeat (first | exact SLe.refl _ | refine SLe.more ?_ (by assumption) | refine SLe.more ?_ (Nxt.le (by assumption)) | refine SLe.step ?_ (by assumption)))) | exact RMe_lift (by assumption) (by (repeat (first | exact SLe.refl _ | refine SLe.more ?_ (by assumption) | refine SLe.more ?_ (Nxt.le (by assumption)) | refine SLe.step ?_ (by assumption)))) | exact Glb.lift (by assumption) (by (repeat (first | exact SLe.refl _ | refine SLe.more ?_ (by assumption) | refine SLe.more ?_ (Nxt.le (by assumption)) | refine SLe.step ?_ (by assumption)))) | exact Tab.lift (by assumption) (by (repeat (first | exact SLe.refl _ | refine SLe.more ?_ (by assumption) | refine SLe.more ?_ (Nxt.le (by assumption)) | refine SLe.step ?_ (by assumption)))) | exact RIn_any (by assumption) | exact RFd_any (by assumption) | exact RCa_any (by assumption))) hn' fun p hl hbig=>?_
    have hq':=N5 (p:=E0 l) hn'
    rw[hq] at hq'
    cases hx:lk l c.like[n] with
    | none=>
     simp only[B7 (p:=E0 l) hn' (by simp only[E0,hx]),if_true] at h
     (repeat' (first | (with_reducible intro _) | (with_reducible refine W2 ?_) | (simp only[↓M2,M2,Mb,reduceIte]) | (with_reducible first | refine ld aS aL aR ?_ | refine Y0 aS aL aR ?_ | refine Z1 aS aL aR ?_ | refine X0 aL ?_ | refine V6 aR ?_ | refine Z0 aS ?_ | refine L5 aS aL ?_ | refine U1 aS aR ?_ | refine Y6 aS aR aR (Rep.one (by assumption)) ?_ | refine U8 aS aR aR aR ?_ | refine Fk au au au ?_ | (refine Z6 (fun hh=>?_) (fun hh=>?_)<;>(try simp only[hh,Bool.not_true,Bool.not_false,↓M2,M2,Mb,reduceIte])) | (refine Q5 (fun hh=>?_) (fun hh=>?_)<;>(try simp only[hh,Bool.not_true,Bool.not_false,↓M2,M2,Mb,reduceIte])))))
     all_goals exact aF
    | some x=>
     obtain ⟨xn,xs,xl,xi,xa,xf,xfs,xms⟩:=x
     cases xi
     ·simp only[B7 (p:=E0 l) hn' (by simp only[E0,hx];rfl),if_true] at h
      (repeat' (first | (with_reducible intro _) | (with_reducible refine W2 ?_) | (simp only[↓M2,M2,Mb,reduceIte]) | (with_reducible first | refine ld aS aL aR ?_ | refine Y0 aS aL aR ?_ | refine Z1 aS aL aR ?_ | refine X0 aL ?_ | refine V6 aR ?_ | refine Z0 aS ?_ | refine L5 aS aL ?_ | refine U1 aS aR ?_ | refine Y6 aS aR aR (Rep.one (by assumption)) ?_ | refine U8 aS aR aR aR ?_ | refine Ea au au au ?_ | refine Xe au au au ?_ | (refine Z6 (fun hh=>?_) (fun hh=>?_)<;>(try simp only[hh,Bool.not_true,Bool.not_false,↓M2,M2,Mb,reduceIte])) | (refine Q5 (fun hh=>?_) (fun hh=>?_)<;>(try simp only[hh,Bool.not_true,Bool.not_false,↓M2,M2,Mb,reduceIte])))))
      all_goals exact aF
     ·(repeat' (first | (with_reducible intro _) | (with_reducible refine W2 ?_) | (simp only[↓M2,M2,Mb,reduceIte]) | (with_reducible first | refine ld aS aL aR ?_ | refine Y0 aS aL aR ?_ | refine Z1 aS aL aR ?_ | refine X0 aL ?_ | refine V6 aR ?_ | refine Z0 aS ?_ | refine L5 aS aL ?_ | refine U1 aS aR ?_ | refine Y6 aS aR aR (Rep.one (by assumption)) ?_ | refine U8 aS aR aR aR ?_ | refine Ea au au au ?_ | refine Xe au au au ?_ | (refine Z6 (fun hh=>?_) (fun hh=>?_)<;>(try simp only[hh,Bool.not_true,Bool.not_false,↓M2,M2,Mb,reduceIte])) | (refine Q5 (fun hh=>?_) (fun hh=>?_)<;>(try simp only[hh,Bool.not_true,Bool.not_false,↓M2,M2,Mb,reduceIte])))))
      refine Y5 hmax hn' ⟨_,by (repeat (first | exact Stp.refl (by (first | assumption | exact Stp.sat (by assumption) | exact Hst.sat (by assumption))) | assumption | refine Stp.trans ?_ (by first | assumption | exact Hst.stp (by assumption)))),by (repeat (first | exact SLe.refl _ | refine SLe.more ?_ (by assumption) | refine SLe.more ?_ (Nxt.le (by assumption)) | refine SLe.step ?_ (by assumption))),by rw[hq'];simp only[E0,hx];rfl⟩
   ·have hn': ¬n<c.like.length:=by simpa using hh
    rw[E4 hn'] at hq
    simp only[hq,Bool.false_eq_true,if_false] at h
    exact h _ _ hS4
  all_goals
   simp only[Bool.or_self,Bool.or_true,Bool.true_or,if_true] at h
   (repeat' (first | (with_reducible intro _) | (with_reducible refine W2 ?_) | (simp only[↓M2,M2,Mb,reduceIte]) | (with_reducible first | refine ld aS aL aR ?_ | refine Y0 aS aL aR ?_ | refine Z1 aS aL aR ?_ | refine X0 aL ?_ | refine V6 aR ?_ | refine Z0 aS ?_ | refine L5 aS aL ?_ | refine U1 aS aR ?_ | refine Y6 aS aR aR (Rep.one (by assumption)) ?_ | refine U8 aS aR aR aR ?_ | refine Ea au au au ?_ | refine Xe au au au ?_ | (refine Z6 (fun hh=>?_) (fun hh=>?_)<;>(try simp only[hh,Bool.not_true,Bool.not_false,↓M2,M2,Mb,reduceIte])) | (refine Q5 (fun hh=>?_) (fun hh=>?_)<;>(try simp only[hh,Bool.not_true,Bool.not_false,↓M2,M2,Mb,reduceIte])))))
   all_goals exact aF)
end Go.Proofs.YtfppjenblllfaaaGreatDoor

namespace Go.Emb
open Go.RowKit Go.Hm
variable {P : Program} {w w0 w1 w' w'' : World} {K : Value → World → Prop} {σ σ0 σ1 σ' : Q4}
theorem Q92 {a:Addr} {v:Value} (h:w.cell? a=some v) (b:Below w.heap.size w w'):w'.cell? a=some v:=by
 rw[←h];exact World.cell?_of_block (b.block a.block (World.block_lt_of_cell? _ _ h))
def Ptr {α:Type} (sz:Nat) (R:Q4→α→List Value→Prop) (σ:Q4) (x:α) (p:Value) (w:World):Prop:=
 ∃a cs,p= .pointer (some a)∧(∀j u,cs[j]? =some u→w.cell? (a.add j)=some u)∧cs.length=sz∧R σ x cs
theorem Ptr.below {α:Type} {sz:Nat} {R:Q4→α→List Value→Prop} {x:α} {p:Value} (h:Ptr sz R σ x p w) (b:Below w.heap.size w w'):Ptr sz R σ x p w':=by
 obtain ⟨a,cs,e,f,c⟩:=h
 exact ⟨a,cs,e,fun j u d=>Q92 (f j u d) b,c⟩
end Go.Emb
namespace Go.Proofs.YtfppjenblllfaaaGreatDoor
open Go.Emb Go.RowKit Go.Kd Go.Hm
variable {w : World} {K : Value → World → Prop} {σ : Q4} {v : Value} {l : List Cla}
theorem Q4F {w0:World} {σ0:Q4} {xs:List Cla} (hS:Stp w0 σ0 w σ) (L:J9 w0.heap.size T.c 8 V4 σ w v xs)
 (h: ∀w',Kpt (fun k=>v.ownBlock=some k) w w'→Stp w0 σ0 w' σ→J9 w0.heap.size T.c 8 V4 σ w' v xs.reverse→K (.tuple #[]) w'):Q0 P F.t [v] w K:=Yx (by
 unfold F2
 have O:xs.length≤9223372036854775807:=by
  obtain ⟨a,ab,_,g,c,_⟩:=L
  simp only[maxLen] at c;omega
 refine Vq L ?_
 refine Rc ⟨by omega,by omega⟩ ?_
 refine Uc (fun x w'=> ∃i:Nat,x=(I i,I ((xs.length:Int)-1-i))∧2*i≤xs.length∧Kpt (fun k=>v.ownBlock=some k) w w'∧Stp w0 σ0 w' σ∧J9 w0.heap.size T.c 8 V4 σ w' v (R0 i xs)) (fun x _=>match x.2 with | .int _ n=>(n+1).toNat | _=>0) ⟨0,by simp,by omega,Kpt.refl,hS,L⟩ ?_
 rintro _ d w1 ⟨i,rfl,N,R,o,b⟩
 obtain ⟨U,Q⟩:=Q0j xs i N
 refine Z3 ?_
 refine Q5 (fun hh=>?_) (fun hh=>?_)
 ·have W:(i:Int)<(xs.length:Int)-1-i:=by simpa using hh
  have M:((xs.length:Int)-1-i)=((xs.length-1-i:Nat):Int):=by omega
  have j:i<(R0 i xs).length:=by omega
  have m:xs.length-1-i<(R0 i xs).length:=by omega
  refine V0 o.sat ?_
  refine L3 (Ptr 8 V4 σ (R0 i xs)[xs.length-1-i]) (fun _ _ _ h f=>h.below f) (fun w f=>?_) ?_
  ·simp only[M]
   exact Q3M (b.step f.stp) m fun a cs g c r=>⟨Below.refl _ _,a,cs,rfl,g,c,r⟩
  refine L3 (Ptr 8 V4 σ (R0 i xs)[i]) (fun _ _ _ h f=>h.below f) (fun w f=>?_) ?_
  ·exact Q3M (b.step f.stp) j fun a cs g c r=>⟨Below.refl _ _,a,cs,rfl,g,c,r⟩
  refine L3 (fun v _=> ∃cs:List Value,v= .agg cs.toArray∧cs.length=8∧V4 σ (R0 i xs)[xs.length-1-i] cs) (fun _ _ _ h _=>h) (fun t w f e=>?_) ?_
  ·obtain ⟨a,cs,rfl,g,c,r⟩:=e
   exact Sd c g ⟨Below.refl _ _,cs,rfl,c,r⟩
  refine L3 (fun v _=> ∃cs:List Value,v= .agg cs.toArray∧cs.length=8∧V4 σ (R0 i xs)[i] cs) (fun _ _ _ h _=>h) (fun t w f e=>?_) ?_
  ·obtain ⟨a,cs,rfl,g,c,r⟩:=e
   exact Sd c g ⟨Below.refl _ _,cs,rfl,c,r⟩
  rintro ad Y aa X w2 q _ _ ⟨cs,rfl,J,y⟩ ⟨ds,rfl,B,s⟩
  refine X2z (o.trans q.stp) (b.step q.stp) j J y (Rep.one y) fun p u w3 D C A=>?_
  simp only[M]
  refine X2z C.stp A (by simpa using m) B s (Rep.one s) fun p u w4 H E z=>?_
  refine Gh ⟨by omega,by omega⟩ ?_
  refine Rc ⟨by omega,by omega⟩ ?_
  refine ⟨⟨i+1,by congr 1<;>congr 1<;>omega,by omega,?_,E.stp,?_⟩,?_⟩
  ·exact ((R.trans (Kpt.of_below q.stp.bel)).trans D).trans H
  ·have e1:(R0 i xs)[i]? =some (R0 i xs)[i]:=List.getElem?_eq_getElem j
   have V:(R0 i xs)[xs.length-1-i]? =some (R0 i xs)[xs.length-1-i]:=List.getElem?_eq_getElem m
   have:R0 (i+1) xs=((R0 i xs).set i (R0 i xs)[xs.length-1-i]).set (xs.length-1-i) (R0 i xs)[i]:=by
    simp only[R0,e1,V]
   rw[this];exact z
  ·simp only;omega
 ·have Z: ¬(i:Int)<(xs.length:Int)-1-i:=by simpa using hh
  rw[X03 xs i N (by omega)] at b
  exact h w1 R o b)
def sOf:Value→Q8 | .string b=>b.data.toList | _=>[]
theorem X12 {n:Q8} (O:X4 w σ) (z:Tab σ v l) (V:Zf l) (Z:l.length≤100000) (h: ∀q w' σ',Stp w σ w' σ'→J9 w.heap.size T.c 8 V4 σ' w' q (chain l n).reverse→K q w'):Q0 P F.aX [v,S n] w K:=Tw (by
 unfold Oe
 refine Uc (fun x w'=> ∃(s:Q8) (m:List Cla) (σ':Q4),x.2=S s∧chain l n=m++chain l s∧Stp w σ w' σ'∧J1 w.heap.size T.c 8 V4 σ' w' x.1 m) (fun x _=>(chain l (sOf x.2)).length)
  ⟨n,[],σ,rfl,rfl,Stp.refl O,J1.nil⟩ ?_
 rintro ⟨x1,_⟩ d w1 ⟨s,m,σ1,rfl,o,a,i⟩
 have g:=z.lift ⟨a.le⟩
 have A:=Bb l n
 have r:sOf (S s)=s:=by simp[sOf]
 simp only[r]
 cases j:lk l s with
 | none=>
  refine Fk a.sat g j ?_
  refine U6 ?_
  rw[T6 j,List.append_nil] at o
  rw[←o] at i
  refine Q4F a (J9.of_acc i) fun U e t y=>?_
  exact h _ _ _ t y
 | some c=>
  refine Ea a.sat g j ?_
  refine J8 ?_
  refine Xe a.sat g j fun R Q mv U X e N M H J E B=>?_
  have b:=K0 V s
  rw[j] at b
  simp only at b
  have D:m.length+1≤l.length+1:=by
   have:=congrArg List.length o
   rw[List.length_append,b,List.length_cons] at this;omega
  refine Vd (a.trans e) (i.up e) B rfl rfl rfl (by omega) (by omega) fun u q W σ3 L f p _=>?_
  refine Xe f.sat (z.lift ⟨f.le⟩) j fun R Q mv Y C k N M H J E B=>?_
  refine V6 (v:=S c.super) rfl ?_
  refine ⟨⟨c.super,m++[c],C,rfl,?_,f.trans k,p.up k⟩,?_⟩
  ·rw[o,b];simp
  ·have:sOf (S c.super)=c.super:=by simp[sOf]
   simp only[this,b,List.length_cons];omega)
theorem Q6g {n:Q8} (hs:X4 w σ) (W:Tab σ v l) (ha:Zf l) (Y:l.length≤100000) (B: ∀c∈l,Qr c) (h: ∀y w' σ',Stp w σ w' σ'→Sl 3 H0 σ' y (U4 l n)→K y w'):Q0 P F.ag [v,S n] w K:=Fp (by
 unfold Wc
 refine X12 hs W ha Y fun v1 w1 σ1 E H=>?_
 obtain ⟨N,D,m,ac,_⟩:=H.keep E
 generalize j:(chain l n).reverse=cs at*
 have Q:cs.length≤l.length+1:=by rw[←j,List.length_reverse];exact Bb l n
 have o: ∀c∈cs,c.fields.length≤1000000:=fun c t=>(B c (Ct (by rw[←j] at t;simpa using t))).2.1
 refine X0 m ?_
 refine E2 cs.length (fun i a w'=> ∃σ',Stp w σ w' σ'∧SLe N σ'∧J1 w.heap.size T.l 3 H0 σ' w' a ((cs.take i).flatMap (·.fields))) ⟨N,D,SLe.refl _,J1.nil⟩ fun i a w3 d hi s=>?_
 obtain ⟨σ3,f,r,g⟩:=s
 refine Z3 ?_
 refine Q5 (fun hh=>?_) (fun hh=>?_)
 ·have e:i<cs.length:=by simpa using hh
  refine M7 (m.lift r) e fun p cells C k R=>?_
  refine Z1 f.sat C k ?_
  refine Y6 f.sat (by rfl) k (Rep.one R) fun q w4 M b V=>?_
  obtain ⟨lv,fv,mv,rfl,f1,f2,f3,f4,f5⟩:=R
  rw[fa]
  refine ld b.sat V rfl ?_
  have L:=Va (fun c:Cla=>c.fields) 1000000 (cs.take i) fun c t=>o c (List.mem_of_mem_take t)
  rw[List.length_take] at L
  have U:=o cs[i] (List.getElem_mem e)
  have O:min i cs.length*1000000≤100000*1000000:=Nat.mul_le_mul_right _ (by omega)
  refine Hu (f.trans b) (g.up b) (f2.up b) rfl (by omega) (by omega) fun y w5 Z u z _=>?_
  refine E5 ?_
  refine J0 (by omega) e ⟨M,u,r.more ⟨b.le⟩,?_⟩
  rw[List.take_add_one,List.getElem?_eq_getElem e,List.flatMap_append]
  simpa using z
 ·have e: ¬i<cs.length:=by simpa using hh
  rw[List.take_of_length_le (by omega)] at g
  obtain ⟨M,J,A,X,_⟩:=g.keep f
  refine h _ _ _ J ?_
  unfold U4
  rw[j];exact A)
theorem Q8B {n f:Q8} (hs:X4 w σ) (ht:Tab σ v l) (ha:Zf l) (hl:l.length≤100000) (hsm: ∀c∈l,Qr c) (h: ∀w' σ',Stp w σ w' σ'→K (I (L2 (F5 l n f))) w'):Q0 P F.aK [v,S n,S f] w K:=Pp (by
 unfold Ls
 refine U1 hs rfl fun q w1 σ1 hk1 hq=>?_
 refine Q6g hk1.sat (ht.lift ⟨hk1.le⟩) ha hl hsm fun v' w2 σ2 hk2 hv2=>?_
 rw[Xh]
 refine Fs (fun x=>decide (x.name=f)) hk2.sat hv2 (fun x cs w3 K _ hs3 hr hl hK=>X9 (Bu ?_)) fun w3 hb=>?_
 ·obtain ⟨rfl,_⟩:=hr
  unfold Vh
  have hq2:=hq.up hk2
  refine Z0 hs3 fun a w4 σ4 hk4 ha4=>?_
  (repeat' (first | (with_reducible intro _) | (with_reducible refine W2 ?_) | (simp only[↓M2,M2,Mb,reduceIte]) | (with_reducible first | refine ld aS aL aR ?_ | refine Y0 aS aL aR ?_ | refine Z1 aS aL aR ?_ | refine X0 aL ?_ | refine V6 aR ?_ | refine Z0 aS ?_ | refine L5 aS aL ?_ | refine U1 aS aR ?_ | refine Y6 aS aR aR (Rep.one (by assumption)) ?_ | refine U8 aS aR aR aR ?_ | (refine Z6 (fun hh=>?_) (fun hh=>?_)<;>(try simp only[hh,Bool.not_true,Bool.not_false,↓M2,M2,Mb,reduceIte])) | (refine Q5 (fun hh=>?_) (fun hh=>?_)<;>(try simp only[hh,Bool.not_true,Bool.not_false,↓M2,M2,Mb,reduceIte])))))
  exact hK _ hk4.bel
 ·exact h _ _ ((hk1.trans hk2).trans (Stp.of_below hk2.sat hb)))
end Go.Proofs.YtfppjenblllfaaaGreatDoor

namespace Go.Hm
open Go.Kd
theorem Q76 {α:Type} (p:α→Bool): ∀xs:List α,xs.find? p=(xs.findIdx? p).bind (xs[·]?)
 | []=>rfl
 | x::r=>by
  rw[List.find?_cons,List.findIdx?_cons]
  cases p x with
  | true=>rfl
  | false=>
   simp only[Bool.false_eq_true,if_false]
   rw[Q76 p r]
   cases r.findIdx? p<;>simp
def Full (l:List Cla):Prop:= ∀c∈l,∀u∈c.like,∃d,lk l u=some d
def Nm (c:Cla):Prop:=c.name.length≤100∧(∀f∈c.fields,f.name.length≤100∧f.kind.length≤100)∧ ∀m∈c.methods,m.result.length≤100∧ ∀p∈m.params,p.length≤100
structure Ok (l : List Cla) : Prop where
  acy : Zf l
  len : l.length ≤ 100000
  sm : ∀ c ∈ l, Qr c
  full : Full l
  nm : ∀ c ∈ l, Nm c
abbrev oM (o:Option Hm.Met):Hm.Met:=o.getD Hm.Met.zero
abbrev o1 (o:Option (Q8×Hm.Met)):Q8:=(o.map (·.1)).getD []
abbrev o2 (o:Option (Q8×Hm.Met)):Hm.Met:=(o.map (·.2)).getD Hm.Met.zero
theorem Xn {α β:Type} {xs:List α} {f:α→Option β} {n:Nat} (h:n<xs.length) (a:(xs.take n).findSome? f=none):(xs.take (n+1)).findSome? f=f xs[n]:=by
 rw[List.take_add_one,List.getElem?_eq_getElem h,List.findSome?_append,a];simp
theorem Xd {α β:Type} {xs:List α} {f:α→Option β} {n:Nat} {y:β} (h:n<xs.length) (b:(xs.take n).findSome? f=none) (a:f xs[n]=some y):xs.findSome? f=some y:=by
 have:=Xn h b
 rw[a] at this
 rw[←List.take_append_drop (n+1) xs,List.findSome?_append,this];rfl
end Go.Hm
namespace Go.Proofs.YtfppjenblllfaaaGreatDoor
open Go.Emb Go.RowKit Go.Kd Go.Hm
variable {w : World} {K : Value → World → Prop} {σ : Q4} {v : Value} {l : List Cla}
theorem Qn:M3 σ Hm.Met.zero [S [], .slice none 0 0,S [], .bool false,I 0, .slice none 0 0, .slice none 0 0]:=
 ⟨_,_,_,rfl,Sl.nil,Sl.nil,Sl.nil,by decide,by decide,by decide,by decide⟩
theorem Rh (h:K (.agg [S [], .slice none 0 0,S [], .bool false,I 0, .slice none 0 0, .slice none 0 0].toArray) w):O4 P T.d [] w K:=W0 (by kernel_rfl) h
theorem X2j {c:Cla} {cs:List Value} {n:Q8} (hs:X4 w σ) (hc:V4 σ c cs) (hsm:Qr c)
 (h: ∀pv cv hv w' σ',Stp w σ w' σ'→M3 σ' (oM (H1 c n)) [S (oM (H1 c n)).name,pv,S (oM (H1 c n)).result, .bool (oM (H1 c n)).abs,I (oM (H1 c n)).locals,cv,hv]→
  K (.tuple #[.agg [S (oM (H1 c n)).name,pv,S (oM (H1 c n)).result, .bool (oM (H1 c n)).abs,I (oM (H1 c n)).locals,cv,hv].toArray, .bool (H1 c n).isSome]) w'):Q0 P F.cB [.agg cs.toArray,S n] w K:=Q9d (by
 obtain ⟨lv,fv,mv,rfl,g1,g2,g3,g4,g5⟩:=hc
 unfold Q3x
 refine Z0 hs fun a w1 σ1 hk1 ha1=>?_
 refine U1 hk1.sat rfl fun q w2 σ2 hk2 hq=>?_
 refine P3 hk2.sat fun b w3 σ3 hb hk3 hm=>?_
 rw[fa]
 have ha3:=(ha1.up hk2).up hk3
 have g3:=((g3.up hk1).up hk2).up hk3
 have hq3:=hq.up hk3
 refine ld hk3.sat ha3 rfl ?_
 rw[Xh]
 have hS3:=(hk1.trans hk2).trans hk3
 have hb0:w.heap.size≤b:=Jh hb (hk1.trans hk2)
 refine Ff (fun x=>decide (x.name=n)) hk3.sat g3 (fun x cs w4 K _ hs4 hr hl hK=>X9 (Q7b ?_)) fun w4 hb4=>?_
 ·obtain ⟨pv,cv,hv,rfl,_⟩:=hr
  unfold Q0z
  refine Z0 hs4 fun a w5 σ5 hk5 ha5=>?_
  (repeat' (first | (with_reducible intro _) | (with_reducible refine W2 ?_) | (simp only[↓M2,M2,Mb,reduceIte]) | (with_reducible first | refine ld aS aL aR ?_ | refine Y0 aS aL aR ?_ | refine Z1 aS aL aR ?_ | refine X0 aL ?_ | refine V6 aR ?_ | refine Z0 aS ?_ | refine L5 aS aL ?_ | refine U1 aS aR ?_ | refine Y6 aS aR aR (Rep.one (by assumption)) ?_ | refine U8 aS aR aR aR ?_ | (refine Z6 (fun hh=>?_) (fun hh=>?_)<;>(try simp only[hh,Bool.not_true,Bool.not_false,↓M2,M2,Mb,reduceIte])) | (refine Q5 (fun hh=>?_) (fun hh=>?_)<;>(try simp only[hh,Bool.not_true,Bool.not_false,↓M2,M2,Mb,reduceIte])))))
  exact hK _ hk5.bel
 have hk4:Stp w3 σ3 w4 σ3:=Stp.of_below hk3.sat hb4
 have hm:=hm.step hk4
 have hS4:=hS3.trans hk4
 unfold H1 at h
 rw[Q76] at h
 refine Z3 ?_
 cases hf:c.methods.findIdx? fun x=>decide (x.name=n) with
 | none=>
  rw[hf] at h
  simp only[L2]
  refine J8 ?_
  refine Rh ?_
  refine Qz hm hS4 hb0 rfl rfl (Rep.one (Qn (σ:=σ3))) fun w5 hS5 hm5=>?_
  refine W7 hm5 rfl ?_
  exact h _ _ _ w5 σ3 hS5.stp Qn
 | some i=>
  rw[hf] at h
  have hi:i<c.methods.length:=(List.findIdx?_eq_some_iff_getElem.1 hf).1
  simp only[Option.bind_some,List.getElem?_eq_getElem hi] at h
  simp only[L2]
  refine Q5 (fun hh=>absurd (of_decide_eq_true hh) (by omega)) (fun _=>?_)
  rw[fa]
  refine ld hk4.sat ha3 rfl ?_
  refine M7 g3 hi fun p cells hl1 hl2 hr=>?_
  refine Z1 hk4.sat hl1 hl2 ?_
  refine Q4X hk4.sat hr (hsm.2.2.2 _ (List.getElem_mem hi)) fun pv cv hv w5 σ5 hk5 hr5=>?_
  refine Qz (hm.step hk5) (hS4.trans hk5) hb0 rfl rfl (Rep.one hr5) fun w6 hS6 hm6=>?_
  refine W7 hm6 rfl ?_
  exact h _ _ _ w6 σ5 hS6.stp hr5)
theorem X4B {n:Q8} (ok:Ok l): ∀(k:Nat) {c:Cla} {cs:List Value} {w:World} {σ:Q4} {K:Value→World→Prop},I7 l c.name<k→lk l c.name=some c→X4 w σ→Tab σ v l→V4 σ c cs→
 (∀pv Y X w' Z,Stp w σ w' Z→M3 Z (o2 (V3 l c n)) [S (o2 (V3 l c n)).name,pv,S (o2 (V3 l c n)).result, .bool (o2 (V3 l c n)).abs,I (o2 (V3 l c n)).locals,Y,X]→
  K (.tuple #[S (o1 (V3 l c n)), .agg [S (o2 (V3 l c n)).name,pv,S (o2 (V3 l c n)).result, .bool (o2 (V3 l c n)).abs,I (o2 (V3 l c n)).locals,Y,X].toArray, .bool (V3 l c n).isSome]) w')→
 Q0 P F.aY [v, .agg cs.toArray,S n] w K:=by
 intro k
 induction k with
 | zero=>
  intro c cs w σ K hk
  omega
 | succ k ih=>
  intro c cs w σ K hk hc hs ht hr h
  refine Ak ?_
  obtain ⟨lv,fv,mv,rfl,g1,g2,g3,g4,g5⟩:=hr
  have L:=Q4U ok.acy hc n
  generalize hf:(fun u=>match lk l u with | none=>none | some d=>match H1 d n with | some m=>some (u,m) | none=>V3 l d n)=f at L
  unfold Oo
  refine Z0 hs fun a w1 σ1 J az=>?_
  refine P3 J.sat fun b w2 σ2 hb C a0=>?_
  have Q:w.heap.size≤b:=Jh hb J
  have ba:=az.up C
  rw[fa]
  refine ld C.sat ba rfl ?_
  have g1:=(g1.up J).up C
  refine X0 g1 ?_
  refine U3 c.like.length (fun i w'=> ∃Z,Stp w σ w' Z∧SLe σ2 Z∧Z7 Z w' b [S [], .slice none 0 0,S [], .bool false,I 0, .slice none 0 0, .slice none 0 0]∧(c.like.take i).findSome? f=none) ⟨σ2,J.trans C,SLe.refl _,a0,rfl⟩ fun i w3 d hi ah=>?_
  obtain ⟨σ3,A,ae,aa,y⟩:=ah
  have a9:=ht.lift ⟨A.le⟩
  refine Z3 ?_
  refine Q5 (fun hh=>?_) (fun hh=>?_)
  ·have g:i<c.like.length:=by simpa using hh
   refine Zp (g1.lift ae) g fun p a8 ab=>?_
   refine Y0 A.sat a8 rfl ?_
   obtain ⟨d,W⟩:=ok.full c (V2 hc).2.1 _ (List.getElem_mem g)
   obtain ⟨ag,a4,_⟩:=V2 W
   have j:f c.like[i]=match H1 d n with | some m=>some (c.like[i],m) | none=>V3 l d n:=by rw[←hf];simp only[W]
   refine Xe A.sat a9 W fun a3 a1 a5 w4 σ4 M f1 f2 f3 f4 f5 ax=>?_
   refine X2j M.sat ax (ok.sm d a4) fun pv Y X w5 σ5 B ak=>?_
   refine Z8 (vs:=[_,_]) rfl ?_
   refine Z8 (vs:=[_,_]) rfl ?_
   refine Y6 B.sat (by rfl) rfl (Rep.one ak) fun q w6 σ6 D af=>?_
   have t:=((A.trans M).trans B).trans D
   have ap:=((aa.step M).step B).step D
   have O:=RMe_lift ak ⟨D.le⟩
   cases ho:H1 d n with
   | some m=>
    rw[ho] at j O af
    (try simp only[ho])
    refine J8 ?_
    refine V0 t.sat ?_
    refine L3 (fun v _=>v= .agg [S m.name,pv,S m.result, .bool m.abs,I m.locals,Y,X].toArray) (fun _ _ _ h _=>h) (fun w hb=>Z1 hb.sat af rfl ⟨Below.refl _ _,rfl⟩) ?_
    rintro _ w7 am rfl
    refine Qz (ap.step am.stp) (t.trans am.stp) Q rfl rfl (Rep.one O) fun w8 ay bb=>?_
    refine W7 bb rfl ?_
    have U:=L.trans (Xd g y j)
    rw[U] at h
    exact h _ _ _ w8 σ6 ay.stp O
   | none=>
    rw[ho] at j
    (try simp only[Option.isSome_none])
    refine U6 ?_
    refine Xe t.sat (ht.lift ⟨t.le⟩) W fun a3 a1 a5 w7 σ7 z f1 f2 f3 f4 f5 a2=>?_
    have bs:=Yw ok.acy hc (by simp[U2,List.getElem_mem g]:c.like[i]∈U2 c) W
    refine ih (by rw[ag];omega) (by rw[ag];exact W) z.sat (ht.lift ⟨(t.trans z).le⟩) a2 fun pv Y X w8 σ8 H al=>?_
    refine Z8 (vs:=[_,_,_]) rfl ?_
    refine Z8 (vs:=[_,_,_]) rfl ?_
    refine Z8 (vs:=[_,_,_]) rfl ?_
    refine Y6 H.sat (by rfl) rfl (Rep.one al) fun q w9 σ9 E ao=>?_
    have R:=((t.trans z).trans H).trans E
    have an:=((ap.step z).step H).step E
    have V:=RMe_lift al ⟨E.le⟩
    cases U:V3 l d n with
    | some r=>
     obtain ⟨s,m⟩:=r
     rw[U] at j V ao
     (try simp only[U])
     refine J8 ?_
     refine V0 R.sat ?_
     refine L3 (fun v _=>v= .agg [S m.name,pv,S m.result, .bool m.abs,I m.locals,Y,X].toArray) (fun _ _ _ h _=>h) (fun w hb=>Z1 hb.sat ao rfl ⟨Below.refl _ _,rfl⟩) ?_
     rintro _ bv N rfl
     refine Qz (an.step N.stp) (R.trans N.stp) Q rfl rfl (Rep.one V) fun aw ai aj=>?_
     refine W7 aj rfl ?_
     have ab:=L.trans (Xd g y j)
     rw[ab] at h
     exact h _ _ _ aw σ9 ai.stp V
    | none=>
     rw[U] at j
     (try simp only[Option.isSome_none])
     refine U6 ?_
     refine E5 ?_
     refine Y5 (by have:=g1.max;omega) g ⟨σ9,R,?_,an,?_⟩
     ·exact ae.more ⟨fun b o e=>E.le _ _ (H.le _ _ (z.le _ _ (D.le _ _ (B.le _ _ (M.le _ _ e)))))⟩
     ·rw[Xn g y];exact j
  ·have g: ¬i<c.like.length:=by simpa using hh
   rw[List.take_of_length_le (by omega)] at y
   refine Rh ?_
   refine Qz aa A Q rfl rfl (Rep.one (Qn (σ:=σ3))) fun w5 aq av=>?_
   refine W7 av rfl ?_
   have U:=L.trans y
   rw[U] at h
   exact h _ _ _ w5 σ3 aq.stp Qn
end Go.Proofs.YtfppjenblllfaaaGreatDoor

namespace Go.Hm
open Go.Kd
theorem X19 {l:List Cla} {n:Q8} {c:Cla} (h:c∈chain l n):lk l c.name=some c:=by
 have key: ∀(f:Nat) (n:Q8),c∈F3 (lk l) f n→lk l c.name=some c:=by
  intro f
  induction f with
  | zero=>intro n h;simp[F3] at h
  | succ f b=>
   intro n h
   simp only[F3] at h
   split at h
   ·simp at h
   ·rename_i d a
    rcases List.mem_cons.1 h with rfl | h
    ·rw[(V2 a).1];exact a
    ·exact b _ h
 exact key _ _ h
end Go.Hm
namespace Go.Proofs.YtfppjenblllfaaaGreatDoor
open Go.Emb Go.RowKit Go.Kd Go.Hm
variable {w : World} {K : Value → World → Prop} {σ : Q4} {v : Value} {l : List Cla}
theorem Q6W {k n:Q8} (hs:X4 w σ) (ht:Tab σ v l) (ok:Ok l)
 (h: ∀pv cv hv w' H,Stp w σ w' H→M3 H (o2 (Z9 l k n)) [S (o2 (Z9 l k n)).name,pv,S (o2 (Z9 l k n)).result, .bool (o2 (Z9 l k n)).abs,I (o2 (Z9 l k n)).locals,cv,hv]→
  K (.tuple #[S (o1 (Z9 l k n)), .agg [S (o2 (Z9 l k n)).name,pv,S (o2 (Z9 l k n)).result, .bool (o2 (Z9 l k n)).abs,I (o2 (Z9 l k n)).locals,cv,hv].toArray, .bool (Z9 l k n).isSome]) w'):
 Q0 P F.aF [v,S k,S n] w K:=Fu (by
 unfold Wz
 refine P3 hs fun b w1 σ1 E O ak=>?_
 refine X12 O.sat (ht.lift ⟨O.le⟩) ok.acy ok.len fun v1 w2 σ2 ap ao=>?_
 have a8:=ak.step ap
 have bq:=ak.lt
 refine Q4F (O.trans ap) (ao.mono O.bel.size) fun w3 a7 ba ad=>?_
 rw[List.reverse_reverse] at ad
 obtain ⟨σ3,an,N,bn,aj⟩:=ad.keep ba
 have bi:=Bb l k
 have a2:v1.ownBlock≠some b:=fun e=>by have:=ao.own e;omega
 have ae:Z7 σ3 w3 b [S [], .slice none 0 0,S [], .bool false,I 0, .slice none 0 0, .slice none 0 0]:=by
  have:=a8.kp a7 a2
  exact ⟨(aj b fun e=>a2 e.symm).trans this.1,this.2⟩
 refine X0 N ?_
 unfold Z9 at h
 refine U3 (chain l k).length (fun i w'=> ∃H,Stp w σ w' H∧SLe σ3 H∧Z7 H w' b [S [], .slice none 0 0,S [], .bool false,I 0, .slice none 0 0, .slice none 0 0]∧((chain l k).take i).findSome? (fun c=>(H1 c n).map (c.name,·))=none) ⟨σ3,an,SLe.refl _,ae,rfl⟩ fun i w5 d hi D=>?_
 obtain ⟨σ5,J,L,ah,u⟩:=D
 refine Z3 ?_
 refine Q5 (fun hh=>?_) (fun hh=>?_)
 ·have a:i<(chain l k).length:=by simpa using hh
  refine M7 (N.lift L) a fun p cells W z Z=>?_
  refine Z1 J.sat W z ?_
  refine Y6 J.sat (by rfl) z (Rep.one Z) fun q w6 σ6 B aq=>?_
  refine Z1 B.sat aq z ?_
  have am:=Ct (List.getElem_mem a)
  refine X2j B.sat (Rep.up B.le Z) (ok.sm _ am) fun pv cv hv w7 σ7 j a0=>?_
  refine Z8 (vs:=[_,_]) rfl ?_
  refine Z8 (vs:=[_,_]) rfl ?_
  refine Y6 j.sat (by rfl) rfl (Rep.one a0) fun q8 w8 σ8 y al=>?_
  have X:=((J.trans B).trans j).trans y
  have aw:=((ah.step B).step j).step y
  have A:=RMe_lift a0 ⟨y.le⟩
  cases C:H1 (chain l k)[i] n with
  | some m=>
   rw[C] at A al
   (try simp only[C])
   refine J8 ?_
   obtain ⟨lv,fv,mv,rfl,g⟩:=Z
   refine V0 X.sat ?_
   refine X2 (.pointer (some (q.add 0))) (fun w E=>by rw[fa];exact X6 rfl) ?_
   refine X2 (S (chain l k)[i].name) (fun t w E e=>by rw[e];exact ld E.sat ((aq.up j).up y) rfl (X6 rfl)) ?_
   refine L3 (fun v _=>v= .agg [S m.name,pv,S m.result, .bool m.abs,I m.locals,cv,hv].toArray) (fun _ _ _ h _=>h) (fun w E=>Z1 E.sat al rfl ⟨Below.refl _ _,rfl⟩) ?_
   rintro _ _ _ w9 ai rfl rfl rfl
   refine Qz (aw.step ai.stp) (X.trans ai.stp) E rfl rfl (Rep.one A) fun ax av af=>?_
   refine W7 af rfl ?_
   rw[Xd (f:=fun c=>(H1 c n).map (c.name,·)) a u (by simp only[C];rfl)] at h
   exact h _ _ _ ax σ8 av.stp A
  | none=>
   (try simp only[C])
   refine U6 ?_
   refine E5 ?_
   refine Y5 (by have:=ok.len;omega) a ⟨σ8,X,L.more ⟨fun b o e=>y.le _ _ (j.le _ _ (B.le _ _ e))⟩,aw,?_⟩
   rw[Xn a u];simp only[C];rfl
 ·have a: ¬i<(chain l k).length:=by simpa using hh
  rw[List.take_of_length_le (by omega)] at u
  rw[u] at h
  clear ae an hh
  refine X0 (N.lift L) ?_
  refine U3 (chain l k).length (fun i w'=> ∃H,Stp w σ w' H∧SLe σ3 H∧Z7 H w' b [S [], .slice none 0 0,S [], .bool false,I 0, .slice none 0 0, .slice none 0 0]∧((chain l k).take i).findSome? (fun c=>V3 l c n)=none) ⟨σ5,J,L,ah,rfl⟩ fun i w6 d hi D=>?_
  obtain ⟨σ6,Q,ar,a1,u⟩:=D
  refine Z3 ?_
  refine Q5 (fun hh=>?_) (fun hh=>?_)
  ·have a:i<(chain l k).length:=by simpa using hh
   refine M7 (N.lift ar) a fun p cells W z Z=>?_
   refine Z1 Q.sat W z ?_
   refine Y6 Q.sat (by rfl) z (Rep.one Z) fun q w7 σ7 j bc=>?_
   refine Z1 j.sat bc z ?_
   have R:=Q.trans j
   have bb:=X19 (List.getElem_mem a)
   refine X4B ok _ (Nat.lt_succ_self _) bb j.sat (ht.lift ⟨R.le⟩) (Rep.up j.le Z) fun pv cv hv w8 σ8 y A=>?_
   refine Z8 (vs:=[_,_,_]) rfl ?_
   refine Z8 (vs:=[_,_,_]) rfl ?_
   refine Z8 (vs:=[_,_,_]) rfl ?_
   refine Y6 y.sat (by rfl) rfl (Rep.one A) fun q9 w9 σ9 M az=>?_
   have Y:=(R.trans y).trans M
   have ay:=((a1.step j).step y).step M
   have V:=RMe_lift A ⟨M.le⟩
   cases C:V3 l (chain l k)[i] n with
   | some r=>
    obtain ⟨s,m⟩:=r
    rw[C] at V az
    (try simp only[C])
    refine J8 ?_
    refine V0 Y.sat ?_
    refine L3 (fun v _=>v= .agg [S m.name,pv,S m.result, .bool m.abs,I m.locals,cv,hv].toArray) (fun _ _ _ h _=>h) (fun w E=>Z1 E.sat az rfl ⟨Below.refl _ _,rfl⟩) ?_
    rintro _ ax U rfl
    refine Qz (ay.step U.stp) (Y.trans U.stp) E rfl rfl (Rep.one V) fun a5 ac ag=>?_
    refine W7 ag rfl ?_
    have:=Xd (f:=fun c=>V3 l c n) a u C
    unfold V3 at this
    rw[this] at h
    exact h _ _ _ a5 σ9 ac.stp V
   | none=>
    (try simp only[C])
    refine U6 ?_
    refine E5 ?_
    refine Y5 (by have:=ok.len;omega) a ⟨σ9,Y,ar.more ⟨fun b o e=>M.le _ _ (y.le _ _ (j.le _ _ e))⟩,ay,?_⟩
    rw[Xn a u];exact C
  ·have a: ¬i<(chain l k).length:=by simpa using hh
   rw[List.take_of_length_le (by omega)] at u
   refine Rh ?_
   refine Qz a1 Q E rfl rfl (Rep.one (Qn (σ:=σ6))) fun w7 R a9=>?_
   refine W7 a9 rfl ?_
   unfold V3 at u
   rw[u] at h
   exact h _ _ _ w7 σ6 R.stp Qn)
theorem X0r {n:Q8} (hs:X4 w σ) (ht:Tab σ v l) (h: ∀w' σ',Stp w σ w' σ'→K (.bool (Zz l n)) w'):Q0 P F.bj [v,S n] w K:=Bn (by
 unfold Uz
 unfold Zz at h
 cases hd:lk l n with
 | none=>
  rw[hd] at h
  (repeat' (first | (with_reducible intro _) | (with_reducible refine W2 ?_) | (simp only[↓M2,M2,Mb,reduceIte]) | (with_reducible first | refine ld aS aL aR ?_ | refine Y0 aS aL aR ?_ | refine Z1 aS aL aR ?_ | refine X0 aL ?_ | refine V6 aR ?_ | refine Z0 aS ?_ | refine L5 aS aL ?_ | refine U1 aS aR ?_ | refine Y6 aS aR aR (Rep.one (by assumption)) ?_ | refine U8 aS aR aR aR ?_ | refine Fk au au au ?_ | (refine Z6 (fun hh=>?_) (fun hh=>?_)<;>(try simp only[hh,Bool.not_true,Bool.not_false,↓M2,M2,Mb,reduceIte])) | (refine Q5 (fun hh=>?_) (fun hh=>?_)<;>(try simp only[hh,Bool.not_true,Bool.not_false,↓M2,M2,Mb,reduceIte])))))
  all_goals exact aF
 | some d=>
  rw[hd] at h
  (repeat' (first | (with_reducible intro _) | (with_reducible refine W2 ?_) | (simp only[↓M2,M2,Mb,reduceIte]) | (with_reducible first | refine ld aS aL aR ?_ | refine Y0 aS aL aR ?_ | refine Z1 aS aL aR ?_ | refine X0 aL ?_ | refine V6 aR ?_ | refine Z0 aS ?_ | refine L5 aS aL ?_ | refine U1 aS aR ?_ | refine Y6 aS aR aR (Rep.one (by assumption)) ?_ | refine U8 aS aR aR aR ?_ | refine Ea au au au ?_ | refine Xe au au au ?_ | (refine Z6 (fun hh=>?_) (fun hh=>?_)<;>(try simp only[hh,Bool.not_true,Bool.not_false,↓M2,M2,Mb,reduceIte])) | (refine Q5 (fun hh=>?_) (fun hh=>?_)<;>(try simp only[hh,Bool.not_true,Bool.not_false,↓M2,M2,Mb,reduceIte])))))
  all_goals exact aF)
end Go.Proofs.YtfppjenblllfaaaGreatDoor

namespace Go.Kd
def brk (b:UInt8):Bool:=[(91:UInt8),93].contains b
def Q1y:Nat→Q8→Q8
 | 0,s=>s
 | n+1,s=>match s.getLast? with
  | some b=>if brk b then Q1y n (s.take (s.length-1)) else s
  | none=>s
def Ey (s:Q8):Q8:=Q1y s.length s
theorem Q9I: ∀(n m:Nat) (s:Q8),s.length≤n→s.length≤m→Q1y n s=Q1y m s:=by
 intro n
 induction n with
 | zero=>
  intro m s h _
  have:s=[]:=List.eq_nil_of_length_eq_zero (by omega)
  subst this
  cases m<;>rfl
 | succ n a=>
  intro m s h c
  cases m with
  | zero=>
   have:s=[]:=List.eq_nil_of_length_eq_zero (by omega)
   subst this;rfl
  | succ m=>
   simp only[Q1y]
   cases d:s.getLast? with
   | none=>rfl
   | some b=>
    simp only
    split
    ·exact a m _ (by rw[List.length_take];omega) (by rw[List.length_take];omega)
    ·rfl
theorem Q1m (s:Q8):Ey s=match s.getLast? with | some b=>if brk b then Ey (s.take (s.length-1)) else s | none=>s:=by
 unfold Ey
 cases d:s with
 | nil=>rfl
 | cons c r=>
  rw[←d]
  obtain ⟨n,e⟩: ∃n,s.length=n+1:=⟨r.length,by rw[d];rfl⟩
  have a:s.length-1=n:=by omega
  rw[e]
  simp only[Q1y,a]
  cases f:s.getLast? with
  | none=>rfl
  | some b=>
   simp only
   split
   ·rw[show n+1-1=n by omega];exact Q9I n (s.take n).length _ (by rw[List.length_take];omega) (Nat.le_refl _)
   ·rfl
theorem X09 {s:Q8} (h:name s=true): ∃b,s.getLast?=some b∧H3 b.toNat=true:=by
 cases s with
 | nil=>simp[name] at h
 | cons c r=>
  refine ⟨(c::r).getLast (by simp),List.getLast?_eq_some_getLast (by simp),?_⟩
  simp only[name,Bool.and_eq_true,List.all_eq_true] at h
  exact h.2 _ (List.getLast_mem _)
theorem X0V {b:UInt8} (h:H3 b.toNat=true):brk b=false:=by
 have a:b≠91:=by rintro rfl;revert h;decide
 have c:b≠93:=by rintro rfl;revert h;decide
 simp[brk,a,c]
theorem Nb {s:Q8} (h:(plain s||W9 s)=true):name s=true:=by
 simp only[Bool.or_eq_true] at h
 rcases h with h | h
 ·simp only[plain,Bool.or_eq_true,decide_eq_true_eq] at h
  rcases h with (h | h) | h<;>subst h<;>decide
 ·cases s with
  | nil=>simp[W9] at h
  | cons c r=>simp only[W9,Bool.and_eq_true] at h;exact h.1
end Go.Kd
namespace Go.Proofs.YtfppjenblllfaaaGreatDoor
open Go.Emb Go.RowKit Go.Kd Go.Hm
variable {w : World} {K : Value → World → Prop} {σ : Q4} {v : Value} {l : List Cla}
theorem X1B {s:Q8} (h:L6 s=true):Ey s=Ey (Kd.cutA s):=by
 have e:2≤s.length∧s.drop (s.length-2)=[91,93]:=by simpa [L6] using h
 obtain ⟨i,f⟩:=e
 have a:s=Kd.cutA s++[91,93]:=by unfold Kd.cutA;rw[←f,List.take_append_drop]
 have g:(Kd.cutA s).length+2=s.length:=by unfold Kd.cutA;rw[List.length_take];omega
 have c:s.getLast?=some 93:=by rw[a];simp
 have b:s.take (s.length-1)=Kd.cutA s++[91]:=by
  conv=>lhs;rw[a]
  rw[List.take_append,List.length_append]
  simp
  exact List.take_of_length_le (by omega)
 rw[Q1m s,c]
 simp only[show brk 93=true from rfl,if_true,b]
 rw[Q1m]
 have d:(Kd.cutA s++[91]).getLast?=some 91:=by simp
 rw[d]
 simp only[show brk 91=true from rfl,if_true]
 congr 1
 simp
theorem X0p {s:Q8}:(plain (base s).1||W9 (base s).1)=true→Ey s=(base s).1:=by
 have key: ∀(n:Nat) (s:Q8),s.length≤n→(plain (base s).1||W9 (base s).1)=true→Ey s=(base s).1:=by
  intro n
  induction n with
  | zero=>
   intro s h a
   have:s=[]:=List.eq_nil_of_length_eq_zero (by omega)
   subst this;rfl
  | succ n e=>
   intro s h a
   by_cases c:L6 s=true
   ·have d:base s=((base (Kd.cutA s)).1,(base (Kd.cutA s)).2+1):=by rw[Ju s,c];simp
    rw[d] at a⊢
    rw[X1B c]
    exact e _ (by have:=Ql c;omega) a
   ·have d:base s=(s,0):=by rw[Ju s,eq_false_of_ne_true c];simp
    rw[d] at a⊢
    obtain ⟨b,f,g⟩:=X09 (Nb a)
    rw[Q1m,f]
    simp[X0V g]
 exact key _ s (Nat.le_refl _)
instance z_asciiSet:TZ P T.a4 256 256 (.agg (Array.replicate 256 (.bool false))):=⟨by kernel_rfl⟩
theorem Q7M (h: ∀w',Below w.heap.size w w'→K (.tuple #[.agg (Lib.setCells [91,93]), .bool true]) w'):Q0 P F.cg [S [91,93]] w K:=by
 refine Vt (fn:=Tryz.f88) Tryz.func88 (by kernel_rfl) (by kernel_rfl) (Calls.mono (Tryz.strings_makeASCIISet (fun w=>Qm z_asciiSet w) ⟨[91,93].toArray⟩ w (by decide) (by
  intro j b a
  have:b∈[(91:UInt8),93]:=List.mem_of_getElem? a
  simp at this;rcases this with rfl | rfl<;>decide)) ?_)
 rintro e w' ⟨rfl,rfl⟩
 exact h _ ((Below.refl _ _).alloc (Nat.le_refl _) _)
theorem Q37 {q:Addr} {b:UInt8} (c:X4 w σ) (a:Z2 σ q (Lib.setCells [91,93]).toList) (h:K (.bool (brk b)) w):Q0 P F.aA [.pointer (some q), .int .u8 b.toNat] w K:=Nn (by
 unfold Qt
 rw[H7]
 have d:=b.toNat_lt
 rw[X11 (by omega) (by omega)]
 refine ld c a ?_ h
 have:=Lib.setCells_at [91,93] b
 rw[←Array.getElem?_toList] at this
 simpa [brk] using this)
theorem Q2y {q:Addr} {s:Q8} (n:X4 w σ) (m:s.length≤Y9) (j:Z2 σ q (Lib.setCells [91,93]).toList) (h:K (S (Ey s)) w):Q0 P F.am [S s, .pointer (some q)] w K:=Ss (by
 unfold Jo
 refine W2 ?_
 refine Uc (fun x w'=>w'=w∧ ∃u:Q8,x=S u∧u.length≤Y9∧Ey u=Ey s) (fun x _=>(sOf x).length) ⟨rfl,s,rfl,m,rfl⟩ ?_
 rintro _ d _ ⟨rfl,u,rfl,f,e⟩
 have g:sOf (S u)=u:=by simp[sOf]
 simp only[g]
 refine Sm X8 ?_
 refine Nf ?_
 refine Q5 (fun hh=>?_) (fun hh=>?_)
 ·have k:0<u.length:=by simpa using hh
  have o:u.length≤9223372036854775807:=Nat.le_trans f (by decide)
  refine Sm X8 ?_
  refine Rc ⟨by omega,by omega⟩ ?_
  have i:((u.length:Int)-1).toNat=u.length-1:=by omega
  rw[Xl X8 (by omega) (by omega)]
  simp only[i]
  have b:u.getLast?=some (u[u.length-1]'(by omega)):=by rw[List.getLast?_eq_getElem?,List.getElem?_eq_getElem]
  have a:=Q1m u
  rw[b] at a
  simp only at a
  refine Q37 n j ?_
  cases c:brk (u[u.length-1]'(by omega)) with
  | true=>
   rw[c] at a
   simp only[↓M1,M1,Mb,reduceIte]
   rw[G1 (by omega) (by omega),T8 X8 (by omega) (by omega)]
   simp only[i]
   refine ⟨⟨trivial,_,rfl,by rw[List.length_take];omega,?_⟩,?_⟩
   ·rw[←e,a];simp
   ·have:sOf (S (u.take (u.length-1)))=u.take (u.length-1):=by simp[sOf]
    simp only[this,List.length_take];omega
  | false=>
   rw[c] at a
   simp only[↓M1,M1,Mb,reduceIte]
   intro _
   rw[←e,a] at h
   simpa using h
 ·have k: ¬0<u.length:=by simpa using hh
  have:u=[]:=List.eq_nil_of_length_eq_zero (by omega)
  subst this
  intro _
  rw[←e] at h
  exact h)
theorem Q7m {s:Q8} (hs:X4 w σ) (hl:s.length≤Y9) (h: ∀w' σ',Stp w σ w' σ'→K (S (Ey s)) w'):Q0 P F.bK [S s,S [91,93]] w K:=Ty (by
 unfold Nr
 by_cases hs0:s=[]
 ·subst hs0
  (repeat' (first | (with_reducible intro _) | (with_reducible refine W2 ?_) | (simp only[↓M2,M2,Mb,reduceIte]) | (with_reducible first | refine ld aS aL aR ?_ | refine Y0 aS aL aR ?_ | refine Z1 aS aL aR ?_ | refine X0 aL ?_ | refine V6 aR ?_ | refine Z0 aS ?_ | refine L5 aS aL ?_ | refine U1 aS aR ?_ | refine Y6 aS aR aR (Rep.one (by assumption)) ?_ | refine U8 aS aR aR aR ?_ | (refine Z6 (fun hh=>?_) (fun hh=>?_)<;>(try simp only[hh,Bool.not_true,Bool.not_false,↓M2,M2,Mb,reduceIte])) | (refine Q5 (fun hh=>?_) (fun hh=>?_)<;>(try simp only[hh,Bool.not_true,Bool.not_false,↓M2,M2,Mb,reduceIte])))))
  all_goals first | exact h _ _ (by (repeat (first | exact Stp.refl (by (first | assumption | exact Stp.sat (by assumption) | exact Hst.sat (by assumption))) | assumption | refine Stp.trans ?_ (by first | assumption | exact Hst.stp (by assumption))))) | (exfalso;simp_all)
 have d1:decide (s=[])=false:=decide_eq_false hs0
 simp only[d1,show decide (([91,93]:Q8)=[])=false from rfl,show decide ((([91,93]:Q8).length:Int)=1)=false from rfl,↓M1,M1,Mb,reduceIte]
 refine Q7M (L1 hs fun w1 σ1 hk1=>?_)
 simp only[↓M1,M1,Mb,reduceIte]
 have hsz:(Lib.setCells [91,93]).toList.length=256:=by rw[Array.length_toList];exact Lib.setCells_size _
 have hone: ∀u∈(Lib.setCells [91,93]).toList,u.oneCell'=true:=by
  have:=Lib.setCells_one [91,93]
  rw[Array.all_eq_true'] at this
  intro u hu;exact this u (by simpa using hu)
 have htr: ∀{w:World} {σ:Q4} {K:Value→World→Prop} {q:Addr},X4 w σ→Z2 σ q (Lib.setCells [91,93]).toList→K (S (Ey s)) w→Q0 P F.am [S s, .pointer (some q)] w K:=fun hs hq h=>Q2y hs hl hq h
 have hta:Lib.setCells [91,93]=(Lib.setCells [91,93]).toList.toArray:=Array.toArray_toList.symm
 generalize (Lib.setCells [91,93]).toList=cs at*
 rw[hta]
 refine Y6 hk1.sat (by show (Array.replicate 256 (Value.bool false)).size=256;exact Array.size_replicate) hsz hone fun q w2 σ2 hk2 hq=>?_
 refine htr hk2.sat hq ?_
 exact h _ _ (hk1.trans hk2))
theorem Ro {s:Q8} (hs:X4 w σ) (ht:Tab σ v l) (hl:s.length≤Y9) (h: ∀w' σ',Stp w σ w' σ'→K (.bool (R3 l s)) w'):Q0 P F.r [v,S s] w K:=Al (by
 unfold Nv
 unfold R3 at h
 refine Ni ?_
 refine Q5 (fun hh=>?_) (fun hh=>?_)
 ·have e:decide (s=C3)=true:=hh
  rw[e] at h
  exact h _ _ (Stp.refl hs)
 ·have e:decide (s=C3)=false:=hh
  rw[e] at h
  refine Q7m hs hl fun w1 σ1 hk1=>?_
  refine Yv s (Nat.le_trans hl (by decide)) (L1 hk1.sat fun w2 σ2 hk2=>?_)
  cases hr:right s with
  | false=>
   rw[hr] at h
   (repeat' (first | (with_reducible intro _) | (with_reducible refine W2 ?_) | (simp only[↓M2,M2,Mb,reduceIte]) | (with_reducible first | refine ld aS aL aR ?_ | refine Y0 aS aL aR ?_ | refine Z1 aS aL aR ?_ | refine X0 aL ?_ | refine V6 aR ?_ | refine Z0 aS ?_ | refine L5 aS aL ?_ | refine U1 aS aR ?_ | refine Y6 aS aR aR (Rep.one (by assumption)) ?_ | refine U8 aS aR aR aR ?_ | (refine Z6 (fun hh=>?_) (fun hh=>?_)<;>(try simp only[hh,Bool.not_true,Bool.not_false,↓M2,M2,Mb,reduceIte])) | (refine Q5 (fun hh=>?_) (fun hh=>?_)<;>(try simp only[hh,Bool.not_true,Bool.not_false,↓M2,M2,Mb,reduceIte])))))
   all_goals exact aF
  | true=>
   rw[hr] at h
   have hr2:(plain (base s).1||W9 (base s).1)=true:=by
    simp only[right,Bool.and_eq_true] at hr;exact hr.2
   rw[X0p hr2]
   (repeat' (first | (with_reducible intro _) | (with_reducible refine W2 ?_) | (simp only[↓M2,M2,Mb,reduceIte]) | (with_reducible first | refine ld aS aL aR ?_ | refine Y0 aS aL aR ?_ | refine Z1 aS aL aR ?_ | refine X0 aL ?_ | refine V6 aR ?_ | refine Z0 aS ?_ | refine L5 aS aL ?_ | refine U1 aS aR ?_ | refine Y6 aS aR aR (Rep.one (by assumption)) ?_ | refine U8 aS aR aR aR ?_ | refine Jx _ ?_ | refine Q8J au au ?_ | (refine Z6 (fun hh=>?_) (fun hh=>?_)<;>(try simp only[hh,Bool.not_true,Bool.not_false,↓M2,M2,Mb,reduceIte])) | (refine Q5 (fun hh=>?_) (fun hh=>?_)<;>(try simp only[hh,Bool.not_true,Bool.not_false,↓M2,M2,Mb,reduceIte])))))
   all_goals exact aF)
end Go.Proofs.YtfppjenblllfaaaGreatDoor

namespace Go.Emb
open Go.RowKit Go.Hm
variable {P : Program} {w w0 w1 w' w'' : World} {K : Value → World → Prop} {σ σ0 σ1 σ' : Q4}
theorem Q56 (m:List (List UInt8×Value)) (k n:List UInt8) (v:Value):M9 (Yj m k v) n=if k=n then some v else M9 m n:=by
 induction m with
 | nil=>simp[Yj,M9]
 | cons p r b=>
  simp only[Yj]
  by_cases h:p.1=k
  ·rw[if_pos h]
   simp only[M9]
   by_cases a:k=n
   ·simp[a]
   ·rw[if_neg a,if_neg a,if_neg (by rw[h];exact a)]
  ·rw[if_neg h]
   simp only[M9]
   by_cases a:p.1=n
   ·rw[if_pos a,if_pos a,if_neg (by intro e;exact h (a.trans e.symm))]
   ·rw[if_neg a,if_neg a];exact b
theorem J9.shift {B sz:Nat} {e:TypeId} {v:Value} {xs:List (List UInt8)} (h:J9 B e sz X7 σ w v xs) (m: ∀k,v.ownBlock=some k→σ' k=none):J9 B e sz X7 σ' w v xs:=by
 obtain ⟨a,j,rfl,q,u,c,t⟩:=h
 refine ⟨a,j,rfl,q,u,fun b d=>⟨(c b d).1,(c b d).2.1,(c b d).2.2.1,m _ (by subst d;rfl)⟩,fun p=>?_⟩
 obtain ⟨g,f,i,rfl,o,y,r,n,s⟩:=t p
 exact ⟨g,f,i,rfl,o,m g rfl,r,n,s⟩
theorem Kpt.sat {D:Nat→Prop} (a:X4 w σ) (d:Kpt D w w') (c: ∀k,D k→σ k=none):X4 w' σ:=fun b o e=>by
 rw[d.block b (a.lt e) fun h=>by rw[c b h] at e;cases e];exact a b o e
theorem Nxt.kpt {D a:Nat→Prop} (h:Nxt D w σ w' σ') (b:Kpt a w' w'') (c: ∀k,a k→D k) (d: ∀k,a k→σ' k=none):Nxt D w σ w'' σ':=
 ⟨h.kp.trans (b.mono fun k _ h=>c k h),h.le,h.old,b.sat h.sat d⟩
theorem X4a {t ty:TypeId} {e:TypeId} {by_:Nat} {z:Value} {cs:List Bool} [ts:TS P t e] [tz:TZ P e 1 by_ z] {B:Nat} {y:World} {i σ':Q4} {f u:Value} {xs:List (List UInt8)} {s:List UInt8}
 (C:J9 B e 1 X7 i y f xs) (hB:B≤y.heap.size) (Q:J9 B e 1 X7 i w1 f xs) (p:Nxt (fun k=>f.ownBlock=some k) y i w1 σ') (L:Sl 1 X7 σ' u [s]) (H:(z.cells.size==1&&decide (0<1))=true)
 (j:(xs.length+1)*by_≤140737488355328) (O:xs.length+1≤1000000000000):
 X5 P .append [t,t] ty cs [f,u] w1 (dk (Gx B e 1 X7 i f xs s) (VQa y.heap.size B e 1 X7 i f xs s) w1):=by
 have n: ∀k,f.ownBlock=some k→σ' k=none:=fun k c=>(p.old k (C.mem c).2.1).trans (C.mem c).2.2
 refine Q2U p.sat (Nat.le_trans hB p.kp.size) (Q.shift n) L H (by simpa using j) (by simpa using O) fun M U A N q d=>?_
 have b:J9 B e 1 X7 i U M (xs++[s]):=q.shift fun k c=>by
  have:=(q.mem c).2.2
  cases hh:i k with
  | none=>rfl
  | some o=>rw[p.le.le _ _ hh] at this;cases this
 refine ⟨⟨A.mono fun k _ h=>h.1,fun h=>?_,fun a g E h=>?_⟩,b,?_⟩
 ·rcases d with ⟨a,g,r,m⟩ | ⟨j,_⟩
  ·rw[m] at b;rw[r];exact b.pre rfl
  ·exact h.below j
 ·rcases d with ⟨W,D,r,m⟩ | ⟨j,_⟩
  ·rw[r] at E;injection E with J q2 R
   subst J R
   rw[m] at b;exact b
  ·exact h.below j
 ·rcases d with ⟨a,g,r,m⟩ | ⟨j,V⟩
  ·exact .inl ⟨a,g,r,m⟩
  ·exact .inr ⟨fun k c=>Nat.le_trans p.kp.size (V k c),fun k c=>(C.mem c).2.1⟩
end Go.Emb
namespace Go.Hm
open Go.Kd
def Mg (l:List Cla) (n:Q8):List Cla:=(C7 l n).filterMap (lk l)
theorem Q7D {l:List Cla} (h: ∀c∈l,Qr c) (a:List Q8):weigh l a≤l.length*1000001:=by
 unfold weigh
 induction l with
 | nil=>simp
 | cons c r b=>
  have f:=b fun c d=>h c (by simp[d])
  have g:=(h c (by simp)).1
  simp only[List.map_cons,List.sum_cons,List.length_cons,Nat.add_mul]
  have e:(U2 c).length=c.like.length+1:=rfl
  split<;>omega
end Go.Hm
namespace Go.Proofs.YtfppjenblllfaaaGreatDoor
open Go.Emb Go.RowKit Go.Kd Go.Hm
variable {w : World} {K : Value → World → Prop} {σ : Q4} {v : Value} {l : List Cla}
theorem Q84 {β:Type} {n:Q8} {f:Value} (J:β→Cla→Bool×β) (s0:β) (Q:β→World→Prop) (D:Nat→Prop) (hs:X4 w σ) (ht:Tab σ v l) (hl:l.length≤100000) (bj: ∀c∈l,Qr c) (hn:n.length≤Y9)
 (hD: ∀k,D k→k<w.heap.size∧σ k=none) (an: ∀s w1 w2,Q s w1→(∀k,D k→w2.heap[k]? =w1.heap[k]?)→Q s w2) (h0:Q s0 w)
 (hf: ∀s c cs (w1:World) (σ1:Q4) (K:Value→World→Prop),SLe σ σ1→X4 w1 σ1→(∀k,D k→σ1 k=none)→Q s w1→V4 σ1 c cs→lk l c.name=some c→(∀w',Kpt D w1 w'→Q (J s c).2 w'→K (.bool (J s c).1) w')→Z5 P f [.agg cs.toArray] w1 K)
 (h: ∀w' σ',Nxt D w σ w' σ'→Q (U0 J s0 (Mg l n) 0).2 w'→K (.bool (U0 J s0 (Mg l n) 0).1.isSome) w'):Q0 P F.y [v,S n,f] w K:=Ph (by
 unfold Ng
 refine Xc (R:=X7) (sz:=1) (xs:=[n]) (Stp.refl hs) [S n] rfl rfl (by simp;rfl) rfl ⟨⟨rfl,hn⟩,trivial⟩ fun x0 w1 a6 be _=>?_
 refine Q0a a6.sat fun r w2 hr Y cb=>?_
 have cj:=J9.of_acc (be.up Y)
 have bs:=a6.trans Y
 have bp:w.heap.size≤r:=Nat.le_trans a6.bel.size hr
 have bz: ∀b,weigh l b≤100001000000:=fun b=>by
  have:=Q7D bj b
  have h2:l.length*1000001≤100000*1000001:=Nat.mul_le_mul_right _ hl
  omega
 refine Kn (fun d x w1=> ∃(C b:List Q8) (s:β) (σ1:Q4) (m:List (Q8×Value)),d=C.length+weigh l b∧d≤1+weigh l []∧Nxt D w σ w1 σ1∧J9 w.heap.size T.a 1 X7 σ1 w1 x C∧H4 σ1 w1 r m∧(∀k,(M9 m k).isSome=decide (k∈b))∧x.ownBlock≠some r∧Q s w1∧
  C7 l n=Uo (lk l) d C b∧(∃i,U0 J s0 (Mg l n) 0=U0 J s (((C7 l n).drop b.length).filterMap (lk l)) i)) (1+weigh l []) ?_ ?_
 ·refine ⟨[n],[],s0,σ,[],by simp,Nat.le_refl _,Nxt.of_stp bs,cj,cb,by simp[M9],?_,an _ _ _ h0 fun k o=>bs.bel.block k (hD k o).1,rfl,0,by simp[Mg]⟩
  intro e
  have:=be.mem r e
  omega
 rintro ax d x dd w3 ⟨C,b,s,σ3,m,hd,dm,A,ay,X,O,cg,a1,hv,i,y⟩ bl
 have cu:=bz []
 have aw:=A.sat
 obtain ⟨a7,B⟩:=Q1w (lk l) d C b
 rw[←hv] at B
 have ae:(C7 l n).drop b.length=a7:=by rw[B];simp
 rw[ae] at y
 refine Vq ay ?_
 refine Nf ?_
 cases Z:C with
 | nil=>
  subst Z
  refine Q5 (fun hh=>absurd (of_decide_eq_true hh) (by simp)) (fun _=>?_)
  have:C7 l n=b:=by rw[hv];cases d<;>rfl
  have hp:a7=[]:=by rw[this] at B;simpa using B
  rw[hp] at y
  rw[y] at h
  exact h _ _ A a1
 | cons t g=>
  subst Z
  refine Q5 (fun _=>?_) (fun hh=>absurd (of_decide_eq_false hh) (by simp))
  simp only[List.length_cons] at hd
  refine Q3M (n:=0) ay (by simp) fun a cs h1 h2 h3=>?_
  obtain ⟨rfl,cn⟩:=h3
  simp only[List.getElem_cons_zero] at h1 cn
  have ac:=h1 0 _ rfl
  rw[add_zero] at ac
  refine T2 ac ?_
  refine X2e ay 1 (by simp) fun x' ab bh=>?_
  simp only[List.drop_succ_cons,List.drop_zero] at ab
  have L:x'.ownBlock≠some r:=by
   rcases bh with e | e<;>rw[e]
   ·exact cg
   ·simp
  rw[Q2B X8 X.2 t]
  have cc:d=(g.length+weigh l b)+1:=by omega
  have p:=hv
  rw[cc] at p
  simp only[Uo] at p
  have skip:(lk l t=none∨t∈b)→C7 l n=Uo (lk l) (g.length+weigh l b) g b:=by
   rintro (e | e)
   ·rw[e] at p;exact p
   ·cases e2:lk l t with
    | none=>rw[e2] at p;exact p
    | some c=>rw[e2] at p;simp only[if_pos e] at p;exact p
  have aa:(lk l t=none∨t∈b)→ax x' w3:=fun b7=>
   bl (g.length+weigh l b) x' w3 (by omega) ⟨g,b,s,σ3,m,rfl,by omega,A,ab,X,O,L,a1,skip b7,i,by rw[ae];exact y⟩
  have a0:=ht.lift A.le
  have U:=O t
  cases bo:M9 m t with
  | some u=>
   rw[bo] at U
   have ai:t∈b:=by simpa using U
   simp only[↓M2,M2,Mb,reduceIte]
   exact aa (.inr ai)
  | none=>
   rw[bo] at U
   have ai:t∉b:=by simpa using U
   simp only[↓M2,M2,Mb,reduceIte]
   cases H:lk l t with
   | none=>
    refine Fk aw a0 H ?_
    simp only[↓M2,M2,Mb,reduceIte]
    exact aa (.inl H)
   | some c=>
    obtain ⟨a5,bn,_⟩:=V2 H
    refine Ea aw a0 H ?_
    simp only[↓M2,M2,Mb,reduceIte]
    refine Hv X8 X t (I 1) fun w4 bm co=>?_
    have af:Kpt (fun k=>k=r) w3 w4:=Kpt.of_upd bm rfl
    have b4:X4 w4 σ3:=af.sat aw fun k o=>by rw[o];exact X.1
    have bb:=ab.kp af fun k o e=>L (e▸o)
    have b8:=an _ _ _ a1 fun k o=>bm.block k (by have:=(hD k o).1;omega)
    have de:r<w3.heap.size:=X.lt
    refine Xe b4 a0 H fun lv fv mv w5 σ5 bd f1 f2 f3 f4 f5 bq=>?_
    refine Y6 bd.sat (by rfl) rfl (Rep.one bq) fun q w6 M W av=>?_
    refine Z1 W.sat av rfl ?_
    have z:=bd.trans W
    have bu: ∀k,D k→k<w4.heap.size:=fun k o=>by
     have h1:=(hD k o).1
     have h2:=A.kp.size
     have h3:=af.size
     omega
    have b5:=an _ _ _ b8 fun k o=>z.bel.block k (bu k o)
    have a4:SLe σ M:=A.le.more ⟨z.le⟩
    have bi: ∀k,D k→M k=none:=fun k o=>by
     rw[z.old k (bu k o),A.old k (hD k o).1];exact (hD k o).2
    refine hf s c _ w6 M _ a4 W.sat bi b5 (RCl_lift bq ⟨W.le⟩) (by rw[a5];exact H) fun w7 al bc=>?_
    have bk:X4 w7 M:=al.sat W.sat bi
    have aj:Nxt D w σ w7 M:=⟨((A.kp.more af fun j e=>by rw[e];exact bp).trans (Kpt.of_below z.bel)).trans al,a4,fun k o=>by
     rw[z.old k (by have:=A.kp.size;have:=af.size;omega)];exact A.old k o,bk⟩
    have ap: ∀k,w.heap.size≤k→ ¬D k:=fun k o e=>by have:=(hD k e).1;omega
    have V:=(bb.up z).kp al fun k o=>ap k ((bb.mem o).1)
    have bv:=(co.up z).kp al (ap r bp)
    have bf: ∀k,(M9 (Yj m t (I 1)) k).isSome=decide (k∈b++[t]):=fun k=>by
     rw[Q56]
     by_cases e:t=k
     ·subst e;simp
     ·rw[if_neg e,O k];simp[Ne.symm e]
    rw[H] at p
    simp only[if_neg ai] at p
    obtain ⟨bg,a3⟩:=Q1w (lk l) (g.length+weigh l b) (g++U2 c) (b++[t])
    have br:a7=t::bg:=by
     have:=B.symm.trans (p.trans a3)
     simpa using this
    rw[br] at y
    simp only[List.filterMap_cons,H,U0] at y
    cases E:(J s c).1 with
    | true=>
     rw[E] at y
     simp only[if_true] at y
     refine J8 ?_
     have:=h w7 M aj
     rw[y] at this
     exact this bc
    | false=>
     rw[E] at y
     simp only[Bool.false_eq_true,if_false] at y
     refine U6 ?_
     have ao:w.heap.size≤w7.heap.size:=aj.kp.size
     have ad: ∀k,x'.ownBlock=some k→M k=none:=fun k o=>(V.mem o).2.2
     have hw:=Pg l b c bn (by rw[a5];exact ai)
     rw[a5] at hw
     have c6:=bz b
     have cm:g.length≤100001000001:=by omega
     have ck:=(bj c bn).1
     have cv:=bv.lt
     refine Q1G (Gx w.heap.size T.a 1 X7 M x' g c.super) (fun w1=>Kpt (fun k=>x'.ownBlock=some k) w7 w1∧X4 w1 M∧J9 w.heap.size T.a 1 X7 M w1 x' g)
      ⟨.of_below (Below.refl _ _).drew,bk.below (Below.refl _ _).drew,V.below (Below.refl _ _).drew⟩ (fun w1 w2 E ht=>⟨E.1.trans ht.1,ht.1.sat E.2.1 ad,ht.2.1 E.2.2⟩) ?_
     refine X2 (.pointer (some (q.add 1))) (fun w E=>by rw[fa];exact ⟨Gx.refl,rfl⟩) ?_
     refine X2 (.pointer (some (q.add 2))) (fun w E=>by rw[fa];exact ⟨Gx.refl,rfl⟩) ?_
     refine X2 (S c.super) (fun t w E e=>by rw[e];exact ld E.2.1 av rfl ⟨Gx.refl,rfl⟩) ?_
     refine L3 (fun u w1=> ∃σ',Nxt (fun k=>x'.ownBlock=some k) w7 M w1 σ'∧Sl 1 X7 σ' u [c.super]) (fun u w1 w2 e ht=>by obtain ⟨σ',h1,h2⟩:=e;exact ⟨σ',h1.kpt ht.1 (fun _ o=>o) (fun k o=>(h1.old k (V.mem o).2.1).trans (ad k o)),h2⟩) (fun t w1 E e=>?_) ?_
     ·rw[e]
      refine O7 (R:=X7) (sz:=1) E.2.1 [S c.super] [c.super] rfl rfl (by simp;rfl) rfl ⟨⟨rfl,f5⟩,trivial⟩ fun u w2 σ2 Y hu=>?_
      have b6:Nxt (fun k=>x'.ownBlock=some k) w7 M w1 M:=⟨E.1,SLe.refl _,fun _ _=>rfl,E.2.1⟩
      exact ⟨Gx.below Y.bel,σ2,b6.trans (Nxt.of_stp Y),hu⟩
     refine L3 (VQa w7.heap.size w.heap.size T.a 1 X7 M x' g c.super) (fun _ _ _ h1 ht=>h1.stable ht) (fun u w1 E e=>?_) ?_
     ·obtain ⟨σ',h1,h2⟩:=e
      exact X4a V ao E.2.2 h1 h2 rfl (by omega) (by omega)
     refine X2 lv (fun t w E e=>by rw[e];exact ld E.2.1 av rfl ⟨Gx.refl,rfl⟩) ?_
     rintro c0 dn dl dg cd c5 w8 N _ _ _ _ ⟨ce,b0⟩ rfl
     have a2:cd.ownBlock≠some r:=by
      rcases b0 with ⟨a,ca,e1,e2⟩ | ⟨e1,_⟩
      ·rw[e2];rw[e1] at L;cases a<;>exact L
      ·intro e;have:=e1 r e;omega
     refine Q2U N.2.1 (Nat.le_trans ao N.1.size) ce (f1.up W) rfl (by rw[List.length_append,List.length_cons,List.length_nil];omega) (by rw[List.length_append,List.length_cons,List.length_nil];omega) fun bx w9 az cr b3 bw=>?_
     have ch:bx.ownBlock≠some r:=by
      rcases bw with ⟨a,ca,e1,e2⟩ | ⟨_,e1⟩
      ·rw[e2];rw[e1] at a2;cases a<;>exact a2
      ·intro e;have:=e1 r e;have:=N.1.size;omega
     have b9:Nxt D w σ w9 M:=⟨(aj.kp.more N.1 fun j e=>(V.mem e).1).more az fun j e=>e.2.1,a4,aj.old,cr⟩
     have cq:=(bv.kp N.1 L).kp az fun e=>a2 e.1
     have ci:=an _ w7 w9 bc fun k o=>by
      have h1:=(hD k o).1
      rw[az.block k (by have:=N.1.size;omega) fun e=>by have:=e.2.1;omega,N.1.block k (by omega) fun e=>by have:=(V.mem e).1;omega]
     have c9:(g++U2 c).length=g.length+1+c.like.length:=by simp[U2];omega
     have cx:(U2 c).length=c.like.length+1:=rfl
     have aq:Uo (lk l) (g.length+weigh l b) (g++U2 c) (b++[t])=Uo (lk l) ((g++U2 c).length+weigh l (b++[t])) (g++U2 c) (b++[t]):=by
      have:=X1r l ((g++U2 c).length+weigh l (b++[t])) (g++U2 c) (b++[t]) (Nat.le_refl _) (g.length+weigh l b-((g++U2 c).length+weigh l (b++[t])))
      rw[←this];congr 1;omega
     refine bl ((g++U2 c).length+weigh l (b++[t])) bx w9 (by omega) ⟨g++U2 c,b++[t],(J s c).2,M,_,rfl,by omega,b9,?_,cq,bf,ch,ci,p.trans aq,i+1,?_⟩
     ·have:g++U2 c=(g++[c.super])++c.like:=by simp[U2]
      rw[this];exact b3
     ·rw[y,B,br];simp)
end Go.Proofs.YtfppjenblllfaaaGreatDoor

namespace Go.Emb
open Go.RowKit Go.Hm
theorem Nxt.stp {w w':World} {σ a:Q4} (h:Nxt (fun _=>False) w σ w' a):Stp w σ w' a:=⟨h.kp.below fun _=>id,h.sat,h.le.le,h.old⟩
end Go.Emb
namespace Go.Hm
open Go.Kd Go.Emb
theorem Q4V {α:Type} (p:α→Bool): ∀(xs:List α) (i:Nat),(U0 (fun (_:Unit) x=>(p x,())) () xs i).1.isSome=xs.any p
 | [],_=>rfl
 | x::r,i=>by
  simp only[U0,List.any_cons]
  cases p x with
  | true=>simp
  | false=>simpa using Q4V p r (i+1)
theorem Q70 {l:List Cla} (n b:Q8):((Mg l n).any fun c=>decide (c.name=b))=(C7 l n).contains b:=by
 have key: ∀vs:List Q8,(∀x∈vs,∃c,lk l x=some c)→((vs.filterMap (lk l)).any fun c=>decide (c.name=b))=vs.contains b:=by
  intro vs
  induction vs with
  | nil=>intro _;rfl
  | cons x r d=>
   intro h
   obtain ⟨c,a⟩:=h x (by simp)
   rw[List.filterMap_cons,a]
   simp only[List.any_cons,List.contains_cons]
   rw[d fun y f=>h y (by simp[f]),(V2 a).1]
   congr 1
   rw[Bool.eq_iff_iff,beq_iff_eq,decide_eq_true_eq];exact ⟨Eq.symm,Eq.symm⟩
 exact key _ fun x e=>(Ue.1 e).right
end Go.Hm
namespace Go.Proofs.YtfppjenblllfaaaGreatDoor
open Go.Emb Go.RowKit Go.Kd Go.Hm
variable {w : World} {K : Value → World → Prop} {σ : Q4} {v : Value} {l : List Cla}
theorem Q8x {n:Q8} {f:Value} (p:Cla→Bool) (hs:X4 w σ) (ht:Tab σ v l) (hl:l.length≤100000) (hsm: ∀c∈l,Qr c) (hn:n.length≤Y9)
 (hf: ∀c cs (w1:World) (σ1:Q4) (K:Value→World→Prop),SLe σ σ1→X4 w1 σ1→V4 σ1 c cs→(∀w' σ',Stp w1 σ1 w' σ'→K (.bool (p c)) w')→Z5 P f [.agg cs.toArray] w1 K)
 (h: ∀w' σ',Stp w σ w' σ'→K (.bool ((Mg l n).any p)) w'):Q0 P F.y [v,S n,f] w K:=by
 refine Q84 (fun (_:Unit) c=>(p c,())) () (fun _ _=>True) (fun _=>False) hs ht hl hsm hn (fun _ e=>e.elim) (fun _ _ _ _ _=>trivial) trivial (fun s c cs w1 σ1 K le hs1 _ _ hr _ hK=>hf c cs w1 σ1 K le hs1 hr fun w' σ' hk=>hK w' (.of_below hk.bel) trivial) fun w' σ' hn _=>?_
 rw[Q4V]
 exact h w' σ' hn.stp
theorem X1x {n b:Q8} {q:Addr} (hs:X4 w σ) (ht:Tab σ v l) (ok:Ok l) (hn:n.length≤Y9) (hq:Z2 σ q [S b]) (h: ∀w' σ',Stp w σ w' σ'→K (.bool ((C7 l n).contains b)) w'):
 Q0 P F.y [v,S n, .func (.func F.bE) #[] #[.pointer (some q)]] w K:=by
 refine Q8x (fun c=>decide (c.name=b)) hs ht ok.len ok.sm hn (fun c cs w1 σ1 K le hs1 hr hK=>X9 (Kl ?_)) (by rw[Q70];exact h)
 obtain ⟨lv,fv,mv,rfl,_⟩:=hr
 unfold Ll
 have hq1:=hq.lift le
 refine Z0 hs1 fun a w2 σ2 hk2 ha2=>?_
 (repeat' (first | (with_reducible intro _) | (with_reducible refine W2 ?_) | (simp only[↓M2,M2,Mb,reduceIte]) | (with_reducible first | refine ld aS aL aR ?_ | refine Y0 aS aL aR ?_ | refine Z1 aS aL aR ?_ | refine X0 aL ?_ | refine V6 aR ?_ | refine Z0 aS ?_ | refine L5 aS aL ?_ | refine U1 aS aR ?_ | refine Y6 aS aR aR (Rep.one (by assumption)) ?_ | refine U8 aS aR aR aR ?_ | (refine Z6 (fun hh=>?_) (fun hh=>?_)<;>(try simp only[hh,Bool.not_true,Bool.not_false,↓M2,M2,Mb,reduceIte])) | (refine Q5 (fun hh=>?_) (fun hh=>?_)<;>(try simp only[hh,Bool.not_true,Bool.not_false,↓M2,M2,Mb,reduceIte])))))
 exact hK _ _ hk2
theorem Q5B {a b:Q8} (D:X4 w σ) (r:Tab σ v l) (ok:Ok l) (u:a.length≤Y9) (E:b.length≤Y9) (h: ∀w' H,Stp w σ w' H→K (.bool (O5 l a b)) w'):Q0 P F.af [v,S a,S b] w K:=Q12 (by
 unfold Dx
 unfold O5 at h
 refine U1 D rfl fun q w1 σ1 j z=>?_
 refine Ro j.sat (r.lift ⟨j.le⟩) u fun U M e=>?_
 have i:=j.trans e
 cases C:R3 l a with
 | false=>
  simp only[C,↓M2,M2,Mb,reduceIte,Bool.not_false,Bool.true_or,if_true] at h⊢
  exact h _ _ i
 | true=>
  simp only[C,↓M2,M2,Mb,reduceIte,Bool.not_true,Bool.false_or] at h⊢
  refine Y0 e.sat (z.up e) rfl ?_
  refine Ro e.sat (r.lift ⟨i.le⟩) E fun L O d=>?_
  have c:=i.trans d
  cases y:R3 l b with
  | false=>
   simp only[y,↓M2,M2,Mb,reduceIte,Bool.not_false,if_true] at h⊢
   exact h _ _ c
  | true=>
   simp only[y,↓M2,M2,Mb,reduceIte,Bool.not_true,Bool.false_eq_true,if_false] at h⊢
   have m:=(z.up e).up d
   refine Y0 d.sat m rfl ?_
   refine Ni ?_
   by_cases g:a=b
   ·rw[if_pos g] at h
    simp only[decide_eq_true g,↓M2,M2,Mb,reduceIte]
    exact h _ _ c
   rw[if_neg g] at h
   simp only[decide_eq_false g,↓M2,M2,Mb,reduceIte]
   refine Jx a ?_
   cases B:plain a with
   | true=>
    simp only[B,↓M2,M2,Mb,reduceIte,Bool.true_or,if_true] at h⊢
    exact h _ _ c
   | false=>
    simp only[B,↓M2,M2,Mb,reduceIte,Bool.false_or] at h⊢
    refine Y0 d.sat m rfl ?_
    refine Jx b ?_
    cases A:plain b with
    | true=>
     simp only[A,↓M2,M2,Mb,reduceIte,if_true] at h⊢
     exact h _ _ c
    | false=>
     simp only[A,↓M2,M2,Mb,reduceIte,Bool.false_eq_true,if_false] at h⊢
     by_cases o:a=C3
     ·rw[if_pos o] at h
      have s:decide (a=[110,117,108,108])=true:=decide_eq_true o
      simp only[s,↓M2,M2,Mb,reduceIte]
      exact h _ _ c
     rw[if_neg o] at h
     have s:decide (a=[110,117,108,108])=false:=decide_eq_false o
     simp only[s,↓M2,M2,Mb,reduceIte]
     refine Q5O a (Nat.le_trans u (by decide)) (L1 d.sat fun N J f=>?_)
     have k:=c.trans f
     have n:=m.up f
     refine I5 ?_
     by_cases p:elem a=[]
     ·rw[if_neg (by simpa using p)] at h
      simp only[decide_eq_true p,↓M2,M2,Mb,reduceIte]
      exact X1x f.sat (r.lift ⟨k.le⟩) ok u n fun R Q t=>h _ _ (k.trans t)
     ·rw[if_pos p] at h
      simp only[decide_eq_false p,↓M2,M2,Mb,reduceIte]
      refine Y0 f.sat n rfl ?_
      refine Ni ?_
      exact h _ _ k)
theorem Q9U {a b:Q8} (X:X4 w σ) (p:Tab σ v l) (ok:Ok l) (z:a.length≤Y9) (y:b.length≤Y9) (h: ∀w' J,Stp w σ w' J→K (S (I4 l a b)) w'):Q0 P F.aN [v,S a,S b] w K:=Az (by
 unfold Oq
 unfold I4 at h
 refine Q5B X p ok z y fun w1 σ1 i=>?_
 cases U:O5 l a b with
 | true=>
  simp only[U,↓M2,M2,Mb,reduceIte,if_true] at h⊢
  exact h _ _ i
 | false=>
  simp only[U,↓M2,M2,Mb,reduceIte,Bool.false_eq_true,if_false] at h⊢
  refine Q5B i.sat (p.lift ⟨i.le⟩) ok y z fun w2 σ2 u=>?_
  have o:=i.trans u
  cases L:O5 l b a with
  | true=>
   simp only[L,↓M2,M2,Mb,reduceIte,if_true] at h⊢
   exact h _ _ o
  | false=>
   simp only[L,↓M2,M2,Mb,reduceIte,Bool.false_eq_true,if_false] at h⊢
   refine Ro u.sat (p.lift ⟨o.le⟩) z fun w3 σ3 t=>?_
   have n:=o.trans t
   cases Q:R3 l a with
   | false=>
    simp only[Q,↓M2,M2,Mb,reduceIte,Bool.not_false,Bool.true_or,if_true] at h⊢
    exact h _ _ n
   | true=>
    simp only[Q,↓M2,M2,Mb,reduceIte,Bool.not_true,Bool.false_or] at h⊢
    refine Ro t.sat (p.lift ⟨n.le⟩) y fun w4 V A=>?_
    have k:=n.trans A
    cases O:R3 l b with
    | false=>
     simp only[O,↓M2,M2,Mb,reduceIte,Bool.not_false,Bool.true_or,if_true] at h⊢
     exact h _ _ k
    | true=>
     simp only[O,↓M2,M2,Mb,reduceIte,Bool.not_true,Bool.false_or] at h⊢
     refine Jx a ?_
     cases N:plain a with
     | true=>
      simp only[N,↓M2,M2,Mb,reduceIte,Bool.true_or,if_true] at h⊢
      exact h _ _ k
     | false=>
      simp only[N,↓M2,M2,Mb,reduceIte,Bool.false_or] at h⊢
      refine Jx b ?_
      cases M:plain b with
      | true=>
       simp only[M,↓M2,M2,Mb,reduceIte,if_true] at h⊢
       exact h _ _ k
      | false=>
       simp only[M,↓M2,M2,Mb,reduceIte,Bool.false_eq_true,if_false] at h⊢
       refine Kn (fun d x w'=> ∃(s:Q8) (J:Q4),x=S s∧s.length≤Y9∧Stp w σ w' J∧d=(chain l s).length∧(chain l a).find? (fun c=>O5 l b c.name)=(chain l s).find? fun c=>O5 l b c.name) _ ⟨a,V,rfl,z,k,rfl,rfl⟩ ?_
       rintro H d x dd w5 ⟨s,σ5,rfl,E,f,rfl,e⟩ D
       have m:=p.lift ⟨f.le⟩
       cases q:lk l s with
       | none=>
        refine Fk f.sat m q ?_
        refine U6 ?_
        rw[T6 q] at e
        rw[e] at h
        exact h _ _ f
       | some c=>
        have r:=(V2 q).1
        have g:=K0 ok.acy s
        rw[q] at g
        simp only at g
        rw[g,List.find?_cons,r] at e
        refine Ea f.sat m q ?_
        refine J8 ?_
        refine Q5B f.sat m ok y E fun w6 Z B=>?_
        have j:=f.trans B
        cases R:O5 l b s with
        | true=>
         rw[R] at e
         simp only at e
         refine J8 ?_
         rw[e] at h
         have:=h _ _ j
         simp only[r] at this
         exact this
        | false=>
         rw[R] at e
         simp only at e
         refine U6 ?_
         refine Xe j.sat (p.lift ⟨j.le⟩) q fun lv fv mv w7 Y C f1 f2 f3 f4 W hr=>?_
         refine V6 (v:=S c.super) rfl ?_
         exact D _ _ _ (by rw[g];simp) ⟨c.super,Y,rfl,W,j.trans C,rfl,e⟩)
theorem X3n {c:Cla} {cs:List Value} (hs:X4 w σ) (ht:Tab σ v l) (hl:l.length≤100000) (hsm: ∀c∈l,Qr c) (hc:V4 σ c cs) (h: ∀w' σ',Stp w σ w' σ'→K (.bool (K3 l c)) w'):Q0 P F.bv [v, .agg cs.toArray] w K:=Ig (by
 obtain ⟨lv,fv,mv,rfl,g1,g2,g3,g4,g5⟩:=hc
 unfold Mj
 obtain ⟨a,_,_,_,rfl,_⟩:=ht.ex
 refine U1 hs rfl fun q w1 σ1 hk1 hq=>?_
 refine Z0 hk1.sat fun q2 w2 σ2 hk2 hq2=>?_
 rw[Xh,fa]
 have hS2:=hk1.trans hk2
 have back: ∀{n:Q8} {w3:World} {σ3:Q4} {K:Value→World→Prop},SLe σ2 σ3→X4 w3 σ3→n.length≤Y9→(∀w' σ',Stp w3 σ3 w' σ'→K (.bool ((C7 l n).contains c.name)) w')→
  Z5 P (.func (.func F.bi) #[] #[.pointer (some q), .pointer (some q2)]) [S n] w3 K:=by
  intro n w3 σ3 K le hs3 hn hK
  refine X9 (Fb ?_)
  unfold Vj
  refine Y0 hs3 ((hq.up hk2).lift le) rfl ?_
  rw[Xh]
  have le3:SLe σ σ3:=SLe.more ⟨hS2.le⟩ le
  refine Q8x (fun d=>decide (d.name=c.name)) hs3 (ht.lift le3) hl hsm hn (fun d ds w4 σ4 K le4 hs4 hr hK=>X9 (Sf ?_)) (by rw[Q70];exact hK)
  obtain ⟨lv,fv,mv,rfl,_⟩:=hr
  unfold Jm
  have hq4:=(hq2.lift le).lift le4
  refine Z0 hs4 fun a w5 σ5 hk5 ha5=>?_
  (repeat' (first | (with_reducible intro _) | (with_reducible refine W2 ?_) | (simp only[↓M2,M2,Mb,reduceIte]) | (with_reducible first | refine ld aS aL aR ?_ | refine Y0 aS aL aR ?_ | refine Z1 aS aL aR ?_ | refine X0 aL ?_ | refine V6 aR ?_ | refine Z0 aS ?_ | refine L5 aS aL ?_ | refine U1 aS aR ?_ | refine Y6 aS aR aR (Rep.one (by assumption)) ?_ | refine U8 aS aR aR aR ?_ | (refine Z6 (fun hh=>?_) (fun hh=>?_)<;>(try simp only[hh,Bool.not_true,Bool.not_false,↓M2,M2,Mb,reduceIte])) | (refine Q5 (fun hh=>?_) (fun hh=>?_)<;>(try simp only[hh,Bool.not_true,Bool.not_false,↓M2,M2,Mb,reduceIte])))))
  exact hK _ _ hk5
 refine ld hk2.sat hq2 rfl ?_
 unfold K3 at h
 simp only[U2,List.any_cons] at h
 refine back (SLe.refl _) hk2.sat g5 fun w3 σ3 hk3=>?_
 cases e1:(C7 l c.super).contains c.name with
 | true=>
  rw[e1] at h
  simp only[↓M2,M2,Mb,reduceIte]
  exact h _ _ (hS2.trans hk3)
 | false=>
  rw[e1,Bool.false_or] at h
  simp only[↓M2,M2,Mb,reduceIte]
  refine ld hk3.sat (hq2.up hk3) rfl ?_
  refine I6 (fun n=>(C7 l n).contains c.name) hk3.sat (((g1.up hk1).up hk2).up hk3) (fun x w4 K _ hs4 hx hK=>back ⟨hk3.le⟩ hs4 hx fun w' σ' hk=>hK _ hk.bel) fun w4 hb=>?_
  (try simp only[↓M2,M2,Mb,reduceIte])
  exact h _ _ ((hS2.trans hk3).trans (Stp.of_below hk3.sat hb)))
end Go.Proofs.YtfppjenblllfaaaGreatDoor

namespace Go.Emb
open Go.RowKit Go.Hm
variable {P : Program} {w w0 w1 w' w'' : World} {K : Value → World → Prop} {σ σ0 σ1 σ' : Q4}
theorem Sl.at {α:Type} {R:Q4→α→List Value→Prop} {sz:Nat} {v:Value} {xs:List α} (h:Sl sz R σ v xs) {i:Nat} (d:i<xs.length):
 ∃p cs,Z2 σ p cs∧cs.length=sz∧R σ xs[i] cs∧ ∀{P:Program} {t e:TypeId} {by_:Nat} {z:Value} {w:World} {K:Value→World→Prop} [TS P t e] [TZ P e sz by_ z],K (.pointer (some p)) w→indexAddr P t v (I i) w K:=by
 obtain ⟨a,n,rfl,q,o,c,f⟩:=h
 cases a with
 | none=>have:=c rfl;omega
 | some b=>
  obtain ⟨cs,m,g,j⟩:=(f b rfl).2 i xs[i] (by simp[d])
  refine ⟨_,cs,m,g,j,?_⟩
  intro P t e by_ z w K _ _ k
  rw[Rz (by omega) (by omega)]
  simpa using k
abbrev ints (xs:List Nat):List Int:=xs.map fun n:Nat=>(n:Int)
theorem J1.grow {α:Type} {R:Q4→α→List Value→Prop} [hr:Rep R] {B sz:Nat} {e:TypeId} {v:Value} {xs:List α} (h:J1 B e sz R σ w v xs) (a:SLe σ σ') (c: ∀k,v.ownBlock=some k→σ' k=none):J1 B e sz R σ' w v xs:=by
 obtain ⟨cells,f,g,b⟩:=h
 exact ⟨cells,f,c,fun i x d=>hr.up a.le (b i x d)⟩
end Go.Emb
namespace Go.Proofs.YtfppjenblllfaaaGreatDoor
open Go.Emb Go.RowKit Go.Kd Go.Hm
variable {w : World} {K : Value → World → Prop} {σ : Q4} {v : Value} {l : List Cla}
theorem Q7R {B i:Nat} {xs:List Nat} {x:Value} (o:J9 B T.e 1 Vv σ w x (ints xs)) (h:K (.bool (decide (i∈xs))) w):Q0 P F.aG [x,I i] w K:=Ek (by
 unfold Xq
 have j:xs.length≤9223372036854775807:=by
  obtain ⟨a,t,_,m,q,_⟩:=o
  simp only[maxLen,ints,List.length_map] at q m;omega
 refine Sq ?_
 unfold Jk
 refine Vq o ?_
 have f:(ints xs).length=xs.length:=by simp
 refine U3 xs.length (fun n w'=>w'=w∧i∉xs.take n) ⟨rfl,by simp⟩ fun n w' d u g=>?_
 obtain ⟨rfl,g⟩:=g
 rw[f]
 refine Z3 ?_
 refine Q5 (fun hh=>?_) (fun hh=>?_)
 ·have b:n<xs.length:=by simpa using hh
  refine Q3M o (by rw[f];exact b) fun a cs m q s=>?_
  obtain ⟨rfl,_⟩:=s
  have p:=m 0 _ rfl
  rw[add_zero] at p
  refine T2 p ?_
  simp only[List.getElem_map]
  refine Vo ?_
  refine Q5 (fun c=>?_) (fun c=>?_)
  ·have e:(i:Int)=xs[n]:=by simpa using c
   have:i=xs[n]:=by omega
   have k:decide (i∈xs)=true:=decide_eq_true (by rw[this];exact List.getElem_mem b)
   rw[k] at h
   refine G5 ?_
   rw[decide_eq_true (by omega:(0:Int)≤n)]
   exact h
  ·have e: ¬(i:Int)=xs[n]:=by simpa using c
   refine E5 ?_
   refine Y5 j b ⟨rfl,?_⟩
   rw[List.take_add_one,List.getElem?_eq_getElem b]
   simp only[Option.toList_some,List.mem_append,List.mem_singleton,not_or]
   exact ⟨g,fun r=>e (by rw[r])⟩
 ·have b: ¬n<xs.length:=by simpa using hh
  rw[List.take_of_length_le (by omega)] at g
  rw[decide_eq_false g] at h
  refine G5 ?_
  exact h)
theorem X4x {w0:World} {σ0 σb:Q4} {pf pt pw:Addr} {A frm:Nat} (ha:Zf l) (ho:K7 l) (hl:l.length≤100000) (bq: ∀c∈l,Qr c) (hf:0<frm) (ht:Tab σb v l) (aq:Z2 σb pf [I frm]) (b1:Z2 σb pt [v])
 (bs:Z2 σb pw [.func (.func F.a0) #[] #[.pointer (some pf), .pointer (some ⟨A,0,none⟩), .pointer (some pt), .pointer (some pw)]]) (bv:w0.heap.size≤A):
 ∀(k:Nat) {i:Nat} {out:List Nat} {x:Value} {w1:World} {σ1:Q4} {K:Value→World→Prop},i<l.length→(i<frm∨I7 l (Y3 l i)<k)→SLe σb σ1→Stp w0 σ0 w1 σ1→Z7 σ1 w1 A [x]→J1 w0.heap.size T.e 1 Vv σ1 w1 x (ints out)→x.ownBlock≠some A→Few l out→
  (∀w2 σ2 x',SLe σ1 σ2→Stp w0 σ0 w2 σ2→Z7 σ2 w2 A [x']→J1 w0.heap.size T.e 1 Vv σ2 w2 x' (ints (Xf l frm out i))→x'.ownBlock≠some A→K (.tuple #[]) w2)→
  Z5 P (.func (.func F.a0) #[] #[.pointer (some pf), .pointer (some ⟨A,0,none⟩), .pointer (some pt), .pointer (some pw)]) [I i] w1 K:=by
 obtain ⟨a,lv,r,m,rfl,t1,t2,t3,t4⟩:=ht.ex
 intro k
 induction k with
 | zero=>
  intro i out x w1 σ1 K hi hk N X hm o hx Y h
  have y:i<frm:=hk.resolve_right (by omega)
  refine X9 (Vl ?_)
  unfold Qk
  refine Y0 X.sat (aq.lift N) rfl ?_
  refine Z3 ?_
  rw[decide_eq_true (by omega:(i:Int)<frm)]
  simp only[↓M2,M2,Mb,reduceIte]
  have:Xf l frm out i=out:=Yh _ _ y
  rw[this] at h
  exact h _ _ _ (SLe.refl _) X hm o hx
 | succ k ih=>
  intro i out x w1 σ1 K hi hk N X hm o hx Y h
  refine X9 (Vl ?_)
  unfold Qk
  refine Y0 X.sat (aq.lift N) rfl ?_
  refine Z3 ?_
  have z:=Q89 ha ho hf out hi
  by_cases y:i<frm
  ·rw[decide_eq_true (by omega:(i:Int)<frm)]
   simp only[↓M2,M2,Mb,reduceIte]
   rw[if_pos y] at z
   rw[z] at h
   exact h _ _ _ (SLe.refl _) X hm o hx
  rw[if_neg y] at z
  rw[decide_eq_false (by omega: ¬(i:Int)<frm)]
  simp only[↓M2,M2,Mb,reduceIte]
  refine X1N hm rfl ?_
  refine Q7R (J9.of_acc o) ?_
  by_cases W:i∈out
  ·rw[if_pos W] at z
   rw[z] at h
   simp only[decide_eq_true W,↓M2,M2,Mb,reduceIte]
   exact h _ _ _ (SLe.refl _) X hm o hx
  rw[if_neg W] at z
  simp only[decide_eq_false W,↓M2,M2,Mb,reduceIte]
  have df:I7 l (Y3 l i)<k+1:=hk.resolve_left y
  have t1:=t1.lift N
  have t2:=t2.lift N
  have t3:=t3.lift N
  have M:=b1.lift N
  obtain ⟨p,cs,a9,dg,br,a1⟩:=t2.at hi
  obtain ⟨b0,fv,mv,rfl,f1,f2,f3,f4,f5⟩:=br
  have a6:l.getD i Cla.zero=l[i]:=by rw[List.getD_eq_getElem?_getD,List.getElem?_eq_getElem hi];rfl
  have de:=hm.lt
  refine V0 X.sat ?_
  refine X2 (.pointer (some a)) (fun w b=>Y0 b.sat M rfl (X6 rfl)) ?_
  refine X2 (.pointer (some a)) (fun t w b e=>by rw[e,H7];exact X6 rfl) ?_
  refine X2 (.pointer (some (a.add 0))) (fun t w b e=>by rw[e,fa];exact X6 rfl) ?_
  refine X2 lv (fun t w b e=>by rw[e];exact ld b.sat t1 rfl (X6 rfl)) ?_
  refine X2 (.pointer (some p)) (fun t w b e=>by rw[e];exact a1 (X6 rfl)) ?_
  refine X2 (.pointer (some (p.add 1))) (fun t w b e=>by rw[e,fa];exact X6 rfl) ?_
  refine X2 (S l[i].super) (fun t w b e=>by rw[e];exact ld b.sat a9 rfl (X6 rfl)) ?_
  refine L3 (fun u w=>X4 w σ1∧J1 w0.heap.size T.a 1 X7 σ1 w u [l[i].super]∧ ∀k,u.ownBlock=some k→w1.heap.size≤k) (fun u w2 w3 h b=>⟨h.1.below b,h.2.1.up (Stp.of_below h.1 b),h.2.2⟩) (fun t w b e=>?_) ?_
  ·rw[e]
   refine Xc (R:=X7) (sz:=1) (xs:=[l[i].super]) (X.trans b.stp) [S l[i].super] rfl rfl (by simp;rfl) rfl ⟨⟨rfl,f5⟩,trivial⟩ fun u w2 ar hu bi=>?_
   exact ⟨ar.bel,ar.sat,hu,fun k hk=>Nat.le_trans b.stp.bel.size (bi k hk)⟩
  refine X2 (.pointer (some a)) (fun w b=>Y0 b.sat M rfl (X6 rfl)) ?_
  refine X2 (.pointer (some a)) (fun t w b e=>by rw[e,H7];exact X6 rfl) ?_
  refine X2 (.pointer (some (a.add 0))) (fun t w b e=>by rw[e,fa];exact X6 rfl) ?_
  refine X2 lv (fun t w b e=>by rw[e];exact ld b.sat t1 rfl (X6 rfl)) ?_
  refine X2 (.pointer (some p)) (fun t w b e=>by rw[e];exact a1 (X6 rfl)) ?_
  refine X2 (.pointer (some (p.add 2))) (fun t w b e=>by rw[e,fa];exact X6 rfl) ?_
  refine X2 b0 (fun t w b e=>by rw[e];exact ld b.sat a9 rfl (X6 rfl)) ?_
  rintro cy cm cj cu c0 di cn co cp c2 c8 cx ck dh c7 w2 V _ _ _ _ _ _ _ ⟨c9,bj,H⟩ _ _ _ _ _ _ bh
  subst bh
  have b2:=X.trans V.stp
  have b6:=(bq _ (List.getElem_mem hi)).1
  have a4: ∀j,x.ownBlock=some j→j<w1.heap.size:=fun j C=>(o.mem j C).2.1
  have bn:=hm.step V.stp
  have aj:=o.step V.stp
  refine Hu b2 bj f1 rfl (by simp only[List.length_cons,List.length_nil];omega) (by simp only[List.length_cons,List.length_nil];omega) fun a2 w3 a3 b8 b4 a7=>?_
  have aa: ∀j,a2.ownBlock=some j→w1.heap.size≤j:=fun j C=>by
   rcases a7 with e | e
   ·exact H j (e▸C)
   ·exact Nat.le_trans V.stp.bel.size (e j C)
  have ap:=bn.nx a3 fun e=>by have:=H _ e;omega
  have E:=aj.nx a3 fun j C e=>by have:=H _ e;have:=a4 j C;omega
  obtain ⟨σ4,bm,U,aw,Z⟩:=b4.keep b8
  have U:Sl 1 X7 σ4 a2 (U2 l[i]):=U
  have b9:Z7 σ4 w3 A [x]:=⟨(Z A fun e=>by have:=aa A e.symm;omega).trans ap.1,ap.2⟩
  have ac:J1 w0.heap.size T.e 1 Vv σ4 w3 x (ints out):=E.grow ⟨aw⟩ fun j C=>(Z j fun e=>by have:=aa j e.symm;have:=a4 j C;omega).trans (E.mem j C).2.2
  have a5:SLe σ1 σ4:=⟨aw⟩
  refine X0 U ?_
  refine U3 (U2 l[i]).length (fun n w'=> ∃σ' x',SLe σ4 σ'∧Stp w0 σ0 w' σ'∧Z7 σ' w' A [x']∧J1 w0.heap.size T.e 1 Vv σ' w' x' (ints (((U2 l[i]).take n).foldl (fun out u=>Xf l frm out ((Y7 l u).getD 0)) out))∧x'.ownBlock≠some A∧Few l (((U2 l[i]).take n).foldl (fun out u=>Xf l frm out ((Y7 l u).getD 0)) out))
   ⟨σ4,x,SLe.refl _,bm,b9,ac,hx,Y⟩ fun n w5 d hn az=>?_
  obtain ⟨σ5,x5,ag,O,Q,B,af,f⟩:=az
  refine Z3 ?_
  have s:=a5.more ag
  refine Q5 (fun hh=>?_) (fun hh=>?_)
  ·have L:n<(U2 l[i]).length:=by simpa using hh
   refine Zp (U.lift ag) L fun q hq dm=>?_
   refine Y0 O.sat hq rfl ?_
   have e1:((U2 l[i]).take (n+1)).foldl (fun out u=>Xf l frm out ((Y7 l u).getD 0)) out=Xf l frm (((U2 l[i]).take n).foldl (fun out u=>Xf l frm out ((Y7 l u).getD 0)) out) ((Y7 l (U2 l[i])[n]).getD 0):=by
    rw[List.take_add_one,List.getElem?_eq_getElem L,List.foldl_append];rfl
   refine V0 O.sat ?_
   refine X2 _ (fun w b=>Y0 b.sat (bs.lift (N.more s)) rfl (X6 rfl)) ?_
   refine X2 (.pointer (some a)) (fun w b=>Y0 b.sat (M.lift s) rfl (X6 rfl)) ?_
   refine X2 (.pointer (some a)) (fun t w b e=>by rw[e,H7];exact X6 rfl) ?_
   refine X2 (.pointer (some (a.add 1))) (fun t w b e=>by rw[e,fa];exact X6 rfl) ?_
   refine X2 (.map (some r)) (fun t w b e=>by rw[e];exact ld b.sat (t1.lift s) rfl (X6 rfl)) ?_
   refine X2 (I ((Y7 l (U2 l[i])[n]).getD 0:Nat)) (fun t w b e=>by
    rw[e,Q50 X8 ((t3.lift s).is b.sat) _,t4]
    cases Y7 l (U2 l[i])[n]<;>exact X6 rfl) ?_
   rintro dc c4 c6 dd db cl w6 ad rfl _ _ _ _ rfl
   have cq:l.length≤9223372036854775807:=by omega
   refine ih ?_ ?_ (N.more s) (O.trans ad.stp) (Q.step ad.stp) (B.step ad.stp) af f fun w7 σ7 x7 b3 bz b7 ah bg=>?_
   ·cases C:Y7 l (U2 l[i])[n] with
    | none=>simp only[Option.getD_none];omega
    | some j=>exact (C8 C).1
   ·cases C:Y7 l (U2 l[i])[n] with
    | none=>exact .inl hf
    | some j=>
     right
     have:=Q1o ha ho hi (u:=(U2 l[i])[n]) (by rw[a6];exact List.getElem_mem L) C
     simp only[Option.getD_some];omega
   ·refine E5 ?_
    refine Y5 (by have:(U2 l[i]).length=l[i].like.length+1:=rfl;omega) L ⟨σ7,x7,ag.more b3,bz,b7,?_,bg,?_⟩
    ·rw[e1];exact ah
    ·rw[e1]
     cases C:Y7 l (U2 l[i])[n] with
     | none=>simp only[Option.getD_none];rw[show Xf l frm _ 0=_ from Yh _ _ hf];exact f
     | some j=>exact Iz ha ho hf _ _ _ (C8 C).1 f
  ·have L: ¬n<(U2 l[i]).length:=by simpa using hh
   rw[List.take_of_length_le (by omega)] at B f
   rw[a6] at z
   refine X1N Q rfl ?_
   have dn:=f.len
   refine Vd (x:=(i:Int)) O B ⟨rfl,by omega,by omega⟩ rfl rfl rfl (by rw[List.length_map];omega) (by rw[List.length_map];omega) fun u x8 w8 σ8 a0 bl J bc=>?_
   have ba:=Q.nx a0 af
   have ax:x8.ownBlock≠some A:=fun e=>by
    rcases bc with e2 | e2
    ·exact af (e2▸e)
    ·have:=e2 A e;have:=Q.lt;omega
   have a8:x8.cells= #[x8]∧x8.oneCell'=true:=by
    obtain ⟨cells,h1,_⟩:=J
    rcases h1.2 with ⟨rfl,_⟩ | ⟨g,cw,c1,rfl,_⟩<;>exact ⟨rfl,rfl⟩
   refine st0 ba (by simp) a8.1 a8.2 fun w9 bb cb=>?_
   have bu:=bb.stp bl bv ba.1
   have ak:J1 w0.heap.size T.e 1 Vv σ8 w9 x8 (ints (Xf l frm out i)):=by
    rw[z]
    have:=J.kp (Kpt.of_upd (D:=fun k=>k=A) bb rfl) fun k hk e=>ax (e▸hk)
    simpa [ints] using this
   exact h w9 σ8 x8 (s.more a0.le) bu cb ak ax
theorem X2D {frm:Nat} (hs:X4 w σ) (ht:Tab σ v l) (ha:Zf l) (ho:K7 l) (hl:l.length≤100000) (aj: ∀c∈l,Qr c) (hf:0<frm) (ap:frm≤l.length) (h: ∀v' w' σ',Stp w σ w' σ'→Sl 1 Vv σ' v' (ints (V5 l frm))→(V5 l frm).length≤l.length→(∀y∈V5 l frm,y<l.length)→K v' w'):Q0 P F.bw [v,I frm] w K:=Kk (by
 unfold Nd
 have ah:=ht
 obtain ⟨a,lv,r,m,rfl,t1,t2,t3,t4⟩:=ht.ex
 refine U1 hs rfl fun pt w1 σ1 q ac=>?_
 refine U1 q.sat rfl fun pf w2 σ2 j ae=>?_
 refine P3 j.sat fun B w3 σ3 am k L=>?_
 refine P3 k.sat fun bw w4 σ4 aa p R=>?_
 rw[Xh]
 have V:=L.step p
 have a0:=L.lt
 have O:=((q.trans j).trans k).trans p
 have M:w.heap.size≤B:=Jh am (q.trans j)
 have z:w.heap.size≤bw:=Jh aa ((q.trans j).trans k)
 refine st0 R (by simp[Value.cells]) rfl rfl fun w5 H Z=>?_
 have W:=H.stp O z R.1
 have A:=V.upd H (by omega)
 obtain ⟨E,U,N,n,J⟩:=Z.keep W z
 have X:Z7 E w5 B [.slice none 0 0]:=⟨(J B (by omega)).trans A.1,A.2⟩
 have n:SLe σ4 E:=⟨n⟩
 have u:=((ae.up k).up p).lift n
 have t:=(((ac.up j).up k).up p).lift n
 have e:SLe σ E:=SLe.more ⟨O.le⟩ n
 have t1:=t1.lift e
 have t2:=t2.lift e
 refine Y0 U.sat u rfl ?_
 have bb:(List.range l.length).length=l.length:=List.length_range
 have hz:([Value.nilFunc].set 0 (Value.func (Fn.func F.a0) #[] #[.pointer (some pf), .pointer (some ⟨B,0,none⟩), .pointer (some pt), .pointer (some ⟨bw,0,none⟩)]))=[Value.func (Fn.func F.a0) #[] #[.pointer (some pf), .pointer (some ⟨B,0,none⟩), .pointer (some pt), .pointer (some ⟨bw,0,none⟩)]]:=rfl
 refine Kn (fun d x w'=> ∃(i:Nat) (σ':Q4) (x':Value),x=I i∧frm≤i∧i≤l.length∧d=l.length-i∧SLe E σ'∧Stp w σ w' σ'∧Z7 σ' w' B [x']∧J1 w.heap.size T.e 1 Vv σ' w' x' (ints (((List.range i).drop frm).foldl (fun out i=>Xf l frm out i) []))∧x'.ownBlock≠some B∧Few l (((List.range i).drop frm).foldl (fun out i=>Xf l frm out i) [])) _
  ⟨frm,E, .slice none 0 0,rfl,Nat.le_refl _,ap,rfl,SLe.refl _,U,X,by rw[List.drop_eq_nil_of_le (by simp)];exact J1.nil,by simp[Value.ownBlock],by rw[List.drop_eq_nil_of_le (by simp)];exact ⟨by simp,by simp⟩⟩ ?_
 rintro aq d x dd w7 ⟨i,σ7,x7,rfl,a5,ba,rfl,f,o,Q,g,Y,b⟩ ao
 refine Y0 o.sat (t.lift f) rfl ?_
 rw[H7,fa]
 refine ld o.sat (t1.lift f) rfl ?_
 refine X0 (t2.lift f) ?_
 refine Z3 ?_
 refine Q5 (fun hh=>?_) (fun hh=>?_)
 ·have s:i<l.length:=by simpa using hh
  refine Y0 o.sat (N.lift f) rfl ?_
  refine X4x (w0:=w) (σ0:=σ) (σb:=E) ha ho hl aj hf (ah.lift e) u t N M (I7 l (Y3 l i)+1) s (.inr (Nat.lt_succ_self _)) f o Q g Y b fun w8 σ8 x8 ai D al C an=>?_
  refine Gh ⟨by omega,by omega⟩ ?_
  have e1:((List.range (i+1)).drop frm).foldl (fun out i=>Xf l frm out i) []=Xf l frm (((List.range i).drop frm).foldl (fun out i=>Xf l frm out i) []) i:=by
   rw[List.range_succ,List.drop_append_of_le_length (by simp;omega),List.foldl_append];rfl
  refine ao _ _ _ (by omega:l.length-(i+1)<l.length-i) ⟨i+1,σ8,x8,by simp,by omega,by omega,rfl,f.more ai,D,al,?_,an,?_⟩
  ·rw[e1];exact C
  ·rw[e1];exact Iz ha ho hf _ _ _ s b
 ·have s:i=l.length:=by
   have: ¬i<l.length:=by simpa using hh
   omega
  subst s
  refine X1N Q rfl ?_
  obtain ⟨σ8,D,ab,_,_⟩:=g.keep o
  exact h _ _ _ D ab b.len b.2)
end Go.Proofs.YtfppjenblllfaaaGreatDoor

namespace Go.Hm
open Go.Kd
theorem Q7g (x:Q8) (r:List Q8):D0 (x::r)=x++Lib.joinTail [44] r:=by
 induction r generalizing x with
 | nil=>simp[D0,Lib.joinTail]
 | cons y r a=>
  simp only[D0]
  rw[a y]
  simp[Lib.joinTail]
theorem Q2a (xs:List Q8):Lib.join xs [44]=D0 xs:=by
 cases xs with
 | nil=>rfl
 | cons x r=>rw[Lib.join_cons,Q7g]
theorem Hp: ∀xs:List Q8,(∀x∈xs,x.length≤100)→(D0 xs).length≤xs.length*101
 | [],_=>by simp[D0]
 | [a],h=>by have:=h a (by simp);simp[D0];omega
 | a::b::r,h=>by
  have d:=h a (by simp)
  have e:=Hp (b::r) fun x c=>h x (by simp[c])
  simp only[D0,List.length_append,List.length_cons,List.length_nil,Nat.add_mul] at*
  omega
def NmM (m:Hm.Met):Prop:=m.result.length≤100∧ ∀p∈m.params,p.length≤100
end Go.Hm
namespace Go.Proofs.YtfppjenblllfaaaGreatDoor
open Go.Emb Go.RowKit Go.Kd Go.Hm
variable {w : World} {K : Value → World → Prop} {σ : Q4} {v : Value} {l : List Cla}
theorem X2J {xs:List Q8} {pv:Value} (J:X4 w σ) (E:Sl 1 X7 σ pv xs) (B:xs.length≤1000000) (H: ∀x∈xs,x.length≤100) (h: ∀w',Below w.heap.size w w'→K (S (D0 xs)) w'):Q0 P F.cR [pv,S [44]] w K:=by
 obtain ⟨a,k,rfl,N,U,A,C⟩:=E
 have p:=Hp xs H
 have z:xs.length*101≤1000000*101:=Nat.mul_le_mul_right _ B
 cases a with
 | none=>
  have Q:=A rfl
  have d:xs=[]:=List.eq_nil_of_length_eq_zero (by omega)
  subst d
  refine Vt (fn:=Tryz.f165) Tryz.func165 (by kernel_rfl) (by kernel_rfl) (Calls.mono (Tryz.strings_Join_none none k ⟨[44].toArray⟩ w) ?_)
  rintro e w' ⟨rfl,rfl⟩
  exact h _ (Below.refl _ _)
 | some b=>
  obtain ⟨f,q⟩:=C b rfl
  by_cases d:xs=[]
  ·subst d
   refine Vt (fn:=Tryz.f165) Tryz.func165 (by kernel_rfl) (by kernel_rfl) (Calls.mono (Tryz.strings_Join_none (some b) k ⟨[44].toArray⟩ w) ?_)
   rintro e w' ⟨rfl,rfl⟩
   exact h _ (Below.refl _ _)
  have f:=f (List.length_pos_iff.2 d)
  obtain ⟨m,o,O⟩:=b
  simp only at f
  subst f
  have c: ∀(j:Nat) (x:ByteArray),(xs.map fun s=>(⟨s.toArray⟩:ByteArray))[j]? =some x→w.cell? ⟨m,o+j,none⟩=some (.string x):=by
   intro j x n
   rw[List.getElem?_map] at n
   cases g:xs[j]? with
   | none=>rw[g] at n;cases n
   | some s=>
    rw[g] at n
    cases n
    obtain ⟨cs,M,R,D⟩:=q j s g
    obtain ⟨rfl,_⟩:=D
    have:=M.cell J (i:=0) (v:=S s) rfl
    rw[add_zero] at this
    have e:(⟨m,o,none⟩:Addr).add (j*1)=⟨m,o+j,none⟩:=by unfold Addr.add;split<;>simp_all
    rw[e] at this;exact this
  have t:m<w.heap.size:=by
   obtain ⟨x,r,rfl⟩: ∃x r,xs=x::r:=by cases xs with | nil=>exact absurd rfl d | cons x r=>exact ⟨x,r,rfl⟩
   have:=c 0 ⟨x.toArray⟩ (by simp)
   exact World.block_lt_of_cell? _ _ this
  have u:(xs.map fun s=>(⟨s.toArray⟩:ByteArray)).map (·.data.toList)=xs:=by rw[List.map_map];simp[Function.comp_def]
  have y:=Tryz.strings_Join m o k (xs.map fun s=>(⟨s.toArray⟩:ByteArray)) ⟨[44].toArray⟩ w c t (by rw[List.length_map];omega) (by rw[List.length_map];exact N) (by rw[u];show (Lib.join xs [44]).length≤_;rw[Q2a];omega)
  rw[u,List.length_map] at y
  refine Vt (fn:=Tryz.f165) Tryz.func165 (by kernel_rfl) (by kernel_rfl) (Calls.mono y ?_)
  rintro e w' ⟨rfl,L⟩
  have:=h w' L
  rw[←Q2a] at this
  exact this
theorem X0M {m:Hm.Met} {cs:List Value} (p:X4 w σ) (o:M3 σ m cs) (d:SmM m) (f:NmM m) (h: ∀w' r,Stp w σ w' r→K (S (Qo m)) w'):Q0 P F.ch [.agg cs.toArray] w K:=Q6R (by
 obtain ⟨pv,O,C,rfl,q,D,E,s,A,M⟩:=o
 unfold Q0l
 refine Z0 p fun a w1 σ1 c k=>?_
 have n:=Hp m.params f.2
 have j:m.params.length*101≤1000000*101:=Nat.mul_le_mul_right _ d.1
 refine V0 c.sat ?_
 refine X2 (.pointer (some (a.add 1))) (fun w b=>by rw[fa];exact X6 rfl) ?_
 refine X2 (.pointer (some (a.add 2))) (fun w b=>by rw[fa];exact X6 rfl) ?_
 refine X2 pv (fun t w b e=>by rw[e];exact ld b.sat k rfl (X6 rfl)) ?_
 refine X2 (S (D0 m.params)) (fun t w b e=>by rw[e];exact X2J b.sat (q.up c) d.1 f.2 fun w' g=>Q32 g rfl) ?_
 refine X2 (S ([40]++D0 m.params)) (fun t w b e=>by rw[e];exact Dn (by simp only[List.length_cons,List.length_nil];omega) (X6 rfl)) ?_
 refine X2 (S ([40]++D0 m.params++[41])) (fun t w b e=>by rw[e];exact Dn (by simp only[List.length_append,List.length_cons,List.length_nil];omega) (X6 rfl)) ?_
 refine X2 (S m.result) (fun t w b e=>by rw[e];exact ld b.sat k rfl (X6 rfl)) ?_
 rintro L z B H y u J N i _ _ _ _ _ rfl rfl
 have:=f.1
 refine Dn (by simp only[List.length_append,List.length_cons,List.length_nil];omega) ?_
 exact h _ _ (c.trans i.stp))
end Go.Proofs.YtfppjenblllfaaaGreatDoor

namespace Go.Emb
open Go.RowKit Go.Hm
variable {P : Program} {w w0 w1 w' w'' : World} {K : Value → World → Prop} {σ σ0 σ1 σ' : Q4}
theorem Pt {α:Type} (f:α→α) (e:α): ∀l:List α,(l++[e]).modify l.length f=l++[f e]
 | []=>rfl
 | x::r=>by simp[Pt f e r]
theorem Q0L (k:List UInt8) (e:MapEntry) (a:e.key=S k): ∀(es:List MapEntry) (i:Nat),Instr.findNow .string (S k) es i=some none→Instr.findNow .string (S k) (es++[e]) i=some (some (i+es.length,e.val))
 | [],i,_=>by
  simp[Instr.findNow,a,Instr.sameNow,Cu]
 | x::r,i,h=>by
  simp only[Instr.findNow,List.cons_append] at h⊢
  split at h
  ·cases h
  ·rename_i b
   rw[Q0L k e a r (i+1) h]
   simp;omega
  ·cases h
theorem Q23 (k:List UInt8) (u:Value): ∀(es:List MapEntry) (i j:Nat) (v:Value),Instr.findNow .string (S k) es i=some (some (j,v))→i≤j∧j-i<es.length∧Instr.findNow .string (S k) (es.modify (j-i) fun e=>{e with val:=u}) i=some (some (j,u))
 | [],i,j,v,h=>by simp[Instr.findNow] at h
 | x::r,i,j,v,h=>by
  simp only[Instr.findNow] at h
  split at h
  ·rename_i a
   cases h
   refine ⟨Nat.le_refl _,by simp,?_⟩
   simp only[Nat.sub_self,List.modify_zero_cons,Instr.findNow,a]
  ·rename_i a
   obtain ⟨c,d,b⟩:=Q23 k u r (i+1) j v h
   refine ⟨by omega,by simp;omega,?_⟩
   rw[show j-i=(j-(i+1))+1 by omega]
   simp only[List.modify_succ_cons,Instr.findNow,a]
   exact b
  ·cases h
theorem Us {t l q:TypeId} [tm:TM P t l q] (o:P.underlying l=some .string) {r:Nat} {es:Array MapEntry} {a:Nat} {k:List UInt8} {i:Nat} {v:Value} {e:MapEntry} (n:w.heap[r]? =some (.map es a))
 (p:Instr.findNow .string (S k) es.toList 0=some (some (i,v))) (m:es[i]? =some e) (d:e.key=S k):
 (Instr.mapEntry t (.map (some r)) (S k)).run P w= .ok (.tuple #[v,goInt e.born]) {w with heap:=w.heap.setIfInBounds r (.map es a)}:=by
 have s:(getObj r).run P w= .ok (.map es a) w:=by simp[getObj,Sem.run,n]
 have b:(Instr.keyThatStays (S k) (S k)).run P w= .ok (S k) w:=by
  simp[Instr.keyThatStays,Instr.sameBits,Cu]
 have g:(es.modify i fun e=>{e with key:=S k})=es:=by
  apply Array.ext'
  apply List.ext_getElem?
  intro j
  simp only[Array.toList_modify,List.getElem?_modify]
  by_cases f:i=j
  ·subst f
   rw[Array.getElem?_toList,m]
   simp[←d]
  ·cases es.toList[j]? <;>simp[f]
 have c:(setObj r (.map es a)).run P w= .ok () {w with heap:=w.heap.setIfInBounds r (.map es a)}:=by
  simp[setObj,Sem.run,n]
 simp only[Instr.mapEntry,Sem.run_bind,run_underlying tm.h,Result.andThen_ok,Instr.findKey,run_underlying o,p,F8 o,s,Sem.run_pure]
 simp only[m,Option.map_some,Option.getD_some,d,b,Result.andThen_ok,g,c]
theorem Q2s {r:Nat} {o:Obj} (h:w.heap[r]? =some o):({w with heap:=w.heap.setIfInBounds r o}:World)=w:=by
 have:w.heap.setIfInBounds r o=w.heap:=by
  apply Array.ext'
  apply List.ext_getElem?
  intro j
  simp only[Array.toList_setIfInBounds,List.getElem?_set]
  by_cases a:r=j
  ·subst a
   rw[if_pos rfl]
   have:=h
   rw[←Array.getElem?_toList] at this
   rw[this,if_pos (by have:=(Array.getElem?_eq_some_iff.1 h).1;simpa using this)]
  ·rw[if_neg a]
 rw[this]
theorem Q4j {r:Nat} {o a:Obj} (h:w.heap[r]? =some a):Upd w r {w with heap:=w.heap.setIfInBounds r o}∧({w with heap:=w.heap.setIfInBounds r o}:World).heap[r]? =some o:=by
 have b:=(Array.getElem?_eq_some_iff.1 h).1
 exact ⟨⟨rfl,rfl,rfl,by simp,fun k c=>by simp only[Array.getElem?_setIfInBounds];rw[if_neg (by omega)]⟩,by simp[Array.getElem?_setIfInBounds,b]⟩
structure Ent3 (P : Program) (t : TypeId) (r : Nat) (k : List UInt8) (u : Value) (m : List (List UInt8 × Value)) (O0 O1 O2 : Obj) (stamp : Nat) : Prop where
  same : O0 = O2 → O1 = O0
  put : O6 (some O2) (Yj m k u)
  entry : ∀ {w : World} {K : Value → World → Prop}, (w.heap[r]? = some O0 ∨ w.heap[r]? = some O1 ∨ w.heap[r]? = some O2) → (∀ x w', Upd w r w' → (w.heap[r]? = some O0 → w'.heap[r]? = some O1) → (w.heap[r]? ≠ some O0 → w'.heap[r]? = w.heap[r]?) → K (.tuple #[x, I stamp]) w') → mapEntry P t (.map (some r)) (S k) w K
  store : ∀ {w : World} {K : Value → World → Prop}, (w.heap[r]? = some O1 ∨ w.heap[r]? = some O2) → (∀ w', Upd w r w' → w'.heap[r]? = some O2 → K undef w') → entryStore P t (.map (some r)) (I stamp) u w K
theorem X5j {t kt et:TypeId} {by_:Nat} {z:Value} [tm:TM P t kt et] [tz:TZ P et 1 by_ z] (W:P.underlying kt=some .string) {r:Nat} {m:List (List UInt8×Value)} (hm:O6 (w.heap[r]?) m) (k:List UInt8) (u:Value):
 ∃U O1 O2 s,w.heap[r]? =some U∧Ent3 P t r k u m U O1 O2 s:=by
 obtain ⟨es,g,h1,h2,Y,h4⟩:=hm
 obtain ⟨r',q1,q2,q3,q4⟩:=Bh k es.toList m 0 h2
 -- the array behind it, the place, the stamp
 have O: ∀(f:Array MapEntry) (d i:Nat) (q:MapEntry) (v1:Value),Instr.findNow .string (S k) f.toList 0=some (some (i,v1))→f[i]? =some q→q.key=S k→(f.toList.map (·.born)).Pairwise (· < ·)→
  (Obj.map es g= .map (f.modify i fun e=>{e with val:=u}) d→Obj.map f d=Obj.map es g)→O6 (some (.map (f.modify i fun e=>{e with val:=u}) d)) (Yj m k u)→
  (∀{w:World},w.heap[r]? =some (.map es g)→ ∃x,(Instr.mapEntry t (.map (some r)) (S k)).run P w= .ok (.tuple #[x,I q.born]) {w with heap:=w.heap.setIfInBounds r (.map f d)})→
  ∃U O1 O2 s,w.heap[r]? =some U∧Ent3 P t r k u m U O1 O2 s:=by
  intro f d i q v1 f1 f2 f3 f4 f5 f6 f7
  obtain ⟨_,H,f8⟩:=Q23 k u f.toList 0 i v1 f1
  simp only[Nat.sub_zero] at H f8
  have a4:i<f.size:=by simpa using H
  have f9:(f.modify i fun e=>{e with val:=u})[i]? =some {q with val:=u}:=by
   rw[Array.getElem?_modify,if_pos rfl,f2];rfl
  have al:Instr.findNow .string (S k) (f.modify i fun e=>{e with val:=u}).toList 0=some (some (i,u)):=by
   rw[Array.toList_modify];exact f8
  have L: ∀(l:Array MapEntry),l.toList.map (·.born)=f.toList.map (·.born)→l.findIdx? (fun e=>(e.born:Int)==q.born)=some i:=by
   intro l C
   obtain ⟨X⟩:=l
   have e0:(Array.mk X).findIdx? (fun e=>(e.born:Int)==q.born)=X.findIdx? (fun e=>(e.born:Int)==q.born):=List.findIdx?_toArray ..
   rw[e0,List.findIdx?_eq_some_iff_getElem]
   generalize R:(Array.mk X)=l at*
   have ao:X=l.toList:=by rw[←R]
   subst ao
   have ay:l.toList.length=f.toList.length:=by have:=congrArg List.length C;simpa using this
   have V: ∀j (hj:j<l.toList.length),(l.toList[j]).born=(f.toList[j]'(by omega)).born:=fun j hj=>by
    have h5:(l.toList.map (·.born))[j]? =(f.toList.map (·.born))[j]? :=by rw[C]
    rw[List.getElem?_map,List.getElem?_map,List.getElem?_eq_getElem hj,List.getElem?_eq_getElem (by omega)] at h5
    simpa using h5
   have Q:f.toList[i]=q:=by
    have:=f2
    rw[←Array.getElem?_toList,List.getElem?_eq_getElem H] at this
    simpa using this
   refine ⟨by omega,by rw[V i (by omega),Q];simp,fun j hj=>?_⟩
   have af:j<f.toList.length:=by omega
   have:=(List.pairwise_iff_getElem.1 f4) j i (by simpa using af) (by simpa using H) hj
   simp only[List.getElem_map] at this
   rw[V j (by omega)]
   rw[Q] at this
   simp only[beq_iff_eq];omega
  have E:(f.modify i fun e=>{e with val:=u}).toList.map (·.born)=f.toList.map (·.born):=by
   apply List.ext_getElem?
   intro j
   simp only[Array.toList_modify,List.getElem?_map,List.getElem?_modify]
   by_cases J:i=j<;>cases f.toList[j]? <;>simp[J]
  have aj:(f.modify i fun e=>{e with val:=u}).modify i (fun e=>{e with val:=u})=f.modify i fun e=>{e with val:=u}:=by
   apply Array.ext'
   apply List.ext_getElem?
   intro j
   simp only[Array.toList_modify,List.getElem?_modify]
   by_cases J:i=j<;>cases f.toList[j]? <;>simp[J]
  have A: ∀(l:Array MapEntry) {w:World},l.toList.map (·.born)=f.toList.map (·.born)→w.heap[r]? =some (.map l d)→(Instr.entryStore t (.map (some r)) (I q.born) u).run P w= .ok () {w with heap:=w.heap.setIfInBounds r (.map (l.modify i fun e=>{e with val:=u}) d)}:=by
   intro l w C hw
   have hg:(getObj r).run P w= .ok (.map l d) w:=by simp[getObj,Sem.run,hw]
   have D: ∀o,(setObj r (.map o d)).run P w= .ok () {w with heap:=w.heap.setIfInBounds r (.map o d)}:=by
    intro o;simp[setObj,Sem.run,hw]
   simp only[Instr.entryStore,Sem.run_bind,hg,Result.andThen_ok,asInt,Sem.run_pure,asIntOf,L l C,D]
  refine ⟨.map es g, .map f d, .map (f.modify i fun e=>{e with val:=u}) d,q.born,h1,f5,f6,?_,?_⟩
  ·intro w K hw M
   unfold mapEntry
   rcases hw with hw | hw | hw
   ·obtain ⟨x,hx⟩:=f7 hw
    rw[Y2 hx]
    obtain ⟨u1,u2⟩:=Q4j (o:= .map f d) hw
    exact M x _ u1 (fun _=>u2) fun h=>absurd hw h
   ·have:=Us (P:=P) (t:=t) W hw f1 f2 f3
    rw[Q2s hw] at this
    rw[Y2 this]
    refine M _ w ⟨rfl,rfl,rfl,rfl,fun _ _=>rfl⟩ (fun h0=>?_) fun _=>rfl
    exact hw
   ·have:=Us (P:=P) (t:=t) W hw al f9 f3
    rw[Q2s hw] at this
    rw[Y2 this]
    refine M _ w ⟨rfl,rfl,rfl,rfl,fun _ _=>rfl⟩ (fun h0=>?_) fun _=>rfl
    rw[h0] at hw
    cases hw
    rw[h0,f5 rfl]
  ·intro w K hw M
   unfold entryStore
   rcases hw with hw | hw
   ·rw[Wg (A f rfl hw)]
    obtain ⟨u1,u2⟩:=Q4j (o:= .map (f.modify i fun e=>{e with val:=u}) d) hw
    exact M _ u1 u2
   ·have:=A _ E hw
    rw[aj,Q2s hw] at this
    rw[Wg this]
    exact M _ ⟨rfl,rfl,rfl,rfl,fun _ _=>rfl⟩ hw
 cases r' with
 | none=>
  obtain ⟨i,hi,bg,bi,ah⟩:=tz.info
  have hz: ∀w:World,(zeroValue et).run P w= .ok z w:=fun w=>Qm tz w
  refine O (es.push {key:=S k,val:=z,born:=g}) (g+1) es.size {key:=S k,val:=z,born:=g} z ?_ (by simp) rfl ?_ ?_ ?_ ?_
  ·have:=Q0L k {key:=S k,val:=z,born:=g} rfl es.toList 0 q1
   simpa using this
  ·simp only[Array.toList_push,List.map_append,List.map_cons,List.map_nil]
   rw[List.pairwise_append]
   refine ⟨Y,by simp,?_⟩
   intro a ha b C
   simp at C;subst C
   obtain ⟨e,he,rfl⟩:=List.mem_map.1 ha
   exact h4 e he
  ·intro e
   injection e with q Z
   omega
  ·refine ⟨_,_,rfl,?_,?_,?_⟩
   ·rw[q4 rfl]
    simp only[Array.toList_modify,Array.toList_push]
    rw[←Array.length_toList,Pt]
    simp[h2]
   ·have:((es.push {key:=S k,val:=z,born:=g}).modify es.size fun e=>{e with val:=u}).toList.map (·.born)=es.toList.map (·.born)++[g]:=by
     simp only[Array.toList_modify,Array.toList_push]
     rw[←Array.length_toList,Pt]
     simp
    rw[this,List.pairwise_append]
    refine ⟨Y,by simp,?_⟩
    intro a ha b C
    simp at C;subst C
    obtain ⟨e,he,rfl⟩:=List.mem_map.1 ha
    exact h4 e he
   ·intro e he
    simp only[Array.toList_modify,Array.toList_push] at he
    rw[←Array.length_toList,Pt] at he
    rcases List.mem_append.1 he with he | he
    ·have:=h4 e he;omega
    ·simp at he;subst he;simp
  ·intro w hw
   have hg:(getObj r).run P w= .ok (.map es g) w:=by simp[getObj,Sem.run,hw]
   have D: ∀o c,(setObj r (.map o c)).run P w= .ok () {w with heap:=w.heap.setIfInBounds r (.map o c)}:=by
    intro o c;simp[setObj,Sem.run,hw]
   refine ⟨z,?_⟩
   simp only[Instr.mapEntry,Sem.run_bind,run_underlying tm.h,Result.andThen_ok,Instr.findKey,run_underlying W,q1,F8 W,hg,Sem.run_pure,hz,D]
   rfl
 | some p=>
  obtain ⟨j,v⟩:=p
  obtain ⟨z1,z2,z3⟩:=q3 j v rfl
  obtain ⟨e,q,Z⟩:=z2
  simp only[Nat.sub_zero] at q z3
  have N:es[j]? =some e:=by rw[←Array.getElem?_toList];exact q
  refine O es g j e v q1 N Z Y (fun _=>rfl) ?_ fun hw=>⟨v,Us W hw q1 N Z⟩
  refine ⟨_,_,rfl,?_,?_,?_⟩
  ·have:=z3 u
   rw[←this,Array.toList_modify]
   congr 1
   apply List.ext_getElem?
   intro n
   simp only[List.getElem?_modify]
   by_cases B:j=n
   ·subst B;rw[q];simp[Z]
   ·simp[B]
  ·have:(es.modify j fun e=>{e with val:=u}).toList.map (·.born)=es.toList.map (·.born):=by
    apply List.ext_getElem?
    intro n
    simp only[Array.toList_modify,List.getElem?_map,List.getElem?_modify]
    by_cases B:j=n<;>cases es.toList[n]? <;>simp[B]
   rw[this];exact Y
  ·intro x hx
   have:x.born∈(es.modify j fun e=>{e with val:=u}).toList.map (·.born):=List.mem_map.2 ⟨x,hx,rfl⟩
   have C:(es.modify j fun e=>{e with val:=u}).toList.map (·.born)=es.toList.map (·.born):=by
    apply List.ext_getElem?
    intro n
    simp only[Array.toList_modify,List.getElem?_map,List.getElem?_modify]
    by_cases B:j=n<;>cases es.toList[n]? <;>simp[B]
   rw[C] at this
   obtain ⟨y,hy,e⟩:=List.mem_map.1 this
   rw[←e];exact h4 y hy
end Go.Emb

namespace Go.Hm
open Go.Kd Go.Emb
abbrev R8:=List (Q8×Q8)
def R1:R8→Q8→Option Q8
 | [],_=>none
 | p::r,k=>if p.1=k then some p.2 else R1 r k
def Ri:R8→Q8→Q8→R8
 | [],k,v=>[(k,v)]
 | p::r,k,v=>if p.1=k then (k,v)::r else p::Ri r k v
def I8 (m:R8):List (List UInt8×Value):=m.map fun p=>(p.1,S p.2)
theorem Q9Z (m:R8) (k:Q8):M9 (I8 m) k=(R1 m k).map S:=by
 induction m with
 | nil=>rfl
 | cons p r a=>
  simp only[I8,List.map_cons,M9,R1]
  split
  ·rfl
  ·exact a
theorem Q5M (m:R8) (k v:Q8):Yj (I8 m) k (S v)=I8 (Ri m k v):=by
 induction m with
 | nil=>rfl
 | cons p r a=>
  simp only[I8,List.map_cons,Yj,Ri]
  split
  ·rfl
  ·rw[List.map_cons];congr 1
theorem Q0T (m:R8) (k v n:Q8):R1 (Ri m k v) n=if k=n then some v else R1 m n:=by
 induction m with
 | nil=>simp[Ri,R1]
 | cons p r b=>
  simp only[Ri]
  by_cases h:p.1=k
  ·rw[if_pos h]
   simp only[R1]
   by_cases a:k=n
   ·simp[a]
   ·rw[if_neg a,if_neg a,if_neg (by rw[h];exact a)]
  ·rw[if_neg h]
   simp only[R1]
   by_cases a:p.1=n
   ·rw[if_pos a,if_pos a,if_neg (by intro e;exact h (a.trans e.symm))]
   ·rw[if_neg a,if_neg a];exact b
def Uq (d:Q8) (s:R8×R8) (m:Hm.Met):Bool×(R8×R8):=
 ((match R1 s.1 m.name with | some x=> !decide (x=Qo m) | none=>false),(Ri s.1 m.name (Qo m),Ri s.2 m.name d))
end Go.Hm
namespace Go.Emb
open Go.RowKit Go.Hm
theorem O6.of_below {w w':World} {r:Nat} {m:List (List UInt8×Value)} (h:O6 (w.heap[r]?) m) (c:Below w.heap.size w w'):O6 (w'.heap[r]?) m:=by
 obtain ⟨es,a,b,d⟩:=h
 rw[c.block r (Array.getElem?_eq_some_iff.1 b).1]
 exact ⟨es,a,b,d⟩
theorem Q6M {P:Program} {w:World} {K:Value→World→Prop} {t a b:TypeId} {sz by_:Nat} {z:Value} [tm:TM P t a b] [tz:TZ P b sz by_ z] (d:P.underlying a=some .string) {r:Nat} {m:List (List UInt8×Value)} (c:O6 (w.heap[r]?) m) (k:List UInt8)
 (h:K (.tuple #[(M9 m k).getD z, .bool (M9 m k).isSome]) w):lookup P t (.map (some r)) (S k) true w K:=by
 rw[Q2B d c k];cases e:M9 m k<;>rw[e] at h<;>exact h
theorem O6.lt {w:World} {r:Nat} {m:List (List UInt8×Value)} (h:O6 (w.heap[r]?) m):r<w.heap.size:=by
 obtain ⟨es,a,b,c⟩:=h
 exact (Array.getElem?_eq_some_iff.1 b).1
end Go.Emb
namespace Go.Proofs.YtfppjenblllfaaaGreatDoor
open Go.Emb Go.RowKit Go.Kd Go.Hm
variable {w : World} {K : Value → World → Prop} {σ : Q4} {v : Value} {l : List Cla}
theorem X4L {m:Hm.Met} {cs ds:List Value} {pa pb q:Addr} {b o:Nat} {s:R8×R8} {d:Q8} (hs:X4 w σ) (hm:M3 σ m cs) (Y:SmM m) (hn:NmM m) (X:Z2 σ pa [.map (some b)]) (am:Z2 σ pb [.map (some o)]) (hq:Z2 σ q (S d::ds))
 (ag:σ b=none) (aq:σ o=none) (ac:b≠o) (p:O6 (w.heap[b]?) (I8 s.1)) (A:O6 (w.heap[o]?) (I8 s.2))
 (h: ∀w',Kpt (fun k=>k=b∨k=o) w w'→O6 (w'.heap[b]?) (I8 (Uq d s m).2.1)→O6 (w'.heap[o]?) (I8 (Uq d s m).2.2)→K (.bool (Uq d s m).1) w'):
 Q0 P F.aL [.agg cs.toArray, .pointer (some pa), .pointer (some q), .pointer (some pb)] w K:=Hc (by
 have Q:=hm
 obtain ⟨pv,cv,hv,rfl,g1,g2,g3,g4,g5,g6⟩:=hm
 unfold Yr
 refine Z0 hs fun a w1 σ1 f ha=>?_
 have ak:=p.lt
 have af:=A.lt
 have p:=p.of_below f.bel
 have A:=A.of_below f.bel
 have Z:σ1 b=none:=(f.old b ak).trans ag
 have H:σ1 o=none:=(f.old o af).trans aq
 refine Y0 f.sat (X.up f) rfl ?_
 rw[fa]
 refine ld f.sat ha rfl ?_
 refine Q6M X8 p m.name ?_
 have ar:(.tuple #[(M9 (I8 s.1) m.name).getD (.string ⟨#[]⟩), .bool (M9 (I8 s.1) m.name).isSome]:Value)= .tuple #[S ((R1 s.1 m.name).getD []), .bool (R1 s.1 m.name).isSome]:=by
  rw[Q9Z];cases R1 s.1 m.name<;>rfl
 rw[ar]
 refine Z8 (vs:=[_,_]) rfl ?_
 refine Z8 (vs:=[_,_]) rfl ?_
 obtain ⟨N,O,r,y,ai,E⟩:=X5j (P:=P) (t:=T.t) X8 p m.name (S (Qo m))
 have R:=p.lt
 refine Q1G (fun c i=>Kpt (fun k=>k=b) c i∧(i.heap[b]? =c.heap[b]? ∨(c.heap[b]? =some N∧N≠r∧i.heap[b]? =some O)∨i.heap[b]? =some r))
  (fun c=>Kpt (fun k=>k=b) w1 c∧X4 c σ1∧(c.heap[b]? =some N∨c.heap[b]? =some O∨c.heap[b]? =some r))
  ⟨.of_below (Below.refl _ _).drew,f.sat.below (Below.refl _ _).drew, .inl ai⟩ (fun c i g B=>⟨g.1.trans B.1,B.1.sat g.2.1 (fun k hk=>hk▸Z),by
   rcases B.2 with e | ⟨_,_,e⟩ | e
   ·rw[e];exact g.2.2
   ·exact .inr (.inl e)
   ·exact .inr (.inr e)⟩) ?_
 refine X2 (.pointer (some (a.add 0))) (fun w g=>by rw[fa];exact ⟨⟨Kpt.refl, .inl rfl⟩,rfl⟩) ?_
 refine X2 (.pointer (some (a.add 0))) (fun w g=>by rw[fa];exact ⟨⟨Kpt.refl, .inl rfl⟩,rfl⟩) ?_
 refine X2 (.pointer (some (q.add 0))) (fun w g=>by rw[fa];exact ⟨⟨Kpt.refl, .inl rfl⟩,rfl⟩) ?_
 refine X2 (.map (some b)) (fun w g=>Y0 g.2.1 (X.up f) rfl ⟨⟨Kpt.refl, .inl rfl⟩,rfl⟩) ?_
 refine X2 (S m.name) (fun t w g e=>by rw[e];exact ld g.2.1 ha rfl ⟨⟨Kpt.refl, .inl rfl⟩,rfl⟩) ?_
 refine X2 (.map (some o)) (fun w g=>Y0 g.2.1 (am.up f) rfl ⟨⟨Kpt.refl, .inl rfl⟩,rfl⟩) ?_
 refine X2 (S m.name) (fun t w g e=>by rw[e];exact ld g.2.1 ha rfl ⟨⟨Kpt.refl, .inl rfl⟩,rfl⟩) ?_
 refine X2 (.agg [S m.name,pv,S m.result, .bool m.abs,I m.locals,cv,hv].toArray) (fun w g=>Z1 g.2.1 ha rfl ⟨⟨Kpt.refl, .inl rfl⟩,rfl⟩) ?_
 refine X2 (S (Qo m)) (fun t c g e=>by
  rw[e]
  exact X0M g.2.1 (RMe_lift Q ⟨f.le⟩) Y hn fun i σ3 z=>⟨⟨.of_below z.bel, .inl (z.bel.block b (Nat.lt_of_lt_of_le R g.1.size))⟩,rfl⟩) ?_
 refine X2 (S d) (fun t w g e=>by rw[e];exact ld g.2.1 (hq.up f) rfl ⟨⟨Kpt.refl, .inl rfl⟩,rfl⟩) ?_
 have st: ∀{c i:World},(c.heap[b]? =some O∨c.heap[b]? =some r)→(i.heap[b]? =c.heap[b]? ∨(c.heap[b]? =some N∧N≠r∧i.heap[b]? =some O)∨i.heap[b]? =some r)→(i.heap[b]? =some O∨i.heap[b]? =some r):=by
  intro c i j h2
  rcases h2 with e | ⟨_,_,e⟩ | e
  ·rw[e];exact j
  ·exact .inl e
  ·exact .inr e
 refine L3 (fun u c=>(∃x,u= .tuple #[x,I y])∧(c.heap[b]? =some O∨c.heap[b]? =some r)) (fun u c i j B=>⟨j.1,st j.2 B.2⟩) (fun V ah c g e1 e2=>?_) ?_
 ·rw[e1,e2]
  refine E.entry g.2.2 fun x i n av al=>?_
  by_cases U:c.heap[b]? =some N
  ·have j:=av U
   refine ⟨⟨Kpt.of_upd n rfl,?_⟩,⟨x,rfl⟩, .inl j⟩
   by_cases C:N=r
   ·left;rw[j,U,E.same C]
   ·exact .inr (.inl ⟨U,C,j⟩)
  ·have j:=al U
   refine ⟨⟨Kpt.of_upd n rfl, .inl j⟩,⟨x,rfl⟩,?_⟩
   rw[j];exact g.2.2.resolve_left U
 refine L3 (fun u c=>u=I y∧(c.heap[b]? =some O∨c.heap[b]? =some r)) (fun u c i j B=>⟨j.1,st j.2 B.2⟩) (fun t c g e=>?_) ?_
 ·obtain ⟨⟨x,rfl⟩,j⟩:=e
  exact Z8 (vs:=[_,_]) rfl ⟨⟨Kpt.refl, .inl rfl⟩,rfl,j⟩
 refine L3 (fun _ c=>c.heap[b]? =some r) (fun u c i j B=>?_) (fun V aw ap c g e1 e2 e3=>?_) ?_
 ·rcases B.2 with e | ⟨e,C,_⟩ | e
  ·exact e.trans j
  ·rw[j] at e;cases e;exact absurd rfl C
  ·exact e
 ·rw[e1,e3,e2.1]
  refine E.store e2.2 fun i n h3=>⟨⟨Kpt.of_upd n rfl, .inr (.inr h3)⟩,h3⟩
 rintro be ba a6 V ah a5 bd bg ap a7 a8 aw bh c M _ _ _ _ _ rfl rfl _ _ rfl _ _ ax
 have ao:O6 (c.heap[b]?) (I8 (Ri s.1 m.name (Qo m))):=by
  rw[ax,←Q5M];exact E.put
 have aj:O6 (c.heap[o]?) (I8 s.2):=by
  rw[M.1.block o A.lt fun e=>ac e.symm];exact A
 refine Hv X8 ⟨H,aj⟩ m.name (S d) fun i n ae=>?_
 have aa:O6 (i.heap[o]?) (I8 (Ri s.2 m.name d)):=by rw[←Q5M];exact ae.2
 have J:O6 (i.heap[b]?) (I8 (Ri s.1 m.name (Qo m))):=by rw[n.block b ac];exact ao
 have z:Kpt (fun k=>k=b∨k=o) w i:=((Kpt.of_below f.bel).trans (M.1.mono fun k _ h=> .inl h)).trans (Kpt.of_upd n (.inr rfl))
 have W:X4 i σ1:=(Kpt.of_upd (D:=fun k=>k=o) n rfl).sat M.2.1 fun k hk=>hk▸H
 unfold Uq at h
 cases ho:R1 s.1 m.name with
 | none=>
  rw[ho] at h
  simp only[Option.isSome_none,↓M2,M2,Mb,reduceIte]
  exact h i z J aa
 | some x=>
  rw[ho] at h
  simp only[Option.isSome_some,Option.getD_some,↓M2,M2,Mb,reduceIte]
  refine Z1 W ha rfl ?_
  refine X0M W (RMe_lift Q ⟨f.le⟩) Y hn fun w4 σ4 L=>?_
  simp only[↓M2,M2,Mb,reduceIte]
  exact h w4 (z.trans (Kpt.of_below L.bel)) (J.of_below L.bel) (aa.of_below L.bel))
end Go.Proofs.YtfppjenblllfaaaGreatDoor

namespace Go.Hm
open Go.Kd Go.Emb
def Sc (s:R8×R8) (c:Cla):Bool×(R8×R8):=((U0 (Uq c.name) s c.methods 0).1.isSome,(U0 (Uq c.name) s c.methods 0).2)
def Rb (a:List Hm.Met):Prop:= ∃x∈a,∃y∈a,x.name=y.name∧Qo x≠Qo y
theorem Q55 (a:List Hm.Met):Nc a=true↔Rb a:=by
 simp[Nc,Rb]
structure Gd (pre : List Hm.Met) (s : R8 × R8) : Prop where
  a : ∀ m ∈ pre, R1 s.1 m.name = some (Qo m)
  b : ∀ k x, R1 s.1 k = some x → ∃ m ∈ pre, m.name = k ∧ Qo m = x
  c : ∀ k, (R1 s.2 k).isSome = true ↔ ∃ m ∈ pre, m.name = k
theorem Gd.no {b:List Hm.Met} {s:R8×R8} (h:Gd b s): ¬Rb b:=by
 rintro ⟨x,f,y,g,e,d⟩
 have c:=h.a x f
 have i:=h.a y g
 rw[e,i] at c
 exact d (Option.some.inj c).symm
theorem Gd.step {i:List Hm.Met} {s:R8×R8} (h:Gd i s) (d:Q8) (m:Hm.Met):((Uq d s m).1=true→Rb (i++[m]))∧((Uq d s m).1=false→Gd (i++[m]) (Uq d s m).2):=by
 unfold Uq
 constructor
 ·intro j
  cases o:R1 s.1 m.name with
  | none=>rw[o] at j;cases j
  | some x=>
   rw[o] at j
   obtain ⟨y,hy,f,p⟩:=h.b _ _ o
   exact ⟨y,by simp[hy],m,by simp,f,by rw[p];simpa using j⟩
 ·intro j
  have g: ∀x,R1 s.1 m.name=some x→x=Qo m:=fun x n=>by rw[n] at j;simpa using j
  refine ⟨fun y hy=>?_,fun k x n=>?_,fun k=>?_⟩
  ·simp only[Q0T]
   rcases List.mem_append.1 hy with hy | hy
   ·have:=h.a y hy
    by_cases e:m.name=y.name
    ·rw[if_pos e];congr 1;exact (g _ (by rw[e];exact this)).symm
    ·rw[if_neg e];exact this
   ·simp at hy;subst hy;simp
  ·simp only[Q0T] at n
   by_cases e:m.name=k
   ·rw[if_pos e] at n;cases n;exact ⟨m,by simp,e,rfl⟩
   ·rw[if_neg e] at n
    obtain ⟨y,hy,f⟩:=h.b _ _ n
    exact ⟨y,by simp[hy],f⟩
  ·simp only[Q0T]
   by_cases e:m.name=k
   ·rw[if_pos e];exact ⟨fun _=>⟨m,by simp,e⟩,fun _=>rfl⟩
   ·rw[if_neg e,h.c k]
    constructor
    ·rintro ⟨y,hy,f⟩;exact ⟨y,by simp[hy],f⟩
    ·rintro ⟨y,hy,f⟩
     rcases List.mem_append.1 hy with hy | hy
     ·exact ⟨y,hy,f⟩
     ·simp at hy;subst hy;exact absurd f e
theorem Rb.mono {a b:List Hm.Met} (h:Rb a) (c: ∀x∈a,x∈b):Rb b:=by
 obtain ⟨x,d,y,f,e⟩:=h
 exact ⟨x,c x d,y,c y f,e⟩
theorem Q2Y (d:Q8): ∀(b a:List Hm.Met) (s:R8×R8) (i:Nat),Gd a s→((U0 (Uq d) s b i).1.isSome=true→Rb (a++b))∧((U0 (Uq d) s b i).1.isSome=false→Gd (a++b) (U0 (Uq d) s b i).2)
 | [],a,s,i,h=>by simpa [U0] using h
 | m::r,a,s,i,h=>by
  obtain ⟨g,j⟩:=h.step d m
  simp only[U0]
  cases c:(Uq d s m).1 with
  | true=>
   simp only[if_true,Option.isSome_some]
   exact ⟨fun _=>(g c).mono fun x f=>by simp at f⊢;rcases f with h | h<;>simp[h],fun e=>by cases e⟩
  | false=>
   simp only[Bool.false_eq_true,if_false]
   have:=Q2Y d r (a++[m]) (Uq d s m).2 (i+1) (j c)
   rw[show a++m::r=(a++[m])++r by simp]
   exact this
theorem Q3D: ∀(cs:List Cla) (a:List Hm.Met) (s:R8×R8) (i:Nat),Gd a s→((U0 Sc s cs i).1.isSome=true→Rb (a++cs.flatMap (·.methods)))∧((U0 Sc s cs i).1.isSome=false→Gd (a++cs.flatMap (·.methods)) (U0 Sc s cs i).2)
 | [],a,s,i,h=>by simpa [U0] using h
 | c::r,a,s,i,h=>by
  obtain ⟨d,f⟩:=Q2Y c.name c.methods a s 0 h
  simp only[U0]
  cases b:(Sc s c).1 with
  | true=>
   simp only[if_true,Option.isSome_some]
   exact ⟨fun _=>(d b).mono (by simp;intro x hx;rcases hx with hx | hx;exact .inl hx;exact .inr (.inl hx)),fun e=>by cases e⟩
  | false=>
   simp only[Bool.false_eq_true,if_false]
   have:=Q3D r (a++c.methods) (Sc s c).2 (i+1) (f b)
   rw[List.flatMap_cons,←List.append_assoc]
   exact this
theorem X3R:Gd [] ([],[]):=⟨by simp,by simp[R1],by simp[R1]⟩
theorem Q8P (l:List Cla) (n:Q8):Wi l n=(Mg l n).flatMap (·.methods):=by
 unfold Wi Mg
 induction C7 l n with
 | nil=>rfl
 | cons u r a=>
  rw[List.flatMap_cons,List.filterMap_cons]
  cases b:lk l u with
  | none=>simpa [b] using a
  | some c=>simp only[Option.map_some,Option.getD_some,List.flatMap_cons];rw[a]
end Go.Hm
namespace Go.Emb
open Go.RowKit Go.Hm
variable {P : Program} {w w0 w1 w' w'' : World} {K : Value → World → Prop} {σ σ0 σ1 σ' : Q4}
def It (σ:Q4) (w:World) (b r:Nat) (es:Array MapEntry) (a:Nat) (c:Array Nat):Prop:=σ b=none∧ ∃d,a≤d∧w.heap[b]? =some (.mapIter (some r) a c d)
theorem It.step {b r:Nat} {es:Array MapEntry} {a:Nat} {c:Array Nat} (h:It σ w b r es a c) (k:Stp w σ w' σ'):It σ' w' b r es a c:=by
 obtain ⟨g,f,i,d⟩:=h
 have e:=(Array.getElem?_eq_some_iff.1 d).1
 exact ⟨(k.old b e).trans g,f,i,(k.bel.block b e).trans d⟩
theorem X4I {t e g:TypeId} [tm:TM P t e g] {r:Nat} {es:Array MapEntry} {a:Nat} (c:X4 w σ) (d:w.heap[r]? =some (.map es a))
 (h: ∀b w' σ',w.heap.size≤b→Stp w σ w' σ'→It σ' w' b r es a #[]→K (.pointer (some ⟨b,0,none⟩)) w'):rng P t (.map (some r)) w K:=by
 unfold rng
 have f:(getObj r).run P w= .ok (.map es a) w:=by simp[getObj,Sem.run,d]
 rw[Y2 (v:= .pointer (some ⟨w.heap.size,0,none⟩)) (w':=w.alloc (.mapIter (some r) a #[] a)) (by
  simp only[Instr.range,Sem.run_bind,run_underlying tm.h,Result.andThen_ok,f,Sem.run_pure]
  simp)]
 exact h _ _ _ (Nat.le_refl _) (Stp.own c _) ⟨c.none (Nat.le_refl _),a,Nat.le_refl _,heap_alloc_new w _⟩
theorem X51 {t:TypeId} {b r:Nat} {es:Array MapEntry} {clock:Nat} {seen:Array Nat} (hi:It σ w b r es clock seen) (hm:w.heap[r]? =some (.map es clock)) (hold: ∀x∈es.toList,x.born<clock)
 (h0:(∀e∈es.toList,e.born∈seen)→K (.tuple #[.bool false]) w)
 (h1: ∀e w',e∈es.toList→e.born∉seen→Kpt (fun k=>k=b) w w'→It σ w' b r es clock (seen.push e.born)→w'.heap[b]? =some (.mapIter (some r) clock (seen.push e.born) clock)→K (.tuple #[.bool true,e.key,e.val]) w'):J6 P (.pointer (some ⟨b,0,none⟩)) false t w K:=by
 obtain ⟨hb,c0,hc,hh⟩:=hi
 unfold J6
 rcases run_next_at (P:=P) w t b r clock c0 seen es clock hh hm hold hc with ⟨hz,hrun⟩ | ⟨e,he,w1,hw1,hrun⟩
 ·rw[Y2 hrun]
  refine h0 fun e he=>Classical.byContradiction fun hn=>?_
  have:e∈(leftOf es seen).toList:=by
   unfold leftOf
   simp only[Array.toList_filter,List.mem_filter]
   exact ⟨he,by simpa using hn⟩
  have hl:(leftOf es seen).toList.length=0:=by simpa using hz
  rw[List.eq_nil_of_length_eq_zero hl] at this
  cases this
 ·rw[Y2 hrun]
  have he':e∈es.toList∧e.born∉seen:=by
   unfold leftOf at he
   simp only[Array.toList_filter,List.mem_filter] at he
   exact ⟨he.1,by simpa using he.2⟩
  have hh1:w1.heap[b]? =some (.mapIter (some r) clock seen c0):=by rcases hw1 with rfl | rfl<;>exact hh
  obtain ⟨u1,u2⟩:=Q4j (w:=w1) (o:= .mapIter (some r) clock (seen.push e.born) clock) hh1
  refine h1 e _ he'.1 he'.2 ?_ ⟨hb,clock,Nat.le_refl _,u2⟩ u2
  have k1:Kpt (fun k=>k=b) w w1:=by
   rcases hw1 with rfl | rfl
   ·exact Kpt.refl
   ·exact .of_below (Below.refl _ _).drew
  exact k1.trans (Kpt.of_upd u1 rfl)
theorem X47 {b r:Nat} {es:Array MapEntry} {a:Nat} {c:Array Nat} {e:MapEntry} (hh:w.heap[b]? =some (.mapIter (some r) a (c.push e.born) a)) (d:w.heap[r]? =some (.map es a)) (f:e∈es.toList) (g:(es.toList.map (·.born)).Nodup)
 (h:K (.tuple #[e.key,e.val]) w):Q8Y P (.pointer (some ⟨b,0,none⟩)) w K:=by
 unfold Q8Y
 rw[Y2 (run_entry_at w b r a c es a e hh d f g)]
 exact h
end Go.Emb
namespace Go.Proofs.YtfppjenblllfaaaGreatDoor
open Go.Emb Go.RowKit Go.Kd Go.Hm
variable {w : World} {K : Value → World → Prop} {σ : Q4} {v : Value} {l : List Cla}
theorem Jt (o:Option Nat):decide ((0:Int)≤L2 o)=o.isSome:=by
 cases o with
 | none=>rfl
 | some i=>simp[L2]
theorem Q3N {q:Addr} {s:Q8} (c:X4 w σ) (d:Tab σ v l) (f:Z2 σ q [v]) (g:s.length≤Y9) (h: ∀w' σ',Stp w σ w' σ'→K (.bool (E9 l s)) w'):Z5 P (.func (.func F.an) #[] #[.pointer (some q)]) [S s] w K:=X9 (Rt (by
 unfold Zu
 unfold E9 at h
 refine I5 ?_
 by_cases a:s=C3
 ·have e:decide (s=[110,117,108,108])=true:=decide_eq_true a
  simp only[e,decide_eq_true a,↓M2,M2,Mb,reduceIte] at h⊢
  exact h _ _ (Stp.refl c)
 ·have e:decide (s=[110,117,108,108])=false:=decide_eq_false a
  simp only[e,decide_eq_false a,↓M2,M2,Mb,reduceIte] at h⊢
  refine Y0 c f rfl ?_
  refine Ro c d g fun w1 σ1 b=>?_
  (try simp only[↓M2,M2,Mb,reduceIte])
  exact h _ _ b))
theorem Q8L {q p:Addr} {s:Q8} (b:X4 w σ) (d:Tab σ v l) (e:Z2 σ q [v]) (c:Z2 σ p [.func (.func F.an) #[] #[.pointer (some q)]]) (f:s.length≤Y9) (h: ∀w' σ',Stp w σ w' σ'→K (.bool (!E9 l s)) w'):Z5 P (.func (.func F.ao) #[] #[.pointer (some p)]) [S s] w K:=X9 (Se (by
 unfold Jc
 refine Y0 b c rfl ?_
 refine Q3N b d e f fun w1 σ1 a=>?_
 refine Lm ?_
 exact h _ _ a))
theorem Q7G {c:Cla} {cs:List Value} {pa C:Addr} {e b:Nat} {s:R8×R8} (Q:X4 w σ) (M:V4 σ c cs) (y:Qr c) (N:Nm c) (u:Z2 σ pa [.map (some e)]) (A:Z2 σ C [.map (some b)])
 (r:σ e=none) (t:σ b=none) (B:e≠b) (o:O6 (w.heap[e]?) (I8 s.1)) (i:O6 (w.heap[b]?) (I8 s.2))
 (h: ∀w',Kpt (fun k=>k=e∨k=b) w w'→O6 (w'.heap[e]?) (I8 (Sc s c).2.1)∧O6 (w'.heap[b]?) (I8 (Sc s c).2.2)→K (.bool (Sc s c).1) w'):
 Z5 P (.func (.func F.b0) #[] #[.pointer (some pa), .pointer (some C)]) [.agg cs.toArray] w K:=X9 (Sx (by
 obtain ⟨lv,fv,mv,rfl,g1,g2,O,Y,Z⟩:=M
 unfold Jj
 refine Z0 Q fun q w1 σ1 a D=>?_
 rw[fa]
 refine ld a.sat D rfl ?_
 rw[Xh]
 have z:=o.lt
 have p:=i.lt
 have m:σ1 e=none:=(a.old e z).trans r
 have j:σ1 b=none:=(a.old b p).trans t
 refine Zm (Uq c.name) s (fun s w'=>X4 w' σ1∧O6 (w'.heap[e]?) (I8 s.1)∧O6 (w'.heap[b]?) (I8 s.2)) (fun k=>k=e∨k=b) (fun _ _ h=>h.1) ⟨a.sat,o.of_below a.bel,i.of_below a.bel⟩ (O.up a)
  (fun s x cs H K E f g X J U=>X9 ?_) fun H f g=>?_
 ·refine X4L (s:=s) (d:=c.name) g.1 X (y.2.2.2 x E) (N.2.2 x E) (u.up a) (A.up a) D m j B g.2.1 g.2.2 fun L n R W=>?_
  exact U L (f.trans n) ⟨n.sat g.1 fun k V=>by rcases V with rfl | rfl<;>assumption,R,W⟩
 ·exact h H ((Kpt.of_below a.bel).trans f) g.2))
end Go.Proofs.YtfppjenblllfaaaGreatDoor

namespace Go.Emb
open Go.RowKit Go.Hm
theorem Stp.nx {D:Nat→Prop} {w w1 g:World} {σ σ1 f:Q4} (a:Stp w σ w1 σ1) (c:Nxt D w1 σ1 g f) (hD: ∀k,D k→w.heap.size≤k):Stp w σ g f:=
 ⟨⟨c.kp.os.trans a.bel.os,c.kp.tape.trans a.bel.tape,c.kp.output.trans a.bel.output,Nat.le_trans a.bel.size c.kp.size,fun k d=>(c.kp.block k (Nat.lt_of_lt_of_le d a.bel.size) fun e=>by have:=hD k e;omega).trans (a.bel.block k d)⟩,
  c.sat,fun b o e=>c.le.le b o (a.le b o e),fun k d=>(c.old k (Nat.lt_of_lt_of_le d a.bel.size)).trans (a.old k d)⟩
end Go.Emb
namespace Go.Hm
open Go.Kd Go.Emb
theorem X36 {es:Array MapEntry} {m:R8} (h:es.toList.map (fun e=>(e.key,e.val))=(I8 m).map (fun p=>(S p.1,p.2))):
 (∀e∈es.toList,∃k,e.key=S k∧(R1 m k).isSome=true)∧ ∀k,(R1 m k).isSome=true→ ∃e∈es.toList,e.key=S k:=by
 have c: ∀(m:R8) k,(R1 m k).isSome=true↔k∈m.map (·.1):=by
  intro m
  induction m with
  | nil=>intro k;simp[R1]
  | cons p r i=>
   intro k
   simp only[R1,List.map_cons,List.mem_cons]
   by_cases e:p.1=k
   ·simp[e]
   ·rw[if_neg e,i k]
    constructor
    ·exact .inr
    ·rintro (h | h)
     ·exact absurd h.symm e
     ·exact h
 constructor
 ·intro e f
  have a:(e.key,e.val)∈es.toList.map (fun e=>(e.key,e.val)):=List.mem_map.2 ⟨e,f,rfl⟩
  rw[h] at a
  obtain ⟨p,g,b⟩:=List.mem_map.1 a
  obtain ⟨q,d,rfl⟩:=List.mem_map.1 g
  simp only[Prod.mk.injEq] at b
  exact ⟨q.1,b.1.symm,(c m _).2 (List.mem_map.2 ⟨q,d,rfl⟩)⟩
 ·intro k j
  obtain ⟨q,d,rfl⟩:=List.mem_map.1 ((c m k).1 j)
  have a:(S q.1,S q.2)∈(I8 m).map (fun p=>(S p.1,p.2)):=List.mem_map.2 ⟨(q.1,S q.2),List.mem_map.2 ⟨q,d,rfl⟩,rfl⟩
  rw[←h] at a
  obtain ⟨e,f,b⟩:=List.mem_map.1 a
  simp only[Prod.mk.injEq] at b
  exact ⟨e,f,b.1⟩
def Eo (l:List Cla) (m:Hm.Met):Bool:=(!E9 l m.result&& !decide (m.result=[]))||m.params.any fun s=> !E9 l s
end Go.Hm
namespace Go.Proofs.YtfppjenblllfaaaGreatDoor
open Go.Emb Go.RowKit Go.Kd Go.Hm
variable {w : World} {K : Value → World → Prop} {σ : Q4} {v : Value} {l : List Cla}
set_option maxHeartbeats 1000000 in
theorem X0P {c:Cla} {cs:List Value} (hs:X4 w σ) (ht:Tab σ v l) (ok:Ok l) (hc:V4 σ c cs) (ft:Qr c) (hn:Nm c) (h: ∀w' V,Stp w σ w' V→K (I (V8 l c)) w'):Q0 P F.bd [v, .agg cs.toArray] w K:=Bp (by
 obtain ⟨lv,fv,mv,rfl,g1,g2,g3,g4,g5⟩:=hc
 unfold Vi
 obtain ⟨a,_,_,_,hv,_⟩:=ht.ex
 unfold V8 at h
 refine U1 hs (by rw[hv];rfl) fun q2 w1 σ1 a3 y=>?_
 refine Z0 a3.sat fun q3 w2 σ2 aq z=>?_
 have d5:=a3.trans aq
 have y:=y.up aq
 have g1:=(g1.up a3).up aq
 have g2:=(g2.up a3).up aq
 have g3:=(g3.up a3).up aq
 have bc:=g2.max
 have b8:=g3.max
 rw[fa]
 refine ld aq.sat z rfl ?_
 refine X0 g2 ?_
 refine U3 c.fields.length (fun n w'=> ∃V,Stp w σ w' V∧SLe σ2 V∧((c.fields.take n).any fun f=>(F5 l c.super f.name).isSome)=false) ⟨σ2,d5,SLe.refl _,by simp⟩ fun n w3 d az ah=>?_
 obtain ⟨σ3,bd,b4,E⟩:=ah
 refine Z3 ?_
 refine Q5 (fun hh=>?_) (fun hh=>?_)
 ·have g:n<c.fields.length:=by simpa using hh
  refine Q6z (g2.lift b4) g fun p ar Z=>?_
  refine Z1 bd.sat ar rfl ?_
  refine Y6 bd.sat (by rfl) rfl (Rep.one Z) fun q4 w4 σ4 W eh=>?_
  have aa:SLe σ2 σ4:=b4.more ⟨W.le⟩
  have a7:=bd.trans W
  refine Y0 W.sat (y.lift aa) rfl ?_
  rw[fa]
  refine ld W.sat (z.lift aa) rfl ?_
  rw[fa]
  refine ld W.sat eh rfl ?_
  refine Q8B W.sat (ht.lift ⟨a7.le⟩) ok.acy ok.len ok.sm fun w5 σ5 cb=>?_
  refine G5 ?_
  rw[Jt]
  refine Q5 (fun ak=>?_) (fun ak=>?_)
  ·have:Yg l c=true:=B7 g ak
   rw[if_pos this] at h
   exact h _ _ (a7.trans cb)
  ·refine E5 ?_
   refine Y5 bc g ⟨σ5,a7.trans cb,aa.more ⟨cb.le⟩,?_⟩
   rw[N5 g,E,ak];rfl
 have g: ¬n<c.fields.length:=by simpa using hh
 rw[E4 g] at E
 have d4:Yg l c=false:=E
 rw[if_neg (by rw[d4];simp)] at h
 rw[Xh]
 clear E hh g az
 refine U8 bd.sat (by rfl) rfl rfl fun q7 w4 σ4 W be=>?_
 have aa:SLe σ2 σ4:=b4.more ⟨W.le⟩
 have a7:=bd.trans W
 have y:=y.lift aa
 have z:=z.lift aa
 have g1:=g1.lift aa
 have g2:=g2.lift aa
 have g3:=g3.lift aa
 rw[fa]
 refine ld W.sat z rfl ?_
 refine X0 g2 ?_
 refine U3 c.fields.length (fun n w'=> ∃V,Stp w σ w' V∧SLe σ4 V∧((c.fields.take n).any fun f=> !E9 l f.kind)=false) ⟨σ4,a7,SLe.refl _,by simp⟩ fun n w5 d az ah=>?_
 obtain ⟨σ5,ax,aw,E⟩:=ah
 refine Z3 ?_
 refine Q5 (fun hh=>?_) (fun hh=>?_)
 ·have g:n<c.fields.length:=by simpa using hh
  refine Q6z (g2.lift aw) g fun p ar Z=>?_
  refine Z1 ax.sat ar rfl ?_
  refine Y6 ax.sat (by rfl) rfl (Rep.one Z) fun q9 w6 σ6 a9 ee=>?_
  have ag:SLe σ4 σ6:=aw.more ⟨a9.le⟩
  have R:=ax.trans a9
  refine Y0 a9.sat (be.lift ag) rfl ?_
  rw[fa]
  refine ld a9.sat ee rfl ?_
  refine Q3N a9.sat (ht.lift ⟨R.le⟩) (y.lift ag) Z.2.2 fun w7 σ7 H=>?_
  refine Lm ?_
  refine Q5 (fun ak=>?_) (fun ak=>?_)
  ·have:F9 l c=true:=by
    unfold F9
    rw[B7 (p:=fun f:Fld=> !E9 l f.kind) g ak];rfl
   rw[if_pos this] at h
   exact h _ _ (R.trans H)
  ·refine E5 ?_
   refine Y5 bc g ⟨σ7,R.trans H,ag.more ⟨H.le⟩,?_⟩
   rw[N5 g,E,ak];rfl
 have g: ¬n<c.fields.length:=by simpa using hh
 rw[E4 g] at E
 have ef:=E
 clear E hh g az
 have y:=y.lift aw
 have z:=z.lift aw
 have be:=be.lift aw
 have g3:=g3.lift aw
 rw[fa]
 refine ld ax.sat z rfl ?_
 refine X0 g3 ?_
 refine U3 c.methods.length (fun n w'=> ∃V,Stp w σ w' V∧SLe σ5 V∧((c.methods.take n).any (Eo l))=false) ⟨σ5,ax,SLe.refl _,by simp⟩ fun n w6 d az ah=>?_
 obtain ⟨σ6,R,ag,E⟩:=ah
 refine Z3 ?_
 refine Q5 (fun hh=>?_) (fun hh=>?_)
 ·have g:n<c.methods.length:=by simpa using hh
  refine M7 (g3.lift ag) g fun p cells ar cq Z=>?_
  refine Z1 R.sat ar cq ?_
  refine Y6 R.sat (by rfl) cq (Rep.one Z) fun fd w7 σ7 H X=>?_
  obtain ⟨pv,cv,fp,rfl,m1,m2,m3,m4,m5,m6⟩:=Z
  have cg:SLe σ5 σ7:=ag.more ⟨H.le⟩
  have cw:=R.trans H
  have D:Eo l c.methods[n]=true→ ∀{w8:World} {σ8:Q4},Stp w σ w8 σ8→K (.int .i64 65) w8:=fun hb w8 σ8 q=>by
   have:F9 l c=true:=by
    unfold F9
    have:=B7 (p:=Eo l) g hb
    unfold Eo at this
    rw[this,Bool.or_true]
   rw[if_pos this] at h
   exact h _ _ q
  have A:Eo l c.methods[n]=false→ ∀{w8:World} {σ8:Q4},Stp w σ w8 σ8→SLe σ5 σ8→UpI c.methods.length (fun n w'=> ∃V,Stp w σ w' V∧SLe σ5 V∧((c.methods.take n).any (Eo l))=false) (.int .i64 (IntKind.i64.wrap (n+1))) w8∧UpM c.methods.length (.int .i64 (IntKind.i64.wrap (n+1)))<UpM c.methods.length (I n):=fun hb w8 σ8 q ab=>
   Y5 b8 g ⟨σ8,q,ab,by rw[N5 g,E,hb];rfl⟩
  unfold Eo at D A
  refine Y0 H.sat (be.lift cg) rfl ?_
  rw[fa]
  refine ld H.sat X rfl ?_
  refine Q3N H.sat (ht.lift ⟨cw.le⟩) (y.lift cg) m5 fun w8 σ8 M=>?_
  have q:=cw.trans M
  have ab:SLe σ5 σ8:=cg.more ⟨M.le⟩
  have X:=X.up M
  have m1:=(m1.up H).up M
  -- what the parameters come to
  have bx: ∀{w8:World} {σ8:Q4} {K:Value→World→Prop},Stp w σ w8 σ8→SLe σ5 σ8→Sl 1 X7 σ8 pv c.methods[n].params→(∀w' V,Stp w8 σ8 w' V→K (.bool (c.methods[n].params.any fun s=> !E9 l s)) w')→Q0 P F.e [pv, .func (.func F.ao) #[] #[.pointer (some q7)]] w8 K:=by
   intro w8 σ8 K q ab m1 hK
   refine I6 (fun s=> !E9 l s) q.sat m1 (fun x w9 K _ eo hx dx=>Q8L eo (ht.lift ⟨q.le⟩) (y.lift ab) (be.lift ab) hx fun w' V hk=>dx w' hk.bel) fun w9 hb=>hK w9 σ8 (Stp.of_below q.sat hb)
  cases e1:E9 l c.methods[n].result with
  | true=>
   rw[e1] at D A
   simp only[↓M2,M2,Mb,reduceIte]
   refine ld M.sat X rfl ?_
   (try simp only[↓M2,M2,Mb,reduceIte])
   refine bx q ab m1 fun w9 σ9 J=>?_
   cases e2:c.methods[n].params.any fun s=> !E9 l s with
   | true=>
    rw[e2] at D
    simp only[↓M2,M2,Mb,reduceIte]
    exact D rfl (q.trans J)
   | false=>
    rw[e2] at A
    simp only[↓M2,M2,Mb,reduceIte]
    exact A rfl (q.trans J) (ab.more ⟨J.le⟩)
  | false=>
   rw[e1] at D A
   simp only[↓M2,M2,Mb,reduceIte]
   refine ld M.sat X rfl ?_
   simp only[↓M2,M2,Mb,reduceIte]
   by_cases e3:c.methods[n].result=[]
   ·rw[decide_eq_true e3] at D A
    simp only[decide_eq_true e3,↓M2,M2,Mb,reduceIte]
    refine ld M.sat X rfl ?_
    (try simp only[↓M2,M2,Mb,reduceIte])
    refine bx q ab m1 fun w9 σ9 J=>?_
    cases e2:c.methods[n].params.any fun s=> !E9 l s with
    | true=>
     rw[e2] at D
     simp only[↓M2,M2,Mb,reduceIte]
     exact D rfl (q.trans J)
    | false=>
     rw[e2] at A
     simp only[↓M2,M2,Mb,reduceIte]
     exact A rfl (q.trans J) (ab.more ⟨J.le⟩)
   ·rw[decide_eq_false e3] at D
    simp only[decide_eq_false e3,↓M2,M2,Mb,reduceIte]
    exact D rfl q
 have g: ¬n<c.methods.length:=by simpa using hh
 rw[E4 g] at E
 have cj:F9 l c=false:=by
  unfold F9
  unfold Eo at E
  rw[ef,E];rfl
 rw[if_neg (by rw[cj];simp)] at h
 clear E hh g az
 have y:=y.lift ag
 have z:=z.lift ag
 refine Q0a R.sat fun r1 w7 Z H t=>?_
 refine Q0a H.sat fun N w8 d8 M u=>?_
 have ar:=t.lt
 have t:=t.up M
 have ek:r1≠N:=by omega
 have q:=(R.trans H).trans M
 have ey:w.heap.size≤r1:=Nat.le_trans R.bel.size Z
 have e5:w.heap.size≤N:=Jh d8 (R.trans H)
 refine P3 M.sat fun b1 w9 σ9 ed J B=>?_
 refine P3 J.sat fun b2 eb ff d1 ae C=>?_
 have e8:=B.lt
 have et:=t.lt
 have e6:=u.lt
 have t:=(t.up J).up ae
 have u:=(u.up J).up ae
 have B:=B.up ae
 have c3:=(q.trans J).trans ae
 have b0:w.heap.size≤b1:=Jh ed q
 have bp:w.heap.size≤b2:=Jh d1 (q.trans J)
 refine st0 B (by simp[Value.cells]) rfl rfl fun cr ci B=>?_
 have dc:=ci.stp c3 b0 B.1
 have C:=C.upd ci (by omega)
 have db:Kpt (fun k=>k=b1) eb cr:=Kpt.of_upd ci rfl
 have t:=t.kp db (by omega)
 have u:=u.kp db (by omega)
 refine st0 C (by simp[Value.cells]) rfl rfl fun av cd C=>?_
 have c1:=cd.stp dc bp C.1
 have B:=B.upd cd (by omega)
 have da:Kpt (fun k=>k=b2) cr av:=Kpt.of_upd cd rfl
 have t:=t.kp da (by omega)
 have u:=u.kp da (by omega)
 obtain ⟨cc,c7,a6,ct,am⟩:=B.keep c1 b0
 have C:Z7 cc av b2 _:=⟨(am b2 (by omega)).trans C.1,C.2⟩
 have t:H4 cc av r1 []:=⟨(am r1 (by omega)).trans t.1,t.2⟩
 have u:H4 cc av N []:=⟨(am N (by omega)).trans u.1,u.2⟩
 obtain ⟨ba,af,bj,bu,a4⟩:=C.keep c7 bp
 have t:H4 ba av r1 []:=⟨(a4 r1 (by omega)).trans t.1,t.2⟩
 have u:H4 ba av N []:=⟨(a4 N (by omega)).trans u.1,u.2⟩
 have a6:=a6.le bu
 have a6:Z2 ba ⟨b1,0,none⟩ [.map (some r1)]:=a6
 have bj:Z2 ba ⟨b2,0,none⟩ [.map (some N)]:=bj
 have c2:SLe σ6 ba:=⟨fun b o e=>bu b o (ct b o (ae.le b o (J.le b o (M.le b o (H.le b o e)))))⟩
 clear B C
 have y:=y.lift c2
 have z:=z.lift c2
 refine Y0 af.sat y rfl ?_
 rw[fa]
 refine ld af.sat z rfl ?_
 rw[Xh]
 refine Q84 Sc ([],[]) (fun s w'=>O6 (w'.heap[r1]?) (I8 s.1)∧O6 (w'.heap[N]?) (I8 s.2)) (fun k=>k=r1∨k=N) af.sat (ht.lift ⟨af.le⟩) ok.len ok.sm g4
  (fun k hk=>by rcases hk with rfl | rfl;exact ⟨t.lt,t.1⟩;exact ⟨u.lt,u.1⟩) (fun s wa wb hi hk=>by rw[hk r1 (.inl rfl),hk N (.inr rfl)];exact hi) ⟨t.2,u.2⟩
  (fun s d ds wa σa K le em cp hi hr dz hK=>?_) fun e9 ca aj bs=>?_
 ·have cx:=(V2 dz).2.1
  exact Q7G em hr (ok.sm d cx) (ok.nm d cx) (a6.lift le) (bj.lift le) (cp r1 (.inl rfl)) (cp N (.inr rfl)) ek hi.1 hi.2 hK
 have O:=af.nx aj fun k hk=>by rcases hk with rfl | rfl<;>assumption
 obtain ⟨c9,cy⟩:=Q3D (Mg l c.name) [] ([],[]) 0 X3R
 rw[List.nil_append,←Q8P] at c9 cy
 cases c6:(U0 Sc ([],[]) (Mg l c.name) 0).1.isSome with
 | true=>
  have:Yu l c=true:=(Q55 _).2 (c9 c6)
  rw[if_pos this] at h
  refine J8 ?_
  exact h _ _ O
 | false=>
  have bm:=cy c6
  have:Yu l c=false:=by
   cases e:Yu l c with
   | false=>rfl
   | true=>exact absurd ((Q55 _).1 e) bm.no
  rw[if_neg (by rw[this];simp)] at h
  refine U6 ?_
  have y:=y.lift aj.le
  have z:=z.lift aj.le
  rw[fa]
  refine ld O.sat z rfl ?_
  unfold Db at h
  cases cz:c.abs with
  | true=>
   rw[cz] at h
   refine J8 ?_
   exact h _ _ O
  | false=>
   rw[cz] at h
   simp only[Bool.not_false,Bool.true_and] at h
   refine U6 ?_
   refine Y0 O.sat (bj.lift aj.le) rfl ?_
   generalize fz:(U0 Sc ([],[]) (Mg l c.name) 0).2=st at bm bs
   obtain ⟨es,al,e1,e2,e3,e4⟩:=bs.2
   have df:ca N=none:=(aj.old N u.lt).trans u.1
   obtain ⟨cu,c5⟩:=X36 e2
   refine X4I (tm:=inferInstance) O.sat e1 fun ib fl ea d3 ap d6=>?_
   have bq:=(Array.getElem?_eq_some_iff.1 e1).1
   refine Kn (fun d _ w'=> ∃(V:Q4) (Q:Array Nat),d=es.toList.countP (fun e=> !Q.contains e.born)∧Stp w σ w' V∧SLe ca V∧V N=none∧w'.heap[N]? =some (.map es al)∧It V w' ib N es al Q∧ ∀e∈es.toList,e.born∈Q→ ∀k,e.key=S k→Yn l c.name k=false) _
    ⟨ea, #[],rfl,O.trans ap,⟨ap.le⟩,(ap.old N bq).trans df,(ap.bel.block N bq).trans e1,d6,by simp⟩ ?_
   rintro b6 d x dd fq ⟨di,Q,rfl,bv,ao,dg,ay,bb,a8⟩ ei
   have c8:w.heap.size≤ib:=Nat.le_trans O.bel.size d3
   refine X51 bb ay e4 (fun dm=>?_) fun e dp bh a5 bz ck dq=>?_
   ·refine Z8 (vs:=[_]) rfl ?_
    refine U6 ?_
    have:((Wi l c.name).any fun m=>Yn l c.name m.name)=false:=by
     rw[List.any_eq_false]
     intro m hm
     obtain ⟨e,he,bg⟩:=c5 m.name ((bm.c m.name).2 ⟨m,hm,rfl⟩)
     rw[a8 e he (dm e he) _ bg];simp
    rw[this] at h
    exact h _ _ bv
   ·refine Z8 (vs:=[_,_,_]) rfl ?_
    refine J8 ?_
    have an:dp.heap[N]? =some (.map es al):=by
     rw[bz.block N (Array.getElem?_eq_some_iff.1 ay).1 (by omega)];exact ay
    have cf:=bb.1
    have ai:Stp w σ dp di:=bv.kp bz fun k hk=>by rw[hk];exact ⟨c8,cf⟩
    refine X47 dq an bh (e3.imp fun b3=>Nat.ne_of_lt b3) ?_
    refine Z8 (vs:=[_,_]) rfl ?_
    obtain ⟨k,bg,eg⟩:=cu e bh
    have er:SLe ca di:=ao
    refine Y0 ai.sat (y.lift ao) rfl ?_
    rw[fa]
    refine ld ai.sat (z.lift ao) rfl ?_
    rw[bg]
    refine Q6W ai.sat (ht.lift ⟨ai.le⟩) ok fun pv cv hv fw fi L dh=>?_
    refine Z8 (vs:=[_,_,_]) rfl ?_
    refine Z8 (vs:=[_,_,_]) rfl ?_
    refine Z8 (vs:=[_,_,_]) rfl ?_
    refine Y6 L.sat (by rfl) rfl (Rep.one dh) fun fn dy ec Y bw=>?_
    have a0:=(ai.trans L).trans Y
    have U:Yn l c.name k=true→ ∀{w8:World} {σ8:Q4},Stp w σ w8 σ8→K (.int .i64 67) w8:=fun hb w8 σ8 q=>by
     obtain ⟨m,hm,cj⟩:=(bm.c k).1 eg
     have:((Wi l c.name).any fun m=>Yn l c.name m.name)=true:=List.any_eq_true.2 ⟨m,hm,by rw[cj];exact hb⟩
     rw[this] at h
     exact h _ _ q
    have b7:Yn l c.name k=false→b6 () dy:=fun hb=>by
     have c0: ∀e':MapEntry,e'.born∈Q.push e.born↔e'.born∈Q∨e'.born=e.born:=fun e'=>by simp
     refine ei _ _ _ ?_ ⟨ec,Q.push e.born,rfl,a0,ao.more ⟨fun b o h=>Y.le _ _ (L.le _ _ h)⟩,?_,?_,(ck.step L).step Y,fun e' de el k' b5=>?_⟩
     ·refine Q4Q (fun x _ hx=>?_) ⟨e,bh,?_,?_⟩
      ·simp only[Bool.not_eq_true',Array.contains_push,Bool.or_eq_false_iff] at hx⊢
       exact hx.1
      ·simpa using a5
      ·simp
     ·have a2:=(Array.getElem?_eq_some_iff.1 an).1
      rw[Y.old N (Nat.lt_of_lt_of_le a2 L.bel.size),L.old N a2];exact dg
     ·have a2:=(Array.getElem?_eq_some_iff.1 an).1
      rw[Y.bel.block N (Nat.lt_of_lt_of_le a2 L.bel.size),L.bel.block N a2];exact an
     ·rcases (c0 e').1 el with h1 | h1
      ·exact a8 e' de h1 k' b5
      ·have:e'=e:=by
        have d9:(es.toList.map (·.born)).Nodup:=e3.imp fun b3=>Nat.ne_of_lt b3
        obtain ⟨i,hi,rfl⟩:=List.getElem_of_mem de
        obtain ⟨j,hj,rfl⟩:=List.getElem_of_mem bh
        have h5:(es.toList.map (·.born))[i]'(by simpa using hi)=(es.toList.map (·.born))[j]'(by simpa using hj):=by simpa using h1
        have:=(List.getElem_inj d9).1 h5
        subst this;rfl
       subst this
       rw[bg] at b5
       have:k=k':=by
        have:=b5
        simp at this
        exact this
       rw[←this];exact hb
    unfold Yn at U b7
    cases dl:Z9 l c.name k with
    | none=>
     rw[dl] at U
     simp only[↓M2,M2,Mb,reduceIte,Option.isSome_none]
     exact U rfl a0
    | some r=>
     rw[dl] at U b7 bw
     simp only[↓M2,M2,Mb,reduceIte,Option.isSome_some]
     refine ld Y.sat bw rfl ?_
     (try simp only[↓M2,M2,Mb,reduceIte])
     cases bi:r.2.abs with
     | true=>
      exact Q5 (fun _=>U bi a0) (fun e=>absurd (bi.symm.trans e) (by simp))
     | false=>
      exact Q5 (fun e=>absurd (bi.symm.trans e) (by simp)) (fun _=>b7 bi))
end Go.Proofs.YtfppjenblllfaaaGreatDoor

namespace Go.Emb
open Go.RowKit Go.Hm
variable {P : Program} {w w0 w1 w' w'' : World} {K : Value → World → Prop} {σ σ0 σ1 σ' : Q4}
theorem X2w {t e:TypeId} {n by_:Nat} {z:Value} [ta:TA P t n e] [tz:TZ P e 1 by_ z] [tg:TG P e false] {cs:List Value} {i:Nat} {v:Value} (c:i<n) (a:cs[i]? =some v) (h:K v w):H2 P t (.agg cs.toArray) (I i) w K:=by
 unfold H2
 have b:(0:Int)≤i∧(i:Int)<n:=⟨by omega,by omega⟩
 rw[Y2 (v:=v) (w':=w) (by
  simp only[Instr.index,asIntOf,Sem.run_bind,Sem.run_pure,Result.andThen_ok,run_underlying ta.h,b,and_self,if_true,W5 tz,part,Jd tg]
  simp[a])]
 exact h
theorem Q8S {α:Type} {R:Q4→α→List Value→Prop} {B sz:Nat} {e:TypeId} {v:Value} {xs:List α} {a t:TypeId} {cs:List Bool} [ts:TS P a e] (h:J1 B e sz R σ w v xs) (b:K (I xs.length) w):X5 P .len [a] t cs [v] w K:=Vq (J9.of_acc h) b
theorem Q4C {α:Type} {R:Q4→α→List Value→Prop} {B sz:Nat} {e:TypeId} {v:Value} {xs:List α} (h:J1 B e sz R σ w v xs):v.cells= #[v]∧v.oneCell'=true:=by
 obtain ⟨cells,c,_⟩:=h
 rcases c.2 with ⟨rfl,_⟩ | ⟨g,b,a,rfl,_⟩<;>exact ⟨rfl,rfl⟩
end Go.Emb
namespace Go.Proofs.YtfppjenblllfaaaGreatDoor
open Go.Emb Go.RowKit Go.Kd Go.Hm
variable {w : World} {K : Value → World → Prop} {σ : Q4} {v : Value} {l : List Cla}
theorem X3c (A:X4 w σ) (C:Glb σ) (h: ∀r w' σ',Stp w σ w' σ'→J1 w.heap.size T.c 8 V4 σ' w' r G4→K r w'):Q0 P F.cG [] w K:=Q78 (by
 unfold Q0u
 refine W0 (cells:= #[S J7,S [], .slice none 0 0, .bool false, .bool false, .bool false, .slice none 0 0, .slice none 0 0]) (by kernel_rfl) ?_
 refine W0 (cells:= #[S Qi,S D7, .bool false]) (by kernel_rfl) ?_
 refine O7 (R:=H0) (sz:=3) A [.agg #[S Qi,S D7, .bool false]] [⟨Qi,D7,false⟩] rfl rfl (by simp;rfl) rfl ⟨⟨rfl,by decide,by decide⟩,trivial⟩ fun J w1 σ1 f i=>?_
 have m:=i
 obtain ⟨y,b,rfl,_⟩:=m
 refine W0 (cells:= #[S W4,S J7, .slice none 0 0, .bool false, .bool false, .bool false, .slice y 1 b, .slice none 0 0]) (by kernel_rfl) ?_
 refine Xc (R:=V4) (sz:=8) f [.agg #[S J7,S [], .slice none 0 0, .bool false, .bool false, .bool false, .slice none 0 0, .slice none 0 0], .agg #[S W4,S J7, .slice none 0 0, .bool false, .bool false, .bool false, .slice y 1 b, .slice none 0 0]]
  [⟨J7,[],[],false,false,false,[],[]⟩,⟨W4,J7,[],false,false,false,[⟨Qi,D7,false⟩],[]⟩] rfl rfl (by simp;exact ⟨rfl,rfl⟩) rfl
  ⟨⟨_,_,_,rfl,Sl.nil,Sl.nil,Sl.nil,by decide,by decide⟩,⟨_,_,_,rfl,Sl.nil,i,Sl.nil,by decide,by decide⟩,trivial⟩ fun N O j g _=>?_
 have u:=C.lift ⟨f.le⟩
 refine Z1 (cs:=U5.map S) j.sat u.flt rfl ?_
 refine E2 6 (fun n a w'=> ∃σ',Stp w σ w' σ'∧J1 w.heap.size T.c 8 V4 σ' w' a ([⟨J7,[],[],false,false,false,[],[]⟩,⟨W4,J7,[],false,false,false,[⟨Qi,D7,false⟩],[]⟩]++(U5.take n).map fun n=>⟨n,W4,[],false,false,true,[],[]⟩)) ⟨σ1,f.trans j,g⟩ fun n a E d L o=>?_
 obtain ⟨M,k,c⟩:=o
 have B:U5.length=6:=rfl
 refine Z3 ?_
 refine Q5 (fun hh=>?_) (fun hh=>?_)
 ·have e:n<6:=by have:=of_decide_eq_true hh;omega
  refine X2w (v:=S (U5[n]'(by omega))) e (by rw[List.getElem?_map,List.getElem?_eq_getElem (by omega)];rfl) ?_
  refine W0 (cells:= #[S (U5[n]'(by omega)),S W4, .slice none 0 0, .bool false, .bool false, .bool true, .slice none 0 0, .slice none 0 0]) (by kernel_rfl) ?_
  have p:(U5[n]'(by omega)).length≤10:=by
   have: ∀x∈U5,x.length≤10:=by decide
   exact this _ (List.getElem_mem _)
  refine Vd (x:=⟨U5[n]'(by omega),W4,[],false,false,true,[],[]⟩) k c ⟨_,_,_,rfl,Sl.nil,Sl.nil,Sl.nil,Nat.le_trans p (by decide),(by decide:W4.length≤Y9)⟩ rfl rfl rfl (by simp;omega) (by simp;omega) fun s r H z D t q _=>?_
  refine E5 ?_
  refine J0 (by omega) e ⟨z,t,?_⟩
  rw[List.take_add_one,List.getElem?_eq_getElem (by omega),List.map_append,←List.append_assoc]
  exact q
 ·have e: ¬n<6:=by have:=of_decide_eq_false hh;omega
  rw[List.take_of_length_le (by omega)] at c
  exact h _ _ _ k c)
end Go.Proofs.YtfppjenblllfaaaGreatDoor

namespace Go.Hm
open Go.Kd
def M4 {α:Type} (f:α→Int):List α→Nat→Option (Nat×Int)
 | [],_=>none
 | x::r,i=>if f x=0 then M4 f r (i+1) else some (i,f x)
theorem K1 {α:Type} {f:α→Int}: ∀{l:List α} {i:Nat},M4 f l i=none→ ∀x∈l,f x=0
 | [],_,_=>by simp
 | x::r,i,h=>by
  simp only[M4] at h
  split at h
  ·rename_i a
   intro y hy
   rcases List.mem_cons.1 hy with rfl | hy
   ·exact a
   ·exact K1 h y hy
  ·cases h
def St (a:List Cla):Option Nat:=(List.range a.length).find? fun i=>(Y7 (a.take i) (Y3 a i)).isSome
def Q7 (l:List Cla):List Cla:=G4++l
def Rw (a:Cla→Int) (l:List Cla):Option (Int×Int):=match M4 a l 0 with
 | some (i,e)=>some (i,e)
 | none=>match St (Q7 l) with
  | some i=>some ((i:Int)-8,60)
  | none=>match M4 (fun c=>(M5 (Q7 l) c:Int)) l 0 with
   | some (i,e)=>some (i,e)
   | none=>match l.findIdx? (K3 (Q7 l)) with
    | some i=>some (i,63)
    | none=>match (V5 (Q7 l) 8).find? fun j=> !decide (V8 (Q7 l) ((Q7 l).getD j Cla.zero)=0) with
     | some j=>some ((j:Int)-8,V8 (Q7 l) ((Q7 l).getD j Cla.zero))
     | none=>none
theorem Q6l {s:Q8} (h:name s=true):s.length≤32:=by
 cases s with
 | nil=>simp
 | cons c r=>simp only[name,Bool.and_eq_true,decide_eq_true_eq] at h;exact h.1.1
theorem X1a {s:Q8} (h:W9 s=true):s.length≤32:=Q6l (Nb (by rw[h,Bool.or_true]))
theorem Q9g {s:Q8} (h:M8 s=true):s.length≤32:=by
 cases s with
 | nil=>simp
 | cons c r=>simp only[M8,Bool.and_eq_true] at h;exact Q6l h.1
theorem Is {a:List Cla} (h:St a=none):K7 a:=by
 unfold St at h
 rw[List.find?_eq_none] at h
 unfold K7
 rw[List.nodup_iff_pairwise_ne,List.pairwise_iff_getElem]
 intro i j g b d e
 simp only[List.length_map] at g b
 have:=h j (by simp;exact b)
 apply this
 simp only[List.getElem_map] at e
 cases f:Y7 (a.take j) (Y3 a j) with
 | some _=>rfl
 | none=>
  have c:=List.findIdx?_eq_none_iff.1 f a[i] (List.mem_take_iff_getElem.2 ⟨i,by omega,rfl⟩)
  have k:Y3 a j=a[j].name:=by unfold Y3;rw[List.getD_eq_getElem?_getD,List.getElem?_eq_getElem b];rfl
  rw[k] at c
  simp[e] at c
theorem Jb: ∀c∈G4,Qr c∧Nm c∧c.like=[]:=by
 have h: ∀c∈G4,(c.like=[]∧c.methods=[]∧c.fields.length≤1∧c.name.length≤100∧ ∀f∈c.fields,f.name.length≤100∧f.kind.length≤100):=by decide
 intro c d
 obtain ⟨b,a,i,e,g⟩:=h c d
 refine ⟨⟨by rw[b];simp,by omega,by rw[a];simp,by rw[a];simp⟩,⟨e,g,by rw[a];simp⟩,b⟩
theorem X1K: ∀c∈G4,(c.name=J7∧U2 c=[[]])∨(c.name=W4∧U2 c=[J7])∨(c.name∈U5∧U2 c=[W4]):=by decide
theorem Q6s {l:List Cla} (o:K7 (Q7 l)) (t: ∀c∈l,c.name≠[]) (s: ∀c∈l,K3 (Q7 l) c=false):Zf (Q7 l):=by
 have k:lk (Q7 l) []=none:=by
  cases h:lk (Q7 l) [] with
  | none=>rfl
  | some c=>
   obtain ⟨e,hm,_⟩:=V2 h
   rcases List.mem_append.1 hm with hm | hm
   ·have: ∀c∈G4,c.name≠[]:=by decide
    exact absurd e (this c hm)
   ·exact absurd e (t c hm)
 have j:lk (Q7 l) J7=some ⟨J7,[],[],false,false,false,[],[]⟩:=o.lk (c:=⟨J7,[],[],false,false,false,[],[]⟩) (List.mem_append_left _ (by decide))
 have g:lk (Q7 l) W4=some ⟨W4,J7,[],false,false,false,[⟨Qi,D7,false⟩],[]⟩:=o.lk (c:=⟨W4,J7,[],false,false,false,[⟨Qi,D7,false⟩],[]⟩) (List.mem_append_left _ (by decide))
 have q: ∀b,¬Reach (lk (Q7 l)) [] b:=fun b h=>by obtain ⟨c,f⟩:=h.left;rw[k] at f;cases f
 have p: ∀b,Reach (lk (Q7 l)) J7 b→b=J7:=by
  intro b h
  cases h with
  | refl=>rfl
  | step f d i=>
   rw[j] at f;cases f
   simp[U2] at d;subst d
   exact absurd i (q b)
 have r: ∀b,Reach (lk (Q7 l)) W4 b→b=W4∨b=J7:=by
  intro b h
  cases h with
  | refl=>exact .inl rfl
  | step f d i=>
   rw[g] at f;cases f
   simp[U2] at d;subst d
   exact .inr (p b i)
 rintro a ⟨c,f,u,d,i⟩
 obtain ⟨e,hm,_⟩:=V2 f
 rcases List.mem_append.1 hm with hm | hm
 ·rcases X1K c hm with ⟨m,n⟩ | ⟨m,n⟩ | ⟨m,n⟩<;>rw[n] at d<;>simp at d<;>subst d
  ·exact q _ i
  ·have:=p _ i
   rw[←e,m] at this
   exact absurd this (by decide)
  ·have w: ∀x∈U5,x≠W4∧x≠J7:=by decide
   obtain ⟨y,v⟩:=w _ m
   rw[←e] at i
   rcases r _ i with h | h
   ·exact y h
   ·exact v h
 ·have:=s c hm
  unfold K3 at this
  have z:=List.any_eq_false.1 this u d
  apply z
  rw[List.contains_iff_mem,Ue,e];exact i
end Go.Hm
namespace Go.Proofs.YtfppjenblllfaaaGreatDoor
open Go.Emb Go.RowKit Go.Kd Go.Hm
theorem Q4e {s:Q8} (h:right s=true):s.length≤38:=by
 simp only[right,Bool.and_eq_true,decide_eq_true_eq] at h
 have e:=Q1r s
 have:(base s).1.length≤32:=by
  have d:=h.2
  have a:=Nb d
  cases b:(base s).1 with
  | nil=>simp
  | cons c r=>
   rw[b] at a
   simp only[name,Bool.and_eq_true,decide_eq_true_eq] at a
   exact a.1.1
 omega
theorem Bl {c:Cla} (h:M6 c=0):Qr c∧Nm c∧c.name≠[]:=by
 unfold M6 at h
 split at h
 ·cases h
 ·rename_i b
  split at h
  ·rename_i j
   simp only[Yz,Bool.or_eq_true,decide_eq_true_eq,not_or,List.any_eq_true,not_exists,not_and] at b
   obtain ⟨⟨⟨r,B⟩,y⟩,A⟩:=b
   simp only[Lj,Bool.and_eq_true] at j
   obtain ⟨⟨⟨⟨⟨⟨⟨⟨l,u⟩,v⟩,s⟩,w⟩,z⟩,t⟩,n⟩,q⟩:=j
   have a:W9 c.name=true:=List.all_eq_true.1 l c.name (by simp)
   have d: ∀m∈c.methods,m.params.length≤32∧m.catches.length≤32∧m.code.length≤200:=fun m b=>by
    have:=r m b
    simp only[Vn,Bool.or_eq_true,decide_eq_true_eq,not_or] at this
    omega
   refine ⟨⟨by omega,by omega,by omega,fun m b=>by have:=d m b;unfold SmM;omega⟩,⟨by have:=X1a a;omega,fun f o=>?_,fun m b=>?_⟩,fun e=>by rw[e] at a;simp[W9] at a⟩
   ·have:=List.all_eq_true.1 n f o
    simp only[Ep,Bool.and_eq_true] at this
    have i:=Q9g this.1
    have g:=Q4e this.2
    omega
   ·have:=List.all_eq_true.1 q m b
    simp only[F6,Bool.and_eq_true,Bool.or_eq_true,decide_eq_true_eq,List.all_eq_true] at this
    obtain ⟨⟨⟨_,i⟩,g⟩,_⟩:=this
    refine ⟨?_,fun p k=>by have:=Q4e (i p k);omega⟩
    rcases g with e | e
    ·rw[e];simp
    ·have:=Q4e e;omega
  ·cases h
end Go.Proofs.YtfppjenblllfaaaGreatDoor

namespace Go.Hm
open Go.Kd
theorem Vr {α:Type} {f:α→Int} {xs:List α} {n:Nat} (h:n<xs.length) (a:M4 f xs 0=M4 f (xs.drop n) n):M4 f xs 0=if f xs[n]=0 then M4 f (xs.drop (n+1)) (n+1) else some (n,f xs[n]):=by
 rw[a,List.drop_eq_getElem_cons h];rfl
theorem Q9j {a:List Cla} {n:Nat} (h:n<a.length) (k:Q8):Y7 (a.take (n+1)) k=match Y7 (a.take n) k with
 | some i=>some i
 | none=>if a[n].name=k then some n else none:=by
 unfold Y7
 rw[List.take_add_one,List.getElem?_eq_getElem h]
 simp only[Option.toList_some,List.findIdx?_append]
 cases (a.take n).findIdx? fun c=>decide (c.name=k) with
 | some i=>rfl
 | none=>
  simp only[Option.none_or,List.findIdx?_cons,List.findIdx?_nil,List.length_take]
  by_cases e:a[n].name=k
  ·simp[e];omega
  ·simp[e]
end Go.Hm
namespace Go.Proofs.YtfppjenblllfaaaGreatDoor
open Go.Emb Go.RowKit Go.Kd Go.Hm
variable {w : World} {K : Value → World → Prop} {σ : Q4} {v : Value} {l : List Cla}
theorem Kv {a:List Cla} {n:Nat} (h:n<a.length):Y3 a n=a[n].name:=by unfold Y3;rw[List.getD_eq_getElem?_getD,List.getElem?_eq_getElem h];rfl
set_option maxHeartbeats 1000000 in
theorem X4K {lv:Value} (hs:X4 w σ) (hg:Glb σ) (hl:Sl 8 V4 σ lv l) (hlen:l.length≤1000) (hsm: ∀c∈l,Qr c)
 (h1: ∀i e w' σ',Rw M6 l=some (i,e)→Stp w σ w' σ'→K (.tuple #[.pointer none,I i,I e]) w')
 (h0: ∀v w' σ',Rw M6 l=none→Stp w σ w' σ'→Tab σ' v (Q7 l)→Ok (Q7 l)→K7 (Q7 l)→K (.tuple #[v,I 0,I 0]) w'):Q0 P F.cP [lv] w K:=Q8K (by
 unfold Q3j
 have hgl:G4.length=8:=rfl
 have hal:(Q7 l).length=8+l.length:=by simp[Q7,hgl]
 refine X3c hs hg fun x0 w1 σ1 hk1 ha1=>?_
 refine Q0a hk1.sat fun r w2 hr hk2 hm2=>?_
 have ha2:=ha1.up hk2
 have hx0:x0.cells= #[x0]∧x0.oneCell'=true:=Q4C ha1
 have hx0s: ∃a n c,x0= .slice a n c:=by
  obtain ⟨cells,q1,_⟩:=ha1
  rcases q1.2 with ⟨rfl,_⟩ | ⟨g,cap,cur,rfl,_⟩<;>exact ⟨_,_,_,rfl⟩
 have hx0r:x0.ownBlock≠some r:=fun e=>by have:=(ha1.mem r e).2.1;omega
 obtain ⟨a0,n0,c0,hx0e⟩:=hx0s
 rw[hx0e]
 refine W0 (cells:= #[.slice a0 n0 c0, .map (some r)]) (by kernel_rfl) ?_
 rw[←hx0e]
 refine Q0r (cs:=[x0, .map (some r)]) hk2.sat fun bt w3 σ3 hbt hk3 hbm=>?_
 have hS3:=(hk1.trans hk2).trans hk3
 have ha3:=ha2.up hk3
 have hm3:=hm2.up hk3
 have hrw:w.heap.size≤r:=Nat.le_trans hk1.bel.size hr
 have hrl:r<w2.heap.size:=hm2.lt
 have hbtw:w.heap.size≤bt:=Jh hbt (hk1.trans hk2)
 have hrbt:r≠bt:=by omega
 have hx0b:x0.ownBlock≠some bt:=fun e=>by have:=(ha2.mem bt e).2.1;omega
 rw[H7,fa]
 refine B6 hbm rfl ?_
 refine Q8S ha3 ?_
 rw[hgl]
 have hl3:=hl.up hS3
 refine X0 hl3 ?_
 -- classes, each by itself
 refine U3 l.length (fun n w'=> ∃σ' x,Stp w σ w' σ'∧SLe σ3 σ'∧Z7 σ' w' bt [x, .map (some r)]∧J1 w.heap.size T.c 8 V4 σ' w' x (G4++l.take n)∧H4 σ' w' r []∧x.ownBlock≠some bt∧x.ownBlock≠some r∧M4 M6 l 0=M4 M6 (l.drop n) n)
  ⟨σ3,x0,hS3,SLe.refl _,hbm,by simpa using ha3,hm3,hx0b,hx0r,rfl⟩ fun n w4 d hn hinv=>?_
 obtain ⟨σ4,x,hS4,le4,hb4,ha4,hm4,hxb,hxr,hfb⟩:=hinv
 refine Z3 ?_
 refine Q5 (fun hh=>?_) (fun hh=>?_)
 ·have hn':n<l.length:=by simpa using hh
  refine M7 (hl3.lift le4) hn' fun p cells hl1 hl2 hr1=>?_
  refine Z1 hS4.sat hl1 hl2 ?_
  refine Y6 hS4.sat (by rfl) hl2 (Rep.one hr1) fun q w5 σ5 hk5 hq5=>?_
  have hS5:=hS4.trans hk5
  have hr5:=RCl_lift hr1 ⟨hk5.le⟩
  refine Z1 hk5.sat hq5 hl2 ?_
  have hsmn:=hsm _ (List.getElem_mem hn')
  refine X2R hk5.sat (hg.lift ⟨hS5.le⟩) hr5 hsmn.1 fun w6 σ6 hk6=>?_
  have hS6:=hS5.trans hk6
  have hfb2:=Vr hn' hfb
  refine T4 ?_
  refine Q5 (fun hh2=>?_) (fun hh2=>?_)
  ·have hne: ¬M6 l[n]=0:=by simpa using hh2
   rw[if_neg hne] at hfb2
   refine h1 _ _ _ _ ?_ hS6
   unfold Rw
   rw[hfb2]
  ·have hz:M6 l[n]=0:=by simpa using hh2
   rw[if_pos hz] at hfb2
   have hk56:=hk5.trans hk6
   have hb6:=hb4.up hk56
   have ha6:=ha4.up hk56
   have hm6:=hm4.up hk56
   have hq6:=hq5.up hk6
   have hr6:=RCl_lift hr5 ⟨hk6.le⟩
   have hxs: ∀k,x.ownBlock=some k→k<w6.heap.size:=fun k hk=>(ha6.mem k hk).2.1
   refine V0 hk6.sat ?_
   refine X2 (.pointer (some ⟨bt,0,none⟩)) (fun w hb=>by rw[H7];exact X6 rfl) ?_
   refine X2 (.pointer (some ((⟨bt,0,none⟩:Addr).add 0))) (fun t w hb e=>by rw[e,fa];exact X6 rfl) ?_
   refine X2 x (fun t w hb e=>by rw[e];exact B6 (hb6.step hb.stp) rfl (X6 rfl)) ?_
   refine X2 (.agg cells.toArray) (fun w hb=>Z1 hb.sat hq6 hl2 (X6 rfl)) ?_
   refine Ra (Φ:=fun σ' v=> ∃ds:List Value,v= .agg ds.toArray∧ds.length=8∧V4 σ' l[n] ds) (fun t w hb e=>by
    rw[e];exact X1g hb.sat hr6 hsmn fun lv fv mv w' σ' hk hrc=>Q0s hb hk ⟨_,rfl,rfl,hrc⟩) ?_
   refine Ra (w:=w6) (σ:=σ6) (Φ:=fun σ' v=>Sl 8 V4 σ' v [l[n]]) (fun t w hb e=>by
    obtain ⟨σ',hk,ds,rfl,hd1,hd2⟩:=e
    refine O7 (R:=V4) (sz:=8) hk.sat [.agg ds.toArray] [l[n]] rfl rfl (by simpa [Value.cells] using hd1) rfl ⟨by simpa [Value.cells] using hd2,trivial⟩ fun u w2 σ2 hk2 hu=>?_
    exact ⟨hk2.bel,σ2,hk.trans hk2,hu⟩) ?_
   rintro t43 t44 t45 t46 t47 t48 w7 hb7 _ _ e45 _ _ ⟨σ8,hk8,hu8⟩
   subst e45
   have hS8:=hS6.trans hk8
   have hb8:=hb6.up hk8
   have ha8:=ha6.up hk8
   have hm8:=hm6.up hk8
   have hbl:=hb6.lt
   have hml:=hm6.lt
   refine Hu hS8 ha8 hu8 rfl (by simp[hgl];omega) (by simp[hgl];omega) fun x' w9 hn9 hS9 ha9 hat9=>?_
   have hb9:=hb8.nx hn9 hxb
   have hm9:=hm8.nx hn9 hxr
   have hxb':x'.ownBlock≠some bt:=fun e=>by
    rcases hat9 with e2 | e2
    ·exact hxb (e2▸e)
    ·have:=e2 bt e;have:=hk8.bel.size;omega
   have hxr':x'.ownBlock≠some r:=fun e=>by
    rcases hat9 with e2 | e2
    ·exact hxr (e2▸e)
    ·have:=e2 r e;have:=hk8.bel.size;omega
   obtain ⟨hxc1,hxc2⟩:=Q4C ha9
   rw[H7,fa]
   refine Nz hb9 (by simp) hxc1 hxc2 fun w10 u10 hb10=>?_
   have hS10:=u10.stp hS9 hbtw hb9.1
   have k10:Kpt (fun k=>k=bt) w9 w10:=Kpt.of_upd u10 rfl
   refine E5 ?_
   refine Y5 hl3.max hn' ⟨σ8,x',hS10,le4.more ⟨fun b o e=>hk8.le _ _ (hk56.le _ _ e)⟩,hb10,?_,hm9.kp k10 hrbt,hxb',hxr',hfb2⟩
   have:=ha9.kp k10 fun k hk e=>hxb' (e▸hk)
   rw[List.take_add_one,List.getElem?_eq_getElem hn',←List.append_assoc]
   exact this
 have hn': ¬n<l.length:=by simpa using hh
 rw[List.take_of_length_le (by omega)] at ha4
 rw[List.drop_eq_nil_of_le (by omega)] at hfb
 have hfb:M4 M6 l 0=none:=hfb
 have hck:=K1 hfb
 have hcf: ∀c∈l,Qr c∧Nm c∧c.name≠[]:=fun c hc=>Bl (hck c hc)
 have hsmall: ∀c∈Q7 l,Qr c:=fun c hc=>by
  rcases List.mem_append.1 hc with hc | hc
  ·exact (Jb c hc).1
  ·exact (hcf c hc).1
 have hnmall: ∀c∈Q7 l,Nm c:=fun c hc=>by
  rcases List.mem_append.1 hc with hc | hc
  ·exact (Jb c hc).2.1
  ·exact (hcf c hc).2.1
 have hlenall:(Q7 l).length≤100000:=by omega
 unfold Rw at h1 h0
 rw[hfb] at h1 h0
 simp only at h1 h0
 -- from now on the classes stay
 obtain ⟨σ5,hS5,hv5,le5,old5⟩:=ha4.keep hS4
 have hb5:Z7 σ5 w4 bt _:=⟨(old5 bt fun e=>hxb e.symm).trans hb4.1,hb4.2⟩
 have hm5:H4 σ5 w4 r []:=⟨(old5 r fun e=>hxr e.symm).trans hm4.1,hm4.2⟩
 obtain ⟨σ6,hS6,hb6,le6,old6⟩:=hb5.keep hS5 hbtw
 have hm6:H4 σ6 w4 r []:=⟨(old6 r hrbt).trans hm5.1,hm5.2⟩
 have hv6:Sl 8 V4 σ6 x (Q7 l):=hv5.le le6
 clear hb5 hb4 ha4
 rw[H7,fa]
 refine ld hS6.sat hb6 rfl ?_
 refine X0 hv6 ?_
 refine U3 (Q7 l).length (fun n w'=> ∃σ' m,Stp w σ w' σ'∧SLe σ6 σ'∧H4 σ' w' r m∧(∀k,M9 m k=(Y7 ((Q7 l).take n) k).map (fun i:Nat=>I (i:Int)))∧ ∀j,j<n→(Y7 ((Q7 l).take j) (Y3 (Q7 l) j)).isSome=false)
  ⟨σ6,[],hS6,SLe.refl _,hm6,by simp[M9,Y7],by intro j hj;omega⟩ fun n w5 d hn2 hinv=>?_
 obtain ⟨σ7,m,hS7,le7,hm7,hlm,hnd⟩:=hinv
 refine Z3 ?_
 refine Q5 (fun hh2=>?_) (fun hh2=>?_)
 ·have hn3:n<(Q7 l).length:=by simpa using hh2
  refine M7 (hv6.lift le7) hn3 fun p cells hl1 hl2 hr1=>?_
  refine Z1 hS7.sat hl1 hl2 ?_
  refine Y6 hS7.sat (by rfl) hl2 (Rep.one hr1) fun q w6 σ8 hk8 hq8=>?_
  obtain ⟨lv',fv,mv,rfl,f1,f2,f3,f4,f5⟩:=hr1
  have hS8:=hS7.trans hk8
  have le8:SLe σ6 σ8:=le7.more ⟨hk8.le⟩
  have hm8:=hm7.up hk8
  have hb8:=hb6.lift le8
  rw[fa]
  refine ld hk8.sat hq8 rfl ?_
  refine Dw ?_
  unfold Ja
  rw[H7,fa]
  refine ld hk8.sat hb8 rfl ?_
  refine Q6M X8 hm8.2 _ ?_
  refine Z8 (vs:=[_,_]) rfl ?_
  refine Z8 (vs:=[_,_]) rfl ?_
  have hna:=Kv hn3
  have hfd:=hlm (Q7 l)[n].name
  cases hfc:Y7 ((Q7 l).take n) (Q7 l)[n].name with
  | some i=>
   rw[hfc] at hfd
   rw[hfd]
   refine J8 ?_
   have hdup:St (Q7 l)=some n:=by
    unfold St
    rw[List.find?_range_eq_some]
    refine ⟨by rw[hna,hfc];rfl,by simpa using hn3,fun j hj=>by rw[hnd j hj];rfl⟩
   refine Rc ⟨by omega,by omega⟩ ?_
   refine h1 _ _ _ _ ?_ hS8
   rw[hdup]
   rfl
  | none=>
   rw[hfc] at hfd
   rw[hfd]
   refine U6 ?_
   refine V0 hk8.sat ?_
   refine X2 (.pointer (some ⟨bt,0,none⟩)) (fun w hb=>by rw[H7];exact X6 rfl) ?_
   refine X2 (.pointer (some ((⟨bt,0,none⟩:Addr).add 1))) (fun t w hb e=>by rw[e,fa];exact X6 rfl) ?_
   refine X2 (.pointer (some (q.add 0))) (fun w hb=>by rw[fa];exact X6 rfl) ?_
   refine X2 (.map (some r)) (fun t w hb e=>by rw[e];exact ld hb.sat hb8 rfl (X6 rfl)) ?_
   refine X2 (S (Q7 l)[n].name) (fun t w hb e=>by rw[e];exact ld hb.sat hq8 rfl (X6 rfl)) ?_
   rintro t71 t72 t74 t73 t75 w9 hb9 _ _ _ rfl rfl
   refine Hv X8 (hm8.up hb9.stp) _ (I n) fun w10 u10 hm10=>?_
   have hS9:=hS8.trans hb9.stp
   have hS10:=u10.stp hS9 hrw hm10.1
   refine E5 ?_
   refine Y5 (by omega) hn3 ⟨σ8,_,hS10,le8,hm10,fun k=>?_,fun j hj=>?_⟩
   ·rw[Q56,Q9j hn3 k]
    by_cases e:(Q7 l)[n].name=k
    ·subst e
     rw[if_pos rfl,hfc];simp
    ·rw[if_neg e,hlm k]
     cases Y7 ((Q7 l).take n) k with
     | some i=>rfl
     | none=>simp[e]
   ·by_cases e:j=n
    ·subst e;rw[hna,hfc];rfl
    ·exact hnd j (by omega)
 have hn3: ¬n<(Q7 l).length:=by simpa using hh2
 have hne:n=(Q7 l).length:=by omega
 subst hne
 rw[List.take_of_length_le (Nat.le_refl _)] at hlm
 have hdup:St (Q7 l)=none:=by
  unfold St
  rw[List.find?_eq_none]
  intro j hj
  rw[hnd j (by simpa using hj)];simp
 rw[hdup] at h1 h0
 simp only at h1 h0
 have hown:=Is hdup
 obtain ⟨σ8,hS8,hm8,le8,_⟩:=hm7.keep hS7 hrw
 have le68:SLe σ6 σ8:=le7.more ⟨le8⟩
 have ht8:Tab σ8 (.pointer (some ⟨bt,0,none⟩)) (Q7 l):=⟨⟨bt,0,none⟩,x,r,m,rfl,hb6.lift le68,hv6.lift le68,hm8,hlm⟩
 have hb8:=hb6.lift le68
 have hv8:=hv6.lift le68
 clear hm7 hm8 hh2 hn3 hn2 hh hn' hn hnd
 have hdr:(Q7 l).drop 8=l:=by simp[Q7,hgl]
 rw[H7,fa]
 refine ld hS8.sat hb8 rfl ?_
 refine Gf hv8 (some (I (8:Nat))) none 8 (Q7 l).length (.inr rfl) (.inl ⟨rfl,rfl⟩) (by omega) (Nat.le_refl _) fun v9 hv9=>?_
 rw[hdr,List.take_of_length_le (by omega)] at hv9
 refine X0 hv9 ?_
 refine U3 l.length (fun n w'=> ∃σ',Stp w σ w' σ'∧SLe σ8 σ'∧M4 (fun c=>(M5 (Q7 l) c:Int)) l 0=M4 (fun c=>(M5 (Q7 l) c:Int)) (l.drop n) n) ⟨σ8,hS8,SLe.refl _,rfl⟩ fun n w6 d hn hinv=>?_
 obtain ⟨σ9,hS9,le9,hfu⟩:=hinv
 refine Z3 ?_
 refine Q5 (fun hh=>?_) (fun hh=>?_)
 ·have hn':n<l.length:=by simpa using hh
  refine M7 (hv9.lift le9) hn' fun p cells hl1 hl2 hr1=>?_
  refine Z1 hS9.sat hl1 hl2 ?_
  refine Y6 hS9.sat (by rfl) hl2 (Rep.one hr1) fun q w7 σ10 hk10 hq10=>?_
  have hS10:=hS9.trans hk10
  refine Z1 hk10.sat hq10 hl2 ?_
  have hfu2:=Vr hn' hfu
  refine X17 hk10.sat (ht8.lift (le9.more ⟨hk10.le⟩)) (RCl_lift hr1 ⟨hk10.le⟩) fun w8 σ11 hk11=>?_
  refine T4 ?_
  refine Q5 (fun hh2=>?_) (fun hh2=>?_)
  ·have hne: ¬(M5 (Q7 l) l[n]:Int)=0:=by simpa using hh2
   rw[if_neg hne] at hfu2
   refine h1 _ _ _ _ ?_ (hS10.trans hk11)
   rw[hfu2]
  ·have hz:(M5 (Q7 l) l[n]:Int)=0:=by simpa using hh2
   rw[if_pos hz] at hfu2
   refine E5 ?_
   exact Y5 hl3.max hn' ⟨σ11,hS10.trans hk11,le9.more ⟨fun b o e=>hk11.le _ _ (hk10.le _ _ e)⟩,hfu2⟩
 have hn': ¬n<l.length:=by simpa using hh
 rw[List.drop_eq_nil_of_le (by omega)] at hfu
 have hfu:M4 (fun c=>(M5 (Q7 l) c:Int)) l 0=none:=hfu
 rw[hfu] at h1 h0
 simp only at h1 h0
 have hup:=K1 hfu
 have ht9:=ht8.lift le9
 clear hh hn' hn
 rw[H7,fa]
 refine ld hS9.sat (hb8.lift le9) rfl ?_
 refine Gf (hv8.lift le9) (some (I (8:Nat))) none 8 (Q7 l).length (.inr rfl) (.inl ⟨rfl,rfl⟩) (by omega) (Nat.le_refl _) fun v10 hv10=>?_
 rw[hdr,List.take_of_length_le (by omega)] at hv10
 rw[Xh]
 refine Fh (K3 (Q7 l)) hS9.sat hv10 (fun c cs w7 K hc hs7 hr hlen hK=>X9 (first:=[.pointer (some ⟨bt,0,none⟩)]) (caps:=[]) ?_) fun w7 hb7=>?_
 ·exact X3n hs7 ht9 hlenall hsmall hr fun w' σ' hk=>hK w' hk.bel
 have hS10:=hS9.trans (Stp.of_below hS9.sat hb7)
 refine G5 ?_
 rw[Jt]
 cases hlo:l.findIdx? (K3 (Q7 l)) with
 | some i=>
  refine J8 ?_
  refine h1 _ _ _ _ ?_ hS10
  rw[hlo];rfl
 | none=>
  rw[hlo] at h1 h0
  simp only at h1 h0
  refine U6 ?_
  have hlo': ∀c∈l,K3 (Q7 l) c=false:=fun c hc=>List.findIdx?_eq_none_iff.1 hlo c hc
  have hacy:=Q6s hown (fun c hc=>(hcf c hc).2.2) hlo'
  have hfull:Full (Q7 l):=fun c hc u hu=>by
   rcases List.mem_append.1 hc with hc | hc
   ·rw[(Jb c hc).2.2] at hu;simp at hu
   ·have:=hup c hc
    unfold M5 at this
    split at this
    ·simp at this
    ·split at this
     ·simp at this
     ·rename_i hnb
      have hnb:c.like.any (E0 (Q7 l))=false:=eq_false_of_ne_true hnb
      have:=List.any_eq_false.1 hnb u hu
      unfold E0 at this
      cases hd:lk (Q7 l) u with
      | none=>rw[hd] at this;simp at this
      | some d=>exact ⟨d,rfl⟩
  have hok:Ok (Q7 l):=⟨hacy,hlenall,hsmall,hfull,hnmall⟩
  refine X2D (frm:=8) hS10.sat (ht9.lift ⟨(Stp.of_below hS9.sat hb7).le⟩) hacy hown hlenall hsmall (by omega) (by omega) fun v11 w8 σ11 hk11 hv11 hol hoi=>?_
  have hS11:=hS10.trans hk11
  have ht11:=ht9.lift ⟨fun b o e=>hk11.le _ _ e⟩
  refine X0 hv11 ?_
  have hil:(ints (V5 (Q7 l) 8)).length=(V5 (Q7 l) 8).length:=by simp
  rw[hil]
  refine U3 (V5 (Q7 l) 8).length (fun n w'=> ∃σ',Stp w σ w' σ'∧SLe σ11 σ'∧ ∀j∈(V5 (Q7 l) 8).take n,V8 (Q7 l) ((Q7 l).getD j Cla.zero)=0) ⟨σ11,hS11,SLe.refl _,by simp⟩ fun n w9 d hn hinv=>?_
  obtain ⟨σ12,hS12,le12,hno⟩:=hinv
  refine Z3 ?_
  refine Q5 (fun hh=>?_) (fun hh=>?_)
  ·have hn':n<(V5 (Q7 l) 8).length:=by simpa using hh
   refine M7 (hv11.lift le12) (by rw[hil];exact hn') fun p cells hl1 hl2 hr1=>?_
   obtain ⟨rfl,_⟩:=hr1
   refine Y0 hS12.sat hl1 rfl ?_
   simp only[List.getElem_map]
   rw[H7,fa]
   have le8x:SLe σ8 σ12:=le9.more (SLe.more ⟨hk11.le⟩ le12)
   refine ld hS12.sat (hb8.lift le8x) rfl ?_
   have hji:=hoi _ (List.getElem_mem hn')
   refine M7 (hv8.lift le8x) hji fun p2 cells hl1 hl2 hr1=>?_
   refine Z1 hS12.sat hl1 hl2 ?_
   have hat:(Q7 l).getD (V5 (Q7 l) 8)[n] Cla.zero=(Q7 l)[(V5 (Q7 l) 8)[n]]:=by rw[List.getD_eq_getElem?_getD,List.getElem?_eq_getElem hji];rfl
   have hmem:=List.getElem_mem hji
   refine X0P hS12.sat (ht11.lift le12) hok hr1 (hsmall _ hmem) (hnmall _ hmem) fun w10 σ13 hk13=>?_
   have hS13:=hS12.trans hk13
   refine T4 ?_
   refine Q5 (fun hh2=>?_) (fun hh2=>?_)
   ·have hne: ¬V8 (Q7 l) (Q7 l)[(V5 (Q7 l) 8)[n]]=0:=by simpa using hh2
    refine Rc ⟨by omega,by omega⟩ ?_
    have hfind:(V5 (Q7 l) 8).find? (fun j=> !decide (V8 (Q7 l) ((Q7 l).getD j Cla.zero)=0))=some (V5 (Q7 l) 8)[n]:=by
     rw[List.find?_eq_some_iff_getElem]
     refine ⟨by rw[hat];simpa using hne,n,hn',rfl,fun j hj=>?_⟩
     have:=hno _ (List.mem_take_iff_getElem.2 ⟨j,by omega,rfl⟩)
     rw[this];simp
    have:=h1 (((V5 (Q7 l) 8)[n]:Int)-8) (V8 (Q7 l) (Q7 l)[(V5 (Q7 l) 8)[n]]) w10 σ13 (by rw[hfind];simp only[hat]) hS13
    exact this
   ·have hz:V8 (Q7 l) (Q7 l)[(V5 (Q7 l) 8)[n]]=0:=by simpa using hh2
    refine E5 ?_
    refine Y5 (by omega) hn' ⟨σ13,hS13,le12.more ⟨hk13.le⟩,fun j hj=>?_⟩
    rw[List.take_add_one,List.getElem?_eq_getElem hn'] at hj
    rcases List.mem_append.1 hj with hj | hj
    ·exact hno j hj
    ·simp at hj;subst hj;rw[hat];exact hz
  ·have hn': ¬n<(V5 (Q7 l) 8).length:=by simpa using hh
   rw[List.take_of_length_le (by omega)] at hno
   have hfind:(V5 (Q7 l) 8).find? (fun j=> !decide (V8 (Q7 l) ((Q7 l).getD j Cla.zero)=0))=none:=by
    rw[List.find?_eq_none]
    intro j hj
    rw[hno j hj];simp
   rw[hfind] at h0
   exact h0 _ _ _ rfl hS12 (ht11.lift le12) hok hown)
end Go.Proofs.YtfppjenblllfaaaGreatDoor

namespace Go.Hm
open Go.Kd
def X06 (m:Hm.Met):Bool:= !(decide (50<m.code.length)||decide (8<m.params.length)||decide (8<m.catches.length))
def X1L (c:Cla):Bool:= !(decide (6<c.like.length)||decide (6<c.fields.length)||decide (6<c.methods.length))&&c.methods.all X06
def X1C (l:List Cla):Bool:= !decide (12<l.length)&&l.all X1L
def sB:Q8:=[66]
theorem Q9N {l:List Cla} (h:X1C l=true):l.length≤12∧ ∀c∈l,X1L c=true:=by
 simp only[X1C,Bool.and_eq_true,Bool.not_eq_true',decide_eq_false_iff_not,List.all_eq_true] at h
 exact ⟨by omega,h.2⟩
theorem X4y {l:List Cla} (h:X1C l=true): ∀c∈l,Qr c:=by
 intro c f
 have:=(Q9N h).2 c f
 simp only[X1L,X06,Bool.and_eq_true,Bool.not_eq_true',Bool.or_eq_false_iff,decide_eq_false_iff_not,List.all_eq_true] at this
 obtain ⟨⟨⟨a,b⟩,g⟩,d⟩:=this
 refine ⟨by omega,by omega,by omega,fun m e=>?_⟩
 obtain ⟨⟨p,q⟩,r⟩:=d m e
 exact ⟨by omega,by omega,by omega⟩
end Go.Hm
namespace Go.Proofs.YtfppjenblllfaaaGreatDoor
open Go.Emb Go.RowKit Go.Kd Go.Hm
variable {w : World} {K : Value → World → Prop} {σ : Q4} {v : Value} {l : List Cla}
end Go.Proofs.YtfppjenblllfaaaGreatDoor

namespace Go.Proofs.YtfppjenblllfaaaGreatDoor
open Go.Emb Go.RowKit Go.Kd Go.Hm
variable {w : World} {K : Value → World → Prop} {σ : Q4} {v : Value} {l : List Cla}
theorem X4U:P.underlying T.r=some (.pointer T.u):=by kernel_rfl
theorem X1n (d:Nat) (o:Option Addr):(Op.equalIn (d+1) T.r (.pointer o) (.pointer none)).run P w= .ok o.isNone w:=by
 cases o<;>simp[Op.equalIn,run_underlying X4U]
theorem X07 {a:Addr} {c b:Operand} (h:K (.bool false) w):Q3 P .eql T.r c b (.pointer (some a)) (.pointer none) w K:=by
 have e:(Op.equal T.r (.pointer (some a)) (.pointer none)).run P w= .ok false w:=X1n 9999 _
 unfold Q3
 rw[Y2 (v:= .bool false) (w':=w) (by simp[eqGuard,Go.binOp,e])]
 exact h
end Go.Proofs.YtfppjenblllfaaaGreatDoor

namespace Go.Hm
open Go.Kd
theorem Q6p {l:List Cla} {frm:Nat}: ∀(f:Nat) (out:List Nat) (i:Nat),(∀y∈out,y∈P2 l frm f out i)∧(0<f→frm≤i→i∈P2 l frm f out i):=by
 intro f
 induction f with
 | zero=>intro out i;exact ⟨fun y a=>a,fun h=>by omega⟩
 | succ f e=>
  intro out i
  have b: ∀(c:List Q8) (o:List Nat),∀y∈o,y∈c.foldl (fun out n=>P2 l frm f out ((Y7 l n).getD 0)) o:=by
   intro c
   induction c with
   | nil=>intro o y a;exact a
   | cons u r d=>intro o y a;exact d _ y ((e o _).1 y a)
  simp only[P2]
  split
  ·exact ⟨fun y a=>a,fun _ h=>by omega⟩
  ·split
   ·rename_i h;exact ⟨fun y a=>a,fun _ _=>h⟩
   ·exact ⟨fun y a=>List.mem_append_left _ (b _ _ y a),fun _ _=>by simp⟩
theorem X0h {l:List Cla} {frm i:Nat} (d:frm≤i) (e:i<l.length):i∈V5 l frm:=by
 unfold V5
 have key: ∀(is out:List Nat),(∀y∈out,y∈is.foldl (fun out i=>P2 l frm (l.length+1) out i) out)∧(i∈is→i∈is.foldl (fun out i=>P2 l frm (l.length+1) out i) out):=by
  intro is
  induction is with
  | nil=>intro out;exact ⟨fun y c=>c,fun h=>by simp at h⟩
  | cons a r b=>
   intro out
   refine ⟨fun y c=>(b _).1 y ((Q6p _ _ _).1 y c),fun h=>?_⟩
   rcases List.mem_cons.1 h with rfl | h
   ·exact (b _).1 _ ((Q6p _ _ _).2 (by omega) d)
   ·exact (b _).2 h
 refine (key _ _).2 ?_
 rw[List.mem_drop_iff_getElem]
 exact ⟨i-frm,by simp;omega,by simp;omega⟩
theorem clas_name {s:Q8} (h:W9 s=true):name s=true:=Nb (by rw[h,Bool.or_true])
theorem Q5R {a:Q8} (h:name a=true):L6 a=false:=by
 cases d:L6 a with
 | false=>rfl
 | true=>
  exfalso
  have e:2≤a.length∧a.drop (a.length-2)=[91,93]:=by simpa [L6] using d
  have b:(93:UInt8)∈a:=List.mem_of_mem_drop (i:=a.length-2) (by rw[e.2];simp)
  cases a with
  | nil=>simp at b
  | cons c r=>
   simp only[name,Bool.and_eq_true,List.all_eq_true] at h
   have:=h.2 _ b
   revert this;decide
end Go.Hm
namespace Go.Proofs.YtfppjenblllfaaaGreatDoor
open Go.Emb Go.RowKit Go.Kd Go.Hm
theorem X0E {a:Q8} (h:name a=true):base a=(a,0):=by rw[Ju,Q5R h];simp
theorem Hx {s:Q8} (h:W9 s=true):L6 s=false∧base s=(s,0)∧right s=true∧plain s=false∧elem s=[]∧s≠C3∧s≠[]:=by
 have d:=Hm.clas_name h
 have c:=Q5R d
 have a:=X0E d
 refine ⟨c,a,?_,?_,by simp[elem,c],?_,?_⟩
 ·simp[right,a,h]
 ·cases b:plain s with
  | false=>rfl
  | true=>
   simp only[plain,Bool.or_eq_true,decide_eq_true_eq] at b
   rcases b with (e | e) | e<;>subst e<;>revert h<;>decide
 ·rintro rfl;revert h;decide
 ·rintro rfl;revert h;decide
structure Wf (l : List Cla) : Prop where
  ck : ∀ c ∈ l, M6 c = 0
  own : K7 (Q7 l)
  acy : Zf (Q7 l)
  up : ∀ c ∈ l, M5 (Q7 l) c = 0
  mem : ∀ c ∈ l, V8 (Q7 l) c = 0
theorem X56 {l:List Cla} (h:Rw M6 l=none):Wf l:=by
 unfold Rw at h
 split at h
 ·cases h
 rename_i o
 split at h
 ·cases h
 rename_i j
 split at h
 ·cases h
 rename_i k
 split at h
 ·cases h
 rename_i m
 split at h
 ·cases h
 rename_i p
 have d:=K1 o
 have a:=Is j
 have g: ∀c∈l,K3 (Q7 l) c=false:=fun c b=>List.findIdx?_eq_none_iff.1 m c b
 refine ⟨d,a,Q6s a (fun c b=>(Bl (d c b)).2.2) g,fun c b=>by have:=K1 k c b;omega,fun c b=>?_⟩
 obtain ⟨i,n,rfl⟩:=List.getElem_of_mem b
 have f:G4.length=8:=rfl
 have:=List.find?_eq_none.1 p (8+i) (X0h (by omega) (by simp[Q7,f];omega))
 have e:(Q7 l).getD (8+i) Cla.zero=l[i]:=by
  rw[List.getD_eq_getElem?_getD,Q7,List.getElem?_append_right (by omega),f,show 8+i-8=i by omega,List.getElem?_eq_getElem n];rfl
 rw[e] at this
 simpa using this
section
variable {l : List Cla} (wf : Wf l)
include wf
theorem Wf.names {c:Cla} (hc:c∈Q7 l):W9 c.name=true:=by
 rcases List.mem_append.1 hc with hc | hc
 ·have: ∀c∈G4,W9 c.name=true:=by decide+kernel
  exact this c hc
 ·have:=wf.ck c hc
  unfold M6 at this
  split at this
  ·cases this
  ·split at this
   ·rename_i a
    simp only[Lj,Bool.and_eq_true] at a
    obtain ⟨⟨⟨⟨⟨⟨⟨⟨b,_⟩,_⟩,_⟩,_⟩,_⟩,_⟩,_⟩,_⟩:=a
    exact List.all_eq_true.1 b c.name (by simp)
   ·cases this
theorem Wf.lkn {n:Q8} {c:Cla} (h:lk (Q7 l) n=some c):W9 n=true:=by
 obtain ⟨e,a,_⟩:=V2 h
 rw[←e];exact wf.names a
theorem Wf.root:lk (Q7 l) J7=some ⟨J7,[],[],false,false,false,[],[]⟩:=wf.own.lk (c:=⟨J7,[],[],false,false,false,[],[]⟩) (List.mem_append_left _ (by decide))
theorem Wf.fault:lk (Q7 l) W4=some ⟨W4,J7,[],false,false,false,[⟨Qi,D7,false⟩],[]⟩:=wf.own.lk (c:=⟨W4,J7,[],false,false,false,[⟨Qi,D7,false⟩],[]⟩) (List.mem_append_left _ (by decide))
theorem Wf.super {c:Cla} (hc:c∈Q7 l):c.name=J7∨ ∃d,lk (Q7 l) c.super=some d:=by
 rcases List.mem_append.1 hc with hc | hc
 ·have: ∀c∈G4,c.name=J7∨c.super=J7∨c.super=W4:=by decide
  rcases this c hc with h | h | h
  ·exact .inl h
  ·exact .inr ⟨_,h▸wf.root⟩
  ·exact .inr ⟨_,h▸wf.fault⟩
 ·right
  have:=wf.up c hc
  unfold M5 at this
  split at this
  ·cases this
  ·rename_i h
   unfold Qp at h
   cases a:lk (Q7 l) c.super with
   | none=>rw[a] at h;simp at h
   | some d=>exact ⟨d,rfl⟩
theorem Wf.atRoot {b:Q8} (h:Hm.Reach (lk (Q7 l)) J7 b):b=J7:=by
 cases h with
 | refl=>rfl
 | step c a f=>
  rw[wf.root] at c;cases c
  simp[U2] at a;subst a
  obtain ⟨d,e⟩:=f.left
  exact absurd (wf.lkn e) (by decide)
theorem Wf.kind {n:Q8} {c:Cla} (h:lk (Q7 l) n=some c):R3 (Q7 l) n=true:=by
 obtain ⟨f,b,a,g,e,i,d⟩:=Hx (wf.lkn h)
 have:Q2Q (Q7 l) n=true:=by rw[Q4p,h];rfl
 simp[R3,a,b,this]
theorem Wf.sub_iff {a b:Q8}:O5 (Q7 l) a b=true↔R3 (Q7 l) a=true∧R3 (Q7 l) b=true∧(a=b∨(plain a=false∧plain b=false∧(a=C3∨(elem a≠[]∧b=J7)∨(lk (Q7 l) a≠none∧Hm.Reach (lk (Q7 l)) a b)))):=by
 unfold O5
 cases k:R3 (Q7 l) a<;>cases j:R3 (Q7 l) b<;>simp
 by_cases e:a=b
 ·simp[e]
 cases pa:plain a<;>cases m:plain b<;>simp[e]
 by_cases g:a=C3
 ·simp[g]
 simp only[g,false_or]
 by_cases d:elem a=[]
 ·simp only[d,if_true,not_true_eq_false,false_and,false_or,Ue]
  constructor
  ·intro h;obtain ⟨c,i⟩:=h.left;exact ⟨by rw[i];simp,h⟩
  ·intro h;exact h.2
 ·simp only[d,if_false,not_false_eq_true,true_and]
  constructor
  ·exact .inl
  ·rintro (h | ⟨h,_⟩)
   ·exact h
   ·cases f:lk (Q7 l) a with
    | none=>exact absurd f h
    | some c=>exact absurd (Hx (wf.lkn f)).2.2.2.2.1 d
theorem Wf.sub_class {a b:Q8} {c:Cla} (e:lk (Q7 l) a=some c):O5 (Q7 l) a b=true↔Hm.Reach (lk (Q7 l)) a b:=by
 obtain ⟨n,o,m,g,i,j,k⟩:=Hx (wf.lkn e)
 rw[wf.sub_iff]
 constructor
 ·rintro ⟨_,_,rfl | ⟨_,_,h | ⟨h,_⟩ | ⟨_,h⟩⟩⟩
  ·exact .refl e
  ·exact absurd h j
  ·exact absurd i h
  ·exact h
 ·intro h
  obtain ⟨d,f⟩:=h.right
  exact ⟨wf.kind e,wf.kind f, .inr ⟨g,(Hx (wf.lkn f)).2.2.2.1, .inr (.inr ⟨by rw[e];simp,h⟩)⟩⟩
end
end Go.Proofs.YtfppjenblllfaaaGreatDoor

namespace Go.Proofs.YtfppjenblllfaaaGreatDoor
open Go.Emb Go.RowKit Go.Kd Go.Hm
theorem Bx {L:List Cla} (i:Zf L): ∀(k:Nat) {n:Q8} {c:Cla},I7 L n<k→c∈chain L n→Hm.Reach (lk L) n c.name∧lk L c.name=some c:=by
 intro k
 induction k with
 | zero=>intro n c h;omega
 | succ k j=>
  intro n c p hc
  rw[K0 i] at hc
  cases a:lk L n with
  | none=>rw[a] at hc;simp at hc
  | some d=>
   rw[a] at hc
   have b:=(V2 a).1
   rcases List.mem_cons.1 hc with rfl | hc
   ·rw[b];exact ⟨.refl a,a⟩
   ·cases g:lk L d.super with
    | none=>rw[T6 g] at hc;simp at hc
    | some e=>
     have f:d.super∈U2 d:=by simp[U2]
     obtain ⟨m,o⟩:=j (by have:=Yw i a f g;omega) hc
     exact ⟨.step a f m,o⟩
section
variable {l : List Cla} (wf : Wf l)
include wf
end
end Go.Proofs.YtfppjenblllfaaaGreatDoor

namespace Go.Hm
open Go.Kd
structure Shp where
  seen : Bool
  stack : List Q8
  locals : List Q8
deriving DecidableEq
def Shp.zero:Shp:=⟨false,[],[]⟩
def Zd (l:List Cla) (a b:Q8):Q8:=if a=[]∨b=[] then [] else I4 l a b
def Mz (l:List Cla) (a b:Shp):Shp×Int:=
 if a.seen=false then (b,0) else if b.seen=false then (a,0)
 else if a.stack.length≠b.stack.length∨a.locals.length≠b.locals.length then (Shp.zero,75)
 else if (List.zipWith (I4 l) a.stack b.stack).any (fun s=>decide (s=[])) then (Shp.zero,75)
 else (⟨true,List.zipWith (I4 l) a.stack b.stack,List.zipWith (Zd l) a.locals b.locals⟩,0)
theorem Cq (l:List Cla):R3 l []=false:=by
 have:right []=false:=by decide
 simp[R3,this,C3]
theorem Q8A (l:List Cla) (a:Q8):O5 l a []=false:=by
 unfold O5;rw[Cq];simp
theorem Q8b (l:List Cla) (a:Q8):O5 l [] a=false:=by
 unfold O5;rw[Cq];simp
theorem X1q (l:List Cla) (a b:Q8):Zd l a b=I4 l a b:=by
 unfold Zd
 split
 ·rename_i h
  unfold I4
  rcases h with rfl | rfl
  ·rw[Q8b,Q8A,Cq];simp
  ·rw[Q8b,Q8A,Cq];simp
 ·rfl
end Go.Hm
namespace Go.Proofs.YtfppjenblllfaaaGreatDoor
open Go.Emb Go.RowKit Go.Kd Go.Hm
section
variable {l : List Cla} (wf : Wf l)
include wf
end
end Go.Proofs.YtfppjenblllfaaaGreatDoor

namespace Go.Emb
open Go.RowKit Go.Hm
def W8 (σ:Q4) (s:Shp) (cs:List Value):Prop:= ∃sv a,cs=[.bool s.seen,sv,a]∧Sl 1 X7 σ sv s.stack∧Sl 1 X7 σ a s.locals
instance:Rep W8:=⟨fun hk ⟨sv,lv,h1,h2,h3⟩=>⟨sv,lv,h1,h2.le hk,h3.le hk⟩,fun ⟨sv,lv,h1,h2,h3⟩ u hu=>by
 rw[h1] at hu;simp at hu;rcases hu with rfl | rfl | rfl
 ·rfl
 ·exact K4 h2
 ·exact K4 h3⟩
end Go.Emb
namespace Go.Proofs.YtfppjenblllfaaaGreatDoor
open Go.Emb Go.RowKit Go.Kd Go.Hm Go.ChangeShapes Go.WideShapes
section
variable {H : Type} {enc : TypeId × Value → H} {W : World} {cs : List Value} {fuel : Nat} {x : DataW H × List MemPlace} {v : Value} {d : DataW H} {p : List MemPlace}
def X4Z:Array Field:= #[⟨"Seen",T.p,0,false, "", "",0⟩,⟨"Stack",T.b,1,false, "", "",8⟩,⟨"Locals",T.b,2,false, "", "",32⟩]
theorem Q3H:P.underlying T.f=some (.struct X4Z):=by kernel_rfl
theorem X3O (h:DataW.trod enc P W 0 (fun _=>true) true fuel T.f cs=some x) (a:Wt P T.f x.1): ∃y,W8 (P8 W) y cs:=by
 obtain ⟨q,r,u,rfl⟩:=Q5x (Q3s Q3H (by kernel_rfl) h)
 obtain ⟨_,_,j,w0⟩:=C1 (o:=0) Q3H h a 0 rfl Q5U
 obtain ⟨_,_,e,w1⟩:=C1 (o:=1) Q3H h a 1 rfl (by kernel_rfl)
 obtain ⟨_,_,i,n⟩:=C1 (o:=2) Q3H h a 2 rfl (by kernel_rfl)
 obtain ⟨m,q0⟩:=Q7Y Fi j
 obtain ⟨t,k,b,l⟩:=Q1n (R:=X7) Q0P P1 (by decide) (fun _ _ _ h a=>Q3L X8 h a) e w1
 obtain ⟨s,f,c,g⟩:=Q1n (R:=X7) Q0P P1 (by decide) (fun _ _ _ h a=>Q3L X8 h a) i n
 simp at q0 b c
 subst q0 b c
 exact ⟨⟨m,k,f⟩,_,_,rfl,l,g⟩
set_option maxRecDepth 100000 in
theorem X4i {base:Nat} (b:Value.okWide P W .any base T.f v) (h:DataW.Trod enc P W 0 (fun _=>true) true T.f v d p) (e:Wt P T.f d): ∃y cs,v= .agg (List.toArray cs)∧W8 (P8 W) y cs:=by
 have a:=b
 unfold Value.okWide at a
 rw[Q3H] at a
 obtain ⟨cs,rfl,_⟩:=a
 unfold DataW.Trod at h
 obtain ⟨fuel,h⟩:=h
 obtain ⟨y,c⟩:=X3O h e
 obtain ⟨cs⟩:=cs
 exact ⟨y,cs,rfl,by simpa [Value.cells] using c⟩
set_option maxRecDepth 100000 in
theorem X3W {base:Nat} (b:Value.okWide P W .any base T.d v) (h:DataW.Trod enc P W 0 (fun _=>true) true T.d v d p) (e:Wt P T.d d): ∃y cs,v= .agg (List.toArray cs)∧M3 (P8 W) y cs:=by
 have a:=b
 unfold Value.okWide at a
 rw[Hl] at a
 obtain ⟨cs,rfl,_⟩:=a
 unfold DataW.Trod at h
 obtain ⟨fuel,h⟩:=h
 obtain ⟨y,c⟩:=X3X h e
 obtain ⟨cs⟩:=cs
 exact ⟨y,cs,rfl,by simpa [Value.cells] using c⟩
set_option maxRecDepth 100000 in
theorem X3S {base:Nat} (b:Value.okWide P W .any base T.k v) (h:DataW.Trod enc P W 0 (fun _=>true) true T.k v d p) (e:Wt P T.k d): ∃y cs,v= .agg (List.toArray cs)∧G9 (P8 W) y cs:=by
 have a:=b
 unfold Value.okWide at a
 rw[Q36] at a
 obtain ⟨cs,rfl,_⟩:=a
 unfold DataW.Trod at h
 obtain ⟨fuel,h⟩:=h
 obtain ⟨y,c⟩:=Q9T h e
 obtain ⟨cs⟩:=cs
 exact ⟨y,cs,rfl,by simpa [Value.cells] using c⟩
set_option maxRecDepth 100000 in
theorem X3o {base:Nat} (f:Value.okWide P W .any base T.b v) (h:DataW.Trod enc P W 0 (fun _=>true) true T.b v d p) (b:Wt P T.b d): ∃l,Sl 1 X7 (P8 W) v l:=by
 obtain ⟨a,n,c,rfl⟩:=WideShapes.okWide_slice Q0P f
 unfold DataW.Trod at h
 obtain ⟨fuel,h⟩:=h
 obtain ⟨u,l,e,g⟩:=Q1n (R:=X7) Q0P P1 (by decide) (fun _ _ _ h b=>Q3L X8 h b) h b
 simp[Value.cells] at e
 subst e
 exact ⟨l,g⟩
end
end Go.Proofs.YtfppjenblllfaaaGreatDoor

namespace Go.Proofs.YtfppjenblllfaaaGreatDoor
open Go.Emb Go.RowKit Go.Kd Go.Hm
variable {w : World} {K : Value → World → Prop} {σ : Q4}
end Go.Proofs.YtfppjenblllfaaaGreatDoor

namespace Go.Proofs.YtfppjenblllfaaaGreatDoor
open Go.Emb Go.RowKit Go.Kd Go.Hm
variable {w : World} {K : Value → World → Prop} {σ : Q4} {l : List Cla} {v : Value}
theorem Qq {n:Q8} (s:X4 w σ) (m:Sl 8 V4 σ v l) (h:K (I (L2 (Y7 l n))) w):Q0 P F.d [v,S n] w K:=Tq (by
 unfold Ov
 refine U3 l.length (fun k w'=>w'=w∧ ∀j (g:j<l.length),j<k→ ¬l[j].name=n) ⟨rfl,fun j _ h=>by omega⟩ fun k w1 d H r=>?_
 obtain ⟨rfl,b⟩:=r
 refine X0 m ?_
 refine Z3 ?_
 refine Q5 (fun i=>?_) (fun i=>?_)
 ·have a:k<l.length:=by simpa using i
  refine M7 m a fun p cells o q u=>?_
  obtain ⟨E,D,mv,rfl,C,B,z,A,y⟩:=u
  rw[fa]
  refine ld s o rfl ?_
  refine Ni ?_
  refine Q5 (fun f=>?_) (fun f=>?_)
  ·have f:l[k].name=n:=by simpa using f
   have:Y7 l n=some k:=by
    unfold Y7
    rw[List.findIdx?_eq_some_iff_getElem]
    exact ⟨a,by simpa using f,fun j g=>by simpa using b j (by omega) g⟩
   rw[this] at h
   exact h
  ·have f: ¬l[k].name=n:=by simpa using f
   refine E5 ?_
   refine Y5 m.max a ⟨rfl,fun j g t=>?_⟩
   by_cases e:j=k
   ·subst e;exact f
   ·exact b j g (by omega)
 ·have a: ¬k<l.length:=by simpa using i
  have:Y7 l n=none:=by
   unfold Y7
   rw[List.findIdx?_eq_none_iff]
   intro c i
   obtain ⟨j,g,rfl⟩:=List.getElem_of_mem i
   simpa using b j g (by omega)
  rw[this] at h
  exact h)
end Go.Proofs.YtfppjenblllfaaaGreatDoor

namespace Go.Proofs.YtfppjenblllfaaaGreatDoor
open Go.Emb Go.RowKit Go.Kd Go.Hm
variable {w : World} {K : Value → World → Prop} {σ : Q4} {l : List Cla} {v : Value}
theorem Q5K {a:Q8} (d:a.length≤Y9) (h:K (S (base a).1) w):Q0 P F.aT [S a] w K:=Ai (by
 unfold Ny
 have c:=Q1r a
 have b:a.length≤140737488355328:=by simp only[Y9] at d;omega
 rw[E7 X8]
 refine Q2A a b ?_
 (try simp only[↓Mr,Mr,Mb,reduceIte])
 rw[G1 (n:=2*((base a).2:Int)) (by omega) (by omega),G1 (by omega) (by omega),T8 X8 (by omega) (by omega)]
 rw[show ((a.length:Int)-2*((base a).2:Int)).toNat=a.length-2*(base a).2 from by omega,Q4S]
 exact h)
theorem X1j {s:Q8} (g:X4 w σ) (f:Sl 8 V4 σ v l) (b:s.length≤Y9) (h:K (.bool (R3 l s)) w):Q0 P F.bL [v,S s] w K:=Aa (by
 unfold Nt
 have c:s.length≤140737488355328:=by simp only[Y9] at b;omega
 unfold R3 at h
 refine Ni ?_
 by_cases a:s=C3
 ·have:decide (s=[110,117,108,108])=true:=by rw[decide_eq_true_eq];exact a
  simp only[this,↓M1,M1,Mb,reduceIte]
  simp only[a,decide_true,Bool.true_or] at h
  exact h
 ·have:decide (s=[110,117,108,108])=false:=by rw[decide_eq_false_iff_not];exact a
  simp only[this,↓M1,M1,Mb,reduceIte]
  simp only[a,decide_false,Bool.false_or] at h
  refine We s c ?_
  cases e:right s with
  | false=>(try simp only[↓M1,M1,Mb,reduceIte]);simpa [e] using h
  | true=>
   (try simp only[↓M1,M1,Mb,reduceIte])
   refine Q5K b ?_
   (try simp only[↓M1,M1,Mb,reduceIte])
   refine Q0v _ ?_
   simp only[e,Bool.true_and] at h
   cases d:plain (base s).1 with
   | true=>(try simp only[↓M1,M1,Mb,reduceIte]);simpa [d] using h
   | false=>
    (try simp only[↓M1,M1,Mb,reduceIte])
    refine Q5K b ?_
    (try simp only[↓M1,M1,Mb,reduceIte])
    refine Qq g f ?_
    refine G5 ?_
    rw[Jt]
    (try simp only[↓M1,M1,Mb,reduceIte])
    simpa [d,Q2Q] using h)
end Go.Proofs.YtfppjenblllfaaaGreatDoor

namespace Go.Proofs.YtfppjenblllfaaaGreatDoor
open Go.Emb Go.RowKit Go.Kd Go.Hm
variable {w : World} {K : Value → World → Prop} {σ : Q4} {l : List Cla} {v : Value}
theorem X0C {s:Q8} (d:X4 w σ) (c:Sl 8 V4 σ v l) (b:s.length≤Y9) (h:K (.bool (E9 l s)) w):Q0 P F.bD [v,S s] w K:=Pu (by
 unfold Ln
 unfold E9 at h
 refine I5 ?_
 have e:decide (s=[110,117,108,108])=decide (s=C3):=rfl
 rw[e]
 cases a:decide (s=C3) with
 | true=>
  rw[a] at h
  (try simp only[↓M1,M1,Mb,reduceIte])
  exact h
 | false=>
  rw[a] at h
  (try simp only[↓M1,M1,Mb,reduceIte])
  refine X1j d c b ?_
  (try simp only[↓M1,M1,Mb,reduceIte])
  simpa using h)
end Go.Proofs.YtfppjenblllfaaaGreatDoor

namespace Go.Proofs.YtfppjenblllfaaaGreatDoor
open Go.Emb Go.RowKit Go.Kd Go.Hm
variable {w : World} {K : Value → World → Prop} {σ : Q4} {l : List Cla} {v : Value}
def Sr (c:Cla) (n:Q8):Option Nat:=c.methods.findIdx? fun m=>decide (m.name=n)
theorem Q8f {c:Cla} {cs:List Value} {n:Q8} (A:X4 w σ) (r:V4 σ c cs) (h: ∀w' D,Stp w σ w' D→K (I (L2 (Sr c n))) w'):Q0 P F.ba [.agg cs.toArray,S n] w K:=Q16 (by
 unfold Ee
 obtain ⟨W,V,mv,rfl,R,Q,o,L,H⟩:=r
 refine Z0 A fun q w0 σ0 a t=>?_
 have o:=o.up a
 refine U3 c.methods.length (fun k w'=>w'=w0∧ ∀j (i:j<c.methods.length),j<k→ ¬c.methods[j].name=n) ⟨rfl,fun j _ h=>by omega⟩ fun k w1 d X z=>?_
 obtain ⟨rfl,f⟩:=z
 rw[fa]
 refine ld a.sat t rfl ?_
 refine X0 o ?_
 refine Z3 ?_
 refine Q5 (fun r=>?_) (fun r=>?_)
 ·have b:k<c.methods.length:=by simpa using r
  rw[fa]
  refine ld a.sat t rfl ?_
  refine M7 o b fun p cells s u C=>?_
  obtain ⟨pv,Y,M,rfl,U,N,O,E,J⟩:=C
  rw[fa]
  refine ld a.sat s rfl ?_
  refine Ni ?_
  refine Q5 (fun g=>?_) (fun g=>?_)
  ·have g:c.methods[k].name=n:=by simpa using g
   have:Sr c n=some k:=by
    unfold Sr
    rw[List.findIdx?_eq_some_iff_getElem]
    exact ⟨b,by simpa using g,fun j i=>by simpa using f j (by omega) i⟩
   rw[this] at h
   exact h _ _ a
  ·have g: ¬c.methods[k].name=n:=by simpa using g
   refine E5 ?_
   refine Y5 o.max b ⟨rfl,fun j i B=>?_⟩
   by_cases e:j=k
   ·subst e;exact g
   ·exact f j i (by omega)
 ·have b: ¬k<c.methods.length:=by simpa using r
  have:Sr c n=none:=by
   unfold Sr
   rw[List.findIdx?_eq_none_iff]
   intro m y
   obtain ⟨j,i,rfl⟩:=List.getElem_of_mem y
   simpa using f j i (by omega)
  rw[this] at h
  exact h _ _ a)
end Go.Proofs.YtfppjenblllfaaaGreatDoor

namespace Go.Proofs.YtfppjenblllfaaaGreatDoor
open Go.Emb Go.RowKit Go.Kd Go.Hm
variable {w : World} {K : Value → World → Prop} {σ : Q4} {l : List Cla} {v : Value}
theorem Bc {n:Q8} {d:Cla} (e:X4 w σ) (c:Sl 8 V4 σ v l) (b:lk l n=some d) (h: ∀i:Nat,l[i]? =some d→Y7 l n=some i→K (I i) w):Q0 P F.d [v,S n] w K:=by
 obtain ⟨_,_,i,a,f⟩:=V2 b
 refine Qq e c ?_
 rw[a];exact h i f a
theorem Q0o {n:Q8} (f:X4 w σ) (e:Sl 8 V4 σ v l) (b:lk l n=none) (h:K (I (-1)) w):Q0 P F.d [v,S n] w K:=by
 refine Qq f e ?_
 cases d:Y7 l n with
 | none=>exact h
 | some i=>obtain ⟨c,a,_⟩:=Jv d;rw[b] at a;cases a
end Go.Proofs.YtfppjenblllfaaaGreatDoor

namespace Go.Proofs.YtfppjenblllfaaaGreatDoor
open Go.Emb Go.RowKit Go.Kd Go.Hm
variable {w : World} {K : Value → World → Prop} {σ : Q4} {l : List Cla} {v : Value}
theorem X1z:decide ((-1:Int)<0)=true:=by decide
theorem Q6H (i:Nat):decide ((i:Int)<0)=false:=by rw[decide_eq_false_iff_not];omega
theorem Q9a {c:Cla} {cs:List Value} (hs:X4 w σ) (hl:Sl 8 V4 σ v l) (A:V4 σ c cs) (h: ∀w' σ',Stp w σ w' σ'→K (I (M5 l c)) w'):Q0 P F.bp [v, .agg cs.toArray] w K:=Fz (by
 unfold Wj
 obtain ⟨lv,fv,mv,rfl,z,f2,f3,f4,f5⟩:=A
 refine Z0 hs fun q w0 σ0 o O=>?_
 have z:=z.up o
 have b:=hl.up o
 have a:=o.sat
 have y: ∀n:Nat,M5 l c=n→K (I n) w0:=fun n e=>by rw[←e];exact h _ _ o
 clear h
 (try simp only[↓M1,M1,Mb,reduceIte])
 refine ld a O rfl ?_
 have m:Qp l c.super=true→K (I (61:Nat)) w0:=fun e=>y 61 (by unfold M5;rw[if_pos e])
 cases L:lk l c.super with
 | none=>
  refine Q0o a b L ?_
  simp only[X1z,↓M1,M1,Mb,reduceIte]
  exact m (by unfold Qp;rw[L])
 | some d=>
  refine Bc a b L fun i hi hf=>?_
  obtain ⟨s,Q⟩:=List.getElem?_eq_some_iff.1 hi
  simp only[Q6H,↓M1,M1,Mb,reduceIte]
  refine U9 b s ?_
  obtain ⟨V,ac,W,N,r1⟩:=b.elC s
  rw[Q] at N
  (try simp only[↓M1,M1,Mb,reduceIte])
  refine ld a N rfl ?_
  have g:Qp l c.super=(d.iface||d.fin):=by unfold Qp;rw[L]
  cases D:d.iface with
  | true=>
   rw[D] at g
   (try simp only[↓M1,M1,Mb,reduceIte])
   exact m (by rw[g];rfl)
  | false=>
   rw[D] at g
   (try simp only[↓M1,M1,Mb,reduceIte])
   refine U9 b s ?_
   (try simp only[↓M1,M1,Mb,reduceIte])
   refine ld a N rfl ?_
   cases E:d.fin with
   | true=>
    rw[E] at g
    (try simp only[↓M1,M1,Mb,reduceIte])
    exact m (by rw[g];rfl)
   | false=>
    rw[E] at g
    have C:Qp l c.super=false:=g
    (try simp only[↓M1,M1,Mb,reduceIte])
    refine U3 c.like.length (fun k w'=>w'=w0∧(c.like.take k).any (E0 l)=false) ⟨rfl,rfl⟩ fun k w1 d1 hk M=>?_
    obtain ⟨hw,t⟩:=M
    subst hw
    (try simp only[↓M1,M1,Mb,reduceIte])
    refine ld a O rfl ?_
    refine X0 z ?_
    refine Z3 ?_
    refine Q5 (fun A=>?_) (fun A=>?_)
    ·have f:k<c.like.length:=by simpa using A
     have r:E0 l c.like[k]=true→K (I (62:Nat)) w1:=fun e=>y 62 (by
      unfold M5;rw[C,B7 f e];rfl)
     have u:E0 l c.like[k]=false→(c.like.take (k+1)).any (E0 l)=false:=fun e=>by rw[N5 f,t,e];rfl
     (try simp only[↓M1,M1,Mb,reduceIte])
     refine ld a O rfl ?_
     refine U9 z f ?_
     obtain ⟨p2,_⟩:=z.elS f
     refine Y0 a p2 rfl ?_
     cases J:lk l c.like[k] with
     | none=>
      refine Q0o a b J ?_
      simp only[X1z,↓M1,M1,Mb,reduceIte]
      exact r (by unfold E0;rw[J])
     | some e=>
      refine Bc a b J fun j hj ah=>?_
      obtain ⟨B,R⟩:=List.getElem?_eq_some_iff.1 hj
      simp only[Q6H,↓M1,M1,Mb,reduceIte]
      refine U9 b B ?_
      obtain ⟨Y,Z,X,U,r3⟩:=b.elC B
      rw[R] at U
      (try simp only[↓M1,M1,Mb,reduceIte])
      refine ld a U rfl ?_
      have p:E0 l c.like[k]= !e.iface:=by unfold E0;rw[J]
      cases H:e.iface with
      | true=>
       rw[H] at p
       (try simp only[↓M1,M1,Mb,reduceIte])
       exact Y5 z.max f ⟨rfl,u p⟩
      | false=>
       rw[H] at p
       (try simp only[↓M1,M1,Mb,reduceIte])
       exact r p
    ·have f: ¬k<c.like.length:=by simpa using A
     rw[E4 f] at t
     exact y 0 (by unfold M5;rw[C,t];rfl))
end Go.Proofs.YtfppjenblllfaaaGreatDoor

namespace Go.Proofs.YtfppjenblllfaaaGreatDoor
open Go.Emb Go.RowKit Go.Kd Go.Hm
variable {w : World} {K : Value → World → Prop} {σ : Q4} {l : List Cla} {v : Value}
theorem Q7d {n:Q8} (h:lk l n=none):U4 l n=[]:=by unfold U4;rw[T6 h];rfl
theorem Q7C (a:Zf l) {n:Q8} {c:Cla} (h:lk l n=some c):U4 l n=U4 l c.super++c.fields:=by
 unfold U4
 rw[K0 a,h]
 simp
theorem Q9o (a: ∀c∈l,Qr c) (n:Q8):(U4 l n).length≤(l.length+1)*1000000:=by
 unfold U4
 have b:=Va (fun c:Cla=>c.fields) 1000000 (chain l n).reverse fun c d=>(a c (Ct (by simpa using d))).2.1
 have e:=Bb l n
 rw[List.length_reverse] at b
 exact Nat.le_trans b (Nat.mul_le_mul_right _ e)
theorem Q28 {n:Q8} (a:lk l n=none) (d:X4 w σ) (e:Sl 8 V4 σ v l) (h: ∀b w' c,Stp w σ w' c→Sl 3 H0 c b (U4 l n)→K b w'):Q0 P F.a3 [v,S n] w K:=Wk (by
 unfold Xi
 refine Q0o d e a ?_
 simp only[X1z,↓M1,M1,Mb,reduceIte]
 exact h _ _ _ (Stp.refl d) (by rw[Q7d a];exact Sl.nil))
theorem Q7P (p:Zf l) (hl:l.length≤1000) (g: ∀c∈l,Qr c): ∀(k:Nat) {n:Q8} {w:World} {σ:Q4} {K:Value→World→Prop},(lk l n=none∨I7 l n<k)→X4 w σ→Sl 8 V4 σ v l→
 (∀f w' m,Stp w σ w' m→Sl 3 H0 m f (U4 l n)→K f w')→Q0 P F.a3 [v,S n] w K:=by
 intro k
 induction k with
 | zero=>
  intro n w σ K hk j a h
  rcases hk with hk | hk
  ·exact Q28 hk j a h
  ·omega
 | succ k ih=>
  intro n w σ K hk j a h
  cases b:lk l n with
  | none=>exact Q28 b j a h
  | some c=>
   have hk:I7 l n<k+1:=by
    rcases hk with hk | hk
    ·rw[b] at hk;cases hk
    ·exact hk
   refine Wk ?_
   unfold Xi
   refine Bc j a b fun i hi hf=>?_
   obtain ⟨z,L⟩:=List.getElem?_eq_some_iff.1 hi
   simp only[Q6H,↓M1,M1,Mb,reduceIte]
   obtain ⟨lv,fv,mv,V,O⟩:=a.elC z
   rw[L] at V O
   obtain ⟨_,g2,_,_,_⟩:=O.parts
   have E:lk l c.super=none∨I7 l c.super<k:=by
    cases W:lk l c.super with
    | none=>exact .inl rfl
    | some d=>
     have:=Yw p b (u:=c.super) (by simp[U2]) W
     right;omega
   have an:=Q9o g c.super
   have U:=(g c (V2 b).2.1).2.1
   have N:(l.length+1)*1000000≤1001*1000000:=Nat.mul_le_mul_right _ (by omega)
   refine V0 j ?_
   (repeat refine J3 Xt ?_)
   refine Q9y (R:=H0) (by decide) ?_
   (repeat refine J3 Xt ?_)
   refine Ra (w:=w) (σ:=σ) (Φ:=fun m v=>Sl 3 H0 m v (U4 l c.super)) (fun t w o e=>?_) ?_
   ·subst e;exact ih E o.sat a fun f w' m hk B=>Q0s o hk B
   refine Q1s (w:=w) (σ:=σ) (R:=H0) (sz:=3) (e:=T.l) (U4 l c.super) (fun s y w o J H=>?_) ?_
   ·obtain ⟨X,a1,e1⟩:=J
    obtain ⟨σ2,k2,s2⟩:=H
    exact X3w X a1 e1 k2.sat s2 (fun _ _ h=>h) rfl (by omega) (by omega) fun f w' hk p=>Q3p o hk p
   (repeat refine J3 Xt ?_)
   rintro Q Y Z ac s ad y ag ae w2 ai rfl rfl rfl rfl _ rfl _ ⟨r,A⟩ rfl
   refine Hu r A g2 rfl (by omega) (by omega) fun f w3 ak D q _=>?_
   obtain ⟨σ4,M,C,_⟩:=q.keep D
   exact h _ _ _ M (by rw[Q7C p b];exact C)
theorem Q9b {n:Q8} (i:X4 w σ) (e:Sl 8 V4 σ v l) (g:Zf l) (f:l.length≤1000) (a: ∀c∈l,Qr c) (h: ∀b w' d,Stp w σ w' d→Sl 3 H0 d b (U4 l n)→K b w'):Q0 P F.a3 [v,S n] w K:=
 Q7P g f a _ (.inr (Nat.lt_succ_self _)) i e h
theorem X0A {n f:Q8} (E:X4 w σ) (C:Sl 8 V4 σ v l) (J:Zf l) (A:l.length≤1000) (t: ∀c∈l,Qr c) (h: ∀w' L,Stp w σ w' L→K (I (L2 (F5 l n f))) w'):Q0 P F.bC [v,S n,S f] w K:=Ki (by
 unfold Lp
 refine Q9b E C J A t fun M w1 σ1 r b=>?_
 have s: ∀o,F5 l n f=o→K (I (L2 o)) w1:=fun o e=>by rw[←e];exact h _ _ r
 unfold F5 at s
 generalize U4 l n=i at b s
 refine U3 i.length (fun k w'=>w'=w1∧ ∀j (q:j<i.length),j<k→ ¬i[j].name=f) ⟨rfl,fun j _ h=>by omega⟩ fun k O d N B=>?_
 obtain ⟨D,g⟩:=B
 subst D
 refine X0 b ?_
 refine Z3 ?_
 refine Q5 (fun u=>?_) (fun u=>?_)
 ·have a:k<i.length:=by simpa using u
  refine U9 b a ?_
  obtain ⟨y,_⟩:=b.elF a
  (try simp only[↓M1,M1,Mb,reduceIte])
  refine ld r.sat y rfl ?_
  refine Ni ?_
  refine Q5 (fun p=>?_) (fun p=>?_)
  ·have p:i[k].name=f:=by simpa using p
   exact s (some k) (by
    rw[List.findIdx?_eq_some_iff_getElem]
    exact ⟨a,by simpa using p,fun j q=>by simpa using g j (by omega) q⟩)
  ·have p: ¬i[k].name=f:=by simpa using p
   (try simp only[↓M1,M1,Mb,reduceIte])
   refine Y5 b.max a ⟨rfl,fun j q H=>?_⟩
   by_cases e:j=k
   ·subst e;exact p
   ·exact g j q (by omega)
 ·have a: ¬k<i.length:=by simpa using u
  exact s none (by
   rw[List.findIdx?_eq_none_iff]
   intro m z
   obtain ⟨j,q,rfl⟩:=List.getElem_of_mem z
   simpa using g j q (by omega)))
end Go.Proofs.YtfppjenblllfaaaGreatDoor

namespace Go.Proofs.YtfppjenblllfaaaGreatDoor
open Go.Emb Go.RowKit Go.Kd Go.Hm
variable {w : World} {K : Value → World → Prop} {σ : Q4} {l : List Cla} {v : Value}
theorem Q54 {c:Cla} {n:Q8} (h:Sr c n=none):H1 c n=none:=by
 unfold H1 Sr at*
 rw[List.findIdx?_eq_none_iff] at h
 rw[List.find?_eq_none]
 intro m a
 have:=h m a
 simpa using this
theorem Q87 {c:Cla} {n:Q8} {i:Nat} (h:Sr c n=some i): ∃a:i<c.methods.length,H1 c n=some c.methods[i]:=by
 unfold H1 Sr at*
 obtain ⟨a,d,e⟩:=List.findIdx?_eq_some_iff_getElem.1 h
 refine ⟨a,List.find?_eq_some_iff_getElem.2 ⟨d,i,a,rfl,fun j b=>?_⟩⟩
 have:=e j b
 simpa using this
theorem Q4G {n:Q8} (h:lk l n=none):Y7 l n=none:=by
 cases b:Y7 l n with
 | none=>rfl
 | some i=>obtain ⟨c,a,_⟩:=Jv b;rw[h] at a;cases a
set_option maxHeartbeats 1000000 in
theorem X0D {n:Q8} (ok:Ok l): ∀(k:Nat) {c:Cla} {cs:List Value} {w:World} {σ:Q4} {K:Value→World→Prop},I7 l c.name<k→lk l c.name=some c→X4 w σ→Sl 8 V4 σ v l→V4 σ c cs→
 (∀pv cv hv w' Z,Stp w σ w' Z→M3 Z (o2 (V3 l c n)) [S (o2 (V3 l c n)).name,pv,S (o2 (V3 l c n)).result, .bool (o2 (V3 l c n)).abs,I (o2 (V3 l c n)).locals,cv,hv]→
  K (.tuple #[S (o1 (V3 l c n)), .agg [S (o2 (V3 l c n)).name,pv,S (o2 (V3 l c n)).result, .bool (o2 (V3 l c n)).abs,I (o2 (V3 l c n)).locals,cv,hv].toArray, .bool (V3 l c n).isSome]) w')→
 Q0 P F.aM [v, .agg cs.toArray,S n] w K:=by
 intro k
 induction k with
 | zero=>
  intro c cs w σ K hk
  omega
 | succ k ih=>
  intro c cs w σ K hk hc hs hv hr h
  refine Im ?_
  obtain ⟨lv,fv,mv,rfl,g1,g2,g3,g4,g5⟩:=hr
  have H:=Q4U ok.acy hc n
  generalize hf:(fun u=>match lk l u with | none=>none | some d=>match H1 d n with | some m=>some (u,m) | none=>V3 l d n)=f at H
  unfold Nk
  refine Z0 hs fun a w1 σ1 E ar=>?_
  refine P3 E.sat fun b w2 σ2 hb M ax=>?_
  have N:w.heap.size≤b:=Jh hb E
  have a5:=ar.up M
  have g1:=(g1.up E).up M
  refine U3 c.like.length (fun i w'=> ∃Z,Stp w σ w' Z∧SLe σ2 Z∧Z7 Z w' b [S [], .slice none 0 0,S [], .bool false,I 0, .slice none 0 0, .slice none 0 0]∧(c.like.take i).findSome? f=none) ⟨σ2,E.trans M,SLe.refl _,ax,rfl⟩ fun i w3 d hi ag=>?_
  obtain ⟨σ3,e,L,aa,A⟩:=ag
  have W:=hv.up e
  have R:=a5.lift L
  have D:=g1.lift L
  (try simp only[↓M1,M1,Mb,reduceIte])
  refine ld e.sat R rfl ?_
  refine X0 D ?_
  refine Z3 ?_
  refine Q5 (fun hh=>?_) (fun hh=>?_)
  ·have g:i<c.like.length:=by simpa using hh
   (try simp only[↓M1,M1,Mb,reduceIte])
   refine ld e.sat R rfl ?_
   refine U9 D g ?_
   obtain ⟨p0,_⟩:=D.elS g
   refine Y0 e.sat p0 rfl ?_
   obtain ⟨d,hd⟩:=ok.full c (V2 hc).2.1 _ (List.getElem_mem g)
   obtain ⟨Q,bq,_⟩:=V2 hd
   have t:f c.like[i]=match H1 d n with | some m=>some (c.like[i],m) | none=>V3 l d n:=by rw[←hf];simp only[hd]
   refine Bc e.sat W hd fun j hj bl=>?_
   obtain ⟨ab,aw⟩:=List.getElem?_eq_some_iff.1 hj
   refine U9 W ab ?_
   obtain ⟨bp,bn,br,p1,r1⟩:=W.elC ab
   rw[aw] at p1 r1
   refine Z1 e.sat p1 rfl ?_
   refine Y6 e.sat (by rfl) rfl (Rep.one r1) fun q w4 σ4 o O=>?_
   refine Z1 o.sat O rfl ?_
   refine Q8f o.sat (RCl_lift r1 ⟨o.le⟩) fun w5 σ5 p=>?_
   refine G5 ?_
   rw[Jt]
   have z:=(e.trans o).trans p
   have C:=(aa.step o).step p
   have a2:=O.up p
   have r5:=RCl_lift r1 ⟨(o.trans p).le⟩
   have X:=p.sat
   have a0:SLe σ2 σ5:=L.more ⟨(o.trans p).le⟩
   clear O p1 r1 p0 R D o p
   cases ho:Sr d n with
   | some i2=>
    obtain ⟨a4,a7⟩:=Q87 ho
    rw[a7] at t
    simp only[Option.isSome_some,L2,↓M1,M1,Mb,reduceIte]
    obtain ⟨_,_,az,_,_⟩:=r5.parts
    obtain ⟨pv,cv,bv,p2,r2⟩:=az.elM a4
    refine V0 X ?_
    (repeat refine J3 Xt ?_)
    (intros;(repeat (rename_i hx;subst hx));(try simp only[↓M2,M2,Mb,reduceIte]))
    rename_i w6 af
    refine Qz (C.step af.stp) (z.trans af.stp) N rfl rfl (Rep.one r2) fun w8 aq a6=>?_
    refine W7 a6 rfl ?_
    have U:=H.trans (Xd g A t)
    rw[U] at h
    rw[Q]
    exact h _ _ _ w8 σ5 aq.stp r2
   | none=>
    rw[Q54 ho] at t
    simp only[Option.isSome_none,↓M1,M1,Mb,reduceIte]
    refine Z1 X a2 rfl ?_
    have bw:=Yw ok.acy hc (by simp[U2,List.getElem_mem g]:c.like[i]∈U2 c) hd
    refine ih (by rw[Q];omega) (by rw[Q];exact hd) X (hv.up z) r5 fun pv cv bu w8 σ8 B Y=>?_
    refine Z8 (vs:=[_,_,_]) rfl ?_
    refine Z8 (vs:=[_,_,_]) rfl ?_
    refine Z8 (vs:=[_,_,_]) rfl ?_
    refine Y6 B.sat (by rfl) rfl (Rep.one Y) fun q w9 σ9 y a9=>?_
    have ad:=(z.trans B).trans y
    have ak:=(C.step B).step y
    have V:=RMe_lift Y ⟨y.le⟩
    have av:SLe σ2 σ9:=a0.more ⟨(B.trans y).le⟩
    have ba:=y.sat
    cases U:V3 l d n with
    | some r=>
     obtain ⟨s,m⟩:=r
     rw[U] at t V a9
     clear Y B y
     simp only[U,Option.isSome_some,↓M1,M1,Mb,reduceIte]
     refine V0 ba ?_
     (repeat refine J3 Xt ?_)
     (intros;(repeat (rename_i hx;subst hx));(try simp only[↓M2,M2,Mb,reduceIte]))
     rename_i b0 J
     refine Qz (ak.step J.stp) (ad.trans J.stp) N rfl rfl (Rep.one V) fun ap ah ai=>?_
     refine W7 ai rfl ?_
     have ao:=H.trans (Xd g A t)
     rw[ao] at h
     exact h _ _ _ ap σ9 ah.stp V
    | none=>
     rw[U] at t
     simp only[Option.isSome_none,↓M1,M1,Mb,reduceIte]
     refine Y5 (by have:=g1.max;omega) g ⟨σ9,ad,av,ak,?_⟩
     rw[Xn g A];exact t
  ·have g: ¬i<c.like.length:=by simpa using hh
   rw[List.take_of_length_le (by omega)] at A
   refine Rh ?_
   refine Qz aa e N rfl rfl (Rep.one (Qn (σ:=σ3))) fun w5 z C=>?_
   refine W7 C rfl ?_
   have U:=H.trans A
   rw[U] at h
   exact h _ _ _ w5 σ3 z.stp Qn
set_option maxHeartbeats 1000000 in
theorem Q9G {k n:Q8} (hs:X4 w σ) (hv:Sl 8 V4 σ v l) (ok:Ok l)
 (h: ∀pv cv hv w' O,Stp w σ w' O→M3 O (o2 (Z9 l k n)) [S (o2 (Z9 l k n)).name,pv,S (o2 (Z9 l k n)).result, .bool (o2 (Z9 l k n)).abs,I (o2 (Z9 l k n)).locals,cv,hv]→
  K (.tuple #[S (o1 (Z9 l k n)), .agg [S (o2 (Z9 l k n)).name,pv,S (o2 (Z9 l k n)).result, .bool (o2 (Z9 l k n)).abs,I (o2 (Z9 l k n)).locals,cv,hv].toArray, .bool (Z9 l k n).isSome]) w'):
 Q0 P F.bq [v,S k,S n] w K:=Fm (by
 unfold Wy
 refine P3 hs fun b w1 σ1 hb aa av=>?_
 refine Qq aa.sat (hv.up aa) ?_
 unfold Z9 at h
 generalize hF:(fun c:Cla=>(H1 c n).map (c.name,·))=F1 at h
 have ag: ∀c,F1 c=(H1 c n).map (c.name,·):=fun c=>by rw[←hF]
 refine Kn (fun m x w'=> ∃s H O,m=(chain l s).length∧x=I (L2 (Y7 l s))∧chain l k=H++chain l s∧Stp w σ w' O∧Z7 O w' b [S [], .slice none 0 0,S [], .bool false,I 0, .slice none 0 0, .slice none 0 0]∧H.findSome? F1=none)
  (chain l k).length ⟨k,[],σ1,rfl,rfl,rfl,aa,av,rfl⟩ ?_
 rintro ac m x d w2 ⟨s,H,σ2,rfl,rfl,f,C,ai,e⟩ J
 have D:=hv.up C
 have R:=C.sat
 refine G5 ?_
 rw[Jt]
 cases A:lk l s with
 | some c=>
  obtain ⟨ak,a4,i,U,Y⟩:=V2 A
  obtain ⟨p,W⟩:=List.getElem?_eq_some_iff.1 Y
  simp only[U,Option.isSome_some,L2,↓M1,M1,Mb,reduceIte]
  refine U9 D p ?_
  obtain ⟨lv,fv,mv,y,L⟩:=D.elC p
  rw[W] at y L
  refine Z1 R y rfl ?_
  refine Q8f R L fun w3 σ3 o=>?_
  refine G5 ?_
  rw[Jt]
  have t:=C.trans o
  have j:=D.up o
  have z:=ai.step o
  have u:=o.sat
  replace y:=y.up o
  replace L:=RCl_lift L ⟨o.le⟩
  have g:chain l s=c::chain l c.super:=by rw[K0 ok.acy s,A]
  cases Q:Sr c n with
  | some i2=>
   obtain ⟨ax,a1⟩:=Q87 Q
   simp only[Option.isSome_some,L2,↓M1,M1,Mb,reduceIte]
   obtain ⟨_,_,a3,_,_⟩:=L.parts
   obtain ⟨pv,cv,bj,p2,r2⟩:=a3.elM ax
   clear o
   refine V0 u ?_
   (repeat refine J3 Xt ?_)
   (intros;(repeat (rename_i hx;subst hx));(try simp only[↓M2,M2,Mb,reduceIte]))
   rename_i w4 ah
   refine Qz (z.step ah.stp) (t.trans ah.stp) hb rfl rfl (Rep.one r2) fun w8 aw a0=>?_
   refine W7 a0 rfl ?_
   have E:(chain l k).findSome? F1=some (c.name,c.methods[i2]):=by
    rw[f,List.findSome?_append,e,g,List.findSome?_cons,ag,a1];rfl
   rw[E] at h
   exact h _ _ _ w8 σ3 aw.stp r2
  | none=>
   simp only[Option.isSome_none,↓M1,M1,Mb,reduceIte]
   refine U9 j p ?_
   (try simp only[↓M1,M1,Mb,reduceIte])
   refine ld u y rfl ?_
   refine Qq u j ?_
   refine J (chain l c.super).length _ _ (by rw[g,List.length_cons];omega) ⟨c.super,H++[c],σ3,rfl,rfl,by rw[f,g];simp,t,z,?_⟩
   rw[List.findSome?_append,e]
   simp[ag,Q54 Q]
 | none=>
  rw[Q4G A]
  simp only[Option.isSome_none,↓M1,M1,Mb,reduceIte]
  have ao:(chain l k).findSome? F1=none:=by rw[f,T6 A,List.append_nil];exact e
  rw[ao] at h
  clear J e f
  refine Qq R D ?_
  refine Kn (fun m x w'=> ∃s H O,m=(chain l s).length∧x=I (L2 (Y7 l s))∧chain l k=H++chain l s∧Stp w σ w' O∧Z7 O w' b [S [], .slice none 0 0,S [], .bool false,I 0, .slice none 0 0, .slice none 0 0]∧H.findSome? (fun c=>V3 l c n)=none)
   (chain l k).length ⟨k,[],σ2,rfl,rfl,rfl,C,ai,rfl⟩ ?_
  rintro ac m x d w3 ⟨s,H,σ3,rfl,rfl,f,t,z,e⟩ J
  have j:=hv.up t
  have u:=t.sat
  refine G5 ?_
  rw[Jt]
  cases A:lk l s with
  | some c=>
   obtain ⟨ak,a4,i,U,Y⟩:=V2 A
   obtain ⟨p,W⟩:=List.getElem?_eq_some_iff.1 Y
   simp only[U,Option.isSome_some,L2,↓M1,M1,Mb,reduceIte]
   refine U9 j p ?_
   obtain ⟨lv,fv,mv,y,L⟩:=j.elC p
   rw[W] at y L
   refine Z1 u y rfl ?_
   have g:chain l s=c::chain l c.super:=by rw[K0 ok.acy s,A]
   refine X0D ok _ (Nat.lt_succ_self _) (by rw[ak];exact A) u j L fun pv cv ba w8 σ8 Z X=>?_
   refine Z8 (vs:=[_,_,_]) rfl ?_
   refine Z8 (vs:=[_,_,_]) rfl ?_
   refine Z8 (vs:=[_,_,_]) rfl ?_
   refine Y6 Z.sat (by rfl) rfl (Rep.one X) fun q w9 σ9 B a5=>?_
   have a:=Z.trans B
   have aj:=t.trans a
   have an:=z.step a
   have V:=RMe_lift X ⟨B.le⟩
   have ab:=B.sat
   have al:=j.up a
   replace y:=y.up a
   cases Q:V3 l c n with
   | some r=>
    obtain ⟨s,m⟩:=r
    rw[Q] at V a5
    clear X Z B a
    simp only[Q,Option.isSome_some,↓M1,M1,Mb,reduceIte]
    refine V0 ab ?_
    (repeat refine J3 Xt ?_)
    (intros;(repeat (rename_i hx;subst hx));(try simp only[↓M2,M2,Mb,reduceIte]))
    rename_i bi M
    refine Qz (an.step M.stp) (aj.trans M.stp) hb rfl rfl (Rep.one V) fun ar ae af=>?_
    refine W7 af rfl ?_
    have E:(chain l k).findSome? (fun c=>V3 l c n)=some (s,m):=by
     rw[f,List.findSome?_append,e,g,List.findSome?_cons,Q];rfl
    unfold V3 at E
    rw[E] at h
    exact h _ _ _ ar σ9 ae.stp V
   | none=>
    simp only[Option.isSome_none,↓M1,M1,Mb,reduceIte]
    refine U9 al p ?_
    (try simp only[↓M1,M1,Mb,reduceIte])
    refine ld ab y rfl ?_
    refine Qq ab al ?_
    refine J (chain l c.super).length _ _ (by rw[g,List.length_cons];omega) ⟨c.super,H++[c],σ9,rfl,rfl,by rw[f,g];simp,aj,an,?_⟩
    rw[List.findSome?_append,e]
    simp[Q]
  | none=>
   rw[Q4G A]
   simp only[Option.isSome_none,↓M1,M1,Mb,reduceIte]
   have N:(chain l k).findSome? (fun c=>V3 l c n)=none:=by rw[f,T6 A,List.append_nil];exact e
   refine Rh ?_
   refine Qz z t hb rfl rfl (Rep.one (Qn (σ:=σ3))) fun w7 a6 az=>?_
   refine W7 az rfl ?_
   unfold V3 at N
   rw[N] at h
   exact h _ _ _ w7 σ3 a6.stp Qn)
end Go.Proofs.YtfppjenblllfaaaGreatDoor

namespace Go.Hm
open Go.Kd
theorem Q21: ∀(xs:List Q8) (x:Q8),xs≠[]→D0 (xs++[x])=D0 xs++[44]++x
 | [],_,h=>absurd rfl h
 | [a],x,_=>by simp[D0]
 | a::b::r,x,_=>by
  have:=Q21 (b::r) x (by simp)
  simp only[List.cons_append] at this⊢
  simp only[D0,this]
  simp
theorem Q2m {xs:List Q8} {n:Nat} (h:n<xs.length):D0 (xs.take (n+1))=D0 (xs.take n)++(if 0<n then [44] else [])++xs[n]:=by
 rw[List.take_add_one,List.getElem?_eq_getElem h]
 simp only[Option.toList_some]
 cases n with
 | zero=>simp[D0]
 | succ n=>
  rw[Q21 _ _ (by intro e;have:=congrArg List.length e;simp only[List.length_take,List.length_nil] at this;omega)]
  simp
end Go.Hm
namespace Go.Proofs.YtfppjenblllfaaaGreatDoor
open Go.Emb Go.RowKit Go.Kd Go.Hm
variable {w : World} {K : Value → World → Prop} {σ : Q4} {l : List Cla} {v : Value}
theorem Q5I {m:Hm.Met} {cs:List Value} (B:X4 w σ) (y:M3 σ m cs) (k:SmM m) (r:NmM m) (h: ∀w' D,Stp w σ w' D→K (S (Qo m)) w'):Q0 P F.aS [.agg cs.toArray] w K:=Ay (by
 obtain ⟨pv,U,L,rfl,f,M,N,H,J,Q⟩:=y
 unfold Nw
 refine Z0 B fun q w1 σ1 g j=>?_
 have f:=f.up g
 have C: ∀n,(D0 (m.params.take n)).length≤101000000:=fun n=>by
  have:=Hp (m.params.take n) fun x u=>r.2 x (List.mem_of_mem_take u)
  have E:(m.params.take n).length≤1000000:=by rw[List.length_take];have:=k.1;omega
  have O:(m.params.take n).length*101≤1000000*101:=Nat.mul_le_mul_right _ E
  omega
 have c:=g.sat
 refine E2 m.params.length (fun n a w'=>w'=w1∧a=S ([40]++D0 (m.params.take n))) ⟨rfl,by simp[D0]⟩ fun n a R d z i=>?_
 obtain ⟨A,rfl⟩:=i
 subst A
 have s:=C n
 (try simp only[↓M1,M1,Mb,reduceIte])
 refine ld c j rfl ?_
 refine X0 f ?_
 refine Z3 ?_
 refine Q5 (fun p=>?_) (fun p=>?_)
 ·have b:n<m.params.length:=by simpa using p
  have u:=r.2 _ (List.getElem_mem b)
  refine W2 ?_
  obtain ⟨t,_⟩:=f.elS b
  refine Q5 (fun o=>?_) (fun o=>?_)
  ·have e:0<n:=by have:=of_decide_eq_true o;omega
   refine Dn (by simp only[List.length_append,List.length_cons,List.length_nil];omega) ?_
   intro d
   (try simp only[↓M1,M1,Mb,reduceIte])
   refine ld c j rfl ?_
   refine U9 f b ?_
   refine Y0 c t rfl ?_
   refine Dn (by simp only[List.length_append,List.length_cons,List.length_nil];omega) ?_
   (try simp only[↓M1,M1,Mb,reduceIte])
   refine J0 f.max b ⟨rfl,?_⟩
   rw[Q2m b,if_pos e];simp
  ·have e: ¬0<n:=by have:=of_decide_eq_false o;omega
   intro d
   (try simp only[↓M1,M1,Mb,reduceIte])
   refine ld c j rfl ?_
   refine U9 f b ?_
   refine Y0 c t rfl ?_
   refine Dn (by simp only[List.length_append,List.length_cons,List.length_nil];omega) ?_
   (try simp only[↓M1,M1,Mb,reduceIte])
   refine J0 f.max b ⟨rfl,?_⟩
   rw[Q2m b,if_neg e];simp
 ·have b: ¬n<m.params.length:=by simpa using p
  rw[List.take_of_length_le (by omega)] at s⊢
  refine Dn (by simp only[List.length_append,List.length_cons,List.length_nil];omega) ?_
  (try simp only[↓M1,M1,Mb,reduceIte])
  refine ld c j rfl ?_
  refine Dn (by simp only[List.length_append,List.length_cons,List.length_nil];have:=r.1;omega) ?_
  exact h _ _ g)
end Go.Proofs.YtfppjenblllfaaaGreatDoor

namespace Go.Hm
open Go.Kd
def Edge (l:List Cla) (i j:Nat):Prop:= ∃c,l[i]? =some c∧ ∃u∈U2 c,Y7 l u=some j
inductive Thr (E : Nat → Nat → Prop) (n : Nat) : Nat → Nat → Prop
  | one {i j : Nat} : E i j → Thr E n i j
  | more {i m j : Nat} : E i m → m < n → Thr E n m j → Thr E n i j
theorem Thr.cut {E:Nat→Nat→Prop} {n i j:Nat} (h:Thr E (n+1) i j):Thr E n i j∨(Thr E n i n∧Thr E n n j):=by
 induction h with
 | one h=>exact .inl (.one h)
 | @more i m j d f _ c=>
  by_cases e:m<n
  ·rcases c with c | ⟨a,b⟩
   ·exact .inl (.more d e c)
   ·exact .inr ⟨.more d e a,b⟩
  ·obtain rfl:m=n:=by omega
   rcases c with c | ⟨a,b⟩
   ·exact .inr ⟨.one d,c⟩
   ·exact .inr ⟨.one d,b⟩
theorem Thr.join {E:Nat→Nat→Prop} {n i k j:Nat} (h:Thr E n i k) (a:k<n) (g:Thr E n k j):Thr E n i j:=by
 induction h with
 | one h=>exact .more h a g
 | more c d _ b=>exact .more c d (b a g)
theorem Q51 {l:List Cla} (f:K7 l) {i j:Nat} (e:i<l.length):Edge l i j↔j<l.length∧ ∃u∈U2 l[i],u=Y3 l j∧Y7 l u=some j:=by
 unfold Edge
 rw[List.getElem?_eq_getElem e]
 constructor
 ·rintro ⟨c,d,u,b,a⟩
  cases d
  exact ⟨(C8 a).1,u,b,(C8 a).2.symm,a⟩
 ·rintro ⟨_,u,b,_,a⟩
  exact ⟨_,rfl,u,b,a⟩
theorem X1c {l:List Cla} (b:K7 l) {i:Nat} (a:i<l.length):lk l (Y3 l i)=some l[i]:=by
 have:=Xu b a
 rwa [List.getD_eq_getElem?_getD,List.getElem?_eq_getElem a] at this
theorem X1w {l:List Cla} (b:K7 l) {i j:Nat} (a:i<l.length) (h:Thr (Edge l) l.length i j):j<l.length∧Vz (lk l) (Y3 l i) (Y3 l j):=by
 induction h with
 | one h=>
  obtain ⟨f,u,d,e,g⟩:=(Q51 b a).1 h
  obtain ⟨c,o,_⟩:=Jv g
  refine ⟨f,_,X1c b a,u,d,?_⟩
  subst e;exact .refl o
 | more f p _ k=>
  obtain ⟨m,n⟩:=k p
  obtain ⟨_,u,d,e,g⟩:=(Q51 b a).1 f
  refine ⟨m,_,X1c b a,u,d,?_⟩
  subst e;exact n.reach
theorem X0F {l:List Cla} (w:K7 l) {a b:Q8} (h:Hm.Reach (lk l) a b): ∀i j,Y7 l a=some i→Y7 l b=some j→i=j∨Thr (Edge l) l.length i j:=by
 induction h with
 | refl _=>
  intro i j m f;rw[m] at f;cases f;exact .inl rfl
 | step r p v q=>
  rename_i a u b c
  intro i j m f
  obtain ⟨d,s⟩:=v.left
  obtain ⟨_,_,k,n,t⟩:=V2 s
  obtain ⟨y,e,g,_⟩:=Jv m
  rw[r] at e;cases e
  have o:Edge l i k:=⟨c,g,u,p,n⟩
  rcases q k j n f with rfl | hT
  ·exact .inr (.one o)
  ·exact .inr (.more o (C8 n).1 hT)
theorem X1J {l:List Cla} (a:K7 l) {i j:Nat} (g:i<l.length) (m:j<l.length) (h:Vz (lk l) (Y3 l i) (Y3 l j)):Thr (Edge l) l.length i j:=by
 obtain ⟨c,f,u,p,o⟩:=h
 rw[X1c a g] at f;cases f
 obtain ⟨d,q⟩:=o.left
 obtain ⟨_,_,k,e,r⟩:=V2 q
 have n:Edge l i k:=⟨_,List.getElem?_eq_getElem g,u,p,e⟩
 have b:Y7 l (Y3 l j)=some j:=by
  have:=a.find (List.getElem?_eq_getElem m)
  unfold Y3
  rw[List.getD_eq_getElem?_getD,List.getElem?_eq_getElem m];exact this
 rcases X0F a o k j e b with rfl | hT
 ·exact .one n
 ·exact .more n (C8 e).1 hT
theorem X3u {l:List Cla} (a:K7 l) {i j:Nat} (b:i<l.length) (c:j<l.length):Thr (Edge l) l.length i j↔Jw l (Y3 l i) (Y3 l j)=true:=by
 rw[Wn]
 exact ⟨fun h=>(X1w a b h).2,X1J a b c⟩
def Ys (l:List Cla):List (List Bool):=(List.range l.length).map fun i=>(List.range l.length).map fun j=>Jw l (Y3 l i) (Y3 l j)
def Fc (m:Nat→Nat→Bool) (i j:Nat) (b:Bool):Nat→Nat→Bool:=fun x y=>if x=i∧y=j then b else m x y
structure Clos (E : Nat → Nat → Prop) (n k i j : Nat) (m : Nat → Nat → Bool) : Prop where
  sound : ∀ a b, m a b = true → Thr E n a b
  full : ∀ a b, a < n → b < n → Thr E k a b → m a b = true
  done : ∀ a b, a < n → b < n → (a < i ∨ (a = i ∧ b < j)) → Thr E (k + 1) a b → m a b = true
theorem Clos.next {E:Nat→Nat→Prop} {n k i j:Nat} {m:Nat→Nat→Bool} (h:Clos E n k i j m) (q:k<n) (s:i<n) (t:j<n):Clos E n k i (j+1) (Fc m i j (m i j||(m i k&&m k j))):=by
 have f: ∀a b,m a b=true→Fc m i j (m i j||(m i k&&m k j)) a b=true:=by
  intro a b c
  unfold Fc
  split
  ·rename_i e;rw[←e.1,←e.2,c];rfl
  ·exact c
 refine ⟨fun a b c=>?_,fun a b r p g=>f a b (h.full a b r p g),fun a b r p o g=>?_⟩
 ·unfold Fc at c
  split at c
  ·rename_i e
   obtain ⟨rfl,rfl⟩:=e
   simp only[Bool.or_eq_true,Bool.and_eq_true] at c
   rcases c with d | ⟨d,l⟩
   ·exact h.sound _ _ d
   ·exact (h.sound _ _ d).join q (h.sound _ _ l)
  ·exact h.sound _ _ c
 ·by_cases e:a=i∧b=j
  ·obtain ⟨rfl,rfl⟩:=e
   unfold Fc
   rw[if_pos ⟨rfl,rfl⟩]
   rcases g.cut with d | ⟨d,l⟩
   ·rw[h.full _ _ s t d];rfl
   ·rw[h.full _ _ s q d,h.full _ _ q t l];simp
  ·refine f a b (h.done a b r p ?_ g)
   rcases o with d | ⟨d,l⟩
   ·exact .inl d
   ·right;refine ⟨d,?_⟩
    have:b≠j:=fun u=>e ⟨d,u⟩
    omega
theorem Clos.row {E:Nat→Nat→Prop} {n k i:Nat} {m:Nat→Nat→Bool} (h:Clos E n k i n m):Clos E n k (i+1) 0 m:=
 ⟨h.sound,h.full,fun a b f c d e=>h.done a b f c (by omega) e⟩
theorem Clos.round {E:Nat→Nat→Prop} {n k:Nat} {m:Nat→Nat→Bool} (h:Clos E n k n 0 m):Clos E n (k+1) 0 0 m:=
 ⟨h.sound,fun a b c d e=>h.done a b c d (.inl c) e,fun a b c d f e=>by omega⟩
theorem Clos.start {E:Nat→Nat→Prop} {n:Nat} {m:Nat→Nat→Bool} (h: ∀a b,a<n→(m a b=true↔E a b)) (j: ∀a b,n≤a→m a b=false):Clos E n 0 0 0 m:=by
 refine ⟨fun a b c=>?_,fun a b d g f=>?_,fun a b d g i f=>by omega⟩
 ·by_cases d:a<n
  ·exact .one ((h a b d).1 c)
  ·rw[j a b (by omega)] at c;cases c
 ·cases f with
  | one e=>exact (h a b d).2 e
  | more _ k _=>omega
theorem Clos.all {l:List Cla} (c:K7 l) {m:Nat→Nat→Bool} (h:Clos (Edge l) l.length l.length 0 0 m) {i j:Nat} (b:i<l.length) (a:j<l.length):m i j=Jw l (Y3 l i) (Y3 l j):=by
 rw[Bool.eq_iff_iff,←X3u c b a]
 exact ⟨h.sound i j,h.full i j b a⟩
end Go.Hm

namespace Go.Emb
open Go.RowKit Go.Hm
variable {P : Program} {w w0 w1 w' w'' : World} {K : Value → World → Prop} {σ σ0 σ1 σ' : Q4}
theorem X4e {t e:TypeId} {by_ n:Nat} {z:Value} [ts:TS P t e] [tz:TZ P e 1 by_ z] (g:X4 w σ) (j:z.cells= #[z]) (m:n≤1000000) (o:by_*n≤281474976710656)
 (h: ∀b w',w.heap.size≤b→Stp w σ w' σ→Z7 σ w' b (List.replicate n z)→K (.slice (some ⟨b,0,none⟩) n n) w'):Dh P t (I n) (I n) w K:=by
 obtain ⟨i,k,c,d,a⟩:=tz.info
 have f:(i.bytes:Int)*(n:Int)≤281474976710656:=by
  rw[d]
  have:((by_*n:Nat):Int)≤281474976710656:=by omega
  rwa [Int.natCast_mul] at this
 have l:=run_makeSlice (P:=P) w t e i z ts.h k a .i64 .i64 (n:Int) (n:Int) (by omega) (Int.le_refl _) (by rw[c];simp only[Int.toNat_natCast];omega) f (by omega)
 unfold Dh
 rw[Y2 l]
 simp only[Int.toNat_natCast,c,Nat.mul_one]
 refine h _ _ (Nat.le_refl _) (Stp.own g _) ⟨g.none (Nat.le_refl _),e,?_⟩
 rw[heap_alloc_new,j]
 have:madeCells #[z] n=(List.replicate n z).toArray:=by rw[←toList_madeCells_one,Array.toArray_toList]
 rw[this]
def Q73 (n:Nat) (_:Q4) (b:Nat) (cs:List Value):Prop:=cs=[.slice (some ⟨b,0,none⟩) n n]
instance (n:Nat):Rep (Q73 n):=⟨fun _ h=>h,fun h u hu=>by rw[h] at hu;simp at hu;subst hu;rfl⟩
def X0G (σ:Q4) (xs:List Bool) (cs:List Value):Prop:= ∃v,cs=[v]∧Sl 1 Q94 σ v xs
instance:Rep X0G:=⟨fun k h=>by obtain ⟨v,h1,h2⟩:=h;exact ⟨v,h1,h2.le k⟩,fun h u hu=>by
 obtain ⟨v,rfl,a,cap,rfl,_⟩:=h
 simp at hu;subst hu;rfl⟩
def bools (n:Nat) (f:Nat→Bool):List Value:=(List.range n).map fun j=> .bool (f j)
theorem Q17 {n:Nat} {f:Nat→Bool}:(bools n f).length=n:=by simp[bools]
theorem Q4M {n j:Nat} {f:Nat→Bool} (h:j<n):(bools n f)[j]? =some (.bool (f j)):=by simp[bools,h]
theorem Q58 {n j:Nat} {f:Nat→Bool} {b:Bool}:(bools n f).set j (.bool b)=bools n (fun x=>if x=j then b else f x):=by
 apply List.ext_getElem?
 intro k
 rw[List.getElem?_set]
 by_cases a:k<n
 ·by_cases e:j=k
  ·subst e;simp[bools,a]
  ·have c: ¬k=j:=fun h=>e h.symm
   simp[bools,a,e,c]
 ·simp[bools,a]
  intro e;omega
theorem Q7V {n:Nat}:List.replicate n (Value.bool false)=bools n fun _=>false:=by
 apply List.ext_getElem?
 intro k
 by_cases a:k<n<;>simp[bools,a]
def Qs (σ:Q4) (w:World) (a:List Nat) (n:Nat) (m:Nat→Nat→Bool):Prop:=a.Nodup∧ ∀i (h:i<a.length),Z7 σ w a[i] (bools n (m i))
theorem Qs.up {a:List Nat} {n:Nat} {m:Nat→Nat→Bool} (h:Qs σ w a n m) (k:Stp w σ w' σ'):Qs σ' w' a n m:=⟨h.1,fun i b=>(h.2 i b).up k⟩
theorem Qs.kp {a:List Nat} {n:Nat} {m:Nat→Nat→Bool} {D:Nat→Prop} (h:Qs σ w a n m) (k:Kpt D w w') (d: ∀b∈a,¬D b):Qs σ w' a n m:=⟨h.1,fun i c=>(h.2 i c).kp k (d _ (List.getElem_mem c))⟩
theorem Qs.lt {a:List Nat} {n:Nat} {m:Nat→Nat→Bool} (h:Qs σ w a n m) {b:Nat} (d:b∈a):b<w.heap.size∧σ b=none:=by
 obtain ⟨i,c,rfl⟩:=List.getElem_of_mem d
 exact ⟨(h.2 i c).lt,(h.2 i c).1⟩
theorem Qs.snoc {d:List Nat} {n b:Nat} {m:Nat→Nat→Bool} {f:Nat→Bool} (h:Qs σ w d n m) (k:b∉d) (l:Z7 σ w b (bools n f)):Qs σ w (d++[b]) n (fun x=>if x=d.length then f else m x):=by
 refine ⟨by rw[List.nodup_append];exact ⟨h.1,by simp,fun a o c g e=>by simp at g;subst g;subst e;exact k o⟩,fun i p=>?_⟩
 rw[List.length_append,List.length_singleton] at p
 by_cases j:i<d.length
 ·rw[List.getElem_append_left j]
  simp only[if_neg (show¬i=d.length by omega)]
  exact h.2 i j
 ·obtain rfl:i=d.length:=by omega
  simp only[List.getElem_concat_length,if_true]
  exact l
theorem Qs.congr {a:List Nat} {n:Nat} {m m':Nat→Nat→Bool} (h:Qs σ w a n m) (c: ∀i,i<a.length→m i=m' i):Qs σ w a n m':=⟨h.1,fun i b=>c i b▸h.2 i b⟩
theorem Qs.keep {a:List Nat} {n:Nat} {m:Nat→Nat→Bool} (R:0<n) (u:n≤1000000): ∀{σ:Q4},Qs σ w a n m→Stp w0 σ0 w σ→(∀b∈a,w0.heap.size≤b)→ ∃σ',Stp w0 σ0 w σ'∧SLe σ σ'∧ ∀i (h:i<a.length),Sl 1 Q94 σ' (.slice (some ⟨a[i],0,none⟩) n n) ((List.range n).map (m i)):=by
 intro σ h N O
 have key: ∀k,k≤a.length→ ∃σ',Stp w0 σ0 w σ'∧SLe σ σ'∧(∀i (h:i<a.length),i<k→Z2 σ' ⟨a[i],0,none⟩ (bools n (m i)))∧ ∀i (h:i<a.length),k≤i→σ' a[i]=none:=by
  intro k
  induction k with
  | zero=>intro _;exact ⟨σ,N,SLe.refl _,fun i _ h=>by omega,fun i d _=>(h.2 i d).1⟩
  | succ k D=>
   intro U
   obtain ⟨σ1,o,q,p,r⟩:=D (by omega)
   have c:k<a.length:=by omega
   have E:Z7 σ1 w a[k] (bools n (m k)):=⟨r k c (Nat.le_refl _),(h.2 k c).2⟩
   obtain ⟨C,Q,H,t,y⟩:=E.keep o (O _ (List.getElem_mem c))
   refine ⟨C,Q,q.more ⟨t⟩,fun i d M=>?_,fun i d z=>?_⟩
   ·by_cases e:i=k
    ·subst e;exact H
    ·exact (p i d (by omega)).le t
   ·rw[y]
    ·exact r i d (by omega)
    ·intro e
     have:=List.nodup_iff_pairwise_ne.1 h.1
     rw[List.pairwise_iff_getElem] at this
     exact this k i c d (by omega) e.symm
 obtain ⟨σ1,o,q,p,_⟩:=key a.length (Nat.le_refl _)
 refine ⟨σ1,o,q,fun i d=>⟨some ⟨a[i],0,none⟩,n,by simp,by simp,by simp only[maxLen];omega,fun e=>(by cases e),?_⟩⟩
 intro b L
 obtain rfl:=Option.some.inj L
 refine ⟨fun _=>rfl,fun j x l=>?_⟩
 have s:j<n:=by have:=(List.getElem?_eq_some_iff.1 l).1;simpa using this
 obtain ⟨q0,L6,e,B,A,J⟩:=p i d d
 have f:x=m i j:=by simp[s] at l;exact l.symm
 refine ⟨[.bool x],⟨I9 rfl _,L6,e,B,by rw[R9];exact A,fun k v g=>?_⟩,rfl,rfl⟩
 obtain rfl:k=0:=by cases k with
  | zero=>rfl
  | succ k=>simp at g
 simp at g
 rw[Xj,←g,f]
 have:=J j _ (Q4M s)
 simpa using this
end Go.Emb

namespace Go.Emb
open Go.RowKit Go.Hm
variable {P : Program} {w w0 w1 w' w'' : World} {K : Value → World → Prop} {σ σ0 σ1 σ' : Q4}
theorem Q1B {t e:TypeId} {sz by_:Nat} {z:Value} [ts:TS P t e] [tz:TZ P e sz by_ z] {a:Addr} {n b i:Nat} (d:i<n) (c:K (.pointer (some (a.add (i*sz)))) w):indexAddr P t (.slice (some a) n b) (I i) w K:=by
 rw[Rz (by omega) (by omega)]
 simpa using c
theorem Qs.nx {D:Nat→Prop} {a:List Nat} {n:Nat} {m:Nat→Nat→Bool} (h:Qs σ w a n m) (k:Nxt D w σ w' σ') (d: ∀b∈a,¬D b):Qs σ' w' a n m:=
 ⟨h.1,fun i c=>(h.2 i c).nx k (d _ (List.getElem_mem c))⟩
theorem Qs.set {a:List Nat} {n i j:Nat} {b:Bool} {m:Nat→Nat→Bool} (h:Qs σ w a n m) (g:i<a.length) (o:Upd w a[i] w') (d:Z7 σ w' a[i] ((bools n (m i)).set j (.bool b))):Qs σ w' a n (Fc m i j b):=by
 refine ⟨h.1,fun k c=>?_⟩
 by_cases e:k=i
 ·subst e
  rw[Q58] at d
  have:Fc m k j b k=fun x=>if x=j then b else m k x:=by funext x;simp[Fc]
  rw[this];exact d
 ·have:Fc m i j b k=m k:=by funext x;simp[Fc,e]
  rw[this]
  refine (h.2 k c).upd o fun f=>e ?_
  rcases Nat.lt_trichotomy k i with hlt | hlt | hlt
  ·have:=List.nodup_iff_pairwise_ne.1 h.1
   rw[List.pairwise_iff_getElem] at this
   exact absurd f (this k i c g hlt)
  ·exact hlt
  ·have:=List.nodup_iff_pairwise_ne.1 h.1
   rw[List.pairwise_iff_getElem] at this
   exact absurd f.symm (this i k g c hlt)
end Go.Emb
namespace Go.Proofs.YtfppjenblllfaaaGreatDoor
open Go.Emb Go.RowKit Go.Kd Go.Hm
variable {w : World} {K : Value → World → Prop} {σ : Q4} {l : List Cla} {v : Value}
def Mq (l:List Cla) (i j:Nat):Bool:=match l[i]? with
 | none=>false
 | some c=>(U2 c).any fun u=>decide (Y7 l u=some j)
theorem Q9O (l:List Cla) (i j:Nat):Mq l i j=true↔Hm.Edge l i j:=by
 unfold Mq Hm.Edge
 cases h:l[i]? with
 | none=>simp
 | some c=>simp[List.any_eq_true]
theorem X0m {l:List Cla} {i j:Nat} (h:l.length≤i):Mq l i j=false:=by
 unfold Mq
 rw[List.getElem?_eq_none h]
set_option maxHeartbeats 4000000 in
theorem Q4K (hs:X4 w σ) (hl:Sl 8 V4 σ v l) (ho:K7 l) (hpos:0<l.length) (hlen:l.length≤1000) (hsm: ∀c∈l,Qr c)
 (h: ∀v' w' σ',Stp w σ w' σ'→Sl 1 X0G σ' v' (Ys l)→K v' w'):Q0 P F.aI [v] w K:=Kx (by
 unfold Lv
 refine Q0m (R:=Q73 l.length) (e:=T.a0) (Stp.refl hs) (by decide) fun x0 w1 hk1 ha1 _=>?_
 refine E2 l.length (fun n x w'=> ∃σ' bs,Stp w σ w' σ'∧J1 w.heap.size T.a0 1 (Q73 l.length) σ' w' x bs∧Qs σ' w' bs l.length (Mq l)∧bs.length=n∧ ∀b∈bs,w.heap.size≤b∧x.ownBlock≠some b) ⟨σ,[],hk1,ha1,⟨List.nodup_nil,by simp⟩,rfl,by simp⟩ fun n x w2 d hn hinv=>?_
 obtain ⟨σ2,bs,hS2,ha2,hM2,hbl,hb2⟩:=hinv
 refine X0 (hl.up hS2) ?_
 refine Z3 ?_
 refine Q5 (fun hc=>?_) (fun hc=>?_)
 ·have hn':n<l.length:=by simpa using hc
  have hl2:=hl.up hS2
  refine X0 hl2 ?_
  refine X4e hS2.sat rfl (by omega) (by omega) fun b w3 hb3 hk3 hm3=>?_
  rw[Q7V] at hm3
  obtain ⟨lv,fv,mv,p1,r1⟩:=hl2.elC hn'
  obtain ⟨g1,_,_,g4,g5⟩:=r1.parts
  have hsmc:=hsm _ (List.getElem_mem hn')
  have hs3:=hk3.sat
  refine V0 hs3 ?_
  (repeat refine J3 Xt ?_)
  refine Q1s (w:=w3) (σ:=σ2) (R:=X7) (sz:=1) (e:=T.a) [l[n].super] (fun t w hb e=>?_) ?_
  ·subst e;exact Xc hb.stp [_] [l[n].super] rfl rfl (by simp;rfl) rfl ⟨⟨rfl,g5⟩,trivial⟩ fun v' w' hk ha _=>Q3p hb hk ha
  (repeat refine J3 Xt ?_)
  rintro t24 t25 t30 t31 t26 t27 t32 w4 hb4 rfl rfl rfl rfl rfl ⟨f27,a27⟩ rfl
  refine Hu f27 a27 g1 rfl (by simp;have:=hsmc.1;omega) (by simp;have:=hsmc.1;omega) fun v5 w5 hn5 hS5 ha5 hat5=>?_
  obtain ⟨σ6,hS6,hv6,le6,_⟩:=ha5.keep hS5
  have hv6:Sl 1 X7 σ6 v5 (U2 l[n]):=hv6
  have hb3w:w.heap.size≤b:=Nat.le_trans hS2.bel.size hb3
  have hm6:=hm3.up hS6
  have ha6:=(ha2.up hk3).up hS6
  have hM6:=(hM2.up hk3).up hS6
  have hS26:=(hS2.trans hk3).trans hS6
  have hxb: ∀k,x.ownBlock=some k→k≠b:=fun k e=>by have:=(ha2.mem k e).2.1;omega
  have hbbs:b∉bs:=fun e=>by have:=(hM2.lt e).1;omega
  clear hm3 ha2 hM2 hS6 hS5 ha5 a27 f27 hn5 hat5
  refine U3 (U2 l[n]).length (fun k w'=>Stp w σ w' σ6∧J1 w.heap.size T.a0 1 (Q73 l.length) σ6 w' x bs∧Qs σ6 w' bs l.length (Mq l)∧Z7 σ6 w' b (bools l.length fun j=>((U2 l[n]).take k).any fun u=>decide (Y7 l u=some j)))
   ⟨hS26,ha6,hM6,hm6⟩ fun k w7 d7 hk hinv=>?_
  obtain ⟨hS7,ha7,hM7,hm7⟩:=hinv
  refine X0 hv6 ?_
  refine Z3 ?_
  refine Q5 (fun hc=>?_) (fun hc=>?_)
  ·have hk':k<(U2 l[n]).length:=by simpa using hc
   refine W2 ?_
   refine U9 hv6 hk' ?_
   obtain ⟨p2,p3⟩:=hv6.elS hk'
   refine Y0 hS7.sat p2 rfl ?_
   refine Qq hS7.sat (hl.up hS7) ?_
   refine G5 ?_
   rw[Jt]
   have hnx: ∀f:Nat→Bool,(∀j,f j=(((U2 l[n]).take k).any (fun u=>decide (Y7 l u=some j))||decide (Y7 l (U2 l[n])[k]=some j)))→f=fun j=>((U2 l[n]).take (k+1)).any fun u=>decide (Y7 l u=some j):=by
    intro f hf;funext j;rw[hf,N5 hk']
   cases hfc:Y7 l (U2 l[n])[k] with
   | none=>
    simp only[Option.isSome_none,↓M1,M1,Mb,reduceIte]
    intro d
    refine Y5 hv6.max hk' ⟨hS7,ha7,hM7,?_⟩
    rw[←hnx (fun j=>((U2 l[n]).take k).any fun u=>decide (Y7 l u=some j)) (fun j=>by rw[hfc];simp)]
    exact hm7
   | some j=>
    have hj:=(C8 hfc).1
    simp only[Option.isSome_some,L2,↓M1,M1,Mb,reduceIte]
    refine Q1B hj ?_
    rw[Nat.mul_one]
    refine Nz hm7 (by rw[Q17];exact hj) (by rfl) (by rfl) fun w8 u8 hm8=>?_
    intro d
    rw[Q58] at hm8
    refine Y5 hv6.max hk' ⟨u8.stp hS7 hb3w hm7.1,ha7.kp (D:=(· =b)) (.of_upd u8 rfl) hxb,hM7.kp (D:=(· =b)) (.of_upd u8 rfl) (fun c hc e=>hbbs (e▸hc)),?_⟩
    rw[←hnx (fun x=>if x=j then true else _) (fun i=>?_)]
    ·exact hm8
    ·rw[hfc]
     by_cases e:i=j
     ·subst e;simp
     ·have: ¬j=i:=fun e'=>e e'.symm
      simp[e,this]
  ·have hk': ¬k<(U2 l[n]).length:=by simpa using hc
   have hk0:k=(U2 l[n]).length:=by omega
   subst hk0
   rw[List.take_of_length_le (Nat.le_refl _)] at hm7
   have hef:(fun j=>(U2 l[n]).any fun u=>decide (Y7 l u=some j))=Mq l n:=by
    funext j;unfold Mq;rw[List.getElem?_eq_getElem hn']
   rw[hef] at hm7
   have hM8:=(hM7.snoc hbbs hm7).congr (m':=Mq l) (fun i _=>by
    by_cases e:i=bs.length
    ·rw[if_pos e,e,hbl]
    ·rw[if_neg e])
   refine Vd (R:=Q73 l.length) (x:=b) hS7 ha7 rfl rfl rfl rfl (by omega) (by omega) fun s v' w9 σ9 hnx hS9 ha9 hat=>?_
   have hdis: ∀c∈bs++[b],w.heap.size≤c∧x.ownBlock≠some c:=by
    intro c hc
    rcases List.mem_append.1 hc with hc | hc
    ·exact hb2 c hc
    ·simp at hc;subst hc;exact ⟨hb3w,fun e=>hxb _ e rfl⟩
   have hlt9: ∀c∈bs++[b],c<w7.heap.size:=fun c hc=>(hM8.lt hc).1
   refine E5 ?_
   refine J0 (by omega) hn' ⟨σ9,bs++[b],hS9,ha9,hM8.nx hnx (fun c hc=>(hdis c hc).2),by rw[List.length_append,hbl];rfl,fun c hc=>⟨(hdis c hc).1,fun e=>?_⟩⟩
   rcases hat with hat | hat
   ·exact (hdis c hc).2 (hat▸e)
   ·have:=hat c e;have:=hlt9 c hc;omega
 ·have hn0:n=l.length:=by
   have: ¬n<l.length:=by simpa using hc
   omega
  obtain ⟨σ8,hS8,hv8,le8,old8⟩:=ha2.keep hS2
  have hlb:bs.length=l.length:=by omega
  have hM8:Qs σ8 w2 bs l.length (Mq l):=⟨hM2.1,fun i hi=>⟨(old8 _ (fun e=>(hb2 _ (List.getElem_mem hi)).2 e.symm)).trans (hM2.2 i hi).1,(hM2.2 i hi).2⟩⟩
  have hpx: ∀i (hi:i<bs.length),Z2 σ8 (elA 1 x i) [.slice (some ⟨bs[i],0,none⟩) l.length l.length]:=fun i hi=>by
   obtain ⟨cs,h1,_,h2⟩:=hv8.el hi
   have h2:cs=_:=h2
   subst h2;exact h1
  clear ha2 hM2 hS2 le8 old8
  refine U3 l.length (fun k w'=> ∃m,Stp w σ w' σ8∧Qs σ8 w' bs l.length m∧Clos (Hm.Edge l) l.length k 0 0 m) ⟨Mq l,hS8,hM8,Clos.start (fun a b _=>Q9O l a b) (fun a b h=>X0m h)⟩ fun k w3 d3 hk3 hinv=>?_
  obtain ⟨m3,hS3,hM3,hC3⟩:=hinv
  refine X0 (hl.up hS3) ?_
  refine Z3 ?_
  refine Q5 (fun hc=>?_) (fun hc=>?_)
  ·have hk':k<l.length:=by simpa using hc
   refine U3 l.length (fun i w'=> ∃m,Stp w σ w' σ8∧Qs σ8 w' bs l.length m∧Clos (Hm.Edge l) l.length k i 0 m) ⟨m3,hS3,hM3,hC3⟩ fun i w4 d4 hi4 hinv=>?_
   obtain ⟨m4,hS4,hM4,hC4⟩:=hinv
   refine X0 (hl.up hS4) ?_
   refine Z3 ?_
   refine Q5 (fun hc=>?_) (fun hc=>?_)
   ·have hi':i<l.length:=by simpa using hc
    refine U3 l.length (fun j w'=> ∃m,Stp w σ w' σ8∧Qs σ8 w' bs l.length m∧Clos (Hm.Edge l) l.length k i j m) ⟨m4,hS4,hM4,hC4⟩ fun j w5 d5 hj5 hinv=>?_
    obtain ⟨m5,hS5,hM5,hC5⟩:=hinv
    refine X0 (hl.up hS5) ?_
    refine Z3 ?_
    refine Q5 (fun hc=>?_) (fun hc=>?_)
    ·have hj':j<l.length:=by simpa using hc
     have hi6:i<bs.length:=by omega
     have hk6:k<bs.length:=by omega
     have px_i:=hpx i hi6
     have px_k:=hpx k hk6
     have hrd: ∀{w':World} {K:Value→World→Prop} {a b:Nat} {ha:a<bs.length},Hst w5 σ8 w' σ8→b<l.length→K (.bool (m5 a b)) w'→Q2 P T.p (.pointer (some ((⟨bs[a],0,none⟩:Addr).add (b*1)))) w' K:=fun hst hb hK=>by
      rw[Nat.mul_one]
      exact T2 (((hM5.up hst.stp).2 _ _).cell (Q4M hb)) hK
     refine V0 hS5.sat ?_
     (repeat (apply J3;(· intros;(repeat (rename_i hx;subst hx));(repeat' (first | (with_reducible exact Y1 rfl) | (with_reducible exact Ud (Stp.bel (by (repeat (first | exact Stp.refl (by (first | assumption | exact Stp.sat (by assumption) | exact Hst.sat (by assumption))) | assumption | refine Stp.trans ?_ (by first | assumption | exact Hst.stp (by assumption)))))) rfl) | (with_reducible intro _) | (simp only[↓M2,M2,Mb,reduceIte]) | (with_reducible refine Q1B au ?_) | (with_reducible refine hrd au au ?_) | (with_reducible show Q2 _ _ _ _ _;first | refine Y0 aS aL aR ?_ | refine Z1 aS aL aR ?_ | refine ld aS aL aR ?_) | (with_reducible show indexAddr _ _ _ _ _ _;refine U9 aL au ?_) | (with_reducible show X5 _ _ _ _ _ _ _ _;refine X0 aL ?_) | (with_reducible show Ww _ _ _ _ _ _;refine V6 aR ?_) | (with_reducible show pick _ _ _ _ _ _;refine Vc ?_) | (apply Lx;intro hh;(try simp only[hh,reduceIte,↓M2,M2,Mb,reduceIte]))));done)))
     cases h1:m5 i j
     ·simp only[reduceIte]
      (repeat (apply J3;(· intros;(repeat (rename_i hx;subst hx));(repeat' (first | (with_reducible exact Y1 rfl) | (with_reducible exact Ud (Stp.bel (by (repeat (first | exact Stp.refl (by (first | assumption | exact Stp.sat (by assumption) | exact Hst.sat (by assumption))) | assumption | refine Stp.trans ?_ (by first | assumption | exact Hst.stp (by assumption)))))) rfl) | (with_reducible intro _) | (simp only[↓M2,M2,Mb,reduceIte]) | (with_reducible refine Q1B au ?_) | (with_reducible refine hrd au au ?_) | (with_reducible show Q2 _ _ _ _ _;first | refine Y0 aS aL aR ?_ | refine Z1 aS aL aR ?_ | refine ld aS aL aR ?_) | (with_reducible show indexAddr _ _ _ _ _ _;refine U9 aL au ?_) | (with_reducible show X5 _ _ _ _ _ _ _ _;refine X0 aL ?_) | (with_reducible show Ww _ _ _ _ _ _;refine V6 aR ?_) | (with_reducible show pick _ _ _ _ _ _;refine Vc ?_) | (apply Lx;intro hh;(try simp only[hh,reduceIte,↓M2,M2,Mb,reduceIte]))));done)))
      (intros;(repeat (rename_i hx;subst hx));(try simp only[↓M2,M2,Mb,reduceIte]))
      rename_i w6 hb6
      refine Q1B hj' ?_
      rw[Nat.mul_one]
      refine Eq.subst (motive:=fun V=>Z4 P T.p (.pointer (some ((⟨bs[i],0,none⟩:Addr).add j))) V w6 _) (show Value.bool (m5 i j||(m5 i k&&m5 k j))=_ from by cases h2:m5 i k<;>simp[h1,h2]) ?_
      refine Nz ((hM5.up hb6.stp).2 i hi6) (by rw[Q17];exact hj') (by rfl) (by rfl) fun w7 u7 hm7=>?_
      (try simp only[↓M1,M1,Mb,reduceIte])
      exact Y5 (by omega) hj' ⟨_,u7.stp (hS5.trans hb6.stp) (hb2 _ (List.getElem_mem hi6)).1 hm7.1,(hM5.up hb6.stp).set hi6 u7 hm7,hC5.next hk' hi' hj'⟩
     ·simp only[Bool.true_eq_false,reduceIte]
      (repeat (apply J3;(· intros;(repeat (rename_i hx;subst hx));(repeat' (first | (with_reducible exact Y1 rfl) | (with_reducible exact Ud (Stp.bel (by (repeat (first | exact Stp.refl (by (first | assumption | exact Stp.sat (by assumption) | exact Hst.sat (by assumption))) | assumption | refine Stp.trans ?_ (by first | assumption | exact Hst.stp (by assumption)))))) rfl) | (with_reducible intro _) | (simp only[↓M2,M2,Mb,reduceIte]) | (with_reducible refine Q1B au ?_) | (with_reducible refine hrd au au ?_) | (with_reducible show Q2 _ _ _ _ _;first | refine Y0 aS aL aR ?_ | refine Z1 aS aL aR ?_ | refine ld aS aL aR ?_) | (with_reducible show indexAddr _ _ _ _ _ _;refine U9 aL au ?_) | (with_reducible show X5 _ _ _ _ _ _ _ _;refine X0 aL ?_) | (with_reducible show Ww _ _ _ _ _ _;refine V6 aR ?_) | (with_reducible show pick _ _ _ _ _ _;refine Vc ?_) | (apply Lx;intro hh;(try simp only[hh,reduceIte,↓M2,M2,Mb,reduceIte]))));done)))
      (intros;(repeat (rename_i hx;subst hx));(try simp only[↓M2,M2,Mb,reduceIte]))
      rename_i w6 hb6
      refine Q1B hj' ?_
      rw[Nat.mul_one]
      refine Eq.subst (motive:=fun V=>Z4 P T.p (.pointer (some ((⟨bs[i],0,none⟩:Addr).add j))) V w6 _) (show Value.bool (m5 i j||(m5 i k&&m5 k j))=_ from by simp[h1]) ?_
      refine Nz ((hM5.up hb6.stp).2 i hi6) (by rw[Q17];exact hj') (by rfl) (by rfl) fun w7 u7 hm7=>?_
      (try simp only[↓M1,M1,Mb,reduceIte])
      exact Y5 (by omega) hj' ⟨_,u7.stp (hS5.trans hb6.stp) (hb2 _ (List.getElem_mem hi6)).1 hm7.1,(hM5.up hb6.stp).set hi6 u7 hm7,hC5.next hk' hi' hj'⟩
    ·have hj0:j=l.length:=by
      have: ¬j<l.length:=by simpa using hc
      omega
     subst hj0
     refine E5 ?_
     exact Y5 (by omega) hi' ⟨m5,hS5,hM5,hC5.row⟩
   ·have hi0:i=l.length:=by
     have: ¬i<l.length:=by simpa using hc
     omega
    subst hi0
    refine E5 ?_
    exact Y5 (by omega) hk' ⟨m4,hS4,hM4,hC4.round⟩
  ·have hk0:k=l.length:=by
    have: ¬k<l.length:=by simpa using hc
    omega
   subst hk0
   obtain ⟨σ9,hS9,le9,hrows⟩:=hM3.keep hpos (by omega) hS3 (fun b hb=>(hb2 b hb).1)
   refine h _ _ _ hS9 ((hv8.lift le9).conv (by simp[Ys,hlb]) fun i hi hj cs hcs=>?_)
   have hcs:cs=_:=hcs
   subst hcs
   refine ⟨_,rfl,?_⟩
   have:=hrows i hi
   have he:(Ys l)[i]=(List.range l.length).map (m3 i):=by
    have hi':i<l.length:=by omega
    simp only[Ys,List.getElem_map,List.getElem_range]
    apply List.map_congr_left
    intro j hj
    exact (Clos.all ho hC3 hi' (by simpa using hj)).symm
   rw[he];exact this)
end Go.Proofs.YtfppjenblllfaaaGreatDoor
