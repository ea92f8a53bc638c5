/- Parts of a proof about the given program: its functions as texts of their own, what each computes, plain laws of that. The conditions of each stand in its statement. -/
import Derived.Test.YtfppjenblllfaaaGreatDoorB3
import Derived.Shelf.Strings.Builder1
import Derived.Shelf.Strings.Builder2
import Derived.Shelf.Strings.OnBuilder
import Derived.Shelf.Strings.Trim
import Derived.Shelf.Small.Utf8
import Derived.Shelf.Small.Strs
import Derived.Shelf.Small.Wraps
import Derived.Shelf.Strings.BuilderF
import Derived.Shelf.Strings.BuilderK
import Derived.Shelf.Strings.Builder2Cap
import Derived.Shelf.Strings.Search1
import Derived.Shelf.Strings.Search2
import Derived.Shelf.Strings.Search3
import Derived.Shelf.Strings.Cut
import Derived.Shelf.LaysM
import Derived.Shelf.Strings.Shaped
import Derived.Shelf.Strings.Prefix
import Derived.Shelf.Unicode.Decode
import Derived.Shelf.Strings.Runes
import Derived.Shelf.Strings.AsciiSet
import Derived.Shelf.Unicode.DecodeSlow
import Derived.Shelf.Unicode.DecodeAny
import Derived.Shelf.Unicode.DecodeLast
import Derived.Shelf.Slices.Turned
import Derived.Ground.Names2Prog
import Derived.Shelf.Slices.Clone
import Derived.Ground.SlgnProg
import Derived.Shelf.SlicesE.Clone
import Derived.Shelf.Unicode.ValidAny
import Derived.Test.YtfppjenblllfaaaGreatDoorProg
import Derived.Test.YtfppjenblllfaaaGreatDoorRows
import Derived.Lib.LaidU8T
import Derived.OpenShut
import Derived.MakeChecks
import Derived.WideShapes
import Derived.Lib.AsciiSet
import Derived.Lib.Join
import Derived.Maps.RangeRun
import Derived.Laws.OwnMore
set_option linter.unnecessarySimpa false
set_option linter.defProp false
set_option linter.unusedSectionVars false
set_option linter.unusedVariables false
set_option linter.unusedSimpArgs false
namespace Go.Proofs
open Go.Shelf
def Tryz.lays156_ren : Go.Shelf.Ren := ⟨fun | 156 => 165 | 165 => 200 | 166 => 201 | 169 => 202 | 240 => 219 | 241 => 220 | 276 => 230 | 277 => 231 | n => n, fun | 31 => 22 | 9 => 9 | 3 => 3 | 4 => 4 | 0 => 0 | 20 => 20 | 72 => 188 | 76 => 191 | 70 => 185 | 37 => 186 | 75 => 190 | 127 => 199 | 164 => 209 | 5 => 5 | 80 => 141 | n => n, fun | n => n⟩
theorem Tryz.lays156 : Go.Proofs.Lays.n156 Tryz.prog Tryz.lays156_ren := {
  mixed := by kernel_rfl
  f156 := Tryz.func165.trans (congrArg some (by kernel_rfl))
  f165 := Tryz.func200.trans (congrArg some (by kernel_rfl))
  f166 := Tryz.func201.trans (congrArg some (by kernel_rfl))
  f169 := Tryz.func202.trans (congrArg some (by kernel_rfl))
  f240 := Tryz.func219.trans (congrArg some (by kernel_rfl))
  f241 := Tryz.func220.trans (congrArg some (by kernel_rfl))
  f276 := Tryz.func230.trans (congrArg some (by kernel_rfl))
  f277 := Tryz.func231.trans (congrArg some (by kernel_rfl))
  t0 := Tryz.underlying0
  a0 := Tryz.isAgg0
  z0 := Tryz.sizeOf0
  v0 := Tryz.zeroValue0
  t3 := Tryz.underlying3
  a3 := Tryz.isAgg3
  z3 := Tryz.sizeOf3
  v3 := Tryz.zeroValue3
  t4 := Tryz.underlying4
  a4 := Tryz.isAgg4
  z4 := Tryz.sizeOf4
  v4 := Tryz.zeroValue4
  t9 := Tryz.underlying9
  a9 := Tryz.isAgg9
  z9 := Tryz.sizeOf9
  v9 := Tryz.zeroValue9
  t20 := Tryz.underlying20
  a20 := Tryz.isAgg20
  z20 := Tryz.sizeOf20
  v20 := Tryz.zeroValue20
  t31 := Tryz.underlying22
  a31 := Tryz.isAgg22
  z31 := Tryz.sizeOf22
  v31 := Tryz.zeroValue22
  t37 := Tryz.underlying186
  a37 := Tryz.isAgg186
  z37 := Tryz.sizeOf186
  v37 := Tryz.zeroValue186
  t70 := Tryz.underlying185
  a70 := Tryz.isAgg185
  z70 := Tryz.sizeOf185
  v70 := Tryz.zeroValue185
  t72 := Tryz.underlying188
  a72 := Tryz.isAgg188
  z72 := Tryz.sizeOf188
  v72 := Tryz.zeroValue188
  t75 := Tryz.underlying190
  a75 := Tryz.isAgg190
  z75 := Tryz.sizeOf190
  v75 := Tryz.zeroValue190
  t76 := Tryz.underlying191
  a76 := Tryz.isAgg191
  z76 := Tryz.sizeOf191
  v76 := Tryz.zeroValue191
  t127 := Tryz.underlying199
  a127 := Tryz.isAgg199
  z127 := Tryz.sizeOf199
  v127 := Tryz.zeroValue199
  t164 := Tryz.underlying209
  a164 := Tryz.isAgg209
  z164 := Tryz.sizeOf209
  v164 := Tryz.zeroValue209 }
theorem Tryz.Builder_Extra_156 : Builder.Extra Tryz.prog Tryz.lays156_ren := {
  sizeBuilder := by kernel_rfl
  liesBuilder := by kernel_rfl
  t5 := Tryz.underlying5
  a5 := Tryz.isAgg5
  z5 := Tryz.sizeOf5
  v5 := Tryz.zeroValue5
  infoByte := by kernel_rfl
  cellsByte := by kernel_rfl
  sizeByte := by kernel_rfl
  neB5 := by decide }
open Go.RowKit in
theorem Tryz.strings_Join_none (a : Option Addr) (c : Nat) (sep : ByteArray) (w : World) :
    Calls Tryz.prog 165 #[.slice a 0 c, .string sep] w fun e w' => e = .returned (.string ⟨#[]⟩) ∧ w' = w := Any.strings_Join_none Tryz.lays156 Tryz.Builder_Extra_156 a c sep w
open Go.RowKit in
theorem Tryz.strings_Join (bk o c : Nat) (xs : List ByteArray) (sep : ByteArray) (w : World) (hcells : ∀ (j : Nat) x, xs[j]? = some x → w.cell? ⟨bk, o + j, none⟩ = some (.string x)) (hbk : bk < w.heap.size) (hN : xs.length ≤ 140737488355328) (hcap : xs.length ≤ c) (hlen : (Lib.join (xs.map (·.data.toList)) sep.data.toList).length ≤ 140737488355328) :
    Calls Tryz.prog 165 #[.slice (some ⟨bk, o, none⟩) xs.length c, .string sep] w fun e w' => e = .returned (.string ⟨(Lib.join (xs.map (·.data.toList)) sep.data.toList).toArray⟩) ∧ Below w.heap.size w w' := Any.strings_Join Tryz.lays156 Tryz.Builder_Extra_156 bk o c xs sep w hcells hbk hN hcap hlen
open Go.RowKit in
def Tryz.lays144_ren : Go.Shelf.Ren := ⟨fun | 144 => 227 | 143 => 239 | 219 => 222 | 217 => 223 | 225 => 212 | 224 => 211 | 267 => 234 | 266 => 235 | 314 => 241 | n => n, fun | 9 => 9 | 4 => 4 | 3 => 3 | 5 => 5 | 46 => 196 | 146 => 218 | 51 => 217 | n => n, fun | 1 => 3 | n => n⟩
theorem Tryz.lays144 : Go.Proofs.Lays.n144 Tryz.prog Tryz.lays144_ren := {
  mixed := by kernel_rfl
  f143 := Tryz.func239.trans (congrArg some (by kernel_rfl))
  f144 := Tryz.func227.trans (congrArg some (by kernel_rfl))
  f217 := Tryz.func223.trans (congrArg some (by kernel_rfl))
  f219 := Tryz.func222.trans (congrArg some (by kernel_rfl))
  f224 := Tryz.func211.trans (congrArg some (by kernel_rfl))
  f225 := Tryz.func212.trans (congrArg some (by kernel_rfl))
  f266 := Tryz.func235.trans (congrArg some (by kernel_rfl))
  f267 := Tryz.func234.trans (congrArg some (by kernel_rfl))
  f314 := Tryz.func241.trans (congrArg some (by kernel_rfl))
  t3 := Tryz.underlying3
  a3 := Tryz.isAgg3
  z3 := Tryz.sizeOf3
  v3 := Tryz.zeroValue3
  t4 := Tryz.underlying4
  a4 := Tryz.isAgg4
  z4 := Tryz.sizeOf4
  v4 := Tryz.zeroValue4
  t5 := Tryz.underlying5
  a5 := Tryz.isAgg5
  z5 := Tryz.sizeOf5
  v5 := Tryz.zeroValue5
  t9 := Tryz.underlying9
  a9 := Tryz.isAgg9
  z9 := Tryz.sizeOf9
  v9 := Tryz.zeroValue9
  t46 := Tryz.underlying196
  a46 := Tryz.isAgg196
  z46 := Tryz.sizeOf196
  v46 := Tryz.zeroValue196
  t51 := Tryz.underlying217
  a51 := Tryz.isAgg217
  z51 := Tryz.sizeOf217
  v51 := Tryz.zeroValue217
  t146 := Tryz.underlying218
  a146 := Tryz.isAgg218
  z146 := Tryz.sizeOf218
  v146 := Tryz.zeroValue218
  g1 := by kernel_rfl }
open Go.RowKit Go.Lib in
theorem Tryz.strings_Contains_one (s : ByteArray) (c : UInt8) (w : World) :
    Calls Tryz.prog 227 #[.string s, .string ⟨#[c]⟩] w fun e w' => e = .returned (.bool (decide (0 ≤ Lib.indexByte s.data.toList c))) ∧ w' = w := Any.strings_Contains_one Tryz.lays144 s c w
def Tryz.lays227_ren : Go.Shelf.Ren := ⟨fun | 227 => 88 | n => n, fun | 9 => 9 | 116 => 107 | 4 => 4 | 0 => 0 | 3 => 3 | 5 => 5 | n => n, fun | n => n⟩
theorem Tryz.lays227 : Go.Proofs.Lays.n227 Tryz.prog Tryz.lays227_ren := {
  mixed := by kernel_rfl
  f227 := Tryz.func88.trans (congrArg some (by kernel_rfl))
  t0 := Tryz.underlying0
  a0 := Tryz.isAgg0
  z0 := Tryz.sizeOf0
  v0 := Tryz.zeroValue0
  t3 := Tryz.underlying3
  a3 := Tryz.isAgg3
  z3 := Tryz.sizeOf3
  v3 := Tryz.zeroValue3
  t4 := Tryz.underlying4
  a4 := Tryz.isAgg4
  z4 := Tryz.sizeOf4
  v4 := Tryz.zeroValue4
  t5 := Tryz.underlying5
  a5 := Tryz.isAgg5
  z5 := Tryz.sizeOf5
  v5 := Tryz.zeroValue5
  t9 := Tryz.underlying9
  a9 := Tryz.isAgg9
  z9 := Tryz.sizeOf9
  v9 := Tryz.zeroValue9
  t116 := Tryz.underlying107
  a116 := Tryz.isAgg107
  z116 := Tryz.sizeOf107 }
open Go.RowKit Go.Lib in
theorem Tryz.strings_makeASCIISet (hv116 : ∀ w, (zeroValue 107).run Tryz.prog w = .ok (.agg (Array.replicate 256 (.bool false))) w) (chars : ByteArray) (w : World) (hs : chars.size < 4294967281) (hascii : ∀ (j : Nat) b, chars.data.toList[j]? = some b → b.toNat < 128) :
    Calls Tryz.prog 88 #[.string chars] w fun e w' => e = .returned (.tuple #[.agg (Lib.setCells chars.data.toList), .bool true]) ∧ w' = w.alloc (.cells (Lib.setCells chars.data.toList) 107) := Any.strings_makeASCIISet Tryz.lays227 hv116 (by kernel_rfl) chars w hs hascii
open Go.RowKit Go.Lib in
def Tryz.lays196_ren : Go.Shelf.Ren := ⟨fun | 196 => 226 | 259 => 238 | n => n, fun | 9 => 9 | 4 => 4 | 3 => 3 | 5 => 5 | 12 => 12 | 119 => 200 | 0 => 0 | 46 => 196 | 139 => 203 | 138 => 202 | 53 => 220 | n => n, fun | 3 => 1 | 4 => 2 | n => n⟩
theorem Tryz.lays196 : Go.Proofs.Lays.n196 Tryz.prog Tryz.lays196_ren := {
  mixed := by kernel_rfl
  f196 := Tryz.func226.trans (congrArg some (by kernel_rfl))
  f259 := Tryz.func238.trans (congrArg some (by kernel_rfl))
  t0 := Tryz.underlying0
  a0 := Tryz.isAgg0
  z0 := Tryz.sizeOf0
  v0 := Tryz.zeroValue0
  t3 := Tryz.underlying3
  a3 := Tryz.isAgg3
  z3 := Tryz.sizeOf3
  v3 := Tryz.zeroValue3
  t4 := Tryz.underlying4
  a4 := Tryz.isAgg4
  z4 := Tryz.sizeOf4
  v4 := Tryz.zeroValue4
  t5 := Tryz.underlying5
  a5 := Tryz.isAgg5
  z5 := Tryz.sizeOf5
  v5 := Tryz.zeroValue5
  t9 := Tryz.underlying9
  a9 := Tryz.isAgg9
  z9 := Tryz.sizeOf9
  v9 := Tryz.zeroValue9
  t12 := Tryz.underlying12
  a12 := Tryz.isAgg12
  z12 := Tryz.sizeOf12
  v12 := Tryz.zeroValue12
  t46 := Tryz.underlying196
  a46 := Tryz.isAgg196
  z46 := Tryz.sizeOf196
  v46 := Tryz.zeroValue196
  t53 := Tryz.underlying220
  a53 := Tryz.isAgg220
  z53 := Tryz.sizeOf220
  v53 := Tryz.zeroValue220
  t119 := Tryz.underlying200
  a119 := Tryz.isAgg200
  z119 := Tryz.sizeOf200
  t138 := Tryz.underlying202
  a138 := Tryz.isAgg202
  z138 := Tryz.sizeOf202
  v138 := Tryz.zeroValue202
  t139 := Tryz.underlying203
  a139 := Tryz.isAgg203
  z139 := Tryz.sizeOf203
  v139 := Tryz.zeroValue203
  g3 := by kernel_rfl
  g4 := by kernel_rfl }
end Go.Proofs

namespace Go.Proofs.YtfppjenblllfaaaGreatDoor
open Go.Emb Go.RowKit Go.Kd Go.Hm
variable {w : World} {K : Value → World → Prop} {σ : Q5}
theorem Q9H {f:FuncId} {fn:Func} {a:List Value} {V:Value} (g:P.funcs[f]? =some fn) (b:fn.body.isSome=true) (d:(fn.name== "runtime.NumGoroutine")=false)
 (h:Calls P f a.toArray w fun e w'=>e= .returned V∧Below w.heap.size w w') (c: ∀w',Below w.heap.size w w'→K V w'):Q0 P f a w K:=by
 refine Us g b d (Calls.mono h ?_)
 rintro e w' ⟨rfl,b⟩
 exact c w' b
theorem Q3y {a:X0} (c:a.length≤Z9) (b:Lib.Utf8Tabs G.e G.d w) (h: ∀w',Below w.heap.size w w'→K (.bool (Lib.validD a)) w'):Q0 P F.bB [S a] w K:=
 Q9H Tryz.func226 (by kernel_rfl) (by kernel_rfl) (by
  have:=Any.utf8_ValidString Tryz.lays196 ⟨a.toArray⟩ w (by rw[B2];simp only[Z9] at c;omega) b
  simp only[List.toList_toArray] at this
  exact this) h
theorem Q5I {a:X0} {c:UInt8} (h:K (.bool (decide (0≤Lib.indexByte a c))) w):Q0 P F.cq [S a,S [c]] w K:=by
 refine Us (fn:=Tryz.f227) Tryz.func227 (by kernel_rfl) (by kernel_rfl) (Calls.mono (Tryz.strings_Contains_one ⟨a.toArray⟩ c w) ?_)
 rintro e w' ⟨rfl,rfl⟩
 exact h
structure Glb (σ : Q5) : Prop where
  ops : Q1e σ
  tabs : ∀ w, X4 w σ → Lib.Utf8Tabs G.e G.d w
  flt : Z3 σ ⟨G.b, 0, none⟩ (J6.map S)
theorem Glb.lift {σ0:Q5} (h:Glb σ0) (k:SLe σ0 σ):Glb σ:=⟨h.ops.le k.le,fun w a=>h.tabs w fun b o e=>a b o (k.le b o e),h.flt.le k.le⟩
def txt (n s:X0):Bool:=
 if n=[119,111,114,100] then decide (s.length≤64)&&Lib.validD s&& !decide (0≤Lib.indexByte s 10)
 else if n=[110,101,119] then W7 s
 else if n=[105,115]∨n=[99,97,115,116] then right s&& !plain s
 else if n=[97,114,114,97,121] then right s&&decide (Q19 s<3)
 else Xw s
theorem X26 {n a:X0} (ha:a.length≤Z9) (hs:X4 w σ) (hg:Glb σ) (h: ∀w' σ',Stp w σ w' σ'→K (.bool (txt n a)) w'):Q0 P F.cE [S n,S a] w K:=Q5H (by
 unfold Q0R
 have ha':a.length≤140737488355320:=by simp only[Z9] at ha;omega
 have ha2:a.length≤140737488355328:=by simp only[Z9] at ha;omega
 have hv: ∀{w1:World} {K:Value→World→Prop},X4 w1 σ→(∀w',Below w1.heap.size w1 w'→K (.bool (Lib.validD a)) w')→Q0 P F.bB [S a] w1 K:=fun hk h=>Q3y ha (hg.tabs _ hk) h
 unfold txt at h
 have e:decide ((a.length:Int)≤64)=decide (a.length≤64):=by rw[Bool.eq_iff_iff];simp only[decide_eq_true_eq];omega
 have e3:decide ((Q19 a:Int)<3)=decide (Q19 a<3):=by rw[Bool.eq_iff_iff];simp only[decide_eq_true_eq];omega
 by_cases h1:n=[119,111,114,100]
 ·rw[if_pos h1] at h
  simp only[decide_eq_true h1,↓M1,M1,Mb,reduceIte,e]
  by_cases h2:a.length≤64
  ·simp only[decide_eq_true h2,↓M1,M1,Mb,reduceIte] at h⊢
   refine hv hs (W0 hs ?_)
   intro w1 σ1 hk
   by_cases h3:Lib.validD a=true
   ·simp only[h3,↓M1,M1,Mb,reduceIte] at h⊢
    refine Q5I ?_
    (repeat' (first | (with_reducible intro _) | (with_reducible refine V8 ?_) | (simp only[↓M2,M2,Mb,reduceIte]) | (with_reducible first | refine ld aS aL aR ?_ | refine X8 aS aL aR ?_ | refine Y9 aS aL aR ?_ | refine Q8 aL ?_ | refine V3 aR ?_ | refine Y7 aS ?_ | refine L2 aS aL ?_ | refine J9 aS aR ?_ | refine Y6 aS aR aR (Rep.one (by assumption)) ?_ | refine U3 aS aR aR aR ?_ | (refine Z4 (fun hh=>?_) (fun hh=>?_)<;>(try simp only[hh,Bool.not_true,Bool.not_false,↓M2,M2,Mb,reduceIte])) | (refine Q6 (fun hh=>?_) (fun hh=>?_)<;>(try simp only[hh,Bool.not_true,Bool.not_false,↓M2,M2,Mb,reduceIte])))))
    all_goals exact aF
   ·simp only[eq_false_of_ne_true h3,↓M1,M1,Mb,reduceIte] at h⊢
    (repeat' (first | (with_reducible intro _) | (with_reducible refine V8 ?_) | (simp only[↓M2,M2,Mb,reduceIte]) | (with_reducible first | refine ld aS aL aR ?_ | refine X8 aS aL aR ?_ | refine Y9 aS aL aR ?_ | refine Q8 aL ?_ | refine V3 aR ?_ | refine Y7 aS ?_ | refine L2 aS aL ?_ | refine J9 aS aR ?_ | refine Y6 aS aR aR (Rep.one (by assumption)) ?_ | refine U3 aS aR aR aR ?_ | (refine Z4 (fun hh=>?_) (fun hh=>?_)<;>(try simp only[hh,Bool.not_true,Bool.not_false,↓M2,M2,Mb,reduceIte])) | (refine Q6 (fun hh=>?_) (fun hh=>?_)<;>(try simp only[hh,Bool.not_true,Bool.not_false,↓M2,M2,Mb,reduceIte])))))
    all_goals exact aF
  ·simp only[decide_eq_false h2,↓M1,M1,Mb,reduceIte] at h⊢
   (repeat' (first | (with_reducible intro _) | (with_reducible refine V8 ?_) | (simp only[↓M2,M2,Mb,reduceIte]) | (with_reducible first | refine ld aS aL aR ?_ | refine X8 aS aL aR ?_ | refine Y9 aS aL aR ?_ | refine Q8 aL ?_ | refine V3 aR ?_ | refine Y7 aS ?_ | refine L2 aS aL ?_ | refine J9 aS aR ?_ | refine Y6 aS aR aR (Rep.one (by assumption)) ?_ | refine U3 aS aR aR aR ?_ | (refine Z4 (fun hh=>?_) (fun hh=>?_)<;>(try simp only[hh,Bool.not_true,Bool.not_false,↓M2,M2,Mb,reduceIte])) | (refine Q6 (fun hh=>?_) (fun hh=>?_)<;>(try simp only[hh,Bool.not_true,Bool.not_false,↓M2,M2,Mb,reduceIte])))))
   all_goals exact aF
 rw[if_neg h1] at h
 simp only[decide_eq_false h1,↓M1,M1,Mb,reduceIte]
 by_cases h2:n=[110,101,119]
 ·rw[if_pos h2] at h
  simp only[decide_eq_true h2,↓M1,M1,Mb,reduceIte]
  (repeat' (first | (with_reducible intro _) | (with_reducible refine V8 ?_) | (simp only[↓M2,M2,Mb,reduceIte]) | (with_reducible first | refine ld aS aL aR ?_ | refine X8 aS aL aR ?_ | refine Y9 aS aL aR ?_ | refine Q8 aL ?_ | refine V3 aR ?_ | refine Y7 aS ?_ | refine L2 aS aL ?_ | refine J9 aS aR ?_ | refine Y6 aS aR aR (Rep.one (by assumption)) ?_ | refine U3 aS aR aR aR ?_ | refine Dq _ au (W0 aS ?_) | (refine Z4 (fun hh=>?_) (fun hh=>?_)<;>(try simp only[hh,Bool.not_true,Bool.not_false,↓M2,M2,Mb,reduceIte])) | (refine Q6 (fun hh=>?_) (fun hh=>?_)<;>(try simp only[hh,Bool.not_true,Bool.not_false,↓M2,M2,Mb,reduceIte])))))
  all_goals exact aF
 rw[if_neg h2] at h
 simp only[decide_eq_false h2,↓M1,M1,Mb,reduceIte]
 by_cases h3:n=[105,115]∨n=[99,97,115,116]
 ·rw[if_pos h3] at h
  have e4:(decide (n=[105,115])||decide (n=[99,97,115,116]))=true:=by simpa using h3
  refine V8 ?_
  refine Q6 (fun h4=>?_) (fun h4=>?_)
  ·simp only[h4,↓M1,M1,Mb,reduceIte]
   (repeat' (first | (with_reducible intro _) | (with_reducible refine V8 ?_) | (simp only[↓M2,M2,Mb,reduceIte]) | (with_reducible first | refine ld aS aL aR ?_ | refine X8 aS aL aR ?_ | refine Y9 aS aL aR ?_ | refine Q8 aL ?_ | refine V3 aR ?_ | refine Y7 aS ?_ | refine L2 aS aL ?_ | refine J9 aS aR ?_ | refine Y6 aS aR aR (Rep.one (by assumption)) ?_ | refine U3 aS aR aR aR ?_ | refine Ja _ au (W0 aS ?_) | refine Vj _ ?_ | (refine Z4 (fun hh=>?_) (fun hh=>?_)<;>(try simp only[hh,Bool.not_true,Bool.not_false,↓M2,M2,Mb,reduceIte])) | (refine Q6 (fun hh=>?_) (fun hh=>?_)<;>(try simp only[hh,Bool.not_true,Bool.not_false,↓M2,M2,Mb,reduceIte])))))
   all_goals exact aF
  ·rw[h4,Bool.false_or] at e4
   simp only[e4,↓M1,M1,Mb,reduceIte]
   (repeat' (first | (with_reducible intro _) | (with_reducible refine V8 ?_) | (simp only[↓M2,M2,Mb,reduceIte]) | (with_reducible first | refine ld aS aL aR ?_ | refine X8 aS aL aR ?_ | refine Y9 aS aL aR ?_ | refine Q8 aL ?_ | refine V3 aR ?_ | refine Y7 aS ?_ | refine L2 aS aL ?_ | refine J9 aS aR ?_ | refine Y6 aS aR aR (Rep.one (by assumption)) ?_ | refine U3 aS aR aR aR ?_ | refine Ja _ au (W0 aS ?_) | refine Vj _ ?_ | (refine Z4 (fun hh=>?_) (fun hh=>?_)<;>(try simp only[hh,Bool.not_true,Bool.not_false,↓M2,M2,Mb,reduceIte])) | (refine Q6 (fun hh=>?_) (fun hh=>?_)<;>(try simp only[hh,Bool.not_true,Bool.not_false,↓M2,M2,Mb,reduceIte])))))
   all_goals exact aF
 rw[if_neg h3] at h
 obtain ⟨h3,h4⟩:=not_or.1 h3
 refine V8 ?_
 simp only[decide_eq_false h3,decide_eq_false h4,↓M1,M1,Mb,reduceIte]
 by_cases h5:n=[97,114,114,97,121]
 ·rw[if_pos h5] at h
  simp only[decide_eq_true h5,↓M1,M1,Mb,reduceIte]
  (repeat' (first | (with_reducible intro _) | (with_reducible refine V8 ?_) | (simp only[↓M2,M2,Mb,reduceIte]) | (with_reducible first | refine ld aS aL aR ?_ | refine X8 aS aL aR ?_ | refine Y9 aS aL aR ?_ | refine Q8 aL ?_ | refine V3 aR ?_ | refine Y7 aS ?_ | refine L2 aS aL ?_ | refine J9 aS aR ?_ | refine Y6 aS aR aR (Rep.one (by assumption)) ?_ | refine U3 aS aR aR aR ?_ | refine Ja _ au (W0 aS ?_) | refine X1x _ au (W0 aS ?_) | (refine Z4 (fun hh=>?_) (fun hh=>?_)<;>(try simp only[hh,Bool.not_true,Bool.not_false,↓M2,M2,Mb,reduceIte])) | (refine Q6 (fun hh=>?_) (fun hh=>?_)<;>(try simp only[hh,Bool.not_true,Bool.not_false,↓M2,M2,Mb,reduceIte])))))
  all_goals (try rw[e3])
  all_goals exact aF
 rw[if_neg h5] at h
 simp only[decide_eq_false h5,↓M1,M1,Mb,reduceIte]
 intro _
 refine X0H a ha2 (W0 hs fun w1 σ1 hk=>?_)
 by_cases hp:Xw a=true
 ·simp only[hp,if_true] at h⊢
  (repeat' (first | (with_reducible intro _) | (with_reducible refine V8 ?_) | (simp only[↓M2,M2,Mb,reduceIte]) | (with_reducible first | refine ld aS aL aR ?_ | refine X8 aS aL aR ?_ | refine Y9 aS aL aR ?_ | refine Q8 aL ?_ | refine V3 aR ?_ | refine Y7 aS ?_ | refine L2 aS aL ?_ | refine J9 aS aR ?_ | refine Y6 aS aR aR (Rep.one (by assumption)) ?_ | refine U3 aS aR aR aR ?_ | (refine Z4 (fun hh=>?_) (fun hh=>?_)<;>(try simp only[hh,Bool.not_true,Bool.not_false,↓M2,M2,Mb,reduceIte])) | (refine Q6 (fun hh=>?_) (fun hh=>?_)<;>(try simp only[hh,Bool.not_true,Bool.not_false,↓M2,M2,Mb,reduceIte])))))
  all_goals exact aF
 ·simp only[eq_false_of_ne_true hp,Bool.false_eq_true,if_false] at h⊢
  (repeat' (first | (with_reducible intro _) | (with_reducible refine V8 ?_) | (simp only[↓M2,M2,Mb,reduceIte]) | (with_reducible first | refine ld aS aL aR ?_ | refine X8 aS aL aR ?_ | refine Y9 aS aL aR ?_ | refine Q8 aL ?_ | refine V3 aR ?_ | refine Y7 aS ?_ | refine L2 aS aL ?_ | refine J9 aS aR ?_ | refine Y6 aS aR aR (Rep.one (by assumption)) ?_ | refine U3 aS aR aR aR ?_ | (refine Z4 (fun hh=>?_) (fun hh=>?_)<;>(try simp only[hh,Bool.not_true,Bool.not_false,↓M2,M2,Mb,reduceIte])) | (refine Q6 (fun hh=>?_) (fun hh=>?_)<;>(try simp only[hh,Bool.not_true,Bool.not_false,↓M2,M2,Mb,reduceIte])))))
  all_goals exact aF)
def N7 (i:Ins):Int:=if !(takes i.op).2.2 then 40 else if (!(takes i.op).1&&decide (i.n≠0))||(!(takes i.op).2.1&&decide (i.s≠[]))||((takes i.op).2.1&& !txt i.op i.s) then 41 else 0
theorem Q9U {a:X0} (b:X4 w σ) (c:Glb σ) (h: ∀w',Below w.heap.size w w'→K (.tuple #[.bool (takes a).1, .bool (takes a).2.1, .bool (takes a).2.2]) w'):Q0 P F.bY [S a] w K:=X17 b c.ops h
theorem Q5t {i:Ins} {cs:List Value} (hs:X4 w σ) (hg:Glb σ) (hi:I8 σ i cs) (h: ∀w' σ',Stp w σ w' σ'→K (I (N7 i)) w'):Q0 P F.cy [.agg cs.toArray] w K:=Q4l (by
 obtain ⟨rfl,h1,h2,h3⟩:=hi
 unfold Tp
 unfold N7 at h
 (repeat' (first | (with_reducible intro _) | (with_reducible refine V8 ?_) | (simp only[↓M2,M2,Mb,reduceIte]) | (with_reducible first | refine ld aS aL aR ?_ | refine X8 aS aL aR ?_ | refine Y9 aS aL aR ?_ | refine Q8 aL ?_ | refine V3 aR ?_ | refine Y7 aS ?_ | refine L2 aS aL ?_ | refine J9 aS aR ?_ | refine Y6 aS aR aR (Rep.one (by assumption)) ?_ | refine U3 aS aR aR aR ?_ | refine Q9U au au (W0 aS ?_) | refine X26 au au au ?_ | (refine Z4 (fun hh=>?_) (fun hh=>?_)<;>(try simp only[hh,Bool.not_true,Bool.not_false,↓M2,M2,Mb,reduceIte])) | (refine Q6 (fun hh=>?_) (fun hh=>?_)<;>(try simp only[hh,Bool.not_true,Bool.not_false,↓M2,M2,Mb,reduceIte])))))
 all_goals exact aF)
end Go.Proofs.YtfppjenblllfaaaGreatDoor

namespace Go.Emb
open Go.RowKit Go.Hm
variable {P : Program} {W : World}
theorem Q1j {w:World} (c:X4 w (Ul W)) {a:Addr} {v:Value} (h:W.cell? a=some v):w.cell? a=some v:=by
 unfold World.cell? at h⊢
 cases b:W.heap[a.block]? with
 | none=>rw[b] at h;cases h
 | some o=>rw[b] at h;rw[c _ o b];exact h
theorem X1K {α:Type} {f:α→List Value} {sz:Nat} (k: ∀a,(f a).length=sz): ∀(l:List α) (cs:List Value),cs.length=l.length*sz→(∀i a,l[i]? =some a→(cs.drop (i*sz)).take sz=f a)→cs=l.flatMap f:=by
 intro l
 induction l with
 | nil=>intro cs h _;simp at h;simp[h]
 | cons a r e=>
  intro cs h hh
  have c:=hh 0 a rfl
  have g:=e (cs.drop sz) (by rw[List.length_drop,h,List.length_cons,Nat.succ_mul];omega) (fun i b j=>by
   have:=hh (i+1) b (by simpa using j)
   rw[List.drop_drop]
   rwa [Nat.succ_mul,Nat.add_comm] at this)
  rw[List.flatMap_cons,←g,←c]
  simp
theorem Q3d {α H:Type} {enc:TypeId×Value→H} {base:Nat} {u:Nat→Bool} {b:Bool} {f:α→List Value} {k:α→DataW H} {n sz:Nat} {t e:TypeId} {c:Nat} {cs:List Value} {p:List MemPlace} (z:P.underlying t=some (.array n e)) (B:P.cellsOf e=sz) (o:P.cellsOf t=n*sz)
 (l:List α) (A: ∀a,(f a).length=sz) (j: ∀m cs a q,DataW.trod enc P W base u b m e cs=some (k a,q)→cs=f a)
 (h:DataW.trod enc P W base u b c t cs=some (.agg (l.map k),p)):cs=l.flatMap f:=by
 obtain ⟨xs,m,_,g,C,L,D⟩:=DataW.trod_array z h
 simp only[Prod.mk.injEq,DataW.agg.injEq] at g
 have y:l.length=n:=by have:=congrArg List.length g.1;simp at this;omega
 refine X1K A l cs (by rw[C,o,y]) fun i a s=>?_
 have J:i<l.length:=(List.getElem?_eq_some_iff.1 s).1
 have r:=D i (by omega)
 have w:i<xs.length:=by omega
 rw[List.getElem?_eq_getElem w,B] at r
 have E:(xs[i]).1=k a:=by
  have:=congrArg (·[i]?) g.1
  simp only[List.getElem?_map,s,List.getElem?_eq_getElem w,Option.map_some,Option.some.injEq] at this
  exact this.symm
 exact j m _ a _ (by rw[r];congr 1;exact Prod.ext E rfl)
theorem Q4f {n:String} {g:Nat} {cs:Array Value} {l:List Value} (f:P.globalNamed n=some g) (a:W.var? P n=some cs) (h:cs.toList=l):Z3 (Ul W) ⟨g,0,none⟩ l:=by
 unfold World.var? at a
 rw[f] at a
 simp only[Option.bind_some] at a
 cases b:W.heap[g]? with
 | none=>rw[b] at a;cases a
 | some o=>
  rw[b] at a
  cases o with
  | cells D6 e j=>
   cases a
   refine ⟨rfl,cs,e,j,b,fun i v c=>?_⟩
   subst h
   simpa using c
  | _=>cases a
end Go.Emb
namespace Go.Proofs.YtfppjenblllfaaaGreatDoor
open Go.Emb Go.RowKit Go.Kd Go.Hm
variable {W : World}
def laidAll:List (String×DataW Unit):=[("unicode/utf8.acceptRanges",Rows.laid_unicode_utf8_acceptRanges),("squinch/code.ops",Rows.laid_squinch_code_ops),("squinch/hier.faults",Rows.laid_squinch_hier_faults),("unicode/utf8.first",Rows.laid_unicode_utf8_first)]
theorem X2t:Rows.laid_squinch_code_ops=(.agg (Zh.map fun o=> .agg [.lit (.string o.name), .lit (.bool o.number), .lit (.bool o.text)]):DataW Unit):=by rfl
theorem Q9i:Rows.laid_squinch_hier_faults=(.agg (J6.map fun s=> .lit (.string s)):DataW Unit):=by rfl
theorem X2k:(Rows.laid_unicode_utf8_acceptRanges:DataW Unit)=Lib.acceptData:=by rfl
theorem X19:Rows.laid_unicode_utf8_first=Lib.firstData:=by kernel_rfl
def X2E:Array Field:= #[⟨"name",T.b,0,false, "", "squinch/code",0⟩,⟨"number",T.m,1,false, "", "squinch/code",16⟩,⟨"text",T.m,2,false, "", "squinch/code",17⟩]
theorem X2G:P.underlying T.a6=some (.struct X2E):=by kernel_rfl
theorem X1S (h:laidMetH P laidAll W):Glb (Ul W):=by
 rw[Go.MakeChecks.laidMetH_plain _ _ _ (by kernel_rfl)] at h
 refine ⟨?_,fun w B=>?_,?_⟩
 ·obtain ⟨g,t,cs,o,p,r,k,b,l⟩:=Lib.laidMet.reads h (.tail _ (.head _))
  obtain rfl:=Option.some.inj ((show P.globalNamed "squinch/code.ops"=some G.a by kernel_rfl).symm.trans r)
  obtain rfl:=Option.some.inj ((show (P.globals[G.a]?).map (·.type)=some T.a8 by kernel_rfl).symm.trans k)
  rw[X2t] at l
  refine Q4f r b (Q3d (f:=cOp) (sz:=3) (n:=42) (e:=T.a6) (by kernel_rfl) (by kernel_rfl) (by kernel_rfl) Zh (fun _=>rfl) (fun m cs a q h=>by
  obtain ⟨xs,n,_,j,h1,Z,A⟩:=DataW.trod_struct X2G h
  simp only[Prod.mk.injEq,DataW.agg.injEq] at j
  have u:cs.length=3:=by rw[h1];kernel_rfl
  obtain ⟨z,C,y,rfl⟩:=Q7n u
  obtain ⟨V,Y,x2,rfl⟩:=Q7n (show xs.length=3 by rw[Z];rfl)
  have j:=j.1
  simp only[List.map_cons,List.map_nil,List.cons.injEq,and_true] at j
  obtain ⟨E,Q,O⟩:=j
  have M:DataW.trod (fun _=>()) P W 0 (fun _=>true) false n T.b (List.take (P.cellsOf T.b) (List.drop 0 [z,C,y]))=some V:=A 0 _ rfl
  have L:DataW.trod (fun _=>()) P W 0 (fun _=>true) false n T.m (List.take (P.cellsOf T.m) (List.drop 1 [z,C,y]))=some Y:=A 1 _ rfl
  have R:DataW.trod (fun _=>()) P W 0 (fun _=>true) false n T.m (List.take (P.cellsOf T.m) (List.drop 2 [z,C,y]))=some x2:=A 2 _ rfl
  rw[Gw] at M
  rw[Q8q] at L R
  obtain ⟨⟨⟨s0⟩⟩,q0,r0,_⟩:=DataW.trod_string X7 M
  obtain ⟨b1,J,r1⟩:=DataW.trod_bool Q01 L
  obtain ⟨b2,N,U⟩:=DataW.trod_bool Q01 R
  simp at q0 J N
  subst q0 J N r0 r1 U
  simp at E Q O
  simp[cOp,←E,←Q,←O]) l)
 ·have:=utf8Tabs_of_readsT (U8Types.of196 Tryz.lays196) ⟨by kernel_rfl,by kernel_rfl,by kernel_rfl,by kernel_rfl,by kernel_rfl,by kernel_rfl,by kernel_rfl⟩ (X19▸Lib.laidMet.reads h (.tail _ (.tail _ (.tail _ (.head _))))) (X2k▸Lib.laidMet.reads h (.head _))
  exact ⟨fun c X=>Q1j B (this.1 c X),fun i D=>⟨Q1j B (this.2 i D).1,Q1j B (this.2 i D).2⟩⟩
 ·obtain ⟨g,t,cs,o,p,r,k,b,l⟩:=Lib.laidMet.reads h (.tail _ (.tail _ (.head _)))
  obtain rfl:=Option.some.inj ((show P.globalNamed "squinch/hier.faults"=some G.b by kernel_rfl).symm.trans r)
  obtain rfl:=Option.some.inj ((show (P.globals[G.b]?).map (·.type)=some T.ag by kernel_rfl).symm.trans k)
  rw[Q9i] at l
  have:=Q3d (f:=fun s=>[S s]) (sz:=1) (n:=6) (e:=T.b) (by kernel_rfl) Gw (by kernel_rfl) J6 (fun _=>rfl) (fun m cs a q h=>by
   obtain ⟨⟨⟨s⟩⟩,rfl,j,_⟩:=DataW.trod_string X7 h
   cases j;rfl) l
  exact Q4f r b (this.trans (by rfl))
end Go.Proofs.YtfppjenblllfaaaGreatDoor
namespace Go.Emb
open Go.RowKit Go.Hm
theorem Q8w {H:Type} {P:Program} {a:List TypeId} {ds:List (DataW H)} (h:(DataW.weightsEach P a ds).all (· ≤reachBytes)=true) {j:Nat} {t:TypeId} {d:DataW H} (b:a[j]? =some t) (e:ds[j]? =some d):Wt P t d:=fun n c=>by
 have:=List.all_eq_true.1 h _ (DataW.weights_mem_each b e n c)
 simpa using this
end Go.Emb
namespace Go.Proofs.YtfppjenblllfaaaGreatDoor
open Go.Emb Go.RowKit Go.Kd Go.Hm
section
variable {H : Type} {enc : TypeId × Value → H} {W : World} {v : Value} {d : DataW H} {p : List MemPlace}
end
end Go.Proofs.YtfppjenblllfaaaGreatDoor

namespace Go.Proofs.YtfppjenblllfaaaGreatDoor
open Go.Emb Go.RowKit Go.Kd Go.Hm
variable {w : World} {K : Value → World → Prop} {σ : Q5}
def C7 (n:Int) (x:Cat):Bool:=decide (0≤x.frm)&&decide (x.frm<x.to)&&decide (x.to≤n)&&decide (0≤x.at_)&&decide (x.at_<n)&&W7 x.cls
theorem Q7t {cs:List Value} {c:Cat} {q:Addr} {n:Int} (hs:X4 w σ) (hc:Yo σ c cs) (hq:Z3 σ q [I n]) (h: ∀w' σ',Stp w σ w' σ'→K (.bool (C7 n c)) w'):Q0 P F.b4 [.agg cs.toArray, .pointer (some q)] w K:=Q1n (by
 obtain ⟨rfl,h1,h2,h3,h4⟩:=hc
 unfold Ea
 unfold C7 at h
 (repeat' (first | (with_reducible intro _) | (with_reducible refine V8 ?_) | (simp only[↓M2,M2,Mb,reduceIte]) | (with_reducible first | refine ld aS aL aR ?_ | refine X8 aS aL aR ?_ | refine Y9 aS aL aR ?_ | refine Q8 aL ?_ | refine V3 aR ?_ | refine Y7 aS ?_ | refine L2 aS aL ?_ | refine J9 aS aR ?_ | refine Y6 aS aR aR (Rep.one (by assumption)) ?_ | refine U3 aS aR aR aR ?_ | refine Dq _ au (W0 aS ?_) | (refine Z4 (fun hh=>?_) (fun hh=>?_)<;>(try simp only[hh,Bool.not_true,Bool.not_false,↓M2,M2,Mb,reduceIte])) | (refine Q6 (fun hh=>?_) (fun hh=>?_)<;>(try simp only[hh,Bool.not_true,Bool.not_false,↓M2,M2,Mb,reduceIte])))))
 all_goals exact aF)
theorem Q6Z {cs:List Value} {i:Ins} (hs:X4 w σ) (hg:Glb σ) (hc:I8 σ i cs) (h: ∀w' σ',Stp w σ w' σ'→K (.bool (decide (N7 i=0))) w'):Q0 P F.b5 [.agg cs.toArray] w K:=Q17 (by
 obtain ⟨rfl,h1,h2,h3⟩:=hc
 have hc:I8 σ i [S i.op,I i.n,S i.s]:=⟨rfl,h1,h2,h3⟩
 unfold Hb
 (repeat' (first | (with_reducible intro _) | (with_reducible refine V8 ?_) | (simp only[↓M2,M2,Mb,reduceIte]) | (with_reducible first | refine ld aS aL aR ?_ | refine X8 aS aL aR ?_ | refine Y9 aS aL aR ?_ | refine Q8 aL ?_ | refine V3 aR ?_ | refine Y7 aS ?_ | refine L2 aS aL ?_ | refine J9 aS aR ?_ | refine Y6 aS aR aR (Rep.one (by assumption)) ?_ | refine U3 aS aR aR aR ?_ | refine Q5t au au au ?_ | (refine Z4 (fun hh=>?_) (fun hh=>?_)<;>(try simp only[hh,Bool.not_true,Bool.not_false,↓M2,M2,Mb,reduceIte])) | (refine Q6 (fun hh=>?_) (fun hh=>?_)<;>(try simp only[hh,Bool.not_true,Bool.not_false,↓M2,M2,Mb,reduceIte])))))
 all_goals exact aF)
def B3 (m:Hm.Met):Bool:=L9 m.name&&m.params.all right&&(decide (m.result=[])||right m.result)&&
 if m.abs then decide (m.locals=0)&&decide (m.code=[])&&decide (m.catches=[])
 else decide (m.code≠[])&&decide ((m.params.length:Int)<m.locals)&&m.code.all (fun i=>decide (N7 i=0))&&m.catches.all (C7 m.code.length)
theorem Q9B {cs:List Value} {m:Hm.Met} (hs:X4 w σ) (hg:Glb σ) (hm:M6 σ m cs) (h: ∀w' σ',Stp w σ w' σ'→K (.bool (B3 m)) w'):Q0 P F.aX [.agg cs.toArray] w K:=Q2l (by
 obtain ⟨pv,cv,hv,rfl,g1,g2,g3,g4,g5,g6⟩:=hm
 unfold Cj
 unfold B3 at h
 have e1:decide ((0:Int)<m.code.length)=decide (m.code≠[]):=by cases m.code<;>simp
 have e2:decide ((m.code.length:Int)=0)=decide (m.code=[]):=by cases m.code<;>simp;omega
 have e3:decide ((m.catches.length:Int)=0)=decide (m.catches=[]):=by cases m.catches<;>simp;omega
 have hA: ∀{w1:World} {σ1:Q5} {K:Value→World→Prop},X4 w1 σ1→Sl 1 Y1 σ1 pv m.params→(∀w' σ',Stp w1 σ1 w' σ'→K (.bool (m.params.all right)) w')→Q0 P F.a5 [pv, .func (.func F.a3) #[] #[]] w1 K:=
  fun hs hv h=>Cp right hs hv (fun σ1 x w1 K _ _ hs hl hK=>Y8 (Ja x (Nat.le_trans hl (by decide)) hK)) (W0 hs h)
 have hB: ∀{w1:World} {σ1:Q5} {K:Value→World→Prop},X4 w1 σ1→Glb σ1→Sl 3 I8 σ1 cv m.code→(∀w' σ',Stp w1 σ1 w' σ'→K (.bool (m.code.all fun i=>decide (N7 i=0))) w')→Q0 P F.ar [cv, .func (.func F.b5) #[] #[]] w1 K:=
  fun hs hg hv h=>Q0C (fun i=>decide (N7 i=0)) hs hv (fun σ1 x cs w1 K le _ hs hr hl hK=>Y8 (Q6Z hs (hg.lift ⟨le⟩) hr fun w' σ' hk=>hK w' hk.bel)) (W0 hs h)
 have hC: ∀{w1:World} {σ1:Q5} {K:Value→World→Prop} {q:Addr},X4 w1 σ1→Sl 4 Yo σ1 hv m.catches→Z3 σ1 q [I m.code.length]→(∀w' σ',Stp w1 σ1 w' σ'→K (.bool (m.catches.all (C7 m.code.length))) w')→Q0 P F.au [hv, .func (.func F.b4) #[] #[.pointer (some q)]] w1 K:=
  fun hs hv hq h=>Q0z (C7 m.code.length) hs hv (fun σ1 x cs w1 K le _ hs hr hl hK=>Y8 (Q7t hs hr (hq.le le) fun w' σ' hk=>hK w' hk.bel)) (W0 hs h)
 refine Y7 hs fun a w1 σ1 hk1 ha1=>?_
 (repeat' (first | (with_reducible intro _) | (with_reducible refine V8 ?_) | (simp only[↓M2,M2,Mb,reduceIte]) | (with_reducible first | refine ld aS aL aR ?_ | refine X8 aS aL aR ?_ | refine Y9 aS aL aR ?_ | refine Q8 aL ?_ | refine V3 aR ?_ | refine Y7 aS ?_ | refine L2 aS aL ?_ | refine J9 aS aR ?_ | refine Y6 aS aR aR (Rep.one (by assumption)) ?_ | refine U3 aS aR aR aR ?_ | refine Q4G au (W0 aS ?_) | refine Ja _ au (W0 aS ?_) | refine hA au au ?_ | refine hB au au au ?_ | refine hC au au au ?_ | (refine Z4 (fun hh=>?_) (fun hh=>?_)<;>(try simp only[hh,Bool.not_true,Bool.not_false,↓M2,M2,Mb,reduceIte])) | (refine Q6 (fun hh=>?_) (fun hh=>?_)<;>(try simp only[hh,Bool.not_true,Bool.not_false,↓M2,M2,Mb,reduceIte])))))
 all_goals (simp only[←e1,←e2,←e3] at h;clear e1 e2 e3;exact aF))
theorem Q8K {cs:List Value} {m:Hm.Met} (b:X4 w σ) (c:Glb σ) (a:M6 σ m cs) (h: ∀w' d,Stp w σ w' d→K (.bool (B3 m)) w'):Z2 P (.func (.func F.aX) #[] #[]) [.agg cs.toArray] w K:=Y8 (Q9B b c a h)
def Ns (f:Fld):Bool:=L9 f.name&&right f.kind
def Wk (c:Cla):Bool:=(c.name::c.super::c.like).all W7&& !((c.super::c.like).any fun y=>decide (c.name=y))&&H1 id [] c.like&&
 !(c.iface&&(!c.abs|| !decide (c.super=Z7)|| !decide (c.fields=[])||c.methods.any (fun m=> !m.abs)))&&
 !((c.abs&&c.fin)||(c.methods.any (·.abs)&& !c.abs))&&H1 Fld.name [] c.fields&&H1 Hm.Met.name [] c.methods&&c.fields.all Ns&&c.methods.all B3
def L8 (c:Cla):Int:=if Xz c then 51 else if Wk c then 0 else 50
theorem Q8y {cs:List Value} {f:Fld} (hs:X4 w σ) (hf:E2 σ f cs) (h: ∀w' σ',Stp w σ w' σ'→K (.bool (Ns f)) w'):Q0 P F.bm [.agg cs.toArray] w K:=Q1t (by
 obtain ⟨rfl,h1,h2⟩:=hf
 unfold Rd
 unfold Ns at h
 (repeat' (first | (with_reducible intro _) | (with_reducible refine V8 ?_) | (simp only[↓M2,M2,Mb,reduceIte]) | (with_reducible first | refine ld aS aL aR ?_ | refine X8 aS aL aR ?_ | refine Y9 aS aL aR ?_ | refine Q8 aL ?_ | refine V3 aR ?_ | refine Y7 aS ?_ | refine L2 aS aL ?_ | refine J9 aS aR ?_ | refine Y6 aS aR aR (Rep.one (by assumption)) ?_ | refine U3 aS aR aR aR ?_ | refine Q4G au (W0 aS ?_) | refine Ja _ au (W0 aS ?_) | (refine Z4 (fun hh=>?_) (fun hh=>?_)<;>(try simp only[hh,Bool.not_true,Bool.not_false,↓M2,M2,Mb,reduceIte])) | (refine Q6 (fun hh=>?_) (fun hh=>?_)<;>(try simp only[hh,Bool.not_true,Bool.not_false,↓M2,M2,Mb,reduceIte])))))
 all_goals exact aF)
set_option maxHeartbeats 1600000 in
theorem X18 {cs:List Value} {c:Cla} (hs:X4 w σ) (hg:Glb σ) (hc:U5 σ c cs) (hl:c.like.length≤1000000) (h: ∀w' σ',Stp w σ w' σ'→K (.bool (Wk c)) w'):Q0 P F.cf [.agg cs.toArray] w K:=Q3H (by
 obtain ⟨lv,fv,mv,rfl,g1,g2,g3,g4,g5⟩:=hc
 unfold Ie
 unfold Wk at h
 refine Y7 hs fun a w1 σ1 hk1 ha1=>?_
 rw[fa]
 refine ld hk1.sat ha1 rfl ?_
 rw[fa]
 refine ld hk1.sat ha1 rfl ?_
 refine Qc (R:=Y1) (sz:=1) (xs:=[c.name,c.super]) hk1 [_,_] rfl rfl (by simp;exact ⟨rfl,rfl⟩) rfl ⟨⟨rfl,g4⟩,⟨rfl,g5⟩,trivial⟩ fun v w2 hk2 hacc _=>?_
 rw[fa]
 refine ld hk2.sat ha1 rfl ?_
 refine Dg (hk1.trans hk2) hacc (g1.up hk1) rfl (by simp;omega) (by simp;omega) fun v' w3 hn3 hS3 hacc3 _=>?_
 obtain ⟨σ3,hS3,hv3,le3,_⟩:=hacc3.keep hS3
 have hv3:Sl 1 Y1 σ3 v' (c.name::c.super::c.like):=hv3
 have ha3:=ha1.le le3
 have le13:SLe σ σ3:=⟨hS3.le⟩
 have g1:=g1.lift le13
 have g2:=g2.lift le13
 have g3:=g3.lift le13
 have hg:=hg.lift le13
 refine U8 hS3.sat ?_
 refine W6 (fun v _=>Sl 1 Y1 σ3 v (c.super::c.like)) (fun _ _ _ h _=>h) (fun w hb=>?_) ?_
 ·refine Su hv3 (some (I 1)) none 1 (c.like.length+2) (.inr rfl) (.inl ⟨rfl,by simp⟩) (by omega) (by simp) fun v' hv'=>⟨Below.refl _ _,?_⟩
  simpa using hv'
 refine X2 (.pointer (some (a.add 0))) (fun w hb=>by rw[fa];exact X6 rfl) ?_
 refine X2 (S c.name) (fun t w hb e=>by rw[e];exact ld hb.sat ha3 rfl (X6 rfl)) ?_
 rintro t16 t17 t18 w4 hb4 f16 rfl rfl
 have hS4:=hS3.trans hb4.stp
 clear hb4 hk1 hk2 hn3
 have hs4:=hS4.sat
 refine Q0B hs4 f16 ?_
 have hA: ∀{w1:World} {σ1:Q5} {K:Value→World→Prop},X4 w1 σ1→Sl 7 M6 σ1 mv c.methods→(∀w' σ',Stp w1 σ1 w' σ'→K (.bool (c.methods.any (·.abs))) w')→Q0 P F.a [mv, .func (.func F.bZ) #[] #[]] w1 K:=
  fun hs hv h=>R1 (·.abs) hs hv (fun x cs w1 K _ hs hr hl hK=>Y8 (Q24 (by
   obtain ⟨pv,cv,hv,rfl,_⟩:=hr
   unfold Rm
   refine Y7 hs fun a w1 σ1 hk1 ha1=>?_
   (repeat' (first | (with_reducible intro _) | (with_reducible refine V8 ?_) | (simp only[↓M2,M2,Mb,reduceIte]) | (with_reducible first | refine ld aS aL aR ?_ | refine X8 aS aL aR ?_ | refine Y9 aS aL aR ?_ | refine Q8 aL ?_ | refine V3 aR ?_ | refine Y7 aS ?_ | refine L2 aS aL ?_ | refine J9 aS aR ?_ | refine Y6 aS aR aR (Rep.one (by assumption)) ?_ | refine U3 aS aR aR aR ?_ | (refine Z4 (fun hh=>?_) (fun hh=>?_)<;>(try simp only[hh,Bool.not_true,Bool.not_false,↓M2,M2,Mb,reduceIte])) | (refine Q6 (fun hh=>?_) (fun hh=>?_)<;>(try simp only[hh,Bool.not_true,Bool.not_false,↓M2,M2,Mb,reduceIte])))))
   exact hK _ hk1.bel))) (W0 hs h)
 have hB: ∀{w1:World} {σ1:Q5} {K:Value→World→Prop},X4 w1 σ1→Sl 7 M6 σ1 mv c.methods→(∀w' σ',Stp w1 σ1 w' σ'→K (.bool (c.methods.any fun m=> !m.abs)) w')→Q0 P F.a [mv, .func (.func F.c0) #[] #[]] w1 K:=
  fun hs hv h=>R1 (fun m=> !m.abs) hs hv (fun x cs w1 K _ hs hr hl hK=>Y8 (Q1G (by
   obtain ⟨pv,cv,hv,rfl,_⟩:=hr
   unfold Rv
   refine Y7 hs fun a w1 σ1 hk1 ha1=>?_
   (repeat' (first | (with_reducible intro _) | (with_reducible refine V8 ?_) | (simp only[↓M2,M2,Mb,reduceIte]) | (with_reducible first | refine ld aS aL aR ?_ | refine X8 aS aL aR ?_ | refine Y9 aS aL aR ?_ | refine Q8 aL ?_ | refine V3 aR ?_ | refine Y7 aS ?_ | refine L2 aS aL ?_ | refine J9 aS aR ?_ | refine Y6 aS aR aR (Rep.one (by assumption)) ?_ | refine U3 aS aR aR aR ?_ | (refine Z4 (fun hh=>?_) (fun hh=>?_)<;>(try simp only[hh,Bool.not_true,Bool.not_false,↓M2,M2,Mb,reduceIte])) | (refine Q6 (fun hh=>?_) (fun hh=>?_)<;>(try simp only[hh,Bool.not_true,Bool.not_false,↓M2,M2,Mb,reduceIte])))))
   exact hK _ hk1.bel))) (W0 hs h)
 have hC: ∀{w1:World} {σ1:Q5} {K:Value→World→Prop},X4 w1 σ1→Sl 1 Y1 σ1 v' (c.name::c.super::c.like)→(∀w' σ',Stp w1 σ1 w' σ'→K (.bool ((c.name::c.super::c.like).all W7)) w')→Q0 P F.a5 [v', .func (.func F.ah) #[] #[]] w1 K:=
  fun hs hv h=>Cp W7 hs hv (fun σ1 x w1 K _ _ hs hl hK=>Y8 (Dq x (Nat.le_trans hl (by decide)) hK)) (W0 hs h)
 have hD: ∀{w1:World} {σ1:Q5} {K:Value→World→Prop},X4 w1 σ1→Sl 1 Y1 σ1 lv c.like→(∀w' σ',Stp w1 σ1 w' σ'→K (.bool (H1 id [] c.like)) w')→Q0 P F.aK [lv, .func (.func F.c1) #[] #[]] w1 K:=
  fun hs hv h=>Q3E id hs hv (fun σ1 x w1 K _ hs hl hK=>Y8 (Q1M (hK _ (Below.refl _ _)))) (W0 hs h)
 have hE: ∀{w1:World} {σ1:Q5} {K:Value→World→Prop},X4 w1 σ1→Sl 3 E2 σ1 fv c.fields→(∀w' σ',Stp w1 σ1 w' σ'→K (.bool (H1 Fld.name [] c.fields)) w')→Q0 P F.az [fv, .func (.func F.c2) #[] #[]] w1 K:=
  fun hs hv h=>Q1d Fld.name hs hv (fun σ1 x cs w1 K _ hs hr hl hK=>Y8 (Q26 (by
   obtain ⟨rfl,_⟩:=hr
   unfold Rt
   refine Y7 hs fun a w1 σ1 hk1 ha1=>?_
   (repeat' (first | (with_reducible intro _) | (with_reducible refine V8 ?_) | (simp only[↓M2,M2,Mb,reduceIte]) | (with_reducible first | refine ld aS aL aR ?_ | refine X8 aS aL aR ?_ | refine Y9 aS aL aR ?_ | refine Q8 aL ?_ | refine V3 aR ?_ | refine Y7 aS ?_ | refine L2 aS aL ?_ | refine J9 aS aR ?_ | refine Y6 aS aR aR (Rep.one (by assumption)) ?_ | refine U3 aS aR aR aR ?_ | (refine Z4 (fun hh=>?_) (fun hh=>?_)<;>(try simp only[hh,Bool.not_true,Bool.not_false,↓M2,M2,Mb,reduceIte])) | (refine Q6 (fun hh=>?_) (fun hh=>?_)<;>(try simp only[hh,Bool.not_true,Bool.not_false,↓M2,M2,Mb,reduceIte])))))
   exact hK _ hk1.bel))) (W0 hs h)
 have hF: ∀{w1:World} {σ1:Q5} {K:Value→World→Prop},X4 w1 σ1→Sl 7 M6 σ1 mv c.methods→(∀w' σ',Stp w1 σ1 w' σ'→K (.bool (H1 Hm.Met.name [] c.methods)) w')→Q0 P F.ao [mv, .func (.func F.c3) #[] #[]] w1 K:=
  fun hs hv h=>Q0w Hm.Met.name hs hv (fun σ1 x cs w1 K _ hs hr hl hK=>Y8 (Q1R (by
   obtain ⟨pv,cv,hv,rfl,_⟩:=hr
   unfold Rp
   refine Y7 hs fun a w1 σ1 hk1 ha1=>?_
   (repeat' (first | (with_reducible intro _) | (with_reducible refine V8 ?_) | (simp only[↓M2,M2,Mb,reduceIte]) | (with_reducible first | refine ld aS aL aR ?_ | refine X8 aS aL aR ?_ | refine Y9 aS aL aR ?_ | refine Q8 aL ?_ | refine V3 aR ?_ | refine Y7 aS ?_ | refine L2 aS aL ?_ | refine J9 aS aR ?_ | refine Y6 aS aR aR (Rep.one (by assumption)) ?_ | refine U3 aS aR aR aR ?_ | (refine Z4 (fun hh=>?_) (fun hh=>?_)<;>(try simp only[hh,Bool.not_true,Bool.not_false,↓M2,M2,Mb,reduceIte])) | (refine Q6 (fun hh=>?_) (fun hh=>?_)<;>(try simp only[hh,Bool.not_true,Bool.not_false,↓M2,M2,Mb,reduceIte])))))
   exact hK _ hk1.bel))) (W0 hs h)
 have hG: ∀{w1:World} {σ1:Q5} {K:Value→World→Prop},X4 w1 σ1→Sl 3 E2 σ1 fv c.fields→(∀w' σ',Stp w1 σ1 w' σ'→K (.bool (c.fields.all Ns)) w')→Q0 P F.ap [fv, .func (.func F.bm) #[] #[]] w1 K:=
  fun hs hv h=>Q0t Ns hs hv (fun σ1 x cs w1 K _ _ hs hr hl hK=>Y8 (Q8y hs hr fun w' σ' hk=>hK w' hk.bel)) (W0 hs h)
 have hH: ∀{w1:World} {σ1:Q5} {K:Value→World→Prop},X4 w1 σ1→Glb σ1→Sl 7 M6 σ1 mv c.methods→(∀w' σ',Stp w1 σ1 w' σ'→K (.bool (c.methods.all B3)) w')→Q0 P F.al [mv, .func (.func F.aX) #[] #[]] w1 K:=
  fun hs hg hv h=>Ts B3 hs hv (fun σ1 x cs w1 K le _ hs hr hl hK=>Q8K hs (hg.lift ⟨le⟩) hr fun w' σ' hk=>hK w' hk.bel) (W0 hs h)
 have e1:decide ((0:Int)<c.fields.length)= !decide (c.fields=[]):=by cases c.fields<;>simp
 have e2:decide (c.super=[79,98,106,101,99,116])=decide (c.super=Z7):=rfl
 (repeat' (first | (with_reducible intro _) | (with_reducible refine V8 ?_) | (simp only[↓M2,M2,Mb,reduceIte]) | (with_reducible first | refine ld aS aL aR ?_ | refine X8 aS aL aR ?_ | refine Y9 aS aL aR ?_ | refine Q8 aL ?_ | refine V3 aR ?_ | refine Y7 aS ?_ | refine L2 aS aL ?_ | refine J9 aS aR ?_ | refine Y6 aS aR aR (Rep.one (by assumption)) ?_ | refine U3 aS aR aR aR ?_ | refine hA au au ?_ | refine hB au au ?_ | refine hC au au ?_ | refine hD au au ?_ | refine hE au au ?_ | refine hF au au ?_ | refine hG au au ?_ | refine hH au au au ?_ | (refine Z4 (fun hh=>?_) (fun hh=>?_)<;>(try simp only[hh,Bool.not_true,Bool.not_false,↓M2,M2,Mb,reduceIte])) | (refine Q6 (fun hh=>?_) (fun hh=>?_)<;>(try simp only[hh,Bool.not_true,Bool.not_false,↓M2,M2,Mb,reduceIte])))))
 all_goals (simp only[←e1,←e2] at h;clear hA hB hC hD hE hF hG hH e1 e2;exact aF))
theorem X0D {cs:List Value} {c:Cla} (hs:X4 w σ) (hg:Glb σ) (hc:U5 σ c cs) (hl:c.like.length≤1000000) (h: ∀w' σ',Stp w σ w' σ'→K (I (L8 c)) w'):Q0 P F.cd [.agg cs.toArray] w K:=Q3D (by
 have hc0:=hc
 obtain ⟨lv,fv,mv,rfl,g1,g2,g3,g4,g5⟩:=hc
 unfold Ig
 unfold L8 at h
 (repeat' (first | (with_reducible intro _) | (with_reducible refine V8 ?_) | (simp only[↓M2,M2,Mb,reduceIte]) | (with_reducible first | refine ld aS aL aR ?_ | refine X8 aS aL aR ?_ | refine Y9 aS aL aR ?_ | refine Q8 aL ?_ | refine V3 aR ?_ | refine Y7 aS ?_ | refine L2 aS aL ?_ | refine J9 aS aR ?_ | refine Y6 aS aR aR (Rep.one (by assumption)) ?_ | refine U3 aS aR aR aR ?_ | refine X22 au au (W0 aS ?_) | refine X18 au au au au ?_ | (refine Z4 (fun hh=>?_) (fun hh=>?_)<;>(try simp only[hh,Bool.not_true,Bool.not_false,↓M2,M2,Mb,reduceIte])) | (refine Q6 (fun hh=>?_) (fun hh=>?_)<;>(try simp only[hh,Bool.not_true,Bool.not_false,↓M2,M2,Mb,reduceIte])))))
 all_goals exact aF)
end Go.Proofs.YtfppjenblllfaaaGreatDoor

namespace Go.Emb
open Go.RowKit Go.Hm
structure Tab (σ : Q5) (v : Value) (l : List Cla) : Prop where
  ex : ∃ a lv r m, v = .pointer (some a) ∧ Z3 σ a [lv, .map (some r)] ∧ Sl 8 U5 σ lv l ∧ I5 σ r m ∧ ∀ n, M3 m n = (Y3 l n).map (fun i : Nat => I (i : Int))
theorem Tab.lift {σ0 σ:Q5} {v:Value} {l:List Cla} (h:Tab σ0 v l) (k:SLe σ0 σ):Tab σ v l:=by
 obtain ⟨a,b,r,m,d,f,c,g,e⟩:=h.ex
 exact ⟨a,b,r,m,d,f.lift k,c.lift k,g.lift k,e⟩
end Go.Emb
namespace Go.Proofs.YtfppjenblllfaaaGreatDoor
open Go.Emb Go.RowKit Go.Kd Go.Hm
variable {w : World} {K : Value → World → Prop} {σ : Q5} {v : Value} {l : List Cla}
theorem Q72 {n:X0} (b:X4 w σ) (e:Tab σ v l) (h:K (.bool (Al l n)) w):Q0 P F.k [v,S n] w K:=Og (by
 obtain ⟨a,i,r,m,rfl,c,j,d,g⟩:=e.ex
 unfold Yx
 rw[E9,fa]
 refine ld b c rfl ?_
 rw[Q1m X7 (d.is b) n,g n]
 unfold Al at h
 cases f:Y3 l n<;>rw[f] at h<;>((try simp only[Option.map_some,Option.map_none]);(try simp only[↓M1,M1,Mb,reduceIte]);exact h))
theorem Xs {n:X0} {c:Cla} (hs:X4 w σ) (M:Tab σ v l) (O:lk l n=some c)
 (h: ∀k s mv w' q,Stp w σ w' q→Sl 1 Y1 q k c.like→Sl 3 E2 q s c.fields→Sl 7 M6 q mv c.methods→c.name.length≤Z9→c.super.length≤Z9→U5 q c [S c.name,S c.super,k, .bool c.iface, .bool c.abs, .bool c.fin,s,mv]→
  K (.agg [S c.name,S c.super,k, .bool c.iface, .bool c.abs, .bool c.fin,s,mv].toArray) w'):Q0 P F.h [v,S n] w K:=Ft (by
 obtain ⟨a,k,r,m,rfl,E,t2,U,R⟩:=M.ex
 obtain ⟨_,_,i,H,u⟩:=U1 O
 obtain ⟨y,rfl⟩:=List.getElem?_eq_some_iff.1 u
 unfold Lr
 refine G1 hs fun b w1 σ1 f d C=>?_
 refine U8 d.sat ?_
 refine X2 (.pointer (some a)) (fun w f=>by rw[E9];exact X6 rfl) ?_
 refine X2 (.pointer (some (a.add 0))) (fun t w f e=>by rw[e,fa];exact X6 rfl) ?_
 refine X2 (.pointer (some a)) (fun w f=>by rw[E9];exact X6 rfl) ?_
 refine X2 (.pointer (some (a.add 1))) (fun t w f e=>by rw[e,fa];exact X6 rfl) ?_
 refine X2 k (fun t w f e=>by rw[e];exact ld f.sat (E.up d) rfl (X6 rfl)) ?_
 refine X2 (.map (some r)) (fun t w f e=>by rw[e];exact ld f.sat (E.up d) rfl (X6 rfl)) ?_
 refine X2 (I i) (fun t w f e=>by rw[e,Q2X X7 ((U.up d).is f.sat) n,R n,H];exact X6 rfl) ?_
 rintro t6 t7 L Z t8 X V w2 g rfl rfl rfl rfl W rfl rfl
 subst W
 have z:=C.step g.stp
 refine L7 (t2.up d) y fun p cs J o D=>?_
 refine Y9 g.sat J o ?_
 have j:=D
 obtain ⟨aa,s,mv,rfl,g1,Y,N,Q,g5⟩:=D
 refine Qb z (d.trans g.stp) f rfl rfl (Rep.one j) fun w3 A B=>?_
 refine W2 B rfl ?_
 exact h _ _ _ w3 σ1 A.stp g1 Y N Q g5 j)
theorem Aa {n:X0} (a:X4 w σ) (b:Tab σ v l) (c:lk l n=none) (h:K (.bool false) w):Q0 P F.k [v,S n] w K:=Q72 a b (by rw[Q0j,c];exact h)
theorem Dx {n:X0} {d:Cla} (a:X4 w σ) (b:Tab σ v l) (c:lk l n=some d) (h:K (.bool true) w):Q0 P F.k [v,S n] w K:=Q72 a b (by rw[Q0j,c];exact h)
theorem Q9d {c:Cla} {cs:List Value} (hs:X4 w σ) (ht:Tab σ v l) (hc:U5 σ c cs) (h: ∀w' σ',Stp w σ w' σ'→K (I (L5 l c)) w'):Q0 P F.aZ [v, .agg cs.toArray] w K:=Cs (by
 obtain ⟨lv,fv,mv,rfl,g1,g2,g3,g4,g5⟩:=hc
 unfold Vp
 unfold L5 at h
 cases hd:lk l c.super with
 | none=>
  simp only[P8,hd,if_true] at h
  (repeat' (first | (with_reducible intro _) | (with_reducible refine V8 ?_) | (simp only[↓M2,M2,Mb,reduceIte]) | (with_reducible first | refine ld aS aL aR ?_ | refine X8 aS aL aR ?_ | refine Y9 aS aL aR ?_ | refine Q8 aL ?_ | refine V3 aR ?_ | refine Y7 aS ?_ | refine L2 aS aL ?_ | refine J9 aS aR ?_ | refine Y6 aS aR aR (Rep.one (by assumption)) ?_ | refine U3 aS aR aR aR ?_ | refine Aa au au au ?_ | (refine Z4 (fun hh=>?_) (fun hh=>?_)<;>(try simp only[hh,Bool.not_true,Bool.not_false,↓M2,M2,Mb,reduceIte])) | (refine Q6 (fun hh=>?_) (fun hh=>?_)<;>(try simp only[hh,Bool.not_true,Bool.not_false,↓M2,M2,Mb,reduceIte])))))
  all_goals exact aF
 | some d=>
  simp only[P8,hd] at h
  obtain ⟨dn,ds,dl,di,da,df,dfs,dms⟩:=d
  cases di<;>cases df
  ·simp only[Bool.or_self,Bool.false_eq_true,if_false] at h
   (repeat' (first | (with_reducible intro _) | (with_reducible refine V8 ?_) | (simp only[↓M2,M2,Mb,reduceIte]) | (with_reducible first | refine ld aS aL aR ?_ | refine X8 aS aL aR ?_ | refine Y9 aS aL aR ?_ | refine Q8 aL ?_ | refine V3 aR ?_ | refine Y7 aS ?_ | refine L2 aS aL ?_ | refine J9 aS aR ?_ | refine Y6 aS aR aR (Rep.one (by assumption)) ?_ | refine U3 aS aR aR aR ?_ | refine Dx au au au ?_ | refine Xs au au au ?_ | (refine Z4 (fun hh=>?_) (fun hh=>?_)<;>(try simp only[hh,Bool.not_true,Bool.not_false,↓M2,M2,Mb,reduceIte])) | (refine Q6 (fun hh=>?_) (fun hh=>?_)<;>(try simp only[hh,Bool.not_true,Bool.not_false,↓M2,M2,Mb,reduceIte])))))
   rename_i w3 σ3 hk3 _ _ _ _ _ _
   have hS:Stp w σ w3 σ3:=by (repeat (first | exact Stp.refl (by (first | assumption | exact Stp.sat (by assumption) | exact Hst.sat (by assumption))) | assumption | refine Stp.trans ?_ (by first | assumption | exact Hst.stp (by assumption))))
   refine J1 c.like.length (fun n w'=> ∃σ',Stp w σ w' σ'∧SLe σ3 σ'∧((c.like.take n).any (O7 l))=false) ⟨σ3,hS,SLe.refl _,by simp⟩ fun n w4 d hn hi=>?_
   obtain ⟨σ4,hS4,le4,hq⟩:=hi
   clear hk3
   refine Z1 ?_
   refine Q6 (fun hh=>?_) (fun hh=>?_)
   ·have hn':n<c.like.length:=by simpa using hh
    have hmax:c.like.length≤9223372036854775807:=g1.max
    refine Js (by (first | assumption | exact Sl.lift (by assumption) (by (repeat (first | exact SLe.refl _ | refine SLe.more ?_ (by assumption) | refine SLe.more ?_ (Nxt.le (by assumption)) | refine SLe.step ?_ (by assumption)))) | exact Z3.lift (by assumption) (by (repeat (first | exact SLe.refl _ | refine SLe.more ?_ (by assumption) | refine SLe.more ?_ (Nxt.le (by assumption)) | refine SLe.step ?_ (by assumption)))) | exact I5.lift (by assumption) (by (repeat (first | exact SLe.refl _ | refine SLe.more ?_ (by assumption) | refine SLe.more ?_ (Nxt.le (by assumption)) | refine SLe.step ?_ (by assumption)))) | exact RCl_lift (by assumption) (by (repeat (first | exact SLe.refl _ | refine SLe.more ?_ (by assumption) | refine SLe.more ?_ (Nxt.le (by assumption)) | refine SLe.step ?_ (by assumption)))) | exact RMe_lift (by assumption) (by (repeat (first | exact SLe.refl _ | refine SLe.more ?_ (by assumption) | refine SLe.more ?_ (Nxt.le (by assumption)) | refine SLe.step ?_ (by assumption)))) | exact Glb.lift (by assumption) (by (repeat (first | exact SLe.refl _ | refine SLe.more ?_ (by assumption) | refine SLe.more ?_ (Nxt.le (by assumption)) | refine SLe.step ?_ (by assumption)))) | exact Tab.lift (by assumption) (by (repeat (first | exact SLe.refl _ | refine SLe.more ?_ (by assumption) | refine SLe.more ?_ (Nxt.le (by assumption)) | refine SLe.step ?_ (by assumption)))) | exact RIn_any (by assumption) | exact RFd_any (by assumption) | exact RCa_any (by assumption))) hn' fun p hl hbig=>?_
    have hq':=M4 (p:=O7 l) hn'
    rw[hq] at hq'
    cases hx:lk l c.like[n] with
    | none=>
     simp only[C4 (p:=O7 l) hn' (by simp only[O7,hx]),if_true] at h
     (repeat' (first | (with_reducible intro _) | (with_reducible refine V8 ?_) | (simp only[↓M2,M2,Mb,reduceIte]) | (with_reducible first | refine ld aS aL aR ?_ | refine X8 aS aL aR ?_ | refine Y9 aS aL aR ?_ | refine Q8 aL ?_ | refine V3 aR ?_ | refine Y7 aS ?_ | refine L2 aS aL ?_ | refine J9 aS aR ?_ | refine Y6 aS aR aR (Rep.one (by assumption)) ?_ | refine U3 aS aR aR aR ?_ | refine Aa au au au ?_ | (refine Z4 (fun hh=>?_) (fun hh=>?_)<;>(try simp only[hh,Bool.not_true,Bool.not_false,↓M2,M2,Mb,reduceIte])) | (refine Q6 (fun hh=>?_) (fun hh=>?_)<;>(try simp only[hh,Bool.not_true,Bool.not_false,↓M2,M2,Mb,reduceIte])))))
     all_goals exact aF
    | some x=>
     obtain ⟨xn,xs,xl,xi,xa,xf,xfs,xms⟩:=x
     cases xi
     ·simp only[C4 (p:=O7 l) hn' (by simp only[O7,hx];rfl),if_true] at h
      (repeat' (first | (with_reducible intro _) | (with_reducible refine V8 ?_) | (simp only[↓M2,M2,Mb,reduceIte]) | (with_reducible first | refine ld aS aL aR ?_ | refine X8 aS aL aR ?_ | refine Y9 aS aL aR ?_ | refine Q8 aL ?_ | refine V3 aR ?_ | refine Y7 aS ?_ | refine L2 aS aL ?_ | refine J9 aS aR ?_ | refine Y6 aS aR aR (Rep.one (by assumption)) ?_ | refine U3 aS aR aR aR ?_ | refine Dx au au au ?_ | refine Xs au au au ?_ | (refine Z4 (fun hh=>?_) (fun hh=>?_)<;>(try simp only[hh,Bool.not_true,Bool.not_false,↓M2,M2,Mb,reduceIte])) | (refine Q6 (fun hh=>?_) (fun hh=>?_)<;>(try simp only[hh,Bool.not_true,Bool.not_false,↓M2,M2,Mb,reduceIte])))))
      all_goals exact aF
     ·(repeat' (first | (with_reducible intro _) | (with_reducible refine V8 ?_) | (simp only[↓M2,M2,Mb,reduceIte]) | (with_reducible first | refine ld aS aL aR ?_ | refine X8 aS aL aR ?_ | refine Y9 aS aL aR ?_ | refine Q8 aL ?_ | refine V3 aR ?_ | refine Y7 aS ?_ | refine L2 aS aL ?_ | refine J9 aS aR ?_ | refine Y6 aS aR aR (Rep.one (by assumption)) ?_ | refine U3 aS aR aR aR ?_ | refine Dx au au au ?_ | refine Xs au au au ?_ | (refine Z4 (fun hh=>?_) (fun hh=>?_)<;>(try simp only[hh,Bool.not_true,Bool.not_false,↓M2,M2,Mb,reduceIte])) | (refine Q6 (fun hh=>?_) (fun hh=>?_)<;>(try simp only[hh,Bool.not_true,Bool.not_false,↓M2,M2,Mb,reduceIte])))))
      refine Y2 hmax hn' ⟨_,by (repeat (first | exact Stp.refl (by (first | assumption | exact Stp.sat (by assumption) | exact Hst.sat (by assumption))) | assumption | refine Stp.trans ?_ (by first | assumption | exact Hst.stp (by assumption)))),by (repeat (first | exact SLe.refl _ | refine SLe.more ?_ (by assumption) | refine SLe.more ?_ (Nxt.le (by assumption)) | refine SLe.step ?_ (by assumption))),by rw[hq'];simp only[O7,hx];rfl⟩
   ·have hn': ¬n<c.like.length:=by simpa using hh
    rw[D5 hn'] at hq
    simp only[hq,Bool.false_eq_true,if_false] at h
    exact h _ _ hS4
  all_goals
   simp only[Bool.or_self,Bool.or_true,Bool.true_or,if_true] at h
   (repeat' (first | (with_reducible intro _) | (with_reducible refine V8 ?_) | (simp only[↓M2,M2,Mb,reduceIte]) | (with_reducible first | refine ld aS aL aR ?_ | refine X8 aS aL aR ?_ | refine Y9 aS aL aR ?_ | refine Q8 aL ?_ | refine V3 aR ?_ | refine Y7 aS ?_ | refine L2 aS aL ?_ | refine J9 aS aR ?_ | refine Y6 aS aR aR (Rep.one (by assumption)) ?_ | refine U3 aS aR aR aR ?_ | refine Dx au au au ?_ | refine Xs au au au ?_ | (refine Z4 (fun hh=>?_) (fun hh=>?_)<;>(try simp only[hh,Bool.not_true,Bool.not_false,↓M2,M2,Mb,reduceIte])) | (refine Q6 (fun hh=>?_) (fun hh=>?_)<;>(try simp only[hh,Bool.not_true,Bool.not_false,↓M2,M2,Mb,reduceIte])))))
   all_goals exact aF)
end Go.Proofs.YtfppjenblllfaaaGreatDoor

namespace Go.Emb
open Go.RowKit Go.Hm
variable {P : Program} {w w0 w1 w' w'' : World} {K : Value → World → Prop} {σ σ0 σ1 σ' : Q5}
theorem Q6H {a:Addr} {v:Value} (h:w.cell? a=some v) (b:Below w.heap.size w w'):w'.cell? a=some v:=by
 rw[←h];exact World.cell?_of_block (b.block a.block (World.block_lt_of_cell? _ _ h))
def Ptr {α:Type} (sz:Nat) (R:Q5→α→List Value→Prop) (σ:Q5) (x:α) (p:Value) (w:World):Prop:=
 ∃a cs,p= .pointer (some a)∧(∀j u,cs[j]? =some u→w.cell? (a.add j)=some u)∧cs.length=sz∧R σ x cs
theorem Ptr.below {α:Type} {sz:Nat} {R:Q5→α→List Value→Prop} {x:α} {p:Value} (h:Ptr sz R σ x p w) (f:Below w.heap.size w w'):Ptr sz R σ x p w':=by
 obtain ⟨a,cs,d,b,e⟩:=h
 exact ⟨a,cs,d,fun j u c=>Q6H (b j u c) f,e⟩
end Go.Emb
namespace Go.Proofs.YtfppjenblllfaaaGreatDoor
open Go.Emb Go.RowKit Go.Kd Go.Hm
variable {w : World} {K : Value → World → Prop} {σ : Q5} {v : Value} {l : List Cla}
theorem Q32 {w0:World} {σ0:Q5} {xs:List Cla} (hS:Stp w0 σ0 w σ) (H:U6 w0.heap.size T.a 8 U5 σ w v xs)
 (h: ∀w',Kpt (fun k=>v.ownBlock=some k) w w'→Stp w0 σ0 w' σ→U6 w0.heap.size T.a 8 U5 σ w' v xs.reverse→K (.tuple #[]) w'):Q0 P F.p [v] w K:=Yb (by
 unfold C8
 have N:xs.length≤9223372036854775807:=by
  obtain ⟨a,Y,_,g,b,_⟩:=H
  simp only[maxLen] at b;omega
 refine Bs H ?_
 refine Du ⟨by omega,by omega⟩ ?_
 refine Zw (fun x w'=> ∃i:Nat,x=(I i,I ((xs.length:Int)-1-i))∧2*i≤xs.length∧Kpt (fun k=>v.ownBlock=some k) w w'∧Stp w0 σ0 w' σ∧U6 w0.heap.size T.a 8 U5 σ w' v (H2 i xs)) (fun x _=>match x.2 with | .int _ n=>(n+1).toNat | _=>0) ⟨0,by simp,by omega,Kpt.refl,hS,H⟩ ?_
 rintro _ d w1 ⟨i,rfl,M,O,o,c⟩
 obtain ⟨U,Q⟩:=Ak xs i M
 refine Z1 ?_
 refine Q6 (fun hh=>?_) (fun hh=>?_)
 ·have W:(i:Int)<(xs.length:Int)-1-i:=by simpa using hh
  have R:((xs.length:Int)-1-i)=((xs.length-1-i:Nat):Int):=by omega
  have m:i<(H2 i xs).length:=by omega
  have j:xs.length-1-i<(H2 i xs).length:=by omega
  refine U8 o.sat ?_
  refine W6 (Ptr 8 U5 σ (H2 i xs)[xs.length-1-i]) (fun _ _ _ h f=>h.below f) (fun w f=>?_) ?_
  ·simp only[R]
   exact Q49 (c.step f.stp) j fun a cs g b q=>⟨Below.refl _ _,a,cs,rfl,g,b,q⟩
  refine W6 (Ptr 8 U5 σ (H2 i xs)[i]) (fun _ _ _ h f=>h.below f) (fun w f=>?_) ?_
  ·exact Q49 (c.step f.stp) m fun a cs g b q=>⟨Below.refl _ _,a,cs,rfl,g,b,q⟩
  refine W6 (fun v _=> ∃cs:List Value,v= .agg cs.toArray∧cs.length=8∧U5 σ (H2 i xs)[xs.length-1-i] cs) (fun _ _ _ h _=>h) (fun t w f e=>?_) ?_
  ·obtain ⟨a,cs,rfl,g,b,q⟩:=e
   exact Dy b g ⟨Below.refl _ _,cs,rfl,b,q⟩
  refine W6 (fun v _=> ∃cs:List Value,v= .agg cs.toArray∧cs.length=8∧U5 σ (H2 i xs)[i] cs) (fun _ _ _ h _=>h) (fun t w f e=>?_) ?_
  ·obtain ⟨a,cs,rfl,g,b,q⟩:=e
   exact Dy b g ⟨Below.refl _ _,cs,rfl,b,q⟩
  rintro ae ac Z V w2 r _ _ ⟨cs,rfl,B,s⟩ ⟨ds,rfl,z,y⟩
  refine X0x (o.trans r.stp) (c.step r.stp) m B s (Rep.one s) fun p u w3 J E A=>?_
  simp only[R]
  refine X0x E.stp A (by simpa using j) z y (Rep.one y) fun p u w4 L D C=>?_
  refine Cu ⟨by omega,by omega⟩ ?_
  refine Du ⟨by omega,by omega⟩ ?_
  refine ⟨⟨i+1,by congr 1<;>congr 1<;>omega,by omega,?_,D.stp,?_⟩,?_⟩
  ·exact ((O.trans (Kpt.of_below r.stp.bel)).trans J).trans L
  ·have e1:(H2 i xs)[i]? =some (H2 i xs)[i]:=List.getElem?_eq_getElem m
   have e2:(H2 i xs)[xs.length-1-i]? =some (H2 i xs)[xs.length-1-i]:=List.getElem?_eq_getElem j
   have:H2 (i+1) xs=((H2 i xs).set i (H2 i xs)[xs.length-1-i]).set (xs.length-1-i) (H2 i xs)[i]:=by
    simp only[H2,e1,e2]
   rw[this];exact C
  ·simp only;omega
 ·have X: ¬(i:Int)<(xs.length:Int)-1-i:=by simpa using hh
  rw[Q8S xs i M (by omega)] at c
  exact h w1 O o c)
def sOf:Value→X0 | .string b=>b.data.toList | _=>[]
theorem Q8r {n:X0} (U:X4 w σ) (z:Tab σ v l) (O:Ye l) (W:l.length≤100000) (h: ∀t w' σ',Stp w σ w' σ'→U6 w.heap.size T.a 8 U5 σ' w' t (chain l n).reverse→K t w'):Q0 P F.aL [v,S n] w K:=Kv (by
 unfold Mt
 refine Zw (fun x w'=> ∃(s:X0) (m:List Cla) (σ':Q5),x.2=S s∧chain l n=m++chain l s∧Stp w σ w' σ'∧V7 w.heap.size T.a 8 U5 σ' w' x.1 m) (fun x _=>(chain l (sOf x.2)).length)
  ⟨n,[],σ,rfl,rfl,Stp.refl U,V7.nil⟩ ?_
 rintro ⟨Y,_⟩ d w1 ⟨s,m,σ1,rfl,o,a,i⟩
 have g:=z.lift ⟨a.le⟩
 have B:=Rw l n
 have q:sOf (S s)=s:=by simp[sOf]
 simp only[q]
 cases j:lk l s with
 | none=>
  refine Aa a.sat g j ?_
  refine V6 ?_
  rw[G3 j,List.append_nil] at o
  rw[←o] at i
  refine Q32 a (U6.of_acc i) fun D f y r=>?_
  exact h _ _ _ y r
 | some c=>
  refine Dx a.sat g j ?_
  refine V1 ?_
  refine Xs a.sat g j fun L N mv D X f E M Q C R A=>?_
  have b:=C9 O s
  rw[j] at b
  simp only at b
  have J:m.length+1≤l.length+1:=by
   have:=congrArg List.length o
   rw[List.length_append,b,List.length_cons] at this;omega
  refine Jy (a.trans f) (i.up f) A rfl rfl rfl (by omega) (by omega) fun u t w3 σ3 V e p _=>?_
  refine Xs e.sat (z.lift ⟨e.le⟩) j fun L N mv Z H k E M Q C R A=>?_
  refine V3 (v:=S c.super) rfl ?_
  refine ⟨⟨c.super,m++[c],H,rfl,?_,e.trans k,p.up k⟩,?_⟩
  ·rw[o,b];simp
  ·have:sOf (S c.super)=c.super:=by simp[sOf]
   simp only[this,b,List.length_cons];omega)
theorem Q9x {n:X0} (hs:X4 w σ) (V:Tab σ v l) (ha:Ye l) (U:l.length≤100000) (J: ∀c∈l,T2 c) (h: ∀E w' σ',Stp w σ w' σ'→Sl 3 E2 σ' E (M8 l n)→K E w'):Q0 P F.b3 [v,S n] w K:=Cv (by
 unfold Va
 refine Q8r hs V ha U fun v1 w1 σ1 A C=>?_
 obtain ⟨N,H,m,X,_⟩:=C.keep A
 generalize j:(chain l n).reverse=cs at*
 have Q:cs.length≤l.length+1:=by rw[←j,List.length_reverse];exact Rw l n
 have k: ∀c∈cs,c.fields.length≤1000000:=fun c t=>(J c (Pi (by rw[←j] at t;simpa using t))).2.1
 refine Q8 m ?_
 refine D3 cs.length (fun i a w'=> ∃σ',Stp w σ w' σ'∧SLe N σ'∧V7 w.heap.size T.k 3 E2 σ' w' a ((cs.take i).flatMap (·.fields))) ⟨N,H,SLe.refl _,V7.nil⟩ fun i a w3 d hi o=>?_
 obtain ⟨σ3,f,r,g⟩:=o
 refine Z1 ?_
 refine Q6 (fun hh=>?_) (fun hh=>?_)
 ·have b:i<cs.length:=by simpa using hh
  refine L7 (m.lift r) b fun p cells B s M=>?_
  refine Y9 f.sat B s ?_
  refine Y6 f.sat (by rfl) s (Rep.one M) fun q w4 O e hq=>?_
  obtain ⟨lv,fv,mv,rfl,f1,Z,f3,f4,f5⟩:=M
  rw[fa]
  refine ld e.sat hq rfl ?_
  have y:=Jx (fun c:Cla=>c.fields) 1000000 (cs.take i) fun c t=>k c (List.mem_of_mem_take t)
  rw[List.length_take] at y
  have aa:=k cs[i] (List.getElem_mem b)
  have R:min i cs.length*1000000≤100000*1000000:=Nat.mul_le_mul_right _ (by omega)
  refine Dg (f.trans e) (g.up e) (Z.up e) rfl (by omega) (by omega) fun E w5 W L u _=>?_
  refine E4 ?_
  refine Z6 (by omega) b ⟨O,L,r.more ⟨e.le⟩,?_⟩
  rw[List.take_add_one,List.getElem?_eq_getElem b,List.flatMap_append]
  simpa using u
 ·have b: ¬i<cs.length:=by simpa using hh
  rw[List.take_of_length_le (by omega)] at g
  obtain ⟨O,z,D,Y,_⟩:=g.keep f
  refine h _ _ _ z ?_
  unfold M8
  rw[j];exact D)
theorem X1m {n f:X0} (hs:X4 w σ) (ht:Tab σ v l) (ha:Ye l) (hl:l.length≤100000) (hsm: ∀c∈l,T2 c) (h: ∀w' σ',Stp w σ w' σ'→K (I (W3 (Xr l n f))) w'):Q0 P F.bd [v,S n,S f] w K:=Gu (by
 unfold Wb
 refine J9 hs rfl fun q w1 σ1 hk1 hq=>?_
 refine Q9x hk1.sat (ht.lift ⟨hk1.le⟩) ha hl hsm fun v' w2 σ2 hk2 hv2=>?_
 rw[Qp]
 refine Ct (fun x=>decide (x.name=f)) hk2.sat hv2 (fun x cs w3 K _ hs3 hr hl hK=>Y8 (Sm ?_)) fun w3 hb=>?_
 ·obtain ⟨rfl,_⟩:=hr
  unfold Jz
  have hq2:=hq.up hk2
  refine Y7 hs3 fun a w4 σ4 hk4 ha4=>?_
  (repeat' (first | (with_reducible intro _) | (with_reducible refine V8 ?_) | (simp only[↓M2,M2,Mb,reduceIte]) | (with_reducible first | refine ld aS aL aR ?_ | refine X8 aS aL aR ?_ | refine Y9 aS aL aR ?_ | refine Q8 aL ?_ | refine V3 aR ?_ | refine Y7 aS ?_ | refine L2 aS aL ?_ | refine J9 aS aR ?_ | refine Y6 aS aR aR (Rep.one (by assumption)) ?_ | refine U3 aS aR aR aR ?_ | (refine Z4 (fun hh=>?_) (fun hh=>?_)<;>(try simp only[hh,Bool.not_true,Bool.not_false,↓M2,M2,Mb,reduceIte])) | (refine Q6 (fun hh=>?_) (fun hh=>?_)<;>(try simp only[hh,Bool.not_true,Bool.not_false,↓M2,M2,Mb,reduceIte])))))
  exact hK _ hk4.bel
 ·exact h _ _ ((hk1.trans hk2).trans (Stp.of_below hk2.sat hb)))
end Go.Proofs.YtfppjenblllfaaaGreatDoor

namespace Go.Hm
open Go.Kd
theorem Q4i {α:Type} (p:α→Bool): ∀xs:List α,xs.find? p=(xs.findIdx? p).bind (xs[·]?)
 | []=>rfl
 | x::r=>by
  rw[List.find?_cons,List.findIdx?_cons]
  cases p x with
  | true=>rfl
  | false=>
   simp only[Bool.false_eq_true,if_false]
   rw[Q4i p r]
   cases r.findIdx? p<;>simp
def Q9X (l:List Cla):Prop:= ∀c∈l,∀u∈c.like,∃d,lk l u=some d
def Nm (c:Cla):Prop:=c.name.length≤100∧(∀f∈c.fields,f.name.length≤100∧f.kind.length≤100)∧ ∀m∈c.methods,m.result.length≤100∧ ∀p∈m.params,p.length≤100
structure Ok (l : List Cla) : Prop where
  acy : Ye l
  len : l.length ≤ 100000
  sm : ∀ c ∈ l, T2 c
  full : Q9X l
  nm : ∀ c ∈ l, Nm c
abbrev oM (o:Option Hm.Met):Hm.Met:=o.getD Hm.Met.zero
abbrev o1 (o:Option (X0×Hm.Met)):X0:=(o.map (·.1)).getD []
abbrev o2 (o:Option (X0×Hm.Met)):Hm.Met:=(o.map (·.2)).getD Hm.Met.zero
theorem Qh {α β:Type} {xs:List α} {f:α→Option β} {n:Nat} (h:n<xs.length) (a:(xs.take n).findSome? f=none):(xs.take (n+1)).findSome? f=f xs[n]:=by
 rw[List.take_add_one,List.getElem?_eq_getElem h,List.findSome?_append,a];simp
theorem Qm {α β:Type} {xs:List α} {f:α→Option β} {n:Nat} {y:β} (h:n<xs.length) (a:(xs.take n).findSome? f=none) (b:f xs[n]=some y):xs.findSome? f=some y:=by
 have:=Qh h a
 rw[b] at this
 rw[←List.take_append_drop (n+1) xs,List.findSome?_append,this];rfl
end Go.Hm
namespace Go.Proofs.YtfppjenblllfaaaGreatDoor
open Go.Emb Go.RowKit Go.Kd Go.Hm
variable {w : World} {K : Value → World → Prop} {σ : Q5} {v : Value} {l : List Cla}
theorem P6:M6 σ Hm.Met.zero [S [], .slice none 0 0,S [], .bool false,I 0, .slice none 0 0, .slice none 0 0]:=
 ⟨_,_,_,rfl,Sl.nil,Sl.nil,Sl.nil,by decide,by decide,by decide,by decide⟩
theorem Dt (h:K (.agg [S [], .slice none 0 0,S [], .bool false,I 0, .slice none 0 0, .slice none 0 0].toArray) w):N4 P T.d [] w K:=W1 (by kernel_rfl) h
theorem X07 {c:Cla} {cs:List Value} {n:X0} (hs:X4 w σ) (hc:U5 σ c cs) (hsm:T2 c)
 (h: ∀pv cv hv w' σ',Stp w σ w' σ'→M6 σ' (oM (R2 c n)) [S (oM (R2 c n)).name,pv,S (oM (R2 c n)).result, .bool (oM (R2 c n)).abs,I (oM (R2 c n)).locals,cv,hv]→
  K (.tuple #[.agg [S (oM (R2 c n)).name,pv,S (oM (R2 c n)).result, .bool (oM (R2 c n)).abs,I (oM (R2 c n)).locals,cv,hv].toArray, .bool (R2 c n).isSome]) w'):Q0 P F.co [.agg cs.toArray,S n] w K:=Q7o (by
 obtain ⟨lv,fv,mv,rfl,g1,g2,g3,g4,g5⟩:=hc
 unfold Q23
 refine Y7 hs fun a w1 σ1 hk1 ha1=>?_
 refine J9 hk1.sat rfl fun q w2 σ2 hk2 hq=>?_
 refine G1 hk2.sat fun b w3 σ3 hb hk3 hm=>?_
 rw[fa]
 have ha3:=(ha1.up hk2).up hk3
 have g3:=((g3.up hk1).up hk2).up hk3
 have hq3:=hq.up hk3
 refine ld hk3.sat ha3 rfl ?_
 rw[Qp]
 have hS3:=(hk1.trans hk2).trans hk3
 have hb0:w.heap.size≤b:=Zo hb (hk1.trans hk2)
 refine Sk (fun x=>decide (x.name=n)) hk3.sat g3 (fun x cs w4 K _ hs4 hr hl hK=>Y8 (Q4C ?_)) fun w4 hb4=>?_
 ·obtain ⟨pv,cv,hv,rfl,_⟩:=hr
  unfold As
  refine Y7 hs4 fun a w5 σ5 hk5 ha5=>?_
  (repeat' (first | (with_reducible intro _) | (with_reducible refine V8 ?_) | (simp only[↓M2,M2,Mb,reduceIte]) | (with_reducible first | refine ld aS aL aR ?_ | refine X8 aS aL aR ?_ | refine Y9 aS aL aR ?_ | refine Q8 aL ?_ | refine V3 aR ?_ | refine Y7 aS ?_ | refine L2 aS aL ?_ | refine J9 aS aR ?_ | refine Y6 aS aR aR (Rep.one (by assumption)) ?_ | refine U3 aS aR aR aR ?_ | (refine Z4 (fun hh=>?_) (fun hh=>?_)<;>(try simp only[hh,Bool.not_true,Bool.not_false,↓M2,M2,Mb,reduceIte])) | (refine Q6 (fun hh=>?_) (fun hh=>?_)<;>(try simp only[hh,Bool.not_true,Bool.not_false,↓M2,M2,Mb,reduceIte])))))
  exact hK _ hk5.bel
 have hk4:Stp w3 σ3 w4 σ3:=Stp.of_below hk3.sat hb4
 have hm:=hm.step hk4
 have hS4:=hS3.trans hk4
 unfold R2 at h
 rw[Q4i] at h
 refine Z1 ?_
 cases hf:c.methods.findIdx? fun x=>decide (x.name=n) with
 | none=>
  rw[hf] at h
  simp only[W3]
  refine V1 ?_
  refine Dt ?_
  refine Qb hm hS4 hb0 rfl rfl (Rep.one (P6 (σ:=σ3))) fun w5 hS5 hm5=>?_
  refine W2 hm5 rfl ?_
  exact h _ _ _ w5 σ3 hS5.stp P6
 | some i=>
  rw[hf] at h
  have hi:i<c.methods.length:=(List.findIdx?_eq_some_iff_getElem.1 hf).1
  simp only[Option.bind_some,List.getElem?_eq_getElem hi] at h
  simp only[W3]
  refine Q6 (fun hh=>absurd (of_decide_eq_true hh) (by omega)) (fun _=>?_)
  rw[fa]
  refine ld hk4.sat ha3 rfl ?_
  refine L7 g3 hi fun p cells hl1 hl2 hr=>?_
  refine Y9 hk4.sat hl1 hl2 ?_
  refine Q3o hk4.sat hr (hsm.2.2.2 _ (List.getElem_mem hi)) fun pv cv hv w5 σ5 hk5 hr5=>?_
  refine Qb (hm.step hk5) (hS4.trans hk5) hb0 rfl rfl (Rep.one hr5) fun w6 hS6 hm6=>?_
  refine W2 hm6 rfl ?_
  exact h _ _ _ w6 σ5 hS6.stp hr5)
theorem X1P {n:X0} (ok:Ok l): ∀(k:Nat) {c:Cla} {cs:List Value} {w:World} {σ:Q5} {K:Value→World→Prop},F0 l c.name<k→lk l c.name=some c→X4 w σ→Tab σ v l→U5 σ c cs→
 (∀pv W Y w' Z,Stp w σ w' Z→M6 Z (o2 (U4 l c n)) [S (o2 (U4 l c n)).name,pv,S (o2 (U4 l c n)).result, .bool (o2 (U4 l c n)).abs,I (o2 (U4 l c n)).locals,W,Y]→
  K (.tuple #[S (o1 (U4 l c n)), .agg [S (o2 (U4 l c n)).name,pv,S (o2 (U4 l c n)).result, .bool (o2 (U4 l c n)).abs,I (o2 (U4 l c n)).locals,W,Y].toArray, .bool (U4 l c n).isSome]) w')→
 Q0 P F.aM [v, .agg cs.toArray,S n] w K:=by
 intro k
 induction k with
 | zero=>
  intro c cs w σ K hk
  omega
 | succ k ih=>
  intro c cs w σ K hk hc hs ht hr h
  refine Pb ?_
  obtain ⟨lv,fv,mv,rfl,g1,g2,g3,g4,g5⟩:=hr
  have M:=Q2Q ok.acy hc n
  generalize hf:(fun u=>match lk l u with | none=>none | some d=>match R2 d n with | some m=>some (u,m) | none=>U4 l d n)=f at M
  unfold Mq
  refine Y7 hs fun a w1 σ1 C bb=>?_
  refine G1 C.sat fun b w2 σ2 hb J a9=>?_
  have Q:w.heap.size≤b:=Zo hb C
  have aw:=bb.up J
  rw[fa]
  refine ld J.sat aw rfl ?_
  have g1:=(g1.up C).up J
  refine Q8 g1 ?_
  refine J1 c.like.length (fun i w'=> ∃Z,Stp w σ w' Z∧SLe σ2 Z∧Z5 Z w' b [S [], .slice none 0 0,S [], .bool false,I 0, .slice none 0 0, .slice none 0 0]∧(c.like.take i).findSome? f=none) ⟨σ2,C.trans J,SLe.refl _,a9,rfl⟩ fun i w3 d hi ah=>?_
  obtain ⟨σ3,y,al,ae,A⟩:=ah
  have ax:=ht.lift ⟨y.le⟩
  refine Z1 ?_
  refine Q6 (fun hh=>?_) (fun hh=>?_)
  ·have g:i<c.like.length:=by simpa using hh
   refine Js (g1.lift al) g fun p a4 am=>?_
   refine X8 y.sat a4 rfl ?_
   obtain ⟨d,X⟩:=ok.full c (U1 hc).2.1 _ (List.getElem_mem g)
   obtain ⟨ac,ar,_⟩:=U1 X
   have j:f c.like[i]=match R2 d n with | some m=>some (c.like[i],m) | none=>U4 l d n:=by rw[←hf];simp only[X]
   refine Xs y.sat ax X fun a5 av a6 w4 σ4 D f1 f2 f3 f4 f5 a8=>?_
   refine X07 D.sat a8 (ok.sm d ar) fun pv W Y w5 σ5 H aj=>?_
   refine U7 (vs:=[_,_]) rfl ?_
   refine U7 (vs:=[_,_]) rfl ?_
   refine Y6 H.sat (by rfl) rfl (Rep.one aj) fun q w6 σ6 B aa=>?_
   have t:=((y.trans D).trans H).trans B
   have ab:=((ae.step D).step H).step B
   have R:=RMe_lift aj ⟨B.le⟩
   cases ho:R2 d n with
   | some m=>
    rw[ho] at j R aa
    (try simp only[ho])
    refine V1 ?_
    refine U8 t.sat ?_
    refine W6 (fun v _=>v= .agg [S m.name,pv,S m.result, .bool m.abs,I m.locals,W,Y].toArray) (fun _ _ _ h _=>h) (fun w hb=>Y9 hb.sat aa rfl ⟨Below.refl _ _,rfl⟩) ?_
    rintro _ w7 ad rfl
    refine Qb (ab.step ad.stp) (t.trans ad.stp) Q rfl rfl (Rep.one R) fun w8 a0 ba=>?_
    refine W2 ba rfl ?_
    have U:=M.trans (Qm g A j)
    rw[U] at h
    exact h _ _ _ w8 σ6 a0.stp R
   | none=>
    rw[ho] at j
    (try simp only[Option.isSome_none])
    refine V6 ?_
    refine Xs t.sat (ht.lift ⟨t.le⟩) X fun a5 av a6 w7 σ7 z f1 f2 f3 f4 f5 az=>?_
    have bu:=Qe ok.acy hc (by simp[J4,List.getElem_mem g]:c.like[i]∈J4 c) X
    refine ih (by rw[ac];omega) (by rw[ac];exact X) z.sat (ht.lift ⟨(t.trans z).le⟩) az fun pv W Y w8 σ8 E af=>?_
    refine U7 (vs:=[_,_,_]) rfl ?_
    refine U7 (vs:=[_,_,_]) rfl ?_
    refine U7 (vs:=[_,_,_]) rfl ?_
    refine Y6 E.sat (by rfl) rfl (Rep.one af) fun q w9 σ9 L ai=>?_
    have O:=((t.trans z).trans E).trans L
    have ao:=((ab.step z).step E).step L
    have V:=RMe_lift af ⟨L.le⟩
    cases U:U4 l d n with
    | some r=>
     obtain ⟨s,m⟩:=r
     rw[U] at j V ai
     (try simp only[U])
     refine V1 ?_
     refine U8 O.sat ?_
     refine W6 (fun v _=>v= .agg [S m.name,pv,S m.result, .bool m.abs,I m.locals,W,Y].toArray) (fun _ _ _ h _=>h) (fun w hb=>Y9 hb.sat ai rfl ⟨Below.refl _ _,rfl⟩) ?_
     rintro _ br N rfl
     refine Qb (ao.step N.stp) (O.trans N.stp) Q rfl rfl (Rep.one V) fun ay ak ag=>?_
     refine W2 ag rfl ?_
     have am:=M.trans (Qm g A j)
     rw[am] at h
     exact h _ _ _ ay σ9 ak.stp V
    | none=>
     rw[U] at j
     (try simp only[Option.isSome_none])
     refine V6 ?_
     refine E4 ?_
     refine Y2 (by have:=g1.max;omega) g ⟨σ9,O,?_,ao,?_⟩
     ·exact al.more ⟨fun b o e=>L.le _ _ (E.le _ _ (z.le _ _ (B.le _ _ (H.le _ _ (D.le _ _ e)))))⟩
     ·rw[Qh g A];exact j
  ·have g: ¬i<c.like.length:=by simpa using hh
   rw[List.take_of_length_le (by omega)] at A
   refine Dt ?_
   refine Qb ae y Q rfl rfl (Rep.one (P6 (σ:=σ3))) fun w5 a7 a1=>?_
   refine W2 a1 rfl ?_
   have U:=M.trans A
   rw[U] at h
   exact h _ _ _ w5 σ3 a7.stp P6
end Go.Proofs.YtfppjenblllfaaaGreatDoor

namespace Go.Hm
open Go.Kd
theorem Q9u {l:List Cla} {n:X0} {c:Cla} (h:c∈chain l n):lk l c.name=some c:=by
 have key: ∀(f:Nat) (n:X0),c∈C6 (lk l) f n→lk l c.name=some c:=by
  intro f
  induction f with
  | zero=>intro n h;simp[C6] at h
  | succ f b=>
   intro n h
   simp only[C6] at h
   split at h
   ·simp at h
   ·rename_i d a
    rcases List.mem_cons.1 h with rfl | h
    ·rw[(U1 a).1];exact a
    ·exact b _ h
 exact key _ _ h
end Go.Hm
namespace Go.Proofs.YtfppjenblllfaaaGreatDoor
open Go.Emb Go.RowKit Go.Kd Go.Hm
variable {w : World} {K : Value → World → Prop} {σ : Q5} {v : Value} {l : List Cla}
theorem Q9q {k n:X0} (hs:X4 w σ) (ht:Tab σ v l) (ok:Ok l)
 (h: ∀pv Z hv w' E,Stp w σ w' E→M6 E (o2 (U0 l k n)) [S (o2 (U0 l k n)).name,pv,S (o2 (U0 l k n)).result, .bool (o2 (U0 l k n)).abs,I (o2 (U0 l k n)).locals,Z,hv]→
  K (.tuple #[S (o1 (U0 l k n)), .agg [S (o2 (U0 l k n)).name,pv,S (o2 (U0 l k n)).result, .bool (o2 (U0 l k n)).abs,I (o2 (U0 l k n)).locals,Z,hv].toArray, .bool (U0 l k n).isSome]) w'):
 Q0 P F.b1 [v,S k,S n] w K:=Ca (by
 unfold Uu
 refine G1 hs fun b w1 σ1 H N a0=>?_
 refine Q8r N.sat (ht.lift ⟨N.le⟩) ok.acy ok.len fun v1 w2 σ2 az al=>?_
 have bb:=a0.step az
 have bo:=a0.lt
 refine Q32 (N.trans az) (al.mono N.bel.size) fun w3 a7 a6 ae=>?_
 rw[List.reverse_reverse] at ae
 obtain ⟨σ3,av,Q,bi,ao⟩:=ae.keep a6
 have bl:=Rw l k
 have am:v1.ownBlock≠some b:=fun e=>by have:=al.own e;omega
 have ak:Z5 σ3 w3 b [S [], .slice none 0 0,S [], .bool false,I 0, .slice none 0 0, .slice none 0 0]:=by
  have:=bb.kp a7 am
  exact ⟨(ao b fun e=>am e.symm).trans this.1,this.2⟩
 refine Q8 Q ?_
 unfold U0 at h
 refine J1 (chain l k).length (fun i w'=> ∃E,Stp w σ w' E∧SLe σ3 E∧Z5 E w' b [S [], .slice none 0 0,S [], .bool false,I 0, .slice none 0 0, .slice none 0 0]∧((chain l k).take i).findSome? (fun c=>(R2 c n).map (c.name,·))=none) ⟨σ3,av,SLe.refl _,ak,rfl⟩ fun i w5 d hi D=>?_
 obtain ⟨σ5,L,J,af,y⟩:=D
 refine Z1 ?_
 refine Q6 (fun hh=>?_) (fun hh=>?_)
 ·have a:i<(chain l k).length:=by simpa using hh
  refine L7 (Q.lift J) a fun p cells W z hr=>?_
  refine Y9 L.sat W z ?_
  refine Y6 L.sat (by rfl) z (Rep.one hr) fun q w6 σ6 B ad=>?_
  refine Y9 B.sat ad z ?_
  have an:=Pi (List.getElem_mem a)
  refine X07 B.sat (Rep.up B.le hr) (ok.sm _ an) fun pv Z hv w7 σ7 j ar=>?_
  refine U7 (vs:=[_,_]) rfl ?_
  refine U7 (vs:=[_,_]) rfl ?_
  refine Y6 j.sat (by rfl) rfl (Rep.one ar) fun q8 w8 σ8 u ap=>?_
  have X:=((L.trans B).trans j).trans u
  have ay:=((af.step B).step j).step u
  have A:=RMe_lift ar ⟨u.le⟩
  cases C:R2 (chain l k)[i] n with
  | some m=>
   rw[C] at A ap
   (try simp only[C])
   refine V1 ?_
   obtain ⟨lv,fv,mv,rfl,g⟩:=hr
   refine U8 X.sat ?_
   refine X2 (.pointer (some (q.add 0))) (fun w H=>by rw[fa];exact X6 rfl) ?_
   refine X2 (S (chain l k)[i].name) (fun t w H e=>by rw[e];exact ld H.sat ((ad.up j).up u) rfl (X6 rfl)) ?_
   refine W6 (fun v _=>v= .agg [S m.name,pv,S m.result, .bool m.abs,I m.locals,Z,hv].toArray) (fun _ _ _ h _=>h) (fun w H=>Y9 H.sat ap rfl ⟨Below.refl _ _,rfl⟩) ?_
   rintro _ _ _ w9 a1 rfl rfl rfl
   refine Qb (ay.step a1.stp) (X.trans a1.stp) H rfl rfl (Rep.one A) fun aj ac a2=>?_
   refine W2 a2 rfl ?_
   rw[Qm (f:=fun c=>(R2 c n).map (c.name,·)) a y (by simp only[C];rfl)] at h
   exact h _ _ _ aj σ8 ac.stp A
  | none=>
   (try simp only[C])
   refine V6 ?_
   refine E4 ?_
   refine Y2 (by have:=ok.len;omega) a ⟨σ8,X,J.more ⟨fun b o e=>u.le _ _ (j.le _ _ (B.le _ _ e))⟩,ay,?_⟩
   rw[Qh a y];simp only[C];rfl
 ·have a: ¬i<(chain l k).length:=by simpa using hh
  rw[List.take_of_length_le (by omega)] at y
  rw[y] at h
  clear ak av hh
  refine Q8 (Q.lift J) ?_
  refine J1 (chain l k).length (fun i w'=> ∃E,Stp w σ w' E∧SLe σ3 E∧Z5 E w' b [S [], .slice none 0 0,S [], .bool false,I 0, .slice none 0 0, .slice none 0 0]∧((chain l k).take i).findSome? (fun c=>U4 l c n)=none) ⟨σ5,L,J,af,rfl⟩ fun i w6 d hi D=>?_
  obtain ⟨σ6,M,ai,ag,y⟩:=D
  refine Z1 ?_
  refine Q6 (fun hh=>?_) (fun hh=>?_)
  ·have a:i<(chain l k).length:=by simpa using hh
   refine L7 (Q.lift ai) a fun p cells W z hr=>?_
   refine Y9 M.sat W z ?_
   refine Y6 M.sat (by rfl) z (Rep.one hr) fun q w7 σ7 j bd=>?_
   refine Y9 j.sat bd z ?_
   have R:=M.trans j
   have a8:=Q9u (List.getElem_mem a)
   refine X1P ok _ (Nat.lt_succ_self _) a8 j.sat (ht.lift ⟨R.le⟩) (Rep.up j.le hr) fun pv Z hv w8 σ8 u A=>?_
   refine U7 (vs:=[_,_,_]) rfl ?_
   refine U7 (vs:=[_,_,_]) rfl ?_
   refine U7 (vs:=[_,_,_]) rfl ?_
   refine Y6 u.sat (by rfl) rfl (Rep.one A) fun q9 w9 σ9 O ax=>?_
   have V:=(R.trans u).trans O
   have aw:=((ag.step j).step u).step O
   have Y:=RMe_lift A ⟨O.le⟩
   cases C:U4 l (chain l k)[i] n with
   | some r=>
    obtain ⟨s,m⟩:=r
    rw[C] at Y ax
    (try simp only[C])
    refine V1 ?_
    refine U8 V.sat ?_
    refine W6 (fun v _=>v= .agg [S m.name,pv,S m.result, .bool m.abs,I m.locals,Z,hv].toArray) (fun _ _ _ h _=>h) (fun w H=>Y9 H.sat ax rfl ⟨Below.refl _ _,rfl⟩) ?_
    rintro _ aj U rfl
    refine Qb (aw.step U.stp) (V.trans U.stp) H rfl rfl (Rep.one Y) fun ba ah aq=>?_
    refine W2 aq rfl ?_
    have:=Qm (f:=fun c=>U4 l c n) a y C
    unfold U4 at this
    rw[this] at h
    exact h _ _ _ ba σ9 ah.stp Y
   | none=>
    (try simp only[C])
    refine V6 ?_
    refine E4 ?_
    refine Y2 (by have:=ok.len;omega) a ⟨σ9,V,ai.more ⟨fun b o e=>O.le _ _ (u.le _ _ (j.le _ _ e))⟩,aw,?_⟩
    rw[Qh a y];exact C
  ·have a: ¬i<(chain l k).length:=by simpa using hh
   rw[List.take_of_length_le (by omega)] at y
   refine Dt ?_
   refine Qb ag M H rfl rfl (Rep.one (P6 (σ:=σ6))) fun w7 R a5=>?_
   refine W2 a5 rfl ?_
   unfold U4 at y
   rw[y] at h
   exact h _ _ _ w7 σ6 R.stp P6)
end Go.Proofs.YtfppjenblllfaaaGreatDoor

namespace Go.Kd
def brk (b:UInt8):Bool:=[(91:UInt8),93].contains b
def Q08:Nat→X0→X0
 | 0,s=>s
 | n+1,s=>match s.getLast? with
  | some b=>if brk b then Q08 n (s.take (s.length-1)) else s
  | none=>s
def Ot (s:X0):X0:=Q08 s.length s
theorem Q74: ∀(n m:Nat) (s:X0),s.length≤n→s.length≤m→Q08 n s=Q08 m s:=by
 intro n
 induction n with
 | zero=>
  intro m s h _
  have:s=[]:=List.eq_nil_of_length_eq_zero (by omega)
  subst this
  cases m<;>rfl
 | succ n a=>
  intro m s h c
  cases m with
  | zero=>
   have:s=[]:=List.eq_nil_of_length_eq_zero (by omega)
   subst this;rfl
  | succ m=>
   simp only[Q08]
   cases d:s.getLast? with
   | none=>rfl
   | some b=>
    simp only
    split
    ·exact a m _ (by rw[List.length_take];omega) (by rw[List.length_take];omega)
    ·rfl
theorem Q0r (s:X0):Ot s=match s.getLast? with | some b=>if brk b then Ot (s.take (s.length-1)) else s | none=>s:=by
 unfold Ot
 cases d:s with
 | nil=>rfl
 | cons c r=>
  rw[←d]
  obtain ⟨n,e⟩: ∃n,s.length=n+1:=⟨r.length,by rw[d];rfl⟩
  have a:s.length-1=n:=by omega
  rw[e]
  simp only[Q08,a]
  cases f:s.getLast? with
  | none=>rfl
  | some b=>
   simp only
   split
   ·rw[show n+1-1=n by omega];exact Q74 n (s.take n).length _ (by rw[List.length_take];omega) (Nat.le_refl _)
   ·rfl
theorem Q7I {s:X0} (h:name s=true): ∃b,s.getLast?=some b∧E3 b.toNat=true:=by
 cases s with
 | nil=>simp[name] at h
 | cons c r=>
  refine ⟨(c::r).getLast (by simp),List.getLast?_eq_some_getLast (by simp),?_⟩
  simp only[name,Bool.and_eq_true,List.all_eq_true] at h
  exact h.2 _ (List.getLast_mem _)
theorem Q7Q {b:UInt8} (h:E3 b.toNat=true):brk b=false:=by
 have c:b≠91:=by rintro rfl;revert h;decide
 have a:b≠93:=by rintro rfl;revert h;decide
 simp[brk,c,a]
theorem Ln {s:X0} (h:(plain s||W7 s)=true):name s=true:=by
 simp only[Bool.or_eq_true] at h
 rcases h with h | h
 ·simp only[plain,Bool.or_eq_true,decide_eq_true_eq] at h
  rcases h with (h | h) | h<;>subst h<;>decide
 ·cases s with
  | nil=>simp[W7] at h
  | cons c r=>simp only[W7,Bool.and_eq_true] at h;exact h.1
end Go.Kd
namespace Go.Proofs.YtfppjenblllfaaaGreatDoor
open Go.Emb Go.RowKit Go.Kd Go.Hm
variable {w : World} {K : Value → World → Prop} {σ : Q5} {v : Value} {l : List Cla}
theorem Q9R {s:X0} (h:D6 s=true):Ot s=Ot (Kd.cutA s):=by
 have b:2≤s.length∧s.drop (s.length-2)=[91,93]:=by simpa [D6] using h
 obtain ⟨g,c⟩:=b
 have a:s=Kd.cutA s++[91,93]:=by unfold Kd.cutA;rw[←c,List.take_append_drop]
 have i:(Kd.cutA s).length+2=s.length:=by unfold Kd.cutA;rw[List.length_take];omega
 have e:s.getLast?=some 93:=by rw[a];simp
 have d:s.take (s.length-1)=Kd.cutA s++[91]:=by
  conv=>lhs;rw[a]
  rw[List.take_append,List.length_append]
  simp
  exact List.take_of_length_le (by omega)
 rw[Q0r s,e]
 simp only[show brk 93=true from rfl,if_true,d]
 rw[Q0r]
 have f:(Kd.cutA s++[91]).getLast?=some 91:=by simp
 rw[f]
 simp only[show brk 91=true from rfl,if_true]
 congr 1
 simp
theorem Q7X {s:X0}:(plain (base s).1||W7 (base s).1)=true→Ot s=(base s).1:=by
 have key: ∀(n:Nat) (s:X0),s.length≤n→(plain (base s).1||W7 (base s).1)=true→Ot s=(base s).1:=by
  intro n
  induction n with
  | zero=>
   intro s h a
   have:s=[]:=List.eq_nil_of_length_eq_zero (by omega)
   subst this;rfl
  | succ n f=>
   intro s h a
   by_cases c:D6 s=true
   ·have d:base s=((base (Kd.cutA s)).1,(base (Kd.cutA s)).2+1):=by rw[Xy s,c];simp
    rw[d] at a⊢
    rw[Q9R c]
    exact f _ (by have:=B6 c;omega) a
   ·have d:base s=(s,0):=by rw[Xy s,eq_false_of_ne_true c];simp
    rw[d] at a⊢
    obtain ⟨b,g,e⟩:=Q7I (Ln a)
    rw[Q0r,g]
    simp[Q7Q e]
 exact key _ s (Nat.le_refl _)
instance z_asciiSet:TZ P T.a4 256 256 (.agg (Array.replicate 256 (.bool false))):=⟨by kernel_rfl⟩
theorem Q5Y (h: ∀w',Below w.heap.size w w'→K (.tuple #[.agg (Lib.setCells [91,93]), .bool true]) w'):Q0 P F.bS [S [91,93]] w K:=by
 refine Us (fn:=Tryz.f88) Tryz.func88 (by kernel_rfl) (by kernel_rfl) (Calls.mono (Tryz.strings_makeASCIISet (fun w=>Xu z_asciiSet w) ⟨[91,93].toArray⟩ w (by decide) (by
  intro j b a
  have:b∈[(91:UInt8),93]:=List.mem_of_getElem? a
  simp at this;rcases this with rfl | rfl<;>decide)) ?_)
 rintro e w' ⟨rfl,rfl⟩
 exact h _ ((Below.refl _ _).alloc (Nat.le_refl _) _)
theorem Q1w {q:Addr} {b:UInt8} (a:X4 w σ) (c:Z3 σ q (Lib.setCells [91,93]).toList) (h:K (.bool (brk b)) w):Q0 P F.aw [.pointer (some q), .int .u8 b.toNat] w K:=Lv (by
 unfold T1
 rw[E9]
 have d:=b.toNat_lt
 rw[Q8X (by omega) (by omega)]
 refine ld a c ?_ h
 have:=Lib.setCells_at [91,93] b
 rw[←Array.getElem?_toList] at this
 simpa [brk] using this)
theorem Q1h {q:Addr} {s:X0} (n:X4 w σ) (j:s.length≤Z9) (m:Z3 σ q (Lib.setCells [91,93]).toList) (h:K (S (Ot s)) w):Q0 P F.ai [S s, .pointer (some q)] w K:=Ee (by
 unfold Yw
 refine V8 ?_
 refine Zw (fun x w'=>w'=w∧ ∃u:X0,x=S u∧u.length≤Z9∧Ot u=Ot s) (fun x _=>(sOf x).length) ⟨rfl,s,rfl,j,rfl⟩ ?_
 rintro _ d _ ⟨rfl,u,rfl,f,g⟩
 have e:sOf (S u)=u:=by simp[sOf]
 simp only[e]
 refine Q1C X7 ?_
 refine Q0g ?_
 refine Q6 (fun hh=>?_) (fun hh=>?_)
 ·have k:0<u.length:=by simpa using hh
  have o:u.length≤9223372036854775807:=Nat.le_trans f (by decide)
  refine Q1C X7 ?_
  refine Du ⟨by omega,by omega⟩ ?_
  have i:((u.length:Int)-1).toNat=u.length-1:=by omega
  rw[Qk X7 (by omega) (by omega)]
  simp only[i]
  have b:u.getLast?=some (u[u.length-1]'(by omega)):=by rw[List.getLast?_eq_getElem?,List.getElem?_eq_getElem]
  have a:=Q0r u
  rw[b] at a
  simp only at a
  refine Q1w n m ?_
  cases c:brk (u[u.length-1]'(by omega)) with
  | true=>
   rw[c] at a
   simp only[↓M1,M1,Mb,reduceIte]
   rw[F4 (by omega) (by omega),K2 X7 (by omega) (by omega)]
   simp only[i]
   refine ⟨⟨trivial,_,rfl,by rw[List.length_take];omega,?_⟩,?_⟩
   ·rw[←g,a];simp
   ·have:sOf (S (u.take (u.length-1)))=u.take (u.length-1):=by simp[sOf]
    simp only[this,List.length_take];omega
  | false=>
   rw[c] at a
   simp only[↓M1,M1,Mb,reduceIte]
   intro _
   rw[←g,a] at h
   simpa using h
 ·have k: ¬0<u.length:=by simpa using hh
  have:u=[]:=List.eq_nil_of_length_eq_zero (by omega)
  subst this
  intro _
  rw[←g] at h
  exact h)
theorem Q5P {s:X0} (hs:X4 w σ) (hl:s.length≤Z9) (h: ∀w' σ',Stp w σ w' σ'→K (S (Ot s)) w'):Q0 P F.bn [S s,S [91,93]] w K:=Is (by
 unfold Mf
 by_cases hs0:s=[]
 ·subst hs0
  (repeat' (first | (with_reducible intro _) | (with_reducible refine V8 ?_) | (simp only[↓M2,M2,Mb,reduceIte]) | (with_reducible first | refine ld aS aL aR ?_ | refine X8 aS aL aR ?_ | refine Y9 aS aL aR ?_ | refine Q8 aL ?_ | refine V3 aR ?_ | refine Y7 aS ?_ | refine L2 aS aL ?_ | refine J9 aS aR ?_ | refine Y6 aS aR aR (Rep.one (by assumption)) ?_ | refine U3 aS aR aR aR ?_ | (refine Z4 (fun hh=>?_) (fun hh=>?_)<;>(try simp only[hh,Bool.not_true,Bool.not_false,↓M2,M2,Mb,reduceIte])) | (refine Q6 (fun hh=>?_) (fun hh=>?_)<;>(try simp only[hh,Bool.not_true,Bool.not_false,↓M2,M2,Mb,reduceIte])))))
  all_goals first | exact h _ _ (by (repeat (first | exact Stp.refl (by (first | assumption | exact Stp.sat (by assumption) | exact Hst.sat (by assumption))) | assumption | refine Stp.trans ?_ (by first | assumption | exact Hst.stp (by assumption))))) | (exfalso;simp_all)
 have d1:decide (s=[])=false:=decide_eq_false hs0
 simp only[d1,show decide (([91,93]:X0)=[])=false from rfl,show decide ((([91,93]:X0).length:Int)=1)=false from rfl,↓M1,M1,Mb,reduceIte]
 refine Q5Y (W0 hs fun w1 σ1 hk1=>?_)
 simp only[↓M1,M1,Mb,reduceIte]
 have hsz:(Lib.setCells [91,93]).toList.length=256:=by rw[Array.length_toList];exact Lib.setCells_size _
 have hone: ∀u∈(Lib.setCells [91,93]).toList,u.oneCell'=true:=by
  have:=Lib.setCells_one [91,93]
  rw[Array.all_eq_true'] at this
  intro u hu;exact this u (by simpa using hu)
 have htr: ∀{w:World} {σ:Q5} {K:Value→World→Prop} {q:Addr},X4 w σ→Z3 σ q (Lib.setCells [91,93]).toList→K (S (Ot s)) w→Q0 P F.ai [S s, .pointer (some q)] w K:=fun hs hq h=>Q1h hs hl hq h
 have hta:Lib.setCells [91,93]=(Lib.setCells [91,93]).toList.toArray:=Array.toArray_toList.symm
 generalize (Lib.setCells [91,93]).toList=cs at*
 rw[hta]
 refine Y6 hk1.sat (by show (Array.replicate 256 (Value.bool false)).size=256;exact Array.size_replicate) hsz hone fun q w2 σ2 hk2 hq=>?_
 refine htr hk2.sat hq ?_
 exact h _ _ (hk1.trans hk2))
theorem Pm {s:X0} (hs:X4 w σ) (ht:Tab σ v l) (hl:s.length≤Z9) (h: ∀w' σ',Stp w σ w' σ'→K (.bool (N0 l s)) w'):Q0 P F.x [v,S s] w K:=Ku (by
 unfold Md
 unfold N0 at h
 refine Vx ?_
 refine Q6 (fun hh=>?_) (fun hh=>?_)
 ·have e:decide (s=D0)=true:=hh
  rw[e] at h
  exact h _ _ (Stp.refl hs)
 ·have e:decide (s=D0)=false:=hh
  rw[e] at h
  refine Q5P hs hl fun w1 σ1 hk1=>?_
  refine Ja s (Nat.le_trans hl (by decide)) (W0 hk1.sat fun w2 σ2 hk2=>?_)
  cases hr:right s with
  | false=>
   rw[hr] at h
   (repeat' (first | (with_reducible intro _) | (with_reducible refine V8 ?_) | (simp only[↓M2,M2,Mb,reduceIte]) | (with_reducible first | refine ld aS aL aR ?_ | refine X8 aS aL aR ?_ | refine Y9 aS aL aR ?_ | refine Q8 aL ?_ | refine V3 aR ?_ | refine Y7 aS ?_ | refine L2 aS aL ?_ | refine J9 aS aR ?_ | refine Y6 aS aR aR (Rep.one (by assumption)) ?_ | refine U3 aS aR aR aR ?_ | (refine Z4 (fun hh=>?_) (fun hh=>?_)<;>(try simp only[hh,Bool.not_true,Bool.not_false,↓M2,M2,Mb,reduceIte])) | (refine Q6 (fun hh=>?_) (fun hh=>?_)<;>(try simp only[hh,Bool.not_true,Bool.not_false,↓M2,M2,Mb,reduceIte])))))
   all_goals exact aF
  | true=>
   rw[hr] at h
   have hr2:(plain (base s).1||W7 (base s).1)=true:=by
    simp only[right,Bool.and_eq_true] at hr;exact hr.2
   rw[Q7X hr2]
   (repeat' (first | (with_reducible intro _) | (with_reducible refine V8 ?_) | (simp only[↓M2,M2,Mb,reduceIte]) | (with_reducible first | refine ld aS aL aR ?_ | refine X8 aS aL aR ?_ | refine Y9 aS aL aR ?_ | refine Q8 aL ?_ | refine V3 aR ?_ | refine Y7 aS ?_ | refine L2 aS aL ?_ | refine J9 aS aR ?_ | refine Y6 aS aR aR (Rep.one (by assumption)) ?_ | refine U3 aS aR aR aR ?_ | refine Vj _ ?_ | refine Q72 au au ?_ | (refine Z4 (fun hh=>?_) (fun hh=>?_)<;>(try simp only[hh,Bool.not_true,Bool.not_false,↓M2,M2,Mb,reduceIte])) | (refine Q6 (fun hh=>?_) (fun hh=>?_)<;>(try simp only[hh,Bool.not_true,Bool.not_false,↓M2,M2,Mb,reduceIte])))))
   all_goals exact aF)
end Go.Proofs.YtfppjenblllfaaaGreatDoor

namespace Go.Emb
open Go.RowKit Go.Hm
variable {P : Program} {w w0 w1 w' w'' : World} {K : Value → World → Prop} {σ σ0 σ1 σ' : Q5}
theorem Q3p (m:List (List UInt8×Value)) (k n:List UInt8) (v:Value):M3 (Xd m k v) n=if k=n then some v else M3 m n:=by
 induction m with
 | nil=>simp[Xd,M3]
 | cons p r b=>
  simp only[Xd]
  by_cases h:p.1=k
  ·rw[if_pos h]
   simp only[M3]
   by_cases a:k=n
   ·simp[a]
   ·rw[if_neg a,if_neg a,if_neg (by rw[h];exact a)]
  ·rw[if_neg h]
   simp only[M3]
   by_cases a:p.1=n
   ·rw[if_pos a,if_pos a,if_neg (by intro e;exact h (a.trans e.symm))]
   ·rw[if_neg a,if_neg a];exact b
theorem U6.shift {B sz:Nat} {e:TypeId} {v:Value} {xs:List (List UInt8)} (h:U6 B e sz Y1 σ w v xs) (m: ∀k,v.ownBlock=some k→σ' k=none):U6 B e sz Y1 σ' w v xs:=by
 obtain ⟨a,i,rfl,r,q,c,s⟩:=h
 refine ⟨a,i,rfl,r,q,fun b d=>⟨(c b d).1,(c b d).2.1,(c b d).2.2.1,m _ (by subst d;rfl)⟩,fun n=>?_⟩
 obtain ⟨g,f,j,rfl,o,y,u,t,p⟩:=s n
 exact ⟨g,f,j,rfl,o,m g rfl,u,t,p⟩
theorem Kpt.sat {D:Nat→Prop} (a:X4 w σ) (c:Kpt D w w') (d: ∀k,D k→σ k=none):X4 w' σ:=fun b o e=>by
 rw[c.block b (a.lt e) fun h=>by rw[d b h] at e;cases e];exact a b o e
theorem Nxt.kpt {D a:Nat→Prop} (h:Nxt D w σ w' σ') (b:Kpt a w' w'') (d: ∀k,a k→D k) (c: ∀k,a k→σ' k=none):Nxt D w σ w'' σ':=
 ⟨h.kp.trans (b.mono fun k _ h=>d k h),h.le,h.old,b.sat h.sat c⟩
theorem X1X {t J:TypeId} {e:TypeId} {by_:Nat} {z:Value} {cs:List Bool} [ts:TS P t e] [tz:TZ P e 1 by_ z] {B:Nat} {y:World} {i σ':Q5} {g u:Value} {xs:List (List UInt8)} {s:List UInt8}
 (A:U6 B e 1 Y1 i y g xs) (hB:B≤y.heap.size) (Q:U6 B e 1 Y1 i w1 g xs) (q:Nxt (fun k=>g.ownBlock=some k) y i w1 σ') (W:Sl 1 Y1 σ' u [s]) (L:(z.cells.size==1&&decide (0<1))=true)
 (j:(xs.length+1)*by_≤140737488355328) (H:xs.length+1≤1000000000000):
 X5 P .append [t,t] J cs [g,u] w1 (dk (Bf B e 1 Y1 i g xs s) (VQa y.heap.size B e 1 Y1 i g xs s) w1):=by
 have r: ∀k,g.ownBlock=some k→σ' k=none:=fun k c=>(q.old k (A.mem c).2.1).trans (A.mem c).2.2
 refine Q1Q q.sat (Nat.le_trans hB q.kp.size) (Q.shift r) W L (by simpa using j) (by simpa using H) fun V N C U p d=>?_
 have b:U6 B e 1 Y1 i N V (xs++[s]):=p.shift fun k c=>by
  have:=(p.mem c).2.2
  cases hh:i k with
  | none=>rfl
  | some o=>rw[q.le.le _ _ hh] at this;cases this
 refine ⟨⟨C.mono fun k _ h=>h.1,fun h=>?_,fun a f D h=>?_⟩,b,?_⟩
 ·rcases d with ⟨a,f,n,m⟩ | ⟨j,_⟩
  ·rw[m] at b;rw[n];exact b.pre rfl
  ·exact h.below j
 ·rcases d with ⟨X,E,n,m⟩ | ⟨j,_⟩
  ·rw[n] at D;injection D with M q2 R
   subst M R
   rw[m] at b;exact b
  ·exact h.below j
 ·rcases d with ⟨a,f,n,m⟩ | ⟨j,O⟩
  ·exact .inl ⟨a,f,n,m⟩
  ·exact .inr ⟨fun k c=>Nat.le_trans q.kp.size (O k c),fun k c=>(A.mem c).2.1⟩
end Go.Emb
namespace Go.Hm
open Go.Kd
def Lh (l:List Cla) (n:X0):List Cla:=(R4 l n).filterMap (lk l)
theorem Q5o {l:List Cla} (h: ∀c∈l,T2 c) (a:List X0):weigh l a≤l.length*1000001:=by
 unfold weigh
 induction l with
 | nil=>simp
 | cons c r d=>
  have f:=d fun c b=>h c (by simp[b])
  have e:=(h c (by simp)).1
  simp only[List.map_cons,List.sum_cons,List.length_cons,Nat.add_mul]
  have g:(J4 c).length=c.like.length+1:=rfl
  split<;>omega
end Go.Hm
namespace Go.Proofs.YtfppjenblllfaaaGreatDoor
open Go.Emb Go.RowKit Go.Kd Go.Hm
variable {w : World} {K : Value → World → Prop} {σ : Q5} {v : Value} {l : List Cla}
theorem Q64 {β:Type} {n:X0} {f:Value} (J:β→Cla→Bool×β) (s0:β) (O:β→World→Prop) (D:Nat→Prop) (hs:X4 w σ) (ht:Tab σ v l) (hl:l.length≤100000) (br: ∀c∈l,T2 c) (hn:n.length≤Z9)
 (hD: ∀k,D k→k<w.heap.size∧σ k=none) (ak: ∀s w1 w2,O s w1→(∀k,D k→w2.heap[k]? =w1.heap[k]?)→O s w2) (h0:O s0 w)
 (hf: ∀s c cs (w1:World) (σ1:Q5) (K:Value→World→Prop),SLe σ σ1→X4 w1 σ1→(∀k,D k→σ1 k=none)→O s w1→U5 σ1 c cs→lk l c.name=some c→(∀w',Kpt D w1 w'→O (J s c).2 w'→K (.bool (J s c).1) w')→Z2 P f [.agg cs.toArray] w1 K)
 (h: ∀w' σ',Nxt D w σ w' σ'→O (J3 J s0 (Lh l n) 0).2 w'→K (.bool (J3 J s0 (Lh l n) 0).1.isSome) w'):Q0 P F.v [v,S n,f] w K:=Fb (by
 unfold Lc
 refine Qc (R:=Y1) (sz:=1) (xs:=[n]) (Stp.refl hs) [S n] rfl rfl (by simp;rfl) rfl ⟨⟨rfl,hn⟩,trivial⟩ fun x0 w1 a0 b0 _=>?_
 refine Pl a0.sat fun r w2 hr af cl=>?_
 have b7:=U6.of_acc (b0.up af)
 have bq:=a0.trans af
 have bz:w.heap.size≤r:=Nat.le_trans a0.bel.size hr
 have b1: ∀b,weigh l b≤100001000000:=fun b=>by
  have:=Q5o br b
  have h2:l.length*1000001≤100000*1000001:=Nat.mul_le_mul_right _ hl
  omega
 refine Ri (fun d x w1=> ∃(B b:List X0) (s:β) (σ1:Q5) (m:List (X0×Value)),d=B.length+weigh l b∧d≤1+weigh l []∧Nxt D w σ w1 σ1∧U6 w.heap.size T.b 1 Y1 σ1 w1 x B∧E6 σ1 w1 r m∧(∀k,(M3 m k).isSome=decide (k∈b))∧x.ownBlock≠some r∧O s w1∧
  R4 l n=Jg (lk l) d B b∧(∃i,J3 J s0 (Lh l n) 0=J3 J s (((R4 l n).drop b.length).filterMap (lk l)) i)) (1+weigh l []) ?_ ?_
 ·refine ⟨[n],[],s0,σ,[],by simp,Nat.le_refl _,Nxt.of_stp bq,b7,cl,by simp[M3],?_,ak _ _ _ h0 fun k o=>bq.bel.block k (hD k o).1,rfl,0,by simp[Lh]⟩
  intro e
  have:=b0.mem r e
  omega
 rintro ax d x dd w3 ⟨B,b,s,σ3,m,hd,c6,A,av,Y,N,cc,a1,hv,i,y⟩ bu
 have cw:=b1 []
 have a5:=A.sat
 obtain ⟨aq,C⟩:=Q0h (lk l) d B b
 rw[←hv] at C
 have ad:(R4 l n).drop b.length=aq:=by rw[C];simp
 rw[ad] at y
 refine Bs av ?_
 refine Q0g ?_
 cases X:B with
 | nil=>
  subst X
  refine Q6 (fun hh=>absurd (of_decide_eq_true hh) (by simp)) (fun _=>?_)
  have:R4 l n=b:=by rw[hv];cases d<;>rfl
  have hp:aq=[]:=by rw[this] at C;simpa using C
  rw[hp] at y
  rw[y] at h
  exact h _ _ A a1
 | cons t g=>
  subst X
  refine Q6 (fun _=>?_) (fun hh=>absurd (of_decide_eq_false hh) (by simp))
  simp only[List.length_cons] at hd
  refine Q49 (n:=0) av (by simp) fun a cs h1 h2 h3=>?_
  obtain ⟨rfl,co⟩:=h3
  simp only[List.getElem_cons_zero] at h1 co
  have aa:=h1 0 _ rfl
  rw[add_zero] at aa
  refine Qd aa ?_
  refine X0g av 1 (by simp) fun x' ac bs=>?_
  simp only[List.drop_succ_cons,List.drop_zero] at ac
  have H:x'.ownBlock≠some r:=by
   rcases bs with e | e<;>rw[e]
   ·exact cc
   ·simp
  rw[Q1m X7 Y.2 t]
  have cj:d=(g.length+weigh l b)+1:=by omega
  have p:=hv
  rw[cj] at p
  simp only[Jg] at p
  have skip:(lk l t=none∨t∈b)→R4 l n=Jg (lk l) (g.length+weigh l b) g b:=by
   rintro (e | e)
   ·rw[e] at p;exact p
   ·cases e2:lk l t with
    | none=>rw[e2] at p;exact p
    | some c=>rw[e2] at p;simp only[if_pos e] at p;exact p
  have ag:(lk l t=none∨t∈b)→ax x' w3:=fun b3=>
   bu (g.length+weigh l b) x' w3 (by omega) ⟨g,b,s,σ3,m,rfl,by omega,A,ac,Y,N,H,a1,skip b3,i,by rw[ad];exact y⟩
  have az:=ht.lift A.le
  have U:=N t
  cases bv:M3 m t with
  | some u=>
   rw[bv] at U
   have al:t∈b:=by simpa using U
   simp only[↓M2,M2,Mb,reduceIte]
   exact ag (.inr al)
  | none=>
   rw[bv] at U
   have al:t∉b:=by simpa using U
   simp only[↓M2,M2,Mb,reduceIte]
   cases L:lk l t with
   | none=>
    refine Aa a5 az L ?_
    simp only[↓M2,M2,Mb,reduceIte]
    exact ag (.inl L)
   | some c=>
    obtain ⟨aw,bh,_⟩:=U1 L
    refine Dx a5 az L ?_
    simp only[↓M2,M2,Mb,reduceIte]
    refine Df X7 Y t (I 1) fun w4 bb b5=>?_
    have ab:Kpt (fun k=>k=r) w3 w4:=Kpt.of_upd bb rfl
    have b4:X4 w4 σ3:=ab.sat a5 fun k o=>by rw[o];exact Y.1
    have bd:=ac.kp ab fun k o e=>H (e▸o)
    have ca:=ak _ _ _ a1 fun k o=>bb.block k (by have:=(hD k o).1;omega)
    have c1:r<w3.heap.size:=Y.lt
    refine Xs b4 az L fun lv fv mv w5 σ5 bw f1 f2 f3 f4 f5 bi=>?_
    refine Y6 bw.sat (by rfl) rfl (Rep.one bi) fun q w6 M W ar=>?_
    refine Y9 W.sat ar rfl ?_
    have z:=bw.trans W
    have bc: ∀k,D k→k<w4.heap.size:=fun k o=>by
     have h1:=(hD k o).1
     have h2:=A.kp.size
     have h3:=ab.size
     omega
    have cq:=ak _ _ _ ca fun k o=>z.bel.block k (bc k o)
    have a3:SLe σ M:=A.le.more ⟨z.le⟩
    have bx: ∀k,D k→M k=none:=fun k o=>by
     rw[z.old k (bc k o),A.old k (hD k o).1];exact (hD k o).2
    refine hf s c _ w6 M _ a3 W.sat bx cq (RCl_lift bi ⟨W.le⟩) (by rw[aw];exact L) fun w7 am bf=>?_
    have bk:X4 w7 M:=am.sat W.sat bx
    have an:Nxt D w σ w7 M:=⟨((A.kp.more ab fun j e=>by rw[e];exact bz).trans (Kpt.of_below z.bel)).trans am,a3,fun k o=>by
     rw[z.old k (by have:=A.kp.size;have:=ab.size;omega)];exact A.old k o,bk⟩
    have ap: ∀k,w.heap.size≤k→ ¬D k:=fun k o e=>by have:=(hD k e).1;omega
    have V:=(bd.up z).kp am fun k o=>ap k ((bd.mem o).1)
    have bl:=(b5.up z).kp am (ap r bz)
    have bm: ∀k,(M3 (Xd m t (I 1)) k).isSome=decide (k∈b++[t]):=fun k=>by
     rw[Q3p]
     by_cases e:t=k
     ·subst e;simp
     ·rw[if_neg e,N k];simp[Ne.symm e]
    rw[L] at p
    simp only[if_neg al] at p
    obtain ⟨bg,a6⟩:=Q0h (lk l) (g.length+weigh l b) (g++J4 c) (b++[t])
    have be:aq=t::bg:=by
     have:=C.symm.trans (p.trans a6)
     simpa using this
    rw[be] at y
    simp only[List.filterMap_cons,L,J3] at y
    cases E:(J s c).1 with
    | true=>
     rw[E] at y
     simp only[if_true] at y
     refine V1 ?_
     have:=h w7 M an
     rw[y] at this
     exact this bf
    | false=>
     rw[E] at y
     simp only[Bool.false_eq_true,if_false] at y
     refine V6 ?_
     have ao:w.heap.size≤w7.heap.size:=an.kp.size
     have Z: ∀k,x'.ownBlock=some k→M k=none:=fun k o=>(V.mem o).2.2
     have hw:=Gx l b c bh (by rw[aw];exact al)
     rw[aw] at hw
     have dn:=b1 b
     have b6:g.length≤100001000001:=by omega
     have cd:=(br c bh).1
     have cv:=bl.lt
     refine Q0c (Bf w.heap.size T.b 1 Y1 M x' g c.super) (fun w1=>Kpt (fun k=>x'.ownBlock=some k) w7 w1∧X4 w1 M∧U6 w.heap.size T.b 1 Y1 M w1 x' g)
      ⟨.of_below (Below.refl _ _).drew,bk.below (Below.refl _ _).drew,V.below (Below.refl _ _).drew⟩ (fun w1 w2 E ht=>⟨E.1.trans ht.1,ht.1.sat E.2.1 Z,ht.2.1 E.2.2⟩) ?_
     refine X2 (.pointer (some (q.add 1))) (fun w E=>by rw[fa];exact ⟨Bf.refl,rfl⟩) ?_
     refine X2 (.pointer (some (q.add 2))) (fun w E=>by rw[fa];exact ⟨Bf.refl,rfl⟩) ?_
     refine X2 (S c.super) (fun t w E e=>by rw[e];exact ld E.2.1 ar rfl ⟨Bf.refl,rfl⟩) ?_
     refine W6 (fun u w1=> ∃σ',Nxt (fun k=>x'.ownBlock=some k) w7 M w1 σ'∧Sl 1 Y1 σ' u [c.super]) (fun u w1 w2 e ht=>by obtain ⟨σ',h1,h2⟩:=e;exact ⟨σ',h1.kpt ht.1 (fun _ o=>o) (fun k o=>(h1.old k (V.mem o).2.1).trans (Z k o)),h2⟩) (fun t w1 E e=>?_) ?_
     ·rw[e]
      refine D2 (R:=Y1) (sz:=1) E.2.1 [S c.super] [c.super] rfl rfl (by simp;rfl) rfl ⟨⟨rfl,f5⟩,trivial⟩ fun u w2 σ2 af hu=>?_
      have cb:Nxt (fun k=>x'.ownBlock=some k) w7 M w1 M:=⟨E.1,SLe.refl _,fun _ _=>rfl,E.2.1⟩
      exact ⟨Bf.below af.bel,σ2,cb.trans (Nxt.of_stp af),hu⟩
     refine W6 (VQa w7.heap.size w.heap.size T.b 1 Y1 M x' g c.super) (fun _ _ _ h1 ht=>h1.stable ht) (fun u w1 E e=>?_) ?_
     ·obtain ⟨σ',h1,h2⟩:=e
      exact X1X V ao E.2.2 h1 h2 rfl (by omega) (by omega)
     refine X2 lv (fun t w E e=>by rw[e];exact ld E.2.1 ar rfl ⟨Bf.refl,rfl⟩) ?_
     rintro c2 db di cy b8 de w8 Q _ _ _ _ ⟨cn,bp⟩ rfl
     have ay:b8.ownBlock≠some r:=by
      rcases bp with ⟨a,cm,e1,e2⟩ | ⟨e1,_⟩
      ·rw[e2];rw[e1] at H;cases a<;>exact H
      ·intro e;have:=e1 r e;omega
     refine Q1Q Q.2.1 (Nat.le_trans ao Q.1.size) cn (f1.up W) rfl (by rw[List.length_append,List.length_cons,List.length_nil];omega) (by rw[List.length_append,List.length_cons,List.length_nil];omega) fun bo w9 a7 cr ch bn=>?_
     have cf:bo.ownBlock≠some r:=by
      rcases bn with ⟨a,cm,e1,e2⟩ | ⟨_,e1⟩
      ·rw[e2];rw[e1] at ay;cases a<;>exact ay
      ·intro e;have:=e1 r e;have:=Q.1.size;omega
     have b9:Nxt D w σ w9 M:=⟨(an.kp.more Q.1 fun j e=>(V.mem e).1).more a7 fun j e=>e.2.1,a3,an.old,cr⟩
     have ci:=(bl.kp Q.1 H).kp a7 fun e=>ay e.1
     have cg:=ak _ w7 w9 bf fun k o=>by
      have h1:=(hD k o).1
      rw[a7.block k (by have:=Q.1.size;omega) fun e=>by have:=e.2.1;omega,Q.1.block k (by omega) fun e=>by have:=(V.mem e).1;omega]
     have da:(g++J4 c).length=g.length+1+c.like.length:=by simp[J4];omega
     have cu:(J4 c).length=c.like.length+1:=rfl
     have a2:Jg (lk l) (g.length+weigh l b) (g++J4 c) (b++[t])=Jg (lk l) ((g++J4 c).length+weigh l (b++[t])) (g++J4 c) (b++[t]):=by
      have:=Q9F l ((g++J4 c).length+weigh l (b++[t])) (g++J4 c) (b++[t]) (Nat.le_refl _) (g.length+weigh l b-((g++J4 c).length+weigh l (b++[t])))
      rw[←this];congr 1;omega
     refine bu ((g++J4 c).length+weigh l (b++[t])) bo w9 (by omega) ⟨g++J4 c,b++[t],(J s c).2,M,_,rfl,by omega,b9,?_,ci,bm,cf,cg,p.trans a2,i+1,?_⟩
     ·have:g++J4 c=(g++[c.super])++c.like:=by simp[J4]
      rw[this];exact ch
     ·rw[y,C,be];simp)
end Go.Proofs.YtfppjenblllfaaaGreatDoor

namespace Go.Emb
open Go.RowKit Go.Hm
theorem Nxt.stp {w w':World} {σ a:Q5} (h:Nxt (fun _=>False) w σ w' a):Stp w σ w' a:=⟨h.kp.below fun _=>id,h.sat,h.le.le,h.old⟩
end Go.Emb
namespace Go.Hm
open Go.Kd Go.Emb
theorem Q3t {α:Type} (p:α→Bool): ∀(xs:List α) (i:Nat),(J3 (fun (_:Unit) x=>(p x,())) () xs i).1.isSome=xs.any p
 | [],_=>rfl
 | x::r,i=>by
  simp only[J3,List.any_cons]
  cases p x with
  | true=>simp
  | false=>simpa using Q3t p r (i+1)
theorem Q4B {l:List Cla} (n b:X0):((Lh l n).any fun c=>decide (c.name=b))=(R4 l n).contains b:=by
 have key: ∀vs:List X0,(∀x∈vs,∃c,lk l x=some c)→((vs.filterMap (lk l)).any fun c=>decide (c.name=b))=vs.contains b:=by
  intro vs
  induction vs with
  | nil=>intro _;rfl
  | cons x r e=>
   intro h
   obtain ⟨c,a⟩:=h x (by simp)
   rw[List.filterMap_cons,a]
   simp only[List.any_cons,List.contains_cons]
   rw[e fun y d=>h y (by simp[d]),(U1 a).1]
   congr 1
   rw[Bool.eq_iff_iff,beq_iff_eq,decide_eq_true_eq];exact ⟨Eq.symm,Eq.symm⟩
 exact key _ fun x f=>(Zy.1 f).right
end Go.Hm
namespace Go.Proofs.YtfppjenblllfaaaGreatDoor
open Go.Emb Go.RowKit Go.Kd Go.Hm
variable {w : World} {K : Value → World → Prop} {σ : Q5} {v : Value} {l : List Cla}
theorem Q6v {n:X0} {f:Value} (p:Cla→Bool) (hs:X4 w σ) (ht:Tab σ v l) (hl:l.length≤100000) (hsm: ∀c∈l,T2 c) (hn:n.length≤Z9)
 (hf: ∀c cs (w1:World) (σ1:Q5) (K:Value→World→Prop),SLe σ σ1→X4 w1 σ1→U5 σ1 c cs→(∀w' σ',Stp w1 σ1 w' σ'→K (.bool (p c)) w')→Z2 P f [.agg cs.toArray] w1 K)
 (h: ∀w' σ',Stp w σ w' σ'→K (.bool ((Lh l n).any p)) w'):Q0 P F.v [v,S n,f] w K:=by
 refine Q64 (fun (_:Unit) c=>(p c,())) () (fun _ _=>True) (fun _=>False) hs ht hl hsm hn (fun _ e=>e.elim) (fun _ _ _ _ _=>trivial) trivial (fun s c cs w1 σ1 K le hs1 _ _ hr _ hK=>hf c cs w1 σ1 K le hs1 hr fun w' σ' hk=>hK w' (.of_below hk.bel) trivial) fun w' σ' hn _=>?_
 rw[Q3t]
 exact h w' σ' hn.stp
theorem Q9G {n b:X0} {q:Addr} (hs:X4 w σ) (ht:Tab σ v l) (ok:Ok l) (hn:n.length≤Z9) (hq:Z3 σ q [S b]) (h: ∀w' σ',Stp w σ w' σ'→K (.bool ((R4 l n).contains b)) w'):
 Q0 P F.v [v,S n, .func (.func F.bh) #[] #[.pointer (some q)]] w K:=by
 refine Q6v (fun c=>decide (c.name=b)) hs ht ok.len ok.sm hn (fun c cs w1 σ1 K le hs1 hr hK=>Y8 (Gr ?_)) (by rw[Q4B];exact h)
 obtain ⟨lv,fv,mv,rfl,_⟩:=hr
 unfold Lp
 have hq1:=hq.lift le
 refine Y7 hs1 fun a w2 σ2 hk2 ha2=>?_
 (repeat' (first | (with_reducible intro _) | (with_reducible refine V8 ?_) | (simp only[↓M2,M2,Mb,reduceIte]) | (with_reducible first | refine ld aS aL aR ?_ | refine X8 aS aL aR ?_ | refine Y9 aS aL aR ?_ | refine Q8 aL ?_ | refine V3 aR ?_ | refine Y7 aS ?_ | refine L2 aS aL ?_ | refine J9 aS aR ?_ | refine Y6 aS aR aR (Rep.one (by assumption)) ?_ | refine U3 aS aR aR aR ?_ | (refine Z4 (fun hh=>?_) (fun hh=>?_)<;>(try simp only[hh,Bool.not_true,Bool.not_false,↓M2,M2,Mb,reduceIte])) | (refine Q6 (fun hh=>?_) (fun hh=>?_)<;>(try simp only[hh,Bool.not_true,Bool.not_false,↓M2,M2,Mb,reduceIte])))))
 exact hK _ _ hk2
theorem Q3N {a b:X0} (D:X4 w σ) (r:Tab σ v l) (ok:Ok l) (t:a.length≤Z9) (H:b.length≤Z9) (h: ∀w' E,Stp w σ w' E→K (.bool (W9 l a b)) w'):Q0 P F.ac [v,S a,S b] w K:=Ax (by
 unfold Nq
 unfold W9 at h
 refine J9 D rfl fun q w1 σ1 j B=>?_
 refine Pm j.sat (r.lift ⟨j.le⟩) t fun J L d=>?_
 have m:=j.trans d
 cases C:N0 l a with
 | false=>
  simp only[C,↓M2,M2,Mb,reduceIte,Bool.not_false,Bool.true_or,if_true] at h⊢
  exact h _ _ m
 | true=>
  simp only[C,↓M2,M2,Mb,reduceIte,Bool.not_true,Bool.false_or] at h⊢
  refine X8 d.sat (B.up d) rfl ?_
  refine Pm d.sat (r.lift ⟨m.le⟩) H fun R U e=>?_
  have c:=m.trans e
  cases A:N0 l b with
  | false=>
   simp only[A,↓M2,M2,Mb,reduceIte,Bool.not_false,if_true] at h⊢
   exact h _ _ c
  | true=>
   simp only[A,↓M2,M2,Mb,reduceIte,Bool.not_true,Bool.false_eq_true,if_false] at h⊢
   have k:=(B.up d).up e
   refine X8 e.sat k rfl ?_
   refine Vx ?_
   by_cases f:a=b
   ·rw[if_pos f] at h
    simp only[decide_eq_true f,↓M2,M2,Mb,reduceIte]
    exact h _ _ c
   rw[if_neg f] at h
   simp only[decide_eq_false f,↓M2,M2,Mb,reduceIte]
   refine Vj a ?_
   cases y:plain a with
   | true=>
    simp only[y,↓M2,M2,Mb,reduceIte,Bool.true_or,if_true] at h⊢
    exact h _ _ c
   | false=>
    simp only[y,↓M2,M2,Mb,reduceIte,Bool.false_or] at h⊢
    refine X8 e.sat k rfl ?_
    refine Vj b ?_
    cases z:plain b with
    | true=>
     simp only[z,↓M2,M2,Mb,reduceIte,if_true] at h⊢
     exact h _ _ c
    | false=>
     simp only[z,↓M2,M2,Mb,reduceIte,Bool.false_eq_true,if_false] at h⊢
     by_cases p:a=D0
     ·rw[if_pos p] at h
      have u:decide (a=[110,117,108,108])=true:=decide_eq_true p
      simp only[u,↓M2,M2,Mb,reduceIte]
      exact h _ _ c
     rw[if_neg p] at h
     have u:decide (a=[110,117,108,108])=false:=decide_eq_false p
     simp only[u,↓M2,M2,Mb,reduceIte]
     refine X1y a (Nat.le_trans t (by decide)) (W0 e.sat fun M O g=>?_)
     have i:=c.trans g
     have n:=k.up g
     refine Wo ?_
     by_cases o:elem a=[]
     ·rw[if_neg (by simpa using o)] at h
      simp only[decide_eq_true o,↓M2,M2,Mb,reduceIte]
      exact Q9G g.sat (r.lift ⟨i.le⟩) ok t n fun Q N s=>h _ _ (i.trans s)
     ·rw[if_pos o] at h
      simp only[decide_eq_false o,↓M2,M2,Mb,reduceIte]
      refine X8 g.sat n rfl ?_
      refine Vx ?_
      exact h _ _ i)
theorem Q8e {a b:X0} (X:X4 w σ) (p:Tab σ v l) (ok:Ok l) (y:a.length≤Z9) (z:b.length≤Z9) (h: ∀w' E,Stp w σ w' E→K (S (W8 l a b)) w'):Q0 P F.aF [v,S a,S b] w K:=Iw (by
 unfold My
 unfold W8 at h
 refine Q3N X p ok y z fun w1 σ1 k=>?_
 cases R:W9 l a b with
 | true=>
  simp only[R,↓M2,M2,Mb,reduceIte,if_true] at h⊢
  exact h _ _ k
 | false=>
  simp only[R,↓M2,M2,Mb,reduceIte,Bool.false_eq_true,if_false] at h⊢
  refine Q3N k.sat (p.lift ⟨k.le⟩) ok z y fun w2 σ2 r=>?_
  have o:=k.trans r
  cases Q:W9 l b a with
  | true=>
   simp only[Q,↓M2,M2,Mb,reduceIte,if_true] at h⊢
   exact h _ _ o
  | false=>
   simp only[Q,↓M2,M2,Mb,reduceIte,Bool.false_eq_true,if_false] at h⊢
   refine Pm r.sat (p.lift ⟨o.le⟩) y fun w3 σ3 u=>?_
   have n:=o.trans u
   cases N:N0 l a with
   | false=>
    simp only[N,↓M2,M2,Mb,reduceIte,Bool.not_false,Bool.true_or,if_true] at h⊢
    exact h _ _ n
   | true=>
    simp only[N,↓M2,M2,Mb,reduceIte,Bool.not_true,Bool.false_or] at h⊢
    refine Pm u.sat (p.lift ⟨n.le⟩) z fun w4 V H=>?_
    have g:=n.trans H
    cases O:N0 l b with
    | false=>
     simp only[O,↓M2,M2,Mb,reduceIte,Bool.not_false,Bool.true_or,if_true] at h⊢
     exact h _ _ g
    | true=>
     simp only[O,↓M2,M2,Mb,reduceIte,Bool.not_true,Bool.false_or] at h⊢
     refine Vj a ?_
     cases U:plain a with
     | true=>
      simp only[U,↓M2,M2,Mb,reduceIte,Bool.true_or,if_true] at h⊢
      exact h _ _ g
     | false=>
      simp only[U,↓M2,M2,Mb,reduceIte,Bool.false_or] at h⊢
      refine Vj b ?_
      cases L:plain b with
      | true=>
       simp only[L,↓M2,M2,Mb,reduceIte,if_true] at h⊢
       exact h _ _ g
      | false=>
       simp only[L,↓M2,M2,Mb,reduceIte,Bool.false_eq_true,if_false] at h⊢
       refine Ri (fun d x w'=> ∃(s:X0) (E:Q5),x=S s∧s.length≤Z9∧Stp w σ w' E∧d=(chain l s).length∧(chain l a).find? (fun c=>W9 l b c.name)=(chain l s).find? fun c=>W9 l b c.name) _ ⟨a,V,rfl,y,g,rfl,rfl⟩ ?_
       rintro D d x dd w5 ⟨s,σ5,rfl,A,f,rfl,e⟩ J
       have m:=p.lift ⟨f.le⟩
       cases q:lk l s with
       | none=>
        refine Aa f.sat m q ?_
        refine V6 ?_
        rw[G3 q] at e
        rw[e] at h
        exact h _ _ f
       | some c=>
        have t:=(U1 q).1
        have j:=C9 ok.acy s
        rw[q] at j
        simp only at j
        rw[j,List.find?_cons,t] at e
        refine Dx f.sat m q ?_
        refine V1 ?_
        refine Q3N f.sat m ok z A fun Z σ6 B=>?_
        have i:=f.trans B
        cases M:W9 l b s with
        | true=>
         rw[M] at e
         simp only at e
         refine V1 ?_
         rw[e] at h
         have:=h _ _ i
         simp only[t] at this
         exact this
        | false=>
         rw[M] at e
         simp only at e
         refine V6 ?_
         refine Xs i.sat (p.lift ⟨i.le⟩) q fun lv fv mv w7 Y C f1 f2 f3 f4 W hr=>?_
         refine V3 (v:=S c.super) rfl ?_
         exact J _ _ _ (by rw[j];simp) ⟨c.super,Y,rfl,W,i.trans C,rfl,e⟩)
theorem X0T {c:Cla} {cs:List Value} (hs:X4 w σ) (ht:Tab σ v l) (hl:l.length≤100000) (hsm: ∀c∈l,T2 c) (hc:U5 σ c cs) (h: ∀w' σ',Stp w σ w' σ'→K (.bool (G0 l c)) w'):Q0 P F.b8 [v, .agg cs.toArray] w K:=Gk (by
 obtain ⟨lv,fv,mv,rfl,g1,g2,g3,g4,g5⟩:=hc
 unfold Wj
 obtain ⟨a,_,_,_,rfl,_⟩:=ht.ex
 refine J9 hs rfl fun q w1 σ1 hk1 hq=>?_
 refine Y7 hk1.sat fun q2 w2 σ2 hk2 hq2=>?_
 rw[Qp,fa]
 have hS2:=hk1.trans hk2
 have back: ∀{n:X0} {w3:World} {σ3:Q5} {K:Value→World→Prop},SLe σ2 σ3→X4 w3 σ3→n.length≤Z9→(∀w' σ',Stp w3 σ3 w' σ'→K (.bool ((R4 l n).contains c.name)) w')→
  Z2 P (.func (.func F.aW) #[] #[.pointer (some q), .pointer (some q2)]) [S n] w3 K:=by
  intro n w3 σ3 K le hs3 hn hK
  refine Y8 (Sd ?_)
  unfold Jq
  refine X8 hs3 ((hq.up hk2).lift le) rfl ?_
  rw[Qp]
  have le3:SLe σ σ3:=SLe.more ⟨hS2.le⟩ le
  refine Q6v (fun d=>decide (d.name=c.name)) hs3 (ht.lift le3) hl hsm hn (fun d ds w4 σ4 K le4 hs4 hr hK=>Y8 (Hf ?_)) (by rw[Q4B];exact hK)
  obtain ⟨lv,fv,mv,rfl,_⟩:=hr
  unfold Zj
  have hq4:=(hq2.lift le).lift le4
  refine Y7 hs4 fun a w5 σ5 hk5 ha5=>?_
  (repeat' (first | (with_reducible intro _) | (with_reducible refine V8 ?_) | (simp only[↓M2,M2,Mb,reduceIte]) | (with_reducible first | refine ld aS aL aR ?_ | refine X8 aS aL aR ?_ | refine Y9 aS aL aR ?_ | refine Q8 aL ?_ | refine V3 aR ?_ | refine Y7 aS ?_ | refine L2 aS aL ?_ | refine J9 aS aR ?_ | refine Y6 aS aR aR (Rep.one (by assumption)) ?_ | refine U3 aS aR aR aR ?_ | (refine Z4 (fun hh=>?_) (fun hh=>?_)<;>(try simp only[hh,Bool.not_true,Bool.not_false,↓M2,M2,Mb,reduceIte])) | (refine Q6 (fun hh=>?_) (fun hh=>?_)<;>(try simp only[hh,Bool.not_true,Bool.not_false,↓M2,M2,Mb,reduceIte])))))
  exact hK _ _ hk5
 refine ld hk2.sat hq2 rfl ?_
 unfold G0 at h
 simp only[J4,List.any_cons] at h
 refine back (SLe.refl _) hk2.sat g5 fun w3 σ3 hk3=>?_
 cases e1:(R4 l c.super).contains c.name with
 | true=>
  rw[e1] at h
  simp only[↓M2,M2,Mb,reduceIte]
  exact h _ _ (hS2.trans hk3)
 | false=>
  rw[e1,Bool.false_or] at h
  simp only[↓M2,M2,Mb,reduceIte]
  refine ld hk3.sat (hq2.up hk3) rfl ?_
  refine F5 (fun n=>(R4 l n).contains c.name) hk3.sat (((g1.up hk1).up hk2).up hk3) (fun x w4 K _ hs4 hx hK=>back ⟨hk3.le⟩ hs4 hx fun w' σ' hk=>hK _ hk.bel) fun w4 hb=>?_
  (try simp only[↓M2,M2,Mb,reduceIte])
  exact h _ _ ((hS2.trans hk3).trans (Stp.of_below hk3.sat hb)))
end Go.Proofs.YtfppjenblllfaaaGreatDoor

namespace Go.Emb
open Go.RowKit Go.Hm
variable {P : Program} {w w0 w1 w' w'' : World} {K : Value → World → Prop} {σ σ0 σ1 σ' : Q5}
theorem Sl.at {α:Type} {R:Q5→α→List Value→Prop} {sz:Nat} {v:Value} {xs:List α} (h:Sl sz R σ v xs) {i:Nat} (c:i<xs.length):
 ∃p cs,Z3 σ p cs∧cs.length=sz∧R σ xs[i] cs∧ ∀{P:Program} {t e:TypeId} {by_:Nat} {z:Value} {w:World} {K:Value→World→Prop} [TS P t e] [TZ P e sz by_ z],K (.pointer (some p)) w→indexAddr P t v (I i) w K:=by
 obtain ⟨a,g,rfl,o,q,f,n⟩:=h
 cases a with
 | none=>have:=f rfl;omega
 | some b=>
  obtain ⟨cs,m,k,d⟩:=(n b rfl).2 i xs[i] (by simp[c])
  refine ⟨_,cs,m,k,d,?_⟩
  intro P t e by_ z w K _ _ j
  rw[Cd (by omega) (by omega)]
  simpa using j
abbrev ints (xs:List Nat):List Int:=xs.map fun n:Nat=>(n:Int)
theorem V7.grow {α:Type} {R:Q5→α→List Value→Prop} [hr:Rep R] {B sz:Nat} {e:TypeId} {v:Value} {xs:List α} (h:V7 B e sz R σ w v xs) (b:SLe σ σ') (a: ∀k,v.ownBlock=some k→σ' k=none):V7 B e sz R σ' w v xs:=by
 obtain ⟨cells,d,g,f⟩:=h
 exact ⟨cells,d,a,fun i x c=>hr.up b.le (f i x c)⟩
end Go.Emb
namespace Go.Proofs.YtfppjenblllfaaaGreatDoor
open Go.Emb Go.RowKit Go.Kd Go.Hm
variable {w : World} {K : Value → World → Prop} {σ : Q5} {v : Value} {l : List Cla}
theorem Q5z {B i:Nat} {xs:List Nat} {x:Value} (o:U6 B T.e 1 Un σ w x (ints xs)) (h:K (.bool (decide (i∈xs))) w):Q0 P F.aC [x,I i] w K:=Oa (by
 unfold Qu
 have g:xs.length≤9223372036854775807:=by
  obtain ⟨a,r,_,m,q,_⟩:=o
  simp only[maxLen,ints,List.length_map] at q m;omega
 refine Dz ?_
 unfold Yt
 refine Bs o ?_
 have j:(ints xs).length=xs.length:=by simp
 refine J1 xs.length (fun n w'=>w'=w∧i∉xs.take n) ⟨rfl,by simp⟩ fun n w' d u f=>?_
 obtain ⟨rfl,f⟩:=f
 rw[j]
 refine Z1 ?_
 refine Q6 (fun hh=>?_) (fun hh=>?_)
 ·have b:n<xs.length:=by simpa using hh
  refine Q49 o (by rw[j];exact b) fun a cs m q s=>?_
  obtain ⟨rfl,_⟩:=s
  have p:=m 0 _ rfl
  rw[add_zero] at p
  refine Qd p ?_
  simp only[List.getElem_map]
  refine Ro ?_
  refine Q6 (fun c=>?_) (fun c=>?_)
  ·have e:(i:Int)=xs[n]:=by simpa using c
   have:i=xs[n]:=by omega
   have k:decide (i∈xs)=true:=decide_eq_true (by rw[this];exact List.getElem_mem b)
   rw[k] at h
   refine Xe ?_
   rw[decide_eq_true (by omega:(0:Int)≤n)]
   exact h
  ·have e: ¬(i:Int)=xs[n]:=by simpa using c
   refine E4 ?_
   refine Y2 g b ⟨rfl,?_⟩
   rw[List.take_add_one,List.getElem?_eq_getElem b]
   simp only[Option.toList_some,List.mem_append,List.mem_singleton,not_or]
   exact ⟨f,fun t=>e (by rw[t])⟩
 ·have b: ¬n<xs.length:=by simpa using hh
  rw[List.take_of_length_le (by omega)] at f
  rw[decide_eq_false f] at h
  refine Xe ?_
  exact h)
theorem X1R {w0:World} {σ0 σb:Q5} {pf pt pw:Addr} {B frm:Nat} (ha:Ye l) (ho:G7 l) (hl:l.length≤100000) (b8: ∀c∈l,T2 c) (hf:0<frm) (ht:Tab σb v l) (aq:Z3 σb pf [I frm]) (bg:Z3 σb pt [v])
 (bw:Z3 σb pw [.func (.func F.w) #[] #[.pointer (some pf), .pointer (some ⟨B,0,none⟩), .pointer (some pt), .pointer (some pw)]]) (b1:w0.heap.size≤B):
 ∀(k:Nat) {i:Nat} {b:List Nat} {x:Value} {w1:World} {σ1:Q5} {K:Value→World→Prop},i<l.length→(i<frm∨F0 l (X9 l i)<k)→SLe σb σ1→Stp w0 σ0 w1 σ1→Z5 σ1 w1 B [x]→V7 w0.heap.size T.e 1 Un σ1 w1 x (ints b)→x.ownBlock≠some B→Tf l b→
  (∀w2 σ2 x',SLe σ1 σ2→Stp w0 σ0 w2 σ2→Z5 σ2 w2 B [x']→V7 w0.heap.size T.e 1 Un σ2 w2 x' (ints (Qi l frm b i))→x'.ownBlock≠some B→K (.tuple #[]) w2)→
  Z2 P (.func (.func F.w) #[] #[.pointer (some pf), .pointer (some ⟨B,0,none⟩), .pointer (some pt), .pointer (some pw)]) [I i] w1 K:=by
 obtain ⟨a,lv,r,m,rfl,t1,t2,t3,t4⟩:=ht.ex
 intro k
 induction k with
 | zero=>
  intro i b x w1 σ1 K hi hk Y Q hm s hx Z h
  have z:i<frm:=hk.resolve_right (by omega)
  refine Y8 (Jr ?_)
  unfold P9
  refine X8 Q.sat (aq.lift Y) rfl ?_
  refine Z1 ?_
  rw[decide_eq_true (by omega:(i:Int)<frm)]
  simp only[↓M2,M2,Mb,reduceIte]
  have:Qi l frm b i=b:=Xa _ _ z
  rw[this] at h
  exact h _ _ _ (SLe.refl _) Q hm s hx
 | succ k ih=>
  intro i b x w1 σ1 K hi hk Y Q hm s hx Z h
  refine Y8 (Jr ?_)
  unfold P9
  refine X8 Q.sat (aq.lift Y) rfl ?_
  refine Z1 ?_
  have A:=Q6s ha ho hf b hi
  by_cases z:i<frm
  ·rw[decide_eq_true (by omega:(i:Int)<frm)]
   simp only[↓M2,M2,Mb,reduceIte]
   rw[if_pos z] at A
   rw[A] at h
   exact h _ _ _ (SLe.refl _) Q hm s hx
  rw[if_neg z] at A
  rw[decide_eq_false (by omega: ¬(i:Int)<frm)]
  simp only[↓M2,M2,Mb,reduceIte]
  refine Q9a hm rfl ?_
  refine Q5z (U6.of_acc s) ?_
  by_cases O:i∈b
  ·rw[if_pos O] at A
   rw[A] at h
   simp only[decide_eq_true O,↓M2,M2,Mb,reduceIte]
   exact h _ _ _ (SLe.refl _) Q hm s hx
  rw[if_neg O] at A
  simp only[decide_eq_false O,↓M2,M2,Mb,reduceIte]
  have dc:F0 l (X9 l i)<k+1:=hk.resolve_left z
  have t1:=t1.lift Y
  have t2:=t2.lift Y
  have t3:=t3.lift Y
  have N:=bg.lift Y
  obtain ⟨p,cs,bb,dj,bp,ay⟩:=t2.at hi
  obtain ⟨b5,fv,mv,rfl,f1,f2,f3,f4,f5⟩:=bp
  have a7:l.getD i Cla.zero=l[i]:=by rw[List.getD_eq_getElem?_getD,List.getElem?_eq_getElem hi];rfl
  have dn:=hm.lt
  refine U8 Q.sat ?_
  refine X2 (.pointer (some a)) (fun w f=>X8 f.sat N rfl (X6 rfl)) ?_
  refine X2 (.pointer (some a)) (fun t w f e=>by rw[e,E9];exact X6 rfl) ?_
  refine X2 (.pointer (some (a.add 0))) (fun t w f e=>by rw[e,fa];exact X6 rfl) ?_
  refine X2 lv (fun t w f e=>by rw[e];exact ld f.sat t1 rfl (X6 rfl)) ?_
  refine X2 (.pointer (some p)) (fun t w f e=>by rw[e];exact ay (X6 rfl)) ?_
  refine X2 (.pointer (some (p.add 1))) (fun t w f e=>by rw[e,fa];exact X6 rfl) ?_
  refine X2 (S l[i].super) (fun t w f e=>by rw[e];exact ld f.sat bb rfl (X6 rfl)) ?_
  refine W6 (fun u w=>X4 w σ1∧V7 w0.heap.size T.b 1 Y1 σ1 w u [l[i].super]∧ ∀k,u.ownBlock=some k→w1.heap.size≤k) (fun u w2 w3 h f=>⟨h.1.below f,h.2.1.up (Stp.of_below h.1 f),h.2.2⟩) (fun t w f e=>?_) ?_
  ·rw[e]
   refine Qc (R:=Y1) (sz:=1) (xs:=[l[i].super]) (Q.trans f.stp) [S l[i].super] rfl rfl (by simp;rfl) rfl ⟨⟨rfl,f5⟩,trivial⟩ fun u w2 a9 hu cb=>?_
   exact ⟨a9.bel,a9.sat,hu,fun k hk=>Nat.le_trans f.stp.bel.size (cb k hk)⟩
  refine X2 (.pointer (some a)) (fun w f=>X8 f.sat N rfl (X6 rfl)) ?_
  refine X2 (.pointer (some a)) (fun t w f e=>by rw[e,E9];exact X6 rfl) ?_
  refine X2 (.pointer (some (a.add 0))) (fun t w f e=>by rw[e,fa];exact X6 rfl) ?_
  refine X2 lv (fun t w f e=>by rw[e];exact ld f.sat t1 rfl (X6 rfl)) ?_
  refine X2 (.pointer (some p)) (fun t w f e=>by rw[e];exact ay (X6 rfl)) ?_
  refine X2 (.pointer (some (p.add 2))) (fun t w f e=>by rw[e,fa];exact X6 rfl) ?_
  refine X2 b5 (fun t w f e=>by rw[e];exact ld f.sat bb rfl (X6 rfl)) ?_
  rintro dg cm de cq cv cl c1 dl c4 c2 co di cx c3 c7 w2 W _ _ _ _ _ _ _ ⟨c0,cd,J⟩ _ _ _ _ _ _ br
  subst br
  have b7:=Q.trans W.stp
  have bx:=(b8 _ (List.getElem_mem hi)).1
  have a2: ∀j,x.ownBlock=some j→j<w1.heap.size:=fun j C=>(s.mem j C).2.1
  have ca:=hm.step W.stp
  have ai:=s.step W.stp
  refine Dg b7 cd f1 rfl (by simp only[List.length_cons,List.length_nil];omega) (by simp only[List.length_cons,List.length_nil];omega) fun ba w3 bc bh b2 a0=>?_
  have ab: ∀j,ba.ownBlock=some j→w1.heap.size≤j:=fun j C=>by
   rcases a0 with e | e
   ·exact J j (e▸C)
   ·exact Nat.le_trans W.stp.bel.size (e j C)
  have ar:=ca.nx bc fun e=>by have:=J _ e;omega
  have H:=ai.nx bc fun j C e=>by have:=J _ e;have:=a2 j C;omega
  obtain ⟨σ4,bn,U,a3,aa⟩:=b2.keep bh
  have U:Sl 1 Y1 σ4 ba (J4 l[i]):=U
  have bj:Z5 σ4 w3 B [x]:=⟨(aa B fun e=>by have:=ab B e.symm;omega).trans ar.1,ar.2⟩
  have ae:V7 w0.heap.size T.e 1 Un σ4 w3 x (ints b):=H.grow ⟨a3⟩ fun j C=>(aa j fun e=>by have:=ab j e.symm;have:=a2 j C;omega).trans (H.mem j C).2.2
  have aw:SLe σ1 σ4:=⟨a3⟩
  refine Q8 U ?_
  refine J1 (J4 l[i]).length (fun n w'=> ∃σ' x',SLe σ4 σ'∧Stp w0 σ0 w' σ'∧Z5 σ' w' B [x']∧V7 w0.heap.size T.e 1 Un σ' w' x' (ints (((J4 l[i]).take n).foldl (fun b u=>Qi l frm b ((Y3 l u).getD 0)) b))∧x'.ownBlock≠some B∧Tf l (((J4 l[i]).take n).foldl (fun b u=>Qi l frm b ((Y3 l u).getD 0)) b))
   ⟨σ4,x,SLe.refl _,bn,bj,ae,hx,Z⟩ fun n w5 d hn ax=>?_
  obtain ⟨σ5,x5,ac,X,V,E,al,o⟩:=ax
  refine Z1 ?_
  have y:=aw.more ac
  refine Q6 (fun hh=>?_) (fun hh=>?_)
  ·have L:n<(J4 l[i]).length:=by simpa using hh
   refine Js (U.lift ac) L fun q hq cu=>?_
   refine X8 X.sat hq rfl ?_
   have e1:((J4 l[i]).take (n+1)).foldl (fun b u=>Qi l frm b ((Y3 l u).getD 0)) b=Qi l frm (((J4 l[i]).take n).foldl (fun b u=>Qi l frm b ((Y3 l u).getD 0)) b) ((Y3 l (J4 l[i])[n]).getD 0):=by
    rw[List.take_add_one,List.getElem?_eq_getElem L,List.foldl_append];rfl
   refine U8 X.sat ?_
   refine X2 _ (fun w f=>X8 f.sat (bw.lift (Y.more y)) rfl (X6 rfl)) ?_
   refine X2 (.pointer (some a)) (fun w f=>X8 f.sat (N.lift y) rfl (X6 rfl)) ?_
   refine X2 (.pointer (some a)) (fun t w f e=>by rw[e,E9];exact X6 rfl) ?_
   refine X2 (.pointer (some (a.add 1))) (fun t w f e=>by rw[e,fa];exact X6 rfl) ?_
   refine X2 (.map (some r)) (fun t w f e=>by rw[e];exact ld f.sat (t1.lift y) rfl (X6 rfl)) ?_
   refine X2 (I ((Y3 l (J4 l[i])[n]).getD 0:Nat)) (fun t w f e=>by
    rw[e,Q2X X7 ((t3.lift y).is f.sat) _,t4]
    cases Y3 l (J4 l[i])[n]<;>exact X6 rfl) ?_
   rintro dd cy da cn db c6 w6 aj rfl _ _ _ _ rfl
   have cw:l.length≤9223372036854775807:=by omega
   refine ih ?_ ?_ (Y.more y) (X.trans aj.stp) (V.step aj.stp) (E.step aj.stp) al o fun w7 σ7 x7 cc bv b0 am bu=>?_
   ·cases C:Y3 l (J4 l[i])[n] with
    | none=>simp only[Option.getD_none];omega
    | some j=>exact (E0 C).1
   ·cases C:Y3 l (J4 l[i])[n] with
    | none=>exact .inl hf
    | some j=>
     right
     have:=Q0p ha ho hi (u:=(J4 l[i])[n]) (by rw[a7];exact List.getElem_mem L) C
     simp only[Option.getD_some];omega
   ·refine E4 ?_
    refine Y2 (by have:(J4 l[i]).length=l[i].like.length+1:=rfl;omega) L ⟨σ7,x7,ac.more cc,bv,b0,?_,bu,?_⟩
    ·rw[e1];exact am
    ·rw[e1]
     cases C:Y3 l (J4 l[i])[n] with
     | none=>simp only[Option.getD_none];rw[show Qi l frm _ 0=_ from Xa _ _ hf];exact o
     | some j=>exact Gh ha ho hf _ _ _ (E0 C).1 o
  ·have L: ¬n<(J4 l[i]).length:=by simpa using hh
   rw[List.take_of_length_le (by omega)] at E o
   rw[a7] at A
   refine Q9a V rfl ?_
   have ci:=o.len
   refine Jy (x:=(i:Int)) X E ⟨rfl,by omega,by omega⟩ rfl rfl rfl (by rw[List.length_map];omega) (by rw[List.length_map];omega) fun u x8 w8 σ8 a1 bm M a5=>?_
   have a8:=V.nx a1 al
   have a4:x8.ownBlock≠some B:=fun e=>by
    rcases a5 with e2 | e2
    ·exact al (e2▸e)
    ·have:=e2 B e;have:=V.lt;omega
   have az:x8.cells= #[x8]∧x8.oneCell'=true:=by
    obtain ⟨cells,h1,_⟩:=M
    rcases h1.2 with ⟨rfl,_⟩ | ⟨g,df,cr,rfl,_⟩<;>exact ⟨rfl,rfl⟩
   refine st0 a8 (by simp) az.1 az.2 fun w9 av b9=>?_
   have bi:=av.stp bm b1 a8.1
   have ad:V7 w0.heap.size T.e 1 Un σ8 w9 x8 (ints (Qi l frm b i)):=by
    rw[A]
    have:=M.kp (Kpt.of_upd (D:=fun k=>k=B) av rfl) fun k hk e=>a4 (e▸hk)
    simpa [ints] using this
   exact h w9 σ8 x8 (y.more a1.le) bi b9 ad a4
theorem X0N {frm:Nat} (hs:X4 w σ) (ht:Tab σ v l) (ha:Ye l) (ho:G7 l) (hl:l.length≤100000) (ah: ∀c∈l,T2 c) (hf:0<frm) (X:frm≤l.length) (h: ∀v' w' σ',Stp w σ w' σ'→Sl 1 Un σ' v' (ints (U9 l frm))→(U9 l frm).length≤l.length→(∀y∈U9 l frm,y<l.length)→K v' w'):Q0 P F.b9 [v,I frm] w K:=Fz (by
 unfold Lj
 have ap:=ht
 obtain ⟨a,lv,r,m,rfl,t1,t2,t3,t4⟩:=ht.ex
 refine J9 hs rfl fun pt w1 σ1 s ac=>?_
 refine J9 s.sat rfl fun pf w2 σ2 n aa=>?_
 refine G1 n.sat fun E w3 σ3 ab k M=>?_
 refine G1 k.sat fun bw w4 σ4 al t N=>?_
 rw[Qp]
 have W:=M.step t
 have a3:=M.lt
 have U:=((s.trans n).trans k).trans t
 have L:w.heap.size≤E:=Zo ab (s.trans n)
 have u:w.heap.size≤bw:=Zo al ((s.trans n).trans k)
 refine st0 N (by simp[Value.cells]) rfl rfl fun w5 V Y=>?_
 have aj:=V.stp U u N.1
 have z:=W.upd V (by omega)
 obtain ⟨H,R,O,j,Q⟩:=Y.keep aj u
 have Z:Z5 H w5 E [.slice none 0 0]:=⟨(Q E (by omega)).trans z.1,z.2⟩
 have j:SLe σ4 H:=⟨j⟩
 have B:=((aa.up k).up t).lift j
 have A:=(((ac.up n).up k).up t).lift j
 have e:SLe σ H:=SLe.more ⟨U.le⟩ j
 have t1:=t1.lift e
 have t2:=t2.lift e
 refine X8 R.sat B rfl ?_
 have bb:(List.range l.length).length=l.length:=List.length_range
 have hz:([Value.nilFunc].set 0 (Value.func (Fn.func F.w) #[] #[.pointer (some pf), .pointer (some ⟨E,0,none⟩), .pointer (some pt), .pointer (some ⟨bw,0,none⟩)]))=[Value.func (Fn.func F.w) #[] #[.pointer (some pf), .pointer (some ⟨E,0,none⟩), .pointer (some pt), .pointer (some ⟨bw,0,none⟩)]]:=rfl
 refine Ri (fun d x w'=> ∃(i:Nat) (σ':Q5) (x':Value),x=I i∧frm≤i∧i≤l.length∧d=l.length-i∧SLe H σ'∧Stp w σ w' σ'∧Z5 σ' w' E [x']∧V7 w.heap.size T.e 1 Un σ' w' x' (ints (((List.range i).drop frm).foldl (fun f i=>Qi l frm f i) []))∧x'.ownBlock≠some E∧Tf l (((List.range i).drop frm).foldl (fun f i=>Qi l frm f i) [])) _
  ⟨frm,H, .slice none 0 0,rfl,Nat.le_refl _,X,rfl,SLe.refl _,R,Z,by rw[List.drop_eq_nil_of_le (by simp)];exact V7.nil,by simp[Value.ownBlock],by rw[List.drop_eq_nil_of_le (by simp)];exact ⟨by simp,by simp⟩⟩ ?_
 rintro ae d x dd w7 ⟨i,σ7,x7,rfl,a9,a6,rfl,g,p,J,o,ar,b⟩ ai
 refine X8 p.sat (A.lift g) rfl ?_
 rw[E9,fa]
 refine ld p.sat (t1.lift g) rfl ?_
 refine Q8 (t2.lift g) ?_
 refine Z1 ?_
 refine Q6 (fun hh=>?_) (fun hh=>?_)
 ·have q:i<l.length:=by simpa using hh
  refine X8 p.sat (O.lift g) rfl ?_
  refine X1R (w0:=w) (σ0:=σ) (σb:=H) ha ho hl ah hf (ap.lift e) B A O L (F0 l (X9 l i)+1) q (.inr (Nat.lt_succ_self _)) g p J o ar b fun w8 σ8 x8 an C am D af=>?_
  refine Cu ⟨by omega,by omega⟩ ?_
  have e1:((List.range (i+1)).drop frm).foldl (fun f i=>Qi l frm f i) []=Qi l frm (((List.range i).drop frm).foldl (fun f i=>Qi l frm f i) []) i:=by
   rw[List.range_succ,List.drop_append_of_le_length (by simp;omega),List.foldl_append];rfl
  refine ai _ _ _ (by omega:l.length-(i+1)<l.length-i) ⟨i+1,σ8,x8,by simp,by omega,by omega,rfl,g.more an,C,am,?_,af,?_⟩
  ·rw[e1];exact D
  ·rw[e1];exact Gh ha ho hf _ _ _ q b
 ·have q:i=l.length:=by
   have: ¬i<l.length:=by simpa using hh
   omega
  subst q
  refine Q9a J rfl ?_
  obtain ⟨σ8,C,aq,_,_⟩:=o.keep p
  exact h _ _ _ C aq b.len b.2)
end Go.Proofs.YtfppjenblllfaaaGreatDoor

namespace Go.Hm
open Go.Kd
theorem Q5N (x:X0) (r:List X0):O3 (x::r)=x++Lib.joinTail [44] r:=by
 induction r generalizing x with
 | nil=>simp[O3,Lib.joinTail]
 | cons y r a=>
  simp only[O3]
  rw[a y]
  simp[Lib.joinTail]
theorem Q10 (xs:List X0):Lib.join xs [44]=O3 xs:=by
 cases xs with
 | nil=>rfl
 | cons x r=>rw[Lib.join_cons,Q5N]
theorem Db: ∀xs:List X0,(∀x∈xs,x.length≤100)→(O3 xs).length≤xs.length*101
 | [],_=>by simp[O3]
 | [a],h=>by have:=h a (by simp);simp[O3];omega
 | a::b::r,h=>by
  have e:=h a (by simp)
  have d:=Db (b::r) fun x c=>h x (by simp[c])
  simp only[O3,List.length_append,List.length_cons,List.length_nil,Nat.add_mul] at*
  omega
def NmM (m:Hm.Met):Prop:=m.result.length≤100∧ ∀p∈m.params,p.length≤100
end Go.Hm
namespace Go.Proofs.YtfppjenblllfaaaGreatDoor
open Go.Emb Go.RowKit Go.Kd Go.Hm
variable {w : World} {K : Value → World → Prop} {σ : Q5} {v : Value} {l : List Cla}
theorem X15 {xs:List X0} {pv:Value} (J:X4 w σ) (D:Sl 1 Y1 σ pv xs) (A:xs.length≤1000000) (N: ∀x∈xs,x.length≤100) (h: ∀w',Below w.heap.size w w'→K (S (O3 xs)) w'):Q0 P F.cL [pv,S [44]] w K:=by
 obtain ⟨a,g,rfl,E,O,C,L⟩:=D
 have q:=Db xs N
 have z:xs.length*101≤1000000*101:=Nat.mul_le_mul_right _ A
 cases a with
 | none=>
  have R:=C rfl
  have d:xs=[]:=List.eq_nil_of_length_eq_zero (by omega)
  subst d
  refine Us (fn:=Tryz.f165) Tryz.func165 (by kernel_rfl) (by kernel_rfl) (Calls.mono (Tryz.strings_Join_none none g ⟨[44].toArray⟩ w) ?_)
  rintro e w' ⟨rfl,rfl⟩
  exact h _ (Below.refl _ _)
 | some b=>
  obtain ⟨f,p⟩:=L b rfl
  by_cases d:xs=[]
  ·subst d
   refine Us (fn:=Tryz.f165) Tryz.func165 (by kernel_rfl) (by kernel_rfl) (Calls.mono (Tryz.strings_Join_none (some b) g ⟨[44].toArray⟩ w) ?_)
   rintro e w' ⟨rfl,rfl⟩
   exact h _ (Below.refl _ _)
  have f:=f (List.length_pos_iff.2 d)
  obtain ⟨m,o,U⟩:=b
  simp only at f
  subst f
  have c: ∀(j:Nat) (x:ByteArray),(xs.map fun s=>(⟨s.toArray⟩:ByteArray))[j]? =some x→w.cell? ⟨m,o+j,none⟩=some (.string x):=by
   intro j x n
   rw[List.getElem?_map] at n
   cases k:xs[j]? with
   | none=>rw[k] at n;cases n
   | some s=>
    rw[k] at n
    cases n
    obtain ⟨cs,H,Q,B⟩:=p j s k
    obtain ⟨rfl,_⟩:=B
    have:=H.cell J (i:=0) (v:=S s) rfl
    rw[add_zero] at this
    have e:(⟨m,o,none⟩:Addr).add (j*1)=⟨m,o+j,none⟩:=by unfold Addr.add;split<;>simp_all
    rw[e] at this;exact this
  have t:m<w.heap.size:=by
   obtain ⟨x,r,rfl⟩: ∃x r,xs=x::r:=by cases xs with | nil=>exact absurd rfl d | cons x r=>exact ⟨x,r,rfl⟩
   have:=c 0 ⟨x.toArray⟩ (by simp)
   exact World.block_lt_of_cell? _ _ this
  have u:(xs.map fun s=>(⟨s.toArray⟩:ByteArray)).map (·.data.toList)=xs:=by rw[List.map_map];simp[Function.comp_def]
  have y:=Tryz.strings_Join m o g (xs.map fun s=>(⟨s.toArray⟩:ByteArray)) ⟨[44].toArray⟩ w c t (by rw[List.length_map];omega) (by rw[List.length_map];exact E) (by rw[u];show (Lib.join xs [44]).length≤_;rw[Q10];omega)
  rw[u,List.length_map] at y
  refine Us (fn:=Tryz.f165) Tryz.func165 (by kernel_rfl) (by kernel_rfl) (Calls.mono y ?_)
  rintro e w' ⟨rfl,M⟩
  have:=h w' M
  rw[←Q10] at this
  exact this
theorem Q8C {m:Hm.Met} {cs:List Value} (q:X4 w σ) (n:M6 σ m cs) (d:SmM m) (i:NmM m) (h: ∀w' r,Stp w σ w' r→K (S (P7 m)) w'):Q0 P F.bT [.agg cs.toArray] w K:=Q4N (by
 obtain ⟨pv,C,D,rfl,p,J,u,y,O,H⟩:=n
 unfold Tk
 refine Y7 q fun a w1 σ1 c j=>?_
 have o:=Db m.params i.2
 have k:m.params.length*101≤1000000*101:=Nat.mul_le_mul_right _ d.1
 refine U8 c.sat ?_
 refine X2 (.pointer (some (a.add 1))) (fun w b=>by rw[fa];exact X6 rfl) ?_
 refine X2 (.pointer (some (a.add 2))) (fun w b=>by rw[fa];exact X6 rfl) ?_
 refine X2 pv (fun t w b e=>by rw[e];exact ld b.sat j rfl (X6 rfl)) ?_
 refine X2 (S (O3 m.params)) (fun t w b e=>by rw[e];exact X15 b.sat (p.up c) d.1 i.2 fun w' f=>Q1W f rfl) ?_
 refine X2 (S ([40]++O3 m.params)) (fun t w b e=>by rw[e];exact Rl (by simp only[List.length_cons,List.length_nil];omega) (X6 rfl)) ?_
 refine X2 (S ([40]++O3 m.params++[41])) (fun t w b e=>by rw[e];exact Rl (by simp only[List.length_append,List.length_cons,List.length_nil];omega) (X6 rfl)) ?_
 refine X2 (S m.result) (fun t w b e=>by rw[e];exact ld b.sat j rfl (X6 rfl)) ?_
 rintro E B A s N M L z g _ _ _ _ _ rfl rfl
 have:=i.1
 refine Rl (by simp only[List.length_append,List.length_cons,List.length_nil];omega) ?_
 exact h _ _ (c.trans g.stp))
end Go.Proofs.YtfppjenblllfaaaGreatDoor

namespace Go.Emb
open Go.RowKit Go.Hm
variable {P : Program} {w w0 w1 w' w'' : World} {K : Value → World → Prop} {σ σ0 σ1 σ' : Q5}
theorem Bv {α:Type} (f:α→α) (e:α): ∀l:List α,(l++[e]).modify l.length f=l++[f e]
 | []=>rfl
 | x::r=>by simp[Bv f e r]
theorem Q02 (k:List UInt8) (e:MapEntry) (a:e.key=S k): ∀(es:List MapEntry) (i:Nat),Instr.findNow .string (S k) es i=some none→Instr.findNow .string (S k) (es++[e]) i=some (some (i+es.length,e.val))
 | [],i,_=>by
  simp[Instr.findNow,a,Instr.sameNow,Rr]
 | x::r,i,h=>by
  simp only[Instr.findNow,List.cons_append] at h⊢
  split at h
  ·cases h
  ·rename_i b
   rw[Q02 k e a r (i+1) h]
   simp;omega
  ·cases h
theorem Q0L (k:List UInt8) (u:Value): ∀(es:List MapEntry) (i j:Nat) (v:Value),Instr.findNow .string (S k) es i=some (some (j,v))→i≤j∧j-i<es.length∧Instr.findNow .string (S k) (es.modify (j-i) fun e=>{e with val:=u}) i=some (some (j,u))
 | [],i,j,v,h=>by simp[Instr.findNow] at h
 | x::r,i,j,v,h=>by
  simp only[Instr.findNow] at h
  split at h
  ·rename_i a
   cases h
   refine ⟨Nat.le_refl _,by simp,?_⟩
   simp only[Nat.sub_self,List.modify_zero_cons,Instr.findNow,a]
  ·rename_i a
   obtain ⟨d,c,b⟩:=Q0L k u r (i+1) j v h
   refine ⟨by omega,by simp;omega,?_⟩
   rw[show j-i=(j-(i+1))+1 by omega]
   simp only[List.modify_succ_cons,Instr.findNow,a]
   exact b
  ·cases h
theorem Jp {t m s:TypeId} [tm:TM P t m s] (n:P.underlying m=some .string) {r:Nat} {es:Array MapEntry} {a:Nat} {k:List UInt8} {i:Nat} {v:Value} {e:MapEntry} (o:w.heap[r]? =some (.map es a))
 (p:Instr.findNow .string (S k) es.toList 0=some (some (i,v))) (l:es[i]? =some e) (c:e.key=S k):
 (Instr.mapEntry t (.map (some r)) (S k)).run P w= .ok (.tuple #[v,goInt e.born]) {w with heap:=w.heap.setIfInBounds r (.map es a)}:=by
 have q:(getObj r).run P w= .ok (.map es a) w:=by simp[getObj,Sem.run,o]
 have b:(Instr.keyThatStays (S k) (S k)).run P w= .ok (S k) w:=by
  simp[Instr.keyThatStays,Instr.sameBits,Rr]
 have d:(es.modify i fun e=>{e with key:=S k})=es:=by
  apply Array.ext'
  apply List.ext_getElem?
  intro j
  simp only[Array.toList_modify,List.getElem?_modify]
  by_cases g:i=j
  ·subst g
   rw[Array.getElem?_toList,l]
   simp[←c]
  ·cases es.toList[j]? <;>simp[g]
 have f:(setObj r (.map es a)).run P w= .ok () {w with heap:=w.heap.setIfInBounds r (.map es a)}:=by
  simp[setObj,Sem.run,o]
 simp only[Instr.mapEntry,Sem.run_bind,run_underlying tm.h,Result.andThen_ok,Instr.findKey,run_underlying n,p,B0 n,q,Sem.run_pure]
 simp only[l,Option.map_some,Option.getD_some,c,b,Result.andThen_ok,d,f]
theorem Q1k {r:Nat} {o:Obj} (h:w.heap[r]? =some o):({w with heap:=w.heap.setIfInBounds r o}:World)=w:=by
 have:w.heap.setIfInBounds r o=w.heap:=by
  apply Array.ext'
  apply List.ext_getElem?
  intro j
  simp only[Array.toList_setIfInBounds,List.getElem?_set]
  by_cases a:r=j
  ·subst a
   rw[if_pos rfl]
   have:=h
   rw[←Array.getElem?_toList] at this
   rw[this,if_pos (by have:=(Array.getElem?_eq_some_iff.1 h).1;simpa using this)]
  ·rw[if_neg a]
 rw[this]
theorem Q2y {r:Nat} {o a:Obj} (h:w.heap[r]? =some a):Upd w r {w with heap:=w.heap.setIfInBounds r o}∧({w with heap:=w.heap.setIfInBounds r o}:World).heap[r]? =some o:=by
 have b:=(Array.getElem?_eq_some_iff.1 h).1
 exact ⟨⟨rfl,rfl,rfl,by simp,fun k c=>by simp only[Array.getElem?_setIfInBounds];rw[if_neg (by omega)]⟩,by simp[Array.getElem?_setIfInBounds,b]⟩
structure Ent3 (P : Program) (t : TypeId) (r : Nat) (k : List UInt8) (u : Value) (m : List (List UInt8 × Value)) (O0 O1 O2 : Obj) (stamp : Nat) : Prop where
  same : O0 = O2 → O1 = O0
  put : N5 (some O2) (Xd m k u)
  entry : ∀ {w : World} {K : Value → World → Prop}, (w.heap[r]? = some O0 ∨ w.heap[r]? = some O1 ∨ w.heap[r]? = some O2) → (∀ x w', Upd w r w' → (w.heap[r]? = some O0 → w'.heap[r]? = some O1) → (w.heap[r]? ≠ some O0 → w'.heap[r]? = w.heap[r]?) → K (.tuple #[x, I stamp]) w') → mapEntry P t (.map (some r)) (S k) w K
  store : ∀ {w : World} {K : Value → World → Prop}, (w.heap[r]? = some O1 ∨ w.heap[r]? = some O2) → (∀ w', Upd w r w' → w'.heap[r]? = some O2 → K undef w') → entryStore P t (.map (some r)) (I stamp) u w K
theorem X2I {t kt et:TypeId} {by_:Nat} {z:Value} [tm:TM P t kt et] [tz:TZ P et 1 by_ z] (N:P.underlying kt=some .string) {r:Nat} {m:List (List UInt8×Value)} (hm:N5 (w.heap[r]?) m) (k:List UInt8) (u:Value):
 ∃Q O1 O2 s,w.heap[r]? =some Q∧Ent3 P t r k u m Q O1 O2 s:=by
 obtain ⟨es,g,h1,h2,Z,X⟩:=hm
 obtain ⟨r',Y,q2,q3,q4⟩:=Rc k es.toList m 0 h2
 -- the array behind it, the place, the stamp
 have V: ∀(f:Array MapEntry) (d i:Nat) (q:MapEntry) (v1:Value),Instr.findNow .string (S k) f.toList 0=some (some (i,v1))→f[i]? =some q→q.key=S k→(f.toList.map (·.born)).Pairwise (· < ·)→
  (Obj.map es g= .map (f.modify i fun e=>{e with val:=u}) d→Obj.map f d=Obj.map es g)→N5 (some (.map (f.modify i fun e=>{e with val:=u}) d)) (Xd m k u)→
  (∀{w:World},w.heap[r]? =some (.map es g)→ ∃x,(Instr.mapEntry t (.map (some r)) (S k)).run P w= .ok (.tuple #[x,I q.born]) {w with heap:=w.heap.setIfInBounds r (.map f d)})→
  ∃Q O1 O2 s,w.heap[r]? =some Q∧Ent3 P t r k u m Q O1 O2 s:=by
  intro f d i q v1 f1 f2 f3 f4 f5 f6 f7
  obtain ⟨_,E,f8⟩:=Q0L k u f.toList 0 i v1 f1
  simp only[Nat.sub_zero] at E f8
  have ay:i<f.size:=by simpa using E
  have f9:(f.modify i fun e=>{e with val:=u})[i]? =some {q with val:=u}:=by
   rw[Array.getElem?_modify,if_pos rfl,f2];rfl
  have ad:Instr.findNow .string (S k) (f.modify i fun e=>{e with val:=u}).toList 0=some (some (i,u)):=by
   rw[Array.toList_modify];exact f8
  have L: ∀(l:Array MapEntry),l.toList.map (·.born)=f.toList.map (·.born)→l.findIdx? (fun e=>(e.born:Int)==q.born)=some i:=by
   intro l C
   obtain ⟨le⟩:=l
   have e0:(Array.mk le).findIdx? (fun e=>(e.born:Int)==q.born)=le.findIdx? (fun e=>(e.born:Int)==q.born):=List.findIdx?_toArray ..
   rw[e0,List.findIdx?_eq_some_iff_getElem]
   generalize O:(Array.mk le)=l at*
   have al:le=l.toList:=by rw[←O]
   subst al
   have a4:l.toList.length=f.toList.length:=by have:=congrArg List.length C;simpa using this
   have W: ∀j (hj:j<l.toList.length),(l.toList[j]).born=(f.toList[j]'(by omega)).born:=fun j hj=>by
    have h5:(l.toList.map (·.born))[j]? =(f.toList.map (·.born))[j]? :=by rw[C]
    rw[List.getElem?_map,List.getElem?_map,List.getElem?_eq_getElem hj,List.getElem?_eq_getElem (by omega)] at h5
    simpa using h5
   have U:f.toList[i]=q:=by
    have:=f2
    rw[←Array.getElem?_toList,List.getElem?_eq_getElem E] at this
    simpa using this
   refine ⟨by omega,by rw[W i (by omega),U];simp,fun j hj=>?_⟩
   have am:j<f.toList.length:=by omega
   have:=(List.pairwise_iff_getElem.1 f4) j i (by simpa using am) (by simpa using E) hj
   simp only[List.getElem_map] at this
   rw[W j (by omega)]
   rw[U] at this
   simp only[beq_iff_eq];omega
  have H:(f.modify i fun e=>{e with val:=u}).toList.map (·.born)=f.toList.map (·.born):=by
   apply List.ext_getElem?
   intro j
   simp only[Array.toList_modify,List.getElem?_map,List.getElem?_modify]
   by_cases J:i=j<;>cases f.toList[j]? <;>simp[J]
  have aq:(f.modify i fun e=>{e with val:=u}).modify i (fun e=>{e with val:=u})=f.modify i fun e=>{e with val:=u}:=by
   apply Array.ext'
   apply List.ext_getElem?
   intro j
   simp only[Array.toList_modify,List.getElem?_modify]
   by_cases J:i=j<;>cases f.toList[j]? <;>simp[J]
  have A: ∀(l:Array MapEntry) {w:World},l.toList.map (·.born)=f.toList.map (·.born)→w.heap[r]? =some (.map l d)→(Instr.entryStore t (.map (some r)) (I q.born) u).run P w= .ok () {w with heap:=w.heap.setIfInBounds r (.map (l.modify i fun e=>{e with val:=u}) d)}:=by
   intro l w C hw
   have hg:(getObj r).run P w= .ok (.map l d) w:=by simp[getObj,Sem.run,hw]
   have D: ∀o,(setObj r (.map o d)).run P w= .ok () {w with heap:=w.heap.setIfInBounds r (.map o d)}:=by
    intro o;simp[setObj,Sem.run,hw]
   simp only[Instr.entryStore,Sem.run_bind,hg,Result.andThen_ok,asInt,Sem.run_pure,asIntOf,L l C,D]
  refine ⟨.map es g, .map f d, .map (f.modify i fun e=>{e with val:=u}) d,q.born,h1,f5,f6,?_,?_⟩
  ·intro w K hw M
   unfold mapEntry
   rcases hw with hw | hw | hw
   ·obtain ⟨x,hx⟩:=f7 hw
    rw[Y0 hx]
    obtain ⟨u1,u2⟩:=Q2y (o:= .map f d) hw
    exact M x _ u1 (fun _=>u2) fun h=>absurd hw h
   ·have:=Jp (P:=P) (t:=t) N hw f1 f2 f3
    rw[Q1k hw] at this
    rw[Y0 this]
    refine M _ w ⟨rfl,rfl,rfl,rfl,fun _ _=>rfl⟩ (fun h0=>?_) fun _=>rfl
    exact hw
   ·have:=Jp (P:=P) (t:=t) N hw ad f9 f3
    rw[Q1k hw] at this
    rw[Y0 this]
    refine M _ w ⟨rfl,rfl,rfl,rfl,fun _ _=>rfl⟩ (fun h0=>?_) fun _=>rfl
    rw[h0] at hw
    cases hw
    rw[h0,f5 rfl]
  ·intro w K hw M
   unfold entryStore
   rcases hw with hw | hw
   ·rw[Na (A f rfl hw)]
    obtain ⟨u1,u2⟩:=Q2y (o:= .map (f.modify i fun e=>{e with val:=u}) d) hw
    exact M _ u1 u2
   ·have:=A _ H hw
    rw[aq,Q1k hw] at this
    rw[Na this]
    exact M _ ⟨rfl,rfl,rfl,rfl,fun _ _=>rfl⟩ hw
 cases r' with
 | none=>
  obtain ⟨i,hi,bg,ba,ag⟩:=tz.info
  have hz: ∀w:World,(zeroValue et).run P w= .ok z w:=fun w=>Xu tz w
  refine V (es.push {key:=S k,val:=z,born:=g}) (g+1) es.size {key:=S k,val:=z,born:=g} z ?_ (by simp) rfl ?_ ?_ ?_ ?_
  ·have:=Q02 k {key:=S k,val:=z,born:=g} rfl es.toList 0 Y
   simpa using this
  ·simp only[Array.toList_push,List.map_append,List.map_cons,List.map_nil]
   rw[List.pairwise_append]
   refine ⟨Z,by simp,?_⟩
   intro a ha b C
   simp at C;subst C
   obtain ⟨e,he,rfl⟩:=List.mem_map.1 ha
   exact X e he
  ·intro e
   injection e with q e2
   omega
  ·refine ⟨_,_,rfl,?_,?_,?_⟩
   ·rw[q4 rfl]
    simp only[Array.toList_modify,Array.toList_push]
    rw[←Array.length_toList,Bv]
    simp[h2]
   ·have:((es.push {key:=S k,val:=z,born:=g}).modify es.size fun e=>{e with val:=u}).toList.map (·.born)=es.toList.map (·.born)++[g]:=by
     simp only[Array.toList_modify,Array.toList_push]
     rw[←Array.length_toList,Bv]
     simp
    rw[this,List.pairwise_append]
    refine ⟨Z,by simp,?_⟩
    intro a ha b C
    simp at C;subst C
    obtain ⟨e,he,rfl⟩:=List.mem_map.1 ha
    exact X e he
   ·intro e he
    simp only[Array.toList_modify,Array.toList_push] at he
    rw[←Array.length_toList,Bv] at he
    rcases List.mem_append.1 he with he | he
    ·have:=X e he;omega
    ·simp at he;subst he;simp
  ·intro w hw
   have hg:(getObj r).run P w= .ok (.map es g) w:=by simp[getObj,Sem.run,hw]
   have D: ∀o c,(setObj r (.map o c)).run P w= .ok () {w with heap:=w.heap.setIfInBounds r (.map o c)}:=by
    intro o c;simp[setObj,Sem.run,hw]
   refine ⟨z,?_⟩
   simp only[Instr.mapEntry,Sem.run_bind,run_underlying tm.h,Result.andThen_ok,Instr.findKey,run_underlying N,Y,B0 N,hg,Sem.run_pure,hz,D]
   rfl
 | some p=>
  obtain ⟨j,v⟩:=p
  obtain ⟨z1,z2,z3⟩:=q3 j v rfl
  obtain ⟨e,q,e2⟩:=z2
  simp only[Nat.sub_zero] at q z3
  have R:es[j]? =some e:=by rw[←Array.getElem?_toList];exact q
  refine V es g j e v Y R e2 Z (fun _=>rfl) ?_ fun hw=>⟨v,Jp N hw Y R e2⟩
  refine ⟨_,_,rfl,?_,?_,?_⟩
  ·have:=z3 u
   rw[←this,Array.toList_modify]
   congr 1
   apply List.ext_getElem?
   intro n
   simp only[List.getElem?_modify]
   by_cases B:j=n
   ·subst B;rw[q];simp[e2]
   ·simp[B]
  ·have:(es.modify j fun e=>{e with val:=u}).toList.map (·.born)=es.toList.map (·.born):=by
    apply List.ext_getElem?
    intro n
    simp only[Array.toList_modify,List.getElem?_map,List.getElem?_modify]
    by_cases B:j=n<;>cases es.toList[n]? <;>simp[B]
   rw[this];exact Z
  ·intro x hx
   have:x.born∈(es.modify j fun e=>{e with val:=u}).toList.map (·.born):=List.mem_map.2 ⟨x,hx,rfl⟩
   have C:(es.modify j fun e=>{e with val:=u}).toList.map (·.born)=es.toList.map (·.born):=by
    apply List.ext_getElem?
    intro n
    simp only[Array.toList_modify,List.getElem?_map,List.getElem?_modify]
    by_cases B:j=n<;>cases es.toList[n]? <;>simp[B]
   rw[C] at this
   obtain ⟨y,hy,e⟩:=List.mem_map.1 this
   rw[←e];exact X y hy
end Go.Emb

namespace Go.Hm
open Go.Kd Go.Emb
abbrev H8:=List (X0×X0)
def H3:H8→X0→Option X0
 | [],_=>none
 | p::r,k=>if p.1=k then some p.2 else H3 r k
def Er:H8→X0→X0→H8
 | [],k,v=>[(k,v)]
 | p::r,k,v=>if p.1=k then (k,v)::r else p::Er r k v
def F7 (m:H8):List (List UInt8×Value):=m.map fun p=>(p.1,S p.2)
theorem Q88 (m:H8) (k:X0):M3 (F7 m) k=(H3 m k).map S:=by
 induction m with
 | nil=>rfl
 | cons p r a=>
  simp only[F7,List.map_cons,M3,H3]
  split
  ·rfl
  ·exact a
theorem Q4y (m:H8) (k v:X0):Xd (F7 m) k (S v)=F7 (Er m k v):=by
 induction m with
 | nil=>rfl
 | cons p r a=>
  simp only[F7,List.map_cons,Xd,Er]
  split
  ·rfl
  ·rw[List.map_cons];congr 1
theorem Pq (m:H8) (k v n:X0):H3 (Er m k v) n=if k=n then some v else H3 m n:=by
 induction m with
 | nil=>simp[Er,H3]
 | cons p r b=>
  simp only[Er]
  by_cases h:p.1=k
  ·rw[if_pos h]
   simp only[H3]
   by_cases a:k=n
   ·simp[a]
   ·rw[if_neg a,if_neg a,if_neg (by rw[h];exact a)]
  ·rw[if_neg h]
   simp only[H3]
   by_cases a:p.1=n
   ·rw[if_pos a,if_pos a,if_neg (by intro e;exact h (a.trans e.symm))]
   ·rw[if_neg a,if_neg a];exact b
def Jo (d:X0) (s:H8×H8) (m:Hm.Met):Bool×(H8×H8):=
 ((match H3 s.1 m.name with | some x=> !decide (x=P7 m) | none=>false),(Er s.1 m.name (P7 m),Er s.2 m.name d))
end Go.Hm
namespace Go.Emb
open Go.RowKit Go.Hm
theorem N5.of_below {w w':World} {r:Nat} {m:List (List UInt8×Value)} (h:N5 (w.heap[r]?) m) (d:Below w.heap.size w w'):N5 (w'.heap[r]?) m:=by
 obtain ⟨es,a,b,c⟩:=h
 rw[d.block r (Array.getElem?_eq_some_iff.1 b).1]
 exact ⟨es,a,b,c⟩
theorem Q4c {P:Program} {w:World} {K:Value→World→Prop} {t b a:TypeId} {sz by_:Nat} {z:Value} [tm:TM P t b a] [tz:TZ P a sz by_ z] (d:P.underlying b=some .string) {r:Nat} {m:List (List UInt8×Value)} (c:N5 (w.heap[r]?) m) (k:List UInt8)
 (h:K (.tuple #[(M3 m k).getD z, .bool (M3 m k).isSome]) w):lookup P t (.map (some r)) (S k) true w K:=by
 rw[Q1m d c k];cases e:M3 m k<;>rw[e] at h<;>exact h
theorem N5.lt {w:World} {r:Nat} {m:List (List UInt8×Value)} (h:N5 (w.heap[r]?) m):r<w.heap.size:=by
 obtain ⟨es,a,b,c⟩:=h
 exact (Array.getElem?_eq_some_iff.1 b).1
end Go.Emb
namespace Go.Proofs.YtfppjenblllfaaaGreatDoor
open Go.Emb Go.RowKit Go.Kd Go.Hm
variable {w : World} {K : Value → World → Prop} {σ : Q5} {v : Value} {l : List Cla}
theorem X2m {m:Hm.Met} {cs ds:List Value} {pa pb q:Addr} {b o:Nat} {s:H8×H8} {d:X0} (hs:X4 w σ) (hm:M6 σ m cs) (W:SmM m) (hn:NmM m) (Z:Z3 σ pa [.map (some b)]) (ar:Z3 σ pb [.map (some o)]) (hq:Z3 σ q (S d::ds))
 (ap:σ b=none) (ay:σ o=none) (V:b≠o) (p:N5 (w.heap[b]?) (F7 s.1)) (y:N5 (w.heap[o]?) (F7 s.2))
 (h: ∀w',Kpt (fun k=>k=b∨k=o) w w'→N5 (w'.heap[b]?) (F7 (Jo d s m).2.1)→N5 (w'.heap[o]?) (F7 (Jo d s m).2.2)→K (.bool (Jo d s m).1) w'):
 Q0 P F.aD [.agg cs.toArray, .pointer (some pa), .pointer (some q), .pointer (some pb)] w K:=Om (by
 have ab:=hm
 obtain ⟨pv,cv,hv,rfl,g1,g2,g3,g4,g5,g6⟩:=hm
 unfold Xp
 refine Y7 hs fun a w1 σ1 f R=>?_
 have ai:=p.lt
 have ao:=y.lt
 have p:=p.of_below f.bel
 have y:=y.of_below f.bel
 have ac:σ1 b=none:=(f.old b ai).trans ap
 have J:σ1 o=none:=(f.old o ao).trans ay
 refine X8 f.sat (Z.up f) rfl ?_
 rw[fa]
 refine ld f.sat R rfl ?_
 refine Q4c X7 p m.name ?_
 have an:(.tuple #[(M3 (F7 s.1) m.name).getD (.string ⟨#[]⟩), .bool (M3 (F7 s.1) m.name).isSome]:Value)= .tuple #[S ((H3 s.1 m.name).getD []), .bool (H3 s.1 m.name).isSome]:=by
  rw[Q88];cases H3 s.1 m.name<;>rfl
 rw[an]
 refine U7 (vs:=[_,_]) rfl ?_
 refine U7 (vs:=[_,_]) rfl ?_
 obtain ⟨N,L,z,A,al,E⟩:=X2I (P:=P) (t:=T.q) X7 p m.name (S (P7 m))
 have U:=p.lt
 refine Q0c (fun c i=>Kpt (fun k=>k=b) c i∧(i.heap[b]? =c.heap[b]? ∨(c.heap[b]? =some N∧N≠z∧i.heap[b]? =some L)∨i.heap[b]? =some z))
  (fun c=>Kpt (fun k=>k=b) w1 c∧X4 c σ1∧(c.heap[b]? =some N∨c.heap[b]? =some L∨c.heap[b]? =some z))
  ⟨.of_below (Below.refl _ _).drew,f.sat.below (Below.refl _ _).drew, .inl al⟩ (fun c i g B=>⟨g.1.trans B.1,B.1.sat g.2.1 (fun k hk=>hk▸ac),by
   rcases B.2 with e | ⟨_,_,e⟩ | e
   ·rw[e];exact g.2.2
   ·exact .inr (.inl e)
   ·exact .inr (.inr e)⟩) ?_
 refine X2 (.pointer (some (a.add 0))) (fun w g=>by rw[fa];exact ⟨⟨Kpt.refl, .inl rfl⟩,rfl⟩) ?_
 refine X2 (.pointer (some (a.add 0))) (fun w g=>by rw[fa];exact ⟨⟨Kpt.refl, .inl rfl⟩,rfl⟩) ?_
 refine X2 (.pointer (some (q.add 0))) (fun w g=>by rw[fa];exact ⟨⟨Kpt.refl, .inl rfl⟩,rfl⟩) ?_
 refine X2 (.map (some b)) (fun w g=>X8 g.2.1 (Z.up f) rfl ⟨⟨Kpt.refl, .inl rfl⟩,rfl⟩) ?_
 refine X2 (S m.name) (fun t w g e=>by rw[e];exact ld g.2.1 R rfl ⟨⟨Kpt.refl, .inl rfl⟩,rfl⟩) ?_
 refine X2 (.map (some o)) (fun w g=>X8 g.2.1 (ar.up f) rfl ⟨⟨Kpt.refl, .inl rfl⟩,rfl⟩) ?_
 refine X2 (S m.name) (fun t w g e=>by rw[e];exact ld g.2.1 R rfl ⟨⟨Kpt.refl, .inl rfl⟩,rfl⟩) ?_
 refine X2 (.agg [S m.name,pv,S m.result, .bool m.abs,I m.locals,cv,hv].toArray) (fun w g=>Y9 g.2.1 R rfl ⟨⟨Kpt.refl, .inl rfl⟩,rfl⟩) ?_
 refine X2 (S (P7 m)) (fun t c g e=>by
  rw[e]
  exact Q8C g.2.1 (RMe_lift ab ⟨f.le⟩) W hn fun i σ3 r=>⟨⟨.of_below r.bel, .inl (r.bel.block b (Nat.lt_of_lt_of_le U g.1.size))⟩,rfl⟩) ?_
 refine X2 (S d) (fun t w g e=>by rw[e];exact ld g.2.1 (hq.up f) rfl ⟨⟨Kpt.refl, .inl rfl⟩,rfl⟩) ?_
 have st: ∀{c i:World},(c.heap[b]? =some L∨c.heap[b]? =some z)→(i.heap[b]? =c.heap[b]? ∨(c.heap[b]? =some N∧N≠z∧i.heap[b]? =some L)∨i.heap[b]? =some z)→(i.heap[b]? =some L∨i.heap[b]? =some z):=by
  intro c i j h2
  rcases h2 with e | ⟨_,_,e⟩ | e
  ·rw[e];exact j
  ·exact .inl e
  ·exact .inr e
 refine W6 (fun u c=>(∃x,u= .tuple #[x,I A])∧(c.heap[b]? =some L∨c.heap[b]? =some z)) (fun u c i j B=>⟨j.1,st j.2 B.2⟩) (fun Y am c g e1 e2=>?_) ?_
 ·rw[e1,e2]
  refine E.entry g.2.2 fun x i n ax aq=>?_
  by_cases h0:c.heap[b]? =some N
  ·have j:=ax h0
   refine ⟨⟨Kpt.of_upd n rfl,?_⟩,⟨x,rfl⟩, .inl j⟩
   by_cases C:N=z
   ·left;rw[j,h0,E.same C]
   ·exact .inr (.inl ⟨h0,C,j⟩)
  ·have j:=aq h0
   refine ⟨⟨Kpt.of_upd n rfl, .inl j⟩,⟨x,rfl⟩,?_⟩
   rw[j];exact g.2.2.resolve_left h0
 refine W6 (fun u c=>u=I A∧(c.heap[b]? =some L∨c.heap[b]? =some z)) (fun u c i j B=>⟨j.1,st j.2 B.2⟩) (fun t c g e=>?_) ?_
 ·obtain ⟨⟨x,rfl⟩,j⟩:=e
  exact U7 (vs:=[_,_]) rfl ⟨⟨Kpt.refl, .inl rfl⟩,rfl,j⟩
 refine W6 (fun _ c=>c.heap[b]? =some z) (fun u c i j B=>?_) (fun Y ae ah c g e1 e2 e3=>?_) ?_
 ·rcases B.2 with e | ⟨e,C,_⟩ | e
  ·exact e.trans j
  ·rw[j] at e;cases e;exact absurd rfl C
  ·exact e
 ·rw[e1,e3,e2.1]
  refine E.store e2.2 fun i n h3=>⟨⟨Kpt.of_upd n rfl, .inr (.inr h3)⟩,h3⟩
 rintro bf bc bk Y am bd bb bg ah bj a5 ae ba c M _ _ _ _ _ rfl rfl _ _ rfl _ _ aw
 have av:N5 (c.heap[b]?) (F7 (Er s.1 m.name (P7 m))):=by
  rw[aw,←Q4y];exact E.put
 have ag:N5 (c.heap[o]?) (F7 s.2):=by
  rw[M.1.block o y.lt fun e=>V e.symm];exact y
 refine Df X7 ⟨J,ag⟩ m.name (S d) fun i n aj=>?_
 have Q:N5 (i.heap[o]?) (F7 (Er s.2 m.name d)):=by rw[←Q4y];exact aj.2
 have H:N5 (i.heap[b]?) (F7 (Er s.1 m.name (P7 m))):=by rw[n.block b V];exact av
 have r:Kpt (fun k=>k=b∨k=o) w i:=((Kpt.of_below f.bel).trans (M.1.mono fun k _ h=> .inl h)).trans (Kpt.of_upd n (.inr rfl))
 have X:X4 i σ1:=(Kpt.of_upd (D:=fun k=>k=o) n rfl).sat M.2.1 fun k hk=>hk▸J
 unfold Jo at h
 cases ho:H3 s.1 m.name with
 | none=>
  rw[ho] at h
  simp only[Option.isSome_none,↓M2,M2,Mb,reduceIte]
  exact h i r H Q
 | some x=>
  rw[ho] at h
  simp only[Option.isSome_some,Option.getD_some,↓M2,M2,Mb,reduceIte]
  refine Y9 X R rfl ?_
  refine Q8C X (RMe_lift ab ⟨f.le⟩) W hn fun w4 σ4 O=>?_
  simp only[↓M2,M2,Mb,reduceIte]
  exact h w4 (r.trans (Kpt.of_below O.bel)) (H.of_below O.bel) (Q.of_below O.bel))
end Go.Proofs.YtfppjenblllfaaaGreatDoor

namespace Go.Hm
open Go.Kd Go.Emb
def Hj (s:H8×H8) (c:Cla):Bool×(H8×H8):=((J3 (Jo c.name) s c.methods 0).1.isSome,(J3 (Jo c.name) s c.methods 0).2)
def Oz (a:List Hm.Met):Prop:= ∃x∈a,∃y∈a,x.name=y.name∧P7 x≠P7 y
theorem Q36 (a:List Hm.Met):Wx a=true↔Oz a:=by
 simp[Wx,Oz]
structure Gd (pre : List Hm.Met) (s : H8 × H8) : Prop where
  a : ∀ m ∈ pre, H3 s.1 m.name = some (P7 m)
  b : ∀ k x, H3 s.1 k = some x → ∃ m ∈ pre, m.name = k ∧ P7 m = x
  c : ∀ k, (H3 s.2 k).isSome = true ↔ ∃ m ∈ pre, m.name = k
theorem Gd.no {b:List Hm.Met} {s:H8×H8} (h:Gd b s): ¬Oz b:=by
 rintro ⟨x,f,y,g,i,e⟩
 have c:=h.a x f
 have d:=h.a y g
 rw[i,d] at c
 exact e (Option.some.inj c).symm
theorem Gd.step {g:List Hm.Met} {s:H8×H8} (h:Gd g s) (d:X0) (m:Hm.Met):((Jo d s m).1=true→Oz (g++[m]))∧((Jo d s m).1=false→Gd (g++[m]) (Jo d s m).2):=by
 unfold Jo
 constructor
 ·intro i
  cases o:H3 s.1 m.name with
  | none=>rw[o] at i;cases i
  | some x=>
   rw[o] at i
   obtain ⟨y,hy,f,p⟩:=h.b _ _ o
   exact ⟨y,by simp[hy],m,by simp,f,by rw[p];simpa using i⟩
 ·intro i
  have j: ∀x,H3 s.1 m.name=some x→x=P7 m:=fun x n=>by rw[n] at i;simpa using i
  refine ⟨fun y hy=>?_,fun k x n=>?_,fun k=>?_⟩
  ·simp only[Pq]
   rcases List.mem_append.1 hy with hy | hy
   ·have:=h.a y hy
    by_cases e:m.name=y.name
    ·rw[if_pos e];congr 1;exact (j _ (by rw[e];exact this)).symm
    ·rw[if_neg e];exact this
   ·simp at hy;subst hy;simp
  ·simp only[Pq] at n
   by_cases e:m.name=k
   ·rw[if_pos e] at n;cases n;exact ⟨m,by simp,e,rfl⟩
   ·rw[if_neg e] at n
    obtain ⟨y,hy,f⟩:=h.b _ _ n
    exact ⟨y,by simp[hy],f⟩
  ·simp only[Pq]
   by_cases e:m.name=k
   ·rw[if_pos e];exact ⟨fun _=>⟨m,by simp,e⟩,fun _=>rfl⟩
   ·rw[if_neg e,h.c k]
    constructor
    ·rintro ⟨y,hy,f⟩;exact ⟨y,by simp[hy],f⟩
    ·rintro ⟨y,hy,f⟩
     rcases List.mem_append.1 hy with hy | hy
     ·exact ⟨y,hy,f⟩
     ·simp at hy;subst hy;exact absurd f e
theorem Oz.mono {a b:List Hm.Met} (h:Oz a) (c: ∀x∈a,x∈b):Oz b:=by
 obtain ⟨x,f,y,d,e⟩:=h
 exact ⟨x,c x f,y,c y d,e⟩
theorem Q22 (d:X0): ∀(b a:List Hm.Met) (s:H8×H8) (i:Nat),Gd a s→((J3 (Jo d) s b i).1.isSome=true→Oz (a++b))∧((J3 (Jo d) s b i).1.isSome=false→Gd (a++b) (J3 (Jo d) s b i).2)
 | [],a,s,i,h=>by simpa [J3] using h
 | m::r,a,s,i,h=>by
  obtain ⟨j,g⟩:=h.step d m
  simp only[J3]
  cases c:(Jo d s m).1 with
  | true=>
   simp only[if_true,Option.isSome_some]
   exact ⟨fun _=>(j c).mono fun x f=>by simp at f⊢;rcases f with h | h<;>simp[h],fun e=>by cases e⟩
  | false=>
   simp only[Bool.false_eq_true,if_false]
   have:=Q22 d r (a++[m]) (Jo d s m).2 (i+1) (g c)
   rw[show a++m::r=(a++[m])++r by simp]
   exact this
theorem Q29: ∀(cs:List Cla) (a:List Hm.Met) (s:H8×H8) (i:Nat),Gd a s→((J3 Hj s cs i).1.isSome=true→Oz (a++cs.flatMap (·.methods)))∧((J3 Hj s cs i).1.isSome=false→Gd (a++cs.flatMap (·.methods)) (J3 Hj s cs i).2)
 | [],a,s,i,h=>by simpa [J3] using h
 | c::r,a,s,i,h=>by
  obtain ⟨f,d⟩:=Q22 c.name c.methods a s 0 h
  simp only[J3]
  cases b:(Hj s c).1 with
  | true=>
   simp only[if_true,Option.isSome_some]
   exact ⟨fun _=>(f b).mono (by simp;intro x hx;rcases hx with hx | hx;exact .inl hx;exact .inr (.inl hx)),fun e=>by cases e⟩
  | false=>
   simp only[Bool.false_eq_true,if_false]
   have:=Q29 r (a++c.methods) (Hj s c).2 (i+1) (d b)
   rw[List.flatMap_cons,←List.append_assoc]
   exact this
theorem X28:Gd [] ([],[]):=⟨by simp,by simp[H3],by simp[H3]⟩
theorem Q7F (l:List Cla) (n:X0):Vo l n=(Lh l n).flatMap (·.methods):=by
 unfold Vo Lh
 induction R4 l n with
 | nil=>rfl
 | cons u r a=>
  rw[List.flatMap_cons,List.filterMap_cons]
  cases b:lk l u with
  | none=>simpa [b] using a
  | some c=>simp only[Option.map_some,Option.getD_some,List.flatMap_cons];rw[a]
end Go.Hm
namespace Go.Emb
open Go.RowKit Go.Hm
variable {P : Program} {w w0 w1 w' w'' : World} {K : Value → World → Prop} {σ σ0 σ1 σ' : Q5}
def It (σ:Q5) (w:World) (b r:Nat) (es:Array MapEntry) (a:Nat) (c:Array Nat):Prop:=σ b=none∧ ∃d,a≤d∧w.heap[b]? =some (.mapIter (some r) a c d)
theorem It.step {b r:Nat} {es:Array MapEntry} {a:Nat} {c:Array Nat} (h:It σ w b r es a c) (k:Stp w σ w' σ'):It σ' w' b r es a c:=by
 obtain ⟨g,i,f,e⟩:=h
 have d:=(Array.getElem?_eq_some_iff.1 e).1
 exact ⟨(k.old b d).trans g,i,f,(k.bel.block b d).trans e⟩
theorem X2g {t f g:TypeId} [tm:TM P t f g] {r:Nat} {es:Array MapEntry} {a:Nat} (c:X4 w σ) (d:w.heap[r]? =some (.map es a))
 (h: ∀b w' σ',w.heap.size≤b→Stp w σ w' σ'→It σ' w' b r es a #[]→K (.pointer (some ⟨b,0,none⟩)) w'):rng P t (.map (some r)) w K:=by
 unfold rng
 have e:(getObj r).run P w= .ok (.map es a) w:=by simp[getObj,Sem.run,d]
 rw[Y0 (v:= .pointer (some ⟨w.heap.size,0,none⟩)) (w':=w.alloc (.mapIter (some r) a #[] a)) (by
  simp only[Instr.range,Sem.run_bind,run_underlying tm.h,Result.andThen_ok,e,Sem.run_pure]
  simp)]
 exact h _ _ _ (Nat.le_refl _) (Stp.own c _) ⟨c.none (Nat.le_refl _),a,Nat.le_refl _,heap_alloc_new w _⟩
theorem X2u {t:TypeId} {b r:Nat} {es:Array MapEntry} {clock:Nat} {seen:Array Nat} (hi:It σ w b r es clock seen) (hm:w.heap[r]? =some (.map es clock)) (hold: ∀x∈es.toList,x.born<clock)
 (h0:(∀e∈es.toList,e.born∈seen)→K (.tuple #[.bool false]) w)
 (h1: ∀e w',e∈es.toList→e.born∉seen→Kpt (fun k=>k=b) w w'→It σ w' b r es clock (seen.push e.born)→w'.heap[b]? =some (.mapIter (some r) clock (seen.push e.born) clock)→K (.tuple #[.bool true,e.key,e.val]) w'):J7 P (.pointer (some ⟨b,0,none⟩)) false t w K:=by
 obtain ⟨hb,c0,hc,hh⟩:=hi
 unfold J7
 rcases run_next_at (P:=P) w t b r clock c0 seen es clock hh hm hold hc with ⟨hz,hrun⟩ | ⟨e,he,w1,hw1,hrun⟩
 ·rw[Y0 hrun]
  refine h0 fun e he=>Classical.byContradiction fun hn=>?_
  have:e∈(leftOf es seen).toList:=by
   unfold leftOf
   simp only[Array.toList_filter,List.mem_filter]
   exact ⟨he,by simpa using hn⟩
  have hl:(leftOf es seen).toList.length=0:=by simpa using hz
  rw[List.eq_nil_of_length_eq_zero hl] at this
  cases this
 ·rw[Y0 hrun]
  have he':e∈es.toList∧e.born∉seen:=by
   unfold leftOf at he
   simp only[Array.toList_filter,List.mem_filter] at he
   exact ⟨he.1,by simpa using he.2⟩
  have hh1:w1.heap[b]? =some (.mapIter (some r) clock seen c0):=by rcases hw1 with rfl | rfl<;>exact hh
  obtain ⟨u1,u2⟩:=Q2y (w:=w1) (o:= .mapIter (some r) clock (seen.push e.born) clock) hh1
  refine h1 e _ he'.1 he'.2 ?_ ⟨hb,clock,Nat.le_refl _,u2⟩ u2
  have k1:Kpt (fun k=>k=b) w w1:=by
   rcases hw1 with rfl | rfl
   ·exact Kpt.refl
   ·exact .of_below (Below.refl _ _).drew
  exact k1.trans (Kpt.of_upd u1 rfl)
theorem X1M {b r:Nat} {es:Array MapEntry} {a:Nat} {c:Array Nat} {e:MapEntry} (hh:w.heap[b]? =some (.mapIter (some r) a (c.push e.born) a)) (d:w.heap[r]? =some (.map es a)) (g:e∈es.toList) (f:(es.toList.map (·.born)).Nodup)
 (h:K (.tuple #[e.key,e.val]) w):Q7x P (.pointer (some ⟨b,0,none⟩)) w K:=by
 unfold Q7x
 rw[Y0 (run_entry_at w b r a c es a e hh d g f)]
 exact h
end Go.Emb
namespace Go.Proofs.YtfppjenblllfaaaGreatDoor
open Go.Emb Go.RowKit Go.Kd Go.Hm
variable {w : World} {K : Value → World → Prop} {σ : Q5} {v : Value} {l : List Cla}
theorem G9 (o:Option Nat):decide ((0:Int)≤W3 o)=o.isSome:=by
 cases o with
 | none=>rfl
 | some i=>simp[W3]
theorem Q2g {q:Addr} {s:X0} (b:X4 w σ) (f:Tab σ v l) (g:Z3 σ q [v]) (d:s.length≤Z9) (h: ∀w' σ',Stp w σ w' σ'→K (.bool (D9 l s)) w'):Z2 P (.func (.func F.aj) #[] #[.pointer (some q)]) [S s] w K:=Y8 (Ed (by
 unfold Zi
 unfold D9 at h
 refine Wo ?_
 by_cases a:s=D0
 ·have e:decide (s=[110,117,108,108])=true:=decide_eq_true a
  simp only[e,decide_eq_true a,↓M2,M2,Mb,reduceIte] at h⊢
  exact h _ _ (Stp.refl b)
 ·have e:decide (s=[110,117,108,108])=false:=decide_eq_false a
  simp only[e,decide_eq_false a,↓M2,M2,Mb,reduceIte] at h⊢
  refine X8 b g rfl ?_
  refine Pm b f d fun w1 σ1 c=>?_
  (try simp only[↓M2,M2,Mb,reduceIte])
  exact h _ _ c))
theorem Q7j {q p:Addr} {s:X0} (b:X4 w σ) (e:Tab σ v l) (f:Z3 σ q [v]) (c:Z3 σ p [.func (.func F.aj) #[] #[.pointer (some q)]]) (d:s.length≤Z9) (h: ∀w' σ',Stp w σ w' σ'→K (.bool (!D9 l s)) w'):Z2 P (.func (.func F.ak) #[] #[.pointer (some p)]) [S s] w K:=Y8 (Dv (by
 unfold Zb
 refine X8 b c rfl ?_
 refine Q2g b e f d fun w1 σ1 a=>?_
 refine Wc ?_
 exact h _ _ a))
theorem Q5p {c:Cla} {cs:List Value} {pa D:Addr} {e b:Nat} {s:H8×H8} (V:X4 w σ) (M:U5 σ c cs) (A:T2 c) (W:Nm c) (u:Z3 σ pa [.map (some e)]) (r:Z3 σ D [.map (some b)])
 (p:σ e=none) (y:σ b=none) (z:e≠b) (i:N5 (w.heap[e]?) (F7 s.1)) (o:N5 (w.heap[b]?) (F7 s.2))
 (h: ∀w',Kpt (fun k=>k=e∨k=b) w w'→N5 (w'.heap[e]?) (F7 (Hj s c).2.1)∧N5 (w'.heap[b]?) (F7 (Hj s c).2.2)→K (.bool (Hj s c).1) w'):
 Z2 P (.func (.func F.aO) #[] #[.pointer (some pa), .pointer (some D)]) [.agg cs.toArray] w K:=Y8 (Es (by
 obtain ⟨Z,fv,mv,rfl,g1,g2,L,Y,g5⟩:=M
 unfold Zg
 refine Y7 V fun q w1 σ1 a E=>?_
 rw[fa]
 refine ld a.sat E rfl ?_
 rw[Qp]
 have t:=i.lt
 have B:=o.lt
 have n:σ1 e=none:=(a.old e t).trans p
 have j:σ1 b=none:=(a.old b B).trans y
 refine Yk (Jo c.name) s (fun s w'=>X4 w' σ1∧N5 (w'.heap[e]?) (F7 s.1)∧N5 (w'.heap[b]?) (F7 s.2)) (fun k=>k=e∨k=b) (fun _ _ h=>h.1) ⟨a.sat,i.of_below a.bel,o.of_below a.bel⟩ (L.up a)
  (fun s x cs C K J f g N H U=>Y8 ?_) fun C f g=>?_
 ·refine X2m (s:=s) (d:=c.name) g.1 N (A.2.2.2 x J) (W.2.2 x J) (u.up a) (r.up a) E n j z g.2.1 g.2.2 fun X m R Q=>?_
  exact U X (f.trans m) ⟨m.sat g.1 fun k O=>by rcases O with rfl | rfl<;>assumption,R,Q⟩
 ·exact h C ((Kpt.of_below a.bel).trans f) g.2))
end Go.Proofs.YtfppjenblllfaaaGreatDoor

namespace Go.Emb
open Go.RowKit Go.Hm
theorem Stp.nx {D:Nat→Prop} {w w1 g:World} {σ σ1 f:Q5} (a:Stp w σ w1 σ1) (c:Nxt D w1 σ1 g f) (hD: ∀k,D k→w.heap.size≤k):Stp w σ g f:=
 ⟨⟨c.kp.os.trans a.bel.os,c.kp.tape.trans a.bel.tape,c.kp.output.trans a.bel.output,Nat.le_trans a.bel.size c.kp.size,fun k d=>(c.kp.block k (Nat.lt_of_lt_of_le d a.bel.size) fun e=>by have:=hD k e;omega).trans (a.bel.block k d)⟩,
  c.sat,fun b o e=>c.le.le b o (a.le b o e),fun k d=>(c.old k (Nat.lt_of_lt_of_le d a.bel.size)).trans (a.old k d)⟩
end Go.Emb
namespace Go.Hm
open Go.Kd Go.Emb
theorem X1p {es:Array MapEntry} {m:H8} (h:es.toList.map (fun e=>(e.key,e.val))=(F7 m).map (fun p=>(S p.1,p.2))):
 (∀e∈es.toList,∃k,e.key=S k∧(H3 m k).isSome=true)∧ ∀k,(H3 m k).isSome=true→ ∃e∈es.toList,e.key=S k:=by
 have b: ∀(m:H8) k,(H3 m k).isSome=true↔k∈m.map (·.1):=by
  intro m
  induction m with
  | nil=>intro k;simp[H3]
  | cons p r j=>
   intro k
   simp only[H3,List.map_cons,List.mem_cons]
   by_cases e:p.1=k
   ·simp[e]
   ·rw[if_neg e,j k]
    constructor
    ·exact .inr
    ·rintro (h | h)
     ·exact absurd h.symm e
     ·exact h
 constructor
 ·intro e d
  have a:(e.key,e.val)∈es.toList.map (fun e=>(e.key,e.val)):=List.mem_map.2 ⟨e,d,rfl⟩
  rw[h] at a
  obtain ⟨p,g,c⟩:=List.mem_map.1 a
  obtain ⟨q,f,rfl⟩:=List.mem_map.1 g
  simp only[Prod.mk.injEq] at c
  exact ⟨q.1,c.1.symm,(b m _).2 (List.mem_map.2 ⟨q,f,rfl⟩)⟩
 ·intro k i
  obtain ⟨q,f,rfl⟩:=List.mem_map.1 ((b m k).1 i)
  have a:(S q.1,S q.2)∈(F7 m).map (fun p=>(S p.1,p.2)):=List.mem_map.2 ⟨(q.1,S q.2),List.mem_map.2 ⟨q,f,rfl⟩,rfl⟩
  rw[←h] at a
  obtain ⟨e,d,c⟩:=List.mem_map.1 a
  simp only[Prod.mk.injEq] at c
  exact ⟨e,d,c.1⟩
def Ny (l:List Cla) (m:Hm.Met):Bool:=(!D9 l m.result&& !decide (m.result=[]))||m.params.any fun s=> !D9 l s
end Go.Hm
namespace Go.Proofs.YtfppjenblllfaaaGreatDoor
open Go.Emb Go.RowKit Go.Kd Go.Hm
variable {w : World} {K : Value → World → Prop} {σ : Q5} {v : Value} {l : List Cla}
set_option maxHeartbeats 1000000 in
theorem Q8N {c:Cla} {cs:List Value} (hs:X4 w σ) (ht:Tab σ v l) (ok:Ok l) (hc:U5 σ c cs) (fi:T2 c) (hn:Nm c) (h: ∀w' W,Stp w σ w' W→K (I (V2 l c)) w'):Q0 P F.aU [v, .agg cs.toArray] w K:=Sg (by
 obtain ⟨lv,fv,mv,rfl,g1,g2,g3,g4,g5⟩:=hc
 unfold Ud
 obtain ⟨a,_,_,_,hv,_⟩:=ht.ex
 unfold V2 at h
 refine J9 hs (by rw[hv];rfl) fun q2 w1 σ1 bc u=>?_
 refine Y7 bc.sat fun q3 w2 σ2 aw A=>?_
 have ei:=bc.trans aw
 have u:=u.up aw
 have g1:=(g1.up bc).up aw
 have g2:=(g2.up bc).up aw
 have g3:=(g3.up bc).up aw
 have az:=g2.max
 have ch:=g3.max
 rw[fa]
 refine ld aw.sat A rfl ?_
 refine Q8 g2 ?_
 refine J1 c.fields.length (fun n w'=> ∃W,Stp w σ w' W∧SLe σ2 W∧((c.fields.take n).any fun f=>(Xr l c.super f.name).isSome)=false) ⟨σ2,ei,SLe.refl _,by simp⟩ fun n w3 d a3 ag=>?_
 obtain ⟨σ3,ax,b9,H⟩:=ag
 refine Z1 ?_
 refine Q6 (fun hh=>?_) (fun hh=>?_)
 ·have g:n<c.fields.length:=by simpa using hh
  refine Q7S (g2.lift b9) g fun p aq ac=>?_
  refine Y9 ax.sat aq rfl ?_
  refine Y6 ax.sat (by rfl) rfl (Rep.one ac) fun q4 w4 σ4 V el=>?_
  have Z:SLe σ2 σ4:=b9.more ⟨V.le⟩
  have a1:=ax.trans V
  refine X8 V.sat (u.lift Z) rfl ?_
  rw[fa]
  refine ld V.sat (A.lift Z) rfl ?_
  rw[fa]
  refine ld V.sat el rfl ?_
  refine X1m V.sat (ht.lift ⟨a1.le⟩) ok.acy ok.len ok.sm fun w5 σ5 cc=>?_
  refine Xe ?_
  rw[G9]
  refine Q6 (fun al=>?_) (fun al=>?_)
  ·have:Qy l c=true:=C4 g al
   rw[if_pos this] at h
   exact h _ _ (a1.trans cc)
  ·refine E4 ?_
   refine Y2 az g ⟨σ5,a1.trans cc,Z.more ⟨cc.le⟩,?_⟩
   rw[M4 g,H,al];rfl
 have g: ¬n<c.fields.length:=by simpa using hh
 rw[D5 g] at H
 have dx:Qy l c=false:=H
 rw[if_neg (by rw[dx];simp)] at h
 rw[Qp]
 clear H hh g a3
 refine U3 ax.sat (by rfl) rfl rfl fun q7 w4 σ4 V a6=>?_
 have Z:SLe σ2 σ4:=b9.more ⟨V.le⟩
 have a1:=ax.trans V
 have u:=u.lift Z
 have A:=A.lift Z
 have g1:=g1.lift Z
 have g2:=g2.lift Z
 have g3:=g3.lift Z
 rw[fa]
 refine ld V.sat A rfl ?_
 refine Q8 g2 ?_
 refine J1 c.fields.length (fun n w'=> ∃W,Stp w σ w' W∧SLe σ4 W∧((c.fields.take n).any fun f=> !D9 l f.kind)=false) ⟨σ4,a1,SLe.refl _,by simp⟩ fun n w5 d a3 ag=>?_
 obtain ⟨σ5,bd,ar,H⟩:=ag
 refine Z1 ?_
 refine Q6 (fun hh=>?_) (fun hh=>?_)
 ·have g:n<c.fields.length:=by simpa using hh
  refine Q7S (g2.lift ar) g fun p aq ac=>?_
  refine Y9 bd.sat aq rfl ?_
  refine Y6 bd.sat (by rfl) rfl (Rep.one ac) fun q9 w6 σ6 a0 d2=>?_
  have ai:SLe σ4 σ6:=ar.more ⟨a0.le⟩
  have O:=bd.trans a0
  refine X8 a0.sat (a6.lift ai) rfl ?_
  rw[fa]
  refine ld a0.sat d2 rfl ?_
  refine Q2g a0.sat (ht.lift ⟨O.le⟩) (u.lift ai) ac.2.2 fun w7 σ7 E=>?_
  refine Wc ?_
  refine Q6 (fun al=>?_) (fun al=>?_)
  ·have:B1 l c=true:=by
    unfold B1
    rw[C4 (p:=fun f:Fld=> !D9 l f.kind) g al];rfl
   rw[if_pos this] at h
   exact h _ _ (O.trans E)
  ·refine E4 ?_
   refine Y2 az g ⟨σ7,O.trans E,ai.more ⟨E.le⟩,?_⟩
   rw[M4 g,H,al];rfl
 have g: ¬n<c.fields.length:=by simpa using hh
 rw[D5 g] at H
 have dw:=H
 clear H hh g a3
 have u:=u.lift ar
 have A:=A.lift ar
 have a6:=a6.lift ar
 have g3:=g3.lift ar
 rw[fa]
 refine ld bd.sat A rfl ?_
 refine Q8 g3 ?_
 refine J1 c.methods.length (fun n w'=> ∃W,Stp w σ w' W∧SLe σ5 W∧((c.methods.take n).any (Ny l))=false) ⟨σ5,bd,SLe.refl _,by simp⟩ fun n w6 d a3 ag=>?_
 obtain ⟨σ6,O,ai,H⟩:=ag
 refine Z1 ?_
 refine Q6 (fun hh=>?_) (fun hh=>?_)
 ·have g:n<c.methods.length:=by simpa using hh
  refine L7 (g3.lift ai) g fun p cells aq dg ac=>?_
  refine Y9 O.sat aq dg ?_
  refine Y6 O.sat (by rfl) dg (Rep.one ac) fun ft w7 σ7 E Y=>?_
  obtain ⟨pv,cv,fj,rfl,m1,m2,m3,m4,m5,m6⟩:=ac
  have cd:SLe σ5 σ7:=ai.more ⟨E.le⟩
  have de:=O.trans E
  have D:Ny l c.methods[n]=true→ ∀{w8:World} {σ8:Q5},Stp w σ w8 σ8→K (.int .i64 65) w8:=fun hb w8 σ8 q=>by
   have:B1 l c=true:=by
    unfold B1
    have:=C4 (p:=Ny l) g hb
    unfold Ny at this
    rw[this,Bool.or_true]
   rw[if_pos this] at h
   exact h _ _ q
  have z:Ny l c.methods[n]=false→ ∀{w8:World} {σ8:Q5},Stp w σ w8 σ8→SLe σ5 σ8→UpI c.methods.length (fun n w'=> ∃W,Stp w σ w' W∧SLe σ5 W∧((c.methods.take n).any (Ny l))=false) (.int .i64 (IntKind.i64.wrap (n+1))) w8∧UpM c.methods.length (.int .i64 (IntKind.i64.wrap (n+1)))<UpM c.methods.length (I n):=fun hb w8 σ8 q aa=>
   Y2 ch g ⟨σ8,q,aa,by rw[M4 g,H,hb];rfl⟩
  unfold Ny at D z
  refine X8 E.sat (a6.lift cd) rfl ?_
  rw[fa]
  refine ld E.sat Y rfl ?_
  refine Q2g E.sat (ht.lift ⟨de.le⟩) (u.lift cd) m5 fun w8 σ8 M=>?_
  have q:=de.trans M
  have aa:SLe σ5 σ8:=cd.more ⟨M.le⟩
  have Y:=Y.up M
  have m1:=(m1.up E).up M
  -- what the parameters come to
  have bs: ∀{w8:World} {σ8:Q5} {K:Value→World→Prop},Stp w σ w8 σ8→SLe σ5 σ8→Sl 1 Y1 σ8 pv c.methods[n].params→(∀w' W,Stp w8 σ8 w' W→K (.bool (c.methods[n].params.any fun s=> !D9 l s)) w')→Q0 P F.d [pv, .func (.func F.ak) #[] #[.pointer (some q7)]] w8 K:=by
   intro w8 σ8 K q aa m1 hK
   refine F5 (fun s=> !D9 l s) q.sat m1 (fun x w9 K _ em hx dy=>Q7j em (ht.lift ⟨q.le⟩) (u.lift aa) (a6.lift aa) hx fun w' W hk=>dy w' hk.bel) fun w9 hb=>hK w9 σ8 (Stp.of_below q.sat hb)
  cases e1:D9 l c.methods[n].result with
  | true=>
   rw[e1] at D z
   simp only[↓M2,M2,Mb,reduceIte]
   refine ld M.sat Y rfl ?_
   (try simp only[↓M2,M2,Mb,reduceIte])
   refine bs q aa m1 fun w9 σ9 J=>?_
   cases e2:c.methods[n].params.any fun s=> !D9 l s with
   | true=>
    rw[e2] at D
    simp only[↓M2,M2,Mb,reduceIte]
    exact D rfl (q.trans J)
   | false=>
    rw[e2] at z
    simp only[↓M2,M2,Mb,reduceIte]
    exact z rfl (q.trans J) (aa.more ⟨J.le⟩)
  | false=>
   rw[e1] at D z
   simp only[↓M2,M2,Mb,reduceIte]
   refine ld M.sat Y rfl ?_
   simp only[↓M2,M2,Mb,reduceIte]
   by_cases e3:c.methods[n].result=[]
   ·rw[decide_eq_true e3] at D z
    simp only[decide_eq_true e3,↓M2,M2,Mb,reduceIte]
    refine ld M.sat Y rfl ?_
    (try simp only[↓M2,M2,Mb,reduceIte])
    refine bs q aa m1 fun w9 σ9 J=>?_
    cases e2:c.methods[n].params.any fun s=> !D9 l s with
    | true=>
     rw[e2] at D
     simp only[↓M2,M2,Mb,reduceIte]
     exact D rfl (q.trans J)
    | false=>
     rw[e2] at z
     simp only[↓M2,M2,Mb,reduceIte]
     exact z rfl (q.trans J) (aa.more ⟨J.le⟩)
   ·rw[decide_eq_false e3] at D
    simp only[decide_eq_false e3,↓M2,M2,Mb,reduceIte]
    exact D rfl q
 have g: ¬n<c.methods.length:=by simpa using hh
 rw[D5 g] at H
 have ck:B1 l c=false:=by
  unfold B1
  unfold Ny at H
  rw[dw,H];rfl
 rw[if_neg (by rw[ck];simp)] at h
 clear H hh g a3
 have u:=u.lift ai
 have A:=A.lift ai
 refine Pl O.sat fun r1 w7 ac E t=>?_
 refine Pl E.sat fun N w8 ef M y=>?_
 have aq:=t.lt
 have t:=t.up M
 have ec:r1≠N:=by omega
 have q:=(O.trans E).trans M
 have ey:w.heap.size≤r1:=Nat.le_trans O.bel.size ac
 have et:w.heap.size≤N:=Zo ef (O.trans E)
 refine G1 M.sat fun b1 w9 σ9 ee J C=>?_
 refine G1 J.sat fun b2 eh fc d4 af B=>?_
 have eu:=C.lt
 have e6:=t.lt
 have e5:=y.lt
 have t:=(t.up J).up af
 have y:=(y.up J).up af
 have C:=C.up af
 have cp:=(q.trans J).trans af
 have bu:w.heap.size≤b1:=Zo ee q
 have bq:w.heap.size≤b2:=Zo d4 (q.trans J)
 refine st0 C (by simp[Value.cells]) rfl rfl fun cy cf C=>?_
 have c0:=cf.stp cp bu C.1
 have B:=B.upd cf (by omega)
 have c5:Kpt (fun k=>k=b1) eh cy:=Kpt.of_upd cf rfl
 have t:=t.kp c5 (by omega)
 have y:=y.kp c5 (by omega)
 refine st0 B (by simp[Value.cells]) rfl rfl fun av b7 B=>?_
 have c6:=b7.stp c0 bq B.1
 have C:=C.upd b7 (by omega)
 have cr:Kpt (fun k=>k=b2) cy av:=Kpt.of_upd b7 rfl
 have t:=t.kp cr (by omega)
 have y:=y.kp cr (by omega)
 obtain ⟨cj,di,a7,c3,am⟩:=C.keep c6 bu
 have B:Z5 cj av b2 _:=⟨(am b2 (by omega)).trans B.1,B.2⟩
 have t:E6 cj av r1 []:=⟨(am r1 (by omega)).trans t.1,t.2⟩
 have y:E6 cj av N []:=⟨(am N (by omega)).trans y.1,y.2⟩
 obtain ⟨bb,ah,bj,bp,ba⟩:=B.keep di bq
 have t:E6 bb av r1 []:=⟨(ba r1 (by omega)).trans t.1,t.2⟩
 have y:E6 bb av N []:=⟨(ba N (by omega)).trans y.1,y.2⟩
 have a7:=a7.le bp
 have a7:Z3 bb ⟨b1,0,none⟩ [.map (some r1)]:=a7
 have bj:Z3 bb ⟨b2,0,none⟩ [.map (some N)]:=bj
 have c2:SLe σ6 bb:=⟨fun b o e=>bp b o (c3 b o (af.le b o (J.le b o (M.le b o (E.le b o e)))))⟩
 clear C B
 have u:=u.lift c2
 have A:=A.lift c2
 refine X8 ah.sat u rfl ?_
 rw[fa]
 refine ld ah.sat A rfl ?_
 rw[Qp]
 refine Q64 Hj ([],[]) (fun s w'=>N5 (w'.heap[r1]?) (F7 s.1)∧N5 (w'.heap[N]?) (F7 s.2)) (fun k=>k=r1∨k=N) ah.sat (ht.lift ⟨ah.le⟩) ok.len ok.sm g4
  (fun k hk=>by rcases hk with rfl | rfl;exact ⟨t.lt,t.1⟩;exact ⟨y.lt,y.1⟩) (fun s wa wb hi hk=>by rw[hk r1 (.inl rfl),hk N (.inr rfl)];exact hi) ⟨t.2,y.2⟩
  (fun s d ds wa σa K le dv cu hi hr d8 hK=>?_) fun fe b8 ae bz=>?_
 ·have c7:=(U1 d8).2.1
  exact Q5p dv hr (ok.sm d c7) (ok.nm d c7) (a7.lift le) (bj.lift le) (cu r1 (.inl rfl)) (cu N (.inr rfl)) ec hi.1 hi.2 hK
 have R:=ah.nx ae fun k hk=>by rcases hk with rfl | rfl<;>assumption
 obtain ⟨da,ct⟩:=Q29 (Lh l c.name) [] ([],[]) 0 X28
 rw[List.nil_append,←Q7F] at da ct
 cases dm:(J3 Hj ([],[]) (Lh l c.name) 0).1.isSome with
 | true=>
  have:Xx l c=true:=(Q36 _).2 (da dm)
  rw[if_pos this] at h
  refine V1 ?_
  exact h _ _ R
 | false=>
  have bk:=ct dm
  have:Xx l c=false:=by
   cases e:Xx l c with
   | false=>rfl
   | true=>exact absurd ((Q36 _).1 e) bk.no
  rw[if_neg (by rw[this];simp)] at h
  refine V6 ?_
  have u:=u.lift ae.le
  have A:=A.lift ae.le
  rw[fa]
  refine ld R.sat A rfl ?_
  unfold Nj at h
  cases df:c.abs with
  | true=>
   rw[df] at h
   refine V1 ?_
   exact h _ _ R
  | false=>
   rw[df] at h
   simp only[Bool.not_false,Bool.true_and] at h
   refine V6 ?_
   refine X8 R.sat (bj.lift ae.le) rfl ?_
   generalize e8:(J3 Hj ([],[]) (Lh l c.name) 0).2=st at bk bz
   obtain ⟨es,ak,e1,e2,e3,e4⟩:=bz.2
   have dc:b8 N=none:=(ae.old N y.lt).trans y.1
   obtain ⟨c1,cq⟩:=X1p e2
   refine X2g (tm:=inferInstance) R.sat e1 fun ib fq d6 d3 an eg=>?_
   have br:=(Array.getElem?_eq_some_iff.1 e1).1
   refine Ri (fun d _ w'=> ∃(W:Q5) (Q:Array Nat),d=es.toList.countP (fun e=> !Q.contains e.born)∧Stp w σ w' W∧SLe b8 W∧W N=none∧w'.heap[N]? =some (.map es ak)∧It W w' ib N es ak Q∧ ∀e∈es.toList,e.born∈Q→ ∀k,e.key=S k→Xo l c.name k=false) _
    ⟨d6, #[],rfl,R.trans an,⟨an.le⟩,(an.old N br).trans dc,(an.bel.block N br).trans e1,eg,by simp⟩ ?_
   rintro b4 d x dd fh ⟨dj,Q,rfl,bv,ao,c4,a9,a4,be⟩ ej
   have cx:w.heap.size≤ib:=Nat.le_trans R.bel.size d3
   refine X2u a4 a9 e4 (fun db=>?_) fun e dl bm ay b0 cg c8=>?_
   ·refine U7 (vs:=[_]) rfl ?_
    refine V6 ?_
    have:((Vo l c.name).any fun m=>Xo l c.name m.name)=false:=by
     rw[List.any_eq_false]
     intro m hm
     obtain ⟨e,he,bl⟩:=cq m.name ((bk.c m.name).2 ⟨m,hm,rfl⟩)
     rw[be e he (db e he) _ bl];simp
    rw[this] at h
    exact h _ _ bv
   ·refine U7 (vs:=[_,_,_]) rfl ?_
    refine V1 ?_
    have ap:dl.heap[N]? =some (.map es ak):=by
     rw[b0.block N (Array.getElem?_eq_some_iff.1 a9).1 (by omega)];exact a9
    have b5:=a4.1
    have aj:Stp w σ dl dj:=bv.kp b0 fun k hk=>by rw[hk];exact ⟨cx,b5⟩
    refine X1M c8 ap bm (e3.imp fun cb=>Nat.ne_of_lt cb) ?_
    refine U7 (vs:=[_,_]) rfl ?_
    obtain ⟨k,bl,d5⟩:=c1 e bm
    have er:SLe b8 dj:=ao
    refine X8 aj.sat (u.lift ao) rfl ?_
    rw[fa]
    refine ld aj.sat (A.lift ao) rfl ?_
    rw[bl]
    refine Q9q aj.sat (ht.lift ⟨aj.le⟩) ok fun pv cv hv fn ff L dh=>?_
    refine U7 (vs:=[_,_,_]) rfl ?_
    refine U7 (vs:=[_,_,_]) rfl ?_
    refine U7 (vs:=[_,_,_]) rfl ?_
    refine Y6 L.sat (by rfl) rfl (Rep.one dh) fun fy d0 dz X bw=>?_
    have a2:=(aj.trans L).trans X
    have U:Xo l c.name k=true→ ∀{w8:World} {σ8:Q5},Stp w σ w8 σ8→K (.int .i64 67) w8:=fun hb w8 σ8 q=>by
     obtain ⟨m,hm,ck⟩:=(bk.c k).1 d5
     have:((Vo l c.name).any fun m=>Xo l c.name m.name)=true:=List.any_eq_true.2 ⟨m,hm,by rw[ck];exact hb⟩
     rw[this] at h
     exact h _ _ q
    have ca:Xo l c.name k=false→b4 () d0:=fun hb=>by
     have c9: ∀e':MapEntry,e'.born∈Q.push e.born↔e'.born∈Q∨e'.born=e.born:=fun e'=>by simp
     refine ej _ _ _ ?_ ⟨dz,Q.push e.born,rfl,a2,ao.more ⟨fun b o h=>X.le _ _ (L.le _ _ h)⟩,?_,?_,(cg.step L).step X,fun e' cw d7 k' b3=>?_⟩
     ·refine Q34 (fun x _ hx=>?_) ⟨e,bm,?_,?_⟩
      ·simp only[Bool.not_eq_true',Array.contains_push,Bool.or_eq_false_iff] at hx⊢
       exact hx.1
      ·simpa using ay
      ·simp
     ·have a5:=(Array.getElem?_eq_some_iff.1 ap).1
      rw[X.old N (Nat.lt_of_lt_of_le a5 L.bel.size),L.old N a5];exact c4
     ·have a5:=(Array.getElem?_eq_some_iff.1 ap).1
      rw[X.bel.block N (Nat.lt_of_lt_of_le a5 L.bel.size),L.bel.block N a5];exact ap
     ·rcases (c9 e').1 d7 with h1 | h1
      ·exact be e' cw h1 k' b3
      ·have:e'=e:=by
        have d9:(es.toList.map (·.born)).Nodup:=e3.imp fun cb=>Nat.ne_of_lt cb
        obtain ⟨i,hi,rfl⟩:=List.getElem_of_mem cw
        obtain ⟨j,hj,rfl⟩:=List.getElem_of_mem bm
        have h5:(es.toList.map (·.born))[i]'(by simpa using hi)=(es.toList.map (·.born))[j]'(by simpa using hj):=by simpa using h1
        have:=(List.getElem_inj d9).1 h5
        subst this;rfl
       subst this
       rw[bl] at b3
       have:k=k':=by
        have:=b3
        simp at this
        exact this
       rw[←this];exact hb
    unfold Xo at U ca
    cases dp:U0 l c.name k with
    | none=>
     rw[dp] at U
     simp only[↓M2,M2,Mb,reduceIte,Option.isSome_none]
     exact U rfl a2
    | some r=>
     rw[dp] at U ca bw
     simp only[↓M2,M2,Mb,reduceIte,Option.isSome_some]
     refine ld X.sat bw rfl ?_
     (try simp only[↓M2,M2,Mb,reduceIte])
     cases bg:r.2.abs with
     | true=>
      exact Q6 (fun _=>U bg a2) (fun e=>absurd (bg.symm.trans e) (by simp))
     | false=>
      exact Q6 (fun e=>absurd (bg.symm.trans e) (by simp)) (fun _=>ca bg))
end Go.Proofs.YtfppjenblllfaaaGreatDoor

namespace Go.Emb
open Go.RowKit Go.Hm
variable {P : Program} {w w0 w1 w' w'' : World} {K : Value → World → Prop} {σ σ0 σ1 σ' : Q5}
theorem X0v {t e:TypeId} {n by_:Nat} {z:Value} [ta:TA P t n e] [tz:TZ P e 1 by_ z] [tg:TG P e false] {cs:List Value} {i:Nat} {v:Value} (c:i<n) (a:cs[i]? =some v) (h:K v w):E5 P t (.agg cs.toArray) (I i) w K:=by
 unfold E5
 have b:(0:Int)≤i∧(i:Int)<n:=⟨by omega,by omega⟩
 rw[Y0 (v:=v) (w':=w) (by
  simp only[Instr.index,asIntOf,Sem.run_bind,Sem.run_pure,Result.andThen_ok,run_underlying ta.h,b,and_self,if_true,W5 tz,part,Za tg]
  simp[a])]
 exact h
theorem Q6I {α:Type} {R:Q5→α→List Value→Prop} {B sz:Nat} {e:TypeId} {v:Value} {xs:List α} {a t:TypeId} {cs:List Bool} [ts:TS P a e] (h:V7 B e sz R σ w v xs) (b:K (I xs.length) w):X5 P .len [a] t cs [v] w K:=Bs (U6.of_acc h) b
theorem Q3l {α:Type} {R:Q5→α→List Value→Prop} {B sz:Nat} {e:TypeId} {v:Value} {xs:List α} (h:V7 B e sz R σ w v xs):v.cells= #[v]∧v.oneCell'=true:=by
 obtain ⟨cells,c,_⟩:=h
 rcases c.2 with ⟨rfl,_⟩ | ⟨g,a,b,rfl,_⟩<;>exact ⟨rfl,rfl⟩
end Go.Emb
namespace Go.Proofs.YtfppjenblllfaaaGreatDoor
open Go.Emb Go.RowKit Go.Kd Go.Hm
variable {w : World} {K : Value → World → Prop} {σ : Q5} {v : Value} {l : List Cla}
theorem X14 (D:X4 w σ) (A:Glb σ) (h: ∀u w' σ',Stp w σ w' σ'→V7 w.heap.size T.a 8 U5 σ' w' u B7→K u w'):Q0 P F.cs [] w K:=Q4v (by
 unfold Q03
 refine W1 (cells:= #[S Z7,S [], .slice none 0 0, .bool false, .bool false, .bool false, .slice none 0 0, .slice none 0 0]) (by kernel_rfl) ?_
 refine W1 (cells:= #[S P1,S O4, .bool false]) (by kernel_rfl) ?_
 refine D2 (R:=E2) (sz:=3) D [.agg #[S P1,S O4, .bool false]] [⟨P1,O4,false⟩] rfl rfl (by simp;rfl) rfl ⟨⟨rfl,by decide,by decide⟩,trivial⟩ fun H w1 σ1 f p=>?_
 have i:=p
 obtain ⟨y,b,rfl,_⟩:=i
 refine W1 (cells:= #[S V9,S Z7, .slice none 0 0, .bool false, .bool false, .bool false, .slice y 1 b, .slice none 0 0]) (by kernel_rfl) ?_
 refine Qc (R:=U5) (sz:=8) f [.agg #[S Z7,S [], .slice none 0 0, .bool false, .bool false, .bool false, .slice none 0 0, .slice none 0 0], .agg #[S V9,S Z7, .slice none 0 0, .bool false, .bool false, .bool false, .slice y 1 b, .slice none 0 0]]
  [⟨Z7,[],[],false,false,false,[],[]⟩,⟨V9,Z7,[],false,false,false,[⟨P1,O4,false⟩],[]⟩] rfl rfl (by simp;exact ⟨rfl,rfl⟩) rfl
  ⟨⟨_,_,_,rfl,Sl.nil,Sl.nil,Sl.nil,by decide,by decide⟩,⟨_,_,_,rfl,Sl.nil,p,Sl.nil,by decide,by decide⟩,trivial⟩ fun L E k m _=>?_
 have t:=A.lift ⟨f.le⟩
 refine Y9 (cs:=J6.map S) k.sat t.flt rfl ?_
 refine D3 6 (fun n a w'=> ∃σ',Stp w σ w' σ'∧V7 w.heap.size T.a 8 U5 σ' w' a ([⟨Z7,[],[],false,false,false,[],[]⟩,⟨V9,Z7,[],false,false,false,[⟨P1,O4,false⟩],[]⟩]++(J6.take n).map fun n=>⟨n,V9,[],false,false,true,[],[]⟩)) ⟨σ1,f.trans k,m⟩ fun n a N d M j=>?_
 obtain ⟨O,g,e⟩:=j
 have z:J6.length=6:=rfl
 refine Z1 ?_
 refine Q6 (fun hh=>?_) (fun hh=>?_)
 ·have c:n<6:=by have:=of_decide_eq_true hh;omega
  refine X0v (v:=S (J6[n]'(by omega))) c (by rw[List.getElem?_map,List.getElem?_eq_getElem (by omega)];rfl) ?_
  refine W1 (cells:= #[S (J6[n]'(by omega)),S V9, .slice none 0 0, .bool false, .bool false, .bool true, .slice none 0 0, .slice none 0 0]) (by kernel_rfl) ?_
  have o:(J6[n]'(by omega)).length≤10:=by
   have: ∀x∈J6,x.length≤10:=by decide
   exact this _ (List.getElem_mem _)
  refine Jy (x:=⟨J6[n]'(by omega),V9,[],false,false,true,[],[]⟩) g e ⟨_,_,_,rfl,Sl.nil,Sl.nil,Sl.nil,Nat.le_trans o (by decide),(by decide:V9.length≤Z9)⟩ rfl rfl rfl (by simp;omega) (by simp;omega) fun s u J B C r q _=>?_
  refine E4 ?_
  refine Z6 (by omega) c ⟨B,r,?_⟩
  rw[List.take_add_one,List.getElem?_eq_getElem (by omega),List.map_append,←List.append_assoc]
  exact q
 ·have c: ¬n<6:=by have:=of_decide_eq_false hh;omega
  rw[List.take_of_length_le (by omega)] at e
  exact h _ _ _ g e)
end Go.Proofs.YtfppjenblllfaaaGreatDoor

namespace Go.Hm
open Go.Kd
def L4 {α:Type} (f:α→Int):List α→Nat→Option (Nat×Int)
 | [],_=>none
 | x::r,i=>if f x=0 then L4 f r (i+1) else some (i,f x)
theorem F8 {α:Type} {f:α→Int}: ∀{l:List α} {i:Nat},L4 f l i=none→ ∀x∈l,f x=0
 | [],_,_=>by simp
 | x::r,i,h=>by
  simp only[L4] at h
  split at h
  ·rename_i a
   intro y hy
   rcases List.mem_cons.1 hy with rfl | hy
   ·exact a
   ·exact F8 h y hy
  ·cases h
def Eo (a:List Cla):Option Nat:=(List.range a.length).find? fun i=>(Y3 (a.take i) (X9 a i)).isSome
def Q4 (l:List Cla):List Cla:=B7++l
def Eb (a:Cla→Int) (l:List Cla):Option (Int×Int):=match L4 a l 0 with
 | some (i,e)=>some (i,e)
 | none=>match Eo (Q4 l) with
  | some i=>some ((i:Int)-8,60)
  | none=>match L4 (fun c=>(L5 (Q4 l) c:Int)) l 0 with
   | some (i,e)=>some (i,e)
   | none=>match l.findIdx? (G0 (Q4 l)) with
    | some i=>some (i,63)
    | none=>match (U9 (Q4 l) 8).find? fun j=> !decide (V2 (Q4 l) ((Q4 l).getD j Cla.zero)=0) with
     | some j=>some ((j:Int)-8,V2 (Q4 l) ((Q4 l).getD j Cla.zero))
     | none=>none
theorem Q46 {s:X0} (h:name s=true):s.length≤32:=by
 cases s with
 | nil=>simp
 | cons c r=>simp only[name,Bool.and_eq_true,decide_eq_true_eq] at h;exact h.1.1
theorem Q9o {s:X0} (h:W7 s=true):s.length≤32:=Q46 (Ln (by rw[h,Bool.or_true]))
theorem Q7E {s:X0} (h:L9 s=true):s.length≤32:=by
 cases s with
 | nil=>simp
 | cons c r=>simp only[L9,Bool.and_eq_true] at h;exact Q46 h.1
theorem Fo {a:List Cla} (h:Eo a=none):G7 a:=by
 unfold Eo at h
 rw[List.find?_eq_none] at h
 unfold G7
 rw[List.nodup_iff_pairwise_ne,List.pairwise_iff_getElem]
 intro i j d b k e
 simp only[List.length_map] at d b
 have:=h j (by simp;exact b)
 apply this
 simp only[List.getElem_map] at e
 cases g:Y3 (a.take j) (X9 a j) with
 | some _=>rfl
 | none=>
  have c:=List.findIdx?_eq_none_iff.1 g a[i] (List.mem_take_iff_getElem.2 ⟨i,by omega,rfl⟩)
  have f:X9 a j=a[j].name:=by unfold X9;rw[List.getD_eq_getElem?_getD,List.getElem?_eq_getElem b];rfl
  rw[f] at c
  simp[e] at c
theorem Yp: ∀c∈B7,T2 c∧Nm c∧c.like=[]:=by
 have h: ∀c∈B7,(c.like=[]∧c.methods=[]∧c.fields.length≤1∧c.name.length≤100∧ ∀f∈c.fields,f.name.length≤100∧f.kind.length≤100):=by decide
 intro c e
 obtain ⟨b,a,i,g,d⟩:=h c e
 refine ⟨⟨by rw[b];simp,by omega,by rw[a];simp,by rw[a];simp⟩,⟨g,d,by rw[a];simp⟩,b⟩
theorem Q9n: ∀c∈B7,(c.name=Z7∧J4 c=[[]])∨(c.name=V9∧J4 c=[Z7])∨(c.name∈J6∧J4 c=[V9]):=by decide
theorem Q44 {l:List Cla} (o:G7 (Q4 l)) (z: ∀c∈l,c.name≠[]) (s: ∀c∈l,G0 (Q4 l) c=false):Ye (Q4 l):=by
 have k:lk (Q4 l) []=none:=by
  cases h:lk (Q4 l) [] with
  | none=>rfl
  | some c=>
   obtain ⟨e,hm,_⟩:=U1 h
   rcases List.mem_append.1 hm with hm | hm
   ·have: ∀c∈B7,c.name≠[]:=by decide
    exact absurd e (this c hm)
   ·exact absurd e (z c hm)
 have j:lk (Q4 l) Z7=some ⟨Z7,[],[],false,false,false,[],[]⟩:=o.lk (c:=⟨Z7,[],[],false,false,false,[],[]⟩) (List.mem_append_left _ (by decide))
 have g:lk (Q4 l) V9=some ⟨V9,Z7,[],false,false,false,[⟨P1,O4,false⟩],[]⟩:=o.lk (c:=⟨V9,Z7,[],false,false,false,[⟨P1,O4,false⟩],[]⟩) (List.mem_append_left _ (by decide))
 have p: ∀b,¬Reach (lk (Q4 l)) [] b:=fun b h=>by obtain ⟨c,d⟩:=h.left;rw[k] at d;cases d
 have q: ∀b,Reach (lk (Q4 l)) Z7 b→b=Z7:=by
  intro b h
  cases h with
  | refl=>rfl
  | step d f i=>
   rw[j] at d;cases d
   simp[J4] at f;subst f
   exact absurd i (p b)
 have r: ∀b,Reach (lk (Q4 l)) V9 b→b=V9∨b=Z7:=by
  intro b h
  cases h with
  | refl=>exact .inl rfl
  | step d f i=>
   rw[g] at d;cases d
   simp[J4] at f;subst f
   exact .inr (q b i)
 rintro a ⟨c,d,u,f,i⟩
 obtain ⟨e,hm,_⟩:=U1 d
 rcases List.mem_append.1 hm with hm | hm
 ·rcases Q9n c hm with ⟨m,n⟩ | ⟨m,n⟩ | ⟨m,n⟩<;>rw[n] at f<;>simp at f<;>subst f
  ·exact p _ i
  ·have:=q _ i
   rw[←e,m] at this
   exact absurd this (by decide)
  ·have w: ∀x∈J6,x≠V9∧x≠Z7:=by decide
   obtain ⟨t,y⟩:=w _ m
   rw[←e] at i
   rcases r _ i with h | h
   ·exact t h
   ·exact y h
 ·have:=s c hm
  unfold G0 at this
  have v:=List.any_eq_false.1 this u f
  apply v
  rw[List.contains_iff_mem,Zy,e];exact i
end Go.Hm
namespace Go.Proofs.YtfppjenblllfaaaGreatDoor
open Go.Emb Go.RowKit Go.Kd Go.Hm
theorem Q2d {s:X0} (h:right s=true):s.length≤38:=by
 simp only[right,Bool.and_eq_true,decide_eq_true_eq] at h
 have e:=Q09 s
 have:(base s).1.length≤32:=by
  have d:=h.2
  have b:=Ln d
  cases a:(base s).1 with
  | nil=>simp
  | cons c r=>
   rw[a] at b
   simp only[name,Bool.and_eq_true,decide_eq_true_eq] at b
   exact b.1.1
 omega
theorem Sh {c:Cla} (h:L8 c=0):T2 c∧Nm c∧c.name≠[]:=by
 unfold L8 at h
 split at h
 ·cases h
 ·rename_i b
  split at h
  ·rename_i i
   simp only[Xz,Bool.or_eq_true,decide_eq_true_eq,not_or,List.any_eq_true,not_exists,not_and] at b
   obtain ⟨⟨⟨o,u⟩,w⟩,s⟩:=b
   simp only[Wk,Bool.and_eq_true] at i
   obtain ⟨⟨⟨⟨⟨⟨⟨⟨l,z⟩,B⟩,A⟩,t⟩,v⟩,y⟩,n⟩,r⟩:=i
   have a:W7 c.name=true:=List.all_eq_true.1 l c.name (by simp)
   have d: ∀m∈c.methods,m.params.length≤32∧m.catches.length≤32∧m.code.length≤200:=fun m b=>by
    have:=o m b
    simp only[Uj,Bool.or_eq_true,decide_eq_true_eq,not_or] at this
    omega
   refine ⟨⟨by omega,by omega,by omega,fun m b=>by have:=d m b;unfold SmM;omega⟩,⟨by have:=Q9o a;omega,fun f k=>?_,fun m b=>?_⟩,fun e=>by rw[e] at a;simp[W7] at a⟩
   ·have:=List.all_eq_true.1 n f k
    simp only[Ns,Bool.and_eq_true] at this
    have g:=Q7E this.1
    have j:=Q2d this.2
    omega
   ·have:=List.all_eq_true.1 r m b
    simp only[B3,Bool.and_eq_true,Bool.or_eq_true,decide_eq_true_eq,List.all_eq_true] at this
    obtain ⟨⟨⟨_,g⟩,j⟩,_⟩:=this
    refine ⟨?_,fun p q=>by have:=Q2d (g p q);omega⟩
    rcases j with e | e
    ·rw[e];simp
    ·have:=Q2d e;omega
  ·cases h
end Go.Proofs.YtfppjenblllfaaaGreatDoor

namespace Go.Hm
open Go.Kd
theorem Uk {α:Type} {f:α→Int} {xs:List α} {n:Nat} (h:n<xs.length) (a:L4 f xs 0=L4 f (xs.drop n) n):L4 f xs 0=if f xs[n]=0 then L4 f (xs.drop (n+1)) (n+1) else some (n,f xs[n]):=by
 rw[a,List.drop_eq_getElem_cons h];rfl
theorem Q7k {a:List Cla} {n:Nat} (h:n<a.length) (k:X0):Y3 (a.take (n+1)) k=match Y3 (a.take n) k with
 | some i=>some i
 | none=>if a[n].name=k then some n else none:=by
 unfold Y3
 rw[List.take_add_one,List.getElem?_eq_getElem h]
 simp only[Option.toList_some,List.findIdx?_append]
 cases (a.take n).findIdx? fun c=>decide (c.name=k) with
 | some i=>rfl
 | none=>
  simp only[Option.none_or,List.findIdx?_cons,List.findIdx?_nil,List.length_take]
  by_cases e:a[n].name=k
  ·simp[e];omega
  ·simp[e]
end Go.Hm
namespace Go.Proofs.YtfppjenblllfaaaGreatDoor
open Go.Emb Go.RowKit Go.Kd Go.Hm
variable {w : World} {K : Value → World → Prop} {σ : Q5} {v : Value} {l : List Cla}
theorem Fj {a:List Cla} {n:Nat} (h:n<a.length):X9 a n=a[n].name:=by unfold X9;rw[List.getD_eq_getElem?_getD,List.getElem?_eq_getElem h];rfl
set_option maxHeartbeats 1000000 in
theorem X2h {lv:Value} (hs:X4 w σ) (hg:Glb σ) (hl:Sl 8 U5 σ lv l) (hlen:l.length≤1000) (hsm: ∀c∈l,T2 c)
 (h1: ∀i e w' σ',Eb L8 l=some (i,e)→Stp w σ w' σ'→K (.tuple #[.pointer none,I i,I e]) w')
 (h0: ∀v w' σ',Eb L8 l=none→Stp w σ w' σ'→Tab σ' v (Q4 l)→Ok (Q4 l)→G7 (Q4 l)→K (.tuple #[v,I 0,I 0]) w'):Q0 P F.cH [lv] w K:=Q6X (by
 unfold Q1Z
 have hgl:B7.length=8:=rfl
 have hal:(Q4 l).length=8+l.length:=by simp[Q4,hgl]
 refine X14 hs hg fun x0 w1 σ1 hk1 ha1=>?_
 refine Pl hk1.sat fun r w2 hr hk2 hm2=>?_
 have ha2:=ha1.up hk2
 have hx0:x0.cells= #[x0]∧x0.oneCell'=true:=Q3l ha1
 have hx0s: ∃a n c,x0= .slice a n c:=by
  obtain ⟨cells,q1,_⟩:=ha1
  rcases q1.2 with ⟨rfl,_⟩ | ⟨g,cap,cur,rfl,_⟩<;>exact ⟨_,_,_,rfl⟩
 have hx0r:x0.ownBlock≠some r:=fun e=>by have:=(ha1.mem r e).2.1;omega
 obtain ⟨a0,n0,c0,hx0e⟩:=hx0s
 rw[hx0e]
 refine W1 (cells:= #[.slice a0 n0 c0, .map (some r)]) (by kernel_rfl) ?_
 rw[←hx0e]
 refine Ad (cs:=[x0, .map (some r)]) hk2.sat fun bt w3 σ3 hbt hk3 hbm=>?_
 have hS3:=(hk1.trans hk2).trans hk3
 have ha3:=ha2.up hk3
 have hm3:=hm2.up hk3
 have hrw:w.heap.size≤r:=Nat.le_trans hk1.bel.size hr
 have hrl:r<w2.heap.size:=hm2.lt
 have hbtw:w.heap.size≤bt:=Zo hbt (hk1.trans hk2)
 have hrbt:r≠bt:=by omega
 have hx0b:x0.ownBlock≠some bt:=fun e=>by have:=(ha2.mem bt e).2.1;omega
 rw[E9,fa]
 refine Yv hbm rfl ?_
 refine Q6I ha3 ?_
 rw[hgl]
 have hl3:=hl.up hS3
 refine Q8 hl3 ?_
 -- classes, each by itself
 refine J1 l.length (fun n w'=> ∃σ' x,Stp w σ w' σ'∧SLe σ3 σ'∧Z5 σ' w' bt [x, .map (some r)]∧V7 w.heap.size T.a 8 U5 σ' w' x (B7++l.take n)∧E6 σ' w' r []∧x.ownBlock≠some bt∧x.ownBlock≠some r∧L4 L8 l 0=L4 L8 (l.drop n) n)
  ⟨σ3,x0,hS3,SLe.refl _,hbm,by simpa using ha3,hm3,hx0b,hx0r,rfl⟩ fun n w4 d hn hinv=>?_
 obtain ⟨σ4,x,hS4,le4,hb4,ha4,hm4,hxb,hxr,hfb⟩:=hinv
 refine Z1 ?_
 refine Q6 (fun hh=>?_) (fun hh=>?_)
 ·have hn':n<l.length:=by simpa using hh
  refine L7 (hl3.lift le4) hn' fun p cells hl1 hl2 hr1=>?_
  refine Y9 hS4.sat hl1 hl2 ?_
  refine Y6 hS4.sat (by rfl) hl2 (Rep.one hr1) fun q w5 σ5 hk5 hq5=>?_
  have hS5:=hS4.trans hk5
  have hr5:=RCl_lift hr1 ⟨hk5.le⟩
  refine Y9 hk5.sat hq5 hl2 ?_
  have hsmn:=hsm _ (List.getElem_mem hn')
  refine X0D hk5.sat (hg.lift ⟨hS5.le⟩) hr5 hsmn.1 fun w6 σ6 hk6=>?_
  have hS6:=hS5.trans hk6
  have hfb2:=Uk hn' hfb
  refine K1 ?_
  refine Q6 (fun hh2=>?_) (fun hh2=>?_)
  ·have hne: ¬L8 l[n]=0:=by simpa using hh2
   rw[if_neg hne] at hfb2
   refine h1 _ _ _ _ ?_ hS6
   unfold Eb
   rw[hfb2]
  ·have hz:L8 l[n]=0:=by simpa using hh2
   rw[if_pos hz] at hfb2
   have hk56:=hk5.trans hk6
   have hb6:=hb4.up hk56
   have ha6:=ha4.up hk56
   have hm6:=hm4.up hk56
   have hq6:=hq5.up hk6
   have hr6:=RCl_lift hr5 ⟨hk6.le⟩
   have hxs: ∀k,x.ownBlock=some k→k<w6.heap.size:=fun k hk=>(ha6.mem k hk).2.1
   refine U8 hk6.sat ?_
   refine X2 (.pointer (some ⟨bt,0,none⟩)) (fun w hb=>by rw[E9];exact X6 rfl) ?_
   refine X2 (.pointer (some ((⟨bt,0,none⟩:Addr).add 0))) (fun t w hb e=>by rw[e,fa];exact X6 rfl) ?_
   refine X2 x (fun t w hb e=>by rw[e];exact Yv (hb6.step hb.stp) rfl (X6 rfl)) ?_
   refine X2 (.agg cells.toArray) (fun w hb=>Y9 hb.sat hq6 hl2 (X6 rfl)) ?_
   refine Rb (Φ:=fun σ' v=> ∃ds:List Value,v= .agg ds.toArray∧ds.length=8∧U5 σ' l[n] ds) (fun t w hb e=>by
    rw[e];exact Q9z hb.sat hr6 hsmn fun lv fv mv w' σ' hk hrc=>Q1g hb hk ⟨_,rfl,rfl,hrc⟩) ?_
   refine Rb (w:=w6) (σ:=σ6) (Φ:=fun σ' v=>Sl 8 U5 σ' v [l[n]]) (fun t w hb e=>by
    obtain ⟨σ',hk,ds,rfl,hd1,hd2⟩:=e
    refine D2 (R:=U5) (sz:=8) hk.sat [.agg ds.toArray] [l[n]] rfl rfl (by simpa [Value.cells] using hd1) rfl ⟨by simpa [Value.cells] using hd2,trivial⟩ fun u w2 σ2 hk2 hu=>?_
    exact ⟨hk2.bel,σ2,hk.trans hk2,hu⟩) ?_
   rintro t43 t44 t45 t46 t47 t48 w7 hb7 _ _ e45 _ _ ⟨σ8,hk8,hu8⟩
   subst e45
   have hS8:=hS6.trans hk8
   have hb8:=hb6.up hk8
   have ha8:=ha6.up hk8
   have hm8:=hm6.up hk8
   have hbl:=hb6.lt
   have hml:=hm6.lt
   refine Dg hS8 ha8 hu8 rfl (by simp[hgl];omega) (by simp[hgl];omega) fun x' w9 hn9 hS9 ha9 hat9=>?_
   have hb9:=hb8.nx hn9 hxb
   have hm9:=hm8.nx hn9 hxr
   have hxb':x'.ownBlock≠some bt:=fun e=>by
    rcases hat9 with e2 | e2
    ·exact hxb (e2▸e)
    ·have:=e2 bt e;have:=hk8.bel.size;omega
   have hxr':x'.ownBlock≠some r:=fun e=>by
    rcases hat9 with e2 | e2
    ·exact hxr (e2▸e)
    ·have:=e2 r e;have:=hk8.bel.size;omega
   obtain ⟨hxc1,hxc2⟩:=Q3l ha9
   rw[E9,fa]
   refine Mn hb9 (by simp) hxc1 hxc2 fun w10 u10 hb10=>?_
   have hS10:=u10.stp hS9 hbtw hb9.1
   have k10:Kpt (fun k=>k=bt) w9 w10:=Kpt.of_upd u10 rfl
   refine E4 ?_
   refine Y2 hl3.max hn' ⟨σ8,x',hS10,le4.more ⟨fun b o e=>hk8.le _ _ (hk56.le _ _ e)⟩,hb10,?_,hm9.kp k10 hrbt,hxb',hxr',hfb2⟩
   have:=ha9.kp k10 fun k hk e=>hxb' (e▸hk)
   rw[List.take_add_one,List.getElem?_eq_getElem hn',←List.append_assoc]
   exact this
 have hn': ¬n<l.length:=by simpa using hh
 rw[List.take_of_length_le (by omega)] at ha4
 rw[List.drop_eq_nil_of_le (by omega)] at hfb
 have hfb:L4 L8 l 0=none:=hfb
 have hck:=F8 hfb
 have hcf: ∀c∈l,T2 c∧Nm c∧c.name≠[]:=fun c hc=>Sh (hck c hc)
 have hsmall: ∀c∈Q4 l,T2 c:=fun c hc=>by
  rcases List.mem_append.1 hc with hc | hc
  ·exact (Yp c hc).1
  ·exact (hcf c hc).1
 have hnmall: ∀c∈Q4 l,Nm c:=fun c hc=>by
  rcases List.mem_append.1 hc with hc | hc
  ·exact (Yp c hc).2.1
  ·exact (hcf c hc).2.1
 have hlenall:(Q4 l).length≤100000:=by omega
 unfold Eb at h1 h0
 rw[hfb] at h1 h0
 simp only at h1 h0
 -- from now on the classes stay
 obtain ⟨σ5,hS5,hv5,le5,old5⟩:=ha4.keep hS4
 have hb5:Z5 σ5 w4 bt _:=⟨(old5 bt fun e=>hxb e.symm).trans hb4.1,hb4.2⟩
 have hm5:E6 σ5 w4 r []:=⟨(old5 r fun e=>hxr e.symm).trans hm4.1,hm4.2⟩
 obtain ⟨σ6,hS6,hb6,le6,old6⟩:=hb5.keep hS5 hbtw
 have hm6:E6 σ6 w4 r []:=⟨(old6 r hrbt).trans hm5.1,hm5.2⟩
 have hv6:Sl 8 U5 σ6 x (Q4 l):=hv5.le le6
 clear hb5 hb4 ha4
 rw[E9,fa]
 refine ld hS6.sat hb6 rfl ?_
 refine Q8 hv6 ?_
 refine J1 (Q4 l).length (fun n w'=> ∃σ' m,Stp w σ w' σ'∧SLe σ6 σ'∧E6 σ' w' r m∧(∀k,M3 m k=(Y3 ((Q4 l).take n) k).map (fun i:Nat=>I (i:Int)))∧ ∀j,j<n→(Y3 ((Q4 l).take j) (X9 (Q4 l) j)).isSome=false)
  ⟨σ6,[],hS6,SLe.refl _,hm6,by simp[M3,Y3],by intro j hj;omega⟩ fun n w5 d hn2 hinv=>?_
 obtain ⟨σ7,m,hS7,le7,hm7,hlm,hnd⟩:=hinv
 refine Z1 ?_
 refine Q6 (fun hh2=>?_) (fun hh2=>?_)
 ·have hn3:n<(Q4 l).length:=by simpa using hh2
  refine L7 (hv6.lift le7) hn3 fun p cells hl1 hl2 hr1=>?_
  refine Y9 hS7.sat hl1 hl2 ?_
  refine Y6 hS7.sat (by rfl) hl2 (Rep.one hr1) fun q w6 σ8 hk8 hq8=>?_
  obtain ⟨lv',fv,mv,rfl,f1,f2,f3,f4,f5⟩:=hr1
  have hS8:=hS7.trans hk8
  have le8:SLe σ6 σ8:=le7.more ⟨hk8.le⟩
  have hm8:=hm7.up hk8
  have hb8:=hb6.lift le8
  rw[fa]
  refine ld hk8.sat hq8 rfl ?_
  refine Og ?_
  unfold Yx
  rw[E9,fa]
  refine ld hk8.sat hb8 rfl ?_
  refine Q4c X7 hm8.2 _ ?_
  refine U7 (vs:=[_,_]) rfl ?_
  refine U7 (vs:=[_,_]) rfl ?_
  have hna:=Fj hn3
  have hfd:=hlm (Q4 l)[n].name
  cases hfc:Y3 ((Q4 l).take n) (Q4 l)[n].name with
  | some i=>
   rw[hfc] at hfd
   rw[hfd]
   refine V1 ?_
   have hdup:Eo (Q4 l)=some n:=by
    unfold Eo
    rw[List.find?_range_eq_some]
    refine ⟨by rw[hna,hfc];rfl,by simpa using hn3,fun j hj=>by rw[hnd j hj];rfl⟩
   refine Du ⟨by omega,by omega⟩ ?_
   refine h1 _ _ _ _ ?_ hS8
   rw[hdup]
   rfl
  | none=>
   rw[hfc] at hfd
   rw[hfd]
   refine V6 ?_
   refine U8 hk8.sat ?_
   refine X2 (.pointer (some ⟨bt,0,none⟩)) (fun w hb=>by rw[E9];exact X6 rfl) ?_
   refine X2 (.pointer (some ((⟨bt,0,none⟩:Addr).add 1))) (fun t w hb e=>by rw[e,fa];exact X6 rfl) ?_
   refine X2 (.pointer (some (q.add 0))) (fun w hb=>by rw[fa];exact X6 rfl) ?_
   refine X2 (.map (some r)) (fun t w hb e=>by rw[e];exact ld hb.sat hb8 rfl (X6 rfl)) ?_
   refine X2 (S (Q4 l)[n].name) (fun t w hb e=>by rw[e];exact ld hb.sat hq8 rfl (X6 rfl)) ?_
   rintro t71 t72 t74 t73 t75 w9 hb9 _ _ _ rfl rfl
   refine Df X7 (hm8.up hb9.stp) _ (I n) fun w10 u10 hm10=>?_
   have hS9:=hS8.trans hb9.stp
   have hS10:=u10.stp hS9 hrw hm10.1
   refine E4 ?_
   refine Y2 (by omega) hn3 ⟨σ8,_,hS10,le8,hm10,fun k=>?_,fun j hj=>?_⟩
   ·rw[Q3p,Q7k hn3 k]
    by_cases e:(Q4 l)[n].name=k
    ·subst e
     rw[if_pos rfl,hfc];simp
    ·rw[if_neg e,hlm k]
     cases Y3 ((Q4 l).take n) k with
     | some i=>rfl
     | none=>simp[e]
   ·by_cases e:j=n
    ·subst e;rw[hna,hfc];rfl
    ·exact hnd j (by omega)
 have hn3: ¬n<(Q4 l).length:=by simpa using hh2
 have hne:n=(Q4 l).length:=by omega
 subst hne
 rw[List.take_of_length_le (Nat.le_refl _)] at hlm
 have hdup:Eo (Q4 l)=none:=by
  unfold Eo
  rw[List.find?_eq_none]
  intro j hj
  rw[hnd j (by simpa using hj)];simp
 rw[hdup] at h1 h0
 simp only at h1 h0
 have hown:=Fo hdup
 obtain ⟨σ8,hS8,hm8,le8,_⟩:=hm7.keep hS7 hrw
 have le68:SLe σ6 σ8:=le7.more ⟨le8⟩
 have ht8:Tab σ8 (.pointer (some ⟨bt,0,none⟩)) (Q4 l):=⟨⟨bt,0,none⟩,x,r,m,rfl,hb6.lift le68,hv6.lift le68,hm8,hlm⟩
 have hb8:=hb6.lift le68
 have hv8:=hv6.lift le68
 clear hm7 hm8 hh2 hn3 hn2 hh hn' hn hnd
 have hdr:(Q4 l).drop 8=l:=by simp[Q4,hgl]
 rw[E9,fa]
 refine ld hS8.sat hb8 rfl ?_
 refine Su hv8 (some (I (8:Nat))) none 8 (Q4 l).length (.inr rfl) (.inl ⟨rfl,rfl⟩) (by omega) (Nat.le_refl _) fun v9 hv9=>?_
 rw[hdr,List.take_of_length_le (by omega)] at hv9
 refine Q8 hv9 ?_
 refine J1 l.length (fun n w'=> ∃σ',Stp w σ w' σ'∧SLe σ8 σ'∧L4 (fun c=>(L5 (Q4 l) c:Int)) l 0=L4 (fun c=>(L5 (Q4 l) c:Int)) (l.drop n) n) ⟨σ8,hS8,SLe.refl _,rfl⟩ fun n w6 d hn hinv=>?_
 obtain ⟨σ9,hS9,le9,hfu⟩:=hinv
 refine Z1 ?_
 refine Q6 (fun hh=>?_) (fun hh=>?_)
 ·have hn':n<l.length:=by simpa using hh
  refine L7 (hv9.lift le9) hn' fun p cells hl1 hl2 hr1=>?_
  refine Y9 hS9.sat hl1 hl2 ?_
  refine Y6 hS9.sat (by rfl) hl2 (Rep.one hr1) fun q w7 σ10 hk10 hq10=>?_
  have hS10:=hS9.trans hk10
  refine Y9 hk10.sat hq10 hl2 ?_
  have hfu2:=Uk hn' hfu
  refine Q9d hk10.sat (ht8.lift (le9.more ⟨hk10.le⟩)) (RCl_lift hr1 ⟨hk10.le⟩) fun w8 σ11 hk11=>?_
  refine K1 ?_
  refine Q6 (fun hh2=>?_) (fun hh2=>?_)
  ·have hne: ¬(L5 (Q4 l) l[n]:Int)=0:=by simpa using hh2
   rw[if_neg hne] at hfu2
   refine h1 _ _ _ _ ?_ (hS10.trans hk11)
   rw[hfu2]
  ·have hz:(L5 (Q4 l) l[n]:Int)=0:=by simpa using hh2
   rw[if_pos hz] at hfu2
   refine E4 ?_
   exact Y2 hl3.max hn' ⟨σ11,hS10.trans hk11,le9.more ⟨fun b o e=>hk11.le _ _ (hk10.le _ _ e)⟩,hfu2⟩
 have hn': ¬n<l.length:=by simpa using hh
 rw[List.drop_eq_nil_of_le (by omega)] at hfu
 have hfu:L4 (fun c=>(L5 (Q4 l) c:Int)) l 0=none:=hfu
 rw[hfu] at h1 h0
 simp only at h1 h0
 have hup:=F8 hfu
 have ht9:=ht8.lift le9
 clear hh hn' hn
 rw[E9,fa]
 refine ld hS9.sat (hb8.lift le9) rfl ?_
 refine Su (hv8.lift le9) (some (I (8:Nat))) none 8 (Q4 l).length (.inr rfl) (.inl ⟨rfl,rfl⟩) (by omega) (Nat.le_refl _) fun v10 hv10=>?_
 rw[hdr,List.take_of_length_le (by omega)] at hv10
 rw[Qp]
 refine Cn (G0 (Q4 l)) hS9.sat hv10 (fun c cs w7 K hc hs7 hr hlen hK=>Y8 (first:=[.pointer (some ⟨bt,0,none⟩)]) (caps:=[]) ?_) fun w7 hb7=>?_
 ·exact X0T hs7 ht9 hlenall hsmall hr fun w' σ' hk=>hK w' hk.bel
 have hS10:=hS9.trans (Stp.of_below hS9.sat hb7)
 refine Xe ?_
 rw[G9]
 cases hlo:l.findIdx? (G0 (Q4 l)) with
 | some i=>
  refine V1 ?_
  refine h1 _ _ _ _ ?_ hS10
  rw[hlo];rfl
 | none=>
  rw[hlo] at h1 h0
  simp only at h1 h0
  refine V6 ?_
  have hlo': ∀c∈l,G0 (Q4 l) c=false:=fun c hc=>List.findIdx?_eq_none_iff.1 hlo c hc
  have hacy:=Q44 hown (fun c hc=>(hcf c hc).2.2) hlo'
  have hfull:Q9X (Q4 l):=fun c hc u hu=>by
   rcases List.mem_append.1 hc with hc | hc
   ·rw[(Yp c hc).2.2] at hu;simp at hu
   ·have:=hup c hc
    unfold L5 at this
    split at this
    ·simp at this
    ·split at this
     ·simp at this
     ·rename_i hnb
      have hnb:c.like.any (O7 (Q4 l))=false:=eq_false_of_ne_true hnb
      have:=List.any_eq_false.1 hnb u hu
      unfold O7 at this
      cases hd:lk (Q4 l) u with
      | none=>rw[hd] at this;simp at this
      | some d=>exact ⟨d,rfl⟩
  have hok:Ok (Q4 l):=⟨hacy,hlenall,hsmall,hfull,hnmall⟩
  refine X0N (frm:=8) hS10.sat (ht9.lift ⟨(Stp.of_below hS9.sat hb7).le⟩) hacy hown hlenall hsmall (by omega) (by omega) fun v11 w8 σ11 hk11 hv11 hol hoi=>?_
  have hS11:=hS10.trans hk11
  have ht11:=ht9.lift ⟨fun b o e=>hk11.le _ _ e⟩
  refine Q8 hv11 ?_
  have hil:(ints (U9 (Q4 l) 8)).length=(U9 (Q4 l) 8).length:=by simp
  rw[hil]
  refine J1 (U9 (Q4 l) 8).length (fun n w'=> ∃σ',Stp w σ w' σ'∧SLe σ11 σ'∧ ∀j∈(U9 (Q4 l) 8).take n,V2 (Q4 l) ((Q4 l).getD j Cla.zero)=0) ⟨σ11,hS11,SLe.refl _,by simp⟩ fun n w9 d hn hinv=>?_
  obtain ⟨σ12,hS12,le12,hno⟩:=hinv
  refine Z1 ?_
  refine Q6 (fun hh=>?_) (fun hh=>?_)
  ·have hn':n<(U9 (Q4 l) 8).length:=by simpa using hh
   refine L7 (hv11.lift le12) (by rw[hil];exact hn') fun p cells hl1 hl2 hr1=>?_
   obtain ⟨rfl,_⟩:=hr1
   refine X8 hS12.sat hl1 rfl ?_
   simp only[List.getElem_map]
   rw[E9,fa]
   have le8x:SLe σ8 σ12:=le9.more (SLe.more ⟨hk11.le⟩ le12)
   refine ld hS12.sat (hb8.lift le8x) rfl ?_
   have hji:=hoi _ (List.getElem_mem hn')
   refine L7 (hv8.lift le8x) hji fun p2 cells hl1 hl2 hr1=>?_
   refine Y9 hS12.sat hl1 hl2 ?_
   have hat:(Q4 l).getD (U9 (Q4 l) 8)[n] Cla.zero=(Q4 l)[(U9 (Q4 l) 8)[n]]:=by rw[List.getD_eq_getElem?_getD,List.getElem?_eq_getElem hji];rfl
   have hmem:=List.getElem_mem hji
   refine Q8N hS12.sat (ht11.lift le12) hok hr1 (hsmall _ hmem) (hnmall _ hmem) fun w10 σ13 hk13=>?_
   have hS13:=hS12.trans hk13
   refine K1 ?_
   refine Q6 (fun hh2=>?_) (fun hh2=>?_)
   ·have hne: ¬V2 (Q4 l) (Q4 l)[(U9 (Q4 l) 8)[n]]=0:=by simpa using hh2
    refine Du ⟨by omega,by omega⟩ ?_
    have hfind:(U9 (Q4 l) 8).find? (fun j=> !decide (V2 (Q4 l) ((Q4 l).getD j Cla.zero)=0))=some (U9 (Q4 l) 8)[n]:=by
     rw[List.find?_eq_some_iff_getElem]
     refine ⟨by rw[hat];simpa using hne,n,hn',rfl,fun j hj=>?_⟩
     have:=hno _ (List.mem_take_iff_getElem.2 ⟨j,by omega,rfl⟩)
     rw[this];simp
    have:=h1 (((U9 (Q4 l) 8)[n]:Int)-8) (V2 (Q4 l) (Q4 l)[(U9 (Q4 l) 8)[n]]) w10 σ13 (by rw[hfind];simp only[hat]) hS13
    exact this
   ·have hz:V2 (Q4 l) (Q4 l)[(U9 (Q4 l) 8)[n]]=0:=by simpa using hh2
    refine E4 ?_
    refine Y2 (by omega) hn' ⟨σ13,hS13,le12.more ⟨hk13.le⟩,fun j hj=>?_⟩
    rw[List.take_add_one,List.getElem?_eq_getElem hn'] at hj
    rcases List.mem_append.1 hj with hj | hj
    ·exact hno j hj
    ·simp at hj;subst hj;rw[hat];exact hz
  ·have hn': ¬n<(U9 (Q4 l) 8).length:=by simpa using hh
   rw[List.take_of_length_le (by omega)] at hno
   have hfind:(U9 (Q4 l) 8).find? (fun j=> !decide (V2 (Q4 l) ((Q4 l).getD j Cla.zero)=0))=none:=by
    rw[List.find?_eq_none]
    intro j hj
    rw[hno j hj];simp
   rw[hfind] at h0
   exact h0 _ _ _ rfl hS12 (ht11.lift le12) hok hown)
end Go.Proofs.YtfppjenblllfaaaGreatDoor

namespace Go.Hm
open Go.Kd
def Q7O (m:Hm.Met):Bool:= !(decide (50<m.code.length)||decide (8<m.params.length)||decide (8<m.catches.length))
def Q9Y (c:Cla):Bool:= !(decide (6<c.like.length)||decide (6<c.fields.length)||decide (6<c.methods.length))&&c.methods.all Q7O
def Q9M (l:List Cla):Bool:= !decide (12<l.length)&&l.all Q9Y
def sA:X0:=[65]
theorem Q8B {l:List Cla} (h:Q9M l=true):l.length≤12∧ ∀c∈l,Q9Y c=true:=by
 simp only[Q9M,Bool.and_eq_true,Bool.not_eq_true',decide_eq_false_iff_not,List.all_eq_true] at h
 exact ⟨by omega,h.2⟩
theorem X1B {l:List Cla} (h:Q9M l=true): ∀c∈l,T2 c:=by
 intro c f
 have:=(Q8B h).2 c f
 simp only[Q9Y,Q7O,Bool.and_eq_true,Bool.not_eq_true',Bool.or_eq_false_iff,decide_eq_false_iff_not,List.all_eq_true] at this
 obtain ⟨⟨⟨a,b⟩,g⟩,d⟩:=this
 refine ⟨by omega,by omega,by omega,fun m e=>?_⟩
 obtain ⟨⟨p,q⟩,r⟩:=d m e
 exact ⟨by omega,by omega,by omega⟩
end Go.Hm
namespace Go.Proofs.YtfppjenblllfaaaGreatDoor
open Go.Emb Go.RowKit Go.Kd Go.Hm
variable {w : World} {K : Value → World → Prop} {σ : Q5} {v : Value} {l : List Cla}
end Go.Proofs.YtfppjenblllfaaaGreatDoor

namespace Go.Proofs.YtfppjenblllfaaaGreatDoor
open Go.Emb Go.RowKit Go.Kd Go.Hm
variable {w : World} {K : Value → World → Prop} {σ : Q5} {v : Value} {l : List Cla}
theorem X2o:P.underlying T.r=some (.pointer T.u):=by kernel_rfl
theorem Q9J (d:Nat) (o:Option Addr):(Op.equalIn (d+1) T.r (.pointer o) (.pointer none)).run P w= .ok o.isNone w:=by
 cases o<;>simp[Op.equalIn,run_underlying X2o]
theorem Q8l {a:Addr} {c b:Operand} (h:K (.bool false) w):Q3 P .eql T.r c b (.pointer (some a)) (.pointer none) w K:=by
 have e:(Op.equal T.r (.pointer (some a)) (.pointer none)).run P w= .ok false w:=Q9J 9999 _
 unfold Q3
 rw[Y0 (v:= .bool false) (w':=w) (by simp[eqGuard,Go.binOp,e])]
 exact h
end Go.Proofs.YtfppjenblllfaaaGreatDoor

namespace Go.Hm
open Go.Kd
theorem Q47 {l:List Cla} {frm:Nat}: ∀(f:Nat) (a:List Nat) (i:Nat),(∀y∈a,y∈I2 l frm f a i)∧(0<f→frm≤i→i∈I2 l frm f a i):=by
 intro f
 induction f with
 | zero=>intro a i;exact ⟨fun y b=>b,fun h=>by omega⟩
 | succ f g=>
  intro a i
  have c: ∀(e:List X0) (o:List Nat),∀y∈o,y∈e.foldl (fun a n=>I2 l frm f a ((Y3 l n).getD 0)) o:=by
   intro e
   induction e with
   | nil=>intro o y b;exact b
   | cons u r d=>intro o y b;exact d _ y ((g o _).1 y b)
  simp only[I2]
  split
  ·exact ⟨fun y b=>b,fun _ h=>by omega⟩
  ·split
   ·rename_i h;exact ⟨fun y b=>b,fun _ _=>h⟩
   ·exact ⟨fun y b=>List.mem_append_left _ (c _ _ y b),fun _ _=>by simp⟩
theorem Q8O {l:List Cla} {frm i:Nat} (e:frm≤i) (f:i<l.length):i∈U9 l frm:=by
 unfold U9
 have key: ∀(is b:List Nat),(∀y∈b,y∈is.foldl (fun b i=>I2 l frm (l.length+1) b i) b)∧(i∈is→i∈is.foldl (fun b i=>I2 l frm (l.length+1) b i) b):=by
  intro is
  induction is with
  | nil=>intro b;exact ⟨fun y c=>c,fun h=>by simp at h⟩
  | cons a r d=>
   intro b
   refine ⟨fun y c=>(d _).1 y ((Q47 _ _ _).1 y c),fun h=>?_⟩
   rcases List.mem_cons.1 h with rfl | h
   ·exact (d _).1 _ ((Q47 _ _ _).2 (by omega) e)
   ·exact (d _).2 h
 refine (key _ _).2 ?_
 rw[List.mem_drop_iff_getElem]
 exact ⟨i-frm,by simp;omega,by simp;omega⟩
theorem Q8j {s:X0} (h:W7 s=true):name s=true:=Ln (by rw[h,Bool.or_true])
theorem Q54 {a:X0} (h:name a=true):D6 a=false:=by
 cases e:D6 a with
 | false=>rfl
 | true=>
  exfalso
  have d:2≤a.length∧a.drop (a.length-2)=[91,93]:=by simpa [D6] using e
  have b:(93:UInt8)∈a:=List.mem_of_mem_drop (i:=a.length-2) (by rw[d.2];simp)
  cases a with
  | nil=>simp at b
  | cons c r=>
   simp only[name,Bool.and_eq_true,List.all_eq_true] at h
   have:=h.2 _ b
   revert this;decide
end Go.Hm
namespace Go.Proofs.YtfppjenblllfaaaGreatDoor
open Go.Emb Go.RowKit Go.Kd Go.Hm
theorem Q8J {a:X0} (h:name a=true):base a=(a,0):=by rw[Xy,Q54 h];simp
theorem Dd {s:X0} (h:W7 s=true):D6 s=false∧base s=(s,0)∧right s=true∧plain s=false∧elem s=[]∧s≠D0∧s≠[]:=by
 have c:=Hm.Q8j h
 have b:=Q54 c
 have d:=Q8J c
 refine ⟨b,d,?_,?_,by simp[elem,b],?_,?_⟩
 ·simp[right,d,h]
 ·cases a:plain s with
  | false=>rfl
  | true=>
   simp only[plain,Bool.or_eq_true,decide_eq_true_eq] at a
   rcases a with (e | e) | e<;>subst e<;>revert h<;>decide
 ·rintro rfl;revert h;decide
 ·rintro rfl;revert h;decide
structure Wf (l : List Cla) : Prop where
  ck : ∀ c ∈ l, L8 c = 0
  own : G7 (Q4 l)
  acy : Ye (Q4 l)
  up : ∀ c ∈ l, L5 (Q4 l) c = 0
  mem : ∀ c ∈ l, V2 (Q4 l) c = 0
theorem X2q {l:List Cla} (h:Eb L8 l=none):Wf l:=by
 unfold Eb at h
 split at h
 ·cases h
 rename_i n
 split at h
 ·cases h
 rename_i m
 split at h
 ·cases h
 rename_i o
 split at h
 ·cases h
 rename_i p
 split at h
 ·cases h
 rename_i k
 have d:=F8 n
 have a:=Fo m
 have g: ∀c∈l,G0 (Q4 l) c=false:=fun c b=>List.findIdx?_eq_none_iff.1 p c b
 refine ⟨d,a,Q44 a (fun c b=>(Sh (d c b)).2.2) g,fun c b=>by have:=F8 o c b;omega,fun c b=>?_⟩
 obtain ⟨i,j,rfl⟩:=List.getElem_of_mem b
 have f:B7.length=8:=rfl
 have:=List.find?_eq_none.1 k (8+i) (Q8O (by omega) (by simp[Q4,f];omega))
 have e:(Q4 l).getD (8+i) Cla.zero=l[i]:=by
  rw[List.getD_eq_getElem?_getD,Q4,List.getElem?_append_right (by omega),f,show 8+i-8=i by omega,List.getElem?_eq_getElem j];rfl
 rw[e] at this
 simpa using this
section
variable {l : List Cla} (wf : Wf l)
include wf
theorem Wf.names {c:Cla} (hc:c∈Q4 l):W7 c.name=true:=by
 rcases List.mem_append.1 hc with hc | hc
 ·have: ∀c∈B7,W7 c.name=true:=by decide+kernel
  exact this c hc
 ·have:=wf.ck c hc
  unfold L8 at this
  split at this
  ·cases this
  ·split at this
   ·rename_i a
    simp only[Wk,Bool.and_eq_true] at a
    obtain ⟨⟨⟨⟨⟨⟨⟨⟨b,_⟩,_⟩,_⟩,_⟩,_⟩,_⟩,_⟩,_⟩:=a
    exact List.all_eq_true.1 b c.name (by simp)
   ·cases this
theorem Wf.lkn {n:X0} {c:Cla} (h:lk (Q4 l) n=some c):W7 n=true:=by
 obtain ⟨e,a,_⟩:=U1 h
 rw[←e];exact wf.names a
theorem Wf.root:lk (Q4 l) Z7=some ⟨Z7,[],[],false,false,false,[],[]⟩:=wf.own.lk (c:=⟨Z7,[],[],false,false,false,[],[]⟩) (List.mem_append_left _ (by decide))
theorem Wf.fault:lk (Q4 l) V9=some ⟨V9,Z7,[],false,false,false,[⟨P1,O4,false⟩],[]⟩:=wf.own.lk (c:=⟨V9,Z7,[],false,false,false,[⟨P1,O4,false⟩],[]⟩) (List.mem_append_left _ (by decide))
theorem Wf.super {c:Cla} (hc:c∈Q4 l):c.name=Z7∨ ∃d,lk (Q4 l) c.super=some d:=by
 rcases List.mem_append.1 hc with hc | hc
 ·have: ∀c∈B7,c.name=Z7∨c.super=Z7∨c.super=V9:=by decide
  rcases this c hc with h | h | h
  ·exact .inl h
  ·exact .inr ⟨_,h▸wf.root⟩
  ·exact .inr ⟨_,h▸wf.fault⟩
 ·right
  have:=wf.up c hc
  unfold L5 at this
  split at this
  ·cases this
  ·rename_i h
   unfold P8 at h
   cases a:lk (Q4 l) c.super with
   | none=>rw[a] at h;simp at h
   | some d=>exact ⟨d,rfl⟩
theorem Wf.toRoot: ∀(k:Nat) {n:X0} {c:Cla},F0 (Q4 l) n<k→lk (Q4 l) n=some c→Hm.Reach (lk (Q4 l)) n Z7:=by
 intro k
 induction k with
 | zero=>intro n c h;omega
 | succ k i=>
  intro n c j a
  obtain ⟨e,g,_⟩:=U1 a
  rcases wf.super g with h | ⟨d,f⟩
  ·rw[←e,h];exact .refl wf.root
  ·have b:c.super∈J4 c:=by simp[J4]
   exact .step a b (i (by have:=Qe wf.acy a b f;omega) f)
theorem Wf.atRoot {b:X0} (h:Hm.Reach (lk (Q4 l)) Z7 b):b=Z7:=by
 cases h with
 | refl=>rfl
 | step c a f=>
  rw[wf.root] at c;cases c
  simp[J4] at a;subst a
  obtain ⟨d,e⟩:=f.left
  exact absurd (wf.lkn e) (by decide)
theorem Wf.kind {n:X0} {c:Cla} (h:lk (Q4 l) n=some c):N0 (Q4 l) n=true:=by
 obtain ⟨g,a,b,f,e,d,i⟩:=Dd (wf.lkn h)
 have:Al (Q4 l) n=true:=by rw[Q0j,h];rfl
 simp[N0,b,a,this]
theorem Wf.sub_iff {a b:X0}:W9 (Q4 l) a b=true↔N0 (Q4 l) a=true∧N0 (Q4 l) b=true∧(a=b∨(plain a=false∧plain b=false∧(a=D0∨(elem a≠[]∧b=Z7)∨(lk (Q4 l) a≠none∧Hm.Reach (lk (Q4 l)) a b)))):=by
 unfold W9
 cases k:N0 (Q4 l) a<;>cases m:N0 (Q4 l) b<;>simp
 by_cases e:a=b
 ·simp[e]
 cases pa:plain a<;>cases j:plain b<;>simp[e]
 by_cases g:a=D0
 ·simp[g]
 simp only[g,false_or]
 by_cases d:elem a=[]
 ·simp only[d,if_true,not_true_eq_false,false_and,false_or,Zy]
  constructor
  ·intro h;obtain ⟨c,i⟩:=h.left;exact ⟨by rw[i];simp,h⟩
  ·intro h;exact h.2
 ·simp only[d,if_false,not_false_eq_true,true_and]
  constructor
  ·exact .inl
  ·rintro (h | ⟨h,_⟩)
   ·exact h
   ·cases f:lk (Q4 l) a with
    | none=>exact absurd f h
    | some c=>exact absurd (Dd (wf.lkn f)).2.2.2.2.1 d
theorem Wf.sub_class {a b:X0} {c:Cla} (e:lk (Q4 l) a=some c):W9 (Q4 l) a b=true↔Hm.Reach (lk (Q4 l)) a b:=by
 obtain ⟨n,k,m,j,i,g,o⟩:=Dd (wf.lkn e)
 rw[wf.sub_iff]
 constructor
 ·rintro ⟨_,_,rfl | ⟨_,_,h | ⟨h,_⟩ | ⟨_,h⟩⟩⟩
  ·exact .refl e
  ·exact absurd h g
  ·exact absurd i h
  ·exact h
 ·intro h
  obtain ⟨d,f⟩:=h.right
  exact ⟨wf.kind e,wf.kind f, .inr ⟨j,(Dd (wf.lkn f)).2.2.2.1, .inr (.inr ⟨by rw[e];simp,h⟩)⟩⟩
end
end Go.Proofs.YtfppjenblllfaaaGreatDoor

namespace Go.Proofs.YtfppjenblllfaaaGreatDoor
open Go.Emb Go.RowKit Go.Kd Go.Hm
theorem Q60 {L:List Cla} (f:Ye L): ∀(k:Nat) {n:X0} {c:Cla},F0 L n<k→c∈chain L n→Hm.Reach (lk L) n c.name∧lk L c.name=some c:=by
 intro k
 induction k with
 | zero=>intro n c h;omega
 | succ k o=>
  intro n c p hc
  rw[C9 f] at hc
  cases a:lk L n with
  | none=>rw[a] at hc;simp at hc
  | some d=>
   rw[a] at hc
   have b:=(U1 a).1
   rcases List.mem_cons.1 hc with rfl | hc
   ·rw[b];exact ⟨.refl a,a⟩
   ·cases g:lk L d.super with
    | none=>rw[G3 g] at hc;simp at hc
    | some e=>
     have i:d.super∈J4 d:=by simp[J4]
     obtain ⟨m,j⟩:=o (by have:=Qe f a i g;omega) hc
     exact ⟨.step a i m,j⟩
theorem Q9b {l:List Cla} {a:X0} (h:N0 (Q4 l) a=true) (f:plain a=false):a=D0∨elem a≠[]∨ ∃c,lk (Q4 l) a=some c:=by
 simp only[N0,Bool.or_eq_true,decide_eq_true_eq,Bool.and_eq_true] at h
 rcases h with h | ⟨e,h⟩
 ·exact .inl h
 ·by_cases d:elem a=[]
  ·right;right
   have b:D6 a=false:=by
    cases b:D6 a with
    | false=>rfl
    | true=>
     have i:=Q7R b e
     have:elem a=Kd.cutA a:=by simp[elem,b,e]
     rw[this] at d
     have:=B6 b
     rw[d] at this;simp at this;omega
   have g:base a=(a,0):=by rw[Xy,b];simp
   rw[g,f] at h
   have h:Al (Q4 l) a=true:=by simpa using h
   rw[Q0j] at h
   exact Option.isSome_iff_exists.1 h
  ·exact .inr (.inl d)
section
variable {l : List Cla} (wf : Wf l)
include wf
theorem Wf.kRoot:N0 (Q4 l) Z7=true:=wf.kind wf.root
theorem Wf.none_null:lk (Q4 l) D0=none:=by
 cases h:lk (Q4 l) D0 with
 | none=>rfl
 | some c=>exact absurd (wf.lkn h) (by decide)
theorem Wf.sub_root {a:X0} (h:N0 (Q4 l) a=true) (b:plain a=false):W9 (Q4 l) a Z7=true:=by
 rw[wf.sub_iff]
 refine ⟨h,wf.kRoot, .inr ⟨b,by decide,?_⟩⟩
 rcases Q9b h b with e | e | ⟨c,e⟩
 ·exact .inl e
 ·exact .inr (.inl ⟨e,rfl⟩)
 ·exact .inr (.inr ⟨by rw[e];simp,wf.toRoot _ (Nat.lt_succ_self _) e⟩)
end
end Go.Proofs.YtfppjenblllfaaaGreatDoor

namespace Go.Hm
open Go.Kd
structure Shp where
  seen : Bool
  stack : List X0
  locals : List X0
deriving DecidableEq
def Shp.zero:Shp:=⟨false,[],[]⟩
def T9 (l:List Cla) (a b:X0):X0:=if a=[]∨b=[] then [] else W8 l a b
def R6 (l:List Cla) (a b:Shp):Shp×Int:=
 if a.seen=false then (b,0) else if b.seen=false then (a,0)
 else if a.stack.length≠b.stack.length∨a.locals.length≠b.locals.length then (Shp.zero,75)
 else if (List.zipWith (W8 l) a.stack b.stack).any (fun s=>decide (s=[])) then (Shp.zero,75)
 else (⟨true,List.zipWith (W8 l) a.stack b.stack,List.zipWith (T9 l) a.locals b.locals⟩,0)
theorem Hy (l:List Cla):N0 l []=false:=by
 have:right []=false:=by decide
 simp[N0,this,D0]
theorem Q6z (l:List Cla) (a:X0):W9 l a []=false:=by
 unfold W9;rw[Hy];simp
theorem Q6d (l:List Cla) (a:X0):W9 l [] a=false:=by
 unfold W9;rw[Hy];simp
theorem Q4z (l:List Cla) (a b:X0):T9 l a b=W8 l a b:=by
 unfold T9
 split
 ·rename_i h
  unfold W8
  rcases h with rfl | rfl
  ·rw[Q6d,Q6z,Hy];simp
  ·rw[Q6d,Q6z,Hy];simp
 ·rfl
end Go.Hm
namespace Go.Proofs.YtfppjenblllfaaaGreatDoor
open Go.Emb Go.RowKit Go.Kd Go.Hm
section
variable {l : List Cla} (wf : Wf l)
include wf
end
end Go.Proofs.YtfppjenblllfaaaGreatDoor

namespace Go.Emb
open Go.RowKit Go.Hm
def U2 (σ:Q5) (s:Shp) (cs:List Value):Prop:= ∃sv a,cs=[.bool s.seen,sv,a]∧Sl 1 Y1 σ sv s.stack∧Sl 1 Y1 σ a s.locals
instance:Rep U2:=⟨fun hk ⟨sv,lv,h1,h2,h3⟩=>⟨sv,lv,h1,h2.le hk,h3.le hk⟩,fun ⟨sv,lv,h1,h2,h3⟩ u hu=>by
 rw[h1] at hu;simp at hu;rcases hu with rfl | rfl | rfl
 ·rfl
 ·exact F9 h2
 ·exact F9 h3⟩
end Go.Emb
namespace Go.Proofs.YtfppjenblllfaaaGreatDoor
open Go.Emb Go.RowKit Go.Kd Go.Hm Go.ChangeShapes Go.WideShapes
section
variable {H : Type} {enc : TypeId × Value → H} {W : World} {cs : List Value} {fuel : Nat} {x : DataW H × List MemPlace} {v : Value} {d : DataW H} {p : List MemPlace}
def X2e:Array Field:= #[⟨"Seen",T.m,0,false, "", "",0⟩,⟨"Stack",T.c,1,false, "", "",8⟩,⟨"Locals",T.c,2,false, "", "",32⟩]
theorem Q1v:P.underlying T.f=some (.struct X2e):=by kernel_rfl
theorem X24 (h:DataW.trod enc P W 0 (fun _=>true) true fuel T.f cs=some x) (a:Wt P T.f x.1): ∃y,U2 (Ul W) y cs:=by
 obtain ⟨r,u,q,rfl⟩:=Q7n (X1W Q1v (by kernel_rfl) h)
 obtain ⟨_,_,j,w0⟩:=Q2f (o:=0) Q1v h a 0 rfl Q8q
 obtain ⟨_,_,k,w1⟩:=Q2f (o:=1) Q1v h a 1 rfl (by kernel_rfl)
 obtain ⟨_,_,n,i⟩:=Q2f (o:=2) Q1v h a 2 rfl (by kernel_rfl)
 obtain ⟨g,q0⟩:=X0L Q01 j
 obtain ⟨s,f,b,l⟩:=X0e (R:=Y1) Q87 Gw (by decide) (fun _ _ _ h a=>Q8f X7 h a) k w1
 obtain ⟨t,m,c,e⟩:=X0e (R:=Y1) Q87 Gw (by decide) (fun _ _ _ h a=>Q8f X7 h a) n i
 simp at q0 b c
 subst q0 b c
 exact ⟨⟨g,f,m⟩,_,_,rfl,l,e⟩
set_option maxRecDepth 100000 in
theorem Q90 {base:Nat} (b:Value.okWide P W .any base T.f v) (h:DataW.Trod enc P W 0 (fun _=>true) true T.f v d p) (c:Wt P T.f d): ∃y cs,v= .agg (List.toArray cs)∧U2 (Ul W) y cs:=by
 have a:=b
 unfold Value.okWide at a
 rw[Q1v] at a
 obtain ⟨cs,rfl,_⟩:=a
 unfold DataW.Trod at h
 obtain ⟨fuel,h⟩:=h
 obtain ⟨y,e⟩:=X24 h c
 obtain ⟨cs⟩:=cs
 exact ⟨y,cs,rfl,by simpa [Value.cells] using e⟩
end
end Go.Proofs.YtfppjenblllfaaaGreatDoor

namespace Go.Proofs.YtfppjenblllfaaaGreatDoor
open Go.Emb Go.RowKit Go.Kd Go.Hm
variable {w : World} {K : Value → World → Prop} {σ : Q5}
end Go.Proofs.YtfppjenblllfaaaGreatDoor

namespace Go.Proofs.YtfppjenblllfaaaGreatDoor
open Go.Emb Go.RowKit Go.Kd Go.Hm
variable {w : World} {K : Value → World → Prop} {σ : Q5} {l : List Cla} {v : Value}
theorem C2 {n:X0} (t:X4 w σ) (m:Sl 8 U5 σ v l) (h:K (I (W3 (Y3 l n))) w):Q0 P F.c [v,S n] w K:=Kf (by
 unfold Mj
 refine J1 l.length (fun k w'=>w'=w∧ ∀j (g:j<l.length),j<k→ ¬l[j].name=n) ⟨rfl,fun j _ h=>by omega⟩ fun k w1 d A q=>?_
 obtain ⟨rfl,f⟩:=q
 refine Q8 m ?_
 refine Z1 ?_
 refine Q6 (fun i=>?_) (fun i=>?_)
 ·have a:k<l.length:=by simpa using i
  refine L7 m a fun p cells o u r=>?_
  obtain ⟨B,C,mv,rfl,z,H,D,y,E⟩:=r
  rw[fa]
  refine ld t o rfl ?_
  refine Vx ?_
  refine Q6 (fun b=>?_) (fun b=>?_)
  ·have b:l[k].name=n:=by simpa using b
   have:Y3 l n=some k:=by
    unfold Y3
    rw[List.findIdx?_eq_some_iff_getElem]
    exact ⟨a,by simpa using b,fun j g=>by simpa using f j (by omega) g⟩
   rw[this] at h
   exact h
  ·have b: ¬l[k].name=n:=by simpa using b
   refine E4 ?_
   refine Y2 m.max a ⟨rfl,fun j g s=>?_⟩
   by_cases e:j=k
   ·subst e;exact b
   ·exact f j g (by omega)
 ·have a: ¬k<l.length:=by simpa using i
  have:Y3 l n=none:=by
   unfold Y3
   rw[List.findIdx?_eq_none_iff]
   intro c i
   obtain ⟨j,g,rfl⟩:=List.getElem_of_mem i
   simpa using f j g (by omega)
  rw[this] at h
  exact h)
end Go.Proofs.YtfppjenblllfaaaGreatDoor

namespace Go.Proofs.YtfppjenblllfaaaGreatDoor
open Go.Emb Go.RowKit Go.Kd Go.Hm
variable {w : World} {K : Value → World → Prop} {σ : Q5} {l : List Cla} {v : Value}
theorem Q4W {a:X0} (c:a.length≤Z9) (h:K (S (base a).1) w):Q0 P F.aJ [S a] w K:=Iy (by
 unfold Ma
 have d:=Q09 a
 have b:a.length≤140737488355328:=by simp only[Z9] at c;omega
 rw[D7 X7]
 refine Q1f a b ?_
 (try simp only[↓Mr,Mr,Mb,reduceIte])
 rw[F4 (n:=2*((base a).2:Int)) (by omega) (by omega),F4 (by omega) (by omega),K2 X7 (by omega) (by omega)]
 rw[show ((a.length:Int)-2*((base a).2:Int)).toNat=a.length-2*(base a).2 from by omega,Q2S]
 exact h)
theorem Uo {s:X0} (f:X4 w σ) (g:Sl 8 U5 σ v l) (c:s.length≤Z9) (h:K (.bool (N0 l s)) w):Q0 P F.r [v,S s] w K:=Kt (by
 unfold Mo
 have b:s.length≤140737488355328:=by simp only[Z9] at c;omega
 unfold N0 at h
 refine Vx ?_
 by_cases a:s=D0
 ·have:decide (s=[110,117,108,108])=true:=by rw[decide_eq_true_eq];exact a
  simp only[this,↓M1,M1,Mb,reduceIte]
  simp only[a,decide_true,Bool.true_or] at h
  exact h
 ·have:decide (s=[110,117,108,108])=false:=by rw[decide_eq_false_iff_not];exact a
  simp only[this,↓M1,M1,Mb,reduceIte]
  simp only[a,decide_false,Bool.false_or] at h
  refine Vb s b ?_
  cases e:right s with
  | false=>(try simp only[↓M1,M1,Mb,reduceIte]);simpa [e] using h
  | true=>
   (try simp only[↓M1,M1,Mb,reduceIte])
   refine Q4W c ?_
   (try simp only[↓M1,M1,Mb,reduceIte])
   refine Zt _ ?_
   simp only[e,Bool.true_and] at h
   cases d:plain (base s).1 with
   | true=>(try simp only[↓M1,M1,Mb,reduceIte]);simpa [d] using h
   | false=>
    (try simp only[↓M1,M1,Mb,reduceIte])
    refine Q4W c ?_
    (try simp only[↓M1,M1,Mb,reduceIte])
    refine C2 f g ?_
    refine Xe ?_
    rw[G9]
    (try simp only[↓M1,M1,Mb,reduceIte])
    simpa [d,Al] using h)
end Go.Proofs.YtfppjenblllfaaaGreatDoor

namespace Go.Proofs.YtfppjenblllfaaaGreatDoor
open Go.Emb Go.RowKit Go.Kd Go.Hm
variable {w : World} {K : Value → World → Prop} {σ : Q5} {l : List Cla} {v : Value}
theorem Q8I {s:X0} (b:X4 w σ) (c:Sl 8 U5 σ v l) (d:s.length≤Z9) (h:K (.bool (D9 l s)) w):Q0 P F.bg [v,S s] w K:=Gq (by
 unfold Wq
 unfold D9 at h
 refine Wo ?_
 have e:decide (s=[110,117,108,108])=decide (s=D0):=rfl
 rw[e]
 cases a:decide (s=D0) with
 | true=>
  rw[a] at h
  (try simp only[↓M1,M1,Mb,reduceIte])
  exact h
 | false=>
  rw[a] at h
  (try simp only[↓M1,M1,Mb,reduceIte])
  refine Uo b c d ?_
  (try simp only[↓M1,M1,Mb,reduceIte])
  simpa using h)
end Go.Proofs.YtfppjenblllfaaaGreatDoor

namespace Go.Proofs.YtfppjenblllfaaaGreatDoor
open Go.Emb Go.RowKit Go.Kd Go.Hm
variable {w : World} {K : Value → World → Prop} {σ : Q5} {l : List Cla} {v : Value}
def Ew (c:Cla) (n:X0):Option Nat:=c.methods.findIdx? fun m=>decide (m.name=n)
theorem Q6y {c:Cla} {cs:List Value} {n:X0} (B:X4 w σ) (o:U5 σ c cs) (h: ∀w' C,Stp w σ w' C→K (I (W3 (Ew c n))) w'):Q0 P F.aR [.agg cs.toArray,S n] w K:=Tt (by
 unfold Nv
 obtain ⟨Q,R,mv,rfl,L,Y,r,J,W⟩:=o
 refine Y7 B fun q w0 σ0 a t=>?_
 have r:=r.up a
 refine J1 c.methods.length (fun k w'=>w'=w0∧ ∀j (i:j<c.methods.length),j<k→ ¬c.methods[j].name=n) ⟨rfl,fun j _ h=>by omega⟩ fun k w1 d O y=>?_
 obtain ⟨rfl,g⟩:=y
 rw[fa]
 refine ld a.sat t rfl ?_
 refine Q8 r ?_
 refine Z1 ?_
 refine Q6 (fun o=>?_) (fun o=>?_)
 ·have b:k<c.methods.length:=by simpa using o
  rw[fa]
  refine ld a.sat t rfl ?_
  refine L7 r b fun p cells s D z=>?_
  obtain ⟨pv,M,N,rfl,V,U,E,H,X⟩:=z
  rw[fa]
  refine ld a.sat s rfl ?_
  refine Vx ?_
  refine Q6 (fun f=>?_) (fun f=>?_)
  ·have f:c.methods[k].name=n:=by simpa using f
   have:Ew c n=some k:=by
    unfold Ew
    rw[List.findIdx?_eq_some_iff_getElem]
    exact ⟨b,by simpa using f,fun j i=>by simpa using g j (by omega) i⟩
   rw[this] at h
   exact h _ _ a
  ·have f: ¬c.methods[k].name=n:=by simpa using f
   refine E4 ?_
   refine Y2 r.max b ⟨rfl,fun j i A=>?_⟩
   by_cases e:j=k
   ·subst e;exact f
   ·exact g j i (by omega)
 ·have b: ¬k<c.methods.length:=by simpa using o
  have:Ew c n=none:=by
   unfold Ew
   rw[List.findIdx?_eq_none_iff]
   intro m u
   obtain ⟨j,i,rfl⟩:=List.getElem_of_mem u
   simpa using g j i (by omega)
  rw[this] at h
  exact h _ _ a)
end Go.Proofs.YtfppjenblllfaaaGreatDoor

namespace Go.Proofs.YtfppjenblllfaaaGreatDoor
open Go.Emb Go.RowKit Go.Kd Go.Hm
variable {w : World} {K : Value → World → Prop} {σ : Q5} {l : List Cla} {v : Value}
theorem Rk {n:X0} {d:Cla} (b:X4 w σ) (c:Sl 8 U5 σ v l) (f:lk l n=some d) (h: ∀i:Nat,l[i]? =some d→Y3 l n=some i→K (I i) w):Q0 P F.c [v,S n] w K:=by
 obtain ⟨_,_,i,a,e⟩:=U1 f
 refine C2 b c ?_
 rw[a];exact h i e a
theorem Tj {n:X0} (b:X4 w σ) (d:Sl 8 U5 σ v l) (f:lk l n=none) (h:K (I (-1)) w):Q0 P F.c [v,S n] w K:=by
 refine C2 b d ?_
 cases e:Y3 l n with
 | none=>exact h
 | some i=>obtain ⟨c,a,_⟩:=Xt e;rw[f] at a;cases a
end Go.Proofs.YtfppjenblllfaaaGreatDoor

namespace Go.Proofs.YtfppjenblllfaaaGreatDoor
open Go.Emb Go.RowKit Go.Kd Go.Hm
variable {w : World} {K : Value → World → Prop} {σ : Q5} {l : List Cla} {v : Value}
theorem Q9r:decide ((-1:Int)<0)=true:=by decide
theorem Q5j (i:Nat):decide ((i:Int)<0)=false:=by rw[decide_eq_false_iff_not];omega
theorem Q7p {c:Cla} {cs:List Value} (hs:X4 w σ) (W:Sl 8 U5 σ v l) (B:U5 σ c cs) (h: ∀w' σ',Stp w σ w' σ'→K (I (L5 l c)) w'):Q0 P F.b0 [v, .agg cs.toArray] w K:=Bb (by
 unfold Vk
 obtain ⟨lv,fv,mv,rfl,z,f2,f3,f4,f5⟩:=B
 refine Y7 hs fun q w0 σ0 p R=>?_
 have z:=z.up p
 have b:=W.up p
 have a:=p.sat
 have y: ∀n:Nat,L5 l c=n→K (I n) w0:=fun n e=>by rw[←e];exact h _ _ p
 clear h
 (try simp only[↓M1,M1,Mb,reduceIte])
 refine ld a R rfl ?_
 have m:P8 l c.super=true→K (I (61:Nat)) w0:=fun e=>y 61 (by unfold L5;rw[if_pos e])
 cases J:lk l c.super with
 | none=>
  refine Tj a b J ?_
  simp only[Q9r,↓M1,M1,Mb,reduceIte]
  exact m (by unfold P8;rw[J])
 | some d=>
  refine Rk a b J fun i V hf=>?_
  obtain ⟨t,Q⟩:=List.getElem?_eq_some_iff.1 V
  simp only[Q5j,↓M1,M1,Mb,reduceIte]
  refine J0 b t ?_
  obtain ⟨ac,ad,ai,O,r1⟩:=b.elC t
  rw[Q] at O
  (try simp only[↓M1,M1,Mb,reduceIte])
  refine ld a O rfl ?_
  have g:P8 l c.super=(d.iface||d.fin):=by unfold P8;rw[J]
  cases D:d.iface with
  | true=>
   rw[D] at g
   (try simp only[↓M1,M1,Mb,reduceIte])
   exact m (by rw[g];rfl)
  | false=>
   rw[D] at g
   (try simp only[↓M1,M1,Mb,reduceIte])
   refine J0 b t ?_
   (try simp only[↓M1,M1,Mb,reduceIte])
   refine ld a O rfl ?_
   cases E:d.fin with
   | true=>
    rw[E] at g
    (try simp only[↓M1,M1,Mb,reduceIte])
    exact m (by rw[g];rfl)
   | false=>
    rw[E] at g
    have A:P8 l c.super=false:=g
    (try simp only[↓M1,M1,Mb,reduceIte])
    refine J1 c.like.length (fun k w'=>w'=w0∧(c.like.take k).any (O7 l)=false) ⟨rfl,rfl⟩ fun k w1 d1 hk N=>?_
    obtain ⟨hw,u⟩:=N
    subst hw
    (try simp only[↓M1,M1,Mb,reduceIte])
    refine ld a R rfl ?_
    refine Q8 z ?_
    refine Z1 ?_
    refine Q6 (fun B=>?_) (fun B=>?_)
    ·have f:k<c.like.length:=by simpa using B
     have r:O7 l c.like[k]=true→K (I (62:Nat)) w1:=fun e=>y 62 (by
      unfold L5;rw[A,C4 f e];rfl)
     have s:O7 l c.like[k]=false→(c.like.take (k+1)).any (O7 l)=false:=fun e=>by rw[M4 f,u,e];rfl
     (try simp only[↓M1,M1,Mb,reduceIte])
     refine ld a R rfl ?_
     refine J0 z f ?_
     obtain ⟨Z,_⟩:=z.elS f
     refine X8 a Z rfl ?_
     cases L:lk l c.like[k] with
     | none=>
      refine Tj a b L ?_
      simp only[Q9r,↓M1,M1,Mb,reduceIte]
      exact r (by unfold O7;rw[L])
     | some e=>
      refine Rk a b L fun j hj X=>?_
      obtain ⟨C,M⟩:=List.getElem?_eq_some_iff.1 hj
      simp only[Q5j,↓M1,M1,Mb,reduceIte]
      refine J0 b C ?_
      obtain ⟨Y,aa,ab,U,r3⟩:=b.elC C
      rw[M] at U
      (try simp only[↓M1,M1,Mb,reduceIte])
      refine ld a U rfl ?_
      have o:O7 l c.like[k]= !e.iface:=by unfold O7;rw[L]
      cases H:e.iface with
      | true=>
       rw[H] at o
       (try simp only[↓M1,M1,Mb,reduceIte])
       exact Y2 z.max f ⟨rfl,s o⟩
      | false=>
       rw[H] at o
       (try simp only[↓M1,M1,Mb,reduceIte])
       exact r o
    ·have f: ¬k<c.like.length:=by simpa using B
     rw[D5 f] at u
     exact y 0 (by unfold L5;rw[A,u];rfl))
end Go.Proofs.YtfppjenblllfaaaGreatDoor

namespace Go.Proofs.YtfppjenblllfaaaGreatDoor
open Go.Emb Go.RowKit Go.Kd Go.Hm
variable {w : World} {K : Value → World → Prop} {σ : Q5} {l : List Cla} {v : Value}
theorem Q5U {n:X0} (h:lk l n=none):M8 l n=[]:=by unfold M8;rw[G3 h];rfl
theorem Q5M (a:Ye l) {n:X0} {c:Cla} (h:lk l n=some c):M8 l n=M8 l c.super++c.fields:=by
 unfold M8
 rw[C9 a,h]
 simp
theorem Q6Q (a: ∀c∈l,T2 c) (n:X0):(M8 l n).length≤(l.length+1)*1000000:=by
 unfold M8
 have b:=Jx (fun c:Cla=>c.fields) 1000000 (chain l n).reverse fun c e=>(a c (Pi (by simpa using e))).2.1
 have d:=Rw l n
 rw[List.length_reverse] at b
 exact Nat.le_trans b (Nat.mul_le_mul_right _ d)
theorem Q0F {n:X0} (d:lk l n=none) (a:X4 w σ) (e:Sl 8 U5 σ v l) (h: ∀c w' b,Stp w σ w' b→Sl 3 E2 b c (M8 l n)→K c w'):Q0 P F.z [v,S n] w K:=Vh (by
 unfold Qj
 refine Tj a e d ?_
 simp only[Q9r,↓M1,M1,Mb,reduceIte]
 exact h _ _ _ (Stp.refl a) (by rw[Q5U d];exact Sl.nil))
theorem Q5L (o:Ye l) (hl:l.length≤1000) (m: ∀c∈l,T2 c): ∀(k:Nat) {n:X0} {w:World} {σ:Q5} {K:Value→World→Prop},(lk l n=none∨F0 l n<k)→X4 w σ→Sl 8 U5 σ v l→
 (∀j w' g,Stp w σ w' g→Sl 3 E2 g j (M8 l n)→K j w')→Q0 P F.z [v,S n] w K:=by
 intro k
 induction k with
 | zero=>
  intro n w σ K hk f b h
  rcases hk with hk | hk
  ·exact Q0F hk f b h
  ·omega
 | succ k Z=>
  intro n w σ K hk f b h
  cases a:lk l n with
  | none=>exact Q0F a f b h
  | some c=>
   have hk:F0 l n<k+1:=by
    rcases hk with hk | hk
    ·rw[a] at hk;cases hk
    ·exact hk
   refine Vh ?_
   unfold Qj
   refine Rk f b a fun i Q hf=>?_
   obtain ⟨s,D⟩:=List.getElem?_eq_some_iff.1 Q
   simp only[Q5j,↓M1,M1,Mb,reduceIte]
   obtain ⟨lv,fv,mv,p1,N⟩:=b.elC s
   rw[D] at p1 N
   obtain ⟨_,g2,_,_,_⟩:=N.parts
   have M:lk l c.super=none∨F0 l c.super<k:=by
    cases hu:lk l c.super with
    | none=>exact .inl rfl
    | some d=>
     have:=Qe o a (u:=c.super) (by simp[J4]) hu
     right;omega
   have U:=Q6Q m c.super
   have W:=(m c (U1 a).2.1).2.1
   have O:(l.length+1)*1000000≤1001*1000000:=Nat.mul_le_mul_right _ (by omega)
   refine U8 f ?_
   (repeat refine J5 P5 ?_)
   refine Q79 (R:=E2) (by decide) ?_
   (repeat refine J5 P5 ?_)
   refine Rb (w:=w) (σ:=σ) (Φ:=fun g v=>Sl 3 E2 g v (M8 l c.super)) (fun t w p e=>?_) ?_
   ·subst e;exact Z M p.sat b fun j w' g hk J=>Q1g p hk J
   refine Q2w (w:=w) (σ:=σ) (R:=E2) (sz:=3) (e:=T.k) (M8 l c.super) (fun E y w p H C=>?_) ?_
   ·obtain ⟨k1,V,e1⟩:=H
    obtain ⟨σ2,k2,s2⟩:=C
    exact X0E k1 V e1 k2.sat s2 (fun _ _ h=>h) rfl (by omega) (by omega) fun j w' hk o=>Q4E p hk o
   (repeat refine J5 P5 ?_)
   rintro ab Y aa an E aj y X ah w2 ai rfl rfl rfl rfl _ rfl _ ⟨B,z⟩ rfl
   refine Dg B z g2 rfl (by omega) (by omega) fun j w3 al A q _=>?_
   obtain ⟨σ4,r,L,_⟩:=q.keep A
   exact h _ _ _ r (by rw[Q5M o a];exact L)
theorem Q7z {n:X0} (e:X4 w σ) (f:Sl 8 U5 σ v l) (i:Ye l) (g:l.length≤1000) (a: ∀c∈l,T2 c) (h: ∀d w' b,Stp w σ w' b→Sl 3 E2 b d (M8 l n)→K d w'):Q0 P F.z [v,S n] w K:=
 Q5L i g a _ (.inr (Nat.lt_succ_self _)) e f h
theorem Q8Q {n f:X0} (H:X4 w σ) (B:Sl 8 U5 σ v l) (D:Ye l) (A:l.length≤1000) (u: ∀c∈l,T2 c) (h: ∀w' J,Stp w σ w' J→K (I (W3 (Xr l n f))) w'):Q0 P F.bf [v,S n,S f] w K:=Gt (by
 unfold Wa
 refine Q7z H B D A u fun M w1 σ1 r b=>?_
 have s: ∀o,Xr l n f=o→K (I (W3 o)) w1:=fun o e=>by rw[←e];exact h _ _ r
 unfold Xr at s
 generalize M8 l n=i at b s
 refine J1 i.length (fun k w'=>w'=w1∧ ∀j (q:j<i.length),j<k→ ¬i[j].name=f) ⟨rfl,fun j _ h=>by omega⟩ fun k N d O z=>?_
 obtain ⟨L,p⟩:=z
 subst L
 refine Q8 b ?_
 refine Z1 ?_
 refine Q6 (fun t=>?_) (fun t=>?_)
 ·have a:k<i.length:=by simpa using t
  refine J0 b a ?_
  obtain ⟨E,_⟩:=b.elF a
  (try simp only[↓M1,M1,Mb,reduceIte])
  refine ld r.sat E rfl ?_
  refine Vx ?_
  refine Q6 (fun g=>?_) (fun g=>?_)
  ·have g:i[k].name=f:=by simpa using g
   exact s (some k) (by
    rw[List.findIdx?_eq_some_iff_getElem]
    exact ⟨a,by simpa using g,fun j q=>by simpa using p j (by omega) q⟩)
  ·have g: ¬i[k].name=f:=by simpa using g
   (try simp only[↓M1,M1,Mb,reduceIte])
   refine Y2 b.max a ⟨rfl,fun j q C=>?_⟩
   by_cases e:j=k
   ·subst e;exact g
   ·exact p j q (by omega)
 ·have a: ¬k<i.length:=by simpa using t
  exact s none (by
   rw[List.findIdx?_eq_none_iff]
   intro m y
   obtain ⟨j,q,rfl⟩:=List.getElem_of_mem y
   simpa using p j q (by omega)))
end Go.Proofs.YtfppjenblllfaaaGreatDoor

namespace Go.Proofs.YtfppjenblllfaaaGreatDoor
open Go.Emb Go.RowKit Go.Kd Go.Hm
variable {w : World} {K : Value → World → Prop} {σ : Q5} {l : List Cla} {v : Value}
theorem Q3i {c:Cla} {n:X0} (h:Ew c n=none):R2 c n=none:=by
 unfold R2 Ew at*
 rw[List.findIdx?_eq_none_iff] at h
 rw[List.find?_eq_none]
 intro m a
 have:=h m a
 simpa using this
theorem Q6C {c:Cla} {n:X0} {i:Nat} (h:Ew c n=some i): ∃a:i<c.methods.length,R2 c n=some c.methods[i]:=by
 unfold R2 Ew at*
 obtain ⟨a,d,e⟩:=List.findIdx?_eq_some_iff_getElem.1 h
 refine ⟨a,List.find?_eq_some_iff_getElem.2 ⟨d,i,a,rfl,fun j b=>?_⟩⟩
 have:=e j b
 simpa using this
theorem Tc {n:X0} (h:lk l n=none):Y3 l n=none:=by
 cases b:Y3 l n with
 | none=>rfl
 | some i=>obtain ⟨c,a,_⟩:=Xt b;rw[h] at a;cases a
set_option maxHeartbeats 1000000 in
theorem Q82 {n:X0} (ok:Ok l): ∀(k:Nat) {c:Cla} {cs:List Value} {w:World} {σ:Q5} {K:Value→World→Prop},F0 l c.name<k→lk l c.name=some c→X4 w σ→Sl 8 U5 σ v l→U5 σ c cs→
 (∀pv cv hv w' Z,Stp w σ w' Z→M6 Z (o2 (U4 l c n)) [S (o2 (U4 l c n)).name,pv,S (o2 (U4 l c n)).result, .bool (o2 (U4 l c n)).abs,I (o2 (U4 l c n)).locals,cv,hv]→
  K (.tuple #[S (o1 (U4 l c n)), .agg [S (o2 (U4 l c n)).name,pv,S (o2 (U4 l c n)).result, .bool (o2 (U4 l c n)).abs,I (o2 (U4 l c n)).locals,cv,hv].toArray, .bool (U4 l c n).isSome]) w')→
 Q0 P F.aE [v, .agg cs.toArray,S n] w K:=by
 intro k
 induction k with
 | zero=>
  intro c cs w σ K hk
  omega
 | succ k ih=>
  intro c cs w σ K hk hc hs hv hr h
  refine Bo ?_
  obtain ⟨lv,fv,mv,rfl,g1,g2,g3,g4,g5⟩:=hr
  have H:=Q2Q ok.acy hc n
  generalize hf:(fun u=>match lk l u with | none=>none | some d=>match R2 d n with | some m=>some (u,m) | none=>U4 l d n)=f at H
  unfold Wr
  refine Y7 hs fun a w1 σ1 C a5=>?_
  refine G1 C.sat fun b w2 σ2 hb Y a3=>?_
  have O:w.heap.size≤b:=Zo hb C
  have aq:=a5.up Y
  have g1:=(g1.up C).up Y
  refine J1 c.like.length (fun i w'=> ∃Z,Stp w σ w' Z∧SLe σ2 Z∧Z5 Z w' b [S [], .slice none 0 0,S [], .bool false,I 0, .slice none 0 0, .slice none 0 0]∧(c.like.take i).findSome? f=none) ⟨σ2,C.trans Y,SLe.refl _,a3,rfl⟩ fun i w3 d hi ae=>?_
  obtain ⟨σ3,e,R,ab,z⟩:=ae
  have U:=hv.up e
  have L:=aq.lift R
  have D:=g1.lift R
  (try simp only[↓M1,M1,Mb,reduceIte])
  refine ld e.sat L rfl ?_
  refine Q8 D ?_
  refine Z1 ?_
  refine Q6 (fun hh=>?_) (fun hh=>?_)
  ·have g:i<c.like.length:=by simpa using hh
   (try simp only[↓M1,M1,Mb,reduceIte])
   refine ld e.sat L rfl ?_
   refine J0 D g ?_
   obtain ⟨p0,_⟩:=D.elS g
   refine X8 e.sat p0 rfl ?_
   obtain ⟨d,hd⟩:=ok.full c (U1 hc).2.1 _ (List.getElem_mem g)
   obtain ⟨M,bj,_⟩:=U1 hd
   have p:f c.like[i]=match R2 d n with | some m=>some (c.like[i],m) | none=>U4 l d n:=by rw[←hf];simp only[hd]
   refine Rk e.sat U hd fun j hj bo=>?_
   obtain ⟨ai,a0⟩:=List.getElem?_eq_some_iff.1 hj
   refine J0 U ai ?_
   obtain ⟨bu,bm,bv,p1,r1⟩:=U.elC ai
   rw[a0] at p1 r1
   refine Y9 e.sat p1 rfl ?_
   refine Y6 e.sat (by rfl) rfl (Rep.one r1) fun q w4 σ4 o W=>?_
   refine Y9 o.sat W rfl ?_
   refine Q6y o.sat (RCl_lift r1 ⟨o.le⟩) fun w5 σ5 t=>?_
   refine Xe ?_
   rw[G9]
   have A:=(e.trans o).trans t
   have E:=(ab.step o).step t
   have a1:=W.up t
   have r5:=RCl_lift r1 ⟨(o.trans t).le⟩
   have X:=t.sat
   have ao:SLe σ2 σ5:=R.more ⟨(o.trans t).le⟩
   clear W p1 r1 p0 L D o t
   cases ho:Ew d n with
   | some i2=>
    obtain ⟨a9,ap⟩:=Q6C ho
    rw[ap] at p
    simp only[Option.isSome_some,W3,↓M1,M1,Mb,reduceIte]
    obtain ⟨_,_,a7,_,_⟩:=r5.parts
    obtain ⟨pv,cv,bp,p2,r2⟩:=a7.elM a9
    refine U8 X ?_
    (repeat refine J5 P5 ?_)
    (intros;(repeat (rename_i hx;subst hx));(try simp only[↓M2,M2,Mb,reduceIte]))
    rename_i w6 af
    refine Qb (E.step af.stp) (A.trans af.stp) O rfl rfl (Rep.one r2) fun w8 aw a4=>?_
    refine W2 a4 rfl ?_
    have Q:=H.trans (Qm g z p)
    rw[Q] at h
    rw[M]
    exact h _ _ _ w8 σ5 aw.stp r2
   | none=>
    rw[Q3i ho] at p
    simp only[Option.isSome_none,↓M1,M1,Mb,reduceIte]
    refine Y9 X a1 rfl ?_
    have bx:=Qe ok.acy hc (by simp[J4,List.getElem_mem g]:c.like[i]∈J4 c) hd
    refine ih (by rw[M];omega) (by rw[M];exact hd) X (hv.up A) r5 fun pv cv b0 w8 σ8 B N=>?_
    refine U7 (vs:=[_,_,_]) rfl ?_
    refine U7 (vs:=[_,_,_]) rfl ?_
    refine U7 (vs:=[_,_,_]) rfl ?_
    refine Y6 B.sat (by rfl) rfl (Rep.one N) fun q w9 σ9 y ax=>?_
    have aa:=(A.trans B).trans y
    have aj:=(E.step B).step y
    have V:=RMe_lift N ⟨y.le⟩
    have a8:SLe σ2 σ9:=ao.more ⟨(B.trans y).le⟩
    have a6:=y.sat
    cases Q:U4 l d n with
    | some r=>
     obtain ⟨s,m⟩:=r
     rw[Q] at p V ax
     clear N B y
     simp only[Q,Option.isSome_some,↓M1,M1,Mb,reduceIte]
     refine U8 a6 ?_
     (repeat refine J5 P5 ?_)
     (intros;(repeat (rename_i hx;subst hx));(try simp only[↓M2,M2,Mb,reduceIte]))
     rename_i bs J
     refine Qb (aj.step J.stp) (aa.trans J.stp) O rfl rfl (Rep.one V) fun av ah ac=>?_
     refine W2 ac rfl ?_
     have a2:=H.trans (Qm g z p)
     rw[a2] at h
     exact h _ _ _ av σ9 ah.stp V
    | none=>
     rw[Q] at p
     simp only[Option.isSome_none,↓M1,M1,Mb,reduceIte]
     refine Y2 (by have:=g1.max;omega) g ⟨σ9,aa,a8,aj,?_⟩
     rw[Qh g z];exact p
  ·have g: ¬i<c.like.length:=by simpa using hh
   rw[List.take_of_length_le (by omega)] at z
   refine Dt ?_
   refine Qb ab e O rfl rfl (Rep.one (P6 (σ:=σ3))) fun w5 A E=>?_
   refine W2 E rfl ?_
   have Q:=H.trans z
   rw[Q] at h
   exact h _ _ _ w5 σ3 A.stp P6
set_option maxHeartbeats 1000000 in
theorem Q7g {k n:X0} (hs:X4 w σ) (hv:Sl 8 U5 σ v l) (ok:Ok l)
 (h: ∀pv cv hv w' L,Stp w σ w' L→M6 L (o2 (U0 l k n)) [S (o2 (U0 l k n)).name,pv,S (o2 (U0 l k n)).result, .bool (o2 (U0 l k n)).abs,I (o2 (U0 l k n)).locals,cv,hv]→
  K (.tuple #[S (o1 (U0 l k n)), .agg [S (o2 (U0 l k n)).name,pv,S (o2 (U0 l k n)).result, .bool (o2 (U0 l k n)).abs,I (o2 (U0 l k n)).locals,cv,hv].toArray, .bool (U0 l k n).isSome]) w'):
 Q0 P F.b2 [v,S k,S n] w K:=Bd (by
 unfold Vm
 refine G1 hs fun b w1 σ1 hb Z a1=>?_
 refine C2 Z.sat (hv.up Z) ?_
 unfold U0 at h
 generalize hF:(fun c:Cla=>(R2 c n).map (c.name,·))=F1 at h
 have ae: ∀c,F1 c=(R2 c n).map (c.name,·):=fun c=>by rw[←hF]
 refine Ri (fun m x w'=> ∃s D L,m=(chain l s).length∧x=I (W3 (Y3 l s))∧chain l k=D++chain l s∧Stp w σ w' L∧Z5 L w' b [S [], .slice none 0 0,S [], .bool false,I 0, .slice none 0 0, .slice none 0 0]∧D.findSome? F1=none)
  (chain l k).length ⟨k,[],σ1,rfl,rfl,rfl,Z,a1,rfl⟩ ?_
 rintro R m x d w2 ⟨s,D,σ2,rfl,rfl,e,B,al,f⟩ C
 have E:=hv.up B
 have aa:=B.sat
 refine Xe ?_
 rw[G9]
 cases A:lk l s with
 | some c=>
  obtain ⟨ah,a3,i,V,ac⟩:=U1 A
  obtain ⟨g,U⟩:=List.getElem?_eq_some_iff.1 ac
  simp only[V,Option.isSome_some,W3,↓M1,M1,Mb,reduceIte]
  refine J0 E g ?_
  obtain ⟨lv,fv,mv,z,N⟩:=E.elC g
  rw[U] at z N
  refine Y9 aa z rfl ?_
  refine Q6y aa N fun w3 σ3 p=>?_
  refine Xe ?_
  rw[G9]
  have j:=B.trans p
  have t:=E.up p
  have y:=al.step p
  have u:=p.sat
  replace z:=z.up p
  replace N:=RCl_lift N ⟨p.le⟩
  have o:chain l s=c::chain l c.super:=by rw[C9 ok.acy s,A]
  cases Q:Ew c n with
  | some i2=>
   obtain ⟨a4,av⟩:=Q6C Q
   simp only[Option.isSome_some,W3,↓M1,M1,Mb,reduceIte]
   obtain ⟨_,_,a2,_,_⟩:=N.parts
   obtain ⟨pv,cv,bf,p2,r2⟩:=a2.elM a4
   clear p
   refine U8 u ?_
   (repeat refine J5 P5 ?_)
   (intros;(repeat (rename_i hx;subst hx));(try simp only[↓M2,M2,Mb,reduceIte]))
   rename_i w4 am
   refine Qb (y.step am.stp) (j.trans am.stp) hb rfl rfl (Rep.one r2) fun w8 ay a0=>?_
   refine W2 a0 rfl ?_
   have H:(chain l k).findSome? F1=some (c.name,c.methods[i2]):=by
    rw[e,List.findSome?_append,f,o,List.findSome?_cons,ae,av];rfl
   rw[H] at h
   exact h _ _ _ w8 σ3 ay.stp r2
  | none=>
   simp only[Option.isSome_none,↓M1,M1,Mb,reduceIte]
   refine J0 t g ?_
   (try simp only[↓M1,M1,Mb,reduceIte])
   refine ld u z rfl ?_
   refine C2 u t ?_
   refine C (chain l c.super).length _ _ (by rw[o,List.length_cons];omega) ⟨c.super,D++[c],σ3,rfl,rfl,by rw[e,o];simp,j,y,?_⟩
   rw[List.findSome?_append,f]
   simp[ae,Q3i Q]
 | none=>
  rw[Tc A]
  simp only[Option.isSome_none,↓M1,M1,Mb,reduceIte]
  have ai:(chain l k).findSome? F1=none:=by rw[e,G3 A,List.append_nil];exact f
  rw[ai] at h
  clear C f e
  refine C2 aa E ?_
  refine Ri (fun m x w'=> ∃s D L,m=(chain l s).length∧x=I (W3 (Y3 l s))∧chain l k=D++chain l s∧Stp w σ w' L∧Z5 L w' b [S [], .slice none 0 0,S [], .bool false,I 0, .slice none 0 0, .slice none 0 0]∧D.findSome? (fun c=>U4 l c n)=none)
   (chain l k).length ⟨k,[],σ2,rfl,rfl,rfl,B,al,rfl⟩ ?_
  rintro R m x d w3 ⟨s,D,σ3,rfl,rfl,e,j,y,f⟩ C
  have t:=hv.up j
  have u:=j.sat
  refine Xe ?_
  rw[G9]
  cases A:lk l s with
  | some c=>
   obtain ⟨ah,a3,i,V,ac⟩:=U1 A
   obtain ⟨g,U⟩:=List.getElem?_eq_some_iff.1 ac
   simp only[V,Option.isSome_some,W3,↓M1,M1,Mb,reduceIte]
   refine J0 t g ?_
   obtain ⟨lv,fv,mv,z,N⟩:=t.elC g
   rw[U] at z N
   refine Y9 u z rfl ?_
   have o:chain l s=c::chain l c.super:=by rw[C9 ok.acy s,A]
   refine Q82 ok _ (Nat.lt_succ_self _) (by rw[ah];exact A) u t N fun pv cv bj w8 σ8 X W=>?_
   refine U7 (vs:=[_,_,_]) rfl ?_
   refine U7 (vs:=[_,_,_]) rfl ?_
   refine U7 (vs:=[_,_,_]) rfl ?_
   refine Y6 X.sat (by rfl) rfl (Rep.one W) fun q w9 σ9 J az=>?_
   have a:=X.trans J
   have ag:=j.trans a
   have ak:=y.step a
   have Y:=RMe_lift W ⟨J.le⟩
   have ab:=J.sat
   have an:=t.up a
   replace z:=z.up a
   cases Q:U4 l c n with
   | some r=>
    obtain ⟨s,m⟩:=r
    rw[Q] at Y az
    clear W X J a
    simp only[Q,Option.isSome_some,↓M1,M1,Mb,reduceIte]
    refine U8 ab ?_
    (repeat refine J5 P5 ?_)
    (intros;(repeat (rename_i hx;subst hx));(try simp only[↓M2,M2,Mb,reduceIte]))
    rename_i bd M
    refine Qb (ak.step M.stp) (ag.trans M.stp) hb rfl rfl (Rep.one Y) fun ax af aj=>?_
    refine W2 aj rfl ?_
    have H:(chain l k).findSome? (fun c=>U4 l c n)=some (s,m):=by
     rw[e,List.findSome?_append,f,o,List.findSome?_cons,Q];rfl
    unfold U4 at H
    rw[H] at h
    exact h _ _ _ ax σ9 af.stp Y
   | none=>
    simp only[Option.isSome_none,↓M1,M1,Mb,reduceIte]
    refine J0 an g ?_
    (try simp only[↓M1,M1,Mb,reduceIte])
    refine ld ab z rfl ?_
    refine C2 ab an ?_
    refine C (chain l c.super).length _ _ (by rw[o,List.length_cons];omega) ⟨c.super,D++[c],σ9,rfl,rfl,by rw[e,o];simp,ag,ak,?_⟩
    rw[List.findSome?_append,f]
    simp[Q]
  | none=>
   rw[Tc A]
   simp only[Option.isSome_none,↓M1,M1,Mb,reduceIte]
   have O:(chain l k).findSome? (fun c=>U4 l c n)=none:=by rw[e,G3 A,List.append_nil];exact f
   refine Dt ?_
   refine Qb y j hb rfl rfl (Rep.one (P6 (σ:=σ3))) fun w7 a6 ar=>?_
   refine W2 ar rfl ?_
   unfold U4 at O
   rw[O] at h
   exact h _ _ _ w7 σ3 a6.stp P6)
end Go.Proofs.YtfppjenblllfaaaGreatDoor

namespace Go.Hm
open Go.Kd
theorem Q0U: ∀(xs:List X0) (x:X0),xs≠[]→O3 (xs++[x])=O3 xs++[44]++x
 | [],_,h=>absurd rfl h
 | [a],x,_=>by simp[O3]
 | a::b::r,x,_=>by
  have:=Q0U (b::r) x (by simp)
  simp only[List.cons_append] at this⊢
  simp only[O3,this]
  simp
theorem Q0X {xs:List X0} {n:Nat} (h:n<xs.length):O3 (xs.take (n+1))=O3 (xs.take n)++(if 0<n then [44] else [])++xs[n]:=by
 rw[List.take_add_one,List.getElem?_eq_getElem h]
 simp only[Option.toList_some]
 cases n with
 | zero=>simp[O3]
 | succ n=>
  rw[Q0U _ _ (by intro e;have:=congrArg List.length e;simp only[List.length_take,List.length_nil] at this;omega)]
  simp
end Go.Hm
namespace Go.Proofs.YtfppjenblllfaaaGreatDoor
open Go.Emb Go.RowKit Go.Kd Go.Hm
variable {w : World} {K : Value → World → Prop} {σ : Q5} {l : List Cla} {v : Value}
theorem Q4b {m:Hm.Met} {cs:List Value} (B:X4 w σ) (y:M6 σ m cs) (s:SmM m) (r:NmM m) (h: ∀w' C,Stp w σ w' C→K (S (P7 m)) w'):Q0 P F.aI [.agg cs.toArray] w K:=Kk (by
 obtain ⟨pv,M,N,rfl,f,R,H,J,U,O⟩:=y
 unfold Mx
 refine Y7 B fun q w1 σ1 g j=>?_
 have f:=f.up g
 have E: ∀n,(O3 (m.params.take n)).length≤101000000:=fun n=>by
  have:=Db (m.params.take n) fun x u=>r.2 x (List.mem_of_mem_take u)
  have A:(m.params.take n).length≤1000000:=by rw[List.length_take];have:=s.1;omega
  have Q:(m.params.take n).length*101≤1000000*101:=Nat.mul_le_mul_right _ A
  omega
 have c:=g.sat
 refine D3 m.params.length (fun n a w'=>w'=w1∧a=S ([40]++O3 (m.params.take n))) ⟨rfl,by simp[O3]⟩ fun n a L d z i=>?_
 obtain ⟨D,rfl⟩:=i
 subst D
 have o:=E n
 (try simp only[↓M1,M1,Mb,reduceIte])
 refine ld c j rfl ?_
 refine Q8 f ?_
 refine Z1 ?_
 refine Q6 (fun k=>?_) (fun k=>?_)
 ·have b:n<m.params.length:=by simpa using k
  have u:=r.2 _ (List.getElem_mem b)
  refine V8 ?_
  obtain ⟨t,_⟩:=f.elS b
  refine Q6 (fun p=>?_) (fun p=>?_)
  ·have e:0<n:=by have:=of_decide_eq_true p;omega
   refine Rl (by simp only[List.length_append,List.length_cons,List.length_nil];omega) ?_
   intro d
   (try simp only[↓M1,M1,Mb,reduceIte])
   refine ld c j rfl ?_
   refine J0 f b ?_
   refine X8 c t rfl ?_
   refine Rl (by simp only[List.length_append,List.length_cons,List.length_nil];omega) ?_
   (try simp only[↓M1,M1,Mb,reduceIte])
   refine Z6 f.max b ⟨rfl,?_⟩
   rw[Q0X b,if_pos e];simp
  ·have e: ¬0<n:=by have:=of_decide_eq_false p;omega
   intro d
   (try simp only[↓M1,M1,Mb,reduceIte])
   refine ld c j rfl ?_
   refine J0 f b ?_
   refine X8 c t rfl ?_
   refine Rl (by simp only[List.length_append,List.length_cons,List.length_nil];omega) ?_
   (try simp only[↓M1,M1,Mb,reduceIte])
   refine Z6 f.max b ⟨rfl,?_⟩
   rw[Q0X b,if_neg e];simp
 ·have b: ¬n<m.params.length:=by simpa using k
  rw[List.take_of_length_le (by omega)] at o⊢
  refine Rl (by simp only[List.length_append,List.length_cons,List.length_nil];omega) ?_
  (try simp only[↓M1,M1,Mb,reduceIte])
  refine ld c j rfl ?_
  refine Rl (by simp only[List.length_append,List.length_cons,List.length_nil];have:=r.1;omega) ?_
  exact h _ _ g)
end Go.Proofs.YtfppjenblllfaaaGreatDoor

namespace Go.Hm
open Go.Kd
def Edge (l:List Cla) (i j:Nat):Prop:= ∃c,l[i]? =some c∧ ∃u∈J4 c,Y3 l u=some j
inductive Thr (E : Nat → Nat → Prop) (n : Nat) : Nat → Nat → Prop
  | one {i j : Nat} : E i j → Thr E n i j
  | more {i m j : Nat} : E i m → m < n → Thr E n m j → Thr E n i j
theorem Thr.cut {E:Nat→Nat→Prop} {n i j:Nat} (h:Thr E (n+1) i j):Thr E n i j∨(Thr E n i n∧Thr E n n j):=by
 induction h with
 | one h=>exact .inl (.one h)
 | @more i m j d f _ c=>
  by_cases e:m<n
  ·rcases c with c | ⟨a,b⟩
   ·exact .inl (.more d e c)
   ·exact .inr ⟨.more d e a,b⟩
  ·obtain rfl:m=n:=by omega
   rcases c with c | ⟨a,b⟩
   ·exact .inr ⟨.one d,c⟩
   ·exact .inr ⟨.one d,b⟩
theorem Thr.join {E:Nat→Nat→Prop} {n i k j:Nat} (h:Thr E n i k) (a:k<n) (g:Thr E n k j):Thr E n i j:=by
 induction h with
 | one h=>exact .more h a g
 | more d b _ c=>exact .more d b (c a g)
theorem Q2N {l:List Cla} (f:G7 l) {i j:Nat} (d:i<l.length):Edge l i j↔j<l.length∧ ∃u∈J4 l[i],u=X9 l j∧Y3 l u=some j:=by
 unfold Edge
 rw[List.getElem?_eq_getElem d]
 constructor
 ·rintro ⟨c,e,u,b,a⟩
  cases e
  exact ⟨(E0 a).1,u,b,(E0 a).2.symm,a⟩
 ·rintro ⟨_,u,b,_,a⟩
  exact ⟨_,rfl,u,b,a⟩
theorem Q9S {l:List Cla} (b:G7 l) {i:Nat} (a:i<l.length):lk l (X9 l i)=some l[i]:=by
 have:=Qt b a
 rwa [List.getD_eq_getElem?_getD,List.getElem?_eq_getElem a] at this
theorem Q9L {l:List Cla} (b:G7 l) {i j:Nat} (a:i<l.length) (h:Thr (Edge l) l.length i j):j<l.length∧Ur (lk l) (X9 l i) (X9 l j):=by
 induction h with
 | one h=>
  obtain ⟨d,u,f,e,g⟩:=(Q2N b a).1 h
  obtain ⟨c,n,_⟩:=Xt g
  refine ⟨d,_,Q9S b a,u,f,?_⟩
  subst e;exact .refl n
 | more d k _ o=>
  obtain ⟨p,m⟩:=o k
  obtain ⟨_,u,f,e,g⟩:=(Q2N b a).1 d
  refine ⟨p,_,Q9S b a,u,f,?_⟩
  subst e;exact m.reach
theorem Q8i {l:List Cla} (w:G7 l) {a b:X0} (h:Hm.Reach (lk l) a b): ∀i j,Y3 l a=some i→Y3 l b=some j→i=j∨Thr (Edge l) l.length i j:=by
 induction h with
 | refl _=>
  intro i j n f;rw[n] at f;cases f;exact .inl rfl
 | step p v r s=>
  rename_i a u b c
  intro i j n f
  obtain ⟨d,q⟩:=r.left
  obtain ⟨_,_,k,g,t⟩:=U1 q
  obtain ⟨y,e,m,_⟩:=Xt n
  rw[p] at e;cases e
  have o:Edge l i k:=⟨c,m,u,v,g⟩
  rcases s k j g f with rfl | hT
  ·exact .inr (.one o)
  ·exact .inr (.more o (E0 g).1 hT)
theorem Q9c {l:List Cla} (a:G7 l) {i j:Nat} (f:i<l.length) (o:j<l.length) (h:Ur (lk l) (X9 l i) (X9 l j)):Thr (Edge l) l.length i j:=by
 obtain ⟨c,m,u,r,n⟩:=h
 rw[Q9S a f] at m;cases m
 obtain ⟨d,p⟩:=n.left
 obtain ⟨_,_,k,e,q⟩:=U1 p
 have g:Edge l i k:=⟨_,List.getElem?_eq_getElem f,u,r,e⟩
 have b:Y3 l (X9 l j)=some j:=by
  have:=a.find (List.getElem?_eq_getElem o)
  unfold X9
  rw[List.getD_eq_getElem?_getD,List.getElem?_eq_getElem o];exact this
 rcases Q8i a n k j e b with rfl | hT
 ·exact .one g
 ·exact .more g (E0 e).1 hT
theorem X0J {l:List Cla} (b:G7 l) {i j:Nat} (a:i<l.length) (c:j<l.length):Thr (Edge l) l.length i j↔A0 l (X9 l i) (X9 l j)=true:=by
 rw[Ys]
 exact ⟨fun h=>(Q9L b a h).2,Q9c b a c⟩
def C5 (l:List Cla):List (List Bool):=(List.range l.length).map fun i=>(List.range l.length).map fun j=>A0 l (X9 l i) (X9 l j)
def So (m:Nat→Nat→Bool) (i j:Nat) (b:Bool):Nat→Nat→Bool:=fun x y=>if x=i∧y=j then b else m x y
structure Clos (E : Nat → Nat → Prop) (n k i j : Nat) (m : Nat → Nat → Bool) : Prop where
  sound : ∀ a b, m a b = true → Thr E n a b
  full : ∀ a b, a < n → b < n → Thr E k a b → m a b = true
  done : ∀ a b, a < n → b < n → (a < i ∨ (a = i ∧ b < j)) → Thr E (k + 1) a b → m a b = true
theorem Clos.next {E:Nat→Nat→Prop} {n k i j:Nat} {m:Nat→Nat→Bool} (h:Clos E n k i j m) (p:k<n) (s:i<n) (t:j<n):Clos E n k i (j+1) (So m i j (m i j||(m i k&&m k j))):=by
 have f: ∀a b,m a b=true→So m i j (m i j||(m i k&&m k j)) a b=true:=by
  intro a b c
  unfold So
  split
  ·rename_i e;rw[←e.1,←e.2,c];rfl
  ·exact c
 refine ⟨fun a b c=>?_,fun a b q r l=>f a b (h.full a b q r l),fun a b q r o l=>?_⟩
 ·unfold So at c
  split at c
  ·rename_i e
   obtain ⟨rfl,rfl⟩:=e
   simp only[Bool.or_eq_true,Bool.and_eq_true] at c
   rcases c with d | ⟨d,g⟩
   ·exact h.sound _ _ d
   ·exact (h.sound _ _ d).join p (h.sound _ _ g)
  ·exact h.sound _ _ c
 ·by_cases e:a=i∧b=j
  ·obtain ⟨rfl,rfl⟩:=e
   unfold So
   rw[if_pos ⟨rfl,rfl⟩]
   rcases l.cut with d | ⟨d,g⟩
   ·rw[h.full _ _ s t d];rfl
   ·rw[h.full _ _ s p d,h.full _ _ p t g];simp
  ·refine f a b (h.done a b q r ?_ l)
   rcases o with d | ⟨d,g⟩
   ·exact .inl d
   ·right;refine ⟨d,?_⟩
    have:b≠j:=fun u=>e ⟨d,u⟩
    omega
theorem Clos.row {E:Nat→Nat→Prop} {n k i:Nat} {m:Nat→Nat→Bool} (h:Clos E n k i n m):Clos E n k (i+1) 0 m:=
 ⟨h.sound,h.full,fun a b d f e c=>h.done a b d f (by omega) c⟩
theorem Clos.round {E:Nat→Nat→Prop} {n k:Nat} {m:Nat→Nat→Bool} (h:Clos E n k n 0 m):Clos E n (k+1) 0 0 m:=
 ⟨h.sound,fun a b c e d=>h.done a b c e (.inl c) d,fun a b c e f d=>by omega⟩
theorem Clos.start {E:Nat→Nat→Prop} {n:Nat} {m:Nat→Nat→Bool} (h: ∀a b,a<n→(m a b=true↔E a b)) (g: ∀a b,n≤a→m a b=false):Clos E n 0 0 0 m:=by
 refine ⟨fun a b c=>?_,fun a b d j f=>?_,fun a b d j i f=>by omega⟩
 ·by_cases d:a<n
  ·exact .one ((h a b d).1 c)
  ·rw[g a b (by omega)] at c;cases c
 ·cases f with
  | one e=>exact (h a b d).2 e
  | more _ k _=>omega
theorem Clos.all {l:List Cla} (c:G7 l) {m:Nat→Nat→Bool} (h:Clos (Edge l) l.length l.length 0 0 m) {i j:Nat} (a:i<l.length) (b:j<l.length):m i j=A0 l (X9 l i) (X9 l j):=by
 rw[Bool.eq_iff_iff,←X0J c a b]
 exact ⟨h.sound i j,h.full i j a b⟩
end Go.Hm

namespace Go.Emb
open Go.RowKit Go.Hm
variable {P : Program} {w w0 w1 w' w'' : World} {K : Value → World → Prop} {σ σ0 σ1 σ' : Q5}
theorem X1G {t e:TypeId} {by_ n:Nat} {z:Value} [ts:TS P t e] [tz:TZ P e 1 by_ z] (g:X4 w σ) (k:z.cells= #[z]) (m:n≤1000000) (o:by_*n≤281474976710656)
 (h: ∀b w',w.heap.size≤b→Stp w σ w' σ→Z5 σ w' b (List.replicate n z)→K (.slice (some ⟨b,0,none⟩) n n) w'):Nl P t (I n) (I n) w K:=by
 obtain ⟨i,j,c,f,a⟩:=tz.info
 have d:(i.bytes:Int)*(n:Int)≤281474976710656:=by
  rw[f]
  have:((by_*n:Nat):Int)≤281474976710656:=by omega
  rwa [Int.natCast_mul] at this
 have l:=run_makeSlice (P:=P) w t e i z ts.h j a .i64 .i64 (n:Int) (n:Int) (by omega) (Int.le_refl _) (by rw[c];simp only[Int.toNat_natCast];omega) d (by omega)
 unfold Nl
 rw[Y0 l]
 simp only[Int.toNat_natCast,c,Nat.mul_one]
 refine h _ _ (Nat.le_refl _) (Stp.own g _) ⟨g.none (Nat.le_refl _),e,?_⟩
 rw[heap_alloc_new,k]
 have:madeCells #[z] n=(List.replicate n z).toArray:=by rw[←toList_madeCells_one,Array.toArray_toList]
 rw[this]
def Q5k (n:Nat) (_:Q5) (b:Nat) (cs:List Value):Prop:=cs=[.slice (some ⟨b,0,none⟩) n n]
instance (n:Nat):Rep (Q5k n):=⟨fun _ h=>h,fun h u hu=>by rw[h] at hu;simp at hu;subst hu;rfl⟩
def Q3Z (σ:Q5) (xs:List Bool) (cs:List Value):Prop:= ∃v,cs=[v]∧Sl 1 Q1A σ v xs
instance:Rep Q3Z:=⟨fun k h=>by obtain ⟨v,h1,h2⟩:=h;exact ⟨v,h1,h2.le k⟩,fun h u hu=>by
 obtain ⟨v,rfl,a,cap,rfl,_⟩:=h
 simp at hu;subst hu;rfl⟩
def bools (n:Nat) (f:Nat→Bool):List Value:=(List.range n).map fun j=> .bool (f j)
theorem Tw {n:Nat} {f:Nat→Bool}:(bools n f).length=n:=by simp[bools]
theorem Q2P {n j:Nat} {f:Nat→Bool} (h:j<n):(bools n f)[j]? =some (.bool (f j)):=by simp[bools,h]
theorem Q3k {n j:Nat} {f:Nat→Bool} {b:Bool}:(bools n f).set j (.bool b)=bools n (fun x=>if x=j then b else f x):=by
 apply List.ext_getElem?
 intro k
 rw[List.getElem?_set]
 by_cases a:k<n
 ·by_cases e:j=k
  ·subst e;simp[bools,a]
  ·have c: ¬k=j:=fun h=>e h.symm
   simp[bools,a,e,c]
 ·simp[bools,a]
  intro e;omega
theorem Q5C {n:Nat}:List.replicate n (Value.bool false)=bools n fun _=>false:=by
 apply List.ext_getElem?
 intro k
 by_cases a:k<n<;>simp[bools,a]
def T3 (σ:Q5) (w:World) (a:List Nat) (n:Nat) (m:Nat→Nat→Bool):Prop:=a.Nodup∧ ∀i (h:i<a.length),Z5 σ w a[i] (bools n (m i))
theorem T3.up {a:List Nat} {n:Nat} {m:Nat→Nat→Bool} (h:T3 σ w a n m) (k:Stp w σ w' σ'):T3 σ' w' a n m:=⟨h.1,fun i b=>(h.2 i b).up k⟩
theorem T3.kp {a:List Nat} {n:Nat} {m:Nat→Nat→Bool} {D:Nat→Prop} (h:T3 σ w a n m) (k:Kpt D w w') (d: ∀b∈a,¬D b):T3 σ w' a n m:=⟨h.1,fun i c=>(h.2 i c).kp k (d _ (List.getElem_mem c))⟩
theorem T3.lt {c:List Nat} {n:Nat} {m:Nat→Nat→Bool} (h:T3 σ w c n m) {b:Nat} (d:b∈c):b<w.heap.size∧σ b=none:=by
 obtain ⟨i,a,rfl⟩:=List.getElem_of_mem d
 exact ⟨(h.2 i a).lt,(h.2 i a).1⟩
theorem T3.snoc {d:List Nat} {n b:Nat} {m:Nat→Nat→Bool} {f:Nat→Bool} (h:T3 σ w d n m) (p:b∉d) (k:Z5 σ w b (bools n f)):T3 σ w (d++[b]) n (fun x=>if x=d.length then f else m x):=by
 refine ⟨by rw[List.nodup_append];exact ⟨h.1,by simp,fun a o c j e=>by simp at j;subst j;subst e;exact p o⟩,fun i l=>?_⟩
 rw[List.length_append,List.length_singleton] at l
 by_cases g:i<d.length
 ·rw[List.getElem_append_left g]
  simp only[if_neg (show¬i=d.length by omega)]
  exact h.2 i g
 ·obtain rfl:i=d.length:=by omega
  simp only[List.getElem_concat_length,if_true]
  exact k
theorem T3.congr {a:List Nat} {n:Nat} {m m':Nat→Nat→Bool} (h:T3 σ w a n m) (c: ∀i,i<a.length→m i=m' i):T3 σ w a n m':=⟨h.1,fun i b=>c i b▸h.2 i b⟩
theorem T3.keep {a:List Nat} {n:Nat} {m:Nat→Nat→Bool} (U:0<n) (r:n≤1000000): ∀{σ:Q5},T3 σ w a n m→Stp w0 σ0 w σ→(∀b∈a,w0.heap.size≤b)→ ∃σ',Stp w0 σ0 w σ'∧SLe σ σ'∧ ∀i (h:i<a.length),Sl 1 Q1A σ' (.slice (some ⟨a[i],0,none⟩) n n) ((List.range n).map (m i)):=by
 intro σ h Q O
 have key: ∀k,k≤a.length→ ∃σ',Stp w0 σ0 w σ'∧SLe σ σ'∧(∀i (h:i<a.length),i<k→Z3 σ' ⟨a[i],0,none⟩ (bools n (m i)))∧ ∀i (h:i<a.length),k≤i→σ' a[i]=none:=by
  intro k
  induction k with
  | zero=>intro _;exact ⟨σ,Q,SLe.refl _,fun i _ h=>by omega,fun i d _=>(h.2 i d).1⟩
  | succ k E=>
   intro R
   obtain ⟨σ1,l,g,o,t⟩:=E (by omega)
   have c:k<a.length:=by omega
   have y:Z5 σ1 w a[k] (bools n (m k)):=⟨t k c (Nat.le_refl _),(h.2 k c).2⟩
   obtain ⟨D,N,H,s,A⟩:=y.keep l (O _ (List.getElem_mem c))
   refine ⟨D,N,g.more ⟨s⟩,fun i d C=>?_,fun i d M=>?_⟩
   ·by_cases e:i=k
    ·subst e;exact H
    ·exact (o i d (by omega)).le s
   ·rw[A]
    ·exact t i d (by omega)
    ·intro e
     have:=List.nodup_iff_pairwise_ne.1 h.1
     rw[List.pairwise_iff_getElem] at this
     exact this k i c d (by omega) e.symm
 obtain ⟨σ1,l,g,o,_⟩:=key a.length (Nat.le_refl _)
 refine ⟨σ1,l,g,fun i d=>⟨some ⟨a[i],0,none⟩,n,by simp,by simp,by simp only[maxLen];omega,fun e=>(by cases e),?_⟩⟩
 intro b z
 obtain rfl:=Option.some.inj z
 refine ⟨fun _=>rfl,fun j x q=>?_⟩
 have u:j<n:=by have:=(List.getElem?_eq_some_iff.1 q).1;simpa using this
 obtain ⟨q0,D6,e,L,B,J⟩:=o i d d
 have p:x=m i j:=by simp[u] at q;exact q.symm
 refine ⟨[.bool x],⟨I1 rfl _,D6,e,L,by rw[C3];exact B,fun k v f=>?_⟩,rfl,rfl⟩
 obtain rfl:k=0:=by cases k with
  | zero=>rfl
  | succ k=>simp at f
 simp at f
 rw[Xv,←f,p]
 have:=J j _ (Q2P u)
 simpa using this
end Go.Emb

namespace Go.Emb
open Go.RowKit Go.Hm
variable {P : Program} {w w0 w1 w' w'' : World} {K : Value → World → Prop} {σ σ0 σ1 σ' : Q5}
theorem Q0k {t e:TypeId} {sz by_:Nat} {z:Value} [ts:TS P t e] [tz:TZ P e sz by_ z] {a:Addr} {n b i:Nat} (d:i<n) (c:K (.pointer (some (a.add (i*sz)))) w):indexAddr P t (.slice (some a) n b) (I i) w K:=by
 rw[Cd (by omega) (by omega)]
 simpa using c
theorem T3.nx {D:Nat→Prop} {a:List Nat} {n:Nat} {m:Nat→Nat→Bool} (h:T3 σ w a n m) (k:Nxt D w σ w' σ') (d: ∀b∈a,¬D b):T3 σ' w' a n m:=
 ⟨h.1,fun i c=>(h.2 i c).nx k (d _ (List.getElem_mem c))⟩
theorem T3.set {a:List Nat} {n i j:Nat} {b:Bool} {m:Nat→Nat→Bool} (h:T3 σ w a n m) (g:i<a.length) (o:Upd w a[i] w') (d:Z5 σ w' a[i] ((bools n (m i)).set j (.bool b))):T3 σ w' a n (So m i j b):=by
 refine ⟨h.1,fun k c=>?_⟩
 by_cases e:k=i
 ·subst e
  rw[Q3k] at d
  have:So m k j b k=fun x=>if x=j then b else m k x:=by funext x;simp[So]
  rw[this];exact d
 ·have:So m i j b k=m k:=by funext x;simp[So,e]
  rw[this]
  refine (h.2 k c).upd o fun f=>e ?_
  rcases Nat.lt_trichotomy k i with hlt | hlt | hlt
  ·have:=List.nodup_iff_pairwise_ne.1 h.1
   rw[List.pairwise_iff_getElem] at this
   exact absurd f (this k i c g hlt)
  ·exact hlt
  ·have:=List.nodup_iff_pairwise_ne.1 h.1
   rw[List.pairwise_iff_getElem] at this
   exact absurd f.symm (this i k g c hlt)
end Go.Emb
namespace Go.Proofs.YtfppjenblllfaaaGreatDoor
open Go.Emb Go.RowKit Go.Kd Go.Hm
variable {w : World} {K : Value → World → Prop} {σ : Q5} {l : List Cla} {v : Value}
def Lu (l:List Cla) (i j:Nat):Bool:=match l[i]? with
 | none=>false
 | some c=>(J4 c).any fun u=>decide (Y3 l u=some j)
theorem Q8A (l:List Cla) (i j:Nat):Lu l i j=true↔Hm.Edge l i j:=by
 unfold Lu Hm.Edge
 cases h:l[i]? with
 | none=>simp
 | some c=>simp[List.any_eq_true]
theorem Q8h {l:List Cla} {i j:Nat} (h:l.length≤i):Lu l i j=false:=by
 unfold Lu
 rw[List.getElem?_eq_none h]
set_option maxHeartbeats 4000000 in
theorem Ag (hs:X4 w σ) (hl:Sl 8 U5 σ v l) (ho:G7 l) (hpos:0<l.length) (hlen:l.length≤1000) (hsm: ∀c∈l,T2 c)
 (h: ∀v' w' σ',Stp w σ w' σ'→Sl 1 Q3Z σ' v' (C5 l)→K v' w'):Q0 P F.ag [v] w K:=Bq (by
 unfold Vr
 refine Tv (R:=Q5k l.length) (e:=T.z) (Stp.refl hs) (by decide) fun x0 w1 hk1 ha1 _=>?_
 refine D3 l.length (fun n x w'=> ∃σ' bs,Stp w σ w' σ'∧V7 w.heap.size T.z 1 (Q5k l.length) σ' w' x bs∧T3 σ' w' bs l.length (Lu l)∧bs.length=n∧ ∀b∈bs,w.heap.size≤b∧x.ownBlock≠some b) ⟨σ,[],hk1,ha1,⟨List.nodup_nil,by simp⟩,rfl,by simp⟩ fun n x w2 d hn hinv=>?_
 obtain ⟨σ2,bs,hS2,ha2,hM2,hbl,hb2⟩:=hinv
 refine Q8 (hl.up hS2) ?_
 refine Z1 ?_
 refine Q6 (fun hc=>?_) (fun hc=>?_)
 ·have hn':n<l.length:=by simpa using hc
  have hl2:=hl.up hS2
  refine Q8 hl2 ?_
  refine X1G hS2.sat rfl (by omega) (by omega) fun b w3 hb3 hk3 hm3=>?_
  rw[Q5C] at hm3
  obtain ⟨lv,fv,mv,p1,r1⟩:=hl2.elC hn'
  obtain ⟨g1,_,_,g4,g5⟩:=r1.parts
  have hsmc:=hsm _ (List.getElem_mem hn')
  have hs3:=hk3.sat
  refine U8 hs3 ?_
  (repeat refine J5 P5 ?_)
  refine Q2w (w:=w3) (σ:=σ2) (R:=Y1) (sz:=1) (e:=T.b) [l[n].super] (fun t w hb e=>?_) ?_
  ·subst e;exact Qc hb.stp [_] [l[n].super] rfl rfl (by simp;rfl) rfl ⟨⟨rfl,g5⟩,trivial⟩ fun v' w' hk ha _=>Q4E hb hk ha
  (repeat refine J5 P5 ?_)
  rintro t24 t25 t30 t31 t26 t27 t32 w4 hb4 rfl rfl rfl rfl rfl ⟨f27,a27⟩ rfl
  refine Dg f27 a27 g1 rfl (by simp;have:=hsmc.1;omega) (by simp;have:=hsmc.1;omega) fun v5 w5 hn5 hS5 ha5 hat5=>?_
  obtain ⟨σ6,hS6,hv6,le6,_⟩:=ha5.keep hS5
  have hv6:Sl 1 Y1 σ6 v5 (J4 l[n]):=hv6
  have hb3w:w.heap.size≤b:=Nat.le_trans hS2.bel.size hb3
  have hm6:=hm3.up hS6
  have ha6:=(ha2.up hk3).up hS6
  have hM6:=(hM2.up hk3).up hS6
  have hS26:=(hS2.trans hk3).trans hS6
  have hxb: ∀k,x.ownBlock=some k→k≠b:=fun k e=>by have:=(ha2.mem k e).2.1;omega
  have hbbs:b∉bs:=fun e=>by have:=(hM2.lt e).1;omega
  clear hm3 ha2 hM2 hS6 hS5 ha5 a27 f27 hn5 hat5
  refine J1 (J4 l[n]).length (fun k w'=>Stp w σ w' σ6∧V7 w.heap.size T.z 1 (Q5k l.length) σ6 w' x bs∧T3 σ6 w' bs l.length (Lu l)∧Z5 σ6 w' b (bools l.length fun j=>((J4 l[n]).take k).any fun u=>decide (Y3 l u=some j)))
   ⟨hS26,ha6,hM6,hm6⟩ fun k w7 d7 hk hinv=>?_
  obtain ⟨hS7,ha7,hM7,hm7⟩:=hinv
  refine Q8 hv6 ?_
  refine Z1 ?_
  refine Q6 (fun hc=>?_) (fun hc=>?_)
  ·have hk':k<(J4 l[n]).length:=by simpa using hc
   refine V8 ?_
   refine J0 hv6 hk' ?_
   obtain ⟨p2,p3⟩:=hv6.elS hk'
   refine X8 hS7.sat p2 rfl ?_
   refine C2 hS7.sat (hl.up hS7) ?_
   refine Xe ?_
   rw[G9]
   have hnx: ∀f:Nat→Bool,(∀j,f j=(((J4 l[n]).take k).any (fun u=>decide (Y3 l u=some j))||decide (Y3 l (J4 l[n])[k]=some j)))→f=fun j=>((J4 l[n]).take (k+1)).any fun u=>decide (Y3 l u=some j):=by
    intro f hf;funext j;rw[hf,M4 hk']
   cases hfc:Y3 l (J4 l[n])[k] with
   | none=>
    simp only[Option.isSome_none,↓M1,M1,Mb,reduceIte]
    intro d
    refine Y2 hv6.max hk' ⟨hS7,ha7,hM7,?_⟩
    rw[←hnx (fun j=>((J4 l[n]).take k).any fun u=>decide (Y3 l u=some j)) (fun j=>by rw[hfc];simp)]
    exact hm7
   | some j=>
    have hj:=(E0 hfc).1
    simp only[Option.isSome_some,W3,↓M1,M1,Mb,reduceIte]
    refine Q0k hj ?_
    rw[Nat.mul_one]
    refine Mn hm7 (by rw[Tw];exact hj) (by rfl) (by rfl) fun w8 u8 hm8=>?_
    intro d
    rw[Q3k] at hm8
    refine Y2 hv6.max hk' ⟨u8.stp hS7 hb3w hm7.1,ha7.kp (D:=(· =b)) (.of_upd u8 rfl) hxb,hM7.kp (D:=(· =b)) (.of_upd u8 rfl) (fun c hc e=>hbbs (e▸hc)),?_⟩
    rw[←hnx (fun x=>if x=j then true else _) (fun i=>?_)]
    ·exact hm8
    ·rw[hfc]
     by_cases e:i=j
     ·subst e;simp
     ·have: ¬j=i:=fun e'=>e e'.symm
      simp[e,this]
  ·have hk': ¬k<(J4 l[n]).length:=by simpa using hc
   have hk0:k=(J4 l[n]).length:=by omega
   subst hk0
   rw[List.take_of_length_le (Nat.le_refl _)] at hm7
   have hef:(fun j=>(J4 l[n]).any fun u=>decide (Y3 l u=some j))=Lu l n:=by
    funext j;unfold Lu;rw[List.getElem?_eq_getElem hn']
   rw[hef] at hm7
   have hM8:=(hM7.snoc hbbs hm7).congr (m':=Lu l) (fun i _=>by
    by_cases e:i=bs.length
    ·rw[if_pos e,e,hbl]
    ·rw[if_neg e])
   refine Jy (R:=Q5k l.length) (x:=b) hS7 ha7 rfl rfl rfl rfl (by omega) (by omega) fun s v' w9 σ9 hnx hS9 ha9 hat=>?_
   have hdis: ∀c∈bs++[b],w.heap.size≤c∧x.ownBlock≠some c:=by
    intro c hc
    rcases List.mem_append.1 hc with hc | hc
    ·exact hb2 c hc
    ·simp at hc;subst hc;exact ⟨hb3w,fun e=>hxb _ e rfl⟩
   have hlt9: ∀c∈bs++[b],c<w7.heap.size:=fun c hc=>(hM8.lt hc).1
   refine E4 ?_
   refine Z6 (by omega) hn' ⟨σ9,bs++[b],hS9,ha9,hM8.nx hnx (fun c hc=>(hdis c hc).2),by rw[List.length_append,hbl];rfl,fun c hc=>⟨(hdis c hc).1,fun e=>?_⟩⟩
   rcases hat with hat | hat
   ·exact (hdis c hc).2 (hat▸e)
   ·have:=hat c e;have:=hlt9 c hc;omega
 ·have hn0:n=l.length:=by
   have: ¬n<l.length:=by simpa using hc
   omega
  obtain ⟨σ8,hS8,hv8,le8,old8⟩:=ha2.keep hS2
  have hlb:bs.length=l.length:=by omega
  have hM8:T3 σ8 w2 bs l.length (Lu l):=⟨hM2.1,fun i hi=>⟨(old8 _ (fun e=>(hb2 _ (List.getElem_mem hi)).2 e.symm)).trans (hM2.2 i hi).1,(hM2.2 i hi).2⟩⟩
  have hpx: ∀i (hi:i<bs.length),Z3 σ8 (Ib 1 x i) [.slice (some ⟨bs[i],0,none⟩) l.length l.length]:=fun i hi=>by
   obtain ⟨cs,h1,_,h2⟩:=hv8.el hi
   have h2:cs=_:=h2
   subst h2;exact h1
  clear ha2 hM2 hS2 le8 old8
  refine J1 l.length (fun k w'=> ∃m,Stp w σ w' σ8∧T3 σ8 w' bs l.length m∧Clos (Hm.Edge l) l.length k 0 0 m) ⟨Lu l,hS8,hM8,Clos.start (fun a b _=>Q8A l a b) (fun a b h=>Q8h h)⟩ fun k w3 d3 hk3 hinv=>?_
  obtain ⟨m3,hS3,hM3,hC3⟩:=hinv
  refine Q8 (hl.up hS3) ?_
  refine Z1 ?_
  refine Q6 (fun hc=>?_) (fun hc=>?_)
  ·have hk':k<l.length:=by simpa using hc
   refine J1 l.length (fun i w'=> ∃m,Stp w σ w' σ8∧T3 σ8 w' bs l.length m∧Clos (Hm.Edge l) l.length k i 0 m) ⟨m3,hS3,hM3,hC3⟩ fun i w4 d4 hi4 hinv=>?_
   obtain ⟨m4,hS4,hM4,hC4⟩:=hinv
   refine Q8 (hl.up hS4) ?_
   refine Z1 ?_
   refine Q6 (fun hc=>?_) (fun hc=>?_)
   ·have hi':i<l.length:=by simpa using hc
    refine J1 l.length (fun j w'=> ∃m,Stp w σ w' σ8∧T3 σ8 w' bs l.length m∧Clos (Hm.Edge l) l.length k i j m) ⟨m4,hS4,hM4,hC4⟩ fun j w5 d5 hj5 hinv=>?_
    obtain ⟨m5,hS5,hM5,hC5⟩:=hinv
    refine Q8 (hl.up hS5) ?_
    refine Z1 ?_
    refine Q6 (fun hc=>?_) (fun hc=>?_)
    ·have hj':j<l.length:=by simpa using hc
     have hi6:i<bs.length:=by omega
     have hk6:k<bs.length:=by omega
     have px_i:=hpx i hi6
     have px_k:=hpx k hk6
     have hrd: ∀{w':World} {K:Value→World→Prop} {a b:Nat} {ha:a<bs.length},Hst w5 σ8 w' σ8→b<l.length→K (.bool (m5 a b)) w'→Q2 P T.m (.pointer (some ((⟨bs[a],0,none⟩:Addr).add (b*1)))) w' K:=fun hst hb hK=>by
      rw[Nat.mul_one]
      exact Qd (((hM5.up hst.stp).2 _ _).cell (Q2P hb)) hK
     refine U8 hS5.sat ?_
     (repeat (apply J5;(· intros;(repeat (rename_i hx;subst hx));(repeat' (first | (with_reducible exact M5 rfl) | (with_reducible exact Qf (Stp.bel (by (repeat (first | exact Stp.refl (by (first | assumption | exact Stp.sat (by assumption) | exact Hst.sat (by assumption))) | assumption | refine Stp.trans ?_ (by first | assumption | exact Hst.stp (by assumption)))))) rfl) | (with_reducible intro _) | (simp only[↓M2,M2,Mb,reduceIte]) | (with_reducible refine Q0k au ?_) | (with_reducible refine hrd au au ?_) | (with_reducible show Q2 _ _ _ _ _;first | refine X8 aS aL aR ?_ | refine Y9 aS aL aR ?_ | refine ld aS aL aR ?_) | (with_reducible show indexAddr _ _ _ _ _ _;refine J0 aL au ?_) | (with_reducible show X5 _ _ _ _ _ _ _ _;refine Q8 aL ?_) | (with_reducible show Ut _ _ _ _ _ _;refine V3 aR ?_) | (with_reducible show pick _ _ _ _ _ _;refine Zq ?_) | (apply Jv;intro hh;(try simp only[hh,reduceIte,↓M2,M2,Mb,reduceIte]))));done)))
     cases h1:m5 i j
     ·simp only[reduceIte]
      (repeat (apply J5;(· intros;(repeat (rename_i hx;subst hx));(repeat' (first | (with_reducible exact M5 rfl) | (with_reducible exact Qf (Stp.bel (by (repeat (first | exact Stp.refl (by (first | assumption | exact Stp.sat (by assumption) | exact Hst.sat (by assumption))) | assumption | refine Stp.trans ?_ (by first | assumption | exact Hst.stp (by assumption)))))) rfl) | (with_reducible intro _) | (simp only[↓M2,M2,Mb,reduceIte]) | (with_reducible refine Q0k au ?_) | (with_reducible refine hrd au au ?_) | (with_reducible show Q2 _ _ _ _ _;first | refine X8 aS aL aR ?_ | refine Y9 aS aL aR ?_ | refine ld aS aL aR ?_) | (with_reducible show indexAddr _ _ _ _ _ _;refine J0 aL au ?_) | (with_reducible show X5 _ _ _ _ _ _ _ _;refine Q8 aL ?_) | (with_reducible show Ut _ _ _ _ _ _;refine V3 aR ?_) | (with_reducible show pick _ _ _ _ _ _;refine Zq ?_) | (apply Jv;intro hh;(try simp only[hh,reduceIte,↓M2,M2,Mb,reduceIte]))));done)))
      (intros;(repeat (rename_i hx;subst hx));(try simp only[↓M2,M2,Mb,reduceIte]))
      rename_i w6 hb6
      refine Q0k hj' ?_
      rw[Nat.mul_one]
      refine Eq.subst (motive:=fun V=>Z0 P T.m (.pointer (some ((⟨bs[i],0,none⟩:Addr).add j))) V w6 _) (show Value.bool (m5 i j||(m5 i k&&m5 k j))=_ from by cases h2:m5 i k<;>simp[h1,h2]) ?_
      refine Mn ((hM5.up hb6.stp).2 i hi6) (by rw[Tw];exact hj') (by rfl) (by rfl) fun w7 u7 hm7=>?_
      (try simp only[↓M1,M1,Mb,reduceIte])
      exact Y2 (by omega) hj' ⟨_,u7.stp (hS5.trans hb6.stp) (hb2 _ (List.getElem_mem hi6)).1 hm7.1,(hM5.up hb6.stp).set hi6 u7 hm7,hC5.next hk' hi' hj'⟩
     ·simp only[Bool.true_eq_false,reduceIte]
      (repeat (apply J5;(· intros;(repeat (rename_i hx;subst hx));(repeat' (first | (with_reducible exact M5 rfl) | (with_reducible exact Qf (Stp.bel (by (repeat (first | exact Stp.refl (by (first | assumption | exact Stp.sat (by assumption) | exact Hst.sat (by assumption))) | assumption | refine Stp.trans ?_ (by first | assumption | exact Hst.stp (by assumption)))))) rfl) | (with_reducible intro _) | (simp only[↓M2,M2,Mb,reduceIte]) | (with_reducible refine Q0k au ?_) | (with_reducible refine hrd au au ?_) | (with_reducible show Q2 _ _ _ _ _;first | refine X8 aS aL aR ?_ | refine Y9 aS aL aR ?_ | refine ld aS aL aR ?_) | (with_reducible show indexAddr _ _ _ _ _ _;refine J0 aL au ?_) | (with_reducible show X5 _ _ _ _ _ _ _ _;refine Q8 aL ?_) | (with_reducible show Ut _ _ _ _ _ _;refine V3 aR ?_) | (with_reducible show pick _ _ _ _ _ _;refine Zq ?_) | (apply Jv;intro hh;(try simp only[hh,reduceIte,↓M2,M2,Mb,reduceIte]))));done)))
      (intros;(repeat (rename_i hx;subst hx));(try simp only[↓M2,M2,Mb,reduceIte]))
      rename_i w6 hb6
      refine Q0k hj' ?_
      rw[Nat.mul_one]
      refine Eq.subst (motive:=fun V=>Z0 P T.m (.pointer (some ((⟨bs[i],0,none⟩:Addr).add j))) V w6 _) (show Value.bool (m5 i j||(m5 i k&&m5 k j))=_ from by simp[h1]) ?_
      refine Mn ((hM5.up hb6.stp).2 i hi6) (by rw[Tw];exact hj') (by rfl) (by rfl) fun w7 u7 hm7=>?_
      (try simp only[↓M1,M1,Mb,reduceIte])
      exact Y2 (by omega) hj' ⟨_,u7.stp (hS5.trans hb6.stp) (hb2 _ (List.getElem_mem hi6)).1 hm7.1,(hM5.up hb6.stp).set hi6 u7 hm7,hC5.next hk' hi' hj'⟩
    ·have hj0:j=l.length:=by
      have: ¬j<l.length:=by simpa using hc
      omega
     subst hj0
     refine E4 ?_
     exact Y2 (by omega) hi' ⟨m5,hS5,hM5,hC5.row⟩
   ·have hi0:i=l.length:=by
     have: ¬i<l.length:=by simpa using hc
     omega
    subst hi0
    refine E4 ?_
    exact Y2 (by omega) hk' ⟨m4,hS4,hM4,hC4.round⟩
  ·have hk0:k=l.length:=by
    have: ¬k<l.length:=by simpa using hc
    omega
   subst hk0
   obtain ⟨σ9,hS9,le9,hrows⟩:=hM3.keep hpos (by omega) hS3 (fun b hb=>(hb2 b hb).1)
   refine h _ _ _ hS9 ((hv8.lift le9).conv (by simp[C5,hlb]) fun i hi hj cs hcs=>?_)
   have hcs:cs=_:=hcs
   subst hcs
   refine ⟨_,rfl,?_⟩
   have:=hrows i hi
   have he:(C5 l)[i]=(List.range l.length).map (m3 i):=by
    have hi':i<l.length:=by omega
    simp only[C5,List.getElem_map,List.getElem_range]
    apply List.map_congr_left
    intro j hj
    exact (Clos.all ho hC3 hi' (by simpa using hj)).symm
   rw[he];exact this)
end Go.Proofs.YtfppjenblllfaaaGreatDoor
