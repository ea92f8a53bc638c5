/- Parts of a proof about the given program: its functions as texts of their own, what each computes, plain laws of that. The conditions of each stand in its statement. -/
import Derived.Test.YtfppjenblllfaaaGreatDoorB3
import Derived.Shelf.Strings.Builder1
import Derived.Shelf.Strings.Builder2
import Derived.Shelf.Strings.OnBuilder
import Derived.Shelf.Strings.Trim
import Derived.Shelf.Small.Utf8
import Derived.Shelf.Small.Strs
import Derived.Shelf.Small.Wraps
import Derived.Shelf.Strings.BuilderF
import Derived.Shelf.Strings.BuilderK
import Derived.Shelf.Strings.Builder2Cap
import Derived.Shelf.Strings.Search1
import Derived.Shelf.Strings.Search2
import Derived.Shelf.Strings.Search3
import Derived.Shelf.Strings.Cut
import Derived.Shelf.LaysM
import Derived.Shelf.Strings.Shaped
import Derived.Shelf.Strings.Prefix
import Derived.Shelf.Unicode.Decode
import Derived.Shelf.Strings.Runes
import Derived.Shelf.Strings.AsciiSet
import Derived.Shelf.Unicode.DecodeSlow
import Derived.Shelf.Unicode.DecodeAny
import Derived.Shelf.Unicode.DecodeLast
import Derived.Shelf.Slices.Turned
import Derived.Shelf.Slices.Equal
import Derived.Ground.Names2Prog
import Derived.Shelf.Slices.Clone
import Derived.Shelf.Slices.Empties2
import Derived.Ground.SlgnProg
import Derived.Shelf.SlicesE.Clone
import Derived.Shelf.Unicode.ValidAny
import Derived.Test.YtfppjenblllfaaaGreatDoorProg
import Derived.Test.YtfppjenblllfaaaGreatDoorB2
import Derived.Test.YtfppjenblllfaaaGreatDoorRows
import Derived.Lib.LaidU8T
import Derived.OpenShut
import Derived.MakeChecks
import Derived.WideShapes
import Derived.Lib.AsciiSet
import Derived.Lib.Join
import Derived.Maps.RangeRun
import Derived.Laws.OwnMore
set_option linter.unnecessarySimpa false
set_option linter.defProp false
set_option linter.unusedSectionVars false
set_option linter.unusedVariables false
set_option linter.unusedSimpArgs false
namespace Go.Proofs
open Go.Shelf
def Tryz.lays156_ren : Go.Shelf.Ren := ⟨fun | 156 => 165 | 165 => 200 | 166 => 201 | 169 => 202 | 240 => 219 | 241 => 220 | 276 => 230 | 277 => 231 | n => n, fun | 31 => 22 | 9 => 9 | 3 => 3 | 4 => 4 | 0 => 0 | 20 => 20 | 72 => 188 | 76 => 191 | 70 => 185 | 37 => 186 | 75 => 190 | 127 => 199 | 164 => 209 | 5 => 5 | 80 => 141 | n => n, fun | n => n⟩
theorem Tryz.lays156 : Go.Proofs.Lays.n156 Tryz.prog Tryz.lays156_ren := {
  mixed := by kernel_rfl
  f156 := Tryz.func165.trans (congrArg some (by kernel_rfl))
  f165 := Tryz.func200.trans (congrArg some (by kernel_rfl))
  f166 := Tryz.func201.trans (congrArg some (by kernel_rfl))
  f169 := Tryz.func202.trans (congrArg some (by kernel_rfl))
  f240 := Tryz.func219.trans (congrArg some (by kernel_rfl))
  f241 := Tryz.func220.trans (congrArg some (by kernel_rfl))
  f276 := Tryz.func230.trans (congrArg some (by kernel_rfl))
  f277 := Tryz.func231.trans (congrArg some (by kernel_rfl))
  t0 := Tryz.underlying0
  a0 := Tryz.isAgg0
  z0 := Tryz.sizeOf0
  v0 := Tryz.zeroValue0
  t3 := Tryz.underlying3
  a3 := Tryz.isAgg3
  z3 := Tryz.sizeOf3
  v3 := Tryz.zeroValue3
  t4 := Tryz.underlying4
  a4 := Tryz.isAgg4
  z4 := Tryz.sizeOf4
  v4 := Tryz.zeroValue4
  t9 := Tryz.underlying9
  a9 := Tryz.isAgg9
  z9 := Tryz.sizeOf9
  v9 := Tryz.zeroValue9
  t20 := Tryz.underlying20
  a20 := Tryz.isAgg20
  z20 := Tryz.sizeOf20
  v20 := Tryz.zeroValue20
  t31 := Tryz.underlying22
  a31 := Tryz.isAgg22
  z31 := Tryz.sizeOf22
  v31 := Tryz.zeroValue22
  t37 := Tryz.underlying186
  a37 := Tryz.isAgg186
  z37 := Tryz.sizeOf186
  v37 := Tryz.zeroValue186
  t70 := Tryz.underlying185
  a70 := Tryz.isAgg185
  z70 := Tryz.sizeOf185
  v70 := Tryz.zeroValue185
  t72 := Tryz.underlying188
  a72 := Tryz.isAgg188
  z72 := Tryz.sizeOf188
  v72 := Tryz.zeroValue188
  t75 := Tryz.underlying190
  a75 := Tryz.isAgg190
  z75 := Tryz.sizeOf190
  v75 := Tryz.zeroValue190
  t76 := Tryz.underlying191
  a76 := Tryz.isAgg191
  z76 := Tryz.sizeOf191
  v76 := Tryz.zeroValue191
  t127 := Tryz.underlying199
  a127 := Tryz.isAgg199
  z127 := Tryz.sizeOf199
  v127 := Tryz.zeroValue199
  t164 := Tryz.underlying209
  a164 := Tryz.isAgg209
  z164 := Tryz.sizeOf209
  v164 := Tryz.zeroValue209 }
theorem Tryz.Builder_Extra_156 : Builder.Extra Tryz.prog Tryz.lays156_ren := {
  sizeBuilder := by kernel_rfl
  liesBuilder := by kernel_rfl
  t5 := Tryz.underlying5
  a5 := Tryz.isAgg5
  z5 := Tryz.sizeOf5
  v5 := Tryz.zeroValue5
  infoByte := by kernel_rfl
  cellsByte := by kernel_rfl
  sizeByte := by kernel_rfl
  neB5 := by decide }
open Go.RowKit in
theorem Tryz.strings_Join_none (a : Option Addr) (c : Nat) (sep : ByteArray) (w : World) :
    Calls Tryz.prog 165 #[.slice a 0 c, .string sep] w fun e w' => e = .returned (.string ⟨#[]⟩) ∧ w' = w := Any.strings_Join_none Tryz.lays156 Tryz.Builder_Extra_156 a c sep w
open Go.RowKit in
theorem Tryz.strings_Join (bk o c : Nat) (xs : List ByteArray) (sep : ByteArray) (w : World) (hcells : ∀ (j : Nat) x, xs[j]? = some x → w.cell? ⟨bk, o + j, none⟩ = some (.string x)) (hbk : bk < w.heap.size) (hN : xs.length ≤ 140737488355328) (hcap : xs.length ≤ c) (hlen : (Lib.join (xs.map (·.data.toList)) sep.data.toList).length ≤ 140737488355328) :
    Calls Tryz.prog 165 #[.slice (some ⟨bk, o, none⟩) xs.length c, .string sep] w fun e w' => e = .returned (.string ⟨(Lib.join (xs.map (·.data.toList)) sep.data.toList).toArray⟩) ∧ Below w.heap.size w w' := Any.strings_Join Tryz.lays156 Tryz.Builder_Extra_156 bk o c xs sep w hcells hbk hN hcap hlen
open Go.RowKit in
def Tryz.lays144_ren : Go.Shelf.Ren := ⟨fun | 144 => 227 | 143 => 239 | 219 => 222 | 217 => 223 | 225 => 212 | 224 => 211 | 267 => 234 | 266 => 235 | 314 => 241 | n => n, fun | 9 => 9 | 4 => 4 | 3 => 3 | 5 => 5 | 46 => 196 | 146 => 218 | 51 => 217 | n => n, fun | 1 => 3 | n => n⟩
theorem Tryz.lays144 : Go.Proofs.Lays.n144 Tryz.prog Tryz.lays144_ren := {
  mixed := by kernel_rfl
  f143 := Tryz.func239.trans (congrArg some (by kernel_rfl))
  f144 := Tryz.func227.trans (congrArg some (by kernel_rfl))
  f217 := Tryz.func223.trans (congrArg some (by kernel_rfl))
  f219 := Tryz.func222.trans (congrArg some (by kernel_rfl))
  f224 := Tryz.func211.trans (congrArg some (by kernel_rfl))
  f225 := Tryz.func212.trans (congrArg some (by kernel_rfl))
  f266 := Tryz.func235.trans (congrArg some (by kernel_rfl))
  f267 := Tryz.func234.trans (congrArg some (by kernel_rfl))
  f314 := Tryz.func241.trans (congrArg some (by kernel_rfl))
  t3 := Tryz.underlying3
  a3 := Tryz.isAgg3
  z3 := Tryz.sizeOf3
  v3 := Tryz.zeroValue3
  t4 := Tryz.underlying4
  a4 := Tryz.isAgg4
  z4 := Tryz.sizeOf4
  v4 := Tryz.zeroValue4
  t5 := Tryz.underlying5
  a5 := Tryz.isAgg5
  z5 := Tryz.sizeOf5
  v5 := Tryz.zeroValue5
  t9 := Tryz.underlying9
  a9 := Tryz.isAgg9
  z9 := Tryz.sizeOf9
  v9 := Tryz.zeroValue9
  t46 := Tryz.underlying196
  a46 := Tryz.isAgg196
  z46 := Tryz.sizeOf196
  v46 := Tryz.zeroValue196
  t51 := Tryz.underlying217
  a51 := Tryz.isAgg217
  z51 := Tryz.sizeOf217
  v51 := Tryz.zeroValue217
  t146 := Tryz.underlying218
  a146 := Tryz.isAgg218
  z146 := Tryz.sizeOf218
  v146 := Tryz.zeroValue218
  g1 := by kernel_rfl }
open Go.RowKit Go.Lib in
theorem Tryz.strings_Contains_one (s : ByteArray) (c : UInt8) (w : World) :
    Calls Tryz.prog 227 #[.string s, .string ⟨#[c]⟩] w fun e w' => e = .returned (.bool (decide (0 ≤ Lib.indexByte s.data.toList c))) ∧ w' = w := Any.strings_Contains_one Tryz.lays144 s c w
def Tryz.lays227_ren : Go.Shelf.Ren := ⟨fun | 227 => 88 | n => n, fun | 9 => 9 | 116 => 107 | 4 => 4 | 0 => 0 | 3 => 3 | 5 => 5 | n => n, fun | n => n⟩
theorem Tryz.lays227 : Go.Proofs.Lays.n227 Tryz.prog Tryz.lays227_ren := {
  mixed := by kernel_rfl
  f227 := Tryz.func88.trans (congrArg some (by kernel_rfl))
  t0 := Tryz.underlying0
  a0 := Tryz.isAgg0
  z0 := Tryz.sizeOf0
  v0 := Tryz.zeroValue0
  t3 := Tryz.underlying3
  a3 := Tryz.isAgg3
  z3 := Tryz.sizeOf3
  v3 := Tryz.zeroValue3
  t4 := Tryz.underlying4
  a4 := Tryz.isAgg4
  z4 := Tryz.sizeOf4
  v4 := Tryz.zeroValue4
  t5 := Tryz.underlying5
  a5 := Tryz.isAgg5
  z5 := Tryz.sizeOf5
  v5 := Tryz.zeroValue5
  t9 := Tryz.underlying9
  a9 := Tryz.isAgg9
  z9 := Tryz.sizeOf9
  v9 := Tryz.zeroValue9
  t116 := Tryz.underlying107
  a116 := Tryz.isAgg107
  z116 := Tryz.sizeOf107 }
open Go.RowKit Go.Lib in
theorem Tryz.strings_makeASCIISet (hv116 : ∀ w, (zeroValue 107).run Tryz.prog w = .ok (.agg (Array.replicate 256 (.bool false))) w) (chars : ByteArray) (w : World) (hs : chars.size < 4294967281) (hascii : ∀ (j : Nat) b, chars.data.toList[j]? = some b → b.toNat < 128) :
    Calls Tryz.prog 88 #[.string chars] w fun e w' => e = .returned (.tuple #[.agg (Lib.setCells chars.data.toList), .bool true]) ∧ w' = w.alloc (.cells (Lib.setCells chars.data.toList) 107) := Any.strings_makeASCIISet Tryz.lays227 hv116 (by kernel_rfl) chars w hs hascii
open Go.RowKit Go.Lib in
def Tryz.lays196_ren : Go.Shelf.Ren := ⟨fun | 196 => 226 | 259 => 238 | n => n, fun | 9 => 9 | 4 => 4 | 3 => 3 | 5 => 5 | 12 => 12 | 119 => 200 | 0 => 0 | 46 => 196 | 139 => 203 | 138 => 202 | 53 => 220 | n => n, fun | 3 => 1 | 4 => 2 | n => n⟩
theorem Tryz.lays196 : Go.Proofs.Lays.n196 Tryz.prog Tryz.lays196_ren := {
  mixed := by kernel_rfl
  f196 := Tryz.func226.trans (congrArg some (by kernel_rfl))
  f259 := Tryz.func238.trans (congrArg some (by kernel_rfl))
  t0 := Tryz.underlying0
  a0 := Tryz.isAgg0
  z0 := Tryz.sizeOf0
  v0 := Tryz.zeroValue0
  t3 := Tryz.underlying3
  a3 := Tryz.isAgg3
  z3 := Tryz.sizeOf3
  v3 := Tryz.zeroValue3
  t4 := Tryz.underlying4
  a4 := Tryz.isAgg4
  z4 := Tryz.sizeOf4
  v4 := Tryz.zeroValue4
  t5 := Tryz.underlying5
  a5 := Tryz.isAgg5
  z5 := Tryz.sizeOf5
  v5 := Tryz.zeroValue5
  t9 := Tryz.underlying9
  a9 := Tryz.isAgg9
  z9 := Tryz.sizeOf9
  v9 := Tryz.zeroValue9
  t12 := Tryz.underlying12
  a12 := Tryz.isAgg12
  z12 := Tryz.sizeOf12
  v12 := Tryz.zeroValue12
  t46 := Tryz.underlying196
  a46 := Tryz.isAgg196
  z46 := Tryz.sizeOf196
  v46 := Tryz.zeroValue196
  t53 := Tryz.underlying220
  a53 := Tryz.isAgg220
  z53 := Tryz.sizeOf220
  v53 := Tryz.zeroValue220
  t119 := Tryz.underlying200
  a119 := Tryz.isAgg200
  z119 := Tryz.sizeOf200
  t138 := Tryz.underlying202
  a138 := Tryz.isAgg202
  z138 := Tryz.sizeOf202
  v138 := Tryz.zeroValue202
  t139 := Tryz.underlying203
  a139 := Tryz.isAgg203
  z139 := Tryz.sizeOf203
  v139 := Tryz.zeroValue203
  g3 := by kernel_rfl
  g4 := by kernel_rfl }
end Go.Proofs

namespace Go.Proofs.YtfppjenblllfaaaGreatDoor
open Go.Emb Go.RowKit Go.Kd Go.Hm
variable {w : World} {K : Value → World → Prop} {σ : Q5}
theorem Q8S {f:FuncId} {fn:Func} {a:List Value} {V:Value} (d:P.funcs[f]? =some fn) (b:fn.body.isSome=true) (g:(fn.name== "runtime.NumGoroutine")=false)
 (h:Calls P f a.toArray w fun e w'=>e= .returned V∧Below w.heap.size w w') (c: ∀w',Below w.heap.size w w'→K V w'):Q1 P f a w K:=by
 refine Uo d b g (Calls.mono h ?_)
 rintro e w' ⟨rfl,b⟩
 exact c w' b
theorem Q3t {a:Q9} (c:a.length≤Z9) (b:Lib.Utf8Tabs G.e G.d w) (h: ∀w',Below w.heap.size w w'→K (.bool (Lib.validD a)) w'):Q1 P F.bA [S a] w K:=
 Q8S Tryz.func226 (by kernel_rfl) (by kernel_rfl) (by
  have:=Any.utf8_ValidString Tryz.lays196 ⟨a.toArray⟩ w (by rw[C9];simp only[Z9] at c;omega) b
  simp only[List.toList_toArray] at this
  exact this) h
theorem Q5I {a:Q9} {c:UInt8} (h:K (.bool (decide (0≤Lib.indexByte a c))) w):Q1 P F.co [S a,S [c]] w K:=by
 refine Uo (fn:=Tryz.f227) Tryz.func227 (by kernel_rfl) (by kernel_rfl) (Calls.mono (Tryz.strings_Contains_one ⟨a.toArray⟩ c w) ?_)
 rintro e w' ⟨rfl,rfl⟩
 exact h
structure Glb (σ : Q5) : Prop where
  ops : Q16 σ
  tabs : ∀ w, X4 w σ → Lib.Utf8Tabs G.e G.d w
  flt : Z2 σ ⟨G.b, 0, none⟩ (J4.map S)
theorem Glb.lift {σ0:Q5} (h:Glb σ0) (k:SLe σ0 σ):Glb σ:=⟨h.ops.le k.le,fun w a=>h.tabs w fun b o e=>a b o (k.le b o e),h.flt.le k.le⟩
def txt (n s:Q9):Bool:=
 if n=[119,111,114,100] then decide (s.length≤64)&&Lib.validD s&& !decide (0≤Lib.indexByte s 10)
 else if n=[110,101,119] then W8 s
 else if n=[105,115]∨n=[99,97,115,116] then right s&& !plain s
 else if n=[97,114,114,97,121] then right s&&decide (Q19 s<3)
 else Xs s
theorem X15 {n a:Q9} (ha:a.length≤Z9) (hs:X4 w σ) (hg:Glb σ) (h: ∀w' σ',Stp w σ w' σ'→K (.bool (txt n a)) w'):Q1 P F.cD [S n,S a] w K:=Q5B (by
 unfold Q0z
 have ha':a.length≤140737488355320:=by simp only[Z9] at ha;omega
 have ha2:a.length≤140737488355328:=by simp only[Z9] at ha;omega
 have hv: ∀{w1:World} {K:Value→World→Prop},X4 w1 σ→(∀w',Below w1.heap.size w1 w'→K (.bool (Lib.validD a)) w')→Q1 P F.bA [S a] w1 K:=fun hk h=>Q3t ha (hg.tabs _ hk) h
 unfold txt at h
 have e:decide ((a.length:Int)≤64)=decide (a.length≤64):=by rw[Bool.eq_iff_iff];simp only[decide_eq_true_eq];omega
 have e3:decide ((Q19 a:Int)<3)=decide (Q19 a<3):=by rw[Bool.eq_iff_iff];simp only[decide_eq_true_eq];omega
 by_cases h1:n=[119,111,114,100]
 ·rw[if_pos h1] at h
  simp only[decide_eq_true h1,↓M1,M1,Mb,reduceIte,e]
  by_cases h2:a.length≤64
  ·simp only[decide_eq_true h2,↓M1,M1,Mb,reduceIte] at h⊢
   refine hv hs (W3 hs ?_)
   intro w1 σ1 hk
   by_cases h3:Lib.validD a=true
   ·simp only[h3,↓M1,M1,Mb,reduceIte] at h⊢
    refine Q5I ?_
    (repeat' (first | (with_reducible intro _) | (with_reducible refine V9 ?_) | (simp only[↓M2,M2,Mb,reduceIte]) | (with_reducible first | refine ld aS aL aR ?_ | refine X8 aS aL aR ?_ | refine Y7 aS aL aR ?_ | refine Q8 aL ?_ | refine V3 aR ?_ | refine Y8 aS ?_ | refine L3 aS aL ?_ | refine J6 aS aR ?_ | refine Y5 aS aR aR (Rep.one (by assumption)) ?_ | refine U0 aS aR aR aR ?_ | (refine Z3 (fun hh=>?_) (fun hh=>?_)<;>(try simp only[hh,Bool.not_true,Bool.not_false,↓M2,M2,Mb,reduceIte])) | (refine Q6 (fun hh=>?_) (fun hh=>?_)<;>(try simp only[hh,Bool.not_true,Bool.not_false,↓M2,M2,Mb,reduceIte])))))
    all_goals exact aF
   ·simp only[eq_false_of_ne_true h3,↓M1,M1,Mb,reduceIte] at h⊢
    (repeat' (first | (with_reducible intro _) | (with_reducible refine V9 ?_) | (simp only[↓M2,M2,Mb,reduceIte]) | (with_reducible first | refine ld aS aL aR ?_ | refine X8 aS aL aR ?_ | refine Y7 aS aL aR ?_ | refine Q8 aL ?_ | refine V3 aR ?_ | refine Y8 aS ?_ | refine L3 aS aL ?_ | refine J6 aS aR ?_ | refine Y5 aS aR aR (Rep.one (by assumption)) ?_ | refine U0 aS aR aR aR ?_ | (refine Z3 (fun hh=>?_) (fun hh=>?_)<;>(try simp only[hh,Bool.not_true,Bool.not_false,↓M2,M2,Mb,reduceIte])) | (refine Q6 (fun hh=>?_) (fun hh=>?_)<;>(try simp only[hh,Bool.not_true,Bool.not_false,↓M2,M2,Mb,reduceIte])))))
    all_goals exact aF
  ·simp only[decide_eq_false h2,↓M1,M1,Mb,reduceIte] at h⊢
   (repeat' (first | (with_reducible intro _) | (with_reducible refine V9 ?_) | (simp only[↓M2,M2,Mb,reduceIte]) | (with_reducible first | refine ld aS aL aR ?_ | refine X8 aS aL aR ?_ | refine Y7 aS aL aR ?_ | refine Q8 aL ?_ | refine V3 aR ?_ | refine Y8 aS ?_ | refine L3 aS aL ?_ | refine J6 aS aR ?_ | refine Y5 aS aR aR (Rep.one (by assumption)) ?_ | refine U0 aS aR aR aR ?_ | (refine Z3 (fun hh=>?_) (fun hh=>?_)<;>(try simp only[hh,Bool.not_true,Bool.not_false,↓M2,M2,Mb,reduceIte])) | (refine Q6 (fun hh=>?_) (fun hh=>?_)<;>(try simp only[hh,Bool.not_true,Bool.not_false,↓M2,M2,Mb,reduceIte])))))
   all_goals exact aF
 rw[if_neg h1] at h
 simp only[decide_eq_false h1,↓M1,M1,Mb,reduceIte]
 by_cases h2:n=[110,101,119]
 ·rw[if_pos h2] at h
  simp only[decide_eq_true h2,↓M1,M1,Mb,reduceIte]
  (repeat' (first | (with_reducible intro _) | (with_reducible refine V9 ?_) | (simp only[↓M2,M2,Mb,reduceIte]) | (with_reducible first | refine ld aS aL aR ?_ | refine X8 aS aL aR ?_ | refine Y7 aS aL aR ?_ | refine Q8 aL ?_ | refine V3 aR ?_ | refine Y8 aS ?_ | refine L3 aS aL ?_ | refine J6 aS aR ?_ | refine Y5 aS aR aR (Rep.one (by assumption)) ?_ | refine U0 aS aR aR aR ?_ | refine Dl _ au (W3 aS ?_) | (refine Z3 (fun hh=>?_) (fun hh=>?_)<;>(try simp only[hh,Bool.not_true,Bool.not_false,↓M2,M2,Mb,reduceIte])) | (refine Q6 (fun hh=>?_) (fun hh=>?_)<;>(try simp only[hh,Bool.not_true,Bool.not_false,↓M2,M2,Mb,reduceIte])))))
  all_goals exact aF
 rw[if_neg h2] at h
 simp only[decide_eq_false h2,↓M1,M1,Mb,reduceIte]
 by_cases h3:n=[105,115]∨n=[99,97,115,116]
 ·rw[if_pos h3] at h
  have e4:(decide (n=[105,115])||decide (n=[99,97,115,116]))=true:=by simpa using h3
  refine V9 ?_
  refine Q6 (fun h4=>?_) (fun h4=>?_)
  ·simp only[h4,↓M1,M1,Mb,reduceIte]
   (repeat' (first | (with_reducible intro _) | (with_reducible refine V9 ?_) | (simp only[↓M2,M2,Mb,reduceIte]) | (with_reducible first | refine ld aS aL aR ?_ | refine X8 aS aL aR ?_ | refine Y7 aS aL aR ?_ | refine Q8 aL ?_ | refine V3 aR ?_ | refine Y8 aS ?_ | refine L3 aS aL ?_ | refine J6 aS aR ?_ | refine Y5 aS aR aR (Rep.one (by assumption)) ?_ | refine U0 aS aR aR aR ?_ | refine Zq _ au (W3 aS ?_) | refine Vi _ ?_ | (refine Z3 (fun hh=>?_) (fun hh=>?_)<;>(try simp only[hh,Bool.not_true,Bool.not_false,↓M2,M2,Mb,reduceIte])) | (refine Q6 (fun hh=>?_) (fun hh=>?_)<;>(try simp only[hh,Bool.not_true,Bool.not_false,↓M2,M2,Mb,reduceIte])))))
   all_goals exact aF
  ·rw[h4,Bool.false_or] at e4
   simp only[e4,↓M1,M1,Mb,reduceIte]
   (repeat' (first | (with_reducible intro _) | (with_reducible refine V9 ?_) | (simp only[↓M2,M2,Mb,reduceIte]) | (with_reducible first | refine ld aS aL aR ?_ | refine X8 aS aL aR ?_ | refine Y7 aS aL aR ?_ | refine Q8 aL ?_ | refine V3 aR ?_ | refine Y8 aS ?_ | refine L3 aS aL ?_ | refine J6 aS aR ?_ | refine Y5 aS aR aR (Rep.one (by assumption)) ?_ | refine U0 aS aR aR aR ?_ | refine Zq _ au (W3 aS ?_) | refine Vi _ ?_ | (refine Z3 (fun hh=>?_) (fun hh=>?_)<;>(try simp only[hh,Bool.not_true,Bool.not_false,↓M2,M2,Mb,reduceIte])) | (refine Q6 (fun hh=>?_) (fun hh=>?_)<;>(try simp only[hh,Bool.not_true,Bool.not_false,↓M2,M2,Mb,reduceIte])))))
   all_goals exact aF
 rw[if_neg h3] at h
 obtain ⟨h3,h4⟩:=not_or.1 h3
 refine V9 ?_
 simp only[decide_eq_false h3,decide_eq_false h4,↓M1,M1,Mb,reduceIte]
 by_cases h5:n=[97,114,114,97,121]
 ·rw[if_pos h5] at h
  simp only[decide_eq_true h5,↓M1,M1,Mb,reduceIte]
  (repeat' (first | (with_reducible intro _) | (with_reducible refine V9 ?_) | (simp only[↓M2,M2,Mb,reduceIte]) | (with_reducible first | refine ld aS aL aR ?_ | refine X8 aS aL aR ?_ | refine Y7 aS aL aR ?_ | refine Q8 aL ?_ | refine V3 aR ?_ | refine Y8 aS ?_ | refine L3 aS aL ?_ | refine J6 aS aR ?_ | refine Y5 aS aR aR (Rep.one (by assumption)) ?_ | refine U0 aS aR aR aR ?_ | refine Zq _ au (W3 aS ?_) | refine X12 _ au (W3 aS ?_) | (refine Z3 (fun hh=>?_) (fun hh=>?_)<;>(try simp only[hh,Bool.not_true,Bool.not_false,↓M2,M2,Mb,reduceIte])) | (refine Q6 (fun hh=>?_) (fun hh=>?_)<;>(try simp only[hh,Bool.not_true,Bool.not_false,↓M2,M2,Mb,reduceIte])))))
  all_goals (try rw[e3])
  all_goals exact aF
 rw[if_neg h5] at h
 simp only[decide_eq_false h5,↓M1,M1,Mb,reduceIte]
 intro _
 refine X0k a ha2 (W3 hs fun w1 σ1 hk=>?_)
 by_cases hp:Xs a=true
 ·simp only[hp,if_true] at h⊢
  (repeat' (first | (with_reducible intro _) | (with_reducible refine V9 ?_) | (simp only[↓M2,M2,Mb,reduceIte]) | (with_reducible first | refine ld aS aL aR ?_ | refine X8 aS aL aR ?_ | refine Y7 aS aL aR ?_ | refine Q8 aL ?_ | refine V3 aR ?_ | refine Y8 aS ?_ | refine L3 aS aL ?_ | refine J6 aS aR ?_ | refine Y5 aS aR aR (Rep.one (by assumption)) ?_ | refine U0 aS aR aR aR ?_ | (refine Z3 (fun hh=>?_) (fun hh=>?_)<;>(try simp only[hh,Bool.not_true,Bool.not_false,↓M2,M2,Mb,reduceIte])) | (refine Q6 (fun hh=>?_) (fun hh=>?_)<;>(try simp only[hh,Bool.not_true,Bool.not_false,↓M2,M2,Mb,reduceIte])))))
  all_goals exact aF
 ·simp only[eq_false_of_ne_true hp,Bool.false_eq_true,if_false] at h⊢
  (repeat' (first | (with_reducible intro _) | (with_reducible refine V9 ?_) | (simp only[↓M2,M2,Mb,reduceIte]) | (with_reducible first | refine ld aS aL aR ?_ | refine X8 aS aL aR ?_ | refine Y7 aS aL aR ?_ | refine Q8 aL ?_ | refine V3 aR ?_ | refine Y8 aS ?_ | refine L3 aS aL ?_ | refine J6 aS aR ?_ | refine Y5 aS aR aR (Rep.one (by assumption)) ?_ | refine U0 aS aR aR aR ?_ | (refine Z3 (fun hh=>?_) (fun hh=>?_)<;>(try simp only[hh,Bool.not_true,Bool.not_false,↓M2,M2,Mb,reduceIte])) | (refine Q6 (fun hh=>?_) (fun hh=>?_)<;>(try simp only[hh,Bool.not_true,Bool.not_false,↓M2,M2,Mb,reduceIte])))))
  all_goals exact aF)
def N3 (i:Ins):Int:=if !(takes i.op).2.2 then 40 else if (!(takes i.op).1&&decide (i.n≠0))||(!(takes i.op).2.1&&decide (i.s≠[]))||((takes i.op).2.1&& !txt i.op i.s) then 41 else 0
theorem Q90 {a:Q9} (c:X4 w σ) (b:Glb σ) (h: ∀w',Below w.heap.size w w'→K (.tuple #[.bool (takes a).1, .bool (takes a).2.1, .bool (takes a).2.2]) w'):Q1 P F.bX [S a] w K:=X0u c b.ops h
theorem Q5g {i:Ins} {cs:List Value} (hs:X4 w σ) (hg:Glb σ) (hi:I8 σ i cs) (h: ∀w' σ',Stp w σ w' σ'→K (I (N3 i)) w'):Q1 P F.cw [.agg cs.toArray] w K:=Q3T (by
 obtain ⟨rfl,h1,h2,h3⟩:=hi
 unfold Ta
 unfold N3 at h
 (repeat' (first | (with_reducible intro _) | (with_reducible refine V9 ?_) | (simp only[↓M2,M2,Mb,reduceIte]) | (with_reducible first | refine ld aS aL aR ?_ | refine X8 aS aL aR ?_ | refine Y7 aS aL aR ?_ | refine Q8 aL ?_ | refine V3 aR ?_ | refine Y8 aS ?_ | refine L3 aS aL ?_ | refine J6 aS aR ?_ | refine Y5 aS aR aR (Rep.one (by assumption)) ?_ | refine U0 aS aR aR aR ?_ | refine Q90 au au (W3 aS ?_) | refine X15 au au au ?_ | (refine Z3 (fun hh=>?_) (fun hh=>?_)<;>(try simp only[hh,Bool.not_true,Bool.not_false,↓M2,M2,Mb,reduceIte])) | (refine Q6 (fun hh=>?_) (fun hh=>?_)<;>(try simp only[hh,Bool.not_true,Bool.not_false,↓M2,M2,Mb,reduceIte])))))
 all_goals exact aF)
end Go.Proofs.YtfppjenblllfaaaGreatDoor

namespace Go.Emb
open Go.RowKit Go.Hm
variable {P : Program} {W : World}
theorem Q0X {w:World} (c:X4 w (Ug W)) {a:Addr} {v:Value} (h:W.cell? a=some v):w.cell? a=some v:=by
 unfold World.cell? at h⊢
 cases b:W.heap[a.block]? with
 | none=>rw[b] at h;cases h
 | some o=>rw[b] at h;rw[c _ o b];exact h
theorem X1J {α:Type} {f:α→List Value} {sz:Nat} (k: ∀a,(f a).length=sz): ∀(l:List α) (cs:List Value),cs.length=l.length*sz→(∀i a,l[i]? =some a→(cs.drop (i*sz)).take sz=f a)→cs=l.flatMap f:=by
 intro l
 induction l with
 | nil=>intro cs h _;simp at h;simp[h]
 | cons a r c=>
  intro cs h hh
  have g:=hh 0 a rfl
  have j:=c (cs.drop sz) (by rw[List.length_drop,h,List.length_cons,Nat.succ_mul];omega) (fun i b e=>by
   have:=hh (i+1) b (by simpa using e)
   rw[List.drop_drop]
   rwa [Nat.succ_mul,Nat.add_comm] at this)
  rw[List.flatMap_cons,←j,←g]
  simp
theorem Q2V {α H:Type} {enc:TypeId×Value→H} {base:Nat} {u:Nat→Bool} {b:Bool} {f:α→List Value} {j:α→DataW H} {n sz:Nat} {t e:TypeId} {c:Nat} {cs:List Value} {p:List MemPlace} (y:P.underlying t=some (.array n e)) (E:P.cellsOf e=sz) (o:P.cellsOf t=n*sz)
 (l:List α) (z: ∀a,(f a).length=sz) (k: ∀m cs a q,DataW.trod enc P W base u b m e cs=some (j a,q)→cs=f a)
 (h:DataW.trod enc P W base u b c t cs=some (.agg (l.map j),p)):cs=l.flatMap f:=by
 obtain ⟨xs,m,_,g,D,J,B⟩:=DataW.trod_array y h
 simp only[Prod.mk.injEq,DataW.agg.injEq] at g
 have C:l.length=n:=by have:=congrArg List.length g.1;simp at this;omega
 refine X1J z l cs (by rw[D,o,C]) fun i a s=>?_
 have L:i<l.length:=(List.getElem?_eq_some_iff.1 s).1
 have w:=B i (by omega)
 have r:i<xs.length:=by omega
 rw[List.getElem?_eq_getElem r,E] at w
 have A:(xs[i]).1=j a:=by
  have:=congrArg (·[i]?) g.1
  simp only[List.getElem?_map,s,List.getElem?_eq_getElem r,Option.map_some,Option.some.injEq] at this
  exact this.symm
 exact k m _ a _ (by rw[w];congr 1;exact Prod.ext A rfl)
theorem Q4G {n:String} {g:Nat} {cs:Array Value} {l:List Value} (f:P.globalNamed n=some g) (a:W.var? P n=some cs) (c:cs.toList=l):Z2 (Ug W) ⟨g,0,none⟩ l:=by
 unfold World.var? at a
 rw[f] at a
 simp only[Option.bind_some] at a
 cases b:W.heap[g]? with
 | none=>rw[b] at a;cases a
 | some o=>
  rw[b] at a
  cases o with
  | cells D3 e j=>
   cases a
   refine ⟨rfl,cs,e,j,b,fun i v h=>?_⟩
   subst c
   simpa using h
  | _=>cases a
end Go.Emb
namespace Go.Proofs.YtfppjenblllfaaaGreatDoor
open Go.Emb Go.RowKit Go.Kd Go.Hm
variable {W : World}
def laidAll:List (String×DataW Unit):=[("unicode/utf8.acceptRanges",Rows.laid_unicode_utf8_acceptRanges),("squinch/code.ops",Rows.laid_squinch_code_ops),("squinch/hier.faults",Rows.laid_squinch_hier_faults),("unicode/utf8.first",Rows.laid_unicode_utf8_first)]
theorem X1X:Rows.laid_squinch_code_ops=(.agg (Yo.map fun o=> .agg [.lit (.string o.name), .lit (.bool o.number), .lit (.bool o.text)]):DataW Unit):=by rfl
theorem Q9c:Rows.laid_squinch_hier_faults=(.agg (J4.map fun s=> .lit (.string s)):DataW Unit):=by rfl
theorem X1W:(Rows.laid_unicode_utf8_acceptRanges:DataW Unit)=Lib.acceptData:=by rfl
theorem X0h:Rows.laid_unicode_utf8_first=Lib.firstData:=by kernel_rfl
def X2k:Array Field:= #[⟨"name",T.b,0,false, "", "squinch/code",0⟩,⟨"number",T.m,1,false, "", "squinch/code",16⟩,⟨"text",T.m,2,false, "", "squinch/code",17⟩]
theorem X2j:P.underlying T.a6=some (.struct X2k):=by kernel_rfl
theorem X1K (h:laidMetH P laidAll W):Glb (Ug W):=by
 rw[Go.MakeChecks.laidMetH_plain _ _ _ (by kernel_rfl)] at h
 refine ⟨?_,fun w B=>?_,?_⟩
 ·obtain ⟨g,t,cs,r,p,l,k,b,u⟩:=Lib.laidMet.reads h (.tail _ (.head _))
  obtain rfl:=Option.some.inj ((show P.globalNamed "squinch/code.ops"=some G.a by kernel_rfl).symm.trans l)
  obtain rfl:=Option.some.inj ((show (P.globals[G.a]?).map (·.type)=some T.a8 by kernel_rfl).symm.trans k)
  rw[X1X] at u
  refine Q4G l b (Q2V (f:=cOp) (sz:=3) (n:=42) (e:=T.a6) (by kernel_rfl) (by kernel_rfl) (by kernel_rfl) Yo (fun _=>rfl) (fun m cs a q h=>by
  obtain ⟨xs,n,_,j,h1,Y,z⟩:=DataW.trod_struct X2j h
  simp only[Prod.mk.injEq,DataW.agg.injEq] at j
  have o:cs.length=3:=by rw[h1];kernel_rfl
  obtain ⟨A,C,y,rfl⟩:=Q6m o
  obtain ⟨V,x1,x2,rfl⟩:=Q6m (show xs.length=3 by rw[Y];rfl)
  have j:=j.1
  simp only[List.map_cons,List.map_nil,List.cons.injEq,and_true] at j
  obtain ⟨E,D,O⟩:=j
  have J:DataW.trod (fun _=>()) P W 0 (fun _=>true) false n T.b (List.take (P.cellsOf T.b) (List.drop 0 [A,C,y]))=some V:=z 0 _ rfl
  have U:DataW.trod (fun _=>()) P W 0 (fun _=>true) false n T.m (List.take (P.cellsOf T.m) (List.drop 1 [A,C,y]))=some x1:=z 1 _ rfl
  have N:DataW.trod (fun _=>()) P W 0 (fun _=>true) false n T.m (List.take (P.cellsOf T.m) (List.drop 2 [A,C,y]))=some x2:=z 2 _ rfl
  rw[Gf] at J
  rw[Q8i] at U N
  obtain ⟨⟨⟨s0⟩⟩,R,Z,_⟩:=DataW.trod_string X7 J
  obtain ⟨b1,L,r1⟩:=DataW.trod_bool Pp U
  obtain ⟨b2,Q,X⟩:=DataW.trod_bool Pp N
  simp at R L Q
  subst R L Q Z r1 X
  simp at E D O
  simp[cOp,←E,←D,←O]) u)
 ·have:=utf8Tabs_of_readsT (U8Types.of196 Tryz.lays196) ⟨by kernel_rfl,by kernel_rfl,by kernel_rfl,by kernel_rfl,by kernel_rfl,by kernel_rfl,by kernel_rfl⟩ (X0h▸Lib.laidMet.reads h (.tail _ (.tail _ (.tail _ (.head _))))) (X1W▸Lib.laidMet.reads h (.head _))
  exact ⟨fun c hc=>Q0X B (this.1 c hc),fun i M=>⟨Q0X B (this.2 i M).1,Q0X B (this.2 i M).2⟩⟩
 ·obtain ⟨g,t,cs,r,p,l,k,b,u⟩:=Lib.laidMet.reads h (.tail _ (.tail _ (.head _)))
  obtain rfl:=Option.some.inj ((show P.globalNamed "squinch/hier.faults"=some G.b by kernel_rfl).symm.trans l)
  obtain rfl:=Option.some.inj ((show (P.globals[G.b]?).map (·.type)=some T.ag by kernel_rfl).symm.trans k)
  rw[Q9c] at u
  have:=Q2V (f:=fun s=>[S s]) (sz:=1) (n:=6) (e:=T.b) (by kernel_rfl) Gf (by kernel_rfl) J4 (fun _=>rfl) (fun m cs a q h=>by
   obtain ⟨⟨⟨s⟩⟩,rfl,j,_⟩:=DataW.trod_string X7 h
   cases j;rfl) u
  exact Q4G l b (this.trans (by rfl))
end Go.Proofs.YtfppjenblllfaaaGreatDoor
namespace Go.Emb
open Go.RowKit Go.Hm
theorem Q7x {H:Type} {P:Program} {a:List TypeId} {ds:List (DataW H)} (h:(DataW.weightsEach P a ds).all (· ≤reachBytes)=true) {j:Nat} {t:TypeId} {d:DataW H} (b:a[j]? =some t) (c:ds[j]? =some d):Wt P t d:=fun n e=>by
 have:=List.all_eq_true.1 h _ (DataW.weights_mem_each b c n e)
 simpa using this
end Go.Emb
namespace Go.Proofs.YtfppjenblllfaaaGreatDoor
open Go.Emb Go.RowKit Go.Kd Go.Hm
section
variable {H : Type} {enc : TypeId × Value → H} {W : World} {v : Value} {d : DataW H} {p : List MemPlace}
end
end Go.Proofs.YtfppjenblllfaaaGreatDoor

namespace Go.Proofs.YtfppjenblllfaaaGreatDoor
open Go.Emb Go.RowKit Go.Kd Go.Hm
variable {w : World} {K : Value → World → Prop} {σ : Q5}
def C7 (n:Int) (x:Cat):Bool:=decide (0≤x.frm)&&decide (x.frm<x.to)&&decide (x.to≤n)&&decide (0≤x.at_)&&decide (x.at_<n)&&W8 x.cls
theorem Q7h {cs:List Value} {c:Cat} {q:Addr} {n:Int} (hs:X4 w σ) (hc:Ys σ c cs) (hq:Z2 σ q [I n]) (h: ∀w' σ',Stp w σ w' σ'→K (.bool (C7 n c)) w'):Q1 P F.b5 [.agg cs.toArray, .pointer (some q)] w K:=Q15 (by
 obtain ⟨rfl,h1,h2,h3,h4⟩:=hc
 unfold Ey
 unfold C7 at h
 (repeat' (first | (with_reducible intro _) | (with_reducible refine V9 ?_) | (simp only[↓M2,M2,Mb,reduceIte]) | (with_reducible first | refine ld aS aL aR ?_ | refine X8 aS aL aR ?_ | refine Y7 aS aL aR ?_ | refine Q8 aL ?_ | refine V3 aR ?_ | refine Y8 aS ?_ | refine L3 aS aL ?_ | refine J6 aS aR ?_ | refine Y5 aS aR aR (Rep.one (by assumption)) ?_ | refine U0 aS aR aR aR ?_ | refine Dl _ au (W3 aS ?_) | (refine Z3 (fun hh=>?_) (fun hh=>?_)<;>(try simp only[hh,Bool.not_true,Bool.not_false,↓M2,M2,Mb,reduceIte])) | (refine Q6 (fun hh=>?_) (fun hh=>?_)<;>(try simp only[hh,Bool.not_true,Bool.not_false,↓M2,M2,Mb,reduceIte])))))
 all_goals exact aF)
theorem Q6l {cs:List Value} {i:Ins} (hs:X4 w σ) (hg:Glb σ) (hc:I8 σ i cs) (h: ∀w' σ',Stp w σ w' σ'→K (.bool (decide (N3 i=0))) w'):Q1 P F.b6 [.agg cs.toArray] w K:=Q18 (by
 obtain ⟨rfl,h1,h2,h3⟩:=hc
 have hc:I8 σ i [S i.op,I i.n,S i.s]:=⟨rfl,h1,h2,h3⟩
 unfold Ev
 (repeat' (first | (with_reducible intro _) | (with_reducible refine V9 ?_) | (simp only[↓M2,M2,Mb,reduceIte]) | (with_reducible first | refine ld aS aL aR ?_ | refine X8 aS aL aR ?_ | refine Y7 aS aL aR ?_ | refine Q8 aL ?_ | refine V3 aR ?_ | refine Y8 aS ?_ | refine L3 aS aL ?_ | refine J6 aS aR ?_ | refine Y5 aS aR aR (Rep.one (by assumption)) ?_ | refine U0 aS aR aR aR ?_ | refine Q5g au au au ?_ | (refine Z3 (fun hh=>?_) (fun hh=>?_)<;>(try simp only[hh,Bool.not_true,Bool.not_false,↓M2,M2,Mb,reduceIte])) | (refine Q6 (fun hh=>?_) (fun hh=>?_)<;>(try simp only[hh,Bool.not_true,Bool.not_false,↓M2,M2,Mb,reduceIte])))))
 all_goals exact aF)
def C8 (m:Hm.Met):Bool:=L6 m.name&&m.params.all right&&(decide (m.result=[])||right m.result)&&
 if m.abs then decide (m.locals=0)&&decide (m.code=[])&&decide (m.catches=[])
 else decide (m.code≠[])&&decide ((m.params.length:Int)<m.locals)&&m.code.all (fun i=>decide (N3 i=0))&&m.catches.all (C7 m.code.length)
theorem Q92 {cs:List Value} {m:Hm.Met} (hs:X4 w σ) (hg:Glb σ) (hm:M5 σ m cs) (h: ∀w' σ',Stp w σ w' σ'→K (.bool (C8 m)) w'):Q1 P F.aY [.agg cs.toArray] w K:=Q29 (by
 obtain ⟨pv,cv,hv,rfl,g1,g2,g3,g4,g5,g6⟩:=hm
 unfold Ci
 unfold C8 at h
 have e1:decide ((0:Int)<m.code.length)=decide (m.code≠[]):=by cases m.code<;>simp
 have e2:decide ((m.code.length:Int)=0)=decide (m.code=[]):=by cases m.code<;>simp;omega
 have e3:decide ((m.catches.length:Int)=0)=decide (m.catches=[]):=by cases m.catches<;>simp;omega
 have hA: ∀{w1:World} {σ1:Q5} {K:Value→World→Prop},X4 w1 σ1→Sl 1 Y1 σ1 pv m.params→(∀w' σ',Stp w1 σ1 w' σ'→K (.bool (m.params.all right)) w')→Q1 P F.a5 [pv, .func (.func F.a2) #[] #[]] w1 K:=
  fun hs hv h=>Cp right hs hv (fun σ1 x w1 K _ _ hs hl hK=>Y9 (Zq x (Nat.le_trans hl (by decide)) hK)) (W3 hs h)
 have hB: ∀{w1:World} {σ1:Q5} {K:Value→World→Prop},X4 w1 σ1→Glb σ1→Sl 3 I8 σ1 cv m.code→(∀w' σ',Stp w1 σ1 w' σ'→K (.bool (m.code.all fun i=>decide (N3 i=0))) w')→Q1 P F.ar [cv, .func (.func F.b6) #[] #[]] w1 K:=
  fun hs hg hv h=>Q0s (fun i=>decide (N3 i=0)) hs hv (fun σ1 x cs w1 K le _ hs hr hl hK=>Y9 (Q6l hs (hg.lift ⟨le⟩) hr fun w' σ' hk=>hK w' hk.bel)) (W3 hs h)
 have hC: ∀{w1:World} {σ1:Q5} {K:Value→World→Prop} {q:Addr},X4 w1 σ1→Sl 4 Ys σ1 hv m.catches→Z2 σ1 q [I m.code.length]→(∀w' σ',Stp w1 σ1 w' σ'→K (.bool (m.catches.all (C7 m.code.length))) w')→Q1 P F.au [hv, .func (.func F.b5) #[] #[.pointer (some q)]] w1 K:=
  fun hs hv hq h=>Q0n (C7 m.code.length) hs hv (fun σ1 x cs w1 K le _ hs hr hl hK=>Y9 (Q7h hs hr (hq.le le) fun w' σ' hk=>hK w' hk.bel)) (W3 hs h)
 refine Y8 hs fun a w1 σ1 hk1 ha1=>?_
 (repeat' (first | (with_reducible intro _) | (with_reducible refine V9 ?_) | (simp only[↓M2,M2,Mb,reduceIte]) | (with_reducible first | refine ld aS aL aR ?_ | refine X8 aS aL aR ?_ | refine Y7 aS aL aR ?_ | refine Q8 aL ?_ | refine V3 aR ?_ | refine Y8 aS ?_ | refine L3 aS aL ?_ | refine J6 aS aR ?_ | refine Y5 aS aR aR (Rep.one (by assumption)) ?_ | refine U0 aS aR aR aR ?_ | refine Q3N au (W3 aS ?_) | refine Zq _ au (W3 aS ?_) | refine hA au au ?_ | refine hB au au au ?_ | refine hC au au au ?_ | (refine Z3 (fun hh=>?_) (fun hh=>?_)<;>(try simp only[hh,Bool.not_true,Bool.not_false,↓M2,M2,Mb,reduceIte])) | (refine Q6 (fun hh=>?_) (fun hh=>?_)<;>(try simp only[hh,Bool.not_true,Bool.not_false,↓M2,M2,Mb,reduceIte])))))
 all_goals (simp only[←e1,←e2,←e3] at h;clear e1 e2 e3;exact aF))
theorem Q7P {cs:List Value} {m:Hm.Met} (b:X4 w σ) (a:Glb σ) (d:M5 σ m cs) (h: ∀w' c,Stp w σ w' c→K (.bool (C8 m)) w'):Z1 P (.func (.func F.aY) #[] #[]) [.agg cs.toArray] w K:=Y9 (Q92 b a d h)
def Nj (f:Fld):Bool:=L6 f.name&&right f.kind
def Wz (c:Cla):Bool:=(c.name::c.super::c.like).all W8&& !((c.super::c.like).any fun y=>decide (c.name=y))&&H0 id [] c.like&&
 !(c.iface&&(!c.abs|| !decide (c.super=Z7)|| !decide (c.fields=[])||c.methods.any (fun m=> !m.abs)))&&
 !((c.abs&&c.fin)||(c.methods.any (·.abs)&& !c.abs))&&H0 Fld.name [] c.fields&&H0 Hm.Met.name [] c.methods&&c.fields.all Nj&&c.methods.all C8
def L7 (c:Cla):Int:=if Xx c then 51 else if Wz c then 0 else 50
theorem Q7p {cs:List Value} {f:Fld} (hs:X4 w σ) (hf:E6 σ f cs) (h: ∀w' σ',Stp w σ w' σ'→K (.bool (Nj f)) w'):Q1 P F.bm [.agg cs.toArray] w K:=Q1m (by
 obtain ⟨rfl,h1,h2⟩:=hf
 unfold Rj
 unfold Nj at h
 (repeat' (first | (with_reducible intro _) | (with_reducible refine V9 ?_) | (simp only[↓M2,M2,Mb,reduceIte]) | (with_reducible first | refine ld aS aL aR ?_ | refine X8 aS aL aR ?_ | refine Y7 aS aL aR ?_ | refine Q8 aL ?_ | refine V3 aR ?_ | refine Y8 aS ?_ | refine L3 aS aL ?_ | refine J6 aS aR ?_ | refine Y5 aS aR aR (Rep.one (by assumption)) ?_ | refine U0 aS aR aR aR ?_ | refine Q3N au (W3 aS ?_) | refine Zq _ au (W3 aS ?_) | (refine Z3 (fun hh=>?_) (fun hh=>?_)<;>(try simp only[hh,Bool.not_true,Bool.not_false,↓M2,M2,Mb,reduceIte])) | (refine Q6 (fun hh=>?_) (fun hh=>?_)<;>(try simp only[hh,Bool.not_true,Bool.not_false,↓M2,M2,Mb,reduceIte])))))
 all_goals exact aF)
set_option maxHeartbeats 1600000 in
theorem X0F {cs:List Value} {c:Cla} (hs:X4 w σ) (hg:Glb σ) (hc:U4 σ c cs) (hl:c.like.length≤1000000) (h: ∀w' σ',Stp w σ w' σ'→K (.bool (Wz c)) w'):Q1 P F.cd [.agg cs.toArray] w K:=Q3i (by
 obtain ⟨lv,fv,mv,rfl,g1,g2,g3,g4,g5⟩:=hc
 unfold Gy
 unfold Wz at h
 refine Y8 hs fun a w1 σ1 hk1 ha1=>?_
 rw[fa]
 refine ld hk1.sat ha1 rfl ?_
 rw[fa]
 refine ld hk1.sat ha1 rfl ?_
 refine Qb (R:=Y1) (sz:=1) (xs:=[c.name,c.super]) hk1 [_,_] rfl rfl (by simp;exact ⟨rfl,rfl⟩) rfl ⟨⟨rfl,g4⟩,⟨rfl,g5⟩,trivial⟩ fun v w2 hk2 hacc _=>?_
 rw[fa]
 refine ld hk2.sat ha1 rfl ?_
 refine Ow (hk1.trans hk2) hacc (g1.up hk1) rfl (by simp;omega) (by simp;omega) fun v' w3 hn3 hS3 hacc3 _=>?_
 obtain ⟨σ3,hS3,hv3,le3,_⟩:=hacc3.keep hS3
 have hv3:Sl 1 Y1 σ3 v' (c.name::c.super::c.like):=hv3
 have ha3:=ha1.le le3
 have le13:SLe σ σ3:=⟨hS3.le⟩
 have g1:=g1.lift le13
 have g2:=g2.lift le13
 have g3:=g3.lift le13
 have hg:=hg.lift le13
 refine U6 hS3.sat ?_
 refine W7 (fun v _=>Sl 1 Y1 σ3 v (c.super::c.like)) (fun _ _ _ h _=>h) (fun w hb=>?_) ?_
 ·refine Sx hv3 (some (I 1)) none 1 (c.like.length+2) (.inr rfl) (.inl ⟨rfl,by simp⟩) (by omega) (by simp) fun v' hv'=>⟨Below.refl _ _,?_⟩
  simpa using hv'
 refine X2 (.pointer (some (a.add 0))) (fun w hb=>by rw[fa];exact X6 rfl) ?_
 refine X2 (S c.name) (fun t w hb e=>by rw[e];exact ld hb.sat ha3 rfl (X6 rfl)) ?_
 rintro t16 t17 t18 w4 hb4 f16 rfl rfl
 have hS4:=hS3.trans hb4.stp
 clear hb4 hk1 hk2 hn3
 have hs4:=hS4.sat
 refine Q0o hs4 f16 ?_
 have hA: ∀{w1:World} {σ1:Q5} {K:Value→World→Prop},X4 w1 σ1→Sl 7 M5 σ1 mv c.methods→(∀w' σ',Stp w1 σ1 w' σ'→K (.bool (c.methods.any (·.abs))) w')→Q1 P F.a [mv, .func (.func F.bY) #[] #[]] w1 K:=
  fun hs hv h=>R1 (·.abs) hs hv (fun x cs w1 K _ hs hr hl hK=>Y9 (Q1n (by
   obtain ⟨pv,cv,hv,rfl,_⟩:=hr
   unfold Rm
   refine Y8 hs fun a w1 σ1 hk1 ha1=>?_
   (repeat' (first | (with_reducible intro _) | (with_reducible refine V9 ?_) | (simp only[↓M2,M2,Mb,reduceIte]) | (with_reducible first | refine ld aS aL aR ?_ | refine X8 aS aL aR ?_ | refine Y7 aS aL aR ?_ | refine Q8 aL ?_ | refine V3 aR ?_ | refine Y8 aS ?_ | refine L3 aS aL ?_ | refine J6 aS aR ?_ | refine Y5 aS aR aR (Rep.one (by assumption)) ?_ | refine U0 aS aR aR aR ?_ | (refine Z3 (fun hh=>?_) (fun hh=>?_)<;>(try simp only[hh,Bool.not_true,Bool.not_false,↓M2,M2,Mb,reduceIte])) | (refine Q6 (fun hh=>?_) (fun hh=>?_)<;>(try simp only[hh,Bool.not_true,Bool.not_false,↓M2,M2,Mb,reduceIte])))))
   exact hK _ hk1.bel))) (W3 hs h)
 have hB: ∀{w1:World} {σ1:Q5} {K:Value→World→Prop},X4 w1 σ1→Sl 7 M5 σ1 mv c.methods→(∀w' σ',Stp w1 σ1 w' σ'→K (.bool (c.methods.any fun m=> !m.abs)) w')→Q1 P F.a [mv, .func (.func F.bZ) #[] #[]] w1 K:=
  fun hs hv h=>R1 (fun m=> !m.abs) hs hv (fun x cs w1 K _ hs hr hl hK=>Y9 (Q1s (by
   obtain ⟨pv,cv,hv,rfl,_⟩:=hr
   unfold Rq
   refine Y8 hs fun a w1 σ1 hk1 ha1=>?_
   (repeat' (first | (with_reducible intro _) | (with_reducible refine V9 ?_) | (simp only[↓M2,M2,Mb,reduceIte]) | (with_reducible first | refine ld aS aL aR ?_ | refine X8 aS aL aR ?_ | refine Y7 aS aL aR ?_ | refine Q8 aL ?_ | refine V3 aR ?_ | refine Y8 aS ?_ | refine L3 aS aL ?_ | refine J6 aS aR ?_ | refine Y5 aS aR aR (Rep.one (by assumption)) ?_ | refine U0 aS aR aR aR ?_ | (refine Z3 (fun hh=>?_) (fun hh=>?_)<;>(try simp only[hh,Bool.not_true,Bool.not_false,↓M2,M2,Mb,reduceIte])) | (refine Q6 (fun hh=>?_) (fun hh=>?_)<;>(try simp only[hh,Bool.not_true,Bool.not_false,↓M2,M2,Mb,reduceIte])))))
   exact hK _ hk1.bel))) (W3 hs h)
 have hC: ∀{w1:World} {σ1:Q5} {K:Value→World→Prop},X4 w1 σ1→Sl 1 Y1 σ1 v' (c.name::c.super::c.like)→(∀w' σ',Stp w1 σ1 w' σ'→K (.bool ((c.name::c.super::c.like).all W8)) w')→Q1 P F.a5 [v', .func (.func F.ah) #[] #[]] w1 K:=
  fun hs hv h=>Cp W8 hs hv (fun σ1 x w1 K _ _ hs hl hK=>Y9 (Dl x (Nat.le_trans hl (by decide)) hK)) (W3 hs h)
 have hD: ∀{w1:World} {σ1:Q5} {K:Value→World→Prop},X4 w1 σ1→Sl 1 Y1 σ1 lv c.like→(∀w' σ',Stp w1 σ1 w' σ'→K (.bool (H0 id [] c.like)) w')→Q1 P F.aJ [lv, .func (.func F.c0) #[] #[]] w1 K:=
  fun hs hv h=>Q3k id hs hv (fun σ1 x w1 K _ hs hl hK=>Y9 (Q1R (hK _ (Below.refl _ _)))) (W3 hs h)
 have hE: ∀{w1:World} {σ1:Q5} {K:Value→World→Prop},X4 w1 σ1→Sl 3 E6 σ1 fv c.fields→(∀w' σ',Stp w1 σ1 w' σ'→K (.bool (H0 Fld.name [] c.fields)) w')→Q1 P F.ay [fv, .func (.func F.c1) #[] #[]] w1 K:=
  fun hs hv h=>Q1d Fld.name hs hv (fun σ1 x cs w1 K _ hs hr hl hK=>Y9 (Q1P (by
   obtain ⟨rfl,_⟩:=hr
   unfold Hy
   refine Y8 hs fun a w1 σ1 hk1 ha1=>?_
   (repeat' (first | (with_reducible intro _) | (with_reducible refine V9 ?_) | (simp only[↓M2,M2,Mb,reduceIte]) | (with_reducible first | refine ld aS aL aR ?_ | refine X8 aS aL aR ?_ | refine Y7 aS aL aR ?_ | refine Q8 aL ?_ | refine V3 aR ?_ | refine Y8 aS ?_ | refine L3 aS aL ?_ | refine J6 aS aR ?_ | refine Y5 aS aR aR (Rep.one (by assumption)) ?_ | refine U0 aS aR aR aR ?_ | (refine Z3 (fun hh=>?_) (fun hh=>?_)<;>(try simp only[hh,Bool.not_true,Bool.not_false,↓M2,M2,Mb,reduceIte])) | (refine Q6 (fun hh=>?_) (fun hh=>?_)<;>(try simp only[hh,Bool.not_true,Bool.not_false,↓M2,M2,Mb,reduceIte])))))
   exact hK _ hk1.bel))) (W3 hs h)
 have hF: ∀{w1:World} {σ1:Q5} {K:Value→World→Prop},X4 w1 σ1→Sl 7 M5 σ1 mv c.methods→(∀w' σ',Stp w1 σ1 w' σ'→K (.bool (H0 Hm.Met.name [] c.methods)) w')→Q1 P F.ao [mv, .func (.func F.c2) #[] #[]] w1 K:=
  fun hs hv h=>Q0q Hm.Met.name hs hv (fun σ1 x cs w1 K _ hs hr hl hK=>Y9 (Q1B (by
   obtain ⟨pv,cv,hv,rfl,_⟩:=hr
   unfold Rf
   refine Y8 hs fun a w1 σ1 hk1 ha1=>?_
   (repeat' (first | (with_reducible intro _) | (with_reducible refine V9 ?_) | (simp only[↓M2,M2,Mb,reduceIte]) | (with_reducible first | refine ld aS aL aR ?_ | refine X8 aS aL aR ?_ | refine Y7 aS aL aR ?_ | refine Q8 aL ?_ | refine V3 aR ?_ | refine Y8 aS ?_ | refine L3 aS aL ?_ | refine J6 aS aR ?_ | refine Y5 aS aR aR (Rep.one (by assumption)) ?_ | refine U0 aS aR aR aR ?_ | (refine Z3 (fun hh=>?_) (fun hh=>?_)<;>(try simp only[hh,Bool.not_true,Bool.not_false,↓M2,M2,Mb,reduceIte])) | (refine Q6 (fun hh=>?_) (fun hh=>?_)<;>(try simp only[hh,Bool.not_true,Bool.not_false,↓M2,M2,Mb,reduceIte])))))
   exact hK _ hk1.bel))) (W3 hs h)
 have hG: ∀{w1:World} {σ1:Q5} {K:Value→World→Prop},X4 w1 σ1→Sl 3 E6 σ1 fv c.fields→(∀w' σ',Stp w1 σ1 w' σ'→K (.bool (c.fields.all Nj)) w')→Q1 P F.ap [fv, .func (.func F.bm) #[] #[]] w1 K:=
  fun hs hv h=>Q0t Nj hs hv (fun σ1 x cs w1 K _ _ hs hr hl hK=>Y9 (Q7p hs hr fun w' σ' hk=>hK w' hk.bel)) (W3 hs h)
 have hH: ∀{w1:World} {σ1:Q5} {K:Value→World→Prop},X4 w1 σ1→Glb σ1→Sl 7 M5 σ1 mv c.methods→(∀w' σ',Stp w1 σ1 w' σ'→K (.bool (c.methods.all C8)) w')→Q1 P F.al [mv, .func (.func F.aY) #[] #[]] w1 K:=
  fun hs hg hv h=>Pi C8 hs hv (fun σ1 x cs w1 K le _ hs hr hl hK=>Q7P hs (hg.lift ⟨le⟩) hr fun w' σ' hk=>hK w' hk.bel) (W3 hs h)
 have e1:decide ((0:Int)<c.fields.length)= !decide (c.fields=[]):=by cases c.fields<;>simp
 have e2:decide (c.super=[79,98,106,101,99,116])=decide (c.super=Z7):=rfl
 (repeat' (first | (with_reducible intro _) | (with_reducible refine V9 ?_) | (simp only[↓M2,M2,Mb,reduceIte]) | (with_reducible first | refine ld aS aL aR ?_ | refine X8 aS aL aR ?_ | refine Y7 aS aL aR ?_ | refine Q8 aL ?_ | refine V3 aR ?_ | refine Y8 aS ?_ | refine L3 aS aL ?_ | refine J6 aS aR ?_ | refine Y5 aS aR aR (Rep.one (by assumption)) ?_ | refine U0 aS aR aR aR ?_ | refine hA au au ?_ | refine hB au au ?_ | refine hC au au ?_ | refine hD au au ?_ | refine hE au au ?_ | refine hF au au ?_ | refine hG au au ?_ | refine hH au au au ?_ | (refine Z3 (fun hh=>?_) (fun hh=>?_)<;>(try simp only[hh,Bool.not_true,Bool.not_false,↓M2,M2,Mb,reduceIte])) | (refine Q6 (fun hh=>?_) (fun hh=>?_)<;>(try simp only[hh,Bool.not_true,Bool.not_false,↓M2,M2,Mb,reduceIte])))))
 all_goals (simp only[←e1,←e2] at h;clear hA hB hC hD hE hF hG hH e1 e2;exact aF))
theorem X0O {cs:List Value} {c:Cla} (hs:X4 w σ) (hg:Glb σ) (hc:U4 σ c cs) (hl:c.like.length≤1000000) (h: ∀w' σ',Stp w σ w' σ'→K (I (L7 c)) w'):Q1 P F.cb [.agg cs.toArray] w K:=Q3p (by
 have hc0:=hc
 obtain ⟨lv,fv,mv,rfl,g1,g2,g3,g4,g5⟩:=hc
 unfold Ig
 unfold L7 at h
 (repeat' (first | (with_reducible intro _) | (with_reducible refine V9 ?_) | (simp only[↓M2,M2,Mb,reduceIte]) | (with_reducible first | refine ld aS aL aR ?_ | refine X8 aS aL aR ?_ | refine Y7 aS aL aR ?_ | refine Q8 aL ?_ | refine V3 aR ?_ | refine Y8 aS ?_ | refine L3 aS aL ?_ | refine J6 aS aR ?_ | refine Y5 aS aR aR (Rep.one (by assumption)) ?_ | refine U0 aS aR aR aR ?_ | refine X1M au au (W3 aS ?_) | refine X0F au au au au ?_ | (refine Z3 (fun hh=>?_) (fun hh=>?_)<;>(try simp only[hh,Bool.not_true,Bool.not_false,↓M2,M2,Mb,reduceIte])) | (refine Q6 (fun hh=>?_) (fun hh=>?_)<;>(try simp only[hh,Bool.not_true,Bool.not_false,↓M2,M2,Mb,reduceIte])))))
 all_goals exact aF)
end Go.Proofs.YtfppjenblllfaaaGreatDoor

namespace Go.Emb
open Go.RowKit Go.Hm
structure Tab (σ : Q5) (v : Value) (l : List Cla) : Prop where
  ex : ∃ a lv r m, v = .pointer (some a) ∧ Z2 σ a [lv, .map (some r)] ∧ Sl 8 U4 σ lv l ∧ I5 σ r m ∧ ∀ n, M0 m n = (Y4 l n).map (fun i : Nat => I (i : Int))
theorem Tab.lift {σ0 σ:Q5} {v:Value} {l:List Cla} (h:Tab σ0 v l) (k:SLe σ0 σ):Tab σ v l:=by
 obtain ⟨a,d,r,m,b,g,f,c,e⟩:=h.ex
 exact ⟨a,d,r,m,b,g.lift k,f.lift k,c.lift k,e⟩
end Go.Emb
namespace Go.Proofs.YtfppjenblllfaaaGreatDoor
open Go.Emb Go.RowKit Go.Kd Go.Hm
variable {w : World} {K : Value → World → Prop} {σ : Q5} {v : Value} {l : List Cla}
theorem Q6V {n:Q9} (b:X4 w σ) (e:Tab σ v l) (h:K (.bool (Ag l n)) w):Q1 P F.k [v,S n] w K:=Nl (by
 obtain ⟨a,j,r,m,rfl,d,i,f,c⟩:=e.ex
 unfold Ze
 rw[E9,fa]
 refine ld b d rfl ?_
 rw[Q1f X7 (f.is b) n,c n]
 unfold Ag at h
 cases g:Y4 l n<;>rw[g] at h<;>((try simp only[Option.map_some,Option.map_none]);(try simp only[↓M1,M1,Mb,reduceIte]);exact h))
theorem Xq {n:Q9} {c:Cla} (Z:X4 w σ) (H:Tab σ v l) (hc:lk l n=some c)
 (h: ∀q s mv w' o,Stp w σ w' o→Sl 1 Y1 o q c.like→Sl 3 E6 o s c.fields→Sl 7 M5 o mv c.methods→c.name.length≤Z9→c.super.length≤Z9→U4 o c [S c.name,S c.super,q, .bool c.iface, .bool c.abs, .bool c.fin,s,mv]→
  K (.agg [S c.name,S c.super,q, .bool c.iface, .bool c.abs, .bool c.fin,s,mv].toArray) w'):Q1 P F.h [v,S n] w K:=By (by
 obtain ⟨a,q,r,m,rfl,D,J,U,W⟩:=H.ex
 obtain ⟨_,_,i,R,B⟩:=U1 hc
 obtain ⟨z,rfl⟩:=List.getElem?_eq_some_iff.1 B
 unfold Wc
 refine I2 Z fun b w1 σ1 f d u=>?_
 refine U6 d.sat ?_
 refine X2 (.pointer (some a)) (fun w f=>by rw[E9];exact X6 rfl) ?_
 refine X2 (.pointer (some (a.add 0))) (fun t w f e=>by rw[e,fa];exact X6 rfl) ?_
 refine X2 (.pointer (some a)) (fun w f=>by rw[E9];exact X6 rfl) ?_
 refine X2 (.pointer (some (a.add 1))) (fun t w f e=>by rw[e,fa];exact X6 rfl) ?_
 refine X2 q (fun t w f e=>by rw[e];exact ld f.sat (D.up d) rfl (X6 rfl)) ?_
 refine X2 (.map (some r)) (fun t w f e=>by rw[e];exact ld f.sat (D.up d) rfl (X6 rfl)) ?_
 refine X2 (I i) (fun t w f e=>by rw[e,Q2L X7 ((U.up d).is f.sat) n,W n,R];exact X6 rfl) ?_
 rintro t6 t7 V ae t8 ac L w2 g rfl rfl rfl rfl e8 rfl rfl
 subst e8
 have y:=u.step g.stp
 refine L8 (J.up d) z fun p cs X k E=>?_
 refine Y7 g.sat X k ?_
 have j:=E
 obtain ⟨O,s,mv,rfl,g1,N,Y,g4,Q⟩:=E
 refine T8 y (d.trans g.stp) f rfl rfl (Rep.one j) fun M A C=>?_
 refine W2 C rfl ?_
 exact h _ _ _ M σ1 A.stp g1 N Y g4 Q j)
theorem An {n:Q9} (c:X4 w σ) (a:Tab σ v l) (b:lk l n=none) (h:K (.bool false) w):Q1 P F.k [v,S n] w K:=Q6V c a (by rw[Q04,b];exact h)
theorem Hb {n:Q9} {d:Cla} (c:X4 w σ) (a:Tab σ v l) (b:lk l n=some d) (h:K (.bool true) w):Q1 P F.k [v,S n] w K:=Q6V c a (by rw[Q04,b];exact h)
theorem Q9k {c:Cla} {cs:List Value} (hs:X4 w σ) (ht:Tab σ v l) (hc:U4 σ c cs) (h: ∀w' σ',Stp w σ w' σ'→K (I (L5 l c)) w'):Q1 P F.b0 [v, .agg cs.toArray] w K:=Cw (by
 obtain ⟨lv,fv,mv,rfl,g1,g2,g3,g4,g5⟩:=hc
 unfold Ur
 unfold L5 at h
 cases hd:lk l c.super with
 | none=>
  simp only[P7,hd,if_true] at h
  (repeat' (first | (with_reducible intro _) | (with_reducible refine V9 ?_) | (simp only[↓M2,M2,Mb,reduceIte]) | (with_reducible first | refine ld aS aL aR ?_ | refine X8 aS aL aR ?_ | refine Y7 aS aL aR ?_ | refine Q8 aL ?_ | refine V3 aR ?_ | refine Y8 aS ?_ | refine L3 aS aL ?_ | refine J6 aS aR ?_ | refine Y5 aS aR aR (Rep.one (by assumption)) ?_ | refine U0 aS aR aR aR ?_ | refine An au au au ?_ | (refine Z3 (fun hh=>?_) (fun hh=>?_)<;>(try simp only[hh,Bool.not_true,Bool.not_false,↓M2,M2,Mb,reduceIte])) | (refine Q6 (fun hh=>?_) (fun hh=>?_)<;>(try simp only[hh,Bool.not_true,Bool.not_false,↓M2,M2,Mb,reduceIte])))))
  all_goals exact aF
 | some d=>
  simp only[P7,hd] at h
  obtain ⟨dn,ds,dl,di,da,df,dfs,dms⟩:=d
  cases di<;>cases df
  ·simp only[Bool.or_self,Bool.false_eq_true,if_false] at h
   (repeat' (first | (with_reducible intro _) | (with_reducible refine V9 ?_) | (simp only[↓M2,M2,Mb,reduceIte]) | (with_reducible first | refine ld aS aL aR ?_ | refine X8 aS aL aR ?_ | refine Y7 aS aL aR ?_ | refine Q8 aL ?_ | refine V3 aR ?_ | refine Y8 aS ?_ | refine L3 aS aL ?_ | refine J6 aS aR ?_ | refine Y5 aS aR aR (Rep.one (by assumption)) ?_ | refine U0 aS aR aR aR ?_ | refine Hb au au au ?_ | refine Xq au au au ?_ | (refine Z3 (fun hh=>?_) (fun hh=>?_)<;>(try simp only[hh,Bool.not_true,Bool.not_false,↓M2,M2,Mb,reduceIte])) | (refine Q6 (fun hh=>?_) (fun hh=>?_)<;>(try simp only[hh,Bool.not_true,Bool.not_false,↓M2,M2,Mb,reduceIte])))))
   rename_i w3 σ3 hk3 _ _ _ _ _ _
   have hS:Stp w σ w3 σ3:=by (repeat (first | exact Stp.refl (by (first | assumption | exact Stp.sat (by assumption) | exact Hst.sat (by assumption))) | assumption | refine Stp.trans ?_ (by first | assumption | exact Hst.stp (by assumption))))
   refine J0 c.like.length (fun n w'=> ∃σ',Stp w σ w' σ'∧SLe σ3 σ'∧((c.like.take n).any (O6 l))=false) ⟨σ3,hS,SLe.refl _,by simp⟩ fun n w4 d hn hi=>?_
   obtain ⟨σ4,hS4,le4,hq⟩:=hi
   clear hk3
   refine Z0 ?_
   refine Q6 (fun hh=>?_) (fun hh=>?_)
   ·have hn':n<c.like.length:=by simpa using hh
    have hmax:c.like.length≤9223372036854775807:=g1.max
    refine Js (by (first | assumption | exact Sl.lift (by assumption) (by (repeat (first | exact SLe.refl _ | refine SLe.more ?_ (by assumption) | refine SLe.more ?_ (Nxt.le (by assumption)) | refine SLe.step ?_ (by assumption)))) | exact Z2.lift (by assumption) (by (repeat (first | exact SLe.refl _ | refine SLe.more ?_ (by assumption) | refine SLe.more ?_ (Nxt.le (by assumption)) | refine SLe.step ?_ (by assumption)))) | exact I5.lift (by assumption) (by (repeat (first | exact SLe.refl _ | refine SLe.more ?_ (by assumption) | refine SLe.more ?_ (Nxt.le (by assumption)) | refine SLe.step ?_ (by assumption)))) | exact RCl_lift (by assumption) (by (repeat (first | exact SLe.refl _ | refine SLe.more ?_ (by assumption) | refine SLe.more ?_ (Nxt.le (by assumption)) | refine SLe.step ?_ (by assumption)))) | exact RMe_lift (by assumption) (by (repeat (first | exact SLe.refl _ | refine SLe.more ?_ (by assumption) | refine SLe.more ?_ (Nxt.le (by assumption)) | refine SLe.step ?_ (by assumption)))) | exact Glb.lift (by assumption) (by (repeat (first | exact SLe.refl _ | refine SLe.more ?_ (by assumption) | refine SLe.more ?_ (Nxt.le (by assumption)) | refine SLe.step ?_ (by assumption)))) | exact Tab.lift (by assumption) (by (repeat (first | exact SLe.refl _ | refine SLe.more ?_ (by assumption) | refine SLe.more ?_ (Nxt.le (by assumption)) | refine SLe.step ?_ (by assumption)))) | exact RIn_any (by assumption) | exact RFd_any (by assumption) | exact RCa_any (by assumption))) hn' fun p hl hbig=>?_
    have hq':=M3 (p:=O6 l) hn'
    rw[hq] at hq'
    cases hx:lk l c.like[n] with
    | none=>
     simp only[C3 (p:=O6 l) hn' (by simp only[O6,hx]),if_true] at h
     (repeat' (first | (with_reducible intro _) | (with_reducible refine V9 ?_) | (simp only[↓M2,M2,Mb,reduceIte]) | (with_reducible first | refine ld aS aL aR ?_ | refine X8 aS aL aR ?_ | refine Y7 aS aL aR ?_ | refine Q8 aL ?_ | refine V3 aR ?_ | refine Y8 aS ?_ | refine L3 aS aL ?_ | refine J6 aS aR ?_ | refine Y5 aS aR aR (Rep.one (by assumption)) ?_ | refine U0 aS aR aR aR ?_ | refine An au au au ?_ | (refine Z3 (fun hh=>?_) (fun hh=>?_)<;>(try simp only[hh,Bool.not_true,Bool.not_false,↓M2,M2,Mb,reduceIte])) | (refine Q6 (fun hh=>?_) (fun hh=>?_)<;>(try simp only[hh,Bool.not_true,Bool.not_false,↓M2,M2,Mb,reduceIte])))))
     all_goals exact aF
    | some x=>
     obtain ⟨xn,xs,xl,xi,xa,xf,xfs,xms⟩:=x
     cases xi
     ·simp only[C3 (p:=O6 l) hn' (by simp only[O6,hx];rfl),if_true] at h
      (repeat' (first | (with_reducible intro _) | (with_reducible refine V9 ?_) | (simp only[↓M2,M2,Mb,reduceIte]) | (with_reducible first | refine ld aS aL aR ?_ | refine X8 aS aL aR ?_ | refine Y7 aS aL aR ?_ | refine Q8 aL ?_ | refine V3 aR ?_ | refine Y8 aS ?_ | refine L3 aS aL ?_ | refine J6 aS aR ?_ | refine Y5 aS aR aR (Rep.one (by assumption)) ?_ | refine U0 aS aR aR aR ?_ | refine Hb au au au ?_ | refine Xq au au au ?_ | (refine Z3 (fun hh=>?_) (fun hh=>?_)<;>(try simp only[hh,Bool.not_true,Bool.not_false,↓M2,M2,Mb,reduceIte])) | (refine Q6 (fun hh=>?_) (fun hh=>?_)<;>(try simp only[hh,Bool.not_true,Bool.not_false,↓M2,M2,Mb,reduceIte])))))
      all_goals exact aF
     ·(repeat' (first | (with_reducible intro _) | (with_reducible refine V9 ?_) | (simp only[↓M2,M2,Mb,reduceIte]) | (with_reducible first | refine ld aS aL aR ?_ | refine X8 aS aL aR ?_ | refine Y7 aS aL aR ?_ | refine Q8 aL ?_ | refine V3 aR ?_ | refine Y8 aS ?_ | refine L3 aS aL ?_ | refine J6 aS aR ?_ | refine Y5 aS aR aR (Rep.one (by assumption)) ?_ | refine U0 aS aR aR aR ?_ | refine Hb au au au ?_ | refine Xq au au au ?_ | (refine Z3 (fun hh=>?_) (fun hh=>?_)<;>(try simp only[hh,Bool.not_true,Bool.not_false,↓M2,M2,Mb,reduceIte])) | (refine Q6 (fun hh=>?_) (fun hh=>?_)<;>(try simp only[hh,Bool.not_true,Bool.not_false,↓M2,M2,Mb,reduceIte])))))
      refine Y2 hmax hn' ⟨_,by (repeat (first | exact Stp.refl (by (first | assumption | exact Stp.sat (by assumption) | exact Hst.sat (by assumption))) | assumption | refine Stp.trans ?_ (by first | assumption | exact Hst.stp (by assumption)))),by (repeat (first | exact SLe.refl _ | refine SLe.more ?_ (by assumption) | refine SLe.more ?_ (Nxt.le (by assumption)) | refine SLe.step ?_ (by assumption))),by rw[hq'];simp only[O6,hx];rfl⟩
   ·have hn': ¬n<c.like.length:=by simpa using hh
    rw[D0 hn'] at hq
    simp only[hq,Bool.false_eq_true,if_false] at h
    exact h _ _ hS4
  all_goals
   simp only[Bool.or_self,Bool.or_true,Bool.true_or,if_true] at h
   (repeat' (first | (with_reducible intro _) | (with_reducible refine V9 ?_) | (simp only[↓M2,M2,Mb,reduceIte]) | (with_reducible first | refine ld aS aL aR ?_ | refine X8 aS aL aR ?_ | refine Y7 aS aL aR ?_ | refine Q8 aL ?_ | refine V3 aR ?_ | refine Y8 aS ?_ | refine L3 aS aL ?_ | refine J6 aS aR ?_ | refine Y5 aS aR aR (Rep.one (by assumption)) ?_ | refine U0 aS aR aR aR ?_ | refine Hb au au au ?_ | refine Xq au au au ?_ | (refine Z3 (fun hh=>?_) (fun hh=>?_)<;>(try simp only[hh,Bool.not_true,Bool.not_false,↓M2,M2,Mb,reduceIte])) | (refine Q6 (fun hh=>?_) (fun hh=>?_)<;>(try simp only[hh,Bool.not_true,Bool.not_false,↓M2,M2,Mb,reduceIte])))))
   all_goals exact aF)
end Go.Proofs.YtfppjenblllfaaaGreatDoor

namespace Go.Emb
open Go.RowKit Go.Hm
variable {P : Program} {w w0 w1 w' w'' : World} {K : Value → World → Prop} {σ σ0 σ1 σ' : Q5}
theorem Q6J {a:Addr} {v:Value} (h:w.cell? a=some v) (b:Below w.heap.size w w'):w'.cell? a=some v:=by
 rw[←h];exact World.cell?_of_block (b.block a.block (World.block_lt_of_cell? _ _ h))
def Ptr {α:Type} (sz:Nat) (R:Q5→α→List Value→Prop) (σ:Q5) (x:α) (p:Value) (w:World):Prop:=
 ∃a cs,p= .pointer (some a)∧(∀j u,cs[j]? =some u→w.cell? (a.add j)=some u)∧cs.length=sz∧R σ x cs
theorem Ptr.below {α:Type} {sz:Nat} {R:Q5→α→List Value→Prop} {x:α} {p:Value} (h:Ptr sz R σ x p w) (d:Below w.heap.size w w'):Ptr sz R σ x p w':=by
 obtain ⟨a,cs,f,e,b⟩:=h
 exact ⟨a,cs,f,fun j u c=>Q6J (e j u c) d,b⟩
end Go.Emb
namespace Go.Proofs.YtfppjenblllfaaaGreatDoor
open Go.Emb Go.RowKit Go.Kd Go.Hm
variable {w : World} {K : Value → World → Prop} {σ : Q5} {v : Value} {l : List Cla}
theorem Q2J {w0:World} {σ0:Q5} {xs:List Cla} (Y:Stp w0 σ0 w σ) (H:J9 w0.heap.size T.a 8 U4 σ w v xs)
 (h: ∀w',Kpt (fun k=>v.ownBlock=some k) w w'→Stp w0 σ0 w' σ→J9 w0.heap.size T.a 8 U4 σ w' v xs.reverse→K (.tuple #[]) w'):Q1 P F.o [v] w K:=Xy (by
 unfold C6
 have R:xs.length≤9223372036854775807:=by
  obtain ⟨a,W,_,g,b,_⟩:=H
  simp only[maxLen] at b;omega
 refine Bo H ?_
 refine Dj ⟨by omega,by omega⟩ ?_
 refine Zs (fun x w'=> ∃i:Nat,x=(I i,I ((xs.length:Int)-1-i))∧2*i≤xs.length∧Kpt (fun k=>v.ownBlock=some k) w w'∧Stp w0 σ0 w' σ∧J9 w0.heap.size T.a 8 U4 σ w' v (H2 i xs)) (fun x _=>match x.2 with | .int _ n=>(n+1).toNat | _=>0) ⟨0,by simp,by omega,Kpt.refl,Y,H⟩ ?_
 rintro _ d w1 ⟨i,rfl,M,O,j,c⟩
 obtain ⟨N,Q⟩:=Pb xs i M
 refine Z0 ?_
 refine Q6 (fun hh=>?_) (fun hh=>?_)
 ·have ae:(i:Int)<(xs.length:Int)-1-i:=by simpa using hh
  have U:((xs.length:Int)-1-i)=((xs.length-1-i:Nat):Int):=by omega
  have m:i<(H2 i xs).length:=by omega
  have o:xs.length-1-i<(H2 i xs).length:=by omega
  refine U6 j.sat ?_
  refine W7 (Ptr 8 U4 σ (H2 i xs)[xs.length-1-i]) (fun _ _ _ h f=>h.below f) (fun w f=>?_) ?_
  ·simp only[U]
   exact Q4P (c.step f.stp) o fun a cs g b q=>⟨Below.refl _ _,a,cs,rfl,g,b,q⟩
  refine W7 (Ptr 8 U4 σ (H2 i xs)[i]) (fun _ _ _ h f=>h.below f) (fun w f=>?_) ?_
  ·exact Q4P (c.step f.stp) m fun a cs g b q=>⟨Below.refl _ _,a,cs,rfl,g,b,q⟩
  refine W7 (fun v _=> ∃cs:List Value,v= .agg cs.toArray∧cs.length=8∧U4 σ (H2 i xs)[xs.length-1-i] cs) (fun _ _ _ h _=>h) (fun t w f e=>?_) ?_
  ·obtain ⟨a,cs,rfl,g,b,q⟩:=e
   exact Dt b g ⟨Below.refl _ _,cs,rfl,b,q⟩
  refine W7 (fun v _=> ∃cs:List Value,v= .agg cs.toArray∧cs.length=8∧U4 σ (H2 i xs)[i] cs) (fun _ _ _ h _=>h) (fun t w f e=>?_) ?_
  ·obtain ⟨a,cs,rfl,g,b,q⟩:=e
   exact Dt b g ⟨Below.refl _ _,cs,rfl,b,q⟩
  rintro Z X ad ab w2 r _ _ ⟨cs,rfl,A,y⟩ ⟨ds,rfl,B,s⟩
  refine Q9D (j.trans r.stp) (c.step r.stp) m A y (Rep.one y) fun p u w3 z C L=>?_
  simp only[U]
  refine Q9D C.stp L (by simpa using o) B s (Rep.one s) fun p u w4 E J D=>?_
  refine Cf ⟨by omega,by omega⟩ ?_
  refine Dj ⟨by omega,by omega⟩ ?_
  refine ⟨⟨i+1,by congr 1<;>congr 1<;>omega,by omega,?_,J.stp,?_⟩,?_⟩
  ·exact ((O.trans (Kpt.of_below r.stp.bel)).trans z).trans E
  ·have V:(H2 i xs)[i]? =some (H2 i xs)[i]:=List.getElem?_eq_getElem m
   have e2:(H2 i xs)[xs.length-1-i]? =some (H2 i xs)[xs.length-1-i]:=List.getElem?_eq_getElem o
   have:H2 (i+1) xs=((H2 i xs).set i (H2 i xs)[xs.length-1-i]).set (xs.length-1-i) (H2 i xs)[i]:=by
    simp only[H2,V,e2]
   rw[this];exact D
  ·simp only;omega
 ·have aa: ¬(i:Int)<(xs.length:Int)-1-i:=by simpa using hh
  rw[Q7C xs i M (by omega)] at c
  exact h w1 O j c)
def sOf:Value→Q9 | .string b=>b.data.toList | _=>[]
theorem Q7F {n:Q9} (M:X4 w σ) (z:Tab σ v l) (O:Yg l) (Z:l.length≤100000) (h: ∀q w' σ',Stp w σ w' σ'→J9 w.heap.size T.a 8 U4 σ' w' q (chain l n).reverse→K q w'):Q1 P F.aK [v,S n] w K:=Kk (by
 unfold Ma
 refine Zs (fun x w'=> ∃(s:Q9) (m:List Cla) (σ':Q5),x.2=S s∧chain l n=m++chain l s∧Stp w σ w' σ'∧V6 w.heap.size T.a 8 U4 σ' w' x.1 m) (fun x _=>(chain l (sOf x.2)).length)
  ⟨n,[],σ,rfl,rfl,Stp.refl M,V6.nil⟩ ?_
 rintro ⟨x1,_⟩ d w1 ⟨s,m,σ1,rfl,o,a,f⟩
 have i:=z.lift ⟨a.le⟩
 have B:=Re l n
 have y:sOf (S s)=s:=by simp[sOf]
 simp only[y]
 cases j:lk l s with
 | none=>
  refine An a.sat i j ?_
  refine V8 ?_
  rw[P0 j,List.append_nil] at o
  rw[←o] at f
  refine Q2J a (J9.of_acc f) fun U e p r=>?_
  exact h _ _ _ p r
 | some c=>
  refine Hb a.sat i j ?_
  refine U3 ?_
  refine Xq a.sat i j fun V C mv U Y e Q D R E H A=>?_
  have b:=F8 O s
  rw[j] at b
  simp only at b
  have N:m.length+1≤l.length+1:=by
   have:=congrArg List.length o
   rw[List.length_append,b,List.length_cons] at this;omega
  refine Jm (a.trans e) (f.up e) A rfl rfl rfl (by omega) (by omega) fun u q X σ3 J g t _=>?_
  refine Xq g.sat (z.lift ⟨g.le⟩) j fun V C mv W L k Q D R E H A=>?_
  refine V3 (v:=S c.super) rfl ?_
  refine ⟨⟨c.super,m++[c],L,rfl,?_,g.trans k,t.up k⟩,?_⟩
  ·rw[o,b];simp
  ·have:sOf (S c.super)=c.super:=by simp[sOf]
   simp only[this,b,List.length_cons];omega)
theorem Q9z {n:Q9} (hs:X4 w σ) (U:Tab σ v l) (ha:Yg l) (X:l.length≤100000) (L: ∀c∈l,T0 c) (h: ∀z w' σ',Stp w σ w' σ'→Sl 3 E6 σ' z (M7 l n)→K z w'):Q1 P F.b4 [v,S n] w K:=Cb (by
 unfold Va
 refine Q7F hs U ha X fun v1 w1 σ1 u A=>?_
 obtain ⟨N,y,r,ad,_⟩:=A.keep u
 generalize g:(chain l n).reverse=cs at*
 have O:cs.length≤l.length+1:=by rw[←g,List.length_reverse];exact Re l n
 have o: ∀c∈cs,c.fields.length≤1000000:=fun c t=>(L c (Rk (by rw[←g] at t;simpa using t))).2.1
 refine Q8 r ?_
 refine D2 cs.length (fun i a w'=> ∃σ',Stp w σ w' σ'∧SLe N σ'∧V6 w.heap.size T.k 3 E6 σ' w' a ((cs.take i).flatMap (·.fields))) ⟨N,y,SLe.refl _,V6.nil⟩ fun i a w3 d hi m=>?_
 obtain ⟨σ3,f,s,j⟩:=m
 refine Z0 ?_
 refine Q6 (fun hh=>?_) (fun hh=>?_)
 ·have b:i<cs.length:=by simpa using hh
  refine L8 (r.lift s) b fun p cells C k M=>?_
  refine Y7 f.sat C k ?_
  refine Y5 f.sat (by rfl) k (Rep.one M) fun q w4 R e Y=>?_
  obtain ⟨lv,fv,mv,rfl,f1,V,f3,f4,f5⟩:=M
  rw[fa]
  refine ld e.sat Y rfl ?_
  have D:=Uc (fun c:Cla=>c.fields) 1000000 (cs.take i) fun c t=>o c (List.mem_of_mem_take t)
  rw[List.length_take] at D
  have ac:=o cs[i] (List.getElem_mem b)
  have Q:min i cs.length*1000000≤100000*1000000:=Nat.mul_le_mul_right _ (by omega)
  refine Ow (f.trans e) (j.up e) (V.up e) rfl (by omega) (by omega) fun z w5 Z B J _=>?_
  refine E5 ?_
  refine Z6 (by omega) b ⟨R,B,s.more ⟨e.le⟩,?_⟩
  rw[List.take_add_one,List.getElem?_eq_getElem b,List.flatMap_append]
  simpa using J
 ·have b: ¬i<cs.length:=by simpa using hh
  rw[List.take_of_length_le (by omega)] at j
  obtain ⟨R,H,E,W,_⟩:=j.keep f
  refine h _ _ _ H ?_
  unfold M7
  rw[g];exact E)
theorem X0b {n f:Q9} (hs:X4 w σ) (ht:Tab σ v l) (ha:Yg l) (hl:l.length≤100000) (hsm: ∀c∈l,T0 c) (h: ∀w' σ',Stp w σ w' σ'→K (I (W5 (Xn l n f))) w'):Q1 P F.bd [v,S n,S f] w K:=Bz (by
 unfold Wi
 refine J6 hs rfl fun q w1 σ1 hk1 hq=>?_
 refine Q9z hk1.sat (ht.lift ⟨hk1.le⟩) ha hl hsm fun v' w2 σ2 hk2 hv2=>?_
 rw[Qm]
 refine Cj (fun x=>decide (x.name=f)) hk2.sat hv2 (fun x cs w3 K _ hs3 hr hl hK=>Y9 (Rv ?_)) fun w3 hb=>?_
 ·obtain ⟨rfl,_⟩:=hr
  unfold Jn
  have hq2:=hq.up hk2
  refine Y8 hs3 fun a w4 σ4 hk4 ha4=>?_
  (repeat' (first | (with_reducible intro _) | (with_reducible refine V9 ?_) | (simp only[↓M2,M2,Mb,reduceIte]) | (with_reducible first | refine ld aS aL aR ?_ | refine X8 aS aL aR ?_ | refine Y7 aS aL aR ?_ | refine Q8 aL ?_ | refine V3 aR ?_ | refine Y8 aS ?_ | refine L3 aS aL ?_ | refine J6 aS aR ?_ | refine Y5 aS aR aR (Rep.one (by assumption)) ?_ | refine U0 aS aR aR aR ?_ | (refine Z3 (fun hh=>?_) (fun hh=>?_)<;>(try simp only[hh,Bool.not_true,Bool.not_false,↓M2,M2,Mb,reduceIte])) | (refine Q6 (fun hh=>?_) (fun hh=>?_)<;>(try simp only[hh,Bool.not_true,Bool.not_false,↓M2,M2,Mb,reduceIte])))))
  exact hK _ hk4.bel
 ·exact h _ _ ((hk1.trans hk2).trans (Stp.of_below hk2.sat hb)))
end Go.Proofs.YtfppjenblllfaaaGreatDoor

namespace Go.Hm
open Go.Kd
theorem Q55 {α:Type} (p:α→Bool): ∀xs:List α,xs.find? p=(xs.findIdx? p).bind (xs[·]?)
 | []=>rfl
 | x::r=>by
  rw[List.find?_cons,List.findIdx?_cons]
  cases p x with
  | true=>rfl
  | false=>
   simp only[Bool.false_eq_true,if_false]
   rw[Q55 p r]
   cases r.findIdx? p<;>simp
def Q9h (l:List Cla):Prop:= ∀c∈l,∀u∈c.like,∃d,lk l u=some d
def Nm (c:Cla):Prop:=c.name.length≤100∧(∀f∈c.fields,f.name.length≤100∧f.kind.length≤100)∧ ∀m∈c.methods,m.result.length≤100∧ ∀p∈m.params,p.length≤100
structure Ok (l : List Cla) : Prop where
  acy : Yg l
  len : l.length ≤ 100000
  sm : ∀ c ∈ l, T0 c
  full : Q9h l
  nm : ∀ c ∈ l, Nm c
abbrev oM (o:Option Hm.Met):Hm.Met:=o.getD Hm.Met.zero
abbrev o1 (o:Option (Q9×Hm.Met)):Q9:=(o.map (·.1)).getD []
abbrev o2 (o:Option (Q9×Hm.Met)):Hm.Met:=(o.map (·.2)).getD Hm.Met.zero
theorem Qn {α β:Type} {xs:List α} {f:α→Option β} {n:Nat} (h:n<xs.length) (a:(xs.take n).findSome? f=none):(xs.take (n+1)).findSome? f=f xs[n]:=by
 rw[List.take_add_one,List.getElem?_eq_getElem h,List.findSome?_append,a];simp
theorem Qp {α β:Type} {xs:List α} {f:α→Option β} {n:Nat} {y:β} (h:n<xs.length) (a:(xs.take n).findSome? f=none) (b:f xs[n]=some y):xs.findSome? f=some y:=by
 have:=Qn h a
 rw[b] at this
 rw[←List.take_append_drop (n+1) xs,List.findSome?_append,this];rfl
end Go.Hm
namespace Go.Proofs.YtfppjenblllfaaaGreatDoor
open Go.Emb Go.RowKit Go.Kd Go.Hm
variable {w : World} {K : Value → World → Prop} {σ : Q5} {v : Value} {l : List Cla}
theorem P8:M5 σ Hm.Met.zero [S [], .slice none 0 0,S [], .bool false,I 0, .slice none 0 0, .slice none 0 0]:=
 ⟨_,_,_,rfl,Sl.nil,Sl.nil,Sl.nil,by decide,by decide,by decide,by decide⟩
theorem Dk (h:K (.agg [S [], .slice none 0 0,S [], .bool false,I 0, .slice none 0 0, .slice none 0 0].toArray) w):O5 P T.c [] w K:=W1 (by kernel_rfl) h
theorem Q9S {c:Cla} {cs:List Value} {n:Q9} (hs:X4 w σ) (hc:U4 σ c cs) (hsm:T0 c)
 (h: ∀pv cv hv w' σ',Stp w σ w' σ'→M5 σ' (oM (R2 c n)) [S (oM (R2 c n)).name,pv,S (oM (R2 c n)).result, .bool (oM (R2 c n)).abs,I (oM (R2 c n)).locals,cv,hv]→
  K (.tuple #[.agg [S (oM (R2 c n)).name,pv,S (oM (R2 c n)).result, .bool (oM (R2 c n)).abs,I (oM (R2 c n)).locals,cv,hv].toArray, .bool (R2 c n).isSome]) w'):Q1 P F.cm [.agg cs.toArray,S n] w K:=Q6v (by
 obtain ⟨lv,fv,mv,rfl,g1,g2,g3,g4,g5⟩:=hc
 unfold Q1j
 refine Y8 hs fun a w1 σ1 hk1 ha1=>?_
 refine J6 hk1.sat rfl fun q w2 σ2 hk2 hq=>?_
 refine I2 hk2.sat fun b w3 σ3 hb hk3 hm=>?_
 rw[fa]
 have ha3:=(ha1.up hk2).up hk3
 have g3:=((g3.up hk1).up hk2).up hk3
 have hq3:=hq.up hk3
 refine ld hk3.sat ha3 rfl ?_
 rw[Qm]
 have hS3:=(hk1.trans hk2).trans hk3
 have hb0:w.heap.size≤b:=Zc hb (hk1.trans hk2)
 refine Rt (fun x=>decide (x.name=n)) hk3.sat g3 (fun x cs w4 K _ hs4 hr hl hK=>Y9 (Q4T ?_)) fun w4 hb4=>?_
 ·obtain ⟨pv,cv,hv,rfl,_⟩:=hr
  unfold Pq
  refine Y8 hs4 fun a w5 σ5 hk5 ha5=>?_
  (repeat' (first | (with_reducible intro _) | (with_reducible refine V9 ?_) | (simp only[↓M2,M2,Mb,reduceIte]) | (with_reducible first | refine ld aS aL aR ?_ | refine X8 aS aL aR ?_ | refine Y7 aS aL aR ?_ | refine Q8 aL ?_ | refine V3 aR ?_ | refine Y8 aS ?_ | refine L3 aS aL ?_ | refine J6 aS aR ?_ | refine Y5 aS aR aR (Rep.one (by assumption)) ?_ | refine U0 aS aR aR aR ?_ | (refine Z3 (fun hh=>?_) (fun hh=>?_)<;>(try simp only[hh,Bool.not_true,Bool.not_false,↓M2,M2,Mb,reduceIte])) | (refine Q6 (fun hh=>?_) (fun hh=>?_)<;>(try simp only[hh,Bool.not_true,Bool.not_false,↓M2,M2,Mb,reduceIte])))))
  exact hK _ hk5.bel
 have hk4:Stp w3 σ3 w4 σ3:=Stp.of_below hk3.sat hb4
 have hm:=hm.step hk4
 have hS4:=hS3.trans hk4
 unfold R2 at h
 rw[Q55] at h
 refine Z0 ?_
 cases hf:c.methods.findIdx? fun x=>decide (x.name=n) with
 | none=>
  rw[hf] at h
  simp only[W5]
  refine U3 ?_
  refine Dk ?_
  refine T8 hm hS4 hb0 rfl rfl (Rep.one (P8 (σ:=σ3))) fun w5 hS5 hm5=>?_
  refine W2 hm5 rfl ?_
  exact h _ _ _ w5 σ3 hS5.stp P8
 | some i=>
  rw[hf] at h
  have hi:i<c.methods.length:=(List.findIdx?_eq_some_iff_getElem.1 hf).1
  simp only[Option.bind_some,List.getElem?_eq_getElem hi] at h
  simp only[W5]
  refine Q6 (fun hh=>absurd (of_decide_eq_true hh) (by omega)) (fun _=>?_)
  rw[fa]
  refine ld hk4.sat ha3 rfl ?_
  refine L8 g3 hi fun p cells hl1 hl2 hr=>?_
  refine Y7 hk4.sat hl1 hl2 ?_
  refine Q2S hk4.sat hr (hsm.2.2.2 _ (List.getElem_mem hi)) fun pv cv hv w5 σ5 hk5 hr5=>?_
  refine T8 (hm.step hk5) (hS4.trans hk5) hb0 rfl rfl (Rep.one hr5) fun w6 hS6 hm6=>?_
  refine W2 hm6 rfl ?_
  exact h _ _ _ w6 σ5 hS6.stp hr5)
theorem X1c {n:Q9} (ok:Ok l): ∀(k:Nat) {c:Cla} {cs:List Value} {w:World} {σ:Q5} {K:Value→World→Prop},B7 l c.name<k→lk l c.name=some c→X4 w σ→Tab σ v l→U4 σ c cs→
 (∀pv Z X w' Y,Stp w σ w' Y→M5 Y (o2 (U2 l c n)) [S (o2 (U2 l c n)).name,pv,S (o2 (U2 l c n)).result, .bool (o2 (U2 l c n)).abs,I (o2 (U2 l c n)).locals,Z,X]→
  K (.tuple #[S (o1 (U2 l c n)), .agg [S (o2 (U2 l c n)).name,pv,S (o2 (U2 l c n)).result, .bool (o2 (U2 l c n)).abs,I (o2 (U2 l c n)).locals,Z,X].toArray, .bool (U2 l c n).isSome]) w')→
 Q1 P F.aL [v, .agg cs.toArray,S n] w K:=by
 intro k
 induction k with
 | zero=>
  intro c cs w σ K hk
  omega
 | succ k ih=>
  intro c cs w σ K hk hc hs ht hr h
  refine Iz ?_
  obtain ⟨lv,fv,mv,rfl,g1,g2,g3,g4,g5⟩:=hr
  have J:=Q2R ok.acy hc n
  generalize hf:(fun u=>match lk l u with | none=>none | some d=>match R2 d n with | some m=>some (u,m) | none=>U2 l d n)=f at J
  unfold Lw
  refine Y8 hs fun a w1 σ1 B a0=>?_
  refine I2 B.sat fun b w2 σ2 hb H a1=>?_
  have V:w.heap.size≤b:=Zc hb B
  have a7:=a0.up H
  rw[fa]
  refine ld H.sat a7 rfl ?_
  have g1:=(g1.up B).up H
  refine Q8 g1 ?_
  refine J0 c.like.length (fun i w'=> ∃Y,Stp w σ w' Y∧SLe σ2 Y∧Z5 Y w' b [S [], .slice none 0 0,S [], .bool false,I 0, .slice none 0 0, .slice none 0 0]∧(c.like.take i).findSome? f=none) ⟨σ2,B.trans H,SLe.refl _,a1,rfl⟩ fun i w3 d hi ae=>?_
  obtain ⟨σ3,A,an,ap,z⟩:=ae
  have aq:=ht.lift ⟨A.le⟩
  refine Z0 ?_
  refine Q6 (fun hh=>?_) (fun hh=>?_)
  ·have g:i<c.like.length:=by simpa using hh
   refine Js (g1.lift an) g fun p a6 am=>?_
   refine X8 A.sat a6 rfl ?_
   obtain ⟨d,W⟩:=ok.full c (U1 hc).2.1 _ (List.getElem_mem g)
   obtain ⟨af,az,_⟩:=U1 W
   have j:f c.like[i]=match R2 d n with | some m=>some (c.like[i],m) | none=>U2 l d n:=by rw[←hf];simp only[W]
   refine Xq A.sat aq W fun a9 a4 a5 w4 σ4 C f1 f2 f3 f4 f5 ay=>?_
   refine Q9S C.sat ay (ok.sm d az) fun pv Z X w5 σ5 E aj=>?_
   refine U5 (vs:=[_,_]) rfl ?_
   refine U5 (vs:=[_,_]) rfl ?_
   refine Y5 E.sat (by rfl) rfl (Rep.one aj) fun q w6 σ6 D ag=>?_
   have t:=((A.trans C).trans E).trans D
   have al:=((ap.step C).step E).step D
   have O:=RMe_lift aj ⟨D.le⟩
   cases ho:R2 d n with
   | some m=>
    rw[ho] at j O ag
    (try simp only[ho])
    refine U3 ?_
    refine U6 t.sat ?_
    refine W7 (fun v _=>v= .agg [S m.name,pv,S m.result, .bool m.abs,I m.locals,Z,X].toArray) (fun _ _ _ h _=>h) (fun w hb=>Y7 hb.sat ag rfl ⟨Below.refl _ _,rfl⟩) ?_
    rintro _ w7 ac rfl
    refine T8 (al.step ac.stp) (t.trans ac.stp) V rfl rfl (Rep.one O) fun w8 bb a2=>?_
    refine W2 a2 rfl ?_
    have Q:=J.trans (Qp g z j)
    rw[Q] at h
    exact h _ _ _ w8 σ6 bb.stp O
   | none=>
    rw[ho] at j
    (try simp only[Option.isSome_none])
    refine V8 ?_
    refine Xq t.sat (ht.lift ⟨t.le⟩) W fun a9 a4 a5 w7 σ7 y f1 f2 f3 f4 f5 aw=>?_
    have bv:=Qe ok.acy hc (by simp[J3,List.getElem_mem g]:c.like[i]∈J3 c) W
    refine ih (by rw[af];omega) (by rw[af];exact W) y.sat (ht.lift ⟨(t.trans y).le⟩) aw fun pv Z X w8 σ8 M ad=>?_
    refine U5 (vs:=[_,_,_]) rfl ?_
    refine U5 (vs:=[_,_,_]) rfl ?_
    refine U5 (vs:=[_,_,_]) rfl ?_
    refine Y5 M.sat (by rfl) rfl (Rep.one ad) fun q w9 σ9 L ah=>?_
    have U:=((t.trans y).trans M).trans L
    have aa:=((al.step y).step M).step L
    have R:=RMe_lift ad ⟨L.le⟩
    cases Q:U2 l d n with
    | some r=>
     obtain ⟨s,m⟩:=r
     rw[Q] at j R ah
     (try simp only[Q])
     refine U3 ?_
     refine U6 U.sat ?_
     refine W7 (fun v _=>v= .agg [S m.name,pv,S m.result, .bool m.abs,I m.locals,Z,X].toArray) (fun _ _ _ h _=>h) (fun w hb=>Y7 hb.sat ah rfl ⟨Below.refl _ _,rfl⟩) ?_
     rintro _ bh N rfl
     refine T8 (aa.step N.stp) (U.trans N.stp) V rfl rfl (Rep.one R) fun ax ak ab=>?_
     refine W2 ab rfl ?_
     have am:=J.trans (Qp g z j)
     rw[am] at h
     exact h _ _ _ ax σ9 ak.stp R
    | none=>
     rw[Q] at j
     (try simp only[Option.isSome_none])
     refine V8 ?_
     refine E5 ?_
     refine Y2 (by have:=g1.max;omega) g ⟨σ9,U,?_,aa,?_⟩
     ·exact an.more ⟨fun b o e=>L.le _ _ (M.le _ _ (y.le _ _ (D.le _ _ (E.le _ _ (C.le _ _ e)))))⟩
     ·rw[Qn g z];exact j
  ·have g: ¬i<c.like.length:=by simpa using hh
   rw[List.take_of_length_le (by omega)] at z
   refine Dk ?_
   refine T8 ap A V rfl rfl (Rep.one (P8 (σ:=σ3))) fun w5 ar ba=>?_
   refine W2 ba rfl ?_
   have Q:=J.trans z
   rw[Q] at h
   exact h _ _ _ w5 σ3 ar.stp P8
end Go.Proofs.YtfppjenblllfaaaGreatDoor

namespace Go.Hm
open Go.Kd
theorem Q9o {l:List Cla} {n:Q9} {c:Cla} (h:c∈chain l n):lk l c.name=some c:=by
 have key: ∀(f:Nat) (n:Q9),c∈C5 (lk l) f n→lk l c.name=some c:=by
  intro f
  induction f with
  | zero=>intro n h;simp[C5] at h
  | succ f b=>
   intro n h
   simp only[C5] at h
   split at h
   ·simp at h
   ·rename_i d a
    rcases List.mem_cons.1 h with rfl | h
    ·rw[(U1 a).1];exact a
    ·exact b _ h
 exact key _ _ h
end Go.Hm
namespace Go.Proofs.YtfppjenblllfaaaGreatDoor
open Go.Emb Go.RowKit Go.Kd Go.Hm
variable {w : World} {K : Value → World → Prop} {σ : Q5} {v : Value} {l : List Cla}
theorem Q8O {k n:Q9} (hs:X4 w σ) (ht:Tab σ v l) (ok:Ok l)
 (h: ∀pv cv Z w' H,Stp w σ w' H→M5 H (o2 (J8 l k n)) [S (o2 (J8 l k n)).name,pv,S (o2 (J8 l k n)).result, .bool (o2 (J8 l k n)).abs,I (o2 (J8 l k n)).locals,cv,Z]→
  K (.tuple #[S (o1 (J8 l k n)), .agg [S (o2 (J8 l k n)).name,pv,S (o2 (J8 l k n)).result, .bool (o2 (J8 l k n)).abs,I (o2 (J8 l k n)).locals,cv,Z].toArray, .bool (J8 l k n).isSome]) w'):
 Q1 P F.b2 [v,S k,S n] w K:=Cl (by
 unfold Vb
 refine I2 hs fun b w1 σ1 E J av=>?_
 refine Q7F J.sat (ht.lift ⟨J.le⟩) ok.acy ok.len fun v1 w2 σ2 ac am=>?_
 have ba:=av.step ac
 have bq:=av.lt
 refine Q2J (J.trans ac) (am.mono J.bel.size) fun w3 a8 a6 an=>?_
 rw[List.reverse_reverse] at an
 obtain ⟨σ3,az,O,bm,ae⟩:=an.keep a6
 have bo:=Re l k
 have ag:v1.ownBlock≠some b:=fun e=>by have:=am.own e;omega
 have a1:Z5 σ3 w3 b [S [], .slice none 0 0,S [], .bool false,I 0, .slice none 0 0, .slice none 0 0]:=by
  have:=ba.kp a8 ag
  exact ⟨(ae b fun e=>ag e.symm).trans this.1,this.2⟩
 refine Q8 O ?_
 unfold J8 at h
 refine J0 (chain l k).length (fun i w'=> ∃H,Stp w σ w' H∧SLe σ3 H∧Z5 H w' b [S [], .slice none 0 0,S [], .bool false,I 0, .slice none 0 0, .slice none 0 0]∧((chain l k).take i).findSome? (fun c=>(R2 c n).map (c.name,·))=none) ⟨σ3,az,SLe.refl _,a1,rfl⟩ fun i w5 d hi C=>?_
 obtain ⟨σ5,L,Q,ax,y⟩:=C
 refine Z0 ?_
 refine Q6 (fun hh=>?_) (fun hh=>?_)
 ·have a:i<(chain l k).length:=by simpa using hh
  refine L8 (O.lift Q) a fun p cells W z hr=>?_
  refine Y7 L.sat W z ?_
  refine Y5 L.sat (by rfl) z (Rep.one hr) fun q w6 σ6 B a2=>?_
  refine Y7 B.sat a2 z ?_
  have ai:=Rk (List.getElem_mem a)
  refine Q9S B.sat (Rep.up B.le hr) (ok.sm _ ai) fun pv cv Z w7 σ7 j aj=>?_
  refine U5 (vs:=[_,_]) rfl ?_
  refine U5 (vs:=[_,_]) rfl ?_
  refine Y5 j.sat (by rfl) rfl (Rep.one aj) fun q8 w8 σ8 u ao=>?_
  have Y:=((L.trans B).trans j).trans u
  have ay:=((ax.step B).step j).step u
  have A:=RMe_lift aj ⟨u.le⟩
  cases D:R2 (chain l k)[i] n with
  | some m=>
   rw[D] at A ao
   (try simp only[D])
   refine U3 ?_
   obtain ⟨lv,fv,mv,rfl,g⟩:=hr
   refine U6 Y.sat ?_
   refine X2 (.pointer (some (q.add 0))) (fun w E=>by rw[fa];exact X6 rfl) ?_
   refine X2 (S (chain l k)[i].name) (fun t w E e=>by rw[e];exact ld E.sat ((a2.up j).up u) rfl (X6 rfl)) ?_
   refine W7 (fun v _=>v= .agg [S m.name,pv,S m.result, .bool m.abs,I m.locals,cv,Z].toArray) (fun _ _ _ h _=>h) (fun w E=>Y7 E.sat ao rfl ⟨Below.refl _ _,rfl⟩) ?_
   rintro _ _ _ w9 aq rfl rfl rfl
   refine T8 (ay.step aq.stp) (Y.trans aq.stp) E rfl rfl (Rep.one A) fun al ak a0=>?_
   refine W2 a0 rfl ?_
   rw[Qp (f:=fun c=>(R2 c n).map (c.name,·)) a y (by simp only[D];rfl)] at h
   exact h _ _ _ al σ8 ak.stp A
  | none=>
   (try simp only[D])
   refine V8 ?_
   refine E5 ?_
   refine Y2 (by have:=ok.len;omega) a ⟨σ8,Y,Q.more ⟨fun b o e=>u.le _ _ (j.le _ _ (B.le _ _ e))⟩,ay,?_⟩
   rw[Qn a y];simp only[D];rfl
 ·have a: ¬i<(chain l k).length:=by simpa using hh
  rw[List.take_of_length_le (by omega)] at y
  rw[y] at h
  clear a1 az hh
  refine Q8 (O.lift Q) ?_
  refine J0 (chain l k).length (fun i w'=> ∃H,Stp w σ w' H∧SLe σ3 H∧Z5 H w' b [S [], .slice none 0 0,S [], .bool false,I 0, .slice none 0 0, .slice none 0 0]∧((chain l k).take i).findSome? (fun c=>U2 l c n)=none) ⟨σ5,L,Q,ax,rfl⟩ fun i w6 d hi C=>?_
  obtain ⟨σ6,R,aw,ar,y⟩:=C
  refine Z0 ?_
  refine Q6 (fun hh=>?_) (fun hh=>?_)
  ·have a:i<(chain l k).length:=by simpa using hh
   refine L8 (O.lift aw) a fun p cells W z hr=>?_
   refine Y7 R.sat W z ?_
   refine Y5 R.sat (by rfl) z (Rep.one hr) fun q w7 σ7 j bd=>?_
   refine Y7 j.sat bd z ?_
   have M:=R.trans j
   have bb:=Q9o (List.getElem_mem a)
   refine X1c ok _ (Nat.lt_succ_self _) bb j.sat (ht.lift ⟨M.le⟩) (Rep.up j.le hr) fun pv cv Z w8 σ8 u A=>?_
   refine U5 (vs:=[_,_,_]) rfl ?_
   refine U5 (vs:=[_,_,_]) rfl ?_
   refine U5 (vs:=[_,_,_]) rfl ?_
   refine Y5 u.sat (by rfl) rfl (Rep.one A) fun q9 w9 σ9 N ah=>?_
   have X:=(M.trans u).trans N
   have ad:=((ar.step j).step u).step N
   have V:=RMe_lift A ⟨N.le⟩
   cases D:U2 l (chain l k)[i] n with
   | some r=>
    obtain ⟨s,m⟩:=r
    rw[D] at V ah
    (try simp only[D])
    refine U3 ?_
    refine U6 X.sat ?_
    refine W7 (fun v _=>v= .agg [S m.name,pv,S m.result, .bool m.abs,I m.locals,cv,Z].toArray) (fun _ _ _ h _=>h) (fun w E=>Y7 E.sat ah rfl ⟨Below.refl _ _,rfl⟩) ?_
    rintro _ al U rfl
    refine T8 (ad.step U.stp) (X.trans U.stp) E rfl rfl (Rep.one V) fun a7 ap af=>?_
    refine W2 af rfl ?_
    have:=Qp (f:=fun c=>U2 l c n) a y D
    unfold U2 at this
    rw[this] at h
    exact h _ _ _ a7 σ9 ap.stp V
   | none=>
    (try simp only[D])
    refine V8 ?_
    refine E5 ?_
    refine Y2 (by have:=ok.len;omega) a ⟨σ9,X,aw.more ⟨fun b o e=>N.le _ _ (u.le _ _ (j.le _ _ e))⟩,ad,?_⟩
    rw[Qn a y];exact D
  ·have a: ¬i<(chain l k).length:=by simpa using hh
   rw[List.take_of_length_le (by omega)] at y
   refine Dk ?_
   refine T8 ar R E rfl rfl (Rep.one (P8 (σ:=σ6))) fun w7 M a5=>?_
   refine W2 a5 rfl ?_
   unfold U2 at y
   rw[y] at h
   exact h _ _ _ w7 σ6 M.stp P8)
end Go.Proofs.YtfppjenblllfaaaGreatDoor

namespace Go.Kd
def brk (b:UInt8):Bool:=[(91:UInt8),93].contains b
def Q0f:Nat→Q9→Q9
 | 0,s=>s
 | n+1,s=>match s.getLast? with
  | some b=>if brk b then Q0f n (s.take (s.length-1)) else s
  | none=>s
def Oi (s:Q9):Q9:=Q0f s.length s
theorem Q7i: ∀(n m:Nat) (s:Q9),s.length≤n→s.length≤m→Q0f n s=Q0f m s:=by
 intro n
 induction n with
 | zero=>
  intro m s h _
  have:s=[]:=List.eq_nil_of_length_eq_zero (by omega)
  subst this
  cases m<;>rfl
 | succ n a=>
  intro m s h d
  cases m with
  | zero=>
   have:s=[]:=List.eq_nil_of_length_eq_zero (by omega)
   subst this;rfl
  | succ m=>
   simp only[Q0f]
   cases c:s.getLast? with
   | none=>rfl
   | some b=>
    simp only
    split
    ·exact a m _ (by rw[List.length_take];omega) (by rw[List.length_take];omega)
    ·rfl
theorem Q0b (s:Q9):Oi s=match s.getLast? with | some b=>if brk b then Oi (s.take (s.length-1)) else s | none=>s:=by
 unfold Oi
 cases d:s with
 | nil=>rfl
 | cons c r=>
  rw[←d]
  obtain ⟨n,e⟩: ∃n,s.length=n+1:=⟨r.length,by rw[d];rfl⟩
  have a:s.length-1=n:=by omega
  rw[e]
  simp only[Q0f,a]
  cases f:s.getLast? with
  | none=>rfl
  | some b=>
   simp only
   split
   ·rw[show n+1-1=n by omega];exact Q7i n (s.take n).length _ (by rw[List.length_take];omega) (Nat.le_refl _)
   ·rfl
theorem Q80 {s:Q9} (h:name s=true): ∃b,s.getLast?=some b∧E2 b.toNat=true:=by
 cases s with
 | nil=>simp[name] at h
 | cons c r=>
  refine ⟨(c::r).getLast (by simp),List.getLast?_eq_some_getLast (by simp),?_⟩
  simp only[name,Bool.and_eq_true,List.all_eq_true] at h
  exact h.2 _ (List.getLast_mem _)
theorem Q8x {b:UInt8} (h:E2 b.toNat=true):brk b=false:=by
 have c:b≠91:=by rintro rfl;revert h;decide
 have a:b≠93:=by rintro rfl;revert h;decide
 simp[brk,c,a]
theorem Ll {s:Q9} (h:(plain s||W8 s)=true):name s=true:=by
 simp only[Bool.or_eq_true] at h
 rcases h with h | h
 ·simp only[plain,Bool.or_eq_true,decide_eq_true_eq] at h
  rcases h with (h | h) | h<;>subst h<;>decide
 ·cases s with
  | nil=>simp[W8] at h
  | cons c r=>simp only[W8,Bool.and_eq_true] at h;exact h.1
end Go.Kd
namespace Go.Proofs.YtfppjenblllfaaaGreatDoor
open Go.Emb Go.RowKit Go.Kd Go.Hm
variable {w : World} {K : Value → World → Prop} {σ : Q5} {v : Value} {l : List Cla}
theorem Q8G {s:Q9} (h:D3 s=true):Oi s=Oi (Kd.cutA s):=by
 have d:2≤s.length∧s.drop (s.length-2)=[91,93]:=by simpa [D3] using h
 obtain ⟨i,f⟩:=d
 have a:s=Kd.cutA s++[91,93]:=by unfold Kd.cutA;rw[←f,List.take_append_drop]
 have g:(Kd.cutA s).length+2=s.length:=by unfold Kd.cutA;rw[List.length_take];omega
 have c:s.getLast?=some 93:=by rw[a];simp
 have e:s.take (s.length-1)=Kd.cutA s++[91]:=by
  conv=>lhs;rw[a]
  rw[List.take_append,List.length_append]
  simp
  exact List.take_of_length_le (by omega)
 rw[Q0b s,c]
 simp only[show brk 93=true from rfl,if_true,e]
 rw[Q0b]
 have b:(Kd.cutA s++[91]).getLast?=some 91:=by simp
 rw[b]
 simp only[show brk 91=true from rfl,if_true]
 congr 1
 simp
theorem Q8B {s:Q9}:(plain (base s).1||W8 (base s).1)=true→Oi s=(base s).1:=by
 have key: ∀(n:Nat) (s:Q9),s.length≤n→(plain (base s).1||W8 (base s).1)=true→Oi s=(base s).1:=by
  intro n
  induction n with
  | zero=>
   intro s h a
   have:s=[]:=List.eq_nil_of_length_eq_zero (by omega)
   subst this;rfl
  | succ n f=>
   intro s h a
   by_cases c:D3 s=true
   ·have d:base s=((base (Kd.cutA s)).1,(base (Kd.cutA s)).2+1):=by rw[Xu s,c];simp
    rw[d] at a⊢
    rw[Q8G c]
    exact f _ (by have:=B4 c;omega) a
   ·have d:base s=(s,0):=by rw[Xu s,eq_false_of_ne_true c];simp
    rw[d] at a⊢
    obtain ⟨b,g,e⟩:=Q80 (Ll a)
    rw[Q0b,g]
    simp[Q8x e]
 exact key _ s (Nat.le_refl _)
instance z_asciiSet:TZ P T.a4 256 256 (.agg (Array.replicate 256 (.bool false))):=⟨by kernel_rfl⟩
theorem Q58 (h: ∀w',Below w.heap.size w w'→K (.tuple #[.agg (Lib.setCells [91,93]), .bool true]) w'):Q1 P F.bR [S [91,93]] w K:=by
 refine Uo (fn:=Tryz.f88) Tryz.func88 (by kernel_rfl) (by kernel_rfl) (Calls.mono (Tryz.strings_makeASCIISet (fun w=>Xv z_asciiSet w) ⟨[91,93].toArray⟩ w (by decide) (by
  intro j b a
  have:b∈[(91:UInt8),93]:=List.mem_of_getElem? a
  simp at this;rcases this with rfl | rfl<;>decide)) ?_)
 rintro e w' ⟨rfl,rfl⟩
 exact h _ ((Below.refl _ _).alloc (Nat.le_refl _) _)
theorem Q1Z {q:Addr} {b:UInt8} (c:X4 w σ) (a:Z2 σ q (Lib.setCells [91,93]).toList) (h:K (.bool (brk b)) w):Q1 P F.aw [.pointer (some q), .int .u8 b.toNat] w K:=Lo (by
 unfold T3
 rw[E9]
 have d:=b.toNat_lt
 rw[Q89 (by omega) (by omega)]
 refine ld c a ?_ h
 have:=Lib.setCells_at [91,93] b
 rw[←Array.getElem?_toList] at this
 simpa [brk] using this)
theorem Q1e {q:Addr} {s:Q9} (n:X4 w σ) (k:s.length≤Z9) (m:Z2 σ q (Lib.setCells [91,93]).toList) (h:K (S (Oi s)) w):Q1 P F.ai [S s, .pointer (some q)] w K:=Et (by
 unfold Yr
 refine V9 ?_
 refine Zs (fun x w'=>w'=w∧ ∃u:Q9,x=S u∧u.length≤Z9∧Oi u=Oi s) (fun x _=>(sOf x).length) ⟨rfl,s,rfl,k,rfl⟩ ?_
 rintro _ d _ ⟨rfl,u,rfl,f,g⟩
 have e:sOf (S u)=u:=by simp[sOf]
 simp only[e]
 refine Q1A X7 ?_
 refine Ax ?_
 refine Q6 (fun hh=>?_) (fun hh=>?_)
 ·have j:0<u.length:=by simpa using hh
  have o:u.length≤9223372036854775807:=Nat.le_trans f (by decide)
  refine Q1A X7 ?_
  refine Dj ⟨by omega,by omega⟩ ?_
  have i:((u.length:Int)-1).toNat=u.length-1:=by omega
  rw[Qc X7 (by omega) (by omega)]
  simp only[i]
  have b:u.getLast?=some (u[u.length-1]'(by omega)):=by rw[List.getLast?_eq_getElem?,List.getElem?_eq_getElem]
  have a:=Q0b u
  rw[b] at a
  simp only at a
  refine Q1Z n m ?_
  cases c:brk (u[u.length-1]'(by omega)) with
  | true=>
   rw[c] at a
   simp only[↓M1,M1,Mb,reduceIte]
   rw[F0 (by omega) (by omega),K2 X7 (by omega) (by omega)]
   simp only[i]
   refine ⟨⟨trivial,_,rfl,by rw[List.length_take];omega,?_⟩,?_⟩
   ·rw[←g,a];simp
   ·have:sOf (S (u.take (u.length-1)))=u.take (u.length-1):=by simp[sOf]
    simp only[this,List.length_take];omega
  | false=>
   rw[c] at a
   simp only[↓M1,M1,Mb,reduceIte]
   intro _
   rw[←g,a] at h
   simpa using h
 ·have j: ¬0<u.length:=by simpa using hh
  have:u=[]:=List.eq_nil_of_length_eq_zero (by omega)
  subst this
  intro _
  rw[←g] at h
  exact h)
theorem Q5x {s:Q9} (hs:X4 w σ) (hl:s.length≤Z9) (h: ∀w' σ',Stp w σ w' σ'→K (S (Oi s)) w'):Q1 P F.bn [S s,S [91,93]] w K:=Iq (by
 unfold Mc
 by_cases hs0:s=[]
 ·subst hs0
  (repeat' (first | (with_reducible intro _) | (with_reducible refine V9 ?_) | (simp only[↓M2,M2,Mb,reduceIte]) | (with_reducible first | refine ld aS aL aR ?_ | refine X8 aS aL aR ?_ | refine Y7 aS aL aR ?_ | refine Q8 aL ?_ | refine V3 aR ?_ | refine Y8 aS ?_ | refine L3 aS aL ?_ | refine J6 aS aR ?_ | refine Y5 aS aR aR (Rep.one (by assumption)) ?_ | refine U0 aS aR aR aR ?_ | (refine Z3 (fun hh=>?_) (fun hh=>?_)<;>(try simp only[hh,Bool.not_true,Bool.not_false,↓M2,M2,Mb,reduceIte])) | (refine Q6 (fun hh=>?_) (fun hh=>?_)<;>(try simp only[hh,Bool.not_true,Bool.not_false,↓M2,M2,Mb,reduceIte])))))
  all_goals first | exact h _ _ (by (repeat (first | exact Stp.refl (by (first | assumption | exact Stp.sat (by assumption) | exact Hst.sat (by assumption))) | assumption | refine Stp.trans ?_ (by first | assumption | exact Hst.stp (by assumption))))) | (exfalso;simp_all)
 have d1:decide (s=[])=false:=decide_eq_false hs0
 simp only[d1,show decide (([91,93]:Q9)=[])=false from rfl,show decide ((([91,93]:Q9).length:Int)=1)=false from rfl,↓M1,M1,Mb,reduceIte]
 refine Q58 (W3 hs fun w1 σ1 hk1=>?_)
 simp only[↓M1,M1,Mb,reduceIte]
 have hsz:(Lib.setCells [91,93]).toList.length=256:=by rw[Array.length_toList];exact Lib.setCells_size _
 have hone: ∀u∈(Lib.setCells [91,93]).toList,u.oneCell'=true:=by
  have:=Lib.setCells_one [91,93]
  rw[Array.all_eq_true'] at this
  intro u hu;exact this u (by simpa using hu)
 have htr: ∀{w:World} {σ:Q5} {K:Value→World→Prop} {q:Addr},X4 w σ→Z2 σ q (Lib.setCells [91,93]).toList→K (S (Oi s)) w→Q1 P F.ai [S s, .pointer (some q)] w K:=fun hs hq h=>Q1e hs hl hq h
 have hta:Lib.setCells [91,93]=(Lib.setCells [91,93]).toList.toArray:=Array.toArray_toList.symm
 generalize (Lib.setCells [91,93]).toList=cs at*
 rw[hta]
 refine Y5 hk1.sat (by show (Array.replicate 256 (Value.bool false)).size=256;exact Array.size_replicate) hsz hone fun q w2 σ2 hk2 hq=>?_
 refine htr hk2.sat hq ?_
 exact h _ _ (hk1.trans hk2))
theorem Tv {s:Q9} (hs:X4 w σ) (ht:Tab σ v l) (hl:s.length≤Z9) (h: ∀w' σ',Stp w σ w' σ'→K (.bool (M4 l s)) w'):Q1 P F.w [v,S s] w K:=Il (by
 unfold Me
 unfold M4 at h
 refine Nd ?_
 refine Q6 (fun hh=>?_) (fun hh=>?_)
 ·have e:decide (s=O9)=true:=hh
  rw[e] at h
  exact h _ _ (Stp.refl hs)
 ·have e:decide (s=O9)=false:=hh
  rw[e] at h
  refine Q5x hs hl fun w1 σ1 hk1=>?_
  refine Zq s (Nat.le_trans hl (by decide)) (W3 hk1.sat fun w2 σ2 hk2=>?_)
  cases hr:right s with
  | false=>
   rw[hr] at h
   (repeat' (first | (with_reducible intro _) | (with_reducible refine V9 ?_) | (simp only[↓M2,M2,Mb,reduceIte]) | (with_reducible first | refine ld aS aL aR ?_ | refine X8 aS aL aR ?_ | refine Y7 aS aL aR ?_ | refine Q8 aL ?_ | refine V3 aR ?_ | refine Y8 aS ?_ | refine L3 aS aL ?_ | refine J6 aS aR ?_ | refine Y5 aS aR aR (Rep.one (by assumption)) ?_ | refine U0 aS aR aR aR ?_ | (refine Z3 (fun hh=>?_) (fun hh=>?_)<;>(try simp only[hh,Bool.not_true,Bool.not_false,↓M2,M2,Mb,reduceIte])) | (refine Q6 (fun hh=>?_) (fun hh=>?_)<;>(try simp only[hh,Bool.not_true,Bool.not_false,↓M2,M2,Mb,reduceIte])))))
   all_goals exact aF
  | true=>
   rw[hr] at h
   have hr2:(plain (base s).1||W8 (base s).1)=true:=by
    simp only[right,Bool.and_eq_true] at hr;exact hr.2
   rw[Q8B hr2]
   (repeat' (first | (with_reducible intro _) | (with_reducible refine V9 ?_) | (simp only[↓M2,M2,Mb,reduceIte]) | (with_reducible first | refine ld aS aL aR ?_ | refine X8 aS aL aR ?_ | refine Y7 aS aL aR ?_ | refine Q8 aL ?_ | refine V3 aR ?_ | refine Y8 aS ?_ | refine L3 aS aL ?_ | refine J6 aS aR ?_ | refine Y5 aS aR aR (Rep.one (by assumption)) ?_ | refine U0 aS aR aR aR ?_ | refine Vi _ ?_ | refine Q6V au au ?_ | (refine Z3 (fun hh=>?_) (fun hh=>?_)<;>(try simp only[hh,Bool.not_true,Bool.not_false,↓M2,M2,Mb,reduceIte])) | (refine Q6 (fun hh=>?_) (fun hh=>?_)<;>(try simp only[hh,Bool.not_true,Bool.not_false,↓M2,M2,Mb,reduceIte])))))
   all_goals exact aF)
end Go.Proofs.YtfppjenblllfaaaGreatDoor

namespace Go.Emb
open Go.RowKit Go.Hm
variable {P : Program} {w w0 w1 w' w'' : World} {K : Value → World → Prop} {σ σ0 σ1 σ' : Q5}
theorem Q2Y (m:List (List UInt8×Value)) (k n:List UInt8) (v:Value):M0 (Qz m k v) n=if k=n then some v else M0 m n:=by
 induction m with
 | nil=>simp[Qz,M0]
 | cons p r b=>
  simp only[Qz]
  by_cases h:p.1=k
  ·rw[if_pos h]
   simp only[M0]
   by_cases a:k=n
   ·simp[a]
   ·rw[if_neg a,if_neg a,if_neg (by rw[h];exact a)]
  ·rw[if_neg h]
   simp only[M0]
   by_cases a:p.1=n
   ·rw[if_pos a,if_pos a,if_neg (by intro e;exact h (a.trans e.symm))]
   ·rw[if_neg a,if_neg a];exact b
theorem J9.shift {B sz:Nat} {e:TypeId} {v:Value} {xs:List (List UInt8)} (h:J9 B e sz Y1 σ w v xs) (m: ∀k,v.ownBlock=some k→σ' k=none):J9 B e sz Y1 σ' w v xs:=by
 obtain ⟨a,f,rfl,r,o,c,q⟩:=h
 refine ⟨a,f,rfl,r,o,fun b d=>⟨(c b d).1,(c b d).2.1,(c b d).2.2.1,m _ (by subst d;rfl)⟩,fun u=>?_⟩
 obtain ⟨g,i,j,rfl,p,y,n,s,t⟩:=q u
 exact ⟨g,i,j,rfl,p,m g rfl,n,s,t⟩
theorem Kpt.sat {D:Nat→Prop} (a:X4 w σ) (d:Kpt D w w') (c: ∀k,D k→σ k=none):X4 w' σ:=fun b o e=>by
 rw[d.block b (a.lt e) fun h=>by rw[c b h] at e;cases e];exact a b o e
theorem Nxt.kpt {D a:Nat→Prop} (h:Nxt D w σ w' σ') (b:Kpt a w' w'') (c: ∀k,a k→D k) (d: ∀k,a k→σ' k=none):Nxt D w σ w'' σ':=
 ⟨h.kp.trans (b.mono fun k _ h=>c k h),h.le,h.old,b.sat h.sat d⟩
theorem X1d {t Q:TypeId} {e:TypeId} {by_:Nat} {z:Value} {cs:List Bool} [ts:TS P t e] [tz:TZ P e 1 by_ z] {B:Nat} {y:World} {i σ':Q5} {f u:Value} {xs:List (List UInt8)} {s:List UInt8}
 (C:J9 B e 1 Y1 i y f xs) (hB:B≤y.heap.size) (U:J9 B e 1 Y1 i w1 f xs) (p:Nxt (fun k=>f.ownBlock=some k) y i w1 σ') (V:Sl 1 Y1 σ' u [s]) (O:(z.cells.size==1&&decide (0<1))=true)
 (j:(xs.length+1)*by_≤140737488355328) (R:xs.length+1≤1000000000000):
 X5 P .append [t,t] Q cs [f,u] w1 (dk (Cm B e 1 Y1 i f xs s) (VQa y.heap.size B e 1 Y1 i f xs s) w1):=by
 have n: ∀k,f.ownBlock=some k→σ' k=none:=fun k c=>(p.old k (C.mem c).2.1).trans (C.mem c).2.2
 refine Q1W p.sat (Nat.le_trans hB p.kp.size) (U.shift n) V O (by simpa using j) (by simpa using R) fun M W A H r g=>?_
 have b:J9 B e 1 Y1 i W M (xs++[s]):=r.shift fun k c=>by
  have:=(r.mem c).2.2
  cases hh:i k with
  | none=>rfl
  | some o=>rw[p.le.le _ _ hh] at this;cases this
 refine ⟨⟨A.mono fun k _ h=>h.1,fun h=>?_,fun a d E h=>?_⟩,b,?_⟩
 ·rcases g with ⟨a,d,m,q⟩ | ⟨j,_⟩
  ·rw[q] at b;rw[m];exact b.pre rfl
  ·exact h.below j
 ·rcases g with ⟨X,D,m,q⟩ | ⟨j,_⟩
  ·rw[m] at E;injection E with N q2 J
   subst N J
   rw[q] at b;exact b
  ·exact h.below j
 ·rcases g with ⟨a,d,m,q⟩ | ⟨j,L⟩
  ·exact .inl ⟨a,d,m,q⟩
  ·exact .inr ⟨fun k c=>Nat.le_trans p.kp.size (L k c),fun k c=>(C.mem c).2.1⟩
end Go.Emb
namespace Go.Hm
open Go.Kd
def Vp (l:List Cla) (n:Q9):List Cla:=(R4 l n).filterMap (lk l)
theorem Q5m {l:List Cla} (h: ∀c∈l,T0 c) (a:List Q9):weigh l a≤l.length*1000001:=by
 unfold weigh
 induction l with
 | nil=>simp
 | cons c r d=>
  have g:=d fun c b=>h c (by simp[b])
  have e:=(h c (by simp)).1
  simp only[List.map_cons,List.sum_cons,List.length_cons,Nat.add_mul]
  have f:(J3 c).length=c.like.length+1:=rfl
  split<;>omega
end Go.Hm
namespace Go.Proofs.YtfppjenblllfaaaGreatDoor
open Go.Emb Go.RowKit Go.Kd Go.Hm
variable {w : World} {K : Value → World → Prop} {σ : Q5} {v : Value} {l : List Cla}
theorem Q6i {β:Type} {n:Q9} {f:Value} (J:β→Cla→Bool×β) (s0:β) (Q:β→World→Prop) (D:Nat→Prop) (hs:X4 w σ) (ht:Tab σ v l) (hl:l.length≤100000) (bw: ∀c∈l,T0 c) (hn:n.length≤Z9)
 (hD: ∀k,D k→k<w.heap.size∧σ k=none) (an: ∀s w1 w2,Q s w1→(∀k,D k→w2.heap[k]? =w1.heap[k]?)→Q s w2) (h0:Q s0 w)
 (hf: ∀s c cs (w1:World) (σ1:Q5) (K:Value→World→Prop),SLe σ σ1→X4 w1 σ1→(∀k,D k→σ1 k=none)→Q s w1→U4 σ1 c cs→lk l c.name=some c→(∀w',Kpt D w1 w'→Q (J s c).2 w'→K (.bool (J s c).1) w')→Z1 P f [.agg cs.toArray] w1 K)
 (h: ∀w' σ',Nxt D w σ w' σ'→Q (J1 J s0 (Vp l n) 0).2 w'→K (.bool (J1 J s0 (Vp l n) 0).1.isSome) w'):Q1 P F.u [v,S n,f] w K:=Bq (by
 unfold Wa
 refine Qb (R:=Y1) (sz:=1) (xs:=[n]) (Stp.refl hs) [S n] rfl rfl (by simp;rfl) rfl ⟨⟨rfl,hn⟩,trivial⟩ fun x0 w1 ar bl _=>?_
 refine Tq ar.sat fun r w2 hr ab ca=>?_
 have ck:=J9.of_acc (bl.up ab)
 have bd:=ar.trans ab
 have bv:w.heap.size≤r:=Nat.le_trans ar.bel.size hr
 have bz: ∀b,weigh l b≤100001000000:=fun b=>by
  have:=Q5m bw b
  have h2:l.length*1000001≤100000*1000001:=Nat.mul_le_mul_right _ hl
  omega
 refine Fj (fun d x w1=> ∃(C b:List Q9) (s:β) (σ1:Q5) (m:List (Q9×Value)),d=C.length+weigh l b∧d≤1+weigh l []∧Nxt D w σ w1 σ1∧J9 w.heap.size T.b 1 Y1 σ1 w1 x C∧E1 σ1 w1 r m∧(∀k,(M0 m k).isSome=decide (k∈b))∧x.ownBlock≠some r∧Q s w1∧
  R4 l n=Jh (lk l) d C b∧(∃i,J1 J s0 (Vp l n) 0=J1 J s (((R4 l n).drop b.length).filterMap (lk l)) i)) (1+weigh l []) ?_ ?_
 ·refine ⟨[n],[],s0,σ,[],by simp,Nat.le_refl _,Nxt.of_stp bd,ck,ca,by simp[M0],?_,an _ _ _ h0 fun k o=>bd.bel.block k (hD k o).1,rfl,0,by simp[Vp]⟩
  intro e
  have:=bl.mem r e
  omega
 rintro a6 d x dd w3 ⟨C,b,s,σ3,m,hd,dm,A,aw,ag,O,cm,a3,hv,i,y⟩ bf
 have cv:=bz []
 have a0:=A.sat
 obtain ⟨a5,B⟩:=Q0e (lk l) d C b
 rw[←hv] at B
 have Y:(R4 l n).drop b.length=a5:=by rw[B];simp
 rw[Y] at y
 refine Bo aw ?_
 refine Ax ?_
 cases Z:C with
 | nil=>
  subst Z
  refine Q6 (fun hh=>absurd (of_decide_eq_true hh) (by simp)) (fun _=>?_)
  have:R4 l n=b:=by rw[hv];cases d<;>rfl
  have hp:a5=[]:=by rw[this] at B;simpa using B
  rw[hp] at y
  rw[y] at h
  exact h _ _ A a3
 | cons t g=>
  subst Z
  refine Q6 (fun _=>?_) (fun hh=>absurd (of_decide_eq_false hh) (by simp))
  simp only[List.length_cons] at hd
  refine Q4P (n:=0) aw (by simp) fun a cs h1 h2 h3=>?_
  obtain ⟨rfl,cd⟩:=h3
  simp only[List.getElem_cons_zero] at h1 cd
  have ad:=h1 0 _ rfl
  rw[add_zero] at ad
  refine Ql ad ?_
  refine Q9B aw 1 (by simp) fun x' ae bc=>?_
  simp only[List.drop_succ_cons,List.drop_zero] at ae
  have H:x'.ownBlock≠some r:=by
   rcases bc with e | e<;>rw[e]
   ·exact cm
   ·simp
  rw[Q1f X7 ag.2 t]
  have b8:d=(g.length+weigh l b)+1:=by omega
  have p:=hv
  rw[b8] at p
  simp only[Jh] at p
  have skip:(lk l t=none∨t∈b)→R4 l n=Jh (lk l) (g.length+weigh l b) g b:=by
   rintro (e | e)
   ·rw[e] at p;exact p
   ·cases e2:lk l t with
    | none=>rw[e2] at p;exact p
    | some c=>rw[e2] at p;simp only[if_pos e] at p;exact p
  have aa:(lk l t=none∨t∈b)→a6 x' w3:=fun co=>
   bf (g.length+weigh l b) x' w3 (by omega) ⟨g,b,s,σ3,m,rfl,by omega,A,ae,ag,O,H,a3,skip co,i,by rw[Y];exact y⟩
  have aq:=ht.lift A.le
  have U:=O t
  cases bh:M0 m t with
  | some u=>
   rw[bh] at U
   have al:t∈b:=by simpa using U
   simp only[↓M2,M2,Mb,reduceIte]
   exact aa (.inr al)
  | none=>
   rw[bh] at U
   have al:t∉b:=by simpa using U
   simp only[↓M2,M2,Mb,reduceIte]
   cases L:lk l t with
   | none=>
    refine An a0 aq L ?_
    simp only[↓M2,M2,Mb,reduceIte]
    exact aa (.inl L)
   | some c=>
    obtain ⟨az,bi,_⟩:=U1 L
    refine Hb a0 aq L ?_
    simp only[↓M2,M2,Mb,reduceIte]
    refine Ox X7 ag t (I 1) fun w4 br cp=>?_
    have X:Kpt (fun k=>k=r) w3 w4:=Kpt.of_upd br rfl
    have b5:X4 w4 σ3:=X.sat a0 fun k o=>by rw[o];exact ag.1
    have bs:=ae.kp X fun k o e=>H (e▸o)
    have b9:=an _ _ _ a3 fun k o=>br.block k (by have:=(hD k o).1;omega)
    have cz:r<w3.heap.size:=ag.lt
    refine Xq b5 aq L fun lv fv mv w5 σ5 bn f1 f2 f3 f4 f5 bu=>?_
    refine Y5 bn.sat (by rfl) rfl (Rep.one bu) fun q w6 M V a1=>?_
    refine Y7 V.sat a1 rfl ?_
    have z:=bn.trans V
    have b0: ∀k,D k→k<w4.heap.size:=fun k o=>by
     have h1:=(hD k o).1
     have h2:=A.kp.size
     have h3:=X.size
     omega
    have cl:=an _ _ _ b9 fun k o=>z.bel.block k (b0 k o)
    have ay:SLe σ M:=A.le.more ⟨z.le⟩
    have b1: ∀k,D k→M k=none:=fun k o=>by
     rw[z.old k (b0 k o),A.old k (hD k o).1];exact (hD k o).2
    refine hf s c _ w6 M _ ay V.sat b1 cl (RCl_lift bu ⟨V.le⟩) (by rw[az];exact L) fun w7 aj bg=>?_
    have bb:X4 w7 M:=aj.sat V.sat b1
    have ai:Nxt D w σ w7 M:=⟨((A.kp.more X fun j e=>by rw[e];exact bv).trans (Kpt.of_below z.bel)).trans aj,ay,fun k o=>by
     rw[z.old k (by have:=A.kp.size;have:=X.size;omega)];exact A.old k o,bb⟩
    have ap: ∀k,w.heap.size≤k→ ¬D k:=fun k o e=>by have:=(hD k e).1;omega
    have W:=(bs.up z).kp aj fun k o=>ap k ((bs.mem o).1)
    have be:=(cp.up z).kp aj (ap r bv)
    have bj: ∀k,(M0 (Qz m t (I 1)) k).isSome=decide (k∈b++[t]):=fun k=>by
     rw[Q2Y]
     by_cases e:t=k
     ·subst e;simp
     ·rw[if_neg e,O k];simp[Ne.symm e]
    rw[L] at p
    simp only[if_neg al] at p
    obtain ⟨bm,a7⟩:=Q0e (lk l) (g.length+weigh l b) (g++J3 c) (b++[t])
    have bp:a5=t::bm:=by
     have:=B.symm.trans (p.trans a7)
     simpa using this
    rw[bp] at y
    simp only[List.filterMap_cons,L,J1] at y
    cases E:(J s c).1 with
    | true=>
     rw[E] at y
     simp only[if_true] at y
     refine U3 ?_
     have:=h w7 M ai
     rw[y] at this
     exact this bg
    | false=>
     rw[E] at y
     simp only[Bool.false_eq_true,if_false] at y
     refine V8 ?_
     have ao:w.heap.size≤w7.heap.size:=ai.kp.size
     have ac: ∀k,x'.ownBlock=some k→M k=none:=fun k o=>(W.mem o).2.2
     have hw:=Cz l b c bi (by rw[az];exact al)
     rw[az] at hw
     have c0:=bz b
     have cg:g.length≤100001000001:=by omega
     have b7:=(bw c bi).1
     have cw:=be.lt
     refine Q0c (Cm w.heap.size T.b 1 Y1 M x' g c.super) (fun w1=>Kpt (fun k=>x'.ownBlock=some k) w7 w1∧X4 w1 M∧J9 w.heap.size T.b 1 Y1 M w1 x' g)
      ⟨.of_below (Below.refl _ _).drew,bb.below (Below.refl _ _).drew,W.below (Below.refl _ _).drew⟩ (fun w1 w2 E ht=>⟨E.1.trans ht.1,ht.1.sat E.2.1 ac,ht.2.1 E.2.2⟩) ?_
     refine X2 (.pointer (some (q.add 1))) (fun w E=>by rw[fa];exact ⟨Cm.refl,rfl⟩) ?_
     refine X2 (.pointer (some (q.add 2))) (fun w E=>by rw[fa];exact ⟨Cm.refl,rfl⟩) ?_
     refine X2 (S c.super) (fun t w E e=>by rw[e];exact ld E.2.1 a1 rfl ⟨Cm.refl,rfl⟩) ?_
     refine W7 (fun u w1=> ∃σ',Nxt (fun k=>x'.ownBlock=some k) w7 M w1 σ'∧Sl 1 Y1 σ' u [c.super]) (fun u w1 w2 e ht=>by obtain ⟨σ',h1,h2⟩:=e;exact ⟨σ',h1.kpt ht.1 (fun _ o=>o) (fun k o=>(h1.old k (W.mem o).2.1).trans (ac k o)),h2⟩) (fun t w1 E e=>?_) ?_
     ·rw[e]
      refine E3 (R:=Y1) (sz:=1) E.2.1 [S c.super] [c.super] rfl rfl (by simp;rfl) rfl ⟨⟨rfl,f5⟩,trivial⟩ fun u w2 σ2 ab hu=>?_
      have ch:Nxt (fun k=>x'.ownBlock=some k) w7 M w1 M:=⟨E.1,SLe.refl _,fun _ _=>rfl,E.2.1⟩
      exact ⟨Cm.below ab.bel,σ2,ch.trans (Nxt.of_stp ab),hu⟩
     refine W7 (VQa w7.heap.size w.heap.size T.b 1 Y1 M x' g c.super) (fun _ _ _ h1 ht=>h1.stable ht) (fun u w1 E e=>?_) ?_
     ·obtain ⟨σ',h1,h2⟩:=e
      exact X1d W ao E.2.2 h1 h2 rfl (by omega) (by omega)
     refine X2 lv (fun t w E e=>by rw[e];exact ld E.2.1 a1 rfl ⟨Cm.refl,rfl⟩) ?_
     rintro dn dg db c1 b6 c5 w8 N _ _ _ _ ⟨cq,bk⟩ rfl
     have av:b6.ownBlock≠some r:=by
      rcases bk with ⟨a,cn,e1,e2⟩ | ⟨e1,_⟩
      ·rw[e2];rw[e1] at H;cases a<;>exact H
      ·intro e;have:=e1 r e;omega
     refine Q1W N.2.1 (Nat.le_trans ao N.1.size) cq (f1.up V) rfl (by rw[List.length_append,List.length_cons,List.length_nil];omega) (by rw[List.length_append,List.length_cons,List.length_nil];omega) fun bo w9 a4 cr ce bx=>?_
     have b4:bo.ownBlock≠some r:=by
      rcases bx with ⟨a,cn,e1,e2⟩ | ⟨_,e1⟩
      ·rw[e2];rw[e1] at av;cases a<;>exact av
      ·intro e;have:=e1 r e;have:=N.1.size;omega
     have cb:Nxt D w σ w9 M:=⟨(ai.kp.more N.1 fun j e=>(W.mem e).1).more a4 fun j e=>e.2.1,ay,ai.old,cr⟩
     have b3:=(be.kp N.1 H).kp a4 fun e=>av e.1
     have ci:=an _ w7 w9 bg fun k o=>by
      have h1:=(hD k o).1
      rw[a4.block k (by have:=N.1.size;omega) fun e=>by have:=e.2.1;omega,N.1.block k (by omega) fun e=>by have:=(W.mem e).1;omega]
     have cy:(g++J3 c).length=g.length+1+c.like.length:=by simp[J3];omega
     have ct:(J3 c).length=c.like.length+1:=rfl
     have ax:Jh (lk l) (g.length+weigh l b) (g++J3 c) (b++[t])=Jh (lk l) ((g++J3 c).length+weigh l (b++[t])) (g++J3 c) (b++[t]):=by
      have:=Q9n l ((g++J3 c).length+weigh l (b++[t])) (g++J3 c) (b++[t]) (Nat.le_refl _) (g.length+weigh l b-((g++J3 c).length+weigh l (b++[t])))
      rw[←this];congr 1;omega
     refine bf ((g++J3 c).length+weigh l (b++[t])) bo w9 (by omega) ⟨g++J3 c,b++[t],(J s c).2,M,_,rfl,by omega,cb,?_,b3,bj,b4,ci,p.trans ax,i+1,?_⟩
     ·have:g++J3 c=(g++[c.super])++c.like:=by simp[J3]
      rw[this];exact ce
     ·rw[y,B,bp];simp)
end Go.Proofs.YtfppjenblllfaaaGreatDoor

namespace Go.Emb
open Go.RowKit Go.Hm
theorem Nxt.stp {w w':World} {σ a:Q5} (h:Nxt (fun _=>False) w σ w' a):Stp w σ w' a:=⟨h.kp.below fun _=>id,h.sat,h.le.le,h.old⟩
end Go.Emb
namespace Go.Hm
open Go.Kd Go.Emb
theorem Q37 {α:Type} (p:α→Bool): ∀(xs:List α) (i:Nat),(J1 (fun (_:Unit) x=>(p x,())) () xs i).1.isSome=xs.any p
 | [],_=>rfl
 | x::r,i=>by
  simp only[J1,List.any_cons]
  cases p x with
  | true=>simp
  | false=>simpa using Q37 p r (i+1)
theorem Q4v {l:List Cla} (n b:Q9):((Vp l n).any fun c=>decide (c.name=b))=(R4 l n).contains b:=by
 have key: ∀vs:List Q9,(∀x∈vs,∃c,lk l x=some c)→((vs.filterMap (lk l)).any fun c=>decide (c.name=b))=vs.contains b:=by
  intro vs
  induction vs with
  | nil=>intro _;rfl
  | cons x r e=>
   intro h
   obtain ⟨c,a⟩:=h x (by simp)
   rw[List.filterMap_cons,a]
   simp only[List.any_cons,List.contains_cons]
   rw[e fun y f=>h y (by simp[f]),(U1 a).1]
   congr 1
   rw[Bool.eq_iff_iff,beq_iff_eq,decide_eq_true_eq];exact ⟨Eq.symm,Eq.symm⟩
 exact key _ fun x d=>(Zy.1 d).right
end Go.Hm
namespace Go.Proofs.YtfppjenblllfaaaGreatDoor
open Go.Emb Go.RowKit Go.Kd Go.Hm
variable {w : World} {K : Value → World → Prop} {σ : Q5} {v : Value} {l : List Cla}
theorem Q6f {n:Q9} {f:Value} (p:Cla→Bool) (hs:X4 w σ) (ht:Tab σ v l) (hl:l.length≤100000) (hsm: ∀c∈l,T0 c) (hn:n.length≤Z9)
 (hf: ∀c cs (w1:World) (σ1:Q5) (K:Value→World→Prop),SLe σ σ1→X4 w1 σ1→U4 σ1 c cs→(∀w' σ',Stp w1 σ1 w' σ'→K (.bool (p c)) w')→Z1 P f [.agg cs.toArray] w1 K)
 (h: ∀w' σ',Stp w σ w' σ'→K (.bool ((Vp l n).any p)) w'):Q1 P F.u [v,S n,f] w K:=by
 refine Q6i (fun (_:Unit) c=>(p c,())) () (fun _ _=>True) (fun _=>False) hs ht hl hsm hn (fun _ e=>e.elim) (fun _ _ _ _ _=>trivial) trivial (fun s c cs w1 σ1 K le hs1 _ _ hr _ hK=>hf c cs w1 σ1 K le hs1 hr fun w' σ' hk=>hK w' (.of_below hk.bel) trivial) fun w' σ' hn _=>?_
 rw[Q37]
 exact h w' σ' hn.stp
theorem Q99 {n b:Q9} {q:Addr} (hs:X4 w σ) (ht:Tab σ v l) (ok:Ok l) (hn:n.length≤Z9) (hq:Z2 σ q [S b]) (h: ∀w' σ',Stp w σ w' σ'→K (.bool ((R4 l n).contains b)) w'):
 Q1 P F.u [v,S n, .func (.func F.bh) #[] #[.pointer (some q)]] w K:=by
 refine Q6f (fun c=>decide (c.name=b)) hs ht ok.len ok.sm hn (fun c cs w1 σ1 K le hs1 hr hK=>Y9 (Gu ?_)) (by rw[Q4v];exact h)
 obtain ⟨lv,fv,mv,rfl,_⟩:=hr
 unfold Wk
 have hq1:=hq.lift le
 refine Y8 hs1 fun a w2 σ2 hk2 ha2=>?_
 (repeat' (first | (with_reducible intro _) | (with_reducible refine V9 ?_) | (simp only[↓M2,M2,Mb,reduceIte]) | (with_reducible first | refine ld aS aL aR ?_ | refine X8 aS aL aR ?_ | refine Y7 aS aL aR ?_ | refine Q8 aL ?_ | refine V3 aR ?_ | refine Y8 aS ?_ | refine L3 aS aL ?_ | refine J6 aS aR ?_ | refine Y5 aS aR aR (Rep.one (by assumption)) ?_ | refine U0 aS aR aR aR ?_ | (refine Z3 (fun hh=>?_) (fun hh=>?_)<;>(try simp only[hh,Bool.not_true,Bool.not_false,↓M2,M2,Mb,reduceIte])) | (refine Q6 (fun hh=>?_) (fun hh=>?_)<;>(try simp only[hh,Bool.not_true,Bool.not_false,↓M2,M2,Mb,reduceIte])))))
 exact hK _ _ hk2
theorem Q3G {a b:Q9} (E:X4 w σ) (r:Tab σ v l) (ok:Ok l) (t:a.length≤Z9) (D:b.length≤Z9) (h: ∀w' H,Stp w σ w' H→K (.bool (V0 l a b)) w'):Q1 P F.ac [v,S a,S b] w K:=Aq (by
 unfold Od
 unfold V0 at h
 refine J6 E rfl fun q w1 σ1 i A=>?_
 refine Tv i.sat (r.lift ⟨i.le⟩) t fun R N d=>?_
 have j:=i.trans d
 cases y:M4 l a with
 | false=>
  simp only[y,↓M2,M2,Mb,reduceIte,Bool.not_false,Bool.true_or,if_true] at h⊢
  exact h _ _ j
 | true=>
  simp only[y,↓M2,M2,Mb,reduceIte,Bool.not_true,Bool.false_or] at h⊢
  refine X8 d.sat (A.up d) rfl ?_
  refine Tv d.sat (r.lift ⟨j.le⟩) D fun M U e=>?_
  have c:=j.trans e
  cases B:M4 l b with
  | false=>
   simp only[B,↓M2,M2,Mb,reduceIte,Bool.not_false,if_true] at h⊢
   exact h _ _ c
  | true=>
   simp only[B,↓M2,M2,Mb,reduceIte,Bool.not_true,Bool.false_eq_true,if_false] at h⊢
   have m:=(A.up d).up e
   refine X8 e.sat m rfl ?_
   refine Nd ?_
   by_cases f:a=b
   ·rw[if_pos f] at h
    simp only[decide_eq_true f,↓M2,M2,Mb,reduceIte]
    exact h _ _ c
   rw[if_neg f] at h
   simp only[decide_eq_false f,↓M2,M2,Mb,reduceIte]
   refine Vi a ?_
   cases C:plain a with
   | true=>
    simp only[C,↓M2,M2,Mb,reduceIte,Bool.true_or,if_true] at h⊢
    exact h _ _ c
   | false=>
    simp only[C,↓M2,M2,Mb,reduceIte,Bool.false_or] at h⊢
    refine X8 e.sat m rfl ?_
    refine Vi b ?_
    cases z:plain b with
    | true=>
     simp only[z,↓M2,M2,Mb,reduceIte,if_true] at h⊢
     exact h _ _ c
    | false=>
     simp only[z,↓M2,M2,Mb,reduceIte,Bool.false_eq_true,if_false] at h⊢
     by_cases p:a=O9
     ·rw[if_pos p] at h
      have s:decide (a=[110,117,108,108])=true:=decide_eq_true p
      simp only[s,↓M2,M2,Mb,reduceIte]
      exact h _ _ c
     rw[if_neg p] at h
     have s:decide (a=[110,117,108,108])=false:=decide_eq_false p
     simp only[s,↓M2,M2,Mb,reduceIte]
     refine X1b a (Nat.le_trans t (by decide)) (W3 e.sat fun L Q g=>?_)
     have k:=c.trans g
     have n:=m.up g
     refine Lf ?_
     by_cases o:elem a=[]
     ·rw[if_neg (by simpa using o)] at h
      simp only[decide_eq_true o,↓M2,M2,Mb,reduceIte]
      exact Q99 g.sat (r.lift ⟨k.le⟩) ok t n fun O J u=>h _ _ (k.trans u)
     ·rw[if_pos o] at h
      simp only[decide_eq_false o,↓M2,M2,Mb,reduceIte]
      refine X8 g.sat n rfl ?_
      refine Nd ?_
      exact h _ _ k)
theorem Q8y {a b:Q9} (Y:X4 w σ) (p:Tab σ v l) (ok:Ok l) (z:a.length≤Z9) (y:b.length≤Z9) (h: ∀w' D,Stp w σ w' D→K (S (L1 l a b)) w'):Q1 P F.aF [v,S a,S b] w K:=Kh (by
 unfold Lt
 unfold L1 at h
 refine Q3G Y p ok z y fun w1 σ1 g=>?_
 cases L:V0 l a b with
 | true=>
  simp only[L,↓M2,M2,Mb,reduceIte,if_true] at h⊢
  exact h _ _ g
 | false=>
  simp only[L,↓M2,M2,Mb,reduceIte,Bool.false_eq_true,if_false] at h⊢
  refine Q3G g.sat (p.lift ⟨g.le⟩) ok y z fun w2 σ2 r=>?_
  have m:=g.trans r
  cases Q:V0 l b a with
  | true=>
   simp only[Q,↓M2,M2,Mb,reduceIte,if_true] at h⊢
   exact h _ _ m
  | false=>
   simp only[Q,↓M2,M2,Mb,reduceIte,Bool.false_eq_true,if_false] at h⊢
   refine Tv r.sat (p.lift ⟨m.le⟩) z fun w3 σ3 t=>?_
   have o:=m.trans t
   cases U:M4 l a with
   | false=>
    simp only[U,↓M2,M2,Mb,reduceIte,Bool.not_false,Bool.true_or,if_true] at h⊢
    exact h _ _ o
   | true=>
    simp only[U,↓M2,M2,Mb,reduceIte,Bool.not_true,Bool.false_or] at h⊢
    refine Tv t.sat (p.lift ⟨o.le⟩) y fun w4 X C=>?_
    have k:=o.trans C
    cases N:M4 l b with
    | false=>
     simp only[N,↓M2,M2,Mb,reduceIte,Bool.not_false,Bool.true_or,if_true] at h⊢
     exact h _ _ k
    | true=>
     simp only[N,↓M2,M2,Mb,reduceIte,Bool.not_true,Bool.false_or] at h⊢
     refine Vi a ?_
     cases R:plain a with
     | true=>
      simp only[R,↓M2,M2,Mb,reduceIte,Bool.true_or,if_true] at h⊢
      exact h _ _ k
     | false=>
      simp only[R,↓M2,M2,Mb,reduceIte,Bool.false_or] at h⊢
      refine Vi b ?_
      cases M:plain b with
      | true=>
       simp only[M,↓M2,M2,Mb,reduceIte,if_true] at h⊢
       exact h _ _ k
      | false=>
       simp only[M,↓M2,M2,Mb,reduceIte,Bool.false_eq_true,if_false] at h⊢
       refine Fj (fun d x w'=> ∃(s:Q9) (D:Q5),x=S s∧s.length≤Z9∧Stp w σ w' D∧d=(chain l s).length∧(chain l a).find? (fun c=>V0 l b c.name)=(chain l s).find? fun c=>V0 l b c.name) _ ⟨a,X,rfl,z,k,rfl,rfl⟩ ?_
       rintro B d x Z w5 ⟨s,σ5,rfl,H,f,rfl,e⟩ E
       have n:=p.lift ⟨f.le⟩
       cases q:lk l s with
       | none=>
        refine An f.sat n q ?_
        refine V8 ?_
        rw[P0 q] at e
        rw[e] at h
        exact h _ _ f
       | some c=>
        have u:=(U1 q).1
        have i:=F8 ok.acy s
        rw[q] at i
        simp only at i
        rw[i,List.find?_cons,u] at e
        refine Hb f.sat n q ?_
        refine U3 ?_
        refine Q3G f.sat n ok y H fun w6 σ6 J=>?_
        have j:=f.trans J
        cases O:V0 l b s with
        | true=>
         rw[O] at e
         simp only at e
         refine U3 ?_
         rw[e] at h
         have:=h _ _ j
         simp only[u] at this
         exact this
        | false=>
         rw[O] at e
         simp only at e
         refine V8 ?_
         refine Xq j.sat (p.lift ⟨j.le⟩) q fun lv fv mv w7 W A f1 f2 f3 f4 V hr=>?_
         refine V3 (v:=S c.super) rfl ?_
         exact E _ _ _ (by rw[i];simp) ⟨c.super,W,rfl,V,j.trans A,rfl,e⟩)
theorem X0I {c:Cla} {cs:List Value} (hs:X4 w σ) (ht:Tab σ v l) (hl:l.length≤100000) (hsm: ∀c∈l,T0 c) (hc:U4 σ c cs) (h: ∀w' σ',Stp w σ w' σ'→K (.bool (G2 l c)) w'):Q1 P F.b8 [v, .agg cs.toArray] w K:=Fl (by
 obtain ⟨lv,fv,mv,rfl,g1,g2,g3,g4,g5⟩:=hc
 unfold Lb
 obtain ⟨a,_,_,_,rfl,_⟩:=ht.ex
 refine J6 hs rfl fun q w1 σ1 hk1 hq=>?_
 refine Y8 hk1.sat fun q2 w2 σ2 hk2 hq2=>?_
 rw[Qm,fa]
 have hS2:=hk1.trans hk2
 have back: ∀{n:Q9} {w3:World} {σ3:Q5} {K:Value→World→Prop},SLe σ2 σ3→X4 w3 σ3→n.length≤Z9→(∀w' σ',Stp w3 σ3 w' σ'→K (.bool ((R4 l n).contains c.name)) w')→
  Z1 P (.func (.func F.aX) #[] #[.pointer (some q), .pointer (some q2)]) [S n] w3 K:=by
  intro n w3 σ3 K le hs3 hn hK
  refine Y9 (Sk ?_)
  unfold Jy
  refine X8 hs3 ((hq.up hk2).lift le) rfl ?_
  rw[Qm]
  have le3:SLe σ σ3:=SLe.more ⟨hS2.le⟩ le
  refine Q6f (fun d=>decide (d.name=c.name)) hs3 (ht.lift le3) hl hsm hn (fun d ds w4 σ4 K le4 hs4 hr hK=>Y9 (He ?_)) (by rw[Q4v];exact hK)
  obtain ⟨lv,fv,mv,rfl,_⟩:=hr
  unfold Zi
  have hq4:=(hq2.lift le).lift le4
  refine Y8 hs4 fun a w5 σ5 hk5 ha5=>?_
  (repeat' (first | (with_reducible intro _) | (with_reducible refine V9 ?_) | (simp only[↓M2,M2,Mb,reduceIte]) | (with_reducible first | refine ld aS aL aR ?_ | refine X8 aS aL aR ?_ | refine Y7 aS aL aR ?_ | refine Q8 aL ?_ | refine V3 aR ?_ | refine Y8 aS ?_ | refine L3 aS aL ?_ | refine J6 aS aR ?_ | refine Y5 aS aR aR (Rep.one (by assumption)) ?_ | refine U0 aS aR aR aR ?_ | (refine Z3 (fun hh=>?_) (fun hh=>?_)<;>(try simp only[hh,Bool.not_true,Bool.not_false,↓M2,M2,Mb,reduceIte])) | (refine Q6 (fun hh=>?_) (fun hh=>?_)<;>(try simp only[hh,Bool.not_true,Bool.not_false,↓M2,M2,Mb,reduceIte])))))
  exact hK _ _ hk5
 refine ld hk2.sat hq2 rfl ?_
 unfold G2 at h
 simp only[J3,List.any_cons] at h
 refine back (SLe.refl _) hk2.sat g5 fun w3 σ3 hk3=>?_
 cases e1:(R4 l c.super).contains c.name with
 | true=>
  rw[e1] at h
  simp only[↓M2,M2,Mb,reduceIte]
  exact h _ _ (hS2.trans hk3)
 | false=>
  rw[e1,Bool.false_or] at h
  simp only[↓M2,M2,Mb,reduceIte]
  refine ld hk3.sat (hq2.up hk3) rfl ?_
  refine F5 (fun n=>(R4 l n).contains c.name) hk3.sat (((g1.up hk1).up hk2).up hk3) (fun x w4 K _ hs4 hx hK=>back ⟨hk3.le⟩ hs4 hx fun w' σ' hk=>hK _ hk.bel) fun w4 hb=>?_
  (try simp only[↓M2,M2,Mb,reduceIte])
  exact h _ _ ((hS2.trans hk3).trans (Stp.of_below hk3.sat hb)))
end Go.Proofs.YtfppjenblllfaaaGreatDoor

namespace Go.Emb
open Go.RowKit Go.Hm
variable {P : Program} {w w0 w1 w' w'' : World} {K : Value → World → Prop} {σ σ0 σ1 σ' : Q5}
theorem Sl.at {α:Type} {R:Q5→α→List Value→Prop} {sz:Nat} {v:Value} {xs:List α} (h:Sl sz R σ v xs) {i:Nat} (g:i<xs.length):
 ∃p cs,Z2 σ p cs∧cs.length=sz∧R σ xs[i] cs∧ ∀{P:Program} {t e:TypeId} {by_:Nat} {z:Value} {w:World} {K:Value→World→Prop} [TS P t e] [TZ P e sz by_ z],K (.pointer (some p)) w→indexAddr P t v (I i) w K:=by
 obtain ⟨a,c,rfl,o,q,n,j⟩:=h
 cases a with
 | none=>have:=n rfl;omega
 | some b=>
  obtain ⟨cs,m,d,k⟩:=(j b rfl).2 i xs[i] (by simp[g])
  refine ⟨_,cs,m,d,k,?_⟩
  intro P t e by_ z w K _ _ f
  rw[Cg (by omega) (by omega)]
  simpa using f
abbrev ints (xs:List Nat):List Int:=xs.map fun n:Nat=>(n:Int)
theorem V6.grow {α:Type} {R:Q5→α→List Value→Prop} [hr:Rep R] {B sz:Nat} {e:TypeId} {v:Value} {xs:List α} (h:V6 B e sz R σ w v xs) (b:SLe σ σ') (c: ∀k,v.ownBlock=some k→σ' k=none):V6 B e sz R σ' w v xs:=by
 obtain ⟨cells,f,g,a⟩:=h
 exact ⟨cells,f,c,fun i x d=>hr.up b.le (a i x d)⟩
end Go.Emb
namespace Go.Proofs.YtfppjenblllfaaaGreatDoor
open Go.Emb Go.RowKit Go.Kd Go.Hm
variable {w : World} {K : Value → World → Prop} {σ : Q5} {v : Value} {l : List Cla}
theorem Q5F {B i:Nat} {xs:List Nat} {x:Value} (m:J9 B T.e 1 Ul σ w x (ints xs)) (h:K (.bool (decide (i∈xs))) w):Q1 P F.aB [x,I i] w K:=Nr (by
 unfold Qr
 have k:xs.length≤9223372036854775807:=by
  obtain ⟨a,r,_,o,p,_⟩:=m
  simp only[maxLen,ints,List.length_map] at p o;omega
 refine Ez ?_
 unfold Yq
 refine Bo m ?_
 have f:(ints xs).length=xs.length:=by simp
 refine J0 xs.length (fun n w'=>w'=w∧i∉xs.take n) ⟨rfl,by simp⟩ fun n w' d u g=>?_
 obtain ⟨rfl,g⟩:=g
 rw[f]
 refine Z0 ?_
 refine Q6 (fun hh=>?_) (fun hh=>?_)
 ·have b:n<xs.length:=by simpa using hh
  refine Q4P m (by rw[f];exact b) fun a cs o p s=>?_
  obtain ⟨rfl,_⟩:=s
  have q:=o 0 _ rfl
  rw[add_zero] at q
  refine Ql q ?_
  simp only[List.getElem_map]
  refine Nh ?_
  refine Q6 (fun c=>?_) (fun c=>?_)
  ·have e:(i:Int)=xs[n]:=by simpa using c
   have:i=xs[n]:=by omega
   have j:decide (i∈xs)=true:=decide_eq_true (by rw[this];exact List.getElem_mem b)
   rw[j] at h
   refine Yb ?_
   rw[decide_eq_true (by omega:(0:Int)≤n)]
   exact h
  ·have e: ¬(i:Int)=xs[n]:=by simpa using c
   refine E5 ?_
   refine Y2 k b ⟨rfl,?_⟩
   rw[List.take_add_one,List.getElem?_eq_getElem b]
   simp only[Option.toList_some,List.mem_append,List.mem_singleton,not_or]
   exact ⟨g,fun t=>e (by rw[t])⟩
 ·have b: ¬n<xs.length:=by simpa using hh
  rw[List.take_of_length_le (by omega)] at g
  rw[decide_eq_false g] at h
  refine Yb ?_
  exact h)
theorem X1D {w0:World} {σ0 σb:Q5} {pf pt pw:Addr} {B frm:Nat} (ha:Yg l) (ho:G6 l) (hl:l.length≤100000) (b6: ∀c∈l,T0 c) (hf:0<frm) (ht:Tab σb v l) (a3:Z2 σb pf [I frm]) (bw:Z2 σb pt [v])
 (bx:Z2 σb pw [.func (.func F.v) #[] #[.pointer (some pf), .pointer (some ⟨B,0,none⟩), .pointer (some pt), .pointer (some pw)]]) (bn:w0.heap.size≤B):
 ∀(k:Nat) {i:Nat} {b:List Nat} {x:Value} {w1:World} {σ1:Q5} {K:Value→World→Prop},i<l.length→(i<frm∨B7 l (X9 l i)<k)→SLe σb σ1→Stp w0 σ0 w1 σ1→Z5 σ1 w1 B [x]→V6 w0.heap.size T.e 1 Ul σ1 w1 x (ints b)→x.ownBlock≠some B→Ak l b→
  (∀w2 σ2 x',SLe σ1 σ2→Stp w0 σ0 w2 σ2→Z5 σ2 w2 B [x']→V6 w0.heap.size T.e 1 Ul σ2 w2 x' (ints (Qk l frm b i))→x'.ownBlock≠some B→K (.tuple #[]) w2)→
  Z1 P (.func (.func F.v) #[] #[.pointer (some pf), .pointer (some ⟨B,0,none⟩), .pointer (some pt), .pointer (some pw)]) [I i] w1 K:=by
 obtain ⟨a,lv,r,m,rfl,t1,t2,t3,t4⟩:=ht.ex
 intro k
 induction k with
 | zero=>
  intro i b x w1 σ1 K hi hk O Q hm o hx ab h
  have A:i<frm:=hk.resolve_right (by omega)
  refine Y9 (Ub ?_)
  unfold P9
  refine X8 Q.sat (a3.lift O) rfl ?_
  refine Z0 ?_
  rw[decide_eq_true (by omega:(i:Int)<frm)]
  simp only[↓M2,M2,Mb,reduceIte]
  have:Qk l frm b i=b:=Xe _ _ A
  rw[this] at h
  exact h _ _ _ (SLe.refl _) Q hm o hx
 | succ k ih=>
  intro i b x w1 σ1 K hi hk O Q hm o hx ab h
  refine Y9 (Ub ?_)
  unfold P9
  refine X8 Q.sat (a3.lift O) rfl ?_
  refine Z0 ?_
  have z:=Q5Q ha ho hf b hi
  by_cases A:i<frm
  ·rw[decide_eq_true (by omega:(i:Int)<frm)]
   simp only[↓M2,M2,Mb,reduceIte]
   rw[if_pos A] at z
   rw[z] at h
   exact h _ _ _ (SLe.refl _) Q hm o hx
  rw[if_neg A] at z
  rw[decide_eq_false (by omega: ¬(i:Int)<frm)]
  simp only[↓M2,M2,Mb,reduceIte]
  refine Q9A hm rfl ?_
  refine Q5F (J9.of_acc o) ?_
  by_cases W:i∈b
  ·rw[if_pos W] at z
   rw[z] at h
   simp only[decide_eq_true W,↓M2,M2,Mb,reduceIte]
   exact h _ _ _ (SLe.refl _) Q hm o hx
  rw[if_neg W] at z
  simp only[decide_eq_false W,↓M2,M2,Mb,reduceIte]
  have dm:B7 l (X9 l i)<k+1:=hk.resolve_left A
  have t1:=t1.lift O
  have t2:=t2.lift O
  have t3:=t3.lift O
  have L:=bw.lift O
  obtain ⟨p,cs,a8,cl,b4,a5⟩:=t2.at hi
  obtain ⟨b9,fv,mv,rfl,f1,f2,f3,f4,f5⟩:=b4
  have ax:l.getD i Cla.zero=l[i]:=by rw[List.getD_eq_getElem?_getD,List.getElem?_eq_getElem hi];rfl
  have cq:=hm.lt
  refine U6 Q.sat ?_
  refine X2 (.pointer (some a)) (fun w f=>X8 f.sat L rfl (X6 rfl)) ?_
  refine X2 (.pointer (some a)) (fun t w f e=>by rw[e,E9];exact X6 rfl) ?_
  refine X2 (.pointer (some (a.add 0))) (fun t w f e=>by rw[e,fa];exact X6 rfl) ?_
  refine X2 lv (fun t w f e=>by rw[e];exact ld f.sat t1 rfl (X6 rfl)) ?_
  refine X2 (.pointer (some p)) (fun t w f e=>by rw[e];exact a5 (X6 rfl)) ?_
  refine X2 (.pointer (some (p.add 1))) (fun t w f e=>by rw[e,fa];exact X6 rfl) ?_
  refine X2 (S l[i].super) (fun t w f e=>by rw[e];exact ld f.sat a8 rfl (X6 rfl)) ?_
  refine W7 (fun u w=>X4 w σ1∧V6 w0.heap.size T.b 1 Y1 σ1 w u [l[i].super]∧ ∀k,u.ownBlock=some k→w1.heap.size≤k) (fun u w2 w3 h f=>⟨h.1.below f,h.2.1.up (Stp.of_below h.1 f),h.2.2⟩) (fun t w f e=>?_) ?_
  ·rw[e]
   refine Qb (R:=Y1) (sz:=1) (xs:=[l[i].super]) (Q.trans f.stp) [S l[i].super] rfl rfl (by simp;rfl) rfl ⟨⟨rfl,f5⟩,trivial⟩ fun u w2 a2 hu bk=>?_
   exact ⟨a2.bel,a2.sat,hu,fun k hk=>Nat.le_trans f.stp.bel.size (bk k hk)⟩
  refine X2 (.pointer (some a)) (fun w f=>X8 f.sat L rfl (X6 rfl)) ?_
  refine X2 (.pointer (some a)) (fun t w f e=>by rw[e,E9];exact X6 rfl) ?_
  refine X2 (.pointer (some (a.add 0))) (fun t w f e=>by rw[e,fa];exact X6 rfl) ?_
  refine X2 lv (fun t w f e=>by rw[e];exact ld f.sat t1 rfl (X6 rfl)) ?_
  refine X2 (.pointer (some p)) (fun t w f e=>by rw[e];exact a5 (X6 rfl)) ?_
  refine X2 (.pointer (some (p.add 2))) (fun t w f e=>by rw[e,fa];exact X6 rfl) ?_
  refine X2 b9 (fun t w f e=>by rw[e];exact ld f.sat a8 rfl (X6 rfl)) ?_
  rintro cj ck c5 da db c3 ct c1 c9 ci cr c8 dh cx cu w2 V _ _ _ _ _ _ _ ⟨dd,b8,N⟩ _ _ _ _ _ _ bs
  subst bs
  have bg:=Q.trans V.stp
  have bp:=(b6 _ (List.getElem_mem hi)).1
  have ar: ∀j,x.ownBlock=some j→j<w1.heap.size:=fun j C=>(o.mem j C).2.1
  have bu:=hm.step V.stp
  have ak:=o.step V.stp
  refine Ow bg b8 f1 rfl (by simp only[List.length_cons,List.length_nil];omega) (by simp only[List.length_cons,List.length_nil];omega) fun ba w3 a4 b1 bh a0=>?_
  have aa: ∀j,ba.ownBlock=some j→w1.heap.size≤j:=fun j C=>by
   rcases a0 with e | e
   ·exact N j (e▸C)
   ·exact Nat.le_trans V.stp.bel.size (e j C)
  have bd:=bu.nx a4 fun e=>by have:=N _ e;omega
  have J:=ak.nx a4 fun j C e=>by have:=N _ e;have:=ar j C;omega
  obtain ⟨σ4,cc,X,a9,Z⟩:=bh.keep b1
  have X:Sl 1 Y1 σ4 ba (J3 l[i]):=X
  have ca:Z5 σ4 w3 B [x]:=⟨(Z B fun e=>by have:=aa B e.symm;omega).trans bd.1,bd.2⟩
  have am:V6 w0.heap.size T.e 1 Ul σ4 w3 x (ints b):=J.grow ⟨a9⟩ fun j C=>(Z j fun e=>by have:=aa j e.symm;have:=ar j C;omega).trans (J.mem j C).2.2
  have a6:SLe σ1 σ4:=⟨a9⟩
  refine Q8 X ?_
  refine J0 (J3 l[i]).length (fun n w'=> ∃σ' x',SLe σ4 σ'∧Stp w0 σ0 w' σ'∧Z5 σ' w' B [x']∧V6 w0.heap.size T.e 1 Ul σ' w' x' (ints (((J3 l[i]).take n).foldl (fun b u=>Qk l frm b ((Y4 l u).getD 0)) b))∧x'.ownBlock≠some B∧Ak l (((J3 l[i]).take n).foldl (fun b u=>Qk l frm b ((Y4 l u).getD 0)) b))
   ⟨σ4,x,SLe.refl _,cc,ca,am,hx,ab⟩ fun n w5 d hn az=>?_
  obtain ⟨σ5,x5,ad,U,Y,E,ah,s⟩:=az
  refine Z0 ?_
  have y:=a6.more ad
  refine Q6 (fun hh=>?_) (fun hh=>?_)
  ·have M:n<(J3 l[i]).length:=by simpa using hh
   refine Js (X.lift ad) M fun q hq cz=>?_
   refine X8 U.sat hq rfl ?_
   have e1:((J3 l[i]).take (n+1)).foldl (fun b u=>Qk l frm b ((Y4 l u).getD 0)) b=Qk l frm (((J3 l[i]).take n).foldl (fun b u=>Qk l frm b ((Y4 l u).getD 0)) b) ((Y4 l (J3 l[i])[n]).getD 0):=by
    rw[List.take_add_one,List.getElem?_eq_getElem M,List.foldl_append];rfl
   refine U6 U.sat ?_
   refine X2 _ (fun w f=>X8 f.sat (bx.lift (O.more y)) rfl (X6 rfl)) ?_
   refine X2 (.pointer (some a)) (fun w f=>X8 f.sat (L.lift y) rfl (X6 rfl)) ?_
   refine X2 (.pointer (some a)) (fun t w f e=>by rw[e,E9];exact X6 rfl) ?_
   refine X2 (.pointer (some (a.add 1))) (fun t w f e=>by rw[e,fa];exact X6 rfl) ?_
   refine X2 (.map (some r)) (fun t w f e=>by rw[e];exact ld f.sat (t1.lift y) rfl (X6 rfl)) ?_
   refine X2 (I ((Y4 l (J3 l[i])[n]).getD 0:Nat)) (fun t w f e=>by
    rw[e,Q2L X7 ((t3.lift y).is f.sat) _,t4]
    cases Y4 l (J3 l[i])[n]<;>exact X6 rfl) ?_
   rintro dj df cm cy cv c2 w6 aj rfl _ _ _ _ rfl
   have c4:l.length≤9223372036854775807:=by omega
   refine ih ?_ ?_ (O.more y) (U.trans aj.stp) (Y.step aj.stp) (E.step aj.stp) ah s fun w7 σ7 x7 bz b0 bj ac b5=>?_
   ·cases C:Y4 l (J3 l[i])[n] with
    | none=>simp only[Option.getD_none];omega
    | some j=>exact (D9 C).1
   ·cases C:Y4 l (J3 l[i])[n] with
    | none=>exact .inl hf
    | some j=>
     right
     have:=Q0g ha ho hi (u:=(J3 l[i])[n]) (by rw[ax];exact List.getElem_mem M) C
     simp only[Option.getD_some];omega
   ·refine E5 ?_
    refine Y2 (by have:(J3 l[i]).length=l[i].like.length+1:=rfl;omega) M ⟨σ7,x7,ad.more bz,b0,bj,?_,b5,?_⟩
    ·rw[e1];exact ac
    ·rw[e1]
     cases C:Y4 l (J3 l[i])[n] with
     | none=>simp only[Option.getD_none];rw[show Qk l frm _ 0=_ from Xe _ _ hf];exact s
     | some j=>exact Gw ha ho hf _ _ _ (D9 C).1 s
  ·have M: ¬n<(J3 l[i]).length:=by simpa using hh
   rw[List.take_of_length_le (by omega)] at E s
   rw[ax] at z
   refine Q9A Y rfl ?_
   have dl:=s.len
   refine Jm (x:=(i:Int)) U E ⟨rfl,by omega,by omega⟩ rfl rfl rfl (by rw[List.length_map];omega) (by rw[List.length_map];omega) fun u x8 w8 σ8 aw cd H ay=>?_
   have a1:=Y.nx aw ah
   have a7:x8.ownBlock≠some B:=fun e=>by
    rcases ay with e2 | e2
    ·exact ah (e2▸e)
    ·have:=e2 B e;have:=Y.lt;omega
   have bc:x8.cells= #[x8]∧x8.oneCell'=true:=by
    obtain ⟨cells,h1,_⟩:=H
    rcases h1.2 with ⟨rfl,_⟩ | ⟨g,de,cp,rfl,_⟩<;>exact ⟨rfl,rfl⟩
   refine st0 a1 (by simp) bc.1 bc.2 fun w9 av bi=>?_
   have b2:=av.stp cd bn a1.1
   have af:V6 w0.heap.size T.e 1 Ul σ8 w9 x8 (ints (Qk l frm b i)):=by
    rw[z]
    have:=H.kp (Kpt.of_upd (D:=fun k=>k=B) av rfl) fun k hk e=>a7 (e▸hk)
    simpa [ints] using this
   exact h w9 σ8 x8 (y.more aw.le) b2 bi af a7
theorem X0P {frm:Nat} (hs:X4 w σ) (ht:Tab σ v l) (ha:Yg l) (ho:G6 l) (hl:l.length≤100000) (af: ∀c∈l,T0 c) (hf:0<frm) (ao:frm≤l.length) (h: ∀v' w' σ',Stp w σ w' σ'→Sl 1 Ul σ' v' (ints (U8 l frm))→(U8 l frm).length≤l.length→(∀y∈U8 l frm,y<l.length)→K v' w'):Q1 P F.b9 [v,I frm] w K:=Fv (by
 unfold Wh
 have ap:=ht
 obtain ⟨a,lv,r,m,rfl,X,t2,t3,t4⟩:=ht.ex
 refine J6 hs rfl fun pt w1 σ1 q ar=>?_
 refine J6 q.sat rfl fun pf w2 σ2 j aa=>?_
 refine I2 j.sat fun D w3 σ3 ac o W=>?_
 refine I2 o.sat fun Y w4 σ4 aq s U=>?_
 rw[Qm]
 have L:=W.step s
 have az:=W.lt
 have V:=((q.trans j).trans o).trans s
 have N:w.heap.size≤D:=Zc ac (q.trans j)
 have u:w.heap.size≤Y:=Zc aq ((q.trans j).trans o)
 refine st0 U (by simp[Value.cells]) rfl rfl fun w5 O al=>?_
 have Z:=O.stp V u U.1
 have B:=L.upd O (by omega)
 obtain ⟨H,R,M,p,Q⟩:=al.keep Z u
 have ai:Z5 H w5 D [.slice none 0 0]:=⟨(Q D (by omega)).trans B.1,B.2⟩
 have p:SLe σ4 H:=⟨p⟩
 have z:=((aa.up o).up s).lift p
 have A:=(((ar.up j).up o).up s).lift p
 have e:SLe σ H:=SLe.more ⟨V.le⟩ p
 have X:=X.lift e
 have t2:=t2.lift e
 refine X8 R.sat z rfl ?_
 have a8:(List.range l.length).length=l.length:=List.length_range
 have hz:([Value.nilFunc].set 0 (Value.func (Fn.func F.v) #[] #[.pointer (some pf), .pointer (some ⟨D,0,none⟩), .pointer (some pt), .pointer (some ⟨Y,0,none⟩)]))=[Value.func (Fn.func F.v) #[] #[.pointer (some pf), .pointer (some ⟨D,0,none⟩), .pointer (some pt), .pointer (some ⟨Y,0,none⟩)]]:=rfl
 refine Fj (fun d x w'=> ∃(i:Nat) (σ':Q5) (x':Value),x=I i∧frm≤i∧i≤l.length∧d=l.length-i∧SLe H σ'∧Stp w σ w' σ'∧Z5 σ' w' D [x']∧V6 w.heap.size T.e 1 Ul σ' w' x' (ints (((List.range i).drop frm).foldl (fun f i=>Qk l frm f i) []))∧x'.ownBlock≠some D∧Ak l (((List.range i).drop frm).foldl (fun f i=>Qk l frm f i) [])) _
  ⟨frm,H, .slice none 0 0,rfl,Nat.le_refl _,ao,rfl,SLe.refl _,R,ai,by rw[List.drop_eq_nil_of_le (by simp)];exact V6.nil,by simp[Value.ownBlock],by rw[List.drop_eq_nil_of_le (by simp)];exact ⟨by simp,by simp⟩⟩ ?_
 rintro an d x dd w7 ⟨i,σ7,x7,rfl,a7,a9,rfl,g,k,J,n,ae,b⟩ ad
 refine X8 k.sat (A.lift g) rfl ?_
 rw[E9,fa]
 refine ld k.sat (X.lift g) rfl ?_
 refine Q8 (t2.lift g) ?_
 refine Z0 ?_
 refine Q6 (fun hh=>?_) (fun hh=>?_)
 ·have t:i<l.length:=by simpa using hh
  refine X8 k.sat (M.lift g) rfl ?_
  refine X1D (w0:=w) (σ0:=σ) (σb:=H) ha ho hl af hf (ap.lift e) z A M N (B7 l (X9 l i)+1) t (.inr (Nat.lt_succ_self _)) g k J n ae b fun w8 σ8 x8 ab E am C ak=>?_
  refine Cf ⟨by omega,by omega⟩ ?_
  have e1:((List.range (i+1)).drop frm).foldl (fun f i=>Qk l frm f i) []=Qk l frm (((List.range i).drop frm).foldl (fun f i=>Qk l frm f i) []) i:=by
   rw[List.range_succ,List.drop_append_of_le_length (by simp;omega),List.foldl_append];rfl
  refine ad _ _ _ (by omega:l.length-(i+1)<l.length-i) ⟨i+1,σ8,x8,by simp,by omega,by omega,rfl,g.more ab,E,am,?_,ak,?_⟩
  ·rw[e1];exact C
  ·rw[e1];exact Gw ha ho hf _ _ _ t b
 ·have t:i=l.length:=by
   have: ¬i<l.length:=by simpa using hh
   omega
  subst t
  refine Q9A J rfl ?_
  obtain ⟨σ8,E,ag,_,_⟩:=n.keep k
  exact h _ _ _ E ag b.len b.2)
end Go.Proofs.YtfppjenblllfaaaGreatDoor

namespace Go.Hm
open Go.Kd
theorem Q5D (x:Q9) (r:List Q9):N5 (x::r)=x++Lib.joinTail [44] r:=by
 induction r generalizing x with
 | nil=>simp[N5,Lib.joinTail]
 | cons y r a=>
  simp only[N5]
  rw[a y]
  simp[Lib.joinTail]
theorem Q0y (xs:List Q9):Lib.join xs [44]=N5 xs:=by
 cases xs with
 | nil=>rfl
 | cons x r=>rw[Lib.join_cons,Q5D]
theorem Dh: ∀xs:List Q9,(∀x∈xs,x.length≤100)→(N5 xs).length≤xs.length*101
 | [],_=>by simp[N5]
 | [a],h=>by have:=h a (by simp);simp[N5];omega
 | a::b::r,h=>by
  have e:=h a (by simp)
  have d:=Dh (b::r) fun x c=>h x (by simp[c])
  simp only[N5,List.length_append,List.length_cons,List.length_nil,Nat.add_mul] at*
  omega
def NmM (m:Hm.Met):Prop:=m.result.length≤100∧ ∀p∈m.params,p.length≤100
end Go.Hm
namespace Go.Proofs.YtfppjenblllfaaaGreatDoor
open Go.Emb Go.RowKit Go.Kd Go.Hm
variable {w : World} {K : Value → World → Prop} {σ : Q5} {v : Value} {l : List Cla}
theorem X0j {xs:List Q9} {pv:Value} (L:X4 w σ) (H:Sl 1 Y1 σ pv xs) (E:xs.length≤1000000) (C: ∀x∈xs,x.length≤100) (h: ∀w',Below w.heap.size w w'→K (S (N5 xs)) w'):Q1 P F.cK [pv,S [44]] w K:=by
 obtain ⟨a,k,rfl,A,R,N,D⟩:=H
 have q:=Dh xs C
 have u:xs.length*101≤1000000*101:=Nat.mul_le_mul_right _ E
 cases a with
 | none=>
  have Q:=N rfl
  have d:xs=[]:=List.eq_nil_of_length_eq_zero (by omega)
  subst d
  refine Uo (fn:=Tryz.f165) Tryz.func165 (by kernel_rfl) (by kernel_rfl) (Calls.mono (Tryz.strings_Join_none none k ⟨[44].toArray⟩ w) ?_)
  rintro e w' ⟨rfl,rfl⟩
  exact h _ (Below.refl _ _)
 | some b=>
  obtain ⟨f,p⟩:=D b rfl
  by_cases d:xs=[]
  ·subst d
   refine Uo (fn:=Tryz.f165) Tryz.func165 (by kernel_rfl) (by kernel_rfl) (Calls.mono (Tryz.strings_Join_none (some b) k ⟨[44].toArray⟩ w) ?_)
   rintro e w' ⟨rfl,rfl⟩
   exact h _ (Below.refl _ _)
  have f:=f (List.length_pos_iff.2 d)
  obtain ⟨m,o,U⟩:=b
  simp only at f
  subst f
  have c: ∀(j:Nat) (x:ByteArray),(xs.map fun s=>(⟨s.toArray⟩:ByteArray))[j]? =some x→w.cell? ⟨m,o+j,none⟩=some (.string x):=by
   intro j x n
   rw[List.getElem?_map] at n
   cases g:xs[j]? with
   | none=>rw[g] at n;cases n
   | some s=>
    rw[g] at n
    cases n
    obtain ⟨cs,M,O,J⟩:=p j s g
    obtain ⟨rfl,_⟩:=J
    have:=M.cell L (i:=0) (v:=S s) rfl
    rw[add_zero] at this
    have e:(⟨m,o,none⟩:Addr).add (j*1)=⟨m,o+j,none⟩:=by unfold Addr.add;split<;>simp_all
    rw[e] at this;exact this
  have t:m<w.heap.size:=by
   obtain ⟨x,r,rfl⟩: ∃x r,xs=x::r:=by cases xs with | nil=>exact absurd rfl d | cons x r=>exact ⟨x,r,rfl⟩
   have:=c 0 ⟨x.toArray⟩ (by simp)
   exact World.block_lt_of_cell? _ _ this
  have y:(xs.map fun s=>(⟨s.toArray⟩:ByteArray)).map (·.data.toList)=xs:=by rw[List.map_map];simp[Function.comp_def]
  have z:=Tryz.strings_Join m o k (xs.map fun s=>(⟨s.toArray⟩:ByteArray)) ⟨[44].toArray⟩ w c t (by rw[List.length_map];omega) (by rw[List.length_map];exact A) (by rw[y];show (Lib.join xs [44]).length≤_;rw[Q0y];omega)
  rw[y,List.length_map] at z
  refine Uo (fn:=Tryz.f165) Tryz.func165 (by kernel_rfl) (by kernel_rfl) (Calls.mono z ?_)
  rintro e w' ⟨rfl,B⟩
  have:=h w' B
  rw[←Q0y] at this
  exact this
theorem Q83 {m:Hm.Met} {cs:List Value} (o:X4 w σ) (q:M5 σ m cs) (d:SmM m) (g:NmM m) (h: ∀w' p,Stp w σ w' p→K (S (P6 m)) w'):Q1 P F.bS [.agg cs.toArray] w K:=Q4I (by
 obtain ⟨pv,L,D,rfl,r,y,E,M,A,H⟩:=q
 unfold Aw
 refine Y8 o fun a w1 σ1 c k=>?_
 have n:=Dh m.params g.2
 have j:m.params.length*101≤1000000*101:=Nat.mul_le_mul_right _ d.1
 refine U6 c.sat ?_
 refine X2 (.pointer (some (a.add 1))) (fun w b=>by rw[fa];exact X6 rfl) ?_
 refine X2 (.pointer (some (a.add 2))) (fun w b=>by rw[fa];exact X6 rfl) ?_
 refine X2 pv (fun t w b e=>by rw[e];exact ld b.sat k rfl (X6 rfl)) ?_
 refine X2 (S (N5 m.params)) (fun t w b e=>by rw[e];exact X0j b.sat (r.up c) d.1 g.2 fun w' f=>Q1I f rfl) ?_
 refine X2 (S ([40]++N5 m.params)) (fun t w b e=>by rw[e];exact Hw (by simp only[List.length_cons,List.length_nil];omega) (X6 rfl)) ?_
 refine X2 (S ([40]++N5 m.params++[41])) (fun t w b e=>by rw[e];exact Hw (by simp only[List.length_append,List.length_cons,List.length_nil];omega) (X6 rfl)) ?_
 refine X2 (S m.result) (fun t w b e=>by rw[e];exact ld b.sat k rfl (X6 rfl)) ?_
 rintro B s C J N u z O i _ _ _ _ _ rfl rfl
 have:=g.1
 refine Hw (by simp only[List.length_append,List.length_cons,List.length_nil];omega) ?_
 exact h _ _ (c.trans i.stp))
end Go.Proofs.YtfppjenblllfaaaGreatDoor

namespace Go.Emb
open Go.RowKit Go.Hm
variable {P : Program} {w w0 w1 w' w'' : World} {K : Value → World → Prop} {σ σ0 σ1 σ' : Q5}
theorem Be {α:Type} (f:α→α) (e:α): ∀l:List α,(l++[e]).modify l.length f=l++[f e]
 | []=>rfl
 | x::r=>by simp[Be f e r]
theorem Ar (k:List UInt8) (e:MapEntry) (a:e.key=S k): ∀(es:List MapEntry) (i:Nat),Instr.findNow .string (S k) es i=some none→Instr.findNow .string (S k) (es++[e]) i=some (some (i+es.length,e.val))
 | [],i,_=>by
  simp[Instr.findNow,a,Instr.sameNow,Ri]
 | x::r,i,h=>by
  simp only[Instr.findNow,List.cons_append] at h⊢
  split at h
  ·cases h
  ·rename_i b
   rw[Ar k e a r (i+1) h]
   simp;omega
  ·cases h
theorem Q0x (k:List UInt8) (u:Value): ∀(es:List MapEntry) (i j:Nat) (v:Value),Instr.findNow .string (S k) es i=some (some (j,v))→i≤j∧j-i<es.length∧Instr.findNow .string (S k) (es.modify (j-i) fun e=>{e with val:=u}) i=some (some (j,u))
 | [],i,j,v,h=>by simp[Instr.findNow] at h
 | x::r,i,j,v,h=>by
  simp only[Instr.findNow] at h
  split at h
  ·rename_i a
   cases h
   refine ⟨Nat.le_refl _,by simp,?_⟩
   simp only[Nat.sub_self,List.modify_zero_cons,Instr.findNow,a]
  ·rename_i a
   obtain ⟨d,c,b⟩:=Q0x k u r (i+1) j v h
   refine ⟨by omega,by simp;omega,?_⟩
   rw[show j-i=(j-(i+1))+1 by omega]
   simp only[List.modify_succ_cons,Instr.findNow,a]
   exact b
  ·cases h
theorem Ji {t m s:TypeId} [tm:TM P t m s] (n:P.underlying m=some .string) {r:Nat} {es:Array MapEntry} {a:Nat} {k:List UInt8} {i:Nat} {v:Value} {e:MapEntry} (o:w.heap[r]? =some (.map es a))
 (q:Instr.findNow .string (S k) es.toList 0=some (some (i,v))) (l:es[i]? =some e) (f:e.key=S k):
 (Instr.mapEntry t (.map (some r)) (S k)).run P w= .ok (.tuple #[v,goInt e.born]) {w with heap:=w.heap.setIfInBounds r (.map es a)}:=by
 have p:(getObj r).run P w= .ok (.map es a) w:=by simp[getObj,Sem.run,o]
 have b:(Instr.keyThatStays (S k) (S k)).run P w= .ok (S k) w:=by
  simp[Instr.keyThatStays,Instr.sameBits,Ri]
 have c:(es.modify i fun e=>{e with key:=S k})=es:=by
  apply Array.ext'
  apply List.ext_getElem?
  intro j
  simp only[Array.toList_modify,List.getElem?_modify]
  by_cases g:i=j
  ·subst g
   rw[Array.getElem?_toList,l]
   simp[←f]
  ·cases es.toList[j]? <;>simp[g]
 have d:(setObj r (.map es a)).run P w= .ok () {w with heap:=w.heap.setIfInBounds r (.map es a)}:=by
  simp[setObj,Sem.run,o]
 simp only[Instr.mapEntry,Sem.run_bind,run_underlying tm.h,Result.andThen_ok,Instr.findKey,run_underlying n,q,B1 n,p,Sem.run_pure]
 simp only[l,Option.map_some,Option.getD_some,f,b,Result.andThen_ok,c,d]
theorem Q11 {r:Nat} {o:Obj} (h:w.heap[r]? =some o):({w with heap:=w.heap.setIfInBounds r o}:World)=w:=by
 have:w.heap.setIfInBounds r o=w.heap:=by
  apply Array.ext'
  apply List.ext_getElem?
  intro j
  simp only[Array.toList_setIfInBounds,List.getElem?_set]
  by_cases a:r=j
  ·subst a
   rw[if_pos rfl]
   have:=h
   rw[←Array.getElem?_toList] at this
   rw[this,if_pos (by have:=(Array.getElem?_eq_some_iff.1 h).1;simpa using this)]
  ·rw[if_neg a]
 rw[this]
theorem Q2x {r:Nat} {o b:Obj} (h:w.heap[r]? =some b):Upd w r {w with heap:=w.heap.setIfInBounds r o}∧({w with heap:=w.heap.setIfInBounds r o}:World).heap[r]? =some o:=by
 have a:=(Array.getElem?_eq_some_iff.1 h).1
 exact ⟨⟨rfl,rfl,rfl,by simp,fun k c=>by simp only[Array.getElem?_setIfInBounds];rw[if_neg (by omega)]⟩,by simp[Array.getElem?_setIfInBounds,a]⟩
structure Ent3 (P : Program) (t : TypeId) (r : Nat) (k : List UInt8) (u : Value) (m : List (List UInt8 × Value)) (O0 O1 O2 : Obj) (stamp : Nat) : Prop where
  same : O0 = O2 → O1 = O0
  put : N1 (some O2) (Qz m k u)
  entry : ∀ {w : World} {K : Value → World → Prop}, (w.heap[r]? = some O0 ∨ w.heap[r]? = some O1 ∨ w.heap[r]? = some O2) → (∀ x w', Upd w r w' → (w.heap[r]? = some O0 → w'.heap[r]? = some O1) → (w.heap[r]? ≠ some O0 → w'.heap[r]? = w.heap[r]?) → K (.tuple #[x, I stamp]) w') → mapEntry P t (.map (some r)) (S k) w K
  store : ∀ {w : World} {K : Value → World → Prop}, (w.heap[r]? = some O1 ∨ w.heap[r]? = some O2) → (∀ w', Upd w r w' → w'.heap[r]? = some O2 → K undef w') → entryStore P t (.map (some r)) (I stamp) u w K
theorem X2l {t kt et:TypeId} {by_:Nat} {z:Value} [tm:TM P t kt et] [tz:TZ P et 1 by_ z] (W:P.underlying kt=some .string) {r:Nat} {m:List (List UInt8×Value)} (hm:N1 (w.heap[r]?) m) (k:List UInt8) (u:Value):
 ∃V O1 O2 s,w.heap[r]? =some V∧Ent3 P t r k u m V O1 O2 s:=by
 obtain ⟨es,g,h1,h2,Y,h4⟩:=hm
 obtain ⟨r',q1,q2,q3,q4⟩:=Rp k es.toList m 0 h2
 -- the array behind it, the place, the stamp
 have R: ∀(f:Array MapEntry) (d i:Nat) (q:MapEntry) (v1:Value),Instr.findNow .string (S k) f.toList 0=some (some (i,v1))→f[i]? =some q→q.key=S k→(f.toList.map (·.born)).Pairwise (· < ·)→
  (Obj.map es g= .map (f.modify i fun e=>{e with val:=u}) d→Obj.map f d=Obj.map es g)→N1 (some (.map (f.modify i fun e=>{e with val:=u}) d)) (Qz m k u)→
  (∀{w:World},w.heap[r]? =some (.map es g)→ ∃x,(Instr.mapEntry t (.map (some r)) (S k)).run P w= .ok (.tuple #[x,I q.born]) {w with heap:=w.heap.setIfInBounds r (.map f d)})→
  ∃V O1 O2 s,w.heap[r]? =some V∧Ent3 P t r k u m V O1 O2 s:=by
  intro f d i q v1 f1 f2 f3 f4 f5 f6 f7
  obtain ⟨_,H,f8⟩:=Q0x k u f.toList 0 i v1 f1
  simp only[Nat.sub_zero] at H f8
  have az:i<f.size:=by simpa using H
  have f9:(f.modify i fun e=>{e with val:=u})[i]? =some {q with val:=u}:=by
   rw[Array.getElem?_modify,if_pos rfl,f2];rfl
  have ai:Instr.findNow .string (S k) (f.modify i fun e=>{e with val:=u}).toList 0=some (some (i,u)):=by
   rw[Array.toList_modify];exact f8
  have L: ∀(l:Array MapEntry),l.toList.map (·.born)=f.toList.map (·.born)→l.findIdx? (fun e=>(e.born:Int)==q.born)=some i:=by
   intro l C
   obtain ⟨X⟩:=l
   have e0:(Array.mk X).findIdx? (fun e=>(e.born:Int)==q.born)=X.findIdx? (fun e=>(e.born:Int)==q.born):=List.findIdx?_toArray ..
   rw[e0,List.findIdx?_eq_some_iff_getElem]
   generalize O:(Array.mk X)=l at*
   have ap:X=l.toList:=by rw[←O]
   subst ap
   have ax:l.toList.length=f.toList.length:=by have:=congrArg List.length C;simpa using this
   have Q: ∀j (hj:j<l.toList.length),(l.toList[j]).born=(f.toList[j]'(by omega)).born:=fun j hj=>by
    have h5:(l.toList.map (·.born))[j]? =(f.toList.map (·.born))[j]? :=by rw[C]
    rw[List.getElem?_map,List.getElem?_map,List.getElem?_eq_getElem hj,List.getElem?_eq_getElem (by omega)] at h5
    simpa using h5
   have N:f.toList[i]=q:=by
    have:=f2
    rw[←Array.getElem?_toList,List.getElem?_eq_getElem H] at this
    simpa using this
   refine ⟨by omega,by rw[Q i (by omega),N];simp,fun j hj=>?_⟩
   have ag:j<f.toList.length:=by omega
   have:=(List.pairwise_iff_getElem.1 f4) j i (by simpa using ag) (by simpa using H) hj
   simp only[List.getElem_map] at this
   rw[Q j (by omega)]
   rw[N] at this
   simp only[beq_iff_eq];omega
  have E:(f.modify i fun e=>{e with val:=u}).toList.map (·.born)=f.toList.map (·.born):=by
   apply List.ext_getElem?
   intro j
   simp only[Array.toList_modify,List.getElem?_map,List.getElem?_modify]
   by_cases J:i=j<;>cases f.toList[j]? <;>simp[J]
  have ak:(f.modify i fun e=>{e with val:=u}).modify i (fun e=>{e with val:=u})=f.modify i fun e=>{e with val:=u}:=by
   apply Array.ext'
   apply List.ext_getElem?
   intro j
   simp only[Array.toList_modify,List.getElem?_modify]
   by_cases J:i=j<;>cases f.toList[j]? <;>simp[J]
  have A: ∀(l:Array MapEntry) {w:World},l.toList.map (·.born)=f.toList.map (·.born)→w.heap[r]? =some (.map l d)→(Instr.entryStore t (.map (some r)) (I q.born) u).run P w= .ok () {w with heap:=w.heap.setIfInBounds r (.map (l.modify i fun e=>{e with val:=u}) d)}:=by
   intro l w C hw
   have hg:(getObj r).run P w= .ok (.map l d) w:=by simp[getObj,Sem.run,hw]
   have D: ∀o,(setObj r (.map o d)).run P w= .ok () {w with heap:=w.heap.setIfInBounds r (.map o d)}:=by
    intro o;simp[setObj,Sem.run,hw]
   simp only[Instr.entryStore,Sem.run_bind,hg,Result.andThen_ok,asInt,Sem.run_pure,asIntOf,L l C,D]
  refine ⟨.map es g, .map f d, .map (f.modify i fun e=>{e with val:=u}) d,q.born,h1,f5,f6,?_,?_⟩
  ·intro w K hw M
   unfold mapEntry
   rcases hw with hw | hw | hw
   ·obtain ⟨x,hx⟩:=f7 hw
    rw[Y0 hx]
    obtain ⟨u1,u2⟩:=Q2x (o:= .map f d) hw
    exact M x _ u1 (fun _=>u2) fun h=>absurd hw h
   ·have:=Ji (P:=P) (t:=t) W hw f1 f2 f3
    rw[Q11 hw] at this
    rw[Y0 this]
    refine M _ w ⟨rfl,rfl,rfl,rfl,fun _ _=>rfl⟩ (fun h0=>?_) fun _=>rfl
    exact hw
   ·have:=Ji (P:=P) (t:=t) W hw ai f9 f3
    rw[Q11 hw] at this
    rw[Y0 this]
    refine M _ w ⟨rfl,rfl,rfl,rfl,fun _ _=>rfl⟩ (fun h0=>?_) fun _=>rfl
    rw[h0] at hw
    cases hw
    rw[h0,f5 rfl]
  ·intro w K hw M
   unfold entryStore
   rcases hw with hw | hw
   ·rw[Mv (A f rfl hw)]
    obtain ⟨u1,u2⟩:=Q2x (o:= .map (f.modify i fun e=>{e with val:=u}) d) hw
    exact M _ u1 u2
   ·have:=A _ E hw
    rw[ak,Q11 hw] at this
    rw[Mv this]
    exact M _ ⟨rfl,rfl,rfl,rfl,fun _ _=>rfl⟩ hw
 cases r' with
 | none=>
  obtain ⟨i,hi,a6,a9,am⟩:=tz.info
  have hz: ∀w:World,(zeroValue et).run P w= .ok z w:=fun w=>Xv tz w
  refine R (es.push {key:=S k,val:=z,born:=g}) (g+1) es.size {key:=S k,val:=z,born:=g} z ?_ (by simp) rfl ?_ ?_ ?_ ?_
  ·have:=Ar k {key:=S k,val:=z,born:=g} rfl es.toList 0 q1
   simpa using this
  ·simp only[Array.toList_push,List.map_append,List.map_cons,List.map_nil]
   rw[List.pairwise_append]
   refine ⟨Y,by simp,?_⟩
   intro a ha b C
   simp at C;subst C
   obtain ⟨e,he,rfl⟩:=List.mem_map.1 ha
   exact h4 e he
  ·intro e
   injection e with q Z
   omega
  ·refine ⟨_,_,rfl,?_,?_,?_⟩
   ·rw[q4 rfl]
    simp only[Array.toList_modify,Array.toList_push]
    rw[←Array.length_toList,Be]
    simp[h2]
   ·have:((es.push {key:=S k,val:=z,born:=g}).modify es.size fun e=>{e with val:=u}).toList.map (·.born)=es.toList.map (·.born)++[g]:=by
     simp only[Array.toList_modify,Array.toList_push]
     rw[←Array.length_toList,Be]
     simp
    rw[this,List.pairwise_append]
    refine ⟨Y,by simp,?_⟩
    intro a ha b C
    simp at C;subst C
    obtain ⟨e,he,rfl⟩:=List.mem_map.1 ha
    exact h4 e he
   ·intro e he
    simp only[Array.toList_modify,Array.toList_push] at he
    rw[←Array.length_toList,Be] at he
    rcases List.mem_append.1 he with he | he
    ·have:=h4 e he;omega
    ·simp at he;subst he;simp
  ·intro w hw
   have hg:(getObj r).run P w= .ok (.map es g) w:=by simp[getObj,Sem.run,hw]
   have D: ∀o c,(setObj r (.map o c)).run P w= .ok () {w with heap:=w.heap.setIfInBounds r (.map o c)}:=by
    intro o c;simp[setObj,Sem.run,hw]
   refine ⟨z,?_⟩
   simp only[Instr.mapEntry,Sem.run_bind,run_underlying tm.h,Result.andThen_ok,Instr.findKey,run_underlying W,q1,B1 W,hg,Sem.run_pure,hz,D]
   rfl
 | some p=>
  obtain ⟨j,v⟩:=p
  obtain ⟨z1,z2,z3⟩:=q3 j v rfl
  obtain ⟨e,q,Z⟩:=z2
  simp only[Nat.sub_zero] at q z3
  have U:es[j]? =some e:=by rw[←Array.getElem?_toList];exact q
  refine R es g j e v q1 U Z Y (fun _=>rfl) ?_ fun hw=>⟨v,Ji W hw q1 U Z⟩
  refine ⟨_,_,rfl,?_,?_,?_⟩
  ·have:=z3 u
   rw[←this,Array.toList_modify]
   congr 1
   apply List.ext_getElem?
   intro n
   simp only[List.getElem?_modify]
   by_cases B:j=n
   ·subst B;rw[q];simp[Z]
   ·simp[B]
  ·have:(es.modify j fun e=>{e with val:=u}).toList.map (·.born)=es.toList.map (·.born):=by
    apply List.ext_getElem?
    intro n
    simp only[Array.toList_modify,List.getElem?_map,List.getElem?_modify]
    by_cases B:j=n<;>cases es.toList[n]? <;>simp[B]
   rw[this];exact Y
  ·intro x hx
   have:x.born∈(es.modify j fun e=>{e with val:=u}).toList.map (·.born):=List.mem_map.2 ⟨x,hx,rfl⟩
   have C:(es.modify j fun e=>{e with val:=u}).toList.map (·.born)=es.toList.map (·.born):=by
    apply List.ext_getElem?
    intro n
    simp only[Array.toList_modify,List.getElem?_map,List.getElem?_modify]
    by_cases B:j=n<;>cases es.toList[n]? <;>simp[B]
   rw[C] at this
   obtain ⟨y,hy,e⟩:=List.mem_map.1 this
   rw[←e];exact h4 y hy
end Go.Emb

namespace Go.Hm
open Go.Kd Go.Emb
abbrev H7:=List (Q9×Q9)
def H1:H7→Q9→Option Q9
 | [],_=>none
 | p::r,k=>if p.1=k then some p.2 else H1 r k
def Ea:H7→Q9→Q9→H7
 | [],k,v=>[(k,v)]
 | p::r,k,v=>if p.1=k then (k,v)::r else p::Ea r k v
def F9 (m:H7):List (List UInt8×Value):=m.map fun p=>(p.1,S p.2)
theorem Q8a (m:H7) (k:Q9):M0 (F9 m) k=(H1 m k).map S:=by
 induction m with
 | nil=>rfl
 | cons p r a=>
  simp only[F9,List.map_cons,M0,H1]
  split
  ·rfl
  ·exact a
theorem Q3Q (m:H7) (k v:Q9):Qz (F9 m) k (S v)=F9 (Ea m k v):=by
 induction m with
 | nil=>rfl
 | cons p r a=>
  simp only[F9,List.map_cons,Qz,Ea]
  split
  ·rfl
  ·rw[List.map_cons];congr 1
theorem Tf (m:H7) (k v n:Q9):H1 (Ea m k v) n=if k=n then some v else H1 m n:=by
 induction m with
 | nil=>simp[Ea,H1]
 | cons p r b=>
  simp only[Ea]
  by_cases h:p.1=k
  ·rw[if_pos h]
   simp only[H1]
   by_cases a:k=n
   ·simp[a]
   ·rw[if_neg a,if_neg a,if_neg (by rw[h];exact a)]
  ·rw[if_neg h]
   simp only[H1]
   by_cases a:p.1=n
   ·rw[if_pos a,if_pos a,if_neg (by intro e;exact h (a.trans e.symm))]
   ·rw[if_neg a,if_neg a];exact b
def Jl (d:Q9) (s:H7×H7) (m:Hm.Met):Bool×(H7×H7):=
 ((match H1 s.1 m.name with | some x=> !decide (x=P6 m) | none=>false),(Ea s.1 m.name (P6 m),Ea s.2 m.name d))
end Go.Hm
namespace Go.Emb
open Go.RowKit Go.Hm
theorem N1.of_below {w w':World} {r:Nat} {m:List (List UInt8×Value)} (h:N1 (w.heap[r]?) m) (c:Below w.heap.size w w'):N1 (w'.heap[r]?) m:=by
 obtain ⟨es,a,b,d⟩:=h
 rw[c.block r (Array.getElem?_eq_some_iff.1 b).1]
 exact ⟨es,a,b,d⟩
theorem Q4A {P:Program} {w:World} {K:Value→World→Prop} {t b a:TypeId} {sz by_:Nat} {z:Value} [tm:TM P t b a] [tz:TZ P a sz by_ z] (c:P.underlying b=some .string) {r:Nat} {m:List (List UInt8×Value)} (d:N1 (w.heap[r]?) m) (k:List UInt8)
 (h:K (.tuple #[(M0 m k).getD z, .bool (M0 m k).isSome]) w):lookup P t (.map (some r)) (S k) true w K:=by
 rw[Q1f c d k];cases e:M0 m k<;>rw[e] at h<;>exact h
theorem N1.lt {w:World} {r:Nat} {m:List (List UInt8×Value)} (h:N1 (w.heap[r]?) m):r<w.heap.size:=by
 obtain ⟨es,a,b,c⟩:=h
 exact (Array.getElem?_eq_some_iff.1 b).1
end Go.Emb
namespace Go.Proofs.YtfppjenblllfaaaGreatDoor
open Go.Emb Go.RowKit Go.Kd Go.Hm
variable {w : World} {K : Value → World → Prop} {σ : Q5} {v : Value} {l : List Cla}
theorem X1Y {m:Hm.Met} {cs ds:List Value} {pa pb q:Addr} {b o:Nat} {s:H7×H7} {d:Q9} (hs:X4 w σ) (hm:M5 σ m cs) (W:SmM m) (hn:NmM m) (aa:Z2 σ pa [.map (some b)]) (ax:Z2 σ pb [.map (some o)]) (hq:Z2 σ q (S d::ds))
 (ag:σ b=none) (ay:σ o=none) (R:b≠o) (p:N1 (w.heap[b]?) (F9 s.1)) (y:N1 (w.heap[o]?) (F9 s.2))
 (h: ∀w',Kpt (fun k=>k=b∨k=o) w w'→N1 (w'.heap[b]?) (F9 (Jl d s m).2.1)→N1 (w'.heap[o]?) (F9 (Jl d s m).2.2)→K (.bool (Jl d s m).1) w'):
 Q1 P F.aC [.agg cs.toArray, .pointer (some pa), .pointer (some q), .pointer (some pb)] w K:=Oj (by
 have ac:=hm
 obtain ⟨pv,cv,hv,rfl,g1,g2,g3,g4,g5,g6⟩:=hm
 unfold Xl
 refine Y8 hs fun a w1 σ1 f Z=>?_
 have ak:=p.lt
 have an:=y.lt
 have p:=p.of_below f.bel
 have y:=y.of_below f.bel
 have Y:σ1 b=none:=(f.old b ak).trans ag
 have H:σ1 o=none:=(f.old o an).trans ay
 refine X8 f.sat (aa.up f) rfl ?_
 rw[fa]
 refine ld f.sat Z rfl ?_
 refine Q4A X7 p m.name ?_
 have ap:(.tuple #[(M0 (F9 s.1) m.name).getD (.string ⟨#[]⟩), .bool (M0 (F9 s.1) m.name).isSome]:Value)= .tuple #[S ((H1 s.1 m.name).getD []), .bool (H1 s.1 m.name).isSome]:=by
  rw[Q8a];cases H1 s.1 m.name<;>rfl
 rw[ap]
 refine U5 (vs:=[_,_]) rfl ?_
 refine U5 (vs:=[_,_]) rfl ?_
 obtain ⟨O,L,r,A,al,E⟩:=X2l (P:=P) (t:=T.q) X7 p m.name (S (P6 m))
 have V:=p.lt
 refine Q0c (fun c i=>Kpt (fun k=>k=b) c i∧(i.heap[b]? =c.heap[b]? ∨(c.heap[b]? =some O∧O≠r∧i.heap[b]? =some L)∨i.heap[b]? =some r))
  (fun c=>Kpt (fun k=>k=b) w1 c∧X4 c σ1∧(c.heap[b]? =some O∨c.heap[b]? =some L∨c.heap[b]? =some r))
  ⟨.of_below (Below.refl _ _).drew,f.sat.below (Below.refl _ _).drew, .inl al⟩ (fun c i g B=>⟨g.1.trans B.1,B.1.sat g.2.1 (fun k hk=>hk▸Y),by
   rcases B.2 with e | ⟨_,_,e⟩ | e
   ·rw[e];exact g.2.2
   ·exact .inr (.inl e)
   ·exact .inr (.inr e)⟩) ?_
 refine X2 (.pointer (some (a.add 0))) (fun w g=>by rw[fa];exact ⟨⟨Kpt.refl, .inl rfl⟩,rfl⟩) ?_
 refine X2 (.pointer (some (a.add 0))) (fun w g=>by rw[fa];exact ⟨⟨Kpt.refl, .inl rfl⟩,rfl⟩) ?_
 refine X2 (.pointer (some (q.add 0))) (fun w g=>by rw[fa];exact ⟨⟨Kpt.refl, .inl rfl⟩,rfl⟩) ?_
 refine X2 (.map (some b)) (fun w g=>X8 g.2.1 (aa.up f) rfl ⟨⟨Kpt.refl, .inl rfl⟩,rfl⟩) ?_
 refine X2 (S m.name) (fun t w g e=>by rw[e];exact ld g.2.1 Z rfl ⟨⟨Kpt.refl, .inl rfl⟩,rfl⟩) ?_
 refine X2 (.map (some o)) (fun w g=>X8 g.2.1 (ax.up f) rfl ⟨⟨Kpt.refl, .inl rfl⟩,rfl⟩) ?_
 refine X2 (S m.name) (fun t w g e=>by rw[e];exact ld g.2.1 Z rfl ⟨⟨Kpt.refl, .inl rfl⟩,rfl⟩) ?_
 refine X2 (.agg [S m.name,pv,S m.result, .bool m.abs,I m.locals,cv,hv].toArray) (fun w g=>Y7 g.2.1 Z rfl ⟨⟨Kpt.refl, .inl rfl⟩,rfl⟩) ?_
 refine X2 (S (P6 m)) (fun t c g e=>by
  rw[e]
  exact Q83 g.2.1 (RMe_lift ac ⟨f.le⟩) W hn fun i σ3 z=>⟨⟨.of_below z.bel, .inl (z.bel.block b (Nat.lt_of_lt_of_le V g.1.size))⟩,rfl⟩) ?_
 refine X2 (S d) (fun t w g e=>by rw[e];exact ld g.2.1 (hq.up f) rfl ⟨⟨Kpt.refl, .inl rfl⟩,rfl⟩) ?_
 have st: ∀{c i:World},(c.heap[b]? =some L∨c.heap[b]? =some r)→(i.heap[b]? =c.heap[b]? ∨(c.heap[b]? =some O∧O≠r∧i.heap[b]? =some L)∨i.heap[b]? =some r)→(i.heap[b]? =some L∨i.heap[b]? =some r):=by
  intro c i j h2
  rcases h2 with e | ⟨_,_,e⟩ | e
  ·rw[e];exact j
  ·exact .inl e
  ·exact .inr e
 refine W7 (fun u c=>(∃x,u= .tuple #[x,I A])∧(c.heap[b]? =some L∨c.heap[b]? =some r)) (fun u c i j B=>⟨j.1,st j.2 B.2⟩) (fun U ai c g e1 e2=>?_) ?_
 ·rw[e1,e2]
  refine E.entry g.2.2 fun x i n av aj=>?_
  by_cases Q:c.heap[b]? =some O
  ·have j:=av Q
   refine ⟨⟨Kpt.of_upd n rfl,?_⟩,⟨x,rfl⟩, .inl j⟩
   by_cases C:O=r
   ·left;rw[j,Q,E.same C]
   ·exact .inr (.inl ⟨Q,C,j⟩)
  ·have j:=aj Q
   refine ⟨⟨Kpt.of_upd n rfl, .inl j⟩,⟨x,rfl⟩,?_⟩
   rw[j];exact g.2.2.resolve_left Q
 refine W7 (fun u c=>u=I A∧(c.heap[b]? =some L∨c.heap[b]? =some r)) (fun u c i j B=>⟨j.1,st j.2 B.2⟩) (fun t c g e=>?_) ?_
 ·obtain ⟨⟨x,rfl⟩,j⟩:=e
  exact U5 (vs:=[_,_]) rfl ⟨⟨Kpt.refl, .inl rfl⟩,rfl,j⟩
 refine W7 (fun _ c=>c.heap[b]? =some r) (fun u c i j B=>?_) (fun U ae ah c g e1 e2 e3=>?_) ?_
 ·rcases B.2 with e | ⟨e,C,_⟩ | e
  ·exact e.trans j
  ·rw[j] at e;cases e;exact absurd rfl C
  ·exact e
 ·rw[e1,e3,e2.1]
  refine E.store e2.2 fun i n h3=>⟨⟨Kpt.of_upd n rfl, .inr (.inr h3)⟩,h3⟩
 rintro a5 bc bh U ai a8 bg bd ah a7 a9 ae bj c N _ _ _ _ _ rfl rfl _ _ rfl _ _ aq
 have am:N1 (c.heap[b]?) (F9 (Ea s.1 m.name (P6 m))):=by
  rw[aq,←Q3Q];exact E.put
 have ao:N1 (c.heap[o]?) (F9 s.2):=by
  rw[N.1.block o y.lt fun e=>R e.symm];exact y
 refine Ox X7 ⟨H,ao⟩ m.name (S d) fun i n aw=>?_
 have X:N1 (i.heap[o]?) (F9 (Ea s.2 m.name d)):=by rw[←Q3Q];exact aw.2
 have J:N1 (i.heap[b]?) (F9 (Ea s.1 m.name (P6 m))):=by rw[n.block b R];exact am
 have z:Kpt (fun k=>k=b∨k=o) w i:=((Kpt.of_below f.bel).trans (N.1.mono fun k _ h=> .inl h)).trans (Kpt.of_upd n (.inr rfl))
 have ab:X4 i σ1:=(Kpt.of_upd (D:=fun k=>k=o) n rfl).sat N.2.1 fun k hk=>hk▸H
 unfold Jl at h
 cases ho:H1 s.1 m.name with
 | none=>
  rw[ho] at h
  simp only[Option.isSome_none,↓M2,M2,Mb,reduceIte]
  exact h i z J X
 | some x=>
  rw[ho] at h
  simp only[Option.isSome_some,Option.getD_some,↓M2,M2,Mb,reduceIte]
  refine Y7 ab Z rfl ?_
  refine Q83 ab (RMe_lift ac ⟨f.le⟩) W hn fun w4 σ4 M=>?_
  simp only[↓M2,M2,Mb,reduceIte]
  exact h w4 (z.trans (Kpt.of_below M.bel)) (J.of_below M.bel) (X.of_below M.bel))
end Go.Proofs.YtfppjenblllfaaaGreatDoor

namespace Go.Hm
open Go.Kd Go.Emb
def Hh (s:H7×H7) (c:Cla):Bool×(H7×H7):=((J1 (Jl c.name) s c.methods 0).1.isSome,(J1 (Jl c.name) s c.methods 0).2)
def Db (a:List Hm.Met):Prop:= ∃x∈a,∃y∈a,x.name=y.name∧P6 x≠P6 y
theorem Q36 (a:List Hm.Met):Lh a=true↔Db a:=by
 simp[Lh,Db]
structure Gd (pre : List Hm.Met) (s : H7 × H7) : Prop where
  a : ∀ m ∈ pre, H1 s.1 m.name = some (P6 m)
  b : ∀ k x, H1 s.1 k = some x → ∃ m ∈ pre, m.name = k ∧ P6 m = x
  c : ∀ k, (H1 s.2 k).isSome = true ↔ ∃ m ∈ pre, m.name = k
theorem Gd.no {b:List Hm.Met} {s:H7×H7} (h:Gd b s): ¬Db b:=by
 rintro ⟨x,f,y,g,d,e⟩
 have c:=h.a x f
 have i:=h.a y g
 rw[d,i] at c
 exact e (Option.some.inj c).symm
theorem Gd.step {n:List Hm.Met} {s:H7×H7} (h:Gd n s) (d:Q9) (m:Hm.Met):((Jl d s m).1=true→Db (n++[m]))∧((Jl d s m).1=false→Gd (n++[m]) (Jl d s m).2):=by
 unfold Jl
 constructor
 ·intro g
  cases o:H1 s.1 m.name with
  | none=>rw[o] at g;cases g
  | some x=>
   rw[o] at g
   obtain ⟨y,hy,f,p⟩:=h.b _ _ o
   exact ⟨y,by simp[hy],m,by simp,f,by rw[p];simpa using g⟩
 ·intro g
  have j: ∀x,H1 s.1 m.name=some x→x=P6 m:=fun x i=>by rw[i] at g;simpa using g
  refine ⟨fun y hy=>?_,fun k x i=>?_,fun k=>?_⟩
  ·simp only[Tf]
   rcases List.mem_append.1 hy with hy | hy
   ·have:=h.a y hy
    by_cases e:m.name=y.name
    ·rw[if_pos e];congr 1;exact (j _ (by rw[e];exact this)).symm
    ·rw[if_neg e];exact this
   ·simp at hy;subst hy;simp
  ·simp only[Tf] at i
   by_cases e:m.name=k
   ·rw[if_pos e] at i;cases i;exact ⟨m,by simp,e,rfl⟩
   ·rw[if_neg e] at i
    obtain ⟨y,hy,f⟩:=h.b _ _ i
    exact ⟨y,by simp[hy],f⟩
  ·simp only[Tf]
   by_cases e:m.name=k
   ·rw[if_pos e];exact ⟨fun _=>⟨m,by simp,e⟩,fun _=>rfl⟩
   ·rw[if_neg e,h.c k]
    constructor
    ·rintro ⟨y,hy,f⟩;exact ⟨y,by simp[hy],f⟩
    ·rintro ⟨y,hy,f⟩
     rcases List.mem_append.1 hy with hy | hy
     ·exact ⟨y,hy,f⟩
     ·simp at hy;subst hy;exact absurd f e
theorem Db.mono {a b:List Hm.Met} (h:Db a) (c: ∀x∈a,x∈b):Db b:=by
 obtain ⟨x,d,y,f,e⟩:=h
 exact ⟨x,c x d,y,c y f,e⟩
theorem Q1L (d:Q9): ∀(b a:List Hm.Met) (s:H7×H7) (i:Nat),Gd a s→((J1 (Jl d) s b i).1.isSome=true→Db (a++b))∧((J1 (Jl d) s b i).1.isSome=false→Gd (a++b) (J1 (Jl d) s b i).2)
 | [],a,s,i,h=>by simpa [J1] using h
 | m::r,a,s,i,h=>by
  obtain ⟨g,j⟩:=h.step d m
  simp only[J1]
  cases c:(Jl d s m).1 with
  | true=>
   simp only[if_true,Option.isSome_some]
   exact ⟨fun _=>(g c).mono fun x f=>by simp at f⊢;rcases f with h | h<;>simp[h],fun e=>by cases e⟩
  | false=>
   simp only[Bool.false_eq_true,if_false]
   have:=Q1L d r (a++[m]) (Jl d s m).2 (i+1) (j c)
   rw[show a++m::r=(a++[m])++r by simp]
   exact this
theorem Q1o: ∀(cs:List Cla) (a:List Hm.Met) (s:H7×H7) (i:Nat),Gd a s→((J1 Hh s cs i).1.isSome=true→Db (a++cs.flatMap (·.methods)))∧((J1 Hh s cs i).1.isSome=false→Gd (a++cs.flatMap (·.methods)) (J1 Hh s cs i).2)
 | [],a,s,i,h=>by simpa [J1] using h
 | c::r,a,s,i,h=>by
  obtain ⟨d,f⟩:=Q1L c.name c.methods a s 0 h
  simp only[J1]
  cases b:(Hh s c).1 with
  | true=>
   simp only[if_true,Option.isSome_some]
   exact ⟨fun _=>(d b).mono (by simp;intro x hx;rcases hx with hx | hx;exact .inl hx;exact .inr (.inl hx)),fun e=>by cases e⟩
  | false=>
   simp only[Bool.false_eq_true,if_false]
   have:=Q1o r (a++c.methods) (Hh s c).2 (i+1) (f b)
   rw[List.flatMap_cons,←List.append_assoc]
   exact this
theorem X16:Gd [] ([],[]):=⟨by simp,by simp[H1],by simp[H1]⟩
theorem Q6O (l:List Cla) (n:Q9):Vg l n=(Vp l n).flatMap (·.methods):=by
 unfold Vg Vp
 induction R4 l n with
 | nil=>rfl
 | cons u r a=>
  rw[List.flatMap_cons,List.filterMap_cons]
  cases b:lk l u with
  | none=>simpa [b] using a
  | some c=>simp only[Option.map_some,Option.getD_some,List.flatMap_cons];rw[a]
end Go.Hm
namespace Go.Emb
open Go.RowKit Go.Hm
variable {P : Program} {w w0 w1 w' w'' : World} {K : Value → World → Prop} {σ σ0 σ1 σ' : Q5}
def It (σ:Q5) (w:World) (b r:Nat) (es:Array MapEntry) (a:Nat) (c:Array Nat):Prop:=σ b=none∧ ∃d,a≤d∧w.heap[b]? =some (.mapIter (some r) a c d)
theorem It.step {b r:Nat} {es:Array MapEntry} {a:Nat} {c:Array Nat} (h:It σ w b r es a c) (k:Stp w σ w' σ'):It σ' w' b r es a c:=by
 obtain ⟨i,f,g,d⟩:=h
 have e:=(Array.getElem?_eq_some_iff.1 d).1
 exact ⟨(k.old b e).trans i,f,g,(k.bel.block b e).trans d⟩
theorem X25 {t d e:TypeId} [tm:TM P t d e] {r:Nat} {es:Array MapEntry} {a:Nat} (c:X4 w σ) (g:w.heap[r]? =some (.map es a))
 (h: ∀b w' σ',w.heap.size≤b→Stp w σ w' σ'→It σ' w' b r es a #[]→K (.pointer (some ⟨b,0,none⟩)) w'):rng P t (.map (some r)) w K:=by
 unfold rng
 have f:(getObj r).run P w= .ok (.map es a) w:=by simp[getObj,Sem.run,g]
 rw[Y0 (v:= .pointer (some ⟨w.heap.size,0,none⟩)) (w':=w.alloc (.mapIter (some r) a #[] a)) (by
  simp only[Instr.range,Sem.run_bind,run_underlying tm.h,Result.andThen_ok,f,Sem.run_pure]
  simp)]
 exact h _ _ _ (Nat.le_refl _) (Stp.own c _) ⟨c.none (Nat.le_refl _),a,Nat.le_refl _,heap_alloc_new w _⟩
theorem X24 {t:TypeId} {b r:Nat} {es:Array MapEntry} {clock:Nat} {seen:Array Nat} (hi:It σ w b r es clock seen) (hm:w.heap[r]? =some (.map es clock)) (hold: ∀x∈es.toList,x.born<clock)
 (h0:(∀e∈es.toList,e.born∈seen)→K (.tuple #[.bool false]) w)
 (h1: ∀e w',e∈es.toList→e.born∉seen→Kpt (fun k=>k=b) w w'→It σ w' b r es clock (seen.push e.born)→w'.heap[b]? =some (.mapIter (some r) clock (seen.push e.born) clock)→K (.tuple #[.bool true,e.key,e.val]) w'):J7 P (.pointer (some ⟨b,0,none⟩)) false t w K:=by
 obtain ⟨hb,c0,hc,hh⟩:=hi
 unfold J7
 rcases run_next_at (P:=P) w t b r clock c0 seen es clock hh hm hold hc with ⟨hz,hrun⟩ | ⟨e,he,w1,hw1,hrun⟩
 ·rw[Y0 hrun]
  refine h0 fun e he=>Classical.byContradiction fun hn=>?_
  have:e∈(leftOf es seen).toList:=by
   unfold leftOf
   simp only[Array.toList_filter,List.mem_filter]
   exact ⟨he,by simpa using hn⟩
  have hl:(leftOf es seen).toList.length=0:=by simpa using hz
  rw[List.eq_nil_of_length_eq_zero hl] at this
  cases this
 ·rw[Y0 hrun]
  have he':e∈es.toList∧e.born∉seen:=by
   unfold leftOf at he
   simp only[Array.toList_filter,List.mem_filter] at he
   exact ⟨he.1,by simpa using he.2⟩
  have hh1:w1.heap[b]? =some (.mapIter (some r) clock seen c0):=by rcases hw1 with rfl | rfl<;>exact hh
  obtain ⟨u1,u2⟩:=Q2x (w:=w1) (o:= .mapIter (some r) clock (seen.push e.born) clock) hh1
  refine h1 e _ he'.1 he'.2 ?_ ⟨hb,clock,Nat.le_refl _,u2⟩ u2
  have k1:Kpt (fun k=>k=b) w w1:=by
   rcases hw1 with rfl | rfl
   ·exact Kpt.refl
   ·exact .of_below (Below.refl _ _).drew
  exact k1.trans (Kpt.of_upd u1 rfl)
theorem X1l {b r:Nat} {es:Array MapEntry} {a:Nat} {c:Array Nat} {e:MapEntry} (hh:w.heap[b]? =some (.mapIter (some r) a (c.push e.born) a)) (f:w.heap[r]? =some (.map es a)) (g:e∈es.toList) (d:(es.toList.map (·.born)).Nodup)
 (h:K (.tuple #[e.key,e.val]) w):Q6A P (.pointer (some ⟨b,0,none⟩)) w K:=by
 unfold Q6A
 rw[Y0 (run_entry_at w b r a c es a e hh f g d)]
 exact h
end Go.Emb
namespace Go.Proofs.YtfppjenblllfaaaGreatDoor
open Go.Emb Go.RowKit Go.Kd Go.Hm
variable {w : World} {K : Value → World → Prop} {σ : Q5} {v : Value} {l : List Cla}
theorem K1 (o:Option Nat):decide ((0:Int)≤W5 o)=o.isSome:=by
 cases o with
 | none=>rfl
 | some i=>simp[W5]
theorem Q2n {q:Addr} {s:Q9} (c:X4 w σ) (d:Tab σ v l) (g:Z2 σ q [v]) (f:s.length≤Z9) (h: ∀w' σ',Stp w σ w' σ'→K (.bool (D7 l s)) w'):Z1 P (.func (.func F.aj) #[] #[.pointer (some q)]) [S s] w K:=Y9 (Eg (by
 unfold Yp
 unfold D7 at h
 refine Lf ?_
 by_cases a:s=O9
 ·have e:decide (s=[110,117,108,108])=true:=decide_eq_true a
  simp only[e,decide_eq_true a,↓M2,M2,Mb,reduceIte] at h⊢
  exact h _ _ (Stp.refl c)
 ·have e:decide (s=[110,117,108,108])=false:=decide_eq_false a
  simp only[e,decide_eq_false a,↓M2,M2,Mb,reduceIte] at h⊢
  refine X8 c g rfl ?_
  refine Tv c d f fun w1 σ1 b=>?_
  (try simp only[↓M2,M2,Mb,reduceIte])
  exact h _ _ b))
theorem Q7j {q p:Addr} {s:Q9} (b:X4 w σ) (c:Tab σ v l) (e:Z2 σ q [v]) (f:Z2 σ p [.func (.func F.aj) #[] #[.pointer (some q)]]) (d:s.length≤Z9) (h: ∀w' σ',Stp w σ w' σ'→K (.bool (!D7 l s)) w'):Z1 P (.func (.func F.ak) #[] #[.pointer (some p)]) [S s] w K:=Y9 (Ha (by
 unfold Zm
 refine X8 b f rfl ?_
 refine Q2n b c e d fun w1 σ1 a=>?_
 refine Ni ?_
 exact h _ _ a))
theorem Q59 {c:Cla} {cs:List Value} {pa E:Addr} {e b:Nat} {s:H7×H7} (V:X4 w σ) (X:U4 σ c cs) (z:T0 c) (Q:Nm c) (y:Z2 σ pa [.map (some e)]) (A:Z2 σ E [.map (some b)])
 (r:σ e=none) (B:σ b=none) (t:e≠b) (m:N1 (w.heap[e]?) (F9 s.1)) (o:N1 (w.heap[b]?) (F9 s.2))
 (h: ∀w',Kpt (fun k=>k=e∨k=b) w w'→N1 (w'.heap[e]?) (F9 (Hh s c).2.1)∧N1 (w'.heap[b]?) (F9 (Hh s c).2.2)→K (.bool (Hh s c).1) w'):
 Z1 P (.func (.func F.aN) #[] #[.pointer (some pa), .pointer (some E)]) [.agg cs.toArray] w K:=Y9 (Ef (by
 obtain ⟨lv,fv,mv,rfl,g1,Y,U,g4,Z⟩:=X
 unfold Yx
 refine Y8 V fun q w1 σ1 a H=>?_
 rw[fa]
 refine ld a.sat H rfl ?_
 rw[Qm]
 have u:=m.lt
 have p:=o.lt
 have j:σ1 e=none:=(a.old e u).trans r
 have n:σ1 b=none:=(a.old b p).trans B
 refine Yd (Jl c.name) s (fun s w'=>X4 w' σ1∧N1 (w'.heap[e]?) (F9 s.1)∧N1 (w'.heap[b]?) (F9 s.2)) (fun k=>k=e∨k=b) (fun _ _ h=>h.1) ⟨a.sat,m.of_below a.bel,o.of_below a.bel⟩ (U.up a)
  (fun s x cs J K C f g M D O=>Y9 ?_) fun J f g=>?_
 ·refine X1Y (s:=s) (d:=c.name) g.1 M (z.2.2.2 x C) (Q.2.2 x C) (y.up a) (A.up a) H j n t g.2.1 g.2.2 fun L i W N=>?_
  exact O L (f.trans i) ⟨i.sat g.1 fun k R=>by rcases R with rfl | rfl<;>assumption,W,N⟩
 ·exact h J ((Kpt.of_below a.bel).trans f) g.2))
end Go.Proofs.YtfppjenblllfaaaGreatDoor

namespace Go.Emb
open Go.RowKit Go.Hm
theorem Stp.nx {D:Nat→Prop} {w w1 f:World} {σ σ1 g:Q5} (a:Stp w σ w1 σ1) (c:Nxt D w1 σ1 f g) (hD: ∀k,D k→w.heap.size≤k):Stp w σ f g:=
 ⟨⟨c.kp.os.trans a.bel.os,c.kp.tape.trans a.bel.tape,c.kp.output.trans a.bel.output,Nat.le_trans a.bel.size c.kp.size,fun k d=>(c.kp.block k (Nat.lt_of_lt_of_le d a.bel.size) fun e=>by have:=hD k e;omega).trans (a.bel.block k d)⟩,
  c.sat,fun b o e=>c.le.le b o (a.le b o e),fun k d=>(c.old k (Nat.lt_of_lt_of_le d a.bel.size)).trans (a.old k d)⟩
end Go.Emb
namespace Go.Hm
open Go.Kd Go.Emb
theorem X0Z {es:Array MapEntry} {m:H7} (h:es.toList.map (fun e=>(e.key,e.val))=(F9 m).map (fun p=>(S p.1,p.2))):
 (∀e∈es.toList,∃k,e.key=S k∧(H1 m k).isSome=true)∧ ∀k,(H1 m k).isSome=true→ ∃e∈es.toList,e.key=S k:=by
 have b: ∀(m:H7) k,(H1 m k).isSome=true↔k∈m.map (·.1):=by
  intro m
  induction m with
  | nil=>intro k;simp[H1]
  | cons p r g=>
   intro k
   simp only[H1,List.map_cons,List.mem_cons]
   by_cases e:p.1=k
   ·simp[e]
   ·rw[if_neg e,g k]
    constructor
    ·exact .inr
    ·rintro (h | h)
     ·exact absurd h.symm e
     ·exact h
 constructor
 ·intro e f
  have c:(e.key,e.val)∈es.toList.map (fun e=>(e.key,e.val)):=List.mem_map.2 ⟨e,f,rfl⟩
  rw[h] at c
  obtain ⟨p,j,a⟩:=List.mem_map.1 c
  obtain ⟨q,d,rfl⟩:=List.mem_map.1 j
  simp only[Prod.mk.injEq] at a
  exact ⟨q.1,a.1.symm,(b m _).2 (List.mem_map.2 ⟨q,d,rfl⟩)⟩
 ·intro k i
  obtain ⟨q,d,rfl⟩:=List.mem_map.1 ((b m k).1 i)
  have c:(S q.1,S q.2)∈(F9 m).map (fun p=>(S p.1,p.2)):=List.mem_map.2 ⟨(q.1,S q.2),List.mem_map.2 ⟨q,d,rfl⟩,rfl⟩
  rw[←h] at c
  obtain ⟨e,f,a⟩:=List.mem_map.1 c
  simp only[Prod.mk.injEq] at a
  exact ⟨e,f,a.1⟩
def Nn (l:List Cla) (m:Hm.Met):Bool:=(!D7 l m.result&& !decide (m.result=[]))||m.params.any fun s=> !D7 l s
end Go.Hm
namespace Go.Proofs.YtfppjenblllfaaaGreatDoor
open Go.Emb Go.RowKit Go.Kd Go.Hm
variable {w : World} {K : Value → World → Prop} {σ : Q5} {v : Value} {l : List Cla}
set_option maxHeartbeats 1000000 in
theorem Q7X {c:Cla} {cs:List Value} (hs:X4 w σ) (ht:Tab σ v l) (ok:Ok l) (hc:U4 σ c cs) (fw:T0 c) (hn:Nm c) (h: ∀w' W,Stp w σ w' W→K (I (V1 l c)) w'):Q1 P F.aV [v, .agg cs.toArray] w K:=Rz (by
 obtain ⟨lv,fv,mv,rfl,g1,g2,g3,g4,g5⟩:=hc
 unfold Jr
 obtain ⟨a,_,_,_,hv,_⟩:=ht.ex
 unfold V1 at h
 refine J6 hs (by rw[hv];rfl) fun q2 w1 σ1 a2 y=>?_
 refine Y8 a2.sat fun q3 w2 σ2 aq z=>?_
 have d8:=a2.trans aq
 have y:=y.up aq
 have g1:=(g1.up a2).up aq
 have g2:=(g2.up a2).up aq
 have g3:=(g3.up a2).up aq
 have bd:=g2.max
 have ca:=g3.max
 rw[fa]
 refine ld aq.sat z rfl ?_
 refine Q8 g2 ?_
 refine J0 c.fields.length (fun n w'=> ∃W,Stp w σ w' W∧SLe σ2 W∧((c.fields.take n).any fun f=>(Xn l c.super f.name).isSome)=false) ⟨σ2,d8,SLe.refl _,by simp⟩ fun n w3 d ax aj=>?_
 obtain ⟨σ3,ba,ch,H⟩:=aj
 refine Z0 ?_
 refine Q6 (fun hh=>?_) (fun hh=>?_)
 ·have g:n<c.fields.length:=by simpa using hh
  refine Q8e (g2.lift ch) g fun p ar Z=>?_
  refine Y7 ba.sat ar rfl ?_
  refine Y5 ba.sat (by rfl) rfl (Rep.one Z) fun q4 w4 σ4 V d4=>?_
  have ac:SLe σ2 σ4:=ch.more ⟨V.le⟩
  have be:=ba.trans V
  refine X8 V.sat (y.lift ac) rfl ?_
  rw[fa]
  refine ld V.sat (z.lift ac) rfl ?_
  rw[fa]
  refine ld V.sat d4 rfl ?_
  refine X0b V.sat (ht.lift ⟨be.le⟩) ok.acy ok.len ok.sm fun w5 σ5 b8=>?_
  refine Yb ?_
  rw[K1]
  refine Q6 (fun al=>?_) (fun al=>?_)
  ·have:Xi l c=true:=C3 g al
   rw[if_pos this] at h
   exact h _ _ (be.trans b8)
  ·refine E5 ?_
   refine Y2 bd g ⟨σ5,be.trans b8,ac.more ⟨b8.le⟩,?_⟩
   rw[M3 g,H,al];rfl
 have g: ¬n<c.fields.length:=by simpa using hh
 rw[D0 g] at H
 have el:Xi l c=false:=H
 rw[if_neg (by rw[el];simp)] at h
 rw[Qm]
 clear H hh g ax
 refine U0 ba.sat (by rfl) rfl rfl fun q7 w4 σ4 V a0=>?_
 have ac:SLe σ2 σ4:=ch.more ⟨V.le⟩
 have be:=ba.trans V
 have y:=y.lift ac
 have z:=z.lift ac
 have g1:=g1.lift ac
 have g2:=g2.lift ac
 have g3:=g3.lift ac
 rw[fa]
 refine ld V.sat z rfl ?_
 refine Q8 g2 ?_
 refine J0 c.fields.length (fun n w'=> ∃W,Stp w σ w' W∧SLe σ4 W∧((c.fields.take n).any fun f=> !D7 l f.kind)=false) ⟨σ4,be,SLe.refl _,by simp⟩ fun n w5 d ax aj=>?_
 obtain ⟨σ5,a3,aw,H⟩:=aj
 refine Z0 ?_
 refine Q6 (fun hh=>?_) (fun hh=>?_)
 ·have g:n<c.fields.length:=by simpa using hh
  refine Q8e (g2.lift aw) g fun p ar Z=>?_
  refine Y7 a3.sat ar rfl ?_
  refine Y5 a3.sat (by rfl) rfl (Rep.one Z) fun q9 w6 σ6 a6 ee=>?_
  have ai:SLe σ4 σ6:=aw.more ⟨a6.le⟩
  have U:=a3.trans a6
  refine X8 a6.sat (a0.lift ai) rfl ?_
  rw[fa]
  refine ld a6.sat ee rfl ?_
  refine Q2n a6.sat (ht.lift ⟨U.le⟩) (y.lift ai) Z.2.2 fun w7 σ7 E=>?_
  refine Ni ?_
  refine Q6 (fun al=>?_) (fun al=>?_)
  ·have:B0 l c=true:=by
    unfold B0
    rw[C3 (p:=fun f:Fld=> !D7 l f.kind) g al];rfl
   rw[if_pos this] at h
   exact h _ _ (U.trans E)
  ·refine E5 ?_
   refine Y2 bd g ⟨σ7,U.trans E,ai.more ⟨E.le⟩,?_⟩
   rw[M3 g,H,al];rfl
 have g: ¬n<c.fields.length:=by simpa using hh
 rw[D0 g] at H
 have dy:=H
 clear H hh g ax
 have y:=y.lift aw
 have z:=z.lift aw
 have a0:=a0.lift aw
 have g3:=g3.lift aw
 rw[fa]
 refine ld a3.sat z rfl ?_
 refine Q8 g3 ?_
 refine J0 c.methods.length (fun n w'=> ∃W,Stp w σ w' W∧SLe σ5 W∧((c.methods.take n).any (Nn l))=false) ⟨σ5,a3,SLe.refl _,by simp⟩ fun n w6 d ax aj=>?_
 obtain ⟨σ6,U,ai,H⟩:=aj
 refine Z0 ?_
 refine Q6 (fun hh=>?_) (fun hh=>?_)
 ·have g:n<c.methods.length:=by simpa using hh
  refine L8 (g3.lift ai) g fun p cells ar c5 Z=>?_
  refine Y7 U.sat ar c5 ?_
  refine Y5 U.sat (by rfl) c5 (Rep.one Z) fun e8 w7 σ7 E Y=>?_
  obtain ⟨pv,cv,fh,rfl,m1,m2,m3,m4,m5,m6⟩:=Z
  have cb:SLe σ5 σ7:=ai.more ⟨E.le⟩
  have di:=U.trans E
  have B:Nn l c.methods[n]=true→ ∀{w8:World} {σ8:Q5},Stp w σ w8 σ8→K (.int .i64 65) w8:=fun hb w8 σ8 q=>by
   have:B0 l c=true:=by
    unfold B0
    have:=C3 (p:=Nn l) g hb
    unfold Nn at this
    rw[this,Bool.or_true]
   rw[if_pos this] at h
   exact h _ _ q
  have A:Nn l c.methods[n]=false→ ∀{w8:World} {σ8:Q5},Stp w σ w8 σ8→SLe σ5 σ8→UpI c.methods.length (fun n w'=> ∃W,Stp w σ w' W∧SLe σ5 W∧((c.methods.take n).any (Nn l))=false) (.int .i64 (IntKind.i64.wrap (n+1))) w8∧UpM c.methods.length (.int .i64 (IntKind.i64.wrap (n+1)))<UpM c.methods.length (I n):=fun hb w8 σ8 q aa=>
   Y2 ca g ⟨σ8,q,aa,by rw[M3 g,H,hb];rfl⟩
  unfold Nn at B A
  refine X8 E.sat (a0.lift cb) rfl ?_
  rw[fa]
  refine ld E.sat Y rfl ?_
  refine Q2n E.sat (ht.lift ⟨di.le⟩) (y.lift cb) m5 fun w8 σ8 M=>?_
  have q:=di.trans M
  have aa:SLe σ5 σ8:=cb.more ⟨M.le⟩
  have Y:=Y.up M
  have m1:=(m1.up E).up M
  -- what the parameters come to
  have bq: ∀{w8:World} {σ8:Q5} {K:Value→World→Prop},Stp w σ w8 σ8→SLe σ5 σ8→Sl 1 Y1 σ8 pv c.methods[n].params→(∀w' W,Stp w8 σ8 w' W→K (.bool (c.methods[n].params.any fun s=> !D7 l s)) w')→Q1 P F.d [pv, .func (.func F.ak) #[] #[.pointer (some q7)]] w8 K:=by
   intro w8 σ8 K q aa m1 hK
   refine F5 (fun s=> !D7 l s) q.sat m1 (fun x w9 K _ d7 hx dz=>Q7j d7 (ht.lift ⟨q.le⟩) (y.lift aa) (a0.lift aa) hx fun w' W hk=>dz w' hk.bel) fun w9 hb=>hK w9 σ8 (Stp.of_below q.sat hb)
  cases e1:D7 l c.methods[n].result with
  | true=>
   rw[e1] at B A
   simp only[↓M2,M2,Mb,reduceIte]
   refine ld M.sat Y rfl ?_
   (try simp only[↓M2,M2,Mb,reduceIte])
   refine bq q aa m1 fun w9 σ9 J=>?_
   cases e2:c.methods[n].params.any fun s=> !D7 l s with
   | true=>
    rw[e2] at B
    simp only[↓M2,M2,Mb,reduceIte]
    exact B rfl (q.trans J)
   | false=>
    rw[e2] at A
    simp only[↓M2,M2,Mb,reduceIte]
    exact A rfl (q.trans J) (aa.more ⟨J.le⟩)
  | false=>
   rw[e1] at B A
   simp only[↓M2,M2,Mb,reduceIte]
   refine ld M.sat Y rfl ?_
   simp only[↓M2,M2,Mb,reduceIte]
   by_cases e3:c.methods[n].result=[]
   ·rw[decide_eq_true e3] at B A
    simp only[decide_eq_true e3,↓M2,M2,Mb,reduceIte]
    refine ld M.sat Y rfl ?_
    (try simp only[↓M2,M2,Mb,reduceIte])
    refine bq q aa m1 fun w9 σ9 J=>?_
    cases e2:c.methods[n].params.any fun s=> !D7 l s with
    | true=>
     rw[e2] at B
     simp only[↓M2,M2,Mb,reduceIte]
     exact B rfl (q.trans J)
    | false=>
     rw[e2] at A
     simp only[↓M2,M2,Mb,reduceIte]
     exact A rfl (q.trans J) (aa.more ⟨J.le⟩)
   ·rw[decide_eq_false e3] at B
    simp only[decide_eq_false e3,↓M2,M2,Mb,reduceIte]
    exact B rfl q
 have g: ¬n<c.methods.length:=by simpa using hh
 rw[D0 g] at H
 have b3:B0 l c=false:=by
  unfold B0
  unfold Nn at H
  rw[dy,H];rfl
 rw[if_neg (by rw[b3];simp)] at h
 clear H hh g ax
 have y:=y.lift ai
 have z:=z.lift ai
 refine Tq U.sat fun r1 w7 Z E t=>?_
 refine Tq E.sat fun N w8 em M u=>?_
 have ar:=t.lt
 have t:=t.up M
 have d9:r1≠N:=by omega
 have q:=(U.trans E).trans M
 have et:w.heap.size≤r1:=Nat.le_trans U.bel.size Z
 have ey:w.heap.size≤N:=Zc em (U.trans E)
 refine I2 M.sat fun b1 w9 σ9 ec J D=>?_
 refine I2 J.sat fun b2 dv fn ea af C=>?_
 have er:=D.lt
 have eu:=t.lt
 have e7:=u.lt
 have t:=(t.up J).up af
 have u:=(u.up J).up af
 have D:=D.up af
 have dj:=(q.trans J).trans af
 have bw:w.heap.size≤b1:=Zc ec q
 have bx:w.heap.size≤b2:=Zc ea (q.trans J)
 refine st0 D (by simp[Value.cells]) rfl rfl fun c9 b4 D=>?_
 have dl:=b4.stp dj bw D.1
 have C:=C.upd b4 (by omega)
 have dp:Kpt (fun k=>k=b1) dv c9:=Kpt.of_upd b4 rfl
 have t:=t.kp dp (by omega)
 have u:=u.kp dp (by omega)
 refine st0 C (by simp[Value.cells]) rfl rfl fun av cf C=>?_
 have cy:=cf.stp dl bx C.1
 have D:=D.upd cf (by omega)
 have de:Kpt (fun k=>k=b2) c9 av:=Kpt.of_upd cf rfl
 have t:=t.kp de (by omega)
 have u:=u.kp de (by omega)
 obtain ⟨cj,c7,a7,c4,am⟩:=D.keep cy bw
 have C:Z5 cj av b2 _:=⟨(am b2 (by omega)).trans C.1,C.2⟩
 have t:E1 cj av r1 []:=⟨(am r1 (by omega)).trans t.1,t.2⟩
 have u:E1 cj av N []:=⟨(am N (by omega)).trans u.1,u.2⟩
 obtain ⟨az,ah,bi,bz,a9⟩:=C.keep c7 bx
 have t:E1 az av r1 []:=⟨(a9 r1 (by omega)).trans t.1,t.2⟩
 have u:E1 az av N []:=⟨(a9 N (by omega)).trans u.1,u.2⟩
 have a7:=a7.le bz
 have a7:Z2 az ⟨b1,0,none⟩ [.map (some r1)]:=a7
 have bi:Z2 az ⟨b2,0,none⟩ [.map (some N)]:=bi
 have cp:SLe σ6 az:=⟨fun b o e=>bz b o (c4 b o (af.le b o (J.le b o (M.le b o (E.le b o e)))))⟩
 clear D C
 have y:=y.lift cp
 have z:=z.lift cp
 refine X8 ah.sat y rfl ?_
 rw[fa]
 refine ld ah.sat z rfl ?_
 rw[Qm]
 refine Q6i Hh ([],[]) (fun s w'=>N1 (w'.heap[r1]?) (F9 s.1)∧N1 (w'.heap[N]?) (F9 s.2)) (fun k=>k=r1∨k=N) ah.sat (ht.lift ⟨ah.le⟩) ok.len ok.sm g4
  (fun k hk=>by rcases hk with rfl | rfl;exact ⟨t.lt,t.1⟩;exact ⟨u.lt,u.1⟩) (fun s wa wb hi hk=>by rw[hk r1 (.inl rfl),hk N (.inr rfl)];exact hi) ⟨t.2,u.2⟩
  (fun s d ds wa σa K le eh da hi hr d0 hK=>?_) fun fd ce ag b0=>?_
 ·have ct:=(U1 d0).2.1
  exact Q59 eh hr (ok.sm d ct) (ok.nm d ct) (a7.lift le) (bi.lift le) (da r1 (.inl rfl)) (da N (.inr rfl)) d9 hi.1 hi.2 hK
 have R:=ah.nx ag fun k hk=>by rcases hk with rfl | rfl<;>assumption
 obtain ⟨dg,c8⟩:=Q1o (Vp l c.name) [] ([],[]) 0 X16
 rw[List.nil_append,←Q6O] at dg c8
 cases dc:(J1 Hh ([],[]) (Vp l c.name) 0).1.isSome with
 | true=>
  have:Xt l c=true:=(Q36 _).2 (dg dc)
  rw[if_pos this] at h
  refine U3 ?_
  exact h _ _ R
 | false=>
  have bl:=c8 dc
  have:Xt l c=false:=by
   cases e:Xt l c with
   | false=>rfl
   | true=>exact absurd ((Q36 _).1 e) bl.no
  rw[if_neg (by rw[this];simp)] at h
  refine V8 ?_
  have y:=y.lift ag.le
  have z:=z.lift ag.le
  rw[fa]
  refine ld R.sat z rfl ?_
  unfold Mw at h
  cases cq:c.abs with
  | true=>
   rw[cq] at h
   refine U3 ?_
   exact h _ _ R
  | false=>
   rw[cq] at h
   simp only[Bool.not_false,Bool.true_and] at h
   refine V8 ?_
   refine X8 R.sat (bi.lift ag.le) rfl ?_
   generalize ft:(J1 Hh ([],[]) (Vp l c.name) 0).2=st at bl b0
   obtain ⟨es,ak,e1,e2,e3,e4⟩:=b0.2
   have db:ce N=none:=(ag.old N u.lt).trans u.1
   obtain ⟨dh,cr⟩:=X0Z e2
   refine X25 (tm:=inferInstance) R.sat e1 fun ib fm d6 dx ap ed=>?_
   have bv:=(Array.getElem?_eq_some_iff.1 e1).1
   refine Fj (fun d _ w'=> ∃(W:Q5) (Q:Array Nat),d=es.toList.countP (fun e=> !Q.contains e.born)∧Stp w σ w' W∧SLe ce W∧W N=none∧w'.heap[N]? =some (.map es ak)∧It W w' ib N es ak Q∧ ∀e∈es.toList,e.born∈Q→ ∀k,e.key=S k→Xj l c.name k=false) _
    ⟨d6, #[],rfl,R.trans ap,⟨ap.le⟩,(ap.old N bv).trans db,(ap.bel.block N bv).trans e1,ed,by simp⟩ ?_
   rintro cg d x dd fp ⟨cz,Q,rfl,br,ao,cu,a4,a1,ay⟩ dw
   have cx:w.heap.size≤ib:=Nat.le_trans R.bel.size dx
   refine X24 a1 a4 e4 (fun c2=>?_) fun e dn bg a8 bu ck c6=>?_
   ·refine U5 (vs:=[_]) rfl ?_
    refine V8 ?_
    have:((Vg l c.name).any fun m=>Xj l c.name m.name)=false:=by
     rw[List.any_eq_false]
     intro m hm
     obtain ⟨e,he,bk⟩:=cr m.name ((bl.c m.name).2 ⟨m,hm,rfl⟩)
     rw[ay e he (c2 e he) _ bk];simp
    rw[this] at h
    exact h _ _ br
   ·refine U5 (vs:=[_,_,_]) rfl ?_
    refine U3 ?_
    have an:dn.heap[N]? =some (.map es ak):=by
     rw[bu.block N (Array.getElem?_eq_some_iff.1 a4).1 (by omega)];exact a4
    have cd:=a1.1
    have ae:Stp w σ dn cz:=br.kp bu fun k hk=>by rw[hk];exact ⟨cx,cd⟩
    refine X1l c6 an bg (e3.imp fun cc=>Nat.ne_of_lt cc) ?_
    refine U5 (vs:=[_,_]) rfl ?_
    obtain ⟨k,bk,eb⟩:=dh e bg
    have e6:SLe ce cz:=ao
    refine X8 ae.sat (y.lift ao) rfl ?_
    rw[fa]
    refine ld ae.sat (z.lift ao) rfl ?_
    rw[bk]
    refine Q8O ae.sat (ht.lift ⟨ae.le⟩) ok fun pv cv hv fq fr L c0=>?_
    refine U5 (vs:=[_,_,_]) rfl ?_
    refine U5 (vs:=[_,_,_]) rfl ?_
    refine U5 (vs:=[_,_,_]) rfl ?_
    refine Y5 L.sat (by rfl) rfl (Rep.one c0) fun fb d5 ek X bs=>?_
    have bc:=(ae.trans L).trans X
    have O:Xj l c.name k=true→ ∀{w8:World} {σ8:Q5},Stp w σ w8 σ8→K (.int .i64 67) w8:=fun hb w8 σ8 q=>by
     obtain ⟨m,hm,b3⟩:=(bl.c k).1 eb
     have:((Vg l c.name).any fun m=>Xj l c.name m.name)=true:=List.any_eq_true.2 ⟨m,hm,by rw[b3];exact hb⟩
     rw[this] at h
     exact h _ _ q
    have ci:Xj l c.name k=false→cg () d5:=fun hb=>by
     have c1: ∀e':MapEntry,e'.born∈Q.push e.born↔e'.born∈Q∨e'.born=e.born:=fun e'=>by simp
     refine dw _ _ _ ?_ ⟨ek,Q.push e.born,rfl,bc,ao.more ⟨fun b o h=>X.le _ _ (L.le _ _ h)⟩,?_,?_,(ck.step L).step X,fun e' cw d2 k' b7=>?_⟩
     ·refine Q2B (fun x _ hx=>?_) ⟨e,bg,?_,?_⟩
      ·simp only[Bool.not_eq_true',Array.contains_push,Bool.or_eq_false_iff] at hx⊢
       exact hx.1
      ·simpa using a8
      ·simp
     ·have a5:=(Array.getElem?_eq_some_iff.1 an).1
      rw[X.old N (Nat.lt_of_lt_of_le a5 L.bel.size),L.old N a5];exact cu
     ·have a5:=(Array.getElem?_eq_some_iff.1 an).1
      rw[X.bel.block N (Nat.lt_of_lt_of_le a5 L.bel.size),L.bel.block N a5];exact an
     ·rcases (c1 e').1 d2 with h1 | h1
      ·exact ay e' cw h1 k' b7
      ·have:e'=e:=by
        have ei:(es.toList.map (·.born)).Nodup:=e3.imp fun cc=>Nat.ne_of_lt cc
        obtain ⟨i,hi,rfl⟩:=List.getElem_of_mem cw
        obtain ⟨j,hj,rfl⟩:=List.getElem_of_mem bg
        have h5:(es.toList.map (·.born))[i]'(by simpa using hi)=(es.toList.map (·.born))[j]'(by simpa using hj):=by simpa using h1
        have:=(List.getElem_inj ei).1 h5
        subst this;rfl
       subst this
       rw[bk] at b7
       have:k=k':=by
        have:=b7
        simp at this
        exact this
       rw[←this];exact hb
    unfold Xj at O ci
    cases c3:J8 l c.name k with
    | none=>
     rw[c3] at O
     simp only[↓M2,M2,Mb,reduceIte,Option.isSome_none]
     exact O rfl bc
    | some r=>
     rw[c3] at O ci bs
     simp only[↓M2,M2,Mb,reduceIte,Option.isSome_some]
     refine ld X.sat bs rfl ?_
     (try simp only[↓M2,M2,Mb,reduceIte])
     cases bn:r.2.abs with
     | true=>
      exact Q6 (fun _=>O bn bc) (fun e=>absurd (bn.symm.trans e) (by simp))
     | false=>
      exact Q6 (fun e=>absurd (bn.symm.trans e) (by simp)) (fun _=>ci bn))
end Go.Proofs.YtfppjenblllfaaaGreatDoor

namespace Go.Emb
open Go.RowKit Go.Hm
variable {P : Program} {w w0 w1 w' w'' : World} {K : Value → World → Prop} {σ σ0 σ1 σ' : Q5}
theorem X02 {t e:TypeId} {n by_:Nat} {z:Value} [ta:TA P t n e] [tz:TZ P e 1 by_ z] [tg:TG P e false] {cs:List Value} {i:Nat} {v:Value} (c:i<n) (a:cs[i]? =some v) (h:K v w):E0 P t (.agg cs.toArray) (I i) w K:=by
 unfold E0
 have b:(0:Int)≤i∧(i:Int)<n:=⟨by omega,by omega⟩
 rw[Y0 (v:=v) (w':=w) (by
  simp only[Instr.index,asIntOf,Sem.run_bind,Sem.run_pure,Result.andThen_ok,run_underlying ta.h,b,and_self,if_true,W4 tz,part,Za tg]
  simp[a])]
 exact h
theorem Q6u {α:Type} {R:Q5→α→List Value→Prop} {B sz:Nat} {e:TypeId} {v:Value} {xs:List α} {a t:TypeId} {cs:List Bool} [ts:TS P a e] (h:V6 B e sz R σ w v xs) (b:K (I xs.length) w):X5 P .len [a] t cs [v] w K:=Bo (J9.of_acc h) b
theorem Q38 {α:Type} {R:Q5→α→List Value→Prop} {B sz:Nat} {e:TypeId} {v:Value} {xs:List α} (h:V6 B e sz R σ w v xs):v.cells= #[v]∧v.oneCell'=true:=by
 obtain ⟨cells,a,_⟩:=h
 rcases a.2 with ⟨rfl,_⟩ | ⟨g,b,c,rfl,_⟩<;>exact ⟨rfl,rfl⟩
end Go.Emb
namespace Go.Proofs.YtfppjenblllfaaaGreatDoor
open Go.Emb Go.RowKit Go.Kd Go.Hm
variable {w : World} {K : Value → World → Prop} {σ : Q5} {v : Value} {l : List Cla}
theorem X0K (C:X4 w σ) (z:Glb σ) (h: ∀q w' σ',Stp w σ w' σ'→V6 w.heap.size T.a 8 U4 σ' w' q B5→K q w'):Q1 P F.cq [] w K:=Q4W (by
 unfold Au
 refine W1 (cells:= #[S Z7,S [], .slice none 0 0, .bool false, .bool false, .bool false, .slice none 0 0, .slice none 0 0]) (by kernel_rfl) ?_
 refine W1 (cells:= #[S P4,S N7, .bool false]) (by kernel_rfl) ?_
 refine E3 (R:=E6) (sz:=3) C [.agg #[S P4,S N7, .bool false]] [⟨P4,N7,false⟩] rfl rfl (by simp;rfl) rfl ⟨⟨rfl,by decide,by decide⟩,trivial⟩ fun M w1 σ1 c o=>?_
 have p:=o
 obtain ⟨y,b,rfl,_⟩:=p
 refine W1 (cells:= #[S W0,S Z7, .slice none 0 0, .bool false, .bool false, .bool false, .slice y 1 b, .slice none 0 0]) (by kernel_rfl) ?_
 refine Qb (R:=U4) (sz:=8) c [.agg #[S Z7,S [], .slice none 0 0, .bool false, .bool false, .bool false, .slice none 0 0, .slice none 0 0], .agg #[S W0,S Z7, .slice none 0 0, .bool false, .bool false, .bool false, .slice y 1 b, .slice none 0 0]]
  [⟨Z7,[],[],false,false,false,[],[]⟩,⟨W0,Z7,[],false,false,false,[⟨P4,N7,false⟩],[]⟩] rfl rfl (by simp;exact ⟨rfl,rfl⟩) rfl
  ⟨⟨_,_,_,rfl,Sl.nil,Sl.nil,Sl.nil,by decide,by decide⟩,⟨_,_,_,rfl,Sl.nil,o,Sl.nil,by decide,by decide⟩,trivial⟩ fun E N g i _=>?_
 have r:=z.lift ⟨c.le⟩
 refine Y7 (cs:=J4.map S) g.sat r.flt rfl ?_
 refine D2 6 (fun n a w'=> ∃σ',Stp w σ w' σ'∧V6 w.heap.size T.a 8 U4 σ' w' a ([⟨Z7,[],[],false,false,false,[],[]⟩,⟨W0,Z7,[],false,false,false,[⟨P4,N7,false⟩],[]⟩]++(J4.take n).map fun n=>⟨n,W0,[],false,false,true,[],[]⟩)) ⟨σ1,c.trans g,i⟩ fun n a J d L j=>?_
 obtain ⟨O,m,f⟩:=j
 have D:J4.length=6:=rfl
 refine Z0 ?_
 refine Q6 (fun hh=>?_) (fun hh=>?_)
 ·have e:n<6:=by have:=of_decide_eq_true hh;omega
  refine X02 (v:=S (J4[n]'(by omega))) e (by rw[List.getElem?_map,List.getElem?_eq_getElem (by omega)];rfl) ?_
  refine W1 (cells:= #[S (J4[n]'(by omega)),S W0, .slice none 0 0, .bool false, .bool false, .bool true, .slice none 0 0, .slice none 0 0]) (by kernel_rfl) ?_
  have k:(J4[n]'(by omega)).length≤10:=by
   have: ∀x∈J4,x.length≤10:=by decide
   exact this _ (List.getElem_mem _)
  refine Jm (x:=⟨J4[n]'(by omega),W0,[],false,false,true,[],[]⟩) m f ⟨_,_,_,rfl,Sl.nil,Sl.nil,Sl.nil,Nat.le_trans k (by decide),(by decide:W0.length≤Z9)⟩ rfl rfl rfl (by simp;omega) (by simp;omega) fun s q H B A u t _=>?_
  refine E5 ?_
  refine Z6 (by omega) e ⟨B,u,?_⟩
  rw[List.take_add_one,List.getElem?_eq_getElem (by omega),List.map_append,←List.append_assoc]
  exact t
 ·have e: ¬n<6:=by have:=of_decide_eq_false hh;omega
  rw[List.take_of_length_le (by omega)] at f
  exact h _ _ _ m f)
end Go.Proofs.YtfppjenblllfaaaGreatDoor

namespace Go.Hm
open Go.Kd
def L4 {α:Type} (f:α→Int):List α→Nat→Option (Nat×Int)
 | [],_=>none
 | x::r,i=>if f x=0 then L4 f r (i+1) else some (i,f x)
theorem F6 {α:Type} {f:α→Int}: ∀{l:List α} {i:Nat},L4 f l i=none→ ∀x∈l,f x=0
 | [],_,_=>by simp
 | x::r,i,h=>by
  simp only[L4] at h
  split at h
  ·rename_i a
   intro y hy
   rcases List.mem_cons.1 hy with rfl | hy
   ·exact a
   ·exact F6 h y hy
  ·cases h
def Er (a:List Cla):Option Nat:=(List.range a.length).find? fun i=>(Y4 (a.take i) (X9 a i)).isSome
def Q3 (l:List Cla):List Cla:=B5++l
def Dx (a:Cla→Int) (l:List Cla):Option (Int×Int):=match L4 a l 0 with
 | some (i,e)=>some (i,e)
 | none=>match Er (Q3 l) with
  | some i=>some ((i:Int)-8,60)
  | none=>match L4 (fun c=>(L5 (Q3 l) c:Int)) l 0 with
   | some (i,e)=>some (i,e)
   | none=>match l.findIdx? (G2 (Q3 l)) with
    | some i=>some (i,63)
    | none=>match (U8 (Q3 l) 8).find? fun j=> !decide (V1 (Q3 l) ((Q3 l).getD j Cla.zero)=0) with
     | some j=>some ((j:Int)-8,V1 (Q3 l) ((Q3 l).getD j Cla.zero))
     | none=>none
theorem Q4t {s:Q9} (h:name s=true):s.length≤32:=by
 cases s with
 | nil=>simp
 | cons c r=>simp only[name,Bool.and_eq_true,decide_eq_true_eq] at h;exact h.1.1
theorem Q9r {s:Q9} (h:W8 s=true):s.length≤32:=Q4t (Ll (by rw[h,Bool.or_true]))
theorem Q7c {s:Q9} (h:L6 s=true):s.length≤32:=by
 cases s with
 | nil=>simp
 | cons c r=>simp only[L6,Bool.and_eq_true] at h;exact Q4t h.1
theorem Bi {a:List Cla} (h:Er a=none):G6 a:=by
 unfold Er at h
 rw[List.find?_eq_none] at h
 unfold G6
 rw[List.nodup_iff_pairwise_ne,List.pairwise_iff_getElem]
 intro i j g b f e
 simp only[List.length_map] at g b
 have:=h j (by simp;exact b)
 apply this
 simp only[List.getElem_map] at e
 cases d:Y4 (a.take j) (X9 a j) with
 | some _=>rfl
 | none=>
  have c:=List.findIdx?_eq_none_iff.1 d a[i] (List.mem_take_iff_getElem.2 ⟨i,by omega,rfl⟩)
  have k:X9 a j=a[j].name:=by unfold X9;rw[List.getD_eq_getElem?_getD,List.getElem?_eq_getElem b];rfl
  rw[k] at c
  simp[e] at c
theorem Yl: ∀c∈B5,T0 c∧Nm c∧c.like=[]:=by
 have h: ∀c∈B5,(c.like=[]∧c.methods=[]∧c.fields.length≤1∧c.name.length≤100∧ ∀f∈c.fields,f.name.length≤100∧f.kind.length≤100):=by decide
 intro c d
 obtain ⟨b,a,i,e,g⟩:=h c d
 refine ⟨⟨by rw[b];simp,by omega,by rw[a];simp,by rw[a];simp⟩,⟨e,g,by rw[a];simp⟩,b⟩
theorem Q9a: ∀c∈B5,(c.name=Z7∧J3 c=[[]])∨(c.name=W0∧J3 c=[Z7])∨(c.name∈J4∧J3 c=[W0]):=by decide
theorem Q4d {l:List Cla} (q:G6 (Q3 l)) (t: ∀c∈l,c.name≠[]) (y: ∀c∈l,G2 (Q3 l) c=false):Yg (Q3 l):=by
 have k:lk (Q3 l) []=none:=by
  cases h:lk (Q3 l) [] with
  | none=>rfl
  | some c=>
   obtain ⟨e,hm,_⟩:=U1 h
   rcases List.mem_append.1 hm with hm | hm
   ·have: ∀c∈B5,c.name≠[]:=by decide
    exact absurd e (this c hm)
   ·exact absurd e (t c hm)
 have j:lk (Q3 l) Z7=some ⟨Z7,[],[],false,false,false,[],[]⟩:=q.lk (c:=⟨Z7,[],[],false,false,false,[],[]⟩) (List.mem_append_left _ (by decide))
 have i:lk (Q3 l) W0=some ⟨W0,Z7,[],false,false,false,[⟨P4,N7,false⟩],[]⟩:=q.lk (c:=⟨W0,Z7,[],false,false,false,[⟨P4,N7,false⟩],[]⟩) (List.mem_append_left _ (by decide))
 have o: ∀b,¬Reach (lk (Q3 l)) [] b:=fun b h=>by obtain ⟨c,f⟩:=h.left;rw[k] at f;cases f
 have p: ∀b,Reach (lk (Q3 l)) Z7 b→b=Z7:=by
  intro b h
  cases h with
  | refl=>rfl
  | step f d g=>
   rw[j] at f;cases f
   simp[J3] at d;subst d
   exact absurd g (o b)
 have r: ∀b,Reach (lk (Q3 l)) W0 b→b=W0∨b=Z7:=by
  intro b h
  cases h with
  | refl=>exact .inl rfl
  | step f d g=>
   rw[i] at f;cases f
   simp[J3] at d;subst d
   exact .inr (p b g)
 rintro a ⟨c,f,u,d,g⟩
 obtain ⟨e,hm,_⟩:=U1 f
 rcases List.mem_append.1 hm with hm | hm
 ·rcases Q9a c hm with ⟨m,n⟩ | ⟨m,n⟩ | ⟨m,n⟩<;>rw[n] at d<;>simp at d<;>subst d
  ·exact o _ g
  ·have:=p _ g
   rw[←e,m] at this
   exact absurd this (by decide)
  ·have w: ∀x∈J4,x≠W0∧x≠Z7:=by decide
   obtain ⟨z,v⟩:=w _ m
   rw[←e] at g
   rcases r _ g with h | h
   ·exact z h
   ·exact v h
 ·have:=y c hm
  unfold G2 at this
  have s:=List.any_eq_false.1 this u d
  apply s
  rw[List.contains_iff_mem,Zy,e];exact g
end Go.Hm
namespace Go.Proofs.YtfppjenblllfaaaGreatDoor
open Go.Emb Go.RowKit Go.Kd Go.Hm
theorem Q2u {s:Q9} (h:right s=true):s.length≤38:=by
 simp only[right,Bool.and_eq_true,decide_eq_true_eq] at h
 have e:=Q08 s
 have:(base s).1.length≤32:=by
  have d:=h.2
  have b:=Ll d
  cases a:(base s).1 with
  | nil=>simp
  | cons c r=>
   rw[a] at b
   simp only[name,Bool.and_eq_true,decide_eq_true_eq] at b
   exact b.1.1
 omega
theorem Se {c:Cla} (h:L7 c=0):T0 c∧Nm c∧c.name≠[]:=by
 unfold L7 at h
 split at h
 ·cases h
 ·rename_i b
  split at h
  ·rename_i g
   simp only[Xx,Bool.or_eq_true,decide_eq_true_eq,not_or,List.any_eq_true,not_exists,not_and] at b
   obtain ⟨⟨⟨r,u⟩,v⟩,B⟩:=b
   simp only[Wz,Bool.and_eq_true] at g
   obtain ⟨⟨⟨⟨⟨⟨⟨⟨l,w⟩,s⟩,z⟩,A⟩,t⟩,y⟩,n⟩,o⟩:=g
   have a:W8 c.name=true:=List.all_eq_true.1 l c.name (by simp)
   have d: ∀m∈c.methods,m.params.length≤32∧m.catches.length≤32∧m.code.length≤200:=fun m b=>by
    have:=r m b
    simp only[Uf,Bool.or_eq_true,decide_eq_true_eq,not_or] at this
    omega
   refine ⟨⟨by omega,by omega,by omega,fun m b=>by have:=d m b;unfold SmM;omega⟩,⟨by have:=Q9r a;omega,fun f k=>?_,fun m b=>?_⟩,fun e=>by rw[e] at a;simp[W8] at a⟩
   ·have:=List.all_eq_true.1 n f k
    simp only[Nj,Bool.and_eq_true] at this
    have j:=Q7c this.1
    have i:=Q2u this.2
    omega
   ·have:=List.all_eq_true.1 o m b
    simp only[C8,Bool.and_eq_true,Bool.or_eq_true,decide_eq_true_eq,List.all_eq_true] at this
    obtain ⟨⟨⟨_,j⟩,i⟩,_⟩:=this
    refine ⟨?_,fun p q=>by have:=Q2u (j p q);omega⟩
    rcases i with e | e
    ·rw[e];simp
    ·have:=Q2u e;omega
  ·cases h
end Go.Proofs.YtfppjenblllfaaaGreatDoor

namespace Go.Hm
open Go.Kd
theorem Ui {α:Type} {f:α→Int} {xs:List α} {n:Nat} (h:n<xs.length) (a:L4 f xs 0=L4 f (xs.drop n) n):L4 f xs 0=if f xs[n]=0 then L4 f (xs.drop (n+1)) (n+1) else some (n,f xs[n]):=by
 rw[a,List.drop_eq_getElem_cons h];rfl
theorem Q6o {a:List Cla} {n:Nat} (h:n<a.length) (k:Q9):Y4 (a.take (n+1)) k=match Y4 (a.take n) k with
 | some i=>some i
 | none=>if a[n].name=k then some n else none:=by
 unfold Y4
 rw[List.take_add_one,List.getElem?_eq_getElem h]
 simp only[Option.toList_some,List.findIdx?_append]
 cases (a.take n).findIdx? fun c=>decide (c.name=k) with
 | some i=>rfl
 | none=>
  simp only[Option.none_or,List.findIdx?_cons,List.findIdx?_nil,List.length_take]
  by_cases e:a[n].name=k
  ·simp[e];omega
  ·simp[e]
end Go.Hm
namespace Go.Proofs.YtfppjenblllfaaaGreatDoor
open Go.Emb Go.RowKit Go.Kd Go.Hm
variable {w : World} {K : Value → World → Prop} {σ : Q5} {v : Value} {l : List Cla}
theorem Ge {a:List Cla} {n:Nat} (h:n<a.length):X9 a n=a[n].name:=by unfold X9;rw[List.getD_eq_getElem?_getD,List.getElem?_eq_getElem h];rfl
set_option maxHeartbeats 1000000 in
theorem X20 {lv:Value} (hs:X4 w σ) (hg:Glb σ) (hl:Sl 8 U4 σ lv l) (hlen:l.length≤1000) (hsm: ∀c∈l,T0 c)
 (h1: ∀i e w' σ',Dx L7 l=some (i,e)→Stp w σ w' σ'→K (.tuple #[.pointer none,I i,I e]) w')
 (h0: ∀v w' σ',Dx L7 l=none→Stp w σ w' σ'→Tab σ' v (Q3 l)→Ok (Q3 l)→G6 (Q3 l)→K (.tuple #[v,I 0,I 0]) w'):Q1 P F.cG [lv] w K:=Q6x (by
 unfold Q1G
 have hgl:B5.length=8:=rfl
 have hal:(Q3 l).length=8+l.length:=by simp[Q3,hgl]
 refine X0K hs hg fun x0 w1 σ1 hk1 ha1=>?_
 refine Tq hk1.sat fun r w2 hr hk2 hm2=>?_
 have ha2:=ha1.up hk2
 have hx0:x0.cells= #[x0]∧x0.oneCell'=true:=Q38 ha1
 have hx0s: ∃a n c,x0= .slice a n c:=by
  obtain ⟨cells,q1,_⟩:=ha1
  rcases q1.2 with ⟨rfl,_⟩ | ⟨g,cap,cur,rfl,_⟩<;>exact ⟨_,_,_,rfl⟩
 have hx0r:x0.ownBlock≠some r:=fun e=>by have:=(ha1.mem r e).2.1;omega
 obtain ⟨a0,n0,c0,hx0e⟩:=hx0s
 rw[hx0e]
 refine W1 (cells:= #[.slice a0 n0 c0, .map (some r)]) (by kernel_rfl) ?_
 rw[←hx0e]
 refine Tl (cs:=[x0, .map (some r)]) hk2.sat fun bt w3 σ3 hbt hk3 hbm=>?_
 have hS3:=(hk1.trans hk2).trans hk3
 have ha3:=ha2.up hk3
 have hm3:=hm2.up hk3
 have hrw:w.heap.size≤r:=Nat.le_trans hk1.bel.size hr
 have hrl:r<w2.heap.size:=hm2.lt
 have hbtw:w.heap.size≤bt:=Zc hbt (hk1.trans hk2)
 have hrbt:r≠bt:=by omega
 have hx0b:x0.ownBlock≠some bt:=fun e=>by have:=(ha2.mem bt e).2.1;omega
 rw[E9,fa]
 refine Jx hbm rfl ?_
 refine Q6u ha3 ?_
 rw[hgl]
 have hl3:=hl.up hS3
 refine Q8 hl3 ?_
 -- classes, each by itself
 refine J0 l.length (fun n w'=> ∃σ' x,Stp w σ w' σ'∧SLe σ3 σ'∧Z5 σ' w' bt [x, .map (some r)]∧V6 w.heap.size T.a 8 U4 σ' w' x (B5++l.take n)∧E1 σ' w' r []∧x.ownBlock≠some bt∧x.ownBlock≠some r∧L4 L7 l 0=L4 L7 (l.drop n) n)
  ⟨σ3,x0,hS3,SLe.refl _,hbm,by simpa using ha3,hm3,hx0b,hx0r,rfl⟩ fun n w4 d hn hinv=>?_
 obtain ⟨σ4,x,hS4,le4,hb4,ha4,hm4,hxb,hxr,hfb⟩:=hinv
 refine Z0 ?_
 refine Q6 (fun hh=>?_) (fun hh=>?_)
 ·have hn':n<l.length:=by simpa using hh
  refine L8 (hl3.lift le4) hn' fun p cells hl1 hl2 hr1=>?_
  refine Y7 hS4.sat hl1 hl2 ?_
  refine Y5 hS4.sat (by rfl) hl2 (Rep.one hr1) fun q w5 σ5 hk5 hq5=>?_
  have hS5:=hS4.trans hk5
  have hr5:=RCl_lift hr1 ⟨hk5.le⟩
  refine Y7 hk5.sat hq5 hl2 ?_
  have hsmn:=hsm _ (List.getElem_mem hn')
  refine X0O hk5.sat (hg.lift ⟨hS5.le⟩) hr5 hsmn.1 fun w6 σ6 hk6=>?_
  have hS6:=hS5.trans hk6
  have hfb2:=Ui hn' hfb
  refine I4 ?_
  refine Q6 (fun hh2=>?_) (fun hh2=>?_)
  ·have hne: ¬L7 l[n]=0:=by simpa using hh2
   rw[if_neg hne] at hfb2
   refine h1 _ _ _ _ ?_ hS6
   unfold Dx
   rw[hfb2]
  ·have hz:L7 l[n]=0:=by simpa using hh2
   rw[if_pos hz] at hfb2
   have hk56:=hk5.trans hk6
   have hb6:=hb4.up hk56
   have ha6:=ha4.up hk56
   have hm6:=hm4.up hk56
   have hq6:=hq5.up hk6
   have hr6:=RCl_lift hr5 ⟨hk6.le⟩
   have hxs: ∀k,x.ownBlock=some k→k<w6.heap.size:=fun k hk=>(ha6.mem k hk).2.1
   refine U6 hk6.sat ?_
   refine X2 (.pointer (some ⟨bt,0,none⟩)) (fun w hb=>by rw[E9];exact X6 rfl) ?_
   refine X2 (.pointer (some ((⟨bt,0,none⟩:Addr).add 0))) (fun t w hb e=>by rw[e,fa];exact X6 rfl) ?_
   refine X2 x (fun t w hb e=>by rw[e];exact Jx (hb6.step hb.stp) rfl (X6 rfl)) ?_
   refine X2 (.agg cells.toArray) (fun w hb=>Y7 hb.sat hq6 hl2 (X6 rfl)) ?_
   refine Rh (Φ:=fun σ' v=> ∃ds:List Value,v= .agg ds.toArray∧ds.length=8∧U4 σ' l[n] ds) (fun t w hb e=>by
    rw[e];exact Q8W hb.sat hr6 hsmn fun lv fv mv w' σ' hk hrc=>Q1h hb hk ⟨_,rfl,rfl,hrc⟩) ?_
   refine Rh (w:=w6) (σ:=σ6) (Φ:=fun σ' v=>Sl 8 U4 σ' v [l[n]]) (fun t w hb e=>by
    obtain ⟨σ',hk,ds,rfl,hd1,hd2⟩:=e
    refine E3 (R:=U4) (sz:=8) hk.sat [.agg ds.toArray] [l[n]] rfl rfl (by simpa [Value.cells] using hd1) rfl ⟨by simpa [Value.cells] using hd2,trivial⟩ fun u w2 σ2 hk2 hu=>?_
    exact ⟨hk2.bel,σ2,hk.trans hk2,hu⟩) ?_
   rintro t43 t44 t45 t46 t47 t48 w7 hb7 _ _ e45 _ _ ⟨σ8,hk8,hu8⟩
   subst e45
   have hS8:=hS6.trans hk8
   have hb8:=hb6.up hk8
   have ha8:=ha6.up hk8
   have hm8:=hm6.up hk8
   have hbl:=hb6.lt
   have hml:=hm6.lt
   refine Ow hS8 ha8 hu8 rfl (by simp[hgl];omega) (by simp[hgl];omega) fun x' w9 hn9 hS9 ha9 hat9=>?_
   have hb9:=hb8.nx hn9 hxb
   have hm9:=hm8.nx hn9 hxr
   have hxb':x'.ownBlock≠some bt:=fun e=>by
    rcases hat9 with e2 | e2
    ·exact hxb (e2▸e)
    ·have:=e2 bt e;have:=hk8.bel.size;omega
   have hxr':x'.ownBlock≠some r:=fun e=>by
    rcases hat9 with e2 | e2
    ·exact hxr (e2▸e)
    ·have:=e2 r e;have:=hk8.bel.size;omega
   obtain ⟨hxc1,hxc2⟩:=Q38 ha9
   rw[E9,fa]
   refine Lx hb9 (by simp) hxc1 hxc2 fun w10 u10 hb10=>?_
   have hS10:=u10.stp hS9 hbtw hb9.1
   have k10:Kpt (fun k=>k=bt) w9 w10:=Kpt.of_upd u10 rfl
   refine E5 ?_
   refine Y2 hl3.max hn' ⟨σ8,x',hS10,le4.more ⟨fun b o e=>hk8.le _ _ (hk56.le _ _ e)⟩,hb10,?_,hm9.kp k10 hrbt,hxb',hxr',hfb2⟩
   have:=ha9.kp k10 fun k hk e=>hxb' (e▸hk)
   rw[List.take_add_one,List.getElem?_eq_getElem hn',←List.append_assoc]
   exact this
 have hn': ¬n<l.length:=by simpa using hh
 rw[List.take_of_length_le (by omega)] at ha4
 rw[List.drop_eq_nil_of_le (by omega)] at hfb
 have hfb:L4 L7 l 0=none:=hfb
 have hck:=F6 hfb
 have hcf: ∀c∈l,T0 c∧Nm c∧c.name≠[]:=fun c hc=>Se (hck c hc)
 have hsmall: ∀c∈Q3 l,T0 c:=fun c hc=>by
  rcases List.mem_append.1 hc with hc | hc
  ·exact (Yl c hc).1
  ·exact (hcf c hc).1
 have hnmall: ∀c∈Q3 l,Nm c:=fun c hc=>by
  rcases List.mem_append.1 hc with hc | hc
  ·exact (Yl c hc).2.1
  ·exact (hcf c hc).2.1
 have hlenall:(Q3 l).length≤100000:=by omega
 unfold Dx at h1 h0
 rw[hfb] at h1 h0
 simp only at h1 h0
 -- from now on the classes stay
 obtain ⟨σ5,hS5,hv5,le5,old5⟩:=ha4.keep hS4
 have hb5:Z5 σ5 w4 bt _:=⟨(old5 bt fun e=>hxb e.symm).trans hb4.1,hb4.2⟩
 have hm5:E1 σ5 w4 r []:=⟨(old5 r fun e=>hxr e.symm).trans hm4.1,hm4.2⟩
 obtain ⟨σ6,hS6,hb6,le6,old6⟩:=hb5.keep hS5 hbtw
 have hm6:E1 σ6 w4 r []:=⟨(old6 r hrbt).trans hm5.1,hm5.2⟩
 have hv6:Sl 8 U4 σ6 x (Q3 l):=hv5.le le6
 clear hb5 hb4 ha4
 rw[E9,fa]
 refine ld hS6.sat hb6 rfl ?_
 refine Q8 hv6 ?_
 refine J0 (Q3 l).length (fun n w'=> ∃σ' m,Stp w σ w' σ'∧SLe σ6 σ'∧E1 σ' w' r m∧(∀k,M0 m k=(Y4 ((Q3 l).take n) k).map (fun i:Nat=>I (i:Int)))∧ ∀j,j<n→(Y4 ((Q3 l).take j) (X9 (Q3 l) j)).isSome=false)
  ⟨σ6,[],hS6,SLe.refl _,hm6,by simp[M0,Y4],by intro j hj;omega⟩ fun n w5 d hn2 hinv=>?_
 obtain ⟨σ7,m,hS7,le7,hm7,hlm,hnd⟩:=hinv
 refine Z0 ?_
 refine Q6 (fun hh2=>?_) (fun hh2=>?_)
 ·have hn3:n<(Q3 l).length:=by simpa using hh2
  refine L8 (hv6.lift le7) hn3 fun p cells hl1 hl2 hr1=>?_
  refine Y7 hS7.sat hl1 hl2 ?_
  refine Y5 hS7.sat (by rfl) hl2 (Rep.one hr1) fun q w6 σ8 hk8 hq8=>?_
  obtain ⟨lv',fv,mv,rfl,f1,f2,f3,f4,f5⟩:=hr1
  have hS8:=hS7.trans hk8
  have le8:SLe σ6 σ8:=le7.more ⟨hk8.le⟩
  have hm8:=hm7.up hk8
  have hb8:=hb6.lift le8
  rw[fa]
  refine ld hk8.sat hq8 rfl ?_
  refine Nl ?_
  unfold Ze
  rw[E9,fa]
  refine ld hk8.sat hb8 rfl ?_
  refine Q4A X7 hm8.2 _ ?_
  refine U5 (vs:=[_,_]) rfl ?_
  refine U5 (vs:=[_,_]) rfl ?_
  have hna:=Ge hn3
  have hfd:=hlm (Q3 l)[n].name
  cases hfc:Y4 ((Q3 l).take n) (Q3 l)[n].name with
  | some i=>
   rw[hfc] at hfd
   rw[hfd]
   refine U3 ?_
   have hdup:Er (Q3 l)=some n:=by
    unfold Er
    rw[List.find?_range_eq_some]
    refine ⟨by rw[hna,hfc];rfl,by simpa using hn3,fun j hj=>by rw[hnd j hj];rfl⟩
   refine Dj ⟨by omega,by omega⟩ ?_
   refine h1 _ _ _ _ ?_ hS8
   rw[hdup]
   rfl
  | none=>
   rw[hfc] at hfd
   rw[hfd]
   refine V8 ?_
   refine U6 hk8.sat ?_
   refine X2 (.pointer (some ⟨bt,0,none⟩)) (fun w hb=>by rw[E9];exact X6 rfl) ?_
   refine X2 (.pointer (some ((⟨bt,0,none⟩:Addr).add 1))) (fun t w hb e=>by rw[e,fa];exact X6 rfl) ?_
   refine X2 (.pointer (some (q.add 0))) (fun w hb=>by rw[fa];exact X6 rfl) ?_
   refine X2 (.map (some r)) (fun t w hb e=>by rw[e];exact ld hb.sat hb8 rfl (X6 rfl)) ?_
   refine X2 (S (Q3 l)[n].name) (fun t w hb e=>by rw[e];exact ld hb.sat hq8 rfl (X6 rfl)) ?_
   rintro t71 t72 t74 t73 t75 w9 hb9 _ _ _ rfl rfl
   refine Ox X7 (hm8.up hb9.stp) _ (I n) fun w10 u10 hm10=>?_
   have hS9:=hS8.trans hb9.stp
   have hS10:=u10.stp hS9 hrw hm10.1
   refine E5 ?_
   refine Y2 (by omega) hn3 ⟨σ8,_,hS10,le8,hm10,fun k=>?_,fun j hj=>?_⟩
   ·rw[Q2Y,Q6o hn3 k]
    by_cases e:(Q3 l)[n].name=k
    ·subst e
     rw[if_pos rfl,hfc];simp
    ·rw[if_neg e,hlm k]
     cases Y4 ((Q3 l).take n) k with
     | some i=>rfl
     | none=>simp[e]
   ·by_cases e:j=n
    ·subst e;rw[hna,hfc];rfl
    ·exact hnd j (by omega)
 have hn3: ¬n<(Q3 l).length:=by simpa using hh2
 have hne:n=(Q3 l).length:=by omega
 subst hne
 rw[List.take_of_length_le (Nat.le_refl _)] at hlm
 have hdup:Er (Q3 l)=none:=by
  unfold Er
  rw[List.find?_eq_none]
  intro j hj
  rw[hnd j (by simpa using hj)];simp
 rw[hdup] at h1 h0
 simp only at h1 h0
 have hown:=Bi hdup
 obtain ⟨σ8,hS8,hm8,le8,_⟩:=hm7.keep hS7 hrw
 have le68:SLe σ6 σ8:=le7.more ⟨le8⟩
 have ht8:Tab σ8 (.pointer (some ⟨bt,0,none⟩)) (Q3 l):=⟨⟨bt,0,none⟩,x,r,m,rfl,hb6.lift le68,hv6.lift le68,hm8,hlm⟩
 have hb8:=hb6.lift le68
 have hv8:=hv6.lift le68
 clear hm7 hm8 hh2 hn3 hn2 hh hn' hn hnd
 have hdr:(Q3 l).drop 8=l:=by simp[Q3,hgl]
 rw[E9,fa]
 refine ld hS8.sat hb8 rfl ?_
 refine Sx hv8 (some (I (8:Nat))) none 8 (Q3 l).length (.inr rfl) (.inl ⟨rfl,rfl⟩) (by omega) (Nat.le_refl _) fun v9 hv9=>?_
 rw[hdr,List.take_of_length_le (by omega)] at hv9
 refine Q8 hv9 ?_
 refine J0 l.length (fun n w'=> ∃σ',Stp w σ w' σ'∧SLe σ8 σ'∧L4 (fun c=>(L5 (Q3 l) c:Int)) l 0=L4 (fun c=>(L5 (Q3 l) c:Int)) (l.drop n) n) ⟨σ8,hS8,SLe.refl _,rfl⟩ fun n w6 d hn hinv=>?_
 obtain ⟨σ9,hS9,le9,hfu⟩:=hinv
 refine Z0 ?_
 refine Q6 (fun hh=>?_) (fun hh=>?_)
 ·have hn':n<l.length:=by simpa using hh
  refine L8 (hv9.lift le9) hn' fun p cells hl1 hl2 hr1=>?_
  refine Y7 hS9.sat hl1 hl2 ?_
  refine Y5 hS9.sat (by rfl) hl2 (Rep.one hr1) fun q w7 σ10 hk10 hq10=>?_
  have hS10:=hS9.trans hk10
  refine Y7 hk10.sat hq10 hl2 ?_
  have hfu2:=Ui hn' hfu
  refine Q9k hk10.sat (ht8.lift (le9.more ⟨hk10.le⟩)) (RCl_lift hr1 ⟨hk10.le⟩) fun w8 σ11 hk11=>?_
  refine I4 ?_
  refine Q6 (fun hh2=>?_) (fun hh2=>?_)
  ·have hne: ¬(L5 (Q3 l) l[n]:Int)=0:=by simpa using hh2
   rw[if_neg hne] at hfu2
   refine h1 _ _ _ _ ?_ (hS10.trans hk11)
   rw[hfu2]
  ·have hz:(L5 (Q3 l) l[n]:Int)=0:=by simpa using hh2
   rw[if_pos hz] at hfu2
   refine E5 ?_
   exact Y2 hl3.max hn' ⟨σ11,hS10.trans hk11,le9.more ⟨fun b o e=>hk11.le _ _ (hk10.le _ _ e)⟩,hfu2⟩
 have hn': ¬n<l.length:=by simpa using hh
 rw[List.drop_eq_nil_of_le (by omega)] at hfu
 have hfu:L4 (fun c=>(L5 (Q3 l) c:Int)) l 0=none:=hfu
 rw[hfu] at h1 h0
 simp only at h1 h0
 have hup:=F6 hfu
 have ht9:=ht8.lift le9
 clear hh hn' hn
 rw[E9,fa]
 refine ld hS9.sat (hb8.lift le9) rfl ?_
 refine Sx (hv8.lift le9) (some (I (8:Nat))) none 8 (Q3 l).length (.inr rfl) (.inl ⟨rfl,rfl⟩) (by omega) (Nat.le_refl _) fun v10 hv10=>?_
 rw[hdr,List.take_of_length_le (by omega)] at hv10
 rw[Qm]
 refine Ch (G2 (Q3 l)) hS9.sat hv10 (fun c cs w7 K hc hs7 hr hlen hK=>Y9 (first:=[.pointer (some ⟨bt,0,none⟩)]) (caps:=[]) ?_) fun w7 hb7=>?_
 ·exact X0I hs7 ht9 hlenall hsmall hr fun w' σ' hk=>hK w' hk.bel
 have hS10:=hS9.trans (Stp.of_below hS9.sat hb7)
 refine Yb ?_
 rw[K1]
 cases hlo:l.findIdx? (G2 (Q3 l)) with
 | some i=>
  refine U3 ?_
  refine h1 _ _ _ _ ?_ hS10
  rw[hlo];rfl
 | none=>
  rw[hlo] at h1 h0
  simp only at h1 h0
  refine V8 ?_
  have hlo': ∀c∈l,G2 (Q3 l) c=false:=fun c hc=>List.findIdx?_eq_none_iff.1 hlo c hc
  have hacy:=Q4d hown (fun c hc=>(hcf c hc).2.2) hlo'
  have hfull:Q9h (Q3 l):=fun c hc u hu=>by
   rcases List.mem_append.1 hc with hc | hc
   ·rw[(Yl c hc).2.2] at hu;simp at hu
   ·have:=hup c hc
    unfold L5 at this
    split at this
    ·simp at this
    ·split at this
     ·simp at this
     ·rename_i hnb
      have hnb:c.like.any (O6 (Q3 l))=false:=eq_false_of_ne_true hnb
      have:=List.any_eq_false.1 hnb u hu
      unfold O6 at this
      cases hd:lk (Q3 l) u with
      | none=>rw[hd] at this;simp at this
      | some d=>exact ⟨d,rfl⟩
  have hok:Ok (Q3 l):=⟨hacy,hlenall,hsmall,hfull,hnmall⟩
  refine X0P (frm:=8) hS10.sat (ht9.lift ⟨(Stp.of_below hS9.sat hb7).le⟩) hacy hown hlenall hsmall (by omega) (by omega) fun v11 w8 σ11 hk11 hv11 hol hoi=>?_
  have hS11:=hS10.trans hk11
  have ht11:=ht9.lift ⟨fun b o e=>hk11.le _ _ e⟩
  refine Q8 hv11 ?_
  have hil:(ints (U8 (Q3 l) 8)).length=(U8 (Q3 l) 8).length:=by simp
  rw[hil]
  refine J0 (U8 (Q3 l) 8).length (fun n w'=> ∃σ',Stp w σ w' σ'∧SLe σ11 σ'∧ ∀j∈(U8 (Q3 l) 8).take n,V1 (Q3 l) ((Q3 l).getD j Cla.zero)=0) ⟨σ11,hS11,SLe.refl _,by simp⟩ fun n w9 d hn hinv=>?_
  obtain ⟨σ12,hS12,le12,hno⟩:=hinv
  refine Z0 ?_
  refine Q6 (fun hh=>?_) (fun hh=>?_)
  ·have hn':n<(U8 (Q3 l) 8).length:=by simpa using hh
   refine L8 (hv11.lift le12) (by rw[hil];exact hn') fun p cells hl1 hl2 hr1=>?_
   obtain ⟨rfl,_⟩:=hr1
   refine X8 hS12.sat hl1 rfl ?_
   simp only[List.getElem_map]
   rw[E9,fa]
   have le8x:SLe σ8 σ12:=le9.more (SLe.more ⟨hk11.le⟩ le12)
   refine ld hS12.sat (hb8.lift le8x) rfl ?_
   have hji:=hoi _ (List.getElem_mem hn')
   refine L8 (hv8.lift le8x) hji fun p2 cells hl1 hl2 hr1=>?_
   refine Y7 hS12.sat hl1 hl2 ?_
   have hat:(Q3 l).getD (U8 (Q3 l) 8)[n] Cla.zero=(Q3 l)[(U8 (Q3 l) 8)[n]]:=by rw[List.getD_eq_getElem?_getD,List.getElem?_eq_getElem hji];rfl
   have hmem:=List.getElem_mem hji
   refine Q7X hS12.sat (ht11.lift le12) hok hr1 (hsmall _ hmem) (hnmall _ hmem) fun w10 σ13 hk13=>?_
   have hS13:=hS12.trans hk13
   refine I4 ?_
   refine Q6 (fun hh2=>?_) (fun hh2=>?_)
   ·have hne: ¬V1 (Q3 l) (Q3 l)[(U8 (Q3 l) 8)[n]]=0:=by simpa using hh2
    refine Dj ⟨by omega,by omega⟩ ?_
    have hfind:(U8 (Q3 l) 8).find? (fun j=> !decide (V1 (Q3 l) ((Q3 l).getD j Cla.zero)=0))=some (U8 (Q3 l) 8)[n]:=by
     rw[List.find?_eq_some_iff_getElem]
     refine ⟨by rw[hat];simpa using hne,n,hn',rfl,fun j hj=>?_⟩
     have:=hno _ (List.mem_take_iff_getElem.2 ⟨j,by omega,rfl⟩)
     rw[this];simp
    have:=h1 (((U8 (Q3 l) 8)[n]:Int)-8) (V1 (Q3 l) (Q3 l)[(U8 (Q3 l) 8)[n]]) w10 σ13 (by rw[hfind];simp only[hat]) hS13
    exact this
   ·have hz:V1 (Q3 l) (Q3 l)[(U8 (Q3 l) 8)[n]]=0:=by simpa using hh2
    refine E5 ?_
    refine Y2 (by omega) hn' ⟨σ13,hS13,le12.more ⟨hk13.le⟩,fun j hj=>?_⟩
    rw[List.take_add_one,List.getElem?_eq_getElem hn'] at hj
    rcases List.mem_append.1 hj with hj | hj
    ·exact hno j hj
    ·simp at hj;subst hj;rw[hat];exact hz
  ·have hn': ¬n<(U8 (Q3 l) 8).length:=by simpa using hh
   rw[List.take_of_length_le (by omega)] at hno
   have hfind:(U8 (Q3 l) 8).find? (fun j=> !decide (V1 (Q3 l) ((Q3 l).getD j Cla.zero)=0))=none:=by
    rw[List.find?_eq_none]
    intro j hj
    rw[hno j hj];simp
   rw[hfind] at h0
   exact h0 _ _ _ rfl hS12 (ht11.lift le12) hok hown)
end Go.Proofs.YtfppjenblllfaaaGreatDoor

namespace Go.Hm
open Go.Kd
def Q81 (m:Hm.Met):Bool:= !(decide (50<m.code.length)||decide (8<m.params.length)||decide (8<m.catches.length))
def Q8N (c:Cla):Bool:= !(decide (6<c.like.length)||decide (6<c.fields.length)||decide (6<c.methods.length))&&c.methods.all Q81
def Q97 (l:List Cla):Bool:= !decide (12<l.length)&&l.all Q8N
def sA:Q9:=[65]
theorem Q7T {l:List Cla} (h:Q97 l=true):l.length≤12∧ ∀c∈l,Q8N c=true:=by
 simp only[Q97,Bool.and_eq_true,Bool.not_eq_true',decide_eq_false_iff_not,List.all_eq_true] at h
 exact ⟨by omega,h.2⟩
theorem X1n {l:List Cla} (h:Q97 l=true): ∀c∈l,T0 c:=by
 intro c e
 have:=(Q7T h).2 c e
 simp only[Q8N,Q81,Bool.and_eq_true,Bool.not_eq_true',Bool.or_eq_false_iff,decide_eq_false_iff_not,List.all_eq_true] at this
 obtain ⟨⟨⟨a,b⟩,g⟩,d⟩:=this
 refine ⟨by omega,by omega,by omega,fun m f=>?_⟩
 obtain ⟨⟨p,q⟩,r⟩:=d m f
 exact ⟨by omega,by omega,by omega⟩
end Go.Hm
namespace Go.Proofs.YtfppjenblllfaaaGreatDoor
open Go.Emb Go.RowKit Go.Kd Go.Hm
variable {w : World} {K : Value → World → Prop} {σ : Q5} {v : Value} {l : List Cla}
end Go.Proofs.YtfppjenblllfaaaGreatDoor

namespace Go.Proofs.YtfppjenblllfaaaGreatDoor
open Go.Emb Go.RowKit Go.Kd Go.Hm
variable {w : World} {K : Value → World → Prop} {σ : Q5} {v : Value} {l : List Cla}
theorem X1S:P.underlying T.s=some (.pointer T.u):=by kernel_rfl
theorem Q9e (d:Nat) (o:Option Addr):(Op.equalIn (d+1) T.s (.pointer o) (.pointer none)).run P w= .ok o.isNone w:=by
 cases o<;>simp[Op.equalIn,run_underlying X1S]
theorem Q8A {a:Addr} {b c:Operand} (h:K (.bool false) w):Q4 P .eql T.s b c (.pointer (some a)) (.pointer none) w K:=by
 have e:(Op.equal T.s (.pointer (some a)) (.pointer none)).run P w= .ok false w:=Q9e 9999 _
 unfold Q4
 rw[Y0 (v:= .bool false) (w':=w) (by simp[eqGuard,Go.binOp,e])]
 exact h
end Go.Proofs.YtfppjenblllfaaaGreatDoor

namespace Go.Hm
open Go.Kd
theorem Q4c {l:List Cla} {frm:Nat}: ∀(f:Nat) (a:List Nat) (i:Nat),(∀y∈a,y∈I0 l frm f a i)∧(0<f→frm≤i→i∈I0 l frm f a i):=by
 intro f
 induction f with
 | zero=>intro a i;exact ⟨fun y b=>b,fun h=>by omega⟩
 | succ f g=>
  intro a i
  have c: ∀(d:List Q9) (o:List Nat),∀y∈o,y∈d.foldl (fun a n=>I0 l frm f a ((Y4 l n).getD 0)) o:=by
   intro d
   induction d with
   | nil=>intro o y b;exact b
   | cons u r e=>intro o y b;exact e _ y ((g o _).1 y b)
  simp only[I0]
  split
  ·exact ⟨fun y b=>b,fun _ h=>by omega⟩
  ·split
   ·rename_i h;exact ⟨fun y b=>b,fun _ _=>h⟩
   ·exact ⟨fun y b=>List.mem_append_left _ (c _ _ y b),fun _ _=>by simp⟩
theorem Q7V {l:List Cla} {frm i:Nat} (e:frm≤i) (f:i<l.length):i∈U8 l frm:=by
 unfold U8
 have key: ∀(is b:List Nat),(∀y∈b,y∈is.foldl (fun b i=>I0 l frm (l.length+1) b i) b)∧(i∈is→i∈is.foldl (fun b i=>I0 l frm (l.length+1) b i) b):=by
  intro is
  induction is with
  | nil=>intro b;exact ⟨fun y d=>d,fun h=>by simp at h⟩
  | cons a r c=>
   intro b
   refine ⟨fun y d=>(c _).1 y ((Q4c _ _ _).1 y d),fun h=>?_⟩
   rcases List.mem_cons.1 h with rfl | h
   ·exact (c _).1 _ ((Q4c _ _ _).2 (by omega) e)
   ·exact (c _).2 h
 refine (key _ _).2 ?_
 rw[List.mem_drop_iff_getElem]
 exact ⟨i-frm,by simp;omega,by simp;omega⟩
theorem Q7B {s:Q9} (h:W8 s=true):name s=true:=Ll (by rw[h,Bool.or_true])
theorem Q4q {a:Q9} (h:name a=true):D3 a=false:=by
 cases e:D3 a with
 | false=>rfl
 | true=>
  exfalso
  have d:2≤a.length∧a.drop (a.length-2)=[91,93]:=by simpa [D3] using e
  have b:(93:UInt8)∈a:=List.mem_of_mem_drop (i:=a.length-2) (by rw[d.2];simp)
  cases a with
  | nil=>simp at b
  | cons c r=>
   simp only[name,Bool.and_eq_true,List.all_eq_true] at h
   have:=h.2 _ b
   revert this;decide
end Go.Hm
namespace Go.Proofs.YtfppjenblllfaaaGreatDoor
open Go.Emb Go.RowKit Go.Kd Go.Hm
theorem Q8h {a:Q9} (h:name a=true):base a=(a,0):=by rw[Xu,Q4q h];simp
theorem Lm {s:Q9} (h:W8 s=true):D3 s=false∧base s=(s,0)∧right s=true∧plain s=false∧elem s=[]∧s≠O9∧s≠[]:=by
 have a:=Hm.Q7B h
 have c:=Q4q a
 have b:=Q8h a
 refine ⟨c,b,?_,?_,by simp[elem,c],?_,?_⟩
 ·simp[right,b,h]
 ·cases d:plain s with
  | false=>rfl
  | true=>
   simp only[plain,Bool.or_eq_true,decide_eq_true_eq] at d
   rcases d with (e | e) | e<;>subst e<;>revert h<;>decide
 ·rintro rfl;revert h;decide
 ·rintro rfl;revert h;decide
structure Wf (l : List Cla) : Prop where
  ck : ∀ c ∈ l, L7 c = 0
  own : G6 (Q3 l)
  acy : Yg (Q3 l)
  up : ∀ c ∈ l, L5 (Q3 l) c = 0
  mem : ∀ c ∈ l, V1 (Q3 l) c = 0
theorem X1U {l:List Cla} (h:Dx L7 l=none):Wf l:=by
 unfold Dx at h
 split at h
 ·cases h
 rename_i p
 split at h
 ·cases h
 rename_i m
 split at h
 ·cases h
 rename_i j
 split at h
 ·cases h
 rename_i n
 split at h
 ·cases h
 rename_i k
 have d:=F6 p
 have a:=Bi m
 have g: ∀c∈l,G2 (Q3 l) c=false:=fun c b=>List.findIdx?_eq_none_iff.1 n c b
 refine ⟨d,a,Q4d a (fun c b=>(Se (d c b)).2.2) g,fun c b=>by have:=F6 j c b;omega,fun c b=>?_⟩
 obtain ⟨i,o,rfl⟩:=List.getElem_of_mem b
 have f:B5.length=8:=rfl
 have:=List.find?_eq_none.1 k (8+i) (Q7V (by omega) (by simp[Q3,f];omega))
 have e:(Q3 l).getD (8+i) Cla.zero=l[i]:=by
  rw[List.getD_eq_getElem?_getD,Q3,List.getElem?_append_right (by omega),f,show 8+i-8=i by omega,List.getElem?_eq_getElem o];rfl
 rw[e] at this
 simpa using this
section
variable {l : List Cla} (wf : Wf l)
include wf
theorem Wf.names {c:Cla} (hc:c∈Q3 l):W8 c.name=true:=by
 rcases List.mem_append.1 hc with hc | hc
 ·have: ∀c∈B5,W8 c.name=true:=by decide+kernel
  exact this c hc
 ·have:=wf.ck c hc
  unfold L7 at this
  split at this
  ·cases this
  ·split at this
   ·rename_i a
    simp only[Wz,Bool.and_eq_true] at a
    obtain ⟨⟨⟨⟨⟨⟨⟨⟨b,_⟩,_⟩,_⟩,_⟩,_⟩,_⟩,_⟩,_⟩:=a
    exact List.all_eq_true.1 b c.name (by simp)
   ·cases this
theorem Wf.lkn {n:Q9} {c:Cla} (h:lk (Q3 l) n=some c):W8 n=true:=by
 obtain ⟨e,a,_⟩:=U1 h
 rw[←e];exact wf.names a
theorem Wf.root:lk (Q3 l) Z7=some ⟨Z7,[],[],false,false,false,[],[]⟩:=wf.own.lk (c:=⟨Z7,[],[],false,false,false,[],[]⟩) (List.mem_append_left _ (by decide))
theorem Wf.fault:lk (Q3 l) W0=some ⟨W0,Z7,[],false,false,false,[⟨P4,N7,false⟩],[]⟩:=wf.own.lk (c:=⟨W0,Z7,[],false,false,false,[⟨P4,N7,false⟩],[]⟩) (List.mem_append_left _ (by decide))
theorem Wf.super {c:Cla} (hc:c∈Q3 l):c.name=Z7∨ ∃d,lk (Q3 l) c.super=some d:=by
 rcases List.mem_append.1 hc with hc | hc
 ·have: ∀c∈B5,c.name=Z7∨c.super=Z7∨c.super=W0:=by decide
  rcases this c hc with h | h | h
  ·exact .inl h
  ·exact .inr ⟨_,h▸wf.root⟩
  ·exact .inr ⟨_,h▸wf.fault⟩
 ·right
  have:=wf.up c hc
  unfold L5 at this
  split at this
  ·cases this
  ·rename_i h
   unfold P7 at h
   cases a:lk (Q3 l) c.super with
   | none=>rw[a] at h;simp at h
   | some d=>exact ⟨d,rfl⟩
theorem Wf.toRoot: ∀(k:Nat) {n:Q9} {c:Cla},B7 (Q3 l) n<k→lk (Q3 l) n=some c→Hm.Reach (lk (Q3 l)) n Z7:=by
 intro k
 induction k with
 | zero=>intro n c h;omega
 | succ k g=>
  intro n c j a
  obtain ⟨e,i,_⟩:=U1 a
  rcases wf.super i with h | ⟨d,b⟩
  ·rw[←e,h];exact .refl wf.root
  ·have f:c.super∈J3 c:=by simp[J3]
   exact .step a f (g (by have:=Qe wf.acy a f b;omega) b)
theorem Wf.atRoot {b:Q9} (h:Hm.Reach (lk (Q3 l)) Z7 b):b=Z7:=by
 cases h with
 | refl=>rfl
 | step c a f=>
  rw[wf.root] at c;cases c
  simp[J3] at a;subst a
  obtain ⟨d,e⟩:=f.left
  exact absurd (wf.lkn e) (by decide)
theorem Wf.kind {n:Q9} {c:Cla} (h:lk (Q3 l) n=some c):M4 (Q3 l) n=true:=by
 obtain ⟨g,b,a,f,i,e,d⟩:=Lm (wf.lkn h)
 have:Ag (Q3 l) n=true:=by rw[Q04,h];rfl
 simp[M4,a,b,this]
theorem Wf.sub_iff {a b:Q9}:V0 (Q3 l) a b=true↔M4 (Q3 l) a=true∧M4 (Q3 l) b=true∧(a=b∨(plain a=false∧plain b=false∧(a=O9∨(elem a≠[]∧b=Z7)∨(lk (Q3 l) a≠none∧Hm.Reach (lk (Q3 l)) a b)))):=by
 unfold V0
 cases k:M4 (Q3 l) a<;>cases m:M4 (Q3 l) b<;>simp
 by_cases e:a=b
 ·simp[e]
 cases pa:plain a<;>cases j:plain b<;>simp[e]
 by_cases g:a=O9
 ·simp[g]
 simp only[g,false_or]
 by_cases d:elem a=[]
 ·simp only[d,if_true,not_true_eq_false,false_and,false_or,Zy]
  constructor
  ·intro h;obtain ⟨c,i⟩:=h.left;exact ⟨by rw[i];simp,h⟩
  ·intro h;exact h.2
 ·simp only[d,if_false,not_false_eq_true,true_and]
  constructor
  ·exact .inl
  ·rintro (h | ⟨h,_⟩)
   ·exact h
   ·cases f:lk (Q3 l) a with
    | none=>exact absurd f h
    | some c=>exact absurd (Lm (wf.lkn f)).2.2.2.2.1 d
theorem Wf.sub_class {a b:Q9} {c:Cla} (e:lk (Q3 l) a=some c):V0 (Q3 l) a b=true↔Hm.Reach (lk (Q3 l)) a b:=by
 obtain ⟨m,o,k,j,g,i,n⟩:=Lm (wf.lkn e)
 rw[wf.sub_iff]
 constructor
 ·rintro ⟨_,_,rfl | ⟨_,_,h | ⟨h,_⟩ | ⟨_,h⟩⟩⟩
  ·exact .refl e
  ·exact absurd h i
  ·exact absurd g h
  ·exact h
 ·intro h
  obtain ⟨d,f⟩:=h.right
  exact ⟨wf.kind e,wf.kind f, .inr ⟨j,(Lm (wf.lkn f)).2.2.2.1, .inr (.inr ⟨by rw[e];simp,h⟩)⟩⟩
end
end Go.Proofs.YtfppjenblllfaaaGreatDoor

namespace Go.Proofs.YtfppjenblllfaaaGreatDoor
open Go.Emb Go.RowKit Go.Kd Go.Hm
theorem Q0P {L:List Cla} (g:Yg L): ∀(k:Nat) {n:Q9} {c:Cla},B7 L n<k→c∈chain L n→Hm.Reach (lk L) n c.name∧lk L c.name=some c:=by
 intro k
 induction k with
 | zero=>intro n c h;omega
 | succ k j=>
  intro n c p hc
  rw[F8 g] at hc
  cases a:lk L n with
  | none=>rw[a] at hc;simp at hc
  | some d=>
   rw[a] at hc
   have b:=(U1 a).1
   rcases List.mem_cons.1 hc with rfl | hc
   ·rw[b];exact ⟨.refl a,a⟩
   ·cases i:lk L d.super with
    | none=>rw[P0 i] at hc;simp at hc
    | some e=>
     have f:d.super∈J3 d:=by simp[J3]
     obtain ⟨m,o⟩:=j (by have:=Qe g a f i;omega) hc
     exact ⟨.step a f m,o⟩
theorem Q8P {l:List Cla} {a:Q9} (h:M4 (Q3 l) a=true) (f:plain a=false):a=O9∨elem a≠[]∨ ∃c,lk (Q3 l) a=some c:=by
 simp only[M4,Bool.or_eq_true,decide_eq_true_eq,Bool.and_eq_true] at h
 rcases h with h | ⟨e,h⟩
 ·exact .inl h
 ·by_cases d:elem a=[]
  ·right;right
   have b:D3 a=false:=by
    cases b:D3 a with
    | false=>rfl
    | true=>
     have i:=Q85 b e
     have:elem a=Kd.cutA a:=by simp[elem,b,e]
     rw[this] at d
     have:=B4 b
     rw[d] at this;simp at this;omega
   have g:base a=(a,0):=by rw[Xu,b];simp
   rw[g,f] at h
   have h:Ag (Q3 l) a=true:=by simpa using h
   rw[Q04] at h
   exact Option.isSome_iff_exists.1 h
  ·exact .inr (.inl d)
section
variable {l : List Cla} (wf : Wf l)
include wf
theorem Wf.kRoot:M4 (Q3 l) Z7=true:=wf.kind wf.root
theorem Wf.none_null:lk (Q3 l) O9=none:=by
 cases h:lk (Q3 l) O9 with
 | none=>rfl
 | some c=>exact absurd (wf.lkn h) (by decide)
theorem Wf.sub_root {a:Q9} (h:M4 (Q3 l) a=true) (b:plain a=false):V0 (Q3 l) a Z7=true:=by
 rw[wf.sub_iff]
 refine ⟨h,wf.kRoot, .inr ⟨b,by decide,?_⟩⟩
 rcases Q8P h b with e | e | ⟨c,e⟩
 ·exact .inl e
 ·exact .inr (.inl ⟨e,rfl⟩)
 ·exact .inr (.inr ⟨by rw[e];simp,wf.toRoot _ (Nat.lt_succ_self _) e⟩)
theorem Wf.sub_refl {a:Q9} (h:M4 (Q3 l) a=true):V0 (Q3 l) a a=true:=wf.sub_iff.2 ⟨h,h, .inl rfl⟩
theorem Wf.chain_sub {a:Q9} {c:Cla} (h:c∈chain (Q3 l) a):V0 (Q3 l) a c.name=true:=by
 obtain ⟨b,f⟩:=Q0P wf.acy _ (Nat.lt_succ_self _) h
 obtain ⟨d,e⟩:=b.left
 exact (wf.sub_class e).2 b
theorem Wf.join_above (a b:Q9):L1 (Q3 l) a b=[]∨V0 (Q3 l) a (L1 (Q3 l) a b)=true∧V0 (Q3 l) b (L1 (Q3 l) a b)=true:=by
 unfold L1
 split
 ·rename_i h;exact .inr ⟨h,wf.sub_refl (wf.sub_iff.1 h).2.1⟩
 split
 ·rename_i h;exact .inr ⟨wf.sub_refl (wf.sub_iff.1 h).2.1,h⟩
 split
 ·exact .inl rfl
 rename_i k j d
 right
 simp only[Bool.or_eq_true,Bool.not_eq_true',not_or,Bool.not_eq_false,Bool.not_eq_true] at d
 obtain ⟨⟨⟨g,i⟩,pa⟩,f⟩:=d
 cases e:(chain (Q3 l) a).find? fun c=>V0 (Q3 l) b c.name with
 | none=>exact ⟨wf.sub_root g pa,wf.sub_root i f⟩
 | some c=>
  exact ⟨wf.chain_sub (List.mem_of_find?_eq_some e),by simpa using List.find?_some e⟩
end
end Go.Proofs.YtfppjenblllfaaaGreatDoor

namespace Go.Hm
open Go.Kd
structure Shp where
  seen : Bool
  stack : List Q9
  locals : List Q9
deriving DecidableEq
def Shp.zero:Shp:=⟨false,[],[]⟩
def G3 (l:List Cla) (a b:Q9):Q9:=if a=[]∨b=[] then [] else L1 l a b
def C1 (l:List Cla) (a b:Shp):Shp×Int:=
 if a.seen=false then (b,0) else if b.seen=false then (a,0)
 else if a.stack.length≠b.stack.length∨a.locals.length≠b.locals.length then (Shp.zero,75)
 else if (List.zipWith (L1 l) a.stack b.stack).any (fun s=>decide (s=[])) then (Shp.zero,75)
 else (⟨true,List.zipWith (L1 l) a.stack b.stack,List.zipWith (G3 l) a.locals b.locals⟩,0)
def Cu (l:List Cla) (a b:Shp):Bool:=
 decide (a.stack.length=b.stack.length)&&decide (a.locals.length=b.locals.length)&&(List.zipWith (V0 l) a.stack b.stack).all id&&(List.zipWith (fun x y=>decide (y=[])||V0 l x y) a.locals b.locals).all id
theorem Hu (l:List Cla):M4 l []=false:=by
 have:right []=false:=by decide
 simp[M4,this,O9]
theorem Q00 (l:List Cla) (a:Q9):V0 l a []=false:=by
 unfold V0;rw[Hu];simp
theorem Q63 (l:List Cla) (a:Q9):V0 l [] a=false:=by
 unfold V0;rw[Hu];simp
theorem Q4V (l:List Cla) (a b:Q9):G3 l a b=L1 l a b:=by
 unfold G3
 split
 ·rename_i h
  unfold L1
  rcases h with rfl | rfl
  ·rw[Q63,Q00,Hu];simp
  ·rw[Q63,Q00,Hu];simp
 ·rfl
end Go.Hm
namespace Go.Proofs.YtfppjenblllfaaaGreatDoor
open Go.Emb Go.RowKit Go.Kd Go.Hm
section
variable {l : List Cla} (wf : Wf l)
include wf
theorem Wf.join_nil {a b:Q9}:L1 (Q3 l) a b=[]↔V0 (Q3 l) a b=false∧V0 (Q3 l) b a=false∧(M4 (Q3 l) a=false∨M4 (Q3 l) b=false∨plain a=true∨plain b=true):=by
 unfold L1
 split
 ·rename_i h
  constructor
  ·rintro rfl;rw[Q00] at h;cases h
  ·intro d;rw[h] at d;cases d.1
 rename_i h
 split
 ·rename_i f
  constructor
  ·rintro rfl;rw[Q00] at f;cases f
  ·intro d;rw[f] at d;cases d.2.1
 rename_i f
 split
 ·rename_i d
  simp only[true_iff]
  refine ⟨by simpa using h,by simpa using f,?_⟩
  simpa [or_assoc] using d
 ·rename_i d
  constructor
  ·intro e
   exfalso
   split at e
   ·rename_i c g
    have i:=List.mem_of_find?_eq_some g
    have:=Rk i
    exact (Lm (wf.names this)).2.2.2.2.2.2 e
   ·revert e;decide
  ·rintro ⟨_,_,e⟩
   exfalso
   apply d
   simpa [or_assoc] using e
theorem Wf.join_symm {a b:Q9}:L1 (Q3 l) a b=[]↔L1 (Q3 l) b a=[]:=by
 rw[wf.join_nil,wf.join_nil]
 constructor
 ·rintro ⟨e,d,c⟩;exact ⟨d,e,by rcases c with h | h | h | h<;>simp[h]⟩
 ·rintro ⟨e,d,c⟩;exact ⟨d,e,by rcases c with h | h | h | h<;>simp[h]⟩
theorem Wf.merge_symm (a b:Shp) (e:a.seen=true) (f:b.seen=true):(C1 (Q3 l) b a).2=(C1 (Q3 l) a b).2:=by
 unfold C1
 simp only[e,f,Bool.true_eq_false,if_false]
 have c:(b.stack.length≠a.stack.length∨b.locals.length≠a.locals.length)↔(a.stack.length≠b.stack.length∨a.locals.length≠b.locals.length):=by constructor<;>rintro (h | h)<;>simp[Ne.symm h]
 have d:(List.zipWith (L1 (Q3 l)) b.stack a.stack).any (fun s=>decide (s=[]))=(List.zipWith (L1 (Q3 l)) a.stack b.stack).any (fun s=>decide (s=[])):=by
  generalize a.stack=x
  generalize b.stack=y
  induction x generalizing y with
  | nil=>cases y<;>rfl
  | cons p x g=>
   cases y with
   | nil=>rfl
   | cons q y=>
    simp only[List.zipWith_cons_cons,List.any_cons,g]
    congr 1
    exact decide_eq_decide.2 wf.join_symm
 simp only[c,d]
 split
 ·rfl
 split<;>rfl
theorem Wf.merge_above (a b:Shp) (o:a.seen=true) (n:b.seen=true) (h:(C1 (Q3 l) a b).2=0):Cu (Q3 l) a (C1 (Q3 l) a b).1=true∧Cu (Q3 l) b (C1 (Q3 l) a b).1=true:=by
 unfold C1 at*
 simp only[o,n,Bool.true_eq_false,if_false] at*
 split at h
 ·cases h
 rename_i j
 split at h
 ·cases h
 rename_i d
 rw[if_neg j,if_neg d]
 obtain ⟨q,p⟩:a.stack.length=b.stack.length∧a.locals.length=b.locals.length:=by
  constructor
  ·exact Classical.byContradiction fun h=>j (.inl h)
  ·exact Classical.byContradiction fun h=>j (.inr h)
 have d: ∀i (c:i<a.stack.length) (f:i<b.stack.length),L1 (Q3 l) a.stack[i] b.stack[i]≠[]:=fun i c f e=>by
  apply d
  rw[List.any_eq_true]
  exact ⟨L1 (Q3 l) a.stack[i] b.stack[i],List.mem_iff_getElem.2 ⟨i,by simp;omega,by simp⟩,by simpa using e⟩
 have k: ∀i (c:i<a.stack.length) (f:i<b.stack.length),V0 (Q3 l) a.stack[i] (L1 (Q3 l) a.stack[i] b.stack[i])=true∧V0 (Q3 l) b.stack[i] (L1 (Q3 l) a.stack[i] b.stack[i])=true:=fun i c f=>(wf.join_above _ _).resolve_left (d i c f)
 have m: ∀x y:Q9,(G3 (Q3 l) x y=[]∨V0 (Q3 l) x (G3 (Q3 l) x y)=true)∧(G3 (Q3 l) x y=[]∨V0 (Q3 l) y (G3 (Q3 l) x y)=true):=fun x y=>by
  rw[Q4V]
  rcases wf.join_above x y with h | h
  ·exact ⟨.inl h, .inl h⟩
  ·exact ⟨.inr h.1, .inr h.2⟩
 have key: ∀(s:Shp),s=a∨s=b→Cu (Q3 l) s ⟨true,List.zipWith (L1 (Q3 l)) a.stack b.stack,List.zipWith (G3 (Q3 l)) a.locals b.locals⟩=true:=by
  rintro s (rfl | rfl)<;>
  ·unfold Cu
   simp only[Bool.and_eq_true,decide_eq_true_eq,List.length_zipWith]
   refine ⟨⟨⟨by omega,by omega⟩,?_⟩,?_⟩
   ·rw[List.all_eq_true]
    intro x g
    obtain ⟨i,c,rfl⟩:=List.mem_iff_getElem.1 g
    simp only[List.length_zipWith] at c
    simp only[List.getElem_zipWith,id]
    first | exact (k i (by omega) (by omega)).1 | exact (k i (by omega) (by omega)).2
   ·rw[List.all_eq_true]
    intro x g
    obtain ⟨i,c,rfl⟩:=List.mem_iff_getElem.1 g
    simp only[List.length_zipWith] at c
    simp only[List.getElem_zipWith,id,Bool.or_eq_true,decide_eq_true_eq]
    first | exact (m _ _).1 | exact (m _ _).2
 exact ⟨key a (.inl rfl),key b (.inr rfl)⟩
end
end Go.Proofs.YtfppjenblllfaaaGreatDoor

namespace Go.Emb
open Go.RowKit Go.Hm
def U7 (σ:Q5) (s:Shp) (cs:List Value):Prop:= ∃sv a,cs=[.bool s.seen,sv,a]∧Sl 1 Y1 σ sv s.stack∧Sl 1 Y1 σ a s.locals
instance:Rep U7:=⟨fun hk ⟨sv,lv,h1,h2,h3⟩=>⟨sv,lv,h1,h2.le hk,h3.le hk⟩,fun ⟨sv,lv,h1,h2,h3⟩ u hu=>by
 rw[h1] at hu;simp at hu;rcases hu with rfl | rfl | rfl
 ·rfl
 ·exact G1 h2
 ·exact G1 h3⟩
end Go.Emb
namespace Go.Proofs.YtfppjenblllfaaaGreatDoor
open Go.Emb Go.RowKit Go.Kd Go.Hm Go.ChangeShapes Go.WideShapes
section
variable {H : Type} {enc : TypeId × Value → H} {W : World} {cs : List Value} {fuel : Nat} {x : DataW H × List MemPlace} {v : Value} {d : DataW H} {p : List MemPlace}
def X2a:Array Field:= #[⟨"Seen",T.m,0,false, "", "",0⟩,⟨"Stack",T.d,1,false, "", "",8⟩,⟨"Locals",T.d,2,false, "", "",32⟩]
theorem Q20:P.underlying T.f=some (.struct X2a):=by kernel_rfl
theorem X1h (h:DataW.trod enc P W 0 (fun _=>true) true fuel T.f cs=some x) (a:Wt P T.f x.1): ∃y,U7 (Ug W) y cs:=by
 obtain ⟨t,w,r,rfl⟩:=Q6m (X1x Q20 (by kernel_rfl) h)
 obtain ⟨_,_,k,w0⟩:=Q2c (o:=0) Q20 h a 0 rfl Q8i
 obtain ⟨_,_,n,w1⟩:=Q2c (o:=1) Q20 h a 1 rfl (by kernel_rfl)
 obtain ⟨_,_,l,q⟩:=Q2c (o:=2) Q20 h a 2 rfl (by kernel_rfl)
 obtain ⟨g,e⟩:=X0i Pp k
 obtain ⟨s,i,b,j⟩:=Q9N (R:=Y1) Q8E Gf (by decide) (fun _ _ _ h a=>Q7U X7 h a) n w1
 obtain ⟨u,m,c,f⟩:=Q9N (R:=Y1) Q8E Gf (by decide) (fun _ _ _ h a=>Q7U X7 h a) l q
 simp at e b c
 subst e b c
 exact ⟨⟨g,i,m⟩,_,_,rfl,j,f⟩
set_option maxRecDepth 100000 in
theorem Q7H {base:Nat} (b:Value.okWide P W .any base T.f v) (h:DataW.Trod enc P W 0 (fun _=>true) true T.f v d p) (c:Wt P T.f d): ∃y cs,v= .agg (List.toArray cs)∧U7 (Ug W) y cs:=by
 have a:=b
 unfold Value.okWide at a
 rw[Q20] at a
 obtain ⟨cs,rfl,_⟩:=a
 unfold DataW.Trod at h
 obtain ⟨fuel,h⟩:=h
 obtain ⟨y,e⟩:=X1h h c
 obtain ⟨cs⟩:=cs
 exact ⟨y,cs,rfl,by simpa [Value.cells] using e⟩
end
end Go.Proofs.YtfppjenblllfaaaGreatDoor

namespace Go.Proofs.YtfppjenblllfaaaGreatDoor
open Go.Emb Go.RowKit Go.Kd Go.Hm
variable {w : World} {K : Value → World → Prop} {σ : Q5}
end Go.Proofs.YtfppjenblllfaaaGreatDoor

namespace Go.Proofs.YtfppjenblllfaaaGreatDoor
open Go.Emb Go.RowKit Go.Kd Go.Hm
variable {w : World} {K : Value → World → Prop} {σ : Q5} {l : List Cla} {v : Value}
theorem F7 {n:Q9} (u:X4 w σ) (m:Sl 8 U4 σ v l) (h:K (I (W5 (Y4 l n))) w):Q1 P F.c [v,S n] w K:=Kp (by
 unfold Lv
 refine J0 l.length (fun k w'=>w'=w∧ ∀j (g:j<l.length),j<k→ ¬l[j].name=n) ⟨rfl,fun j _ h=>by omega⟩ fun k w1 d B t=>?_
 obtain ⟨rfl,f⟩:=t
 refine Q8 m ?_
 refine Z0 ?_
 refine Q6 (fun i=>?_) (fun i=>?_)
 ·have a:k<l.length:=by simpa using i
  refine L8 m a fun p cells o q r=>?_
  obtain ⟨E,H,mv,rfl,C,y,D,z,A⟩:=r
  rw[fa]
  refine ld u o rfl ?_
  refine Nd ?_
  refine Q6 (fun b=>?_) (fun b=>?_)
  ·have b:l[k].name=n:=by simpa using b
   have:Y4 l n=some k:=by
    unfold Y4
    rw[List.findIdx?_eq_some_iff_getElem]
    exact ⟨a,by simpa using b,fun j g=>by simpa using f j (by omega) g⟩
   rw[this] at h
   exact h
  ·have b: ¬l[k].name=n:=by simpa using b
   refine E5 ?_
   refine Y2 m.max a ⟨rfl,fun j g s=>?_⟩
   by_cases e:j=k
   ·subst e;exact b
   ·exact f j g (by omega)
 ·have a: ¬k<l.length:=by simpa using i
  have:Y4 l n=none:=by
   unfold Y4
   rw[List.findIdx?_eq_none_iff]
   intro c i
   obtain ⟨j,g,rfl⟩:=List.getElem_of_mem i
   simpa using f j g (by omega)
  rw[this] at h
  exact h)
end Go.Proofs.YtfppjenblllfaaaGreatDoor

namespace Go.Proofs.YtfppjenblllfaaaGreatDoor
open Go.Emb Go.RowKit Go.Kd Go.Hm
variable {w : World} {K : Value → World → Prop} {σ : Q5} {l : List Cla} {v : Value}
theorem Q4k {a:Q9} (c:a.length≤Z9) (h:K (S (base a).1) w):Q1 P F.aI [S a] w K:=Ks (by
 unfold Mh
 have d:=Q08 a
 have b:a.length≤140737488355328:=by simp only[Z9] at c;omega
 rw[D5 X7]
 refine Q13 a b ?_
 (try simp only[↓Mr,Mr,Mb,reduceIte])
 rw[F0 (n:=2*((base a).2:Int)) (by omega) (by omega),F0 (by omega) (by omega),K2 X7 (by omega) (by omega)]
 rw[show ((a.length:Int)-2*((base a).2:Int)).toNat=a.length-2*(base a).2 from by omega,Q2A]
 exact h)
theorem Ec {s:Q9} (g:X4 w σ) (f:Sl 8 U4 σ v l) (c:s.length≤Z9) (h:K (.bool (M4 l s)) w):Q1 P F.a8 [v,S s] w K:=Km (by
 unfold Lu
 have b:s.length≤140737488355328:=by simp only[Z9] at c;omega
 unfold M4 at h
 refine Nd ?_
 by_cases a:s=O9
 ·have:decide (s=[110,117,108,108])=true:=by rw[decide_eq_true_eq];exact a
  simp only[this,↓M1,M1,Mb,reduceIte]
  simp only[a,decide_true,Bool.true_or] at h
  exact h
 ·have:decide (s=[110,117,108,108])=false:=by rw[decide_eq_false_iff_not];exact a
  simp only[this,↓M1,M1,Mb,reduceIte]
  simp only[a,decide_false,Bool.false_or] at h
  refine Uw s b ?_
  cases e:right s with
  | false=>(try simp only[↓M1,M1,Mb,reduceIte]);simpa [e] using h
  | true=>
   (try simp only[↓M1,M1,Mb,reduceIte])
   refine Q4k c ?_
   (try simp only[↓M1,M1,Mb,reduceIte])
   refine Oc _ ?_
   simp only[e,Bool.true_and] at h
   cases d:plain (base s).1 with
   | true=>(try simp only[↓M1,M1,Mb,reduceIte]);simpa [d] using h
   | false=>
    (try simp only[↓M1,M1,Mb,reduceIte])
    refine Q4k c ?_
    (try simp only[↓M1,M1,Mb,reduceIte])
    refine F7 g f ?_
    refine Yb ?_
    rw[K1]
    (try simp only[↓M1,M1,Mb,reduceIte])
    simpa [d,Ag] using h)
end Go.Proofs.YtfppjenblllfaaaGreatDoor

namespace Go.Proofs.YtfppjenblllfaaaGreatDoor
open Go.Emb Go.RowKit Go.Kd Go.Hm
variable {w : World} {K : Value → World → Prop} {σ : Q5} {l : List Cla} {v : Value}
theorem Q7q {s:Q9} (c:X4 w σ) (b:Sl 8 U4 σ v l) (d:s.length≤Z9) (h:K (.bool (D7 l s)) w):Q1 P F.bg [v,S s] w K:=Gi (by
 unfold Vv
 unfold D7 at h
 refine Lf ?_
 have e:decide (s=[110,117,108,108])=decide (s=O9):=rfl
 rw[e]
 cases a:decide (s=O9) with
 | true=>
  rw[a] at h
  (try simp only[↓M1,M1,Mb,reduceIte])
  exact h
 | false=>
  rw[a] at h
  (try simp only[↓M1,M1,Mb,reduceIte])
  refine Ec c b d ?_
  (try simp only[↓M1,M1,Mb,reduceIte])
  simpa using h)
end Go.Proofs.YtfppjenblllfaaaGreatDoor

namespace Go.Proofs.YtfppjenblllfaaaGreatDoor
open Go.Emb Go.RowKit Go.Kd Go.Hm
variable {w : World} {K : Value → World → Prop} {σ : Q5} {l : List Cla} {v : Value}
def Ei (c:Cla) (n:Q9):Option Nat:=c.methods.findIdx? fun m=>decide (m.name=n)
theorem Q5T {c:Cla} {cs:List Value} {n:Q9} (B:X4 w σ) (r:U4 σ c cs) (h: ∀w' C,Stp w σ w' C→K (I (W5 (Ei c n))) w'):Q1 P F.aR [.agg cs.toArray,S n] w K:=Pe (by
 unfold Nv
 obtain ⟨X,Y,mv,rfl,R,E,o,J,M⟩:=r
 refine Y8 B fun q w0 σ0 a t=>?_
 have o:=o.up a
 refine J0 c.methods.length (fun k w'=>w'=w0∧ ∀j (i:j<c.methods.length),j<k→ ¬c.methods[j].name=n) ⟨rfl,fun j _ h=>by omega⟩ fun k w1 d O A=>?_
 obtain ⟨rfl,g⟩:=A
 rw[fa]
 refine ld a.sat t rfl ?_
 refine Q8 o ?_
 refine Z0 ?_
 refine Q6 (fun r=>?_) (fun r=>?_)
 ·have b:k<c.methods.length:=by simpa using r
  rw[fa]
  refine ld a.sat t rfl ?_
  refine L8 o b fun p cells s u y=>?_
  obtain ⟨pv,U,N,rfl,V,H,Q,W,L⟩:=y
  rw[fa]
  refine ld a.sat s rfl ?_
  refine Nd ?_
  refine Q6 (fun f=>?_) (fun f=>?_)
  ·have f:c.methods[k].name=n:=by simpa using f
   have:Ei c n=some k:=by
    unfold Ei
    rw[List.findIdx?_eq_some_iff_getElem]
    exact ⟨b,by simpa using f,fun j i=>by simpa using g j (by omega) i⟩
   rw[this] at h
   exact h _ _ a
  ·have f: ¬c.methods[k].name=n:=by simpa using f
   refine E5 ?_
   refine Y2 o.max b ⟨rfl,fun j i z=>?_⟩
   by_cases e:j=k
   ·subst e;exact f
   ·exact g j i (by omega)
 ·have b: ¬k<c.methods.length:=by simpa using r
  have:Ei c n=none:=by
   unfold Ei
   rw[List.findIdx?_eq_none_iff]
   intro m D
   obtain ⟨j,i,rfl⟩:=List.getElem_of_mem D
   simpa using g j i (by omega)
  rw[this] at h
  exact h _ _ a)
end Go.Proofs.YtfppjenblllfaaaGreatDoor

namespace Go.Proofs.YtfppjenblllfaaaGreatDoor
open Go.Emb Go.RowKit Go.Kd Go.Hm
variable {w : World} {K : Value → World → Prop} {σ : Q5} {l : List Cla} {v : Value}
theorem Hx {n:Q9} {d:Cla} (e:X4 w σ) (b:Sl 8 U4 σ v l) (c:lk l n=some d) (h: ∀i:Nat,l[i]? =some d→Y4 l n=some i→K (I i) w):Q1 P F.c [v,S n] w K:=by
 obtain ⟨_,_,i,a,f⟩:=U1 c
 refine F7 e b ?_
 rw[a];exact h i f a
theorem Tn {n:Q9} (f:X4 w σ) (b:Sl 8 U4 σ v l) (d:lk l n=none) (h:K (I (-1)) w):Q1 P F.c [v,S n] w K:=by
 refine F7 f b ?_
 cases e:Y4 l n with
 | none=>exact h
 | some i=>obtain ⟨c,a,_⟩:=Xr e;rw[d] at a;cases a
end Go.Proofs.YtfppjenblllfaaaGreatDoor

namespace Go.Proofs.YtfppjenblllfaaaGreatDoor
open Go.Emb Go.RowKit Go.Kd Go.Hm
variable {w : World} {K : Value → World → Prop} {σ : Q5} {l : List Cla} {v : Value}
theorem Q96:decide ((-1:Int)<0)=true:=by decide
theorem Q4Y (i:Nat):decide ((i:Int)<0)=false:=by rw[decide_eq_false_iff_not];omega
theorem Q6D {c:Cla} {cs:List Value} (hs:X4 w σ) (hl:Sl 8 U4 σ v l) (D:U4 σ c cs) (h: ∀w' σ',Stp w σ w' σ'→K (I (L5 l c)) w'):Q1 P F.b1 [v, .agg cs.toArray] w K:=Co (by
 unfold Vh
 obtain ⟨lv,fv,mv,rfl,z,f2,f3,f4,f5⟩:=D
 refine Y8 hs fun q w0 σ0 o N=>?_
 have z:=z.up o
 have b:=hl.up o
 have a:=o.sat
 have t: ∀n:Nat,L5 l c=n→K (I n) w0:=fun n e=>by rw[←e];exact h _ _ o
 clear h
 (try simp only[↓M1,M1,Mb,reduceIte])
 refine ld a N rfl ?_
 have m:P7 l c.super=true→K (I (61:Nat)) w0:=fun e=>t 61 (by unfold L5;rw[if_pos e])
 cases J:lk l c.super with
 | none=>
  refine Tn a b J ?_
  simp only[Q96,↓M1,M1,Mb,reduceIte]
  exact m (by unfold P7;rw[J])
 | some d=>
  refine Hx a b J fun i hi hf=>?_
  obtain ⟨s,M⟩:=List.getElem?_eq_some_iff.1 hi
  simp only[Q4Y,↓M1,M1,Mb,reduceIte]
  refine J5 b s ?_
  obtain ⟨X,W,Y,Q,r1⟩:=b.elC s
  rw[M] at Q
  (try simp only[↓M1,M1,Mb,reduceIte])
  refine ld a Q rfl ?_
  have g:P7 l c.super=(d.iface||d.fin):=by unfold P7;rw[J]
  cases A:d.iface with
  | true=>
   rw[A] at g
   (try simp only[↓M1,M1,Mb,reduceIte])
   exact m (by rw[g];rfl)
  | false=>
   rw[A] at g
   (try simp only[↓M1,M1,Mb,reduceIte])
   refine J5 b s ?_
   (try simp only[↓M1,M1,Mb,reduceIte])
   refine ld a Q rfl ?_
   cases C:d.fin with
   | true=>
    rw[C] at g
    (try simp only[↓M1,M1,Mb,reduceIte])
    exact m (by rw[g];rfl)
   | false=>
    rw[C] at g
    have H:P7 l c.super=false:=g
    (try simp only[↓M1,M1,Mb,reduceIte])
    refine J0 c.like.length (fun k w'=>w'=w0∧(c.like.take k).any (O6 l)=false) ⟨rfl,rfl⟩ fun k w1 d1 hk O=>?_
    obtain ⟨hw,y⟩:=O
    subst hw
    (try simp only[↓M1,M1,Mb,reduceIte])
    refine ld a N rfl ?_
    refine Q8 z ?_
    refine Z0 ?_
    refine Q6 (fun D=>?_) (fun D=>?_)
    ·have f:k<c.like.length:=by simpa using D
     have r:O6 l c.like[k]=true→K (I (62:Nat)) w1:=fun e=>t 62 (by
      unfold L5;rw[H,C3 f e];rfl)
     have u:O6 l c.like[k]=false→(c.like.take (k+1)).any (O6 l)=false:=fun e=>by rw[M3 f,y,e];rfl
     (try simp only[↓M1,M1,Mb,reduceIte])
     refine ld a N rfl ?_
     refine J5 z f ?_
     obtain ⟨Z,_⟩:=z.elS f
     refine X8 a Z rfl ?_
     cases L:lk l c.like[k] with
     | none=>
      refine Tn a b L ?_
      simp only[Q96,↓M1,M1,Mb,reduceIte]
      exact r (by unfold O6;rw[L])
     | some e=>
      refine Hx a b L fun j hj ab=>?_
      obtain ⟨B,R⟩:=List.getElem?_eq_some_iff.1 hj
      simp only[Q4Y,↓M1,M1,Mb,reduceIte]
      refine J5 b B ?_
      obtain ⟨af,ai,V,U,r3⟩:=b.elC B
      rw[R] at U
      (try simp only[↓M1,M1,Mb,reduceIte])
      refine ld a U rfl ?_
      have p:O6 l c.like[k]= !e.iface:=by unfold O6;rw[L]
      cases E:e.iface with
      | true=>
       rw[E] at p
       (try simp only[↓M1,M1,Mb,reduceIte])
       exact Y2 z.max f ⟨rfl,u p⟩
      | false=>
       rw[E] at p
       (try simp only[↓M1,M1,Mb,reduceIte])
       exact r p
    ·have f: ¬k<c.like.length:=by simpa using D
     rw[D0 f] at y
     exact t 0 (by unfold L5;rw[H,y];rfl))
end Go.Proofs.YtfppjenblllfaaaGreatDoor

namespace Go.Proofs.YtfppjenblllfaaaGreatDoor
open Go.Emb Go.RowKit Go.Kd Go.Hm
variable {w : World} {K : Value → World → Prop} {σ : Q5} {l : List Cla} {v : Value}
theorem Q5o {n:Q9} (h:lk l n=none):M7 l n=[]:=by unfold M7;rw[P0 h];rfl
theorem Q5h (a:Yg l) {n:Q9} {c:Cla} (h:lk l n=some c):M7 l n=M7 l c.super++c.fields:=by
 unfold M7
 rw[F8 a,h]
 simp
theorem Q75 (a: ∀c∈l,T0 c) (n:Q9):(M7 l n).length≤(l.length+1)*1000000:=by
 unfold M7
 have b:=Uc (fun c:Cla=>c.fields) 1000000 (chain l n).reverse fun c d=>(a c (Rk (by simpa using d))).2.1
 have e:=Re l n
 rw[List.length_reverse] at b
 exact Nat.le_trans b (Nat.mul_le_mul_right _ e)
theorem Q0B {n:Q9} (b:lk l n=none) (c:X4 w σ) (e:Sl 8 U4 σ v l) (h: ∀a w' d,Stp w σ w' d→Sl 3 E6 d a (M7 l n)→K a w'):Q1 P F.y [v,S n] w K:=Uq (by
 unfold Qg
 refine Tn c e b ?_
 simp only[Q96,↓M1,M1,Mb,reduceIte]
 exact h _ _ _ (Stp.refl c) (by rw[Q5o b];exact Sl.nil))
theorem Q5p (p:Yg l) (hl:l.length≤1000) (m: ∀c∈l,T0 c): ∀(k:Nat) {n:Q9} {w:World} {σ:Q5} {K:Value→World→Prop},(lk l n=none∨B7 l n<k)→X4 w σ→Sl 8 U4 σ v l→
 (∀f w' j,Stp w σ w' j→Sl 3 E6 j f (M7 l n)→K f w')→Q1 P F.y [v,S n] w K:=by
 intro k
 induction k with
 | zero=>
  intro n w σ K hk g a h
  rcases hk with hk | hk
  ·exact Q0B hk g a h
  ·omega
 | succ k ih=>
  intro n w σ K hk g a h
  cases b:lk l n with
  | none=>exact Q0B b g a h
  | some c=>
   have hk:B7 l n<k+1:=by
    rcases hk with hk | hk
    ·rw[b] at hk;cases hk
    ·exact hk
   refine Uq ?_
   unfold Qg
   refine Hx g a b fun i Z hf=>?_
   obtain ⟨s,q⟩:=List.getElem?_eq_some_iff.1 Z
   simp only[Q4Y,↓M1,M1,Mb,reduceIte]
   obtain ⟨lv,fv,mv,p1,O⟩:=a.elC s
   rw[q] at p1 O
   obtain ⟨_,W,_,_,_⟩:=O.parts
   have J:lk l c.super=none∨B7 l c.super<k:=by
    cases hu:lk l c.super with
    | none=>exact .inl rfl
    | some d=>
     have:=Qe p b (u:=c.super) (by simp[J3]) hu
     right;omega
   have af:=Q75 m c.super
   have ad:=(m c (U1 b).2.1).2.1
   have N:(l.length+1)*1000000≤1001*1000000:=Nat.mul_le_mul_right _ (by omega)
   refine U6 g ?_
   (repeat refine U9 I9 ?_)
   refine Q76 (R:=E6) (by decide) ?_
   (repeat refine U9 I9 ?_)
   refine Rh (w:=w) (σ:=σ) (Φ:=fun j v=>Sl 3 E6 j v (M7 l c.super)) (fun t w o e=>?_) ?_
   ·subst e;exact ih J o.sat a fun f w' j hk D=>Q1h o hk D
   refine Q2y (w:=w) (σ:=σ) (R:=E6) (sz:=3) (e:=T.k) (M7 l c.super) (fun M r w o A z=>?_) ?_
   ·obtain ⟨k1,a1,Q⟩:=A
    obtain ⟨σ2,k2,s2⟩:=z
    exact X0G k1 a1 Q k2.sat s2 (fun _ _ h=>h) rfl (by omega) (by omega) fun f w' hk p=>Q4L o hk p
   (repeat refine U9 I9 ?_)
   rintro Y U X aa M ab r ae V w2 al rfl rfl rfl rfl _ rfl _ ⟨C,B⟩ rfl
   refine Ow C B W rfl (by omega) (by omega) fun f w3 ac y L _=>?_
   obtain ⟨σ4,E,H,_⟩:=L.keep y
   exact h _ _ _ E (by rw[Q5h p b];exact H)
theorem Q6N {n:Q9} (g:X4 w σ) (f:Sl 8 U4 σ v l) (i:Yg l) (e:l.length≤1000) (a: ∀c∈l,T0 c) (h: ∀b w' d,Stp w σ w' d→Sl 3 E6 d b (M7 l n)→K b w'):Q1 P F.y [v,S n] w K:=
 Q5p i e a _ (.inr (Nat.lt_succ_self _)) g f h
theorem Q7z {n f:Q9} (C:X4 w σ) (B:Sl 8 U4 σ v l) (D:Yg l) (A:l.length≤1000) (u: ∀c∈l,T0 c) (h: ∀w' E,Stp w σ w' E→K (I (W5 (Xn l n f))) w'):Q1 P F.bf [v,S n,S f] w K:=Gt (by
 unfold Vw
 refine Q6N C B D A u fun M w1 σ1 r a=>?_
 have s: ∀o,Xn l n f=o→K (I (W5 o)) w1:=fun o e=>by rw[←e];exact h _ _ r
 unfold Xn at s
 generalize M7 l n=g at a s
 refine J0 g.length (fun k w'=>w'=w1∧ ∀j (q:j<g.length),j<k→ ¬g[j].name=f) ⟨rfl,fun j _ h=>by omega⟩ fun k O d N z=>?_
 obtain ⟨L,p⟩:=z
 subst L
 refine Q8 a ?_
 refine Z0 ?_
 refine Q6 (fun t=>?_) (fun t=>?_)
 ·have b:k<g.length:=by simpa using t
  refine J5 a b ?_
  obtain ⟨J,_⟩:=a.elF b
  (try simp only[↓M1,M1,Mb,reduceIte])
  refine ld r.sat J rfl ?_
  refine Nd ?_
  refine Q6 (fun i=>?_) (fun i=>?_)
  ·have i:g[k].name=f:=by simpa using i
   exact s (some k) (by
    rw[List.findIdx?_eq_some_iff_getElem]
    exact ⟨b,by simpa using i,fun j q=>by simpa using p j (by omega) q⟩)
  ·have i: ¬g[k].name=f:=by simpa using i
   (try simp only[↓M1,M1,Mb,reduceIte])
   refine Y2 a.max b ⟨rfl,fun j q y=>?_⟩
   by_cases e:j=k
   ·subst e;exact i
   ·exact p j q (by omega)
 ·have b: ¬k<g.length:=by simpa using t
  exact s none (by
   rw[List.findIdx?_eq_none_iff]
   intro m H
   obtain ⟨j,q,rfl⟩:=List.getElem_of_mem H
   simpa using p j q (by omega)))
end Go.Proofs.YtfppjenblllfaaaGreatDoor

namespace Go.Proofs.YtfppjenblllfaaaGreatDoor
open Go.Emb Go.RowKit Go.Kd Go.Hm
variable {w : World} {K : Value → World → Prop} {σ : Q5} {l : List Cla} {v : Value}
theorem Q3d {c:Cla} {n:Q9} (h:Ei c n=none):R2 c n=none:=by
 unfold R2 Ei at*
 rw[List.findIdx?_eq_none_iff] at h
 rw[List.find?_eq_none]
 intro m a
 have:=h m a
 simpa using this
theorem Q6a {c:Cla} {n:Q9} {i:Nat} (h:Ei c n=some i): ∃a:i<c.methods.length,R2 c n=some c.methods[i]:=by
 unfold R2 Ei at*
 obtain ⟨a,e,d⟩:=List.findIdx?_eq_some_iff_getElem.1 h
 refine ⟨a,List.find?_eq_some_iff_getElem.2 ⟨e,i,a,rfl,fun j b=>?_⟩⟩
 have:=d j b
 simpa using this
theorem Q2Q {n:Q9} (h:lk l n=none):Y4 l n=none:=by
 cases b:Y4 l n with
 | none=>rfl
 | some i=>obtain ⟨c,a,_⟩:=Xr b;rw[h] at a;cases a
set_option maxHeartbeats 1000000 in
theorem Q8p {n:Q9} (ok:Ok l): ∀(k:Nat) {c:Cla} {cs:List Value} {w:World} {σ:Q5} {K:Value→World→Prop},B7 l c.name<k→lk l c.name=some c→X4 w σ→Sl 8 U4 σ v l→U4 σ c cs→
 (∀pv cv hv w' Z,Stp w σ w' Z→M5 Z (o2 (U2 l c n)) [S (o2 (U2 l c n)).name,pv,S (o2 (U2 l c n)).result, .bool (o2 (U2 l c n)).abs,I (o2 (U2 l c n)).locals,cv,hv]→
  K (.tuple #[S (o1 (U2 l c n)), .agg [S (o2 (U2 l c n)).name,pv,S (o2 (U2 l c n)).result, .bool (o2 (U2 l c n)).abs,I (o2 (U2 l c n)).locals,cv,hv].toArray, .bool (U2 l c n).isSome]) w')→
 Q1 P F.aD [v, .agg cs.toArray,S n] w K:=by
 intro k
 induction k with
 | zero=>
  intro c cs w σ K hk
  omega
 | succ k ih=>
  intro c cs w σ K hk hc hs hv hr h
  refine Fw ?_
  obtain ⟨lv,fv,mv,rfl,g1,g2,g3,g4,g5⟩:=hr
  have D:=Q2R ok.acy hc n
  generalize hf:(fun u=>match lk l u with | none=>none | some d=>match R2 d n with | some m=>some (u,m) | none=>U2 l d n)=f at D
  unfold Wj
  refine Y8 hs fun a w1 σ1 C ar=>?_
  refine I2 C.sat fun b w2 σ2 hb Q aw=>?_
  have W:w.heap.size≤b:=Zc hb C
  have a2:=ar.up Q
  have g1:=(g1.up C).up Q
  refine J0 c.like.length (fun i w'=> ∃Z,Stp w σ w' Z∧SLe σ2 Z∧Z5 Z w' b [S [], .slice none 0 0,S [], .bool false,I 0, .slice none 0 0, .slice none 0 0]∧(c.like.take i).findSome? f=none) ⟨σ2,C.trans Q,SLe.refl _,aw,rfl⟩ fun i w3 d hi ad=>?_
  obtain ⟨σ3,g,X,ak,A⟩:=ad
  have V:=hv.up g
  have M:=a2.lift X
  have E:=g1.lift X
  (try simp only[↓M1,M1,Mb,reduceIte])
  refine ld g.sat M rfl ?_
  refine Q8 E ?_
  refine Z0 ?_
  refine Q6 (fun hh=>?_) (fun hh=>?_)
  ·have e:i<c.like.length:=by simpa using hh
   (try simp only[↓M1,M1,Mb,reduceIte])
   refine ld g.sat M rfl ?_
   refine J5 E e ?_
   obtain ⟨p0,_⟩:=E.elS e
   refine X8 g.sat p0 rfl ?_
   obtain ⟨d,hd⟩:=ok.full c (U1 hc).2.1 _ (List.getElem_mem e)
   obtain ⟨O,bm,_⟩:=U1 hd
   have p:f c.like[i]=match R2 d n with | some m=>some (c.like[i],m) | none=>U2 l d n:=by rw[←hf];simp only[hd]
   refine Hx g.sat V hd fun j hj bx=>?_
   obtain ⟨ac,ay⟩:=List.getElem?_eq_some_iff.1 hj
   refine J5 V ac ?_
   obtain ⟨bv,bo,bp,p1,r1⟩:=V.elC ac
   rw[ay] at p1 r1
   refine Y7 g.sat p1 rfl ?_
   refine Y5 g.sat (by rfl) rfl (Rep.one r1) fun q w4 σ4 o U=>?_
   refine Y7 o.sat U rfl ?_
   refine Q5T o.sat (RCl_lift r1 ⟨o.le⟩) fun w5 σ5 t=>?_
   refine Yb ?_
   rw[K1]
   have z:=(g.trans o).trans t
   have H:=(ak.step o).step t
   have av:=U.up t
   have r5:=RCl_lift r1 ⟨(o.trans t).le⟩
   have Y:=t.sat
   have ap:SLe σ2 σ5:=X.more ⟨(o.trans t).le⟩
   clear U p1 r1 p0 M E o t
   cases ho:Ei d n with
   | some i2=>
    obtain ⟨a0,a9⟩:=Q6a ho
    rw[a9] at p
    simp only[Option.isSome_some,W5,↓M1,M1,Mb,reduceIte]
    obtain ⟨_,_,a8,_,_⟩:=r5.parts
    obtain ⟨pv,cv,bz,p2,r2⟩:=a8.elM a0
    refine U6 Y ?_
    (repeat refine U9 I9 ?_)
    (intros;(repeat (rename_i hx;subst hx));(try simp only[↓M2,M2,Mb,reduceIte]))
    rename_i w6 aj
    refine T8 (H.step aj.stp) (z.trans aj.stp) W rfl rfl (Rep.one r2) fun w8 a7 ax=>?_
    refine W2 ax rfl ?_
    have N:=D.trans (Qp e A p)
    rw[N] at h
    rw[O]
    exact h _ _ _ w8 σ5 a7.stp r2
   | none=>
    rw[Q3d ho] at p
    simp only[Option.isSome_none,↓M1,M1,Mb,reduceIte]
    refine Y7 Y av rfl ?_
    have b0:=Qe ok.acy hc (by simp[J3,List.getElem_mem e]:c.like[i]∈J3 c) hd
    refine ih (by rw[O];omega) (by rw[O];exact hd) Y (hv.up z) r5 fun pv cv bl w8 σ8 B L=>?_
    refine U5 (vs:=[_,_,_]) rfl ?_
    refine U5 (vs:=[_,_,_]) rfl ?_
    refine U5 (vs:=[_,_,_]) rfl ?_
    refine Y5 B.sat (by rfl) rfl (Rep.one L) fun q w9 σ9 y a1=>?_
    have ah:=(z.trans B).trans y
    have aa:=(H.step B).step y
    have R:=RMe_lift L ⟨y.le⟩
    have ao:SLe σ2 σ9:=ap.more ⟨(B.trans y).le⟩
    have ba:=y.sat
    cases N:U2 l d n with
    | some r=>
     obtain ⟨s,m⟩:=r
     rw[N] at p R a1
     clear L B y
     simp only[N,Option.isSome_some,↓M1,M1,Mb,reduceIte]
     refine U6 ba ?_
     (repeat refine U9 I9 ?_)
     (intros;(repeat (rename_i hx;subst hx));(try simp only[↓M2,M2,Mb,reduceIte]))
     rename_i bj J
     refine T8 (aa.step J.stp) (ah.trans J.stp) W rfl rfl (Rep.one R) fun aq ai ab=>?_
     refine W2 ab rfl ?_
     have a5:=D.trans (Qp e A p)
     rw[a5] at h
     exact h _ _ _ aq σ9 ai.stp R
    | none=>
     rw[N] at p
     simp only[Option.isSome_none,↓M1,M1,Mb,reduceIte]
     refine Y2 (by have:=g1.max;omega) e ⟨σ9,ah,ao,aa,?_⟩
     rw[Qn e A];exact p
  ·have e: ¬i<c.like.length:=by simpa using hh
   rw[List.take_of_length_le (by omega)] at A
   refine Dk ?_
   refine T8 ak g W rfl rfl (Rep.one (P8 (σ:=σ3))) fun w5 z H=>?_
   refine W2 H rfl ?_
   have N:=D.trans A
   rw[N] at h
   exact h _ _ _ w5 σ3 z.stp P8
set_option maxHeartbeats 1000000 in
theorem Q71 {k n:Q9} (hs:X4 w σ) (hv:Sl 8 U4 σ v l) (ok:Ok l)
 (h: ∀pv cv hv w' N,Stp w σ w' N→M5 N (o2 (J8 l k n)) [S (o2 (J8 l k n)).name,pv,S (o2 (J8 l k n)).result, .bool (o2 (J8 l k n)).abs,I (o2 (J8 l k n)).locals,cv,hv]→
  K (.tuple #[S (o1 (J8 l k n)), .agg [S (o2 (J8 l k n)).name,pv,S (o2 (J8 l k n)).result, .bool (o2 (J8 l k n)).abs,I (o2 (J8 l k n)).locals,cv,hv].toArray, .bool (J8 l k n).isSome]) w'):
 Q1 P F.b3 [v,S k,S n] w K:=Sn (by
 unfold Ve
 refine I2 hs fun b w1 σ1 hb Q a1=>?_
 refine F7 Q.sat (hv.up Q) ?_
 unfold J8 at h
 generalize hF:(fun c:Cla=>(R2 c n).map (c.name,·))=F1 at h
 have an: ∀c,F1 c=(R2 c n).map (c.name,·):=fun c=>by rw[←hF]
 refine Fj (fun m x w'=> ∃s H N,m=(chain l s).length∧x=I (W5 (Y4 l s))∧chain l k=H++chain l s∧Stp w σ w' N∧Z5 N w' b [S [], .slice none 0 0,S [], .bool false,I 0, .slice none 0 0, .slice none 0 0]∧H.findSome? F1=none)
  (chain l k).length ⟨k,[],σ1,rfl,rfl,rfl,Q,a1,rfl⟩ ?_
 rintro Z m x d w2 ⟨s,H,σ2,rfl,rfl,a,B,al,f⟩ E
 have J:=hv.up B
 have W:=B.sat
 refine Yb ?_
 rw[K1]
 cases A:lk l s with
 | some c=>
  obtain ⟨ao,a0,i,U,Y⟩:=U1 A
  obtain ⟨t,X⟩:=List.getElem?_eq_some_iff.1 Y
  simp only[U,Option.isSome_some,W5,↓M1,M1,Mb,reduceIte]
  refine J5 J t ?_
  obtain ⟨lv,fv,mv,y,L⟩:=J.elC t
  rw[X] at y L
  refine Y7 W y rfl ?_
  refine Q5T W L fun w3 σ3 o=>?_
  refine Yb ?_
  rw[K1]
  have g:=B.trans o
  have j:=J.up o
  have z:=al.step o
  have u:=o.sat
  replace y:=y.up o
  replace L:=RCl_lift L ⟨o.le⟩
  have p:chain l s=c::chain l c.super:=by rw[F8 ok.acy s,A]
  cases ho:Ei c n with
  | some i2=>
   obtain ⟨ar,a6⟩:=Q6a ho
   simp only[Option.isSome_some,W5,↓M1,M1,Mb,reduceIte]
   obtain ⟨_,_,a5,_,_⟩:=L.parts
   obtain ⟨pv,cv,bg,p2,r2⟩:=a5.elM ar
   clear o
   refine U6 u ?_
   (repeat refine U9 I9 ?_)
   (intros;(repeat (rename_i hx;subst hx));(try simp only[↓M2,M2,Mb,reduceIte]))
   rename_i w4 am
   refine T8 (z.step am.stp) (g.trans am.stp) hb rfl rfl (Rep.one r2) fun w8 a4 a3=>?_
   refine W2 a3 rfl ?_
   have C:(chain l k).findSome? F1=some (c.name,c.methods[i2]):=by
    rw[a,List.findSome?_append,f,p,List.findSome?_cons,an,a6];rfl
   rw[C] at h
   exact h _ _ _ w8 σ3 a4.stp r2
  | none=>
   simp only[Option.isSome_none,↓M1,M1,Mb,reduceIte]
   refine J5 j t ?_
   (try simp only[↓M1,M1,Mb,reduceIte])
   refine ld u y rfl ?_
   refine F7 u j ?_
   refine E (chain l c.super).length _ _ (by rw[p,List.length_cons];omega) ⟨c.super,H++[c],σ3,rfl,rfl,by rw[a,p];simp,g,z,?_⟩
   rw[List.findSome?_append,f]
   simp[an,Q3d ho]
 | none=>
  rw[Q2Q A]
  simp only[Option.isSome_none,↓M1,M1,Mb,reduceIte]
  have ak:(chain l k).findSome? F1=none:=by rw[a,P0 A,List.append_nil];exact f
  rw[ak] at h
  clear E f a
  refine F7 W J ?_
  refine Fj (fun m x w'=> ∃s H N,m=(chain l s).length∧x=I (W5 (Y4 l s))∧chain l k=H++chain l s∧Stp w σ w' N∧Z5 N w' b [S [], .slice none 0 0,S [], .bool false,I 0, .slice none 0 0, .slice none 0 0]∧H.findSome? (fun c=>U2 l c n)=none)
   (chain l k).length ⟨k,[],σ2,rfl,rfl,rfl,B,al,rfl⟩ ?_
  rintro Z m x d w3 ⟨s,H,σ3,rfl,rfl,a,g,z,f⟩ E
  have j:=hv.up g
  have u:=g.sat
  refine Yb ?_
  rw[K1]
  cases A:lk l s with
  | some c=>
   obtain ⟨ao,a0,i,U,Y⟩:=U1 A
   obtain ⟨t,X⟩:=List.getElem?_eq_some_iff.1 Y
   simp only[U,Option.isSome_some,W5,↓M1,M1,Mb,reduceIte]
   refine J5 j t ?_
   obtain ⟨lv,fv,mv,y,L⟩:=j.elC t
   rw[X] at y L
   refine Y7 u y rfl ?_
   have p:chain l s=c::chain l c.super:=by rw[F8 ok.acy s,A]
   refine Q8p ok _ (Nat.lt_succ_self _) (by rw[ao];exact A) u j L fun pv cv bf w8 σ8 aa V=>?_
   refine U5 (vs:=[_,_,_]) rfl ?_
   refine U5 (vs:=[_,_,_]) rfl ?_
   refine U5 (vs:=[_,_,_]) rfl ?_
   refine Y5 aa.sat (by rfl) rfl (Rep.one V) fun q w9 σ9 D av=>?_
   have e:=aa.trans D
   have ah:=g.trans e
   have ae:=z.step e
   have R:=RMe_lift V ⟨D.le⟩
   have ac:=D.sat
   have ai:=j.up e
   replace y:=y.up e
   cases ho:U2 l c n with
   | some r=>
    obtain ⟨s,m⟩:=r
    rw[ho] at R av
    clear V aa D e
    simp only[ho,Option.isSome_some,↓M1,M1,Mb,reduceIte]
    refine U6 ac ?_
    (repeat refine U9 I9 ?_)
    (intros;(repeat (rename_i hx;subst hx));(try simp only[↓M2,M2,Mb,reduceIte]))
    rename_i bd M
    refine T8 (ae.step M.stp) (ah.trans M.stp) hb rfl rfl (Rep.one R) fun az aj af=>?_
    refine W2 af rfl ?_
    have C:(chain l k).findSome? (fun c=>U2 l c n)=some (s,m):=by
     rw[a,List.findSome?_append,f,p,List.findSome?_cons,ho];rfl
    unfold U2 at C
    rw[C] at h
    exact h _ _ _ az σ9 aj.stp R
   | none=>
    simp only[Option.isSome_none,↓M1,M1,Mb,reduceIte]
    refine J5 ai t ?_
    (try simp only[↓M1,M1,Mb,reduceIte])
    refine ld ac y rfl ?_
    refine F7 ac ai ?_
    refine E (chain l c.super).length _ _ (by rw[p,List.length_cons];omega) ⟨c.super,H++[c],σ9,rfl,rfl,by rw[a,p];simp,ah,ae,?_⟩
    rw[List.findSome?_append,f]
    simp[ho]
  | none=>
   rw[Q2Q A]
   simp only[Option.isSome_none,↓M1,M1,Mb,reduceIte]
   have O:(chain l k).findSome? (fun c=>U2 l c n)=none:=by rw[a,P0 A,List.append_nil];exact f
   refine Dk ?_
   refine T8 z g hb rfl rfl (Rep.one (P8 (σ:=σ3))) fun w7 ay aw=>?_
   refine W2 aw rfl ?_
   unfold U2 at O
   rw[O] at h
   exact h _ _ _ w7 σ3 ay.stp P8)
end Go.Proofs.YtfppjenblllfaaaGreatDoor

namespace Go.Hm
open Go.Kd
theorem Q0R: ∀(xs:List Q9) (x:Q9),xs≠[]→N5 (xs++[x])=N5 xs++[44]++x
 | [],_,h=>absurd rfl h
 | [a],x,_=>by simp[N5]
 | a::b::r,x,_=>by
  have:=Q0R (b::r) x (by simp)
  simp only[List.cons_append] at this⊢
  simp only[N5,this]
  simp
theorem Q0F {xs:List Q9} {n:Nat} (h:n<xs.length):N5 (xs.take (n+1))=N5 (xs.take n)++(if 0<n then [44] else [])++xs[n]:=by
 rw[List.take_add_one,List.getElem?_eq_getElem h]
 simp only[Option.toList_some]
 cases n with
 | zero=>simp[N5]
 | succ n=>
  rw[Q0R _ _ (by intro e;have:=congrArg List.length e;simp only[List.length_take,List.length_nil] at this;omega)]
  simp
end Go.Hm
namespace Go.Proofs.YtfppjenblllfaaaGreatDoor
open Go.Emb Go.RowKit Go.Kd Go.Hm
variable {w : World} {K : Value → World → Prop} {σ : Q5} {l : List Cla} {v : Value}
theorem Q3V {m:Hm.Met} {cs:List Value} (A:X4 w σ) (C:M5 σ m cs) (r:SmM m) (o:NmM m) (h: ∀w' B,Stp w σ w' B→K (S (P6 m)) w'):Q1 P F.aH [.agg cs.toArray] w K:=Iv (by
 obtain ⟨pv,Q,M,rfl,f,H,N,R,J,O⟩:=C
 unfold Lp
 refine Y8 A fun q w1 σ1 g j=>?_
 have f:=f.up g
 have z: ∀n,(N5 (m.params.take n)).length≤101000000:=fun n=>by
  have:=Dh (m.params.take n) fun x t=>o.2 x (List.mem_of_mem_take t)
  have y:(m.params.take n).length≤1000000:=by rw[List.length_take];have:=r.1;omega
  have L:(m.params.take n).length*101≤1000000*101:=Nat.mul_le_mul_right _ y
  omega
 have c:=g.sat
 refine D2 m.params.length (fun n a w'=>w'=w1∧a=S ([40]++N5 (m.params.take n))) ⟨rfl,by simp[N5]⟩ fun n a U d D i=>?_
 obtain ⟨E,rfl⟩:=i
 subst E
 have s:=z n
 (try simp only[↓M1,M1,Mb,reduceIte])
 refine ld c j rfl ?_
 refine Q8 f ?_
 refine Z0 ?_
 refine Q6 (fun p=>?_) (fun p=>?_)
 ·have b:n<m.params.length:=by simpa using p
  have t:=o.2 _ (List.getElem_mem b)
  refine V9 ?_
  obtain ⟨u,_⟩:=f.elS b
  refine Q6 (fun k=>?_) (fun k=>?_)
  ·have e:0<n:=by have:=of_decide_eq_true k;omega
   refine Hw (by simp only[List.length_append,List.length_cons,List.length_nil];omega) ?_
   intro d
   (try simp only[↓M1,M1,Mb,reduceIte])
   refine ld c j rfl ?_
   refine J5 f b ?_
   refine X8 c u rfl ?_
   refine Hw (by simp only[List.length_append,List.length_cons,List.length_nil];omega) ?_
   (try simp only[↓M1,M1,Mb,reduceIte])
   refine Z6 f.max b ⟨rfl,?_⟩
   rw[Q0F b,if_pos e];simp
  ·have e: ¬0<n:=by have:=of_decide_eq_false k;omega
   intro d
   (try simp only[↓M1,M1,Mb,reduceIte])
   refine ld c j rfl ?_
   refine J5 f b ?_
   refine X8 c u rfl ?_
   refine Hw (by simp only[List.length_append,List.length_cons,List.length_nil];omega) ?_
   (try simp only[↓M1,M1,Mb,reduceIte])
   refine Z6 f.max b ⟨rfl,?_⟩
   rw[Q0F b,if_neg e];simp
 ·have b: ¬n<m.params.length:=by simpa using p
  rw[List.take_of_length_le (by omega)] at s⊢
  refine Hw (by simp only[List.length_append,List.length_cons,List.length_nil];omega) ?_
  (try simp only[↓M1,M1,Mb,reduceIte])
  refine ld c j rfl ?_
  refine Hw (by simp only[List.length_append,List.length_cons,List.length_nil];have:=o.1;omega) ?_
  exact h _ _ g)
end Go.Proofs.YtfppjenblllfaaaGreatDoor

namespace Go.Hm
open Go.Kd
def Edge (l:List Cla) (i j:Nat):Prop:= ∃c,l[i]? =some c∧ ∃u∈J3 c,Y4 l u=some j
inductive Thr (E : Nat → Nat → Prop) (n : Nat) : Nat → Nat → Prop
  | one {i j : Nat} : E i j → Thr E n i j
  | more {i m j : Nat} : E i m → m < n → Thr E n m j → Thr E n i j
theorem Thr.cut {E:Nat→Nat→Prop} {n i j:Nat} (h:Thr E (n+1) i j):Thr E n i j∨(Thr E n i n∧Thr E n n j):=by
 induction h with
 | one h=>exact .inl (.one h)
 | @more i m j d f _ c=>
  by_cases e:m<n
  ·rcases c with c | ⟨a,b⟩
   ·exact .inl (.more d e c)
   ·exact .inr ⟨.more d e a,b⟩
  ·obtain rfl:m=n:=by omega
   rcases c with c | ⟨a,b⟩
   ·exact .inr ⟨.one d,c⟩
   ·exact .inr ⟨.one d,b⟩
theorem Thr.join {E:Nat→Nat→Prop} {n i k j:Nat} (h:Thr E n i k) (a:k<n) (g:Thr E n k j):Thr E n i j:=by
 induction h with
 | one h=>exact .more h a g
 | more b c _ d=>exact .more b c (d a g)
theorem Q2K {l:List Cla} (f:G6 l) {i j:Nat} (e:i<l.length):Edge l i j↔j<l.length∧ ∃u∈J3 l[i],u=X9 l j∧Y4 l u=some j:=by
 unfold Edge
 rw[List.getElem?_eq_getElem e]
 constructor
 ·rintro ⟨c,d,u,b,a⟩
  cases d
  exact ⟨(D9 a).1,u,b,(D9 a).2.symm,a⟩
 ·rintro ⟨_,u,b,_,a⟩
  exact ⟨_,rfl,u,b,a⟩
theorem Q8M {l:List Cla} (b:G6 l) {i:Nat} (a:i<l.length):lk l (X9 l i)=some l[i]:=by
 have:=Qq b a
 rwa [List.getD_eq_getElem?_getD,List.getElem?_eq_getElem a] at this
theorem Q9i {l:List Cla} (b:G6 l) {i j:Nat} (a:i<l.length) (h:Thr (Edge l) l.length i j):j<l.length∧Um (lk l) (X9 l i) (X9 l j):=by
 induction h with
 | one h=>
  obtain ⟨d,u,e,f,g⟩:=(Q2K b a).1 h
  obtain ⟨c,m,_⟩:=Xr g
  refine ⟨d,_,Q8M b a,u,e,?_⟩
  subst f;exact .refl m
 | more d p _ k=>
  obtain ⟨o,n⟩:=k p
  obtain ⟨_,u,e,f,g⟩:=(Q2K b a).1 d
  refine ⟨o,_,Q8M b a,u,e,?_⟩
  subst f;exact n.reach
theorem Q7t {l:List Cla} (y:G6 l) {a b:Q9} (h:Hm.Reach (lk l) a b): ∀i j,Y4 l a=some i→Y4 l b=some j→i=j∨Thr (Edge l) l.length i j:=by
 induction h with
 | refl _=>
  intro i j m f;rw[m] at f;cases f;exact .inl rfl
 | step t s q v=>
  rename_i a u b c
  intro i j m f
  obtain ⟨d,r⟩:=q.left
  obtain ⟨_,_,k,g,p⟩:=U1 r
  obtain ⟨w,e,n,_⟩:=Xr m
  rw[t] at e;cases e
  have o:Edge l i k:=⟨c,n,u,s,g⟩
  rcases v k j g f with rfl | hT
  ·exact .inr (.one o)
  ·exact .inr (.more o (D9 g).1 hT)
theorem Q93 {l:List Cla} (e:G6 l) {i j:Nat} (m:i<l.length) (o:j<l.length) (h:Um (lk l) (X9 l i) (X9 l j)):Thr (Edge l) l.length i j:=by
 obtain ⟨c,n,u,r,f⟩:=h
 rw[Q8M e m] at n;cases n
 obtain ⟨d,q⟩:=f.left
 obtain ⟨_,_,k,b,p⟩:=U1 q
 have g:Edge l i k:=⟨_,List.getElem?_eq_getElem m,u,r,b⟩
 have a:Y4 l (X9 l j)=some j:=by
  have:=e.find (List.getElem?_eq_getElem o)
  unfold X9
  rw[List.getD_eq_getElem?_getD,List.getElem?_eq_getElem o];exact this
 rcases Q7t e f k j b a with rfl | hT
 ·exact .one g
 ·exact .more g (D9 b).1 hT
theorem X0v {l:List Cla} (b:G6 l) {i j:Nat} (a:i<l.length) (c:j<l.length):Thr (Edge l) l.length i j↔A0 l (X9 l i) (X9 l j)=true:=by
 rw[Zp]
 exact ⟨fun h=>(Q9i b a h).2,Q93 b a c⟩
def C4 (l:List Cla):List (List Bool):=(List.range l.length).map fun i=>(List.range l.length).map fun j=>A0 l (X9 l i) (X9 l j)
def Sc (m:Nat→Nat→Bool) (i j:Nat) (b:Bool):Nat→Nat→Bool:=fun x y=>if x=i∧y=j then b else m x y
structure Clos (E : Nat → Nat → Prop) (n k i j : Nat) (m : Nat → Nat → Bool) : Prop where
  sound : ∀ a b, m a b = true → Thr E n a b
  full : ∀ a b, a < n → b < n → Thr E k a b → m a b = true
  done : ∀ a b, a < n → b < n → (a < i ∨ (a = i ∧ b < j)) → Thr E (k + 1) a b → m a b = true
theorem Clos.next {E:Nat→Nat→Prop} {n k i j:Nat} {m:Nat→Nat→Bool} (h:Clos E n k i j m) (p:k<n) (s:i<n) (t:j<n):Clos E n k i (j+1) (Sc m i j (m i j||(m i k&&m k j))):=by
 have f: ∀a b,m a b=true→Sc m i j (m i j||(m i k&&m k j)) a b=true:=by
  intro a b c
  unfold Sc
  split
  ·rename_i e;rw[←e.1,←e.2,c];rfl
  ·exact c
 refine ⟨fun a b c=>?_,fun a b q o l=>f a b (h.full a b q o l),fun a b q o r l=>?_⟩
 ·unfold Sc at c
  split at c
  ·rename_i e
   obtain ⟨rfl,rfl⟩:=e
   simp only[Bool.or_eq_true,Bool.and_eq_true] at c
   rcases c with d | ⟨d,g⟩
   ·exact h.sound _ _ d
   ·exact (h.sound _ _ d).join p (h.sound _ _ g)
  ·exact h.sound _ _ c
 ·by_cases e:a=i∧b=j
  ·obtain ⟨rfl,rfl⟩:=e
   unfold Sc
   rw[if_pos ⟨rfl,rfl⟩]
   rcases l.cut with d | ⟨d,g⟩
   ·rw[h.full _ _ s t d];rfl
   ·rw[h.full _ _ s p d,h.full _ _ p t g];simp
  ·refine f a b (h.done a b q o ?_ l)
   rcases r with d | ⟨d,g⟩
   ·exact .inl d
   ·right;refine ⟨d,?_⟩
    have:b≠j:=fun u=>e ⟨d,u⟩
    omega
theorem Clos.row {E:Nat→Nat→Prop} {n k i:Nat} {m:Nat→Nat→Bool} (h:Clos E n k i n m):Clos E n k (i+1) 0 m:=
 ⟨h.sound,h.full,fun a b e d f c=>h.done a b e d (by omega) c⟩
theorem Clos.round {E:Nat→Nat→Prop} {n k:Nat} {m:Nat→Nat→Bool} (h:Clos E n k n 0 m):Clos E n (k+1) 0 0 m:=
 ⟨h.sound,fun a b c e d=>h.done a b c e (.inl c) d,fun a b c e f d=>by omega⟩
theorem Clos.start {E:Nat→Nat→Prop} {n:Nat} {m:Nat→Nat→Bool} (h: ∀a b,a<n→(m a b=true↔E a b)) (j: ∀a b,n≤a→m a b=false):Clos E n 0 0 0 m:=by
 refine ⟨fun a b c=>?_,fun a b d i f=>?_,fun a b d i g f=>by omega⟩
 ·by_cases d:a<n
  ·exact .one ((h a b d).1 c)
  ·rw[j a b (by omega)] at c;cases c
 ·cases f with
  | one e=>exact (h a b d).2 e
  | more _ k _=>omega
theorem Clos.all {l:List Cla} (c:G6 l) {m:Nat→Nat→Bool} (h:Clos (Edge l) l.length l.length 0 0 m) {i j:Nat} (b:i<l.length) (a:j<l.length):m i j=A0 l (X9 l i) (X9 l j):=by
 rw[Bool.eq_iff_iff,←X0v c b a]
 exact ⟨h.sound i j,h.full i j b a⟩
end Go.Hm

namespace Go.Emb
open Go.RowKit Go.Hm
variable {P : Program} {w w0 w1 w' w'' : World} {K : Value → World → Prop} {σ σ0 σ1 σ' : Q5}
theorem X13 {t e:TypeId} {by_ n:Nat} {z:Value} [ts:TS P t e] [tz:TZ P e 1 by_ z] (g:X4 w σ) (l:z.cells= #[z]) (m:n≤1000000) (o:by_*n≤281474976710656)
 (h: ∀b w',w.heap.size≤b→Stp w σ w' σ→Z5 σ w' b (List.replicate n z)→K (.slice (some ⟨b,0,none⟩) n n) w'):Nb P t (I n) (I n) w K:=by
 obtain ⟨i,k,c,d,a⟩:=tz.info
 have f:(i.bytes:Int)*(n:Int)≤281474976710656:=by
  rw[d]
  have:((by_*n:Nat):Int)≤281474976710656:=by omega
  rwa [Int.natCast_mul] at this
 have j:=run_makeSlice (P:=P) w t e i z ts.h k a .i64 .i64 (n:Int) (n:Int) (by omega) (Int.le_refl _) (by rw[c];simp only[Int.toNat_natCast];omega) f (by omega)
 unfold Nb
 rw[Y0 j]
 simp only[Int.toNat_natCast,c,Nat.mul_one]
 refine h _ _ (Nat.le_refl _) (Stp.own g _) ⟨g.none (Nat.le_refl _),e,?_⟩
 rw[heap_alloc_new,l]
 have:madeCells #[z] n=(List.replicate n z).toArray:=by rw[←toList_madeCells_one,Array.toArray_toList]
 rw[this]
def Q48 (n:Nat) (_:Q5) (b:Nat) (cs:List Value):Prop:=cs=[.slice (some ⟨b,0,none⟩) n n]
instance (n:Nat):Rep (Q48 n):=⟨fun _ h=>h,fun h u hu=>by rw[h] at hu;simp at hu;subst hu;rfl⟩
def Q4g (σ:Q5) (xs:List Bool) (cs:List Value):Prop:= ∃v,cs=[v]∧Sl 1 Q1l σ v xs
instance:Rep Q4g:=⟨fun k h=>by obtain ⟨v,h1,h2⟩:=h;exact ⟨v,h1,h2.le k⟩,fun h u hu=>by
 obtain ⟨v,rfl,a,cap,rfl,_⟩:=h
 simp at hu;subst hu;rfl⟩
def bools (n:Nat) (f:Nat→Bool):List Value:=(List.range n).map fun j=> .bool (f j)
theorem Pt {n:Nat} {f:Nat→Bool}:(bools n f).length=n:=by simp[bools]
theorem Q3g {n j:Nat} {f:Nat→Bool} (h:j<n):(bools n f)[j]? =some (.bool (f j)):=by simp[bools,h]
theorem Q2E {n j:Nat} {f:Nat→Bool} {b:Bool}:(bools n f).set j (.bool b)=bools n (fun x=>if x=j then b else f x):=by
 apply List.ext_getElem?
 intro k
 rw[List.getElem?_set]
 by_cases a:k<n
 ·by_cases e:j=k
  ·subst e;simp[bools,a]
  ·have c: ¬k=j:=fun h=>e h.symm
   simp[bools,a,e,c]
 ·simp[bools,a]
  intro e;omega
theorem Q5s {n:Nat}:List.replicate n (Value.bool false)=bools n fun _=>false:=by
 apply List.ext_getElem?
 intro k
 by_cases a:k<n<;>simp[bools,a]
def T2 (σ:Q5) (w:World) (a:List Nat) (n:Nat) (m:Nat→Nat→Bool):Prop:=a.Nodup∧ ∀i (h:i<a.length),Z5 σ w a[i] (bools n (m i))
theorem T2.up {a:List Nat} {n:Nat} {m:Nat→Nat→Bool} (h:T2 σ w a n m) (k:Stp w σ w' σ'):T2 σ' w' a n m:=⟨h.1,fun i b=>(h.2 i b).up k⟩
theorem T2.kp {a:List Nat} {n:Nat} {m:Nat→Nat→Bool} {D:Nat→Prop} (h:T2 σ w a n m) (k:Kpt D w w') (d: ∀b∈a,¬D b):T2 σ w' a n m:=⟨h.1,fun i c=>(h.2 i c).kp k (d _ (List.getElem_mem c))⟩
theorem T2.lt {a:List Nat} {n:Nat} {m:Nat→Nat→Bool} (h:T2 σ w a n m) {b:Nat} (d:b∈a):b<w.heap.size∧σ b=none:=by
 obtain ⟨i,c,rfl⟩:=List.getElem_of_mem d
 exact ⟨(h.2 i c).lt,(h.2 i c).1⟩
theorem T2.snoc {d:List Nat} {n b:Nat} {m:Nat→Nat→Bool} {f:Nat→Bool} (h:T2 σ w d n m) (o:b∉d) (p:Z5 σ w b (bools n f)):T2 σ w (d++[b]) n (fun x=>if x=d.length then f else m x):=by
 refine ⟨by rw[List.nodup_append];exact ⟨h.1,by simp,fun a k c j e=>by simp at j;subst j;subst e;exact o k⟩,fun i l=>?_⟩
 rw[List.length_append,List.length_singleton] at l
 by_cases g:i<d.length
 ·rw[List.getElem_append_left g]
  simp only[if_neg (show¬i=d.length by omega)]
  exact h.2 i g
 ·obtain rfl:i=d.length:=by omega
  simp only[List.getElem_concat_length,if_true]
  exact p
theorem T2.congr {a:List Nat} {n:Nat} {m m':Nat→Nat→Bool} (h:T2 σ w a n m) (c: ∀i,i<a.length→m i=m' i):T2 σ w a n m':=⟨h.1,fun i b=>c i b▸h.2 i b⟩
theorem T2.keep {a:List Nat} {n:Nat} {m:Nat→Nat→Bool} (R:0<n) (s:n≤1000000): ∀{σ:Q5},T2 σ w a n m→Stp w0 σ0 w σ→(∀b∈a,w0.heap.size≤b)→ ∃σ',Stp w0 σ0 w σ'∧SLe σ σ'∧ ∀i (h:i<a.length),Sl 1 Q1l σ' (.slice (some ⟨a[i],0,none⟩) n n) ((List.range n).map (m i)):=by
 intro σ h B C
 have key: ∀k,k≤a.length→ ∃σ',Stp w0 σ0 w σ'∧SLe σ σ'∧(∀i (h:i<a.length),i<k→Z2 σ' ⟨a[i],0,none⟩ (bools n (m i)))∧ ∀i (h:i<a.length),k≤i→σ' a[i]=none:=by
  intro k
  induction k with
  | zero=>intro _;exact ⟨σ,B,SLe.refl _,fun i _ h=>by omega,fun i c _=>(h.2 i c).1⟩
  | succ k O=>
   intro U
   obtain ⟨σ1,p,f,l,u⟩:=O (by omega)
   have d:k<a.length:=by omega
   have L:Z5 σ1 w a[k] (bools n (m k)):=⟨u k d (Nat.le_refl _),(h.2 k d).2⟩
   obtain ⟨E,M,y,r,N⟩:=L.keep p (C _ (List.getElem_mem d))
   refine ⟨E,M,f.more ⟨r⟩,fun i c z=>?_,fun i c H=>?_⟩
   ·by_cases e:i=k
    ·subst e;exact y
    ·exact (l i c (by omega)).le r
   ·rw[N]
    ·exact u i c (by omega)
    ·intro e
     have:=List.nodup_iff_pairwise_ne.1 h.1
     rw[List.pairwise_iff_getElem] at this
     exact this k i d c (by omega) e.symm
 obtain ⟨σ1,p,f,l,_⟩:=key a.length (Nat.le_refl _)
 refine ⟨σ1,p,f,fun i c=>⟨some ⟨a[i],0,none⟩,n,by simp,by simp,by simp only[maxLen];omega,fun e=>(by cases e),?_⟩⟩
 intro b A
 obtain rfl:=Option.some.inj A
 refine ⟨fun _=>rfl,fun j x g=>?_⟩
 have t:j<n:=by have:=(List.getElem?_eq_some_iff.1 g).1;simpa using this
 obtain ⟨V,D3,e,Q,D,J⟩:=l i c c
 have q:x=m i j:=by simp[t] at g;exact g.symm
 refine ⟨[.bool x],⟨I3 rfl _,D3,e,Q,by rw[C2];exact D,fun k v o=>?_⟩,rfl,rfl⟩
 obtain rfl:k=0:=by cases k with
  | zero=>rfl
  | succ k=>simp at o
 simp at o
 rw[Xp,←o,q]
 have:=J j _ (Q3g t)
 simpa using this
end Go.Emb
