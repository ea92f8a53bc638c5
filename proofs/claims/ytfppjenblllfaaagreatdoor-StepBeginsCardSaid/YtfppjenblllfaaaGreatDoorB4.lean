/- Parts of a proof about the given program: its functions as texts of their own, what each computes, plain laws of that. The conditions of each stand in its statement. -/
import Derived.Test.YtfppjenblllfaaaGreatDoorB3
import Derived.Shelf.Strings.Builder1
import Derived.Shelf.Strings.Builder2
import Derived.Shelf.Strings.OnBuilder
import Derived.Shelf.Strings.Trim
import Derived.Shelf.Small.Utf8
import Derived.Shelf.Small.Strs
import Derived.Shelf.Small.Wraps
import Derived.Shelf.Strings.BuilderF
import Derived.Shelf.Strings.BuilderK
import Derived.Shelf.Strings.Builder2Cap
import Derived.Shelf.Strings.Search1
import Derived.Shelf.Strings.Search2
import Derived.Shelf.Strings.Search3
import Derived.Shelf.Strings.Cut
import Derived.Shelf.LaysM
import Derived.Shelf.Strings.Shaped
import Derived.Shelf.Strings.Prefix
import Derived.Shelf.Unicode.Decode
import Derived.Shelf.Strings.Runes
import Derived.Shelf.Strings.AsciiSet
import Derived.Shelf.Unicode.DecodeSlow
import Derived.Shelf.Unicode.DecodeAny
import Derived.Shelf.Unicode.DecodeLast
import Derived.Shelf.Slices.Turned
import Derived.Ground.Names2Prog
import Derived.Shelf.Slices.Clone
import Derived.Ground.SlgnProg
import Derived.Shelf.SlicesE.Clone
import Derived.Shelf.Unicode.ValidAny
import Derived.Test.YtfppjenblllfaaaGreatDoorProg
import Derived.Test.YtfppjenblllfaaaGreatDoorRows
import Derived.Lib.LaidU8T
import Derived.OpenShut
import Derived.MakeChecks
import Derived.WideShapes
import Derived.Test.YtfppjenblllfaaaGreatDoorB2
import Derived.Lib.AsciiSet
import Derived.Lib.Join
import Derived.Maps.RangeRun
import Derived.Laws.OwnMore
set_option linter.unnecessarySimpa false
set_option linter.defProp false
set_option linter.unusedSectionVars false
set_option linter.unusedVariables false
set_option linter.unusedSimpArgs false
namespace Go.Proofs
open Go.Shelf
def Tryz.lays156_ren : Go.Shelf.Ren := ⟨fun | 156 => 165 | 165 => 200 | 166 => 201 | 169 => 202 | 240 => 219 | 241 => 220 | 276 => 230 | 277 => 231 | n => n, fun | 31 => 22 | 9 => 9 | 3 => 3 | 4 => 4 | 0 => 0 | 20 => 20 | 72 => 188 | 76 => 191 | 70 => 185 | 37 => 186 | 75 => 190 | 127 => 199 | 164 => 209 | 5 => 5 | 80 => 141 | n => n, fun | n => n⟩
theorem Tryz.lays156 : Go.Proofs.Lays.n156 Tryz.prog Tryz.lays156_ren := {
  mixed := by kernel_rfl
  f156 := Tryz.func165.trans (congrArg some (by kernel_rfl))
  f165 := Tryz.func200.trans (congrArg some (by kernel_rfl))
  f166 := Tryz.func201.trans (congrArg some (by kernel_rfl))
  f169 := Tryz.func202.trans (congrArg some (by kernel_rfl))
  f240 := Tryz.func219.trans (congrArg some (by kernel_rfl))
  f241 := Tryz.func220.trans (congrArg some (by kernel_rfl))
  f276 := Tryz.func230.trans (congrArg some (by kernel_rfl))
  f277 := Tryz.func231.trans (congrArg some (by kernel_rfl))
  t0 := Tryz.underlying0
  a0 := Tryz.isAgg0
  z0 := Tryz.sizeOf0
  v0 := Tryz.zeroValue0
  t3 := Tryz.underlying3
  a3 := Tryz.isAgg3
  z3 := Tryz.sizeOf3
  v3 := Tryz.zeroValue3
  t4 := Tryz.underlying4
  a4 := Tryz.isAgg4
  z4 := Tryz.sizeOf4
  v4 := Tryz.zeroValue4
  t9 := Tryz.underlying9
  a9 := Tryz.isAgg9
  z9 := Tryz.sizeOf9
  v9 := Tryz.zeroValue9
  t20 := Tryz.underlying20
  a20 := Tryz.isAgg20
  z20 := Tryz.sizeOf20
  v20 := Tryz.zeroValue20
  t31 := Tryz.underlying22
  a31 := Tryz.isAgg22
  z31 := Tryz.sizeOf22
  v31 := Tryz.zeroValue22
  t37 := Tryz.underlying186
  a37 := Tryz.isAgg186
  z37 := Tryz.sizeOf186
  v37 := Tryz.zeroValue186
  t70 := Tryz.underlying185
  a70 := Tryz.isAgg185
  z70 := Tryz.sizeOf185
  v70 := Tryz.zeroValue185
  t72 := Tryz.underlying188
  a72 := Tryz.isAgg188
  z72 := Tryz.sizeOf188
  v72 := Tryz.zeroValue188
  t75 := Tryz.underlying190
  a75 := Tryz.isAgg190
  z75 := Tryz.sizeOf190
  v75 := Tryz.zeroValue190
  t76 := Tryz.underlying191
  a76 := Tryz.isAgg191
  z76 := Tryz.sizeOf191
  v76 := Tryz.zeroValue191
  t127 := Tryz.underlying199
  a127 := Tryz.isAgg199
  z127 := Tryz.sizeOf199
  v127 := Tryz.zeroValue199
  t164 := Tryz.underlying209
  a164 := Tryz.isAgg209
  z164 := Tryz.sizeOf209
  v164 := Tryz.zeroValue209 }
theorem Tryz.Builder_Extra_156 : Builder.Extra Tryz.prog Tryz.lays156_ren := {
  sizeBuilder := by kernel_rfl
  liesBuilder := by kernel_rfl
  t5 := Tryz.underlying5
  a5 := Tryz.isAgg5
  z5 := Tryz.sizeOf5
  v5 := Tryz.zeroValue5
  infoByte := by kernel_rfl
  cellsByte := by kernel_rfl
  sizeByte := by kernel_rfl
  neB5 := by decide }
open Go.RowKit in
theorem Tryz.strings_Join_none (a : Option Addr) (c : Nat) (sep : ByteArray) (w : World) :
    Calls Tryz.prog 165 #[.slice a 0 c, .string sep] w fun e w' => e = .returned (.string ⟨#[]⟩) ∧ w' = w := Any.strings_Join_none Tryz.lays156 Tryz.Builder_Extra_156 a c sep w
open Go.RowKit in
theorem Tryz.strings_Join (bk o c : Nat) (xs : List ByteArray) (sep : ByteArray) (w : World) (hcells : ∀ (j : Nat) x, xs[j]? = some x → w.cell? ⟨bk, o + j, none⟩ = some (.string x)) (hbk : bk < w.heap.size) (hN : xs.length ≤ 140737488355328) (hcap : xs.length ≤ c) (hlen : (Lib.join (xs.map (·.data.toList)) sep.data.toList).length ≤ 140737488355328) :
    Calls Tryz.prog 165 #[.slice (some ⟨bk, o, none⟩) xs.length c, .string sep] w fun e w' => e = .returned (.string ⟨(Lib.join (xs.map (·.data.toList)) sep.data.toList).toArray⟩) ∧ Below w.heap.size w w' := Any.strings_Join Tryz.lays156 Tryz.Builder_Extra_156 bk o c xs sep w hcells hbk hN hcap hlen
open Go.RowKit in
def Tryz.lays144_ren : Go.Shelf.Ren := ⟨fun | 144 => 227 | 143 => 239 | 219 => 222 | 217 => 223 | 225 => 212 | 224 => 211 | 267 => 234 | 266 => 235 | 314 => 241 | n => n, fun | 9 => 9 | 4 => 4 | 3 => 3 | 5 => 5 | 46 => 196 | 146 => 218 | 51 => 217 | n => n, fun | 1 => 3 | n => n⟩
theorem Tryz.lays144 : Go.Proofs.Lays.n144 Tryz.prog Tryz.lays144_ren := {
  mixed := by kernel_rfl
  f143 := Tryz.func239.trans (congrArg some (by kernel_rfl))
  f144 := Tryz.func227.trans (congrArg some (by kernel_rfl))
  f217 := Tryz.func223.trans (congrArg some (by kernel_rfl))
  f219 := Tryz.func222.trans (congrArg some (by kernel_rfl))
  f224 := Tryz.func211.trans (congrArg some (by kernel_rfl))
  f225 := Tryz.func212.trans (congrArg some (by kernel_rfl))
  f266 := Tryz.func235.trans (congrArg some (by kernel_rfl))
  f267 := Tryz.func234.trans (congrArg some (by kernel_rfl))
  f314 := Tryz.func241.trans (congrArg some (by kernel_rfl))
  t3 := Tryz.underlying3
  a3 := Tryz.isAgg3
  z3 := Tryz.sizeOf3
  v3 := Tryz.zeroValue3
  t4 := Tryz.underlying4
  a4 := Tryz.isAgg4
  z4 := Tryz.sizeOf4
  v4 := Tryz.zeroValue4
  t5 := Tryz.underlying5
  a5 := Tryz.isAgg5
  z5 := Tryz.sizeOf5
  v5 := Tryz.zeroValue5
  t9 := Tryz.underlying9
  a9 := Tryz.isAgg9
  z9 := Tryz.sizeOf9
  v9 := Tryz.zeroValue9
  t46 := Tryz.underlying196
  a46 := Tryz.isAgg196
  z46 := Tryz.sizeOf196
  v46 := Tryz.zeroValue196
  t51 := Tryz.underlying217
  a51 := Tryz.isAgg217
  z51 := Tryz.sizeOf217
  v51 := Tryz.zeroValue217
  t146 := Tryz.underlying218
  a146 := Tryz.isAgg218
  z146 := Tryz.sizeOf218
  v146 := Tryz.zeroValue218
  g1 := by kernel_rfl }
open Go.RowKit Go.Lib in
theorem Tryz.strings_Contains_one (s : ByteArray) (c : UInt8) (w : World) :
    Calls Tryz.prog 227 #[.string s, .string ⟨#[c]⟩] w fun e w' => e = .returned (.bool (decide (0 ≤ Lib.indexByte s.data.toList c))) ∧ w' = w := Any.strings_Contains_one Tryz.lays144 s c w
def Tryz.lays227_ren : Go.Shelf.Ren := ⟨fun | 227 => 88 | n => n, fun | 9 => 9 | 116 => 107 | 4 => 4 | 0 => 0 | 3 => 3 | 5 => 5 | n => n, fun | n => n⟩
theorem Tryz.lays227 : Go.Proofs.Lays.n227 Tryz.prog Tryz.lays227_ren := {
  mixed := by kernel_rfl
  f227 := Tryz.func88.trans (congrArg some (by kernel_rfl))
  t0 := Tryz.underlying0
  a0 := Tryz.isAgg0
  z0 := Tryz.sizeOf0
  v0 := Tryz.zeroValue0
  t3 := Tryz.underlying3
  a3 := Tryz.isAgg3
  z3 := Tryz.sizeOf3
  v3 := Tryz.zeroValue3
  t4 := Tryz.underlying4
  a4 := Tryz.isAgg4
  z4 := Tryz.sizeOf4
  v4 := Tryz.zeroValue4
  t5 := Tryz.underlying5
  a5 := Tryz.isAgg5
  z5 := Tryz.sizeOf5
  v5 := Tryz.zeroValue5
  t9 := Tryz.underlying9
  a9 := Tryz.isAgg9
  z9 := Tryz.sizeOf9
  v9 := Tryz.zeroValue9
  t116 := Tryz.underlying107
  a116 := Tryz.isAgg107
  z116 := Tryz.sizeOf107 }
open Go.RowKit Go.Lib in
theorem Tryz.strings_makeASCIISet (hv116 : ∀ w, (zeroValue 107).run Tryz.prog w = .ok (.agg (Array.replicate 256 (.bool false))) w) (chars : ByteArray) (w : World) (hs : chars.size < 4294967281) (hascii : ∀ (j : Nat) b, chars.data.toList[j]? = some b → b.toNat < 128) :
    Calls Tryz.prog 88 #[.string chars] w fun e w' => e = .returned (.tuple #[.agg (Lib.setCells chars.data.toList), .bool true]) ∧ w' = w.alloc (.cells (Lib.setCells chars.data.toList) 107) := Any.strings_makeASCIISet Tryz.lays227 hv116 (by kernel_rfl) chars w hs hascii
open Go.RowKit Go.Lib in
def Tryz.lays196_ren : Go.Shelf.Ren := ⟨fun | 196 => 226 | 259 => 238 | n => n, fun | 9 => 9 | 4 => 4 | 3 => 3 | 5 => 5 | 12 => 12 | 119 => 200 | 0 => 0 | 46 => 196 | 139 => 203 | 138 => 202 | 53 => 220 | n => n, fun | 3 => 1 | 4 => 2 | n => n⟩
theorem Tryz.lays196 : Go.Proofs.Lays.n196 Tryz.prog Tryz.lays196_ren := {
  mixed := by kernel_rfl
  f196 := Tryz.func226.trans (congrArg some (by kernel_rfl))
  f259 := Tryz.func238.trans (congrArg some (by kernel_rfl))
  t0 := Tryz.underlying0
  a0 := Tryz.isAgg0
  z0 := Tryz.sizeOf0
  v0 := Tryz.zeroValue0
  t3 := Tryz.underlying3
  a3 := Tryz.isAgg3
  z3 := Tryz.sizeOf3
  v3 := Tryz.zeroValue3
  t4 := Tryz.underlying4
  a4 := Tryz.isAgg4
  z4 := Tryz.sizeOf4
  v4 := Tryz.zeroValue4
  t5 := Tryz.underlying5
  a5 := Tryz.isAgg5
  z5 := Tryz.sizeOf5
  v5 := Tryz.zeroValue5
  t9 := Tryz.underlying9
  a9 := Tryz.isAgg9
  z9 := Tryz.sizeOf9
  v9 := Tryz.zeroValue9
  t12 := Tryz.underlying12
  a12 := Tryz.isAgg12
  z12 := Tryz.sizeOf12
  v12 := Tryz.zeroValue12
  t46 := Tryz.underlying196
  a46 := Tryz.isAgg196
  z46 := Tryz.sizeOf196
  v46 := Tryz.zeroValue196
  t53 := Tryz.underlying220
  a53 := Tryz.isAgg220
  z53 := Tryz.sizeOf220
  v53 := Tryz.zeroValue220
  t119 := Tryz.underlying200
  a119 := Tryz.isAgg200
  z119 := Tryz.sizeOf200
  t138 := Tryz.underlying202
  a138 := Tryz.isAgg202
  z138 := Tryz.sizeOf202
  v138 := Tryz.zeroValue202
  t139 := Tryz.underlying203
  a139 := Tryz.isAgg203
  z139 := Tryz.sizeOf203
  v139 := Tryz.zeroValue203
  g3 := by kernel_rfl
  g4 := by kernel_rfl }
end Go.Proofs

namespace Go.Proofs.YtfppjenblllfaaaGreatDoor
open Go.Emb Go.RowKit Go.Kd Go.Hm
variable {w : World} {K : Value → World → Prop} {σ : Q4}
theorem Q9J {f:FuncId} {fn:Func} {a:List Value} {V:Value} (d:P.funcs[f]? =some fn) (b:fn.body.isSome=true) (g:(fn.name== "runtime.NumGoroutine")=false)
 (h:Calls P f a.toArray w fun e w'=>e= .returned V∧Below w.heap.size w w') (c: ∀w',Below w.heap.size w w'→K V w'):Q0 P f a w K:=by
 refine Un d b g (Calls.mono h ?_)
 rintro e w' ⟨rfl,b⟩
 exact c w' b
theorem Q3o {a:X0} (b:a.length≤Z7) (c:Lib.Utf8Tabs G.e G.d w) (h: ∀w',Below w.heap.size w w'→K (.bool (Lib.validD a)) w'):Q0 P F.bw [S a] w K:=
 Q9J Tryz.func226 (by kernel_rfl) (by kernel_rfl) (by
  have:=Any.utf8_ValidString Tryz.lays196 ⟨a.toArray⟩ w (by rw[C9];simp only[Z7] at b;omega) c
  simp only[List.toList_toArray] at this
  exact this) h
theorem Q5K {a:X0} {c:UInt8} (h:K (.bool (decide (0≤Lib.indexByte a c))) w):Q0 P F.cl [S a,S [c]] w K:=by
 refine Un (fn:=Tryz.f227) Tryz.func227 (by kernel_rfl) (by kernel_rfl) (Calls.mono (Tryz.strings_Contains_one ⟨a.toArray⟩ c w) ?_)
 rintro e w' ⟨rfl,rfl⟩
 exact h
structure Glb (σ : Q4) : Prop where
  ops : Q12 σ
  tabs : ∀ w, X4 w σ → Lib.Utf8Tabs G.e G.d w
  flt : Z3 σ ⟨G.b, 0, none⟩ (J0.map S)
theorem Glb.lift {σ0:Q4} (h:Glb σ0) (k:SLe σ0 σ):Glb σ:=⟨h.ops.le k.le,fun w a=>h.tabs w fun b o e=>a b o (k.le b o e),h.flt.le k.le⟩
def txt (n s:X0):Bool:=
 if n=[119,111,114,100] then decide (s.length≤64)&&Lib.validD s&& !decide (0≤Lib.indexByte s 10)
 else if n=[110,101,119] then W2 s
 else if n=[105,115]∨n=[99,97,115,116] then right s&& !plain s
 else if n=[97,114,114,97,121] then right s&&decide (Q1f s<3)
 else Xq s
theorem X1z {n a:X0} (ha:a.length≤Z7) (hs:X4 w σ) (hg:Glb σ) (h: ∀w' σ',Stp w σ w' σ'→K (.bool (txt n a)) w'):Q0 P F.cC [S n,S a] w K:=Q5U (by
 unfold Q0B
 have ha':a.length≤140737488355320:=by simp only[Z7] at ha;omega
 have ha2:a.length≤140737488355328:=by simp only[Z7] at ha;omega
 have hv: ∀{w1:World} {K:Value→World→Prop},X4 w1 σ→(∀w',Below w1.heap.size w1 w'→K (.bool (Lib.validD a)) w')→Q0 P F.bw [S a] w1 K:=fun hk h=>Q3o ha (hg.tabs _ hk) h
 unfold txt at h
 have e:decide ((a.length:Int)≤64)=decide (a.length≤64):=by rw[Bool.eq_iff_iff];simp only[decide_eq_true_eq];omega
 have e3:decide ((Q1f a:Int)<3)=decide (Q1f a<3):=by rw[Bool.eq_iff_iff];simp only[decide_eq_true_eq];omega
 by_cases h1:n=[119,111,114,100]
 ·rw[if_pos h1] at h
  simp only[decide_eq_true h1,↓M1,M1,Mb,reduceIte,e]
  by_cases h2:a.length≤64
  ·simp only[decide_eq_true h2,↓M1,M1,Mb,reduceIte] at h⊢
   refine hv hs (W3 hs ?_)
   intro w1 σ1 hk
   by_cases h3:Lib.validD a=true
   ·simp only[h3,↓M1,M1,Mb,reduceIte] at h⊢
    refine Q5K ?_
    (repeat' (first | (with_reducible intro _) | (with_reducible refine V5 ?_) | (simp only[↓M2,M2,Mb,reduceIte]) | (with_reducible first | refine ld aS aL aR ?_ | refine X8 aS aL aR ?_ | refine Z1 aS aL aR ?_ | refine Q9 aL ?_ | refine V1 aR ?_ | refine Y8 aS ?_ | refine L3 aS aL ?_ | refine J6 aS aR ?_ | refine Y6 aS aR aR (Rep.one (by assumption)) ?_ | refine U2 aS aR aR aR ?_ | (refine Z4 (fun hh=>?_) (fun hh=>?_)<;>(try simp only[hh,Bool.not_true,Bool.not_false,↓M2,M2,Mb,reduceIte])) | (refine Q5 (fun hh=>?_) (fun hh=>?_)<;>(try simp only[hh,Bool.not_true,Bool.not_false,↓M2,M2,Mb,reduceIte])))))
    all_goals exact aF
   ·simp only[eq_false_of_ne_true h3,↓M1,M1,Mb,reduceIte] at h⊢
    (repeat' (first | (with_reducible intro _) | (with_reducible refine V5 ?_) | (simp only[↓M2,M2,Mb,reduceIte]) | (with_reducible first | refine ld aS aL aR ?_ | refine X8 aS aL aR ?_ | refine Z1 aS aL aR ?_ | refine Q9 aL ?_ | refine V1 aR ?_ | refine Y8 aS ?_ | refine L3 aS aL ?_ | refine J6 aS aR ?_ | refine Y6 aS aR aR (Rep.one (by assumption)) ?_ | refine U2 aS aR aR aR ?_ | (refine Z4 (fun hh=>?_) (fun hh=>?_)<;>(try simp only[hh,Bool.not_true,Bool.not_false,↓M2,M2,Mb,reduceIte])) | (refine Q5 (fun hh=>?_) (fun hh=>?_)<;>(try simp only[hh,Bool.not_true,Bool.not_false,↓M2,M2,Mb,reduceIte])))))
    all_goals exact aF
  ·simp only[decide_eq_false h2,↓M1,M1,Mb,reduceIte] at h⊢
   (repeat' (first | (with_reducible intro _) | (with_reducible refine V5 ?_) | (simp only[↓M2,M2,Mb,reduceIte]) | (with_reducible first | refine ld aS aL aR ?_ | refine X8 aS aL aR ?_ | refine Z1 aS aL aR ?_ | refine Q9 aL ?_ | refine V1 aR ?_ | refine Y8 aS ?_ | refine L3 aS aL ?_ | refine J6 aS aR ?_ | refine Y6 aS aR aR (Rep.one (by assumption)) ?_ | refine U2 aS aR aR aR ?_ | (refine Z4 (fun hh=>?_) (fun hh=>?_)<;>(try simp only[hh,Bool.not_true,Bool.not_false,↓M2,M2,Mb,reduceIte])) | (refine Q5 (fun hh=>?_) (fun hh=>?_)<;>(try simp only[hh,Bool.not_true,Bool.not_false,↓M2,M2,Mb,reduceIte])))))
   all_goals exact aF
 rw[if_neg h1] at h
 simp only[decide_eq_false h1,↓M1,M1,Mb,reduceIte]
 by_cases h2:n=[110,101,119]
 ·rw[if_pos h2] at h
  simp only[decide_eq_true h2,↓M1,M1,Mb,reduceIte]
  (repeat' (first | (with_reducible intro _) | (with_reducible refine V5 ?_) | (simp only[↓M2,M2,Mb,reduceIte]) | (with_reducible first | refine ld aS aL aR ?_ | refine X8 aS aL aR ?_ | refine Z1 aS aL aR ?_ | refine Q9 aL ?_ | refine V1 aR ?_ | refine Y8 aS ?_ | refine L3 aS aL ?_ | refine J6 aS aR ?_ | refine Y6 aS aR aR (Rep.one (by assumption)) ?_ | refine U2 aS aR aR aR ?_ | refine Dq _ au (W3 aS ?_) | (refine Z4 (fun hh=>?_) (fun hh=>?_)<;>(try simp only[hh,Bool.not_true,Bool.not_false,↓M2,M2,Mb,reduceIte])) | (refine Q5 (fun hh=>?_) (fun hh=>?_)<;>(try simp only[hh,Bool.not_true,Bool.not_false,↓M2,M2,Mb,reduceIte])))))
  all_goals exact aF
 rw[if_neg h2] at h
 simp only[decide_eq_false h2,↓M1,M1,Mb,reduceIte]
 by_cases h3:n=[105,115]∨n=[99,97,115,116]
 ·rw[if_pos h3] at h
  have e4:(decide (n=[105,115])||decide (n=[99,97,115,116]))=true:=by simpa using h3
  refine V5 ?_
  refine Q5 (fun h4=>?_) (fun h4=>?_)
  ·simp only[h4,↓M1,M1,Mb,reduceIte]
   (repeat' (first | (with_reducible intro _) | (with_reducible refine V5 ?_) | (simp only[↓M2,M2,Mb,reduceIte]) | (with_reducible first | refine ld aS aL aR ?_ | refine X8 aS aL aR ?_ | refine Z1 aS aL aR ?_ | refine Q9 aL ?_ | refine V1 aR ?_ | refine Y8 aS ?_ | refine L3 aS aL ?_ | refine J6 aS aR ?_ | refine Y6 aS aR aR (Rep.one (by assumption)) ?_ | refine U2 aS aR aR aR ?_ | refine Zz _ au (W3 aS ?_) | refine Vk _ ?_ | (refine Z4 (fun hh=>?_) (fun hh=>?_)<;>(try simp only[hh,Bool.not_true,Bool.not_false,↓M2,M2,Mb,reduceIte])) | (refine Q5 (fun hh=>?_) (fun hh=>?_)<;>(try simp only[hh,Bool.not_true,Bool.not_false,↓M2,M2,Mb,reduceIte])))))
   all_goals exact aF
  ·rw[h4,Bool.false_or] at e4
   simp only[e4,↓M1,M1,Mb,reduceIte]
   (repeat' (first | (with_reducible intro _) | (with_reducible refine V5 ?_) | (simp only[↓M2,M2,Mb,reduceIte]) | (with_reducible first | refine ld aS aL aR ?_ | refine X8 aS aL aR ?_ | refine Z1 aS aL aR ?_ | refine Q9 aL ?_ | refine V1 aR ?_ | refine Y8 aS ?_ | refine L3 aS aL ?_ | refine J6 aS aR ?_ | refine Y6 aS aR aR (Rep.one (by assumption)) ?_ | refine U2 aS aR aR aR ?_ | refine Zz _ au (W3 aS ?_) | refine Vk _ ?_ | (refine Z4 (fun hh=>?_) (fun hh=>?_)<;>(try simp only[hh,Bool.not_true,Bool.not_false,↓M2,M2,Mb,reduceIte])) | (refine Q5 (fun hh=>?_) (fun hh=>?_)<;>(try simp only[hh,Bool.not_true,Bool.not_false,↓M2,M2,Mb,reduceIte])))))
   all_goals exact aF
 rw[if_neg h3] at h
 obtain ⟨h3,h4⟩:=not_or.1 h3
 refine V5 ?_
 simp only[decide_eq_false h3,decide_eq_false h4,↓M1,M1,Mb,reduceIte]
 by_cases h5:n=[97,114,114,97,121]
 ·rw[if_pos h5] at h
  simp only[decide_eq_true h5,↓M1,M1,Mb,reduceIte]
  (repeat' (first | (with_reducible intro _) | (with_reducible refine V5 ?_) | (simp only[↓M2,M2,Mb,reduceIte]) | (with_reducible first | refine ld aS aL aR ?_ | refine X8 aS aL aR ?_ | refine Z1 aS aL aR ?_ | refine Q9 aL ?_ | refine V1 aR ?_ | refine Y8 aS ?_ | refine L3 aS aL ?_ | refine J6 aS aR ?_ | refine Y6 aS aR aR (Rep.one (by assumption)) ?_ | refine U2 aS aR aR aR ?_ | refine Zz _ au (W3 aS ?_) | refine X28 _ au (W3 aS ?_) | (refine Z4 (fun hh=>?_) (fun hh=>?_)<;>(try simp only[hh,Bool.not_true,Bool.not_false,↓M2,M2,Mb,reduceIte])) | (refine Q5 (fun hh=>?_) (fun hh=>?_)<;>(try simp only[hh,Bool.not_true,Bool.not_false,↓M2,M2,Mb,reduceIte])))))
  all_goals (try rw[e3])
  all_goals exact aF
 rw[if_neg h5] at h
 simp only[decide_eq_false h5,↓M1,M1,Mb,reduceIte]
 intro _
 refine X1h a ha2 (W3 hs fun w1 σ1 hk=>?_)
 by_cases hp:Xq a=true
 ·simp only[hp,if_true] at h⊢
  (repeat' (first | (with_reducible intro _) | (with_reducible refine V5 ?_) | (simp only[↓M2,M2,Mb,reduceIte]) | (with_reducible first | refine ld aS aL aR ?_ | refine X8 aS aL aR ?_ | refine Z1 aS aL aR ?_ | refine Q9 aL ?_ | refine V1 aR ?_ | refine Y8 aS ?_ | refine L3 aS aL ?_ | refine J6 aS aR ?_ | refine Y6 aS aR aR (Rep.one (by assumption)) ?_ | refine U2 aS aR aR aR ?_ | (refine Z4 (fun hh=>?_) (fun hh=>?_)<;>(try simp only[hh,Bool.not_true,Bool.not_false,↓M2,M2,Mb,reduceIte])) | (refine Q5 (fun hh=>?_) (fun hh=>?_)<;>(try simp only[hh,Bool.not_true,Bool.not_false,↓M2,M2,Mb,reduceIte])))))
  all_goals exact aF
 ·simp only[eq_false_of_ne_true hp,Bool.false_eq_true,if_false] at h⊢
  (repeat' (first | (with_reducible intro _) | (with_reducible refine V5 ?_) | (simp only[↓M2,M2,Mb,reduceIte]) | (with_reducible first | refine ld aS aL aR ?_ | refine X8 aS aL aR ?_ | refine Z1 aS aL aR ?_ | refine Q9 aL ?_ | refine V1 aR ?_ | refine Y8 aS ?_ | refine L3 aS aL ?_ | refine J6 aS aR ?_ | refine Y6 aS aR aR (Rep.one (by assumption)) ?_ | refine U2 aS aR aR aR ?_ | (refine Z4 (fun hh=>?_) (fun hh=>?_)<;>(try simp only[hh,Bool.not_true,Bool.not_false,↓M2,M2,Mb,reduceIte])) | (refine Q5 (fun hh=>?_) (fun hh=>?_)<;>(try simp only[hh,Bool.not_true,Bool.not_false,↓M2,M2,Mb,reduceIte])))))
  all_goals exact aF)
def N1 (i:Ins):Int:=if !(takes i.op).2.2 then 40 else if (!(takes i.op).1&&decide (i.n≠0))||(!(takes i.op).2.1&&decide (i.s≠[]))||((takes i.op).2.1&& !txt i.op i.s) then 41 else 0
theorem Q9c {a:X0} (c:X4 w σ) (b:Glb σ) (h: ∀w',Below w.heap.size w w'→K (.tuple #[.bool (takes a).1, .bool (takes a).2.1, .bool (takes a).2.2]) w'):Q0 P F.bU [S a] w K:=X16 c b.ops h
theorem Q5W {i:Ins} {cs:List Value} (hs:X4 w σ) (hg:Glb σ) (hi:G3 σ i cs) (h: ∀w' σ',Stp w σ w' σ'→K (I (N1 i)) w'):Q0 P F.cv [.agg cs.toArray] w K:=Q3N (by
 obtain ⟨rfl,h1,h2,h3⟩:=hi
 unfold Tc
 unfold N1 at h
 (repeat' (first | (with_reducible intro _) | (with_reducible refine V5 ?_) | (simp only[↓M2,M2,Mb,reduceIte]) | (with_reducible first | refine ld aS aL aR ?_ | refine X8 aS aL aR ?_ | refine Z1 aS aL aR ?_ | refine Q9 aL ?_ | refine V1 aR ?_ | refine Y8 aS ?_ | refine L3 aS aL ?_ | refine J6 aS aR ?_ | refine Y6 aS aR aR (Rep.one (by assumption)) ?_ | refine U2 aS aR aR aR ?_ | refine Q9c au au (W3 aS ?_) | refine X1z au au au ?_ | (refine Z4 (fun hh=>?_) (fun hh=>?_)<;>(try simp only[hh,Bool.not_true,Bool.not_false,↓M2,M2,Mb,reduceIte])) | (refine Q5 (fun hh=>?_) (fun hh=>?_)<;>(try simp only[hh,Bool.not_true,Bool.not_false,↓M2,M2,Mb,reduceIte])))))
 all_goals exact aF)
end Go.Proofs.YtfppjenblllfaaaGreatDoor

namespace Go.Emb
open Go.RowKit Go.Hm
variable {P : Program} {W : World}
theorem Q10 {w:World} (c:X4 w (Yb W)) {a:Addr} {v:Value} (h:W.cell? a=some v):w.cell? a=some v:=by
 unfold World.cell? at h⊢
 cases b:W.heap[a.block]? with
 | none=>rw[b] at h;cases h
 | some o=>rw[b] at h;rw[c _ o b];exact h
theorem X20 {α:Type} {f:α→List Value} {sz:Nat} (k: ∀a,(f a).length=sz): ∀(l:List α) (cs:List Value),cs.length=l.length*sz→(∀i a,l[i]? =some a→(cs.drop (i*sz)).take sz=f a)→cs=l.flatMap f:=by
 intro l
 induction l with
 | nil=>intro cs h _;simp at h;simp[h]
 | cons a r j=>
  intro cs h hh
  have c:=hh 0 a rfl
  have e:=j (cs.drop sz) (by rw[List.length_drop,h,List.length_cons,Nat.succ_mul];omega) (fun i b g=>by
   have:=hh (i+1) b (by simpa using g)
   rw[List.drop_drop]
   rwa [Nat.succ_mul,Nat.add_comm] at this)
  rw[List.flatMap_cons,←e,←c]
  simp
theorem Q3c {α H:Type} {enc:TypeId×Value→H} {base:Nat} {w:Nat→Bool} {b:Bool} {f:α→List Value} {g:α→DataW H} {n sz:Nat} {t e:TypeId} {c:Nat} {cs:List Value} {p:List MemPlace} (A:P.underlying t=some (.array n e)) (y:P.cellsOf e=sz) (k:P.cellsOf t=n*sz)
 (l:List α) (E: ∀a,(f a).length=sz) (j: ∀m cs a q,DataW.trod enc P W base w b m e cs=some (g a,q)→cs=f a)
 (h:DataW.trod enc P W base w b c t cs=some (.agg (l.map g),p)):cs=l.flatMap f:=by
 obtain ⟨xs,m,_,o,z,L,C⟩:=DataW.trod_array A h
 simp only[Prod.mk.injEq,DataW.agg.injEq] at o
 have D:l.length=n:=by have:=congrArg List.length o.1;simp at this;omega
 refine X20 E l cs (by rw[z,k,D]) fun i a u=>?_
 have J:i<l.length:=(List.getElem?_eq_some_iff.1 u).1
 have r:=C i (by omega)
 have s:i<xs.length:=by omega
 rw[List.getElem?_eq_getElem s,y] at r
 have B:(xs[i]).1=g a:=by
  have:=congrArg (·[i]?) o.1
  simp only[List.getElem?_map,u,List.getElem?_eq_getElem s,Option.map_some,Option.some.injEq] at this
  exact this.symm
 exact j m _ a _ (by rw[r];congr 1;exact Prod.ext B rfl)
theorem Q4u {n:String} {g:Nat} {cs:Array Value} {l:List Value} (c:P.globalNamed n=some g) (a:W.var? P n=some cs) (f:cs.toList=l):Z3 (Yb W) ⟨g,0,none⟩ l:=by
 unfold World.var? at a
 rw[c] at a
 simp only[Option.bind_some] at a
 cases b:W.heap[g]? with
 | none=>rw[b] at a;cases a
 | some o=>
  rw[b] at a
  cases o with
  | cells D3 e h=>
   cases a
   refine ⟨rfl,cs,e,h,b,fun i v j=>?_⟩
   subst f
   simpa using j
  | _=>cases a
end Go.Emb
namespace Go.Proofs.YtfppjenblllfaaaGreatDoor
open Go.Emb Go.RowKit Go.Kd Go.Hm
variable {W : World}
def laidAll:List (String×DataW Unit):=[("unicode/utf8.acceptRanges",Rows.laid_unicode_utf8_acceptRanges),("squinch/code.ops",Rows.laid_squinch_code_ops),("squinch/hier.faults",Rows.laid_squinch_hier_faults),("unicode/utf8.first",Rows.laid_unicode_utf8_first)]
theorem X2n:Rows.laid_squinch_code_ops=(.agg (Yv.map fun o=> .agg [.lit (.string o.name), .lit (.bool o.number), .lit (.bool o.text)]):DataW Unit):=by rfl
theorem Q9H:Rows.laid_squinch_hier_faults=(.agg (J0.map fun s=> .lit (.string s)):DataW Unit):=by rfl
theorem X2l:(Rows.laid_unicode_utf8_acceptRanges:DataW Unit)=Lib.acceptData:=by rfl
theorem X1d:Rows.laid_unicode_utf8_first=Lib.firstData:=by kernel_rfl
def X2H:Array Field:= #[⟨"name",T.c,0,false, "", "squinch/code",0⟩,⟨"number",T.p,1,false, "", "squinch/code",16⟩,⟨"text",T.p,2,false, "", "squinch/code",17⟩]
theorem X2I:P.underlying T.a6=some (.struct X2H):=by kernel_rfl
theorem X21 (h:laidMetH P laidAll W):Glb (Yb W):=by
 rw[Go.MakeChecks.laidMetH_plain _ _ _ (by kernel_rfl)] at h
 refine ⟨?_,fun w z=>?_,?_⟩
 ·obtain ⟨g,t,cs,r,p,u,j,b,o⟩:=Lib.laidMet.reads h (.tail _ (.head _))
  obtain rfl:=Option.some.inj ((show P.globalNamed "squinch/code.ops"=some G.a by kernel_rfl).symm.trans u)
  obtain rfl:=Option.some.inj ((show (P.globals[G.a]?).map (·.type)=some T.a8 by kernel_rfl).symm.trans j)
  rw[X2n] at o
  refine Q4u u b (Q3c (f:=cOp) (sz:=3) (n:=42) (e:=T.a6) (by kernel_rfl) (by kernel_rfl) (by kernel_rfl) Yv (fun _=>rfl) (fun m cs a q h=>by
  obtain ⟨xs,n,_,k,Y,Z,C⟩:=DataW.trod_struct X2I h
  simp only[Prod.mk.injEq,DataW.agg.injEq] at k
  have l:cs.length=3:=by rw[Y];kernel_rfl
  obtain ⟨B,A,y,rfl⟩:=Q7h l
  obtain ⟨x0,U,x2,rfl⟩:=Q7h (show xs.length=3 by rw[Z];rfl)
  have k:=k.1
  simp only[List.map_cons,List.map_nil,List.cons.injEq,and_true] at k
  obtain ⟨N,E,M⟩:=k
  have R:DataW.trod (fun _=>()) P W 0 (fun _=>true) false n T.c (List.take (P.cellsOf T.c) (List.drop 0 [B,A,y]))=some x0:=C 0 _ rfl
  have L:DataW.trod (fun _=>()) P W 0 (fun _=>true) false n T.p (List.take (P.cellsOf T.p) (List.drop 1 [B,A,y]))=some U:=C 1 _ rfl
  have O:DataW.trod (fun _=>()) P W 0 (fun _=>true) false n T.p (List.take (P.cellsOf T.p) (List.drop 2 [B,A,y]))=some x2:=C 2 _ rfl
  rw[Zb] at R
  rw[Q8l] at L O
  obtain ⟨⟨⟨s0⟩⟩,q0,V,_⟩:=DataW.trod_string X7 R
  obtain ⟨b1,D,r1⟩:=DataW.trod_bool Pn L
  obtain ⟨b2,Q,r2⟩:=DataW.trod_bool Pn O
  simp at q0 D Q
  subst q0 D Q V r1 r2
  simp at N E M
  simp[cOp,←N,←E,←M]) o)
 ·have:=utf8Tabs_of_readsT (U8Types.of196 Tryz.lays196) ⟨by kernel_rfl,by kernel_rfl,by kernel_rfl,by kernel_rfl,by kernel_rfl,by kernel_rfl,by kernel_rfl⟩ (X1d▸Lib.laidMet.reads h (.tail _ (.tail _ (.tail _ (.head _))))) (X2l▸Lib.laidMet.reads h (.head _))
  exact ⟨fun c X=>Q10 z (this.1 c X),fun i J=>⟨Q10 z (this.2 i J).1,Q10 z (this.2 i J).2⟩⟩
 ·obtain ⟨g,t,cs,r,p,u,j,b,o⟩:=Lib.laidMet.reads h (.tail _ (.tail _ (.head _)))
  obtain rfl:=Option.some.inj ((show P.globalNamed "squinch/hier.faults"=some G.b by kernel_rfl).symm.trans u)
  obtain rfl:=Option.some.inj ((show (P.globals[G.b]?).map (·.type)=some T.ag by kernel_rfl).symm.trans j)
  rw[Q9H] at o
  have:=Q3c (f:=fun s=>[S s]) (sz:=1) (n:=6) (e:=T.c) (by kernel_rfl) Zb (by kernel_rfl) J0 (fun _=>rfl) (fun m cs a q h=>by
   obtain ⟨⟨⟨s⟩⟩,rfl,k,_⟩:=DataW.trod_string X7 h
   cases k;rfl) o
  exact Q4u u b (this.trans (by rfl))
end Go.Proofs.YtfppjenblllfaaaGreatDoor
namespace Go.Emb
open Go.RowKit Go.Hm
theorem Q8t {H:Type} {P:Program} {a:List TypeId} {ds:List (DataW H)} (h:(DataW.weightsEach P a ds).all (· ≤reachBytes)=true) {j:Nat} {t:TypeId} {d:DataW H} (b:a[j]? =some t) (c:ds[j]? =some d):Wt P t d:=fun n e=>by
 have:=List.all_eq_true.1 h _ (DataW.weights_mem_each b c n e)
 simpa using this
end Go.Emb
namespace Go.Proofs.YtfppjenblllfaaaGreatDoor
open Go.Emb Go.RowKit Go.Kd Go.Hm
section
variable {H : Type} {enc : TypeId × Value → H} {W : World} {v : Value} {d : DataW H} {p : List MemPlace}
set_option maxRecDepth 100000 in
theorem X1U {base:Nat} (c:Value.okWide P W .any base T.c v) (h:DataW.Trod enc P W 0 (fun _=>true) true T.c v d p) (f:Wt P T.c d): ∃s:X0,v=S s∧s.length≤Z7:=by
 obtain ⟨s,rfl⟩:=WideShapes.okWide_string X7 c
 unfold DataW.Trod at h
 obtain ⟨a,h⟩:=h
 obtain ⟨s,e,b⟩:=Em X7 h f
 simp[Value.cells] at e
 exact ⟨s,by rw[e],b⟩
end
end Go.Proofs.YtfppjenblllfaaaGreatDoor

namespace Go.Proofs.YtfppjenblllfaaaGreatDoor
open Go.Emb Go.RowKit Go.Kd Go.Hm
variable {w : World} {K : Value → World → Prop} {σ : Q4}
def C4 (n:Int) (x:Cat):Bool:=decide (0≤x.frm)&&decide (x.frm<x.to)&&decide (x.to≤n)&&decide (0≤x.at_)&&decide (x.at_<n)&&W2 x.cls
theorem Q74 {cs:List Value} {c:Cat} {q:Addr} {n:Int} (hs:X4 w σ) (hc:Xf σ c cs) (hq:Z3 σ q [I n]) (h: ∀w' σ',Stp w σ w' σ'→K (.bool (C4 n c)) w'):Q0 P F.b0 [.agg cs.toArray, .pointer (some q)] w K:=Q0R (by
 obtain ⟨rfl,h1,h2,h3,h4⟩:=hc
 unfold Ej
 unfold C4 at h
 (repeat' (first | (with_reducible intro _) | (with_reducible refine V5 ?_) | (simp only[↓M2,M2,Mb,reduceIte]) | (with_reducible first | refine ld aS aL aR ?_ | refine X8 aS aL aR ?_ | refine Z1 aS aL aR ?_ | refine Q9 aL ?_ | refine V1 aR ?_ | refine Y8 aS ?_ | refine L3 aS aL ?_ | refine J6 aS aR ?_ | refine Y6 aS aR aR (Rep.one (by assumption)) ?_ | refine U2 aS aR aR aR ?_ | refine Dq _ au (W3 aS ?_) | (refine Z4 (fun hh=>?_) (fun hh=>?_)<;>(try simp only[hh,Bool.not_true,Bool.not_false,↓M2,M2,Mb,reduceIte])) | (refine Q5 (fun hh=>?_) (fun hh=>?_)<;>(try simp only[hh,Bool.not_true,Bool.not_false,↓M2,M2,Mb,reduceIte])))))
 all_goals exact aF)
theorem Q7q {cs:List Value} {i:Ins} (hs:X4 w σ) (hg:Glb σ) (hc:G3 σ i cs) (h: ∀w' σ',Stp w σ w' σ'→K (.bool (decide (N1 i=0))) w'):Q0 P F.b1 [.agg cs.toArray] w K:=Q13 (by
 obtain ⟨rfl,h1,h2,h3⟩:=hc
 have hc:G3 σ i [S i.op,I i.n,S i.s]:=⟨rfl,h1,h2,h3⟩
 unfold El
 (repeat' (first | (with_reducible intro _) | (with_reducible refine V5 ?_) | (simp only[↓M2,M2,Mb,reduceIte]) | (with_reducible first | refine ld aS aL aR ?_ | refine X8 aS aL aR ?_ | refine Z1 aS aL aR ?_ | refine Q9 aL ?_ | refine V1 aR ?_ | refine Y8 aS ?_ | refine L3 aS aL ?_ | refine J6 aS aR ?_ | refine Y6 aS aR aR (Rep.one (by assumption)) ?_ | refine U2 aS aR aR aR ?_ | refine Q5W au au au ?_ | (refine Z4 (fun hh=>?_) (fun hh=>?_)<;>(try simp only[hh,Bool.not_true,Bool.not_false,↓M2,M2,Mb,reduceIte])) | (refine Q5 (fun hh=>?_) (fun hh=>?_)<;>(try simp only[hh,Bool.not_true,Bool.not_false,↓M2,M2,Mb,reduceIte])))))
 all_goals exact aF)
def C6 (m:Hm.Met):Bool:=L8 m.name&&m.params.all right&&(decide (m.result=[])||right m.result)&&
 if m.abs then decide (m.locals=0)&&decide (m.code=[])&&decide (m.catches=[])
 else decide (m.code≠[])&&decide ((m.params.length:Int)<m.locals)&&m.code.all (fun i=>decide (N1 i=0))&&m.catches.all (C4 m.code.length)
theorem Q90 {cs:List Value} {m:Hm.Met} (hs:X4 w σ) (hg:Glb σ) (hm:L2 σ m cs) (h: ∀w' σ',Stp w σ w' σ'→K (.bool (C6 m)) w'):Q0 P F.aS [.agg cs.toArray] w K:=Q2a (by
 obtain ⟨pv,cv,hv,rfl,g1,g2,g3,g4,g5,g6⟩:=hm
 unfold Cq
 unfold C6 at h
 have e1:decide ((0:Int)<m.code.length)=decide (m.code≠[]):=by cases m.code<;>simp
 have e2:decide ((m.code.length:Int)=0)=decide (m.code=[]):=by cases m.code<;>simp;omega
 have e3:decide ((m.catches.length:Int)=0)=decide (m.catches=[]):=by cases m.catches<;>simp;omega
 have hA: ∀{w1:World} {σ1:Q4} {K:Value→World→Prop},X4 w1 σ1→Sl 1 X9 σ1 pv m.params→(∀w' σ',Stp w1 σ1 w' σ'→K (.bool (m.params.all right)) w')→Q0 P F.a3 [pv, .func (.func F.a1) #[] #[]] w1 K:=
  fun hs hv h=>Cc right hs hv (fun σ1 x w1 K _ _ hs hl hK=>Y7 (Zz x (Nat.le_trans hl (by decide)) hK)) (W3 hs h)
 have hB: ∀{w1:World} {σ1:Q4} {K:Value→World→Prop},X4 w1 σ1→Glb σ1→Sl 3 G3 σ1 cv m.code→(∀w' σ',Stp w1 σ1 w' σ'→K (.bool (m.code.all fun i=>decide (N1 i=0))) w')→Q0 P F.ap [cv, .func (.func F.b1) #[] #[]] w1 K:=
  fun hs hg hv h=>Q0q (fun i=>decide (N1 i=0)) hs hv (fun σ1 x cs w1 K le _ hs hr hl hK=>Y7 (Q7q hs (hg.lift ⟨le⟩) hr fun w' σ' hk=>hK w' hk.bel)) (W3 hs h)
 have hC: ∀{w1:World} {σ1:Q4} {K:Value→World→Prop} {q:Addr},X4 w1 σ1→Sl 4 Xf σ1 hv m.catches→Z3 σ1 q [I m.code.length]→(∀w' σ',Stp w1 σ1 w' σ'→K (.bool (m.catches.all (C4 m.code.length))) w')→Q0 P F.aq [hv, .func (.func F.b0) #[] #[.pointer (some q)]] w1 K:=
  fun hs hv hq h=>Q0n (C4 m.code.length) hs hv (fun σ1 x cs w1 K le _ hs hr hl hK=>Y7 (Q74 hs hr (hq.le le) fun w' σ' hk=>hK w' hk.bel)) (W3 hs h)
 refine Y8 hs fun a w1 σ1 hk1 ha1=>?_
 (repeat' (first | (with_reducible intro _) | (with_reducible refine V5 ?_) | (simp only[↓M2,M2,Mb,reduceIte]) | (with_reducible first | refine ld aS aL aR ?_ | refine X8 aS aL aR ?_ | refine Z1 aS aL aR ?_ | refine Q9 aL ?_ | refine V1 aR ?_ | refine Y8 aS ?_ | refine L3 aS aL ?_ | refine J6 aS aR ?_ | refine Y6 aS aR aR (Rep.one (by assumption)) ?_ | refine U2 aS aR aR aR ?_ | refine Q4S au (W3 aS ?_) | refine Zz _ au (W3 aS ?_) | refine hA au au ?_ | refine hB au au au ?_ | refine hC au au au ?_ | (refine Z4 (fun hh=>?_) (fun hh=>?_)<;>(try simp only[hh,Bool.not_true,Bool.not_false,↓M2,M2,Mb,reduceIte])) | (refine Q5 (fun hh=>?_) (fun hh=>?_)<;>(try simp only[hh,Bool.not_true,Bool.not_false,↓M2,M2,Mb,reduceIte])))))
 all_goals (simp only[←e1,←e2,←e3] at h;clear e1 e2 e3;exact aF))
theorem Q82 {cs:List Value} {m:Hm.Met} (d:X4 w σ) (c:Glb σ) (b:L2 σ m cs) (h: ∀w' a,Stp w σ w' a→K (.bool (C6 m)) w'):Y9 P (.func (.func F.aS) #[] #[]) [.agg cs.toArray] w K:=Y7 (Q90 d c b h)
def Nv (f:Fld):Bool:=L8 f.name&&right f.kind
def Lj (c:Cla):Bool:=(c.name::c.super::c.like).all W2&& !((c.super::c.like).any fun y=>decide (c.name=y))&&E8 id [] c.like&&
 !(c.iface&&(!c.abs|| !decide (c.super=Z8)|| !decide (c.fields=[])||c.methods.any (fun m=> !m.abs)))&&
 !((c.abs&&c.fin)||(c.methods.any (·.abs)&& !c.abs))&&E8 Fld.name [] c.fields&&E8 Hm.Met.name [] c.methods&&c.fields.all Nv&&c.methods.all C6
def M4 (c:Cla):Int:=if Xw c then 51 else if Lj c then 0 else 50
theorem Q7U {cs:List Value} {f:Fld} (hs:X4 w σ) (hf:D6 σ f cs) (h: ∀w' σ',Stp w σ w' σ'→K (.bool (Nv f)) w'):Q0 P F.bi [.agg cs.toArray] w K:=Q1L (by
 obtain ⟨rfl,h1,h2⟩:=hf
 unfold Hv
 unfold Nv at h
 (repeat' (first | (with_reducible intro _) | (with_reducible refine V5 ?_) | (simp only[↓M2,M2,Mb,reduceIte]) | (with_reducible first | refine ld aS aL aR ?_ | refine X8 aS aL aR ?_ | refine Z1 aS aL aR ?_ | refine Q9 aL ?_ | refine V1 aR ?_ | refine Y8 aS ?_ | refine L3 aS aL ?_ | refine J6 aS aR ?_ | refine Y6 aS aR aR (Rep.one (by assumption)) ?_ | refine U2 aS aR aR aR ?_ | refine Q4S au (W3 aS ?_) | refine Zz _ au (W3 aS ?_) | (refine Z4 (fun hh=>?_) (fun hh=>?_)<;>(try simp only[hh,Bool.not_true,Bool.not_false,↓M2,M2,Mb,reduceIte])) | (refine Q5 (fun hh=>?_) (fun hh=>?_)<;>(try simp only[hh,Bool.not_true,Bool.not_false,↓M2,M2,Mb,reduceIte])))))
 all_goals exact aF)
set_option maxHeartbeats 1600000 in
theorem X0K {cs:List Value} {c:Cla} (hs:X4 w σ) (hg:Glb σ) (hc:U6 σ c cs) (hl:c.like.length≤1000000) (h: ∀w' σ',Stp w σ w' σ'→K (.bool (Lj c)) w'):Q0 P F.ca [.agg cs.toArray] w K:=Q3s (by
 obtain ⟨lv,fv,mv,rfl,g1,g2,g3,g4,g5⟩:=hc
 unfold Gz
 unfold Lj at h
 refine Y8 hs fun a w1 σ1 hk1 ha1=>?_
 rw[fa]
 refine ld hk1.sat ha1 rfl ?_
 rw[fa]
 refine ld hk1.sat ha1 rfl ?_
 refine I6 (R:=X9) (sz:=1) (xs:=[c.name,c.super]) hk1 [_,_] rfl rfl (by simp;exact ⟨rfl,rfl⟩) rfl ⟨⟨rfl,g4⟩,⟨rfl,g5⟩,trivial⟩ fun v w2 hk2 hacc _=>?_
 rw[fa]
 refine ld hk2.sat ha1 rfl ?_
 refine Dl (hk1.trans hk2) hacc (g1.up hk1) rfl (by simp;omega) (by simp;omega) fun v' w3 hn3 hS3 hacc3 _=>?_
 obtain ⟨σ3,hS3,hv3,le3,_⟩:=hacc3.keep hS3
 have hv3:Sl 1 X9 σ3 v' (c.name::c.super::c.like):=hv3
 have ha3:=ha1.le le3
 have le13:SLe σ σ3:=⟨hS3.le⟩
 have g1:=g1.lift le13
 have g2:=g2.lift le13
 have g3:=g3.lift le13
 have hg:=hg.lift le13
 refine U9 hS3.sat ?_
 refine W5 (fun v _=>Sl 1 X9 σ3 v (c.super::c.like)) (fun _ _ _ h _=>h) (fun w hb=>?_) ?_
 ·refine Hj hv3 (some (I 1)) none 1 (c.like.length+2) (.inr rfl) (.inl ⟨rfl,by simp⟩) (by omega) (by simp) fun v' hv'=>⟨Below.refl _ _,?_⟩
  simpa using hv'
 refine X2 (.pointer (some (a.add 0))) (fun w hb=>by rw[fa];exact X6 rfl) ?_
 refine X2 (S c.name) (fun t w hb e=>by rw[e];exact ld hb.sat ha3 rfl (X6 rfl)) ?_
 rintro t16 t17 t18 w4 hb4 f16 rfl rfl
 have hS4:=hS3.trans hb4.stp
 clear hb4 hk1 hk2 hn3
 have hs4:=hS4.sat
 refine Q0g hs4 f16 ?_
 have hA: ∀{w1:World} {σ1:Q4} {K:Value→World→Prop},X4 w1 σ1→Sl 7 L2 σ1 mv c.methods→(∀w' σ',Stp w1 σ1 w' σ'→K (.bool (c.methods.any (·.abs))) w')→Q0 P F.a [mv, .func (.func F.bV) #[] #[]] w1 K:=
  fun hs hv h=>H7 (·.abs) hs hv (fun x cs w1 K _ hs hr hl hK=>Y7 (Q1v (by
   obtain ⟨pv,cv,hv,rfl,_⟩:=hr
   unfold Rt
   refine Y8 hs fun a w1 σ1 hk1 ha1=>?_
   (repeat' (first | (with_reducible intro _) | (with_reducible refine V5 ?_) | (simp only[↓M2,M2,Mb,reduceIte]) | (with_reducible first | refine ld aS aL aR ?_ | refine X8 aS aL aR ?_ | refine Z1 aS aL aR ?_ | refine Q9 aL ?_ | refine V1 aR ?_ | refine Y8 aS ?_ | refine L3 aS aL ?_ | refine J6 aS aR ?_ | refine Y6 aS aR aR (Rep.one (by assumption)) ?_ | refine U2 aS aR aR aR ?_ | (refine Z4 (fun hh=>?_) (fun hh=>?_)<;>(try simp only[hh,Bool.not_true,Bool.not_false,↓M2,M2,Mb,reduceIte])) | (refine Q5 (fun hh=>?_) (fun hh=>?_)<;>(try simp only[hh,Bool.not_true,Bool.not_false,↓M2,M2,Mb,reduceIte])))))
   exact hK _ hk1.bel))) (W3 hs h)
 have hB: ∀{w1:World} {σ1:Q4} {K:Value→World→Prop},X4 w1 σ1→Sl 7 L2 σ1 mv c.methods→(∀w' σ',Stp w1 σ1 w' σ'→K (.bool (c.methods.any fun m=> !m.abs)) w')→Q0 P F.a [mv, .func (.func F.bW) #[] #[]] w1 K:=
  fun hs hv h=>H7 (fun m=> !m.abs) hs hv (fun x cs w1 K _ hs hr hl hK=>Y7 (Q1K (by
   obtain ⟨pv,cv,hv,rfl,_⟩:=hr
   unfold Rm
   refine Y8 hs fun a w1 σ1 hk1 ha1=>?_
   (repeat' (first | (with_reducible intro _) | (with_reducible refine V5 ?_) | (simp only[↓M2,M2,Mb,reduceIte]) | (with_reducible first | refine ld aS aL aR ?_ | refine X8 aS aL aR ?_ | refine Z1 aS aL aR ?_ | refine Q9 aL ?_ | refine V1 aR ?_ | refine Y8 aS ?_ | refine L3 aS aL ?_ | refine J6 aS aR ?_ | refine Y6 aS aR aR (Rep.one (by assumption)) ?_ | refine U2 aS aR aR aR ?_ | (refine Z4 (fun hh=>?_) (fun hh=>?_)<;>(try simp only[hh,Bool.not_true,Bool.not_false,↓M2,M2,Mb,reduceIte])) | (refine Q5 (fun hh=>?_) (fun hh=>?_)<;>(try simp only[hh,Bool.not_true,Bool.not_false,↓M2,M2,Mb,reduceIte])))))
   exact hK _ hk1.bel))) (W3 hs h)
 have hC: ∀{w1:World} {σ1:Q4} {K:Value→World→Prop},X4 w1 σ1→Sl 1 X9 σ1 v' (c.name::c.super::c.like)→(∀w' σ',Stp w1 σ1 w' σ'→K (.bool ((c.name::c.super::c.like).all W2)) w')→Q0 P F.a3 [v', .func (.func F.ae) #[] #[]] w1 K:=
  fun hs hv h=>Cc W2 hs hv (fun σ1 x w1 K _ _ hs hl hK=>Y7 (Dq x (Nat.le_trans hl (by decide)) hK)) (W3 hs h)
 have hD: ∀{w1:World} {σ1:Q4} {K:Value→World→Prop},X4 w1 σ1→Sl 1 X9 σ1 lv c.like→(∀w' σ',Stp w1 σ1 w' σ'→K (.bool (E8 id [] c.like)) w')→Q0 P F.aG [lv, .func (.func F.bX) #[] #[]] w1 K:=
  fun hs hv h=>Q3y id hs hv (fun σ1 x w1 K _ hs hl hK=>Y7 (Q1z (hK _ (Below.refl _ _)))) (W3 hs h)
 have hE: ∀{w1:World} {σ1:Q4} {K:Value→World→Prop},X4 w1 σ1→Sl 3 D6 σ1 fv c.fields→(∀w' σ',Stp w1 σ1 w' σ'→K (.bool (E8 Fld.name [] c.fields)) w')→Q0 P F.aw [fv, .func (.func F.bY) #[] #[]] w1 K:=
  fun hs hv h=>Q1e Fld.name hs hv (fun σ1 x cs w1 K _ hs hr hl hK=>Y7 (Q1g (by
   obtain ⟨rfl,_⟩:=hr
   unfold Rk
   refine Y8 hs fun a w1 σ1 hk1 ha1=>?_
   (repeat' (first | (with_reducible intro _) | (with_reducible refine V5 ?_) | (simp only[↓M2,M2,Mb,reduceIte]) | (with_reducible first | refine ld aS aL aR ?_ | refine X8 aS aL aR ?_ | refine Z1 aS aL aR ?_ | refine Q9 aL ?_ | refine V1 aR ?_ | refine Y8 aS ?_ | refine L3 aS aL ?_ | refine J6 aS aR ?_ | refine Y6 aS aR aR (Rep.one (by assumption)) ?_ | refine U2 aS aR aR aR ?_ | (refine Z4 (fun hh=>?_) (fun hh=>?_)<;>(try simp only[hh,Bool.not_true,Bool.not_false,↓M2,M2,Mb,reduceIte])) | (refine Q5 (fun hh=>?_) (fun hh=>?_)<;>(try simp only[hh,Bool.not_true,Bool.not_false,↓M2,M2,Mb,reduceIte])))))
   exact hK _ hk1.bel))) (W3 hs h)
 have hF: ∀{w1:World} {σ1:Q4} {K:Value→World→Prop},X4 w1 σ1→Sl 7 L2 σ1 mv c.methods→(∀w' σ',Stp w1 σ1 w' σ'→K (.bool (E8 Hm.Met.name [] c.methods)) w')→Q0 P F.am [mv, .func (.func F.bZ) #[] #[]] w1 K:=
  fun hs hv h=>Q0j Hm.Met.name hs hv (fun σ1 x cs w1 K _ hs hr hl hK=>Y7 (Q1S (by
   obtain ⟨pv,cv,hv,rfl,_⟩:=hr
   unfold Re
   refine Y8 hs fun a w1 σ1 hk1 ha1=>?_
   (repeat' (first | (with_reducible intro _) | (with_reducible refine V5 ?_) | (simp only[↓M2,M2,Mb,reduceIte]) | (with_reducible first | refine ld aS aL aR ?_ | refine X8 aS aL aR ?_ | refine Z1 aS aL aR ?_ | refine Q9 aL ?_ | refine V1 aR ?_ | refine Y8 aS ?_ | refine L3 aS aL ?_ | refine J6 aS aR ?_ | refine Y6 aS aR aR (Rep.one (by assumption)) ?_ | refine U2 aS aR aR aR ?_ | (refine Z4 (fun hh=>?_) (fun hh=>?_)<;>(try simp only[hh,Bool.not_true,Bool.not_false,↓M2,M2,Mb,reduceIte])) | (refine Q5 (fun hh=>?_) (fun hh=>?_)<;>(try simp only[hh,Bool.not_true,Bool.not_false,↓M2,M2,Mb,reduceIte])))))
   exact hK _ hk1.bel))) (W3 hs h)
 have hG: ∀{w1:World} {σ1:Q4} {K:Value→World→Prop},X4 w1 σ1→Sl 3 D6 σ1 fv c.fields→(∀w' σ',Stp w1 σ1 w' σ'→K (.bool (c.fields.all Nv)) w')→Q0 P F.an [fv, .func (.func F.bi) #[] #[]] w1 K:=
  fun hs hv h=>Q0m Nv hs hv (fun σ1 x cs w1 K _ _ hs hr hl hK=>Y7 (Q7U hs hr fun w' σ' hk=>hK w' hk.bel)) (W3 hs h)
 have hH: ∀{w1:World} {σ1:Q4} {K:Value→World→Prop},X4 w1 σ1→Glb σ1→Sl 7 L2 σ1 mv c.methods→(∀w' σ',Stp w1 σ1 w' σ'→K (.bool (c.methods.all C6)) w')→Q0 P F.ai [mv, .func (.func F.aS) #[] #[]] w1 K:=
  fun hs hg hv h=>Ao C6 hs hv (fun σ1 x cs w1 K le _ hs hr hl hK=>Q82 hs (hg.lift ⟨le⟩) hr fun w' σ' hk=>hK w' hk.bel) (W3 hs h)
 have e1:decide ((0:Int)<c.fields.length)= !decide (c.fields=[]):=by cases c.fields<;>simp
 have e2:decide (c.super=[79,98,106,101,99,116])=decide (c.super=Z8):=rfl
 (repeat' (first | (with_reducible intro _) | (with_reducible refine V5 ?_) | (simp only[↓M2,M2,Mb,reduceIte]) | (with_reducible first | refine ld aS aL aR ?_ | refine X8 aS aL aR ?_ | refine Z1 aS aL aR ?_ | refine Q9 aL ?_ | refine V1 aR ?_ | refine Y8 aS ?_ | refine L3 aS aL ?_ | refine J6 aS aR ?_ | refine Y6 aS aR aR (Rep.one (by assumption)) ?_ | refine U2 aS aR aR aR ?_ | refine hA au au ?_ | refine hB au au ?_ | refine hC au au ?_ | refine hD au au ?_ | refine hE au au ?_ | refine hF au au ?_ | refine hG au au ?_ | refine hH au au au ?_ | (refine Z4 (fun hh=>?_) (fun hh=>?_)<;>(try simp only[hh,Bool.not_true,Bool.not_false,↓M2,M2,Mb,reduceIte])) | (refine Q5 (fun hh=>?_) (fun hh=>?_)<;>(try simp only[hh,Bool.not_true,Bool.not_false,↓M2,M2,Mb,reduceIte])))))
 all_goals (simp only[←e1,←e2] at h;clear hA hB hC hD hE hF hG hH e1 e2;exact aF))
theorem X0H {cs:List Value} {c:Cla} (hs:X4 w σ) (hg:Glb σ) (hc:U6 σ c cs) (hl:c.like.length≤1000000) (h: ∀w' σ',Stp w σ w' σ'→K (I (M4 c)) w'):Q0 P F.c8 [.agg cs.toArray] w K:=Q3q (by
 have hc0:=hc
 obtain ⟨lv,fv,mv,rfl,g1,g2,g3,g4,g5⟩:=hc
 unfold Gx
 unfold M4 at h
 (repeat' (first | (with_reducible intro _) | (with_reducible refine V5 ?_) | (simp only[↓M2,M2,Mb,reduceIte]) | (with_reducible first | refine ld aS aL aR ?_ | refine X8 aS aL aR ?_ | refine Z1 aS aL aR ?_ | refine Q9 aL ?_ | refine V1 aR ?_ | refine Y8 aS ?_ | refine L3 aS aL ?_ | refine J6 aS aR ?_ | refine Y6 aS aR aR (Rep.one (by assumption)) ?_ | refine U2 aS aR aR aR ?_ | refine X1l au au (W3 aS ?_) | refine X0K au au au au ?_ | (refine Z4 (fun hh=>?_) (fun hh=>?_)<;>(try simp only[hh,Bool.not_true,Bool.not_false,↓M2,M2,Mb,reduceIte])) | (refine Q5 (fun hh=>?_) (fun hh=>?_)<;>(try simp only[hh,Bool.not_true,Bool.not_false,↓M2,M2,Mb,reduceIte])))))
 all_goals exact aF)
end Go.Proofs.YtfppjenblllfaaaGreatDoor

namespace Go.Emb
open Go.RowKit Go.Hm
structure Tab (σ : Q4) (v : Value) (l : List Cla) : Prop where
  ex : ∃ a lv r m, v = .pointer (some a) ∧ Z3 σ a [lv, .map (some r)] ∧ Sl 8 U6 σ lv l ∧ I4 σ r m ∧ ∀ n, M0 m n = (Y4 l n).map (fun i : Nat => I (i : Int))
theorem Tab.lift {σ0 σ:Q4} {v:Value} {l:List Cla} (h:Tab σ0 v l) (k:SLe σ0 σ):Tab σ v l:=by
 obtain ⟨a,f,r,m,g,e,d,c,b⟩:=h.ex
 exact ⟨a,f,r,m,g,e.lift k,d.lift k,c.lift k,b⟩
end Go.Emb
namespace Go.Proofs.YtfppjenblllfaaaGreatDoor
open Go.Emb Go.RowKit Go.Kd Go.Hm
variable {w : World} {K : Value → World → Prop} {σ : Q4} {v : Value} {l : List Cla}
theorem Q6W {n:X0} (b:X4 w σ) (d:Tab σ v l) (h:K (.bool (Q0Y l n)) w):Q0 P F.k [v,S n] w K:=Oe (by
 obtain ⟨a,j,r,m,rfl,c,i,e,f⟩:=d.ex
 unfold Zh
 rw[E7,fa]
 refine ld b c rfl ?_
 rw[Q1d X7 (e.is b) n,f n]
 unfold Q0Y at h
 cases g:Y4 l n<;>rw[g] at h<;>((try simp only[Option.map_some,Option.map_none]);(try simp only[↓M1,M1,Mb,reduceIte]);exact h))
theorem Xr {n:X0} {c:Cla} (O:X4 w σ) (U:Tab σ v l) (M:lk l n=some c)
 (h: ∀j s mv w' k,Stp w σ w' k→Sl 1 X9 k j c.like→Sl 3 D6 k s c.fields→Sl 7 L2 k mv c.methods→c.name.length≤Z7→c.super.length≤Z7→U6 k c [S c.name,S c.super,j, .bool c.iface, .bool c.abs, .bool c.fin,s,mv]→
  K (.agg [S c.name,S c.super,j, .bool c.iface, .bool c.abs, .bool c.fin,s,mv].toArray) w'):Q0 P F.h [v,S n] w K:=Bt (by
 obtain ⟨a,j,r,m,rfl,D,H,Z,t4⟩:=U.ex
 obtain ⟨_,_,i,R,u⟩:=U4 M
 obtain ⟨A,rfl⟩:=List.getElem?_eq_some_iff.1 u
 unfold Lg
 refine B5 O fun b w1 σ1 f d B=>?_
 refine U9 d.sat ?_
 refine X2 (.pointer (some a)) (fun w f=>by rw[E7];exact X6 rfl) ?_
 refine X2 (.pointer (some (a.add 0))) (fun t w f e=>by rw[e,fa];exact X6 rfl) ?_
 refine X2 (.pointer (some a)) (fun w f=>by rw[E7];exact X6 rfl) ?_
 refine X2 (.pointer (some (a.add 1))) (fun t w f e=>by rw[e,fa];exact X6 rfl) ?_
 refine X2 j (fun t w f e=>by rw[e];exact ld f.sat (D.up d) rfl (X6 rfl)) ?_
 refine X2 (.map (some r)) (fun t w f e=>by rw[e];exact ld f.sat (D.up d) rfl (X6 rfl)) ?_
 refine X2 (I i) (fun t w f e=>by rw[e,Q37 X7 ((Z.up d).is f.sat) n,t4 n,R];exact X6 rfl) ?_
 rintro t6 t7 N Q t8 X W w2 g rfl rfl rfl rfl J rfl rfl
 subst J
 have y:=B.step g.stp
 refine L7 (H.up d) A fun p cs hl o E=>?_
 refine Z1 g.sat hl o ?_
 have q:=E
 obtain ⟨Y,s,mv,rfl,V,g2,L,g4,g5⟩:=E
 refine T7 y (d.trans g.stp) f rfl rfl (Rep.one q) fun w3 z C=>?_
 refine W1 C rfl ?_
 exact h _ _ _ w3 σ1 z.stp V g2 L g4 g5 q)
theorem Tn {n:X0} (c:X4 w σ) (a:Tab σ v l) (b:lk l n=none) (h:K (.bool false) w):Q0 P F.k [v,S n] w K:=Q6W c a (by rw[Q2p,b];exact h)
theorem Hf {n:X0} {d:Cla} (c:X4 w σ) (a:Tab σ v l) (b:lk l n=some d) (h:K (.bool true) w):Q0 P F.k [v,S n] w K:=Q6W c a (by rw[Q2p,b];exact h)
theorem Q9j {c:Cla} {cs:List Value} (hs:X4 w σ) (ht:Tab σ v l) (hc:U6 σ c cs) (h: ∀w' σ',Stp w σ w' σ'→K (I (L5 l c)) w'):Q0 P F.aV [v, .agg cs.toArray] w K:=Cz (by
 obtain ⟨lv,fv,mv,rfl,g1,g2,g3,g4,g5⟩:=hc
 unfold Vb
 unfold L5 at h
 cases hd:lk l c.super with
 | none=>
  simp only[P4,hd,if_true] at h
  (repeat' (first | (with_reducible intro _) | (with_reducible refine V5 ?_) | (simp only[↓M2,M2,Mb,reduceIte]) | (with_reducible first | refine ld aS aL aR ?_ | refine X8 aS aL aR ?_ | refine Z1 aS aL aR ?_ | refine Q9 aL ?_ | refine V1 aR ?_ | refine Y8 aS ?_ | refine L3 aS aL ?_ | refine J6 aS aR ?_ | refine Y6 aS aR aR (Rep.one (by assumption)) ?_ | refine U2 aS aR aR aR ?_ | refine Tn au au au ?_ | (refine Z4 (fun hh=>?_) (fun hh=>?_)<;>(try simp only[hh,Bool.not_true,Bool.not_false,↓M2,M2,Mb,reduceIte])) | (refine Q5 (fun hh=>?_) (fun hh=>?_)<;>(try simp only[hh,Bool.not_true,Bool.not_false,↓M2,M2,Mb,reduceIte])))))
  all_goals exact aF
 | some d=>
  simp only[P4,hd] at h
  obtain ⟨dn,ds,dl,di,da,df,dfs,dms⟩:=d
  cases di<;>cases df
  ·simp only[Bool.or_self,Bool.false_eq_true,if_false] at h
   (repeat' (first | (with_reducible intro _) | (with_reducible refine V5 ?_) | (simp only[↓M2,M2,Mb,reduceIte]) | (with_reducible first | refine ld aS aL aR ?_ | refine X8 aS aL aR ?_ | refine Z1 aS aL aR ?_ | refine Q9 aL ?_ | refine V1 aR ?_ | refine Y8 aS ?_ | refine L3 aS aL ?_ | refine J6 aS aR ?_ | refine Y6 aS aR aR (Rep.one (by assumption)) ?_ | refine U2 aS aR aR aR ?_ | refine Hf au au au ?_ | refine Xr au au au ?_ | (refine Z4 (fun hh=>?_) (fun hh=>?_)<;>(try simp only[hh,Bool.not_true,Bool.not_false,↓M2,M2,Mb,reduceIte])) | (refine Q5 (fun hh=>?_) (fun hh=>?_)<;>(try simp only[hh,Bool.not_true,Bool.not_false,↓M2,M2,Mb,reduceIte])))))
   rename_i w3 σ3 hk3 _ _ _ _ _ _
   have hS:Stp w σ w3 σ3:=by (repeat (first | exact Stp.refl (by (first | assumption | exact Stp.sat (by assumption) | exact Hst.sat (by assumption))) | assumption | refine Stp.trans ?_ (by first | assumption | exact Hst.stp (by assumption))))
   refine J5 c.like.length (fun n w'=> ∃σ',Stp w σ w' σ'∧SLe σ3 σ'∧((c.like.take n).any (O5 l))=false) ⟨σ3,hS,SLe.refl _,by simp⟩ fun n w4 d hn hi=>?_
   obtain ⟨σ4,hS4,le4,hq⟩:=hi
   clear hk3
   refine Z0 ?_
   refine Q5 (fun hh=>?_) (fun hh=>?_)
   ·have hn':n<c.like.length:=by simpa using hh
    have hmax:c.like.length≤9223372036854775807:=g1.max
    refine Wl (by (first | assumption | exact Sl.lift (by assumption) (by (repeat (first | exact SLe.refl _ | refine SLe.more ?_ (by assumption) | refine SLe.more ?_ (Nxt.le (by assumption)) | refine SLe.step ?_ (by assumption)))) | exact Z3.lift (by assumption) (by (repeat (first | exact SLe.refl _ | refine SLe.more ?_ (by assumption) | refine SLe.more ?_ (Nxt.le (by assumption)) | refine SLe.step ?_ (by assumption)))) | exact I4.lift (by assumption) (by (repeat (first | exact SLe.refl _ | refine SLe.more ?_ (by assumption) | refine SLe.more ?_ (Nxt.le (by assumption)) | refine SLe.step ?_ (by assumption)))) | exact RCl_lift (by assumption) (by (repeat (first | exact SLe.refl _ | refine SLe.more ?_ (by assumption) | refine SLe.more ?_ (Nxt.le (by assumption)) | refine SLe.step ?_ (by assumption)))) | exact RMe_lift (by assumption) (by (repeat (first | exact SLe.refl _ | refine SLe.more ?_ (by assumption) | refine SLe.more ?_ (Nxt.le (by assumption)) | refine SLe.step ?_ (by assumption)))) | exact Glb.lift (by assumption) (by (repeat (first | exact SLe.refl _ | refine SLe.more ?_ (by assumption) | refine SLe.more ?_ (Nxt.le (by assumption)) | refine SLe.step ?_ (by assumption)))) | exact Tab.lift (by assumption) (by (repeat (first | exact SLe.refl _ | refine SLe.more ?_ (by assumption) | refine SLe.more ?_ (Nxt.le (by assumption)) | refine SLe.step ?_ (by assumption)))) | exact RIn_any (by assumption) | exact RFd_any (by assumption) | exact RCa_any (by assumption))) hn' fun p hl hbig=>?_
    have hq':=M3 (p:=O5 l) hn'
    rw[hq] at hq'
    cases hx:lk l c.like[n] with
    | none=>
     simp only[C1 (p:=O5 l) hn' (by simp only[O5,hx]),if_true] at h
     (repeat' (first | (with_reducible intro _) | (with_reducible refine V5 ?_) | (simp only[↓M2,M2,Mb,reduceIte]) | (with_reducible first | refine ld aS aL aR ?_ | refine X8 aS aL aR ?_ | refine Z1 aS aL aR ?_ | refine Q9 aL ?_ | refine V1 aR ?_ | refine Y8 aS ?_ | refine L3 aS aL ?_ | refine J6 aS aR ?_ | refine Y6 aS aR aR (Rep.one (by assumption)) ?_ | refine U2 aS aR aR aR ?_ | refine Tn au au au ?_ | (refine Z4 (fun hh=>?_) (fun hh=>?_)<;>(try simp only[hh,Bool.not_true,Bool.not_false,↓M2,M2,Mb,reduceIte])) | (refine Q5 (fun hh=>?_) (fun hh=>?_)<;>(try simp only[hh,Bool.not_true,Bool.not_false,↓M2,M2,Mb,reduceIte])))))
     all_goals exact aF
    | some x=>
     obtain ⟨xn,xs,xl,xi,xa,xf,xfs,xms⟩:=x
     cases xi
     ·simp only[C1 (p:=O5 l) hn' (by simp only[O5,hx];rfl),if_true] at h
      (repeat' (first | (with_reducible intro _) | (with_reducible refine V5 ?_) | (simp only[↓M2,M2,Mb,reduceIte]) | (with_reducible first | refine ld aS aL aR ?_ | refine X8 aS aL aR ?_ | refine Z1 aS aL aR ?_ | refine Q9 aL ?_ | refine V1 aR ?_ | refine Y8 aS ?_ | refine L3 aS aL ?_ | refine J6 aS aR ?_ | refine Y6 aS aR aR (Rep.one (by assumption)) ?_ | refine U2 aS aR aR aR ?_ | refine Hf au au au ?_ | refine Xr au au au ?_ | (refine Z4 (fun hh=>?_) (fun hh=>?_)<;>(try simp only[hh,Bool.not_true,Bool.not_false,↓M2,M2,Mb,reduceIte])) | (refine Q5 (fun hh=>?_) (fun hh=>?_)<;>(try simp only[hh,Bool.not_true,Bool.not_false,↓M2,M2,Mb,reduceIte])))))
      all_goals exact aF
     ·(repeat' (first | (with_reducible intro _) | (with_reducible refine V5 ?_) | (simp only[↓M2,M2,Mb,reduceIte]) | (with_reducible first | refine ld aS aL aR ?_ | refine X8 aS aL aR ?_ | refine Z1 aS aL aR ?_ | refine Q9 aL ?_ | refine V1 aR ?_ | refine Y8 aS ?_ | refine L3 aS aL ?_ | refine J6 aS aR ?_ | refine Y6 aS aR aR (Rep.one (by assumption)) ?_ | refine U2 aS aR aR aR ?_ | refine Hf au au au ?_ | refine Xr au au au ?_ | (refine Z4 (fun hh=>?_) (fun hh=>?_)<;>(try simp only[hh,Bool.not_true,Bool.not_false,↓M2,M2,Mb,reduceIte])) | (refine Q5 (fun hh=>?_) (fun hh=>?_)<;>(try simp only[hh,Bool.not_true,Bool.not_false,↓M2,M2,Mb,reduceIte])))))
      refine Y3 hmax hn' ⟨_,by (repeat (first | exact Stp.refl (by (first | assumption | exact Stp.sat (by assumption) | exact Hst.sat (by assumption))) | assumption | refine Stp.trans ?_ (by first | assumption | exact Hst.stp (by assumption)))),by (repeat (first | exact SLe.refl _ | refine SLe.more ?_ (by assumption) | refine SLe.more ?_ (Nxt.le (by assumption)) | refine SLe.step ?_ (by assumption))),by rw[hq'];simp only[O5,hx];rfl⟩
   ·have hn': ¬n<c.like.length:=by simpa using hh
    rw[D0 hn'] at hq
    simp only[hq,Bool.false_eq_true,if_false] at h
    exact h _ _ hS4
  all_goals
   simp only[Bool.or_self,Bool.or_true,Bool.true_or,if_true] at h
   (repeat' (first | (with_reducible intro _) | (with_reducible refine V5 ?_) | (simp only[↓M2,M2,Mb,reduceIte]) | (with_reducible first | refine ld aS aL aR ?_ | refine X8 aS aL aR ?_ | refine Z1 aS aL aR ?_ | refine Q9 aL ?_ | refine V1 aR ?_ | refine Y8 aS ?_ | refine L3 aS aL ?_ | refine J6 aS aR ?_ | refine Y6 aS aR aR (Rep.one (by assumption)) ?_ | refine U2 aS aR aR aR ?_ | refine Hf au au au ?_ | refine Xr au au au ?_ | (refine Z4 (fun hh=>?_) (fun hh=>?_)<;>(try simp only[hh,Bool.not_true,Bool.not_false,↓M2,M2,Mb,reduceIte])) | (refine Q5 (fun hh=>?_) (fun hh=>?_)<;>(try simp only[hh,Bool.not_true,Bool.not_false,↓M2,M2,Mb,reduceIte])))))
   all_goals exact aF)
end Go.Proofs.YtfppjenblllfaaaGreatDoor

namespace Go.Emb
open Go.RowKit Go.Hm
variable {P : Program} {w w0 w1 w' w'' : World} {K : Value → World → Prop} {σ σ0 σ1 σ' : Q4}
theorem Q6L {a:Addr} {v:Value} (h:w.cell? a=some v) (b:Below w.heap.size w w'):w'.cell? a=some v:=by
 rw[←h];exact World.cell?_of_block (b.block a.block (World.block_lt_of_cell? _ _ h))
def Ptr {α:Type} (sz:Nat) (R:Q4→α→List Value→Prop) (σ:Q4) (x:α) (p:Value) (w:World):Prop:=
 ∃a cs,p= .pointer (some a)∧(∀j u,cs[j]? =some u→w.cell? (a.add j)=some u)∧cs.length=sz∧R σ x cs
theorem Ptr.below {α:Type} {sz:Nat} {R:Q4→α→List Value→Prop} {x:α} {p:Value} (h:Ptr sz R σ x p w) (f:Below w.heap.size w w'):Ptr sz R σ x p w':=by
 obtain ⟨a,cs,e,d,c⟩:=h
 exact ⟨a,cs,e,fun j u b=>Q6L (d j u b) f,c⟩
end Go.Emb
namespace Go.Proofs.YtfppjenblllfaaaGreatDoor
open Go.Emb Go.RowKit Go.Kd Go.Hm
variable {w : World} {K : Value → World → Prop} {σ : Q4} {v : Value} {l : List Cla}
theorem Q39 {w0:World} {σ0:Q4} {xs:List Cla} (hS:Stp w0 σ0 w σ) (D:U0 w0.heap.size T.a 8 U6 σ w v xs)
 (h: ∀w',Kpt (fun k=>v.ownBlock=some k) w w'→Stp w0 σ0 w' σ→U0 w0.heap.size T.a 8 U6 σ w' v xs.reverse→K (.tuple #[]) w'):Q0 P F.o [v] w K:=Xv (by
 unfold C5
 have R:xs.length≤9223372036854775807:=by
  obtain ⟨a,ab,_,g,c,_⟩:=D
  simp only[maxLen] at c;omega
 refine Hw D ?_
 refine Dm ⟨by omega,by omega⟩ ?_
 refine Ym (fun x w'=> ∃i:Nat,x=(I i,I ((xs.length:Int)-1-i))∧2*i≤xs.length∧Kpt (fun k=>v.ownBlock=some k) w w'∧Stp w0 σ0 w' σ∧U0 w0.heap.size T.a 8 U6 σ w' v (H0 i xs)) (fun x _=>match x.2 with | .int _ n=>(n+1).toNat | _=>0) ⟨0,by simp,by omega,Kpt.refl,hS,D⟩ ?_
 rintro _ d w1 ⟨i,rfl,M,O,r,b⟩
 obtain ⟨U,N⟩:=Pw xs i M
 refine Z0 ?_
 refine Q5 (fun hh=>?_) (fun hh=>?_)
 ·have Z:(i:Int)<(xs.length:Int)-1-i:=by simpa using hh
  have Q:((xs.length:Int)-1-i)=((xs.length-1-i:Nat):Int):=by omega
  have q:i<(H0 i xs).length:=by omega
  have m:xs.length-1-i<(H0 i xs).length:=by omega
  refine U9 r.sat ?_
  refine W5 (Ptr 8 U6 σ (H0 i xs)[xs.length-1-i]) (fun _ _ _ h f=>h.below f) (fun w f=>?_) ?_
  ·simp only[Q]
   exact Q4c (b.step f.stp) m fun a cs g c o=>⟨Below.refl _ _,a,cs,rfl,g,c,o⟩
  refine W5 (Ptr 8 U6 σ (H0 i xs)[i]) (fun _ _ _ h f=>h.below f) (fun w f=>?_) ?_
  ·exact Q4c (b.step f.stp) q fun a cs g c o=>⟨Below.refl _ _,a,cs,rfl,g,c,o⟩
  refine W5 (fun v _=> ∃cs:List Value,v= .agg cs.toArray∧cs.length=8∧U6 σ (H0 i xs)[xs.length-1-i] cs) (fun _ _ _ h _=>h) (fun t w f e=>?_) ?_
  ·obtain ⟨a,cs,rfl,g,c,o⟩:=e
   exact Dy c g ⟨Below.refl _ _,cs,rfl,c,o⟩
  refine W5 (fun v _=> ∃cs:List Value,v= .agg cs.toArray∧cs.length=8∧U6 σ (H0 i xs)[i] cs) (fun _ _ _ h _=>h) (fun t w f e=>?_) ?_
  ·obtain ⟨a,cs,rfl,g,c,o⟩:=e
   exact Dy c g ⟨Below.refl _ _,cs,rfl,c,o⟩
  rintro ad ac Y W w2 j _ _ ⟨cs,rfl,z,y⟩ ⟨ds,rfl,H,s⟩
  refine X00 (r.trans j.stp) (b.step j.stp) q z y (Rep.one y) fun p u w3 B E A=>?_
  simp only[Q]
  refine X00 E.stp A (by simpa using m) H s (Rep.one s) fun p u w4 L C J=>?_
  refine Ce ⟨by omega,by omega⟩ ?_
  refine Dm ⟨by omega,by omega⟩ ?_
  refine ⟨⟨i+1,by congr 1<;>congr 1<;>omega,by omega,?_,C.stp,?_⟩,?_⟩
  ·exact ((O.trans (Kpt.of_below j.stp.bel)).trans B).trans L
  ·have V:(H0 i xs)[i]? =some (H0 i xs)[i]:=List.getElem?_eq_getElem q
   have X:(H0 i xs)[xs.length-1-i]? =some (H0 i xs)[xs.length-1-i]:=List.getElem?_eq_getElem m
   have:H0 (i+1) xs=((H0 i xs).set i (H0 i xs)[xs.length-1-i]).set (xs.length-1-i) (H0 i xs)[i]:=by
    simp only[H0,V,X]
   rw[this];exact J
  ·simp only;omega
 ·have ae: ¬(i:Int)<(xs.length:Int)-1-i:=by simpa using hh
  rw[Q80 xs i M (by omega)] at b
  exact h w1 O r b)
def sOf:Value→X0 | .string b=>b.data.toList | _=>[]
theorem Q85 {n:X0} (E:X4 w σ) (z:Tab σ v l) (R:Yg l) (hl:l.length≤100000) (h: ∀r w' σ',Stp w σ w' σ'→U0 w.heap.size T.a 8 U6 σ' w' r (chain l n).reverse→K r w'):Q0 P F.aH [v,S n] w K:=Iw (by
 unfold Ms
 refine Ym (fun x w'=> ∃(s:X0) (k:List Cla) (σ':Q4),x.2=S s∧chain l n=k++chain l s∧Stp w σ w' σ'∧V0 w.heap.size T.a 8 U6 σ' w' x.1 k) (fun x _=>(chain l (sOf x.2)).length)
  ⟨n,[],σ,rfl,rfl,Stp.refl E,V0.nil⟩ ?_
 rintro ⟨W,_⟩ d w1 ⟨s,k,σ1,rfl,o,a,f⟩
 have g:=z.lift ⟨a.le⟩
 have B:=Hx l n
 have y:sOf (S s)=s:=by simp[sOf]
 simp only[y]
 cases j:lk l s with
 | none=>
  refine Tn a.sat g j ?_
  refine W0 ?_
  rw[K0 j,List.append_nil] at o
  rw[←o] at f
  refine Q39 a (U0.of_acc f) fun H e t p=>?_
  exact h _ _ _ t p
 | some c=>
  refine Hf a.sat g j ?_
  refine V9 ?_
  refine Xr a.sat g j fun O D mv H Z e M N V L U A=>?_
  have b:=F5 R s
  rw[j] at b
  simp only at b
  have J:k.length+1≤l.length+1:=by
   have:=congrArg List.length o
   rw[List.length_append,b,List.length_cons] at this;omega
  refine Uc (a.trans e) (f.up e) A rfl rfl rfl (by omega) (by omega) fun u r w3 Y Q i q _=>?_
  refine Xr i.sat (z.lift ⟨i.le⟩) j fun O D mv X C m M N V L U A=>?_
  refine V1 (v:=S c.super) rfl ?_
  refine ⟨⟨c.super,k++[c],C,rfl,?_,i.trans m,q.up m⟩,?_⟩
  ·rw[o,b];simp
  ·have:sOf (S c.super)=c.super:=by simp[sOf]
   simp only[this,b,List.length_cons];omega)
theorem Q9w {n:X0} (W:X4 w σ) (Y:Tab σ v l) (ha:Yg l) (hl:l.length≤100000) (A: ∀c∈l,P8 c) (h: ∀H w' σ',Stp w σ w' σ'→Sl 3 D6 σ' H (M6 l n)→K H w'):Q0 P F.aZ [v,S n] w K:=Ca (by
 unfold Ux
 refine Q85 W Y ha hl fun v1 w1 σ1 L y=>?_
 obtain ⟨O,J,k,ad,_⟩:=y.keep L
 generalize j:(chain l n).reverse=cs at*
 have Q:cs.length≤l.length+1:=by rw[←j,List.length_reverse];exact Hx l n
 have o: ∀c∈cs,c.fields.length≤1000000:=fun c t=>(A c (Ah (by rw[←j] at t;simpa using t))).2.1
 refine Q9 k ?_
 refine O9 cs.length (fun i a w'=> ∃σ',Stp w σ w' σ'∧SLe O σ'∧V0 w.heap.size T.k 3 D6 σ' w' a ((cs.take i).flatMap (·.fields))) ⟨O,J,SLe.refl _,V0.nil⟩ fun i a w3 d hi m=>?_
 obtain ⟨σ3,f,s,g⟩:=m
 refine Z0 ?_
 refine Q5 (fun hh=>?_) (fun hh=>?_)
 ·have b:i<cs.length:=by simpa using hh
  refine L7 (k.lift s) b fun p cells u r N=>?_
  refine Z1 f.sat u r ?_
  refine Y6 f.sat (by rfl) r (Rep.one N) fun q w4 M e V=>?_
  obtain ⟨lv,fv,mv,rfl,f1,Z,f3,f4,f5⟩:=N
  rw[fa]
  refine ld e.sat V rfl ?_
  have D:=Uf (fun c:Cla=>c.fields) 1000000 (cs.take i) fun c t=>o c (List.mem_of_mem_take t)
  rw[List.length_take] at D
  have ab:=o cs[i] (List.getElem_mem b)
  have R:min i cs.length*1000000≤100000*1000000:=Nat.mul_le_mul_right _ (by omega)
  refine Dl (f.trans e) (g.up e) (Z.up e) rfl (by omega) (by omega) fun H w5 X E z _=>?_
  refine D7 ?_
  refine Z6 (by omega) b ⟨M,E,s.more ⟨e.le⟩,?_⟩
  rw[List.take_add_one,List.getElem?_eq_getElem b,List.flatMap_append]
  simpa using z
 ·have b: ¬i<cs.length:=by simpa using hh
  rw[List.take_of_length_le (by omega)] at g
  obtain ⟨M,C,B,U,_⟩:=g.keep f
  refine h _ _ _ C ?_
  unfold M6
  rw[j];exact B)
theorem X0R {n f:X0} (hs:X4 w σ) (ht:Tab σ v l) (ha:Yg l) (hl:l.length≤100000) (hsm: ∀c∈l,P8 c) (h: ∀w' σ',Stp w σ w' σ'→K (I (W7 (Xg l n f))) w'):Q0 P F.b9 [v,S n,S f] w K:=Gl (by
 unfold Ww
 refine J6 hs rfl fun q w1 σ1 hk1 hq=>?_
 refine Q9w hk1.sat (ht.lift ⟨hk1.le⟩) ha hl hsm fun v' w2 σ2 hk2 hv2=>?_
 rw[Qf]
 refine Cb (fun x=>decide (x.name=f)) hk2.sat hv2 (fun x cs w3 K _ hs3 hr hl hK=>Y7 (Sf ?_)) fun w3 hb=>?_
 ·obtain ⟨rfl,_⟩:=hr
  unfold Jt
  have hq2:=hq.up hk2
  refine Y8 hs3 fun a w4 σ4 hk4 ha4=>?_
  (repeat' (first | (with_reducible intro _) | (with_reducible refine V5 ?_) | (simp only[↓M2,M2,Mb,reduceIte]) | (with_reducible first | refine ld aS aL aR ?_ | refine X8 aS aL aR ?_ | refine Z1 aS aL aR ?_ | refine Q9 aL ?_ | refine V1 aR ?_ | refine Y8 aS ?_ | refine L3 aS aL ?_ | refine J6 aS aR ?_ | refine Y6 aS aR aR (Rep.one (by assumption)) ?_ | refine U2 aS aR aR aR ?_ | (refine Z4 (fun hh=>?_) (fun hh=>?_)<;>(try simp only[hh,Bool.not_true,Bool.not_false,↓M2,M2,Mb,reduceIte])) | (refine Q5 (fun hh=>?_) (fun hh=>?_)<;>(try simp only[hh,Bool.not_true,Bool.not_false,↓M2,M2,Mb,reduceIte])))))
  exact hK _ hk4.bel
 ·exact h _ _ ((hk1.trans hk2).trans (Stp.of_below hk2.sat hb)))
end Go.Proofs.YtfppjenblllfaaaGreatDoor

namespace Go.Hm
open Go.Kd
theorem Q4V {α:Type} (p:α→Bool): ∀xs:List α,xs.find? p=(xs.findIdx? p).bind (xs[·]?)
 | []=>rfl
 | x::r=>by
  rw[List.find?_cons,List.findIdx?_cons]
  cases p x with
  | true=>rfl
  | false=>
   simp only[Bool.false_eq_true,if_false]
   rw[Q4V p r]
   cases r.findIdx? p<;>simp
def Q92 (l:List Cla):Prop:= ∀c∈l,∀u∈c.like,∃d,lk l u=some d
def Nm (c:Cla):Prop:=c.name.length≤100∧(∀f∈c.fields,f.name.length≤100∧f.kind.length≤100)∧ ∀m∈c.methods,m.result.length≤100∧ ∀p∈m.params,p.length≤100
structure Ok (l : List Cla) : Prop where
  acy : Yg l
  len : l.length ≤ 100000
  sm : ∀ c ∈ l, P8 c
  full : Q92 l
  nm : ∀ c ∈ l, Nm c
abbrev oM (o:Option Hm.Met):Hm.Met:=o.getD Hm.Met.zero
abbrev o1 (o:Option (X0×Hm.Met)):X0:=(o.map (·.1)).getD []
abbrev o2 (o:Option (X0×Hm.Met)):Hm.Met:=(o.map (·.2)).getD Hm.Met.zero
theorem Qj {α β:Type} {xs:List α} {f:α→Option β} {n:Nat} (h:n<xs.length) (a:(xs.take n).findSome? f=none):(xs.take (n+1)).findSome? f=f xs[n]:=by
 rw[List.take_add_one,List.getElem?_eq_getElem h,List.findSome?_append,a];simp
theorem Qi {α β:Type} {xs:List α} {f:α→Option β} {n:Nat} {y:β} (h:n<xs.length) (b:(xs.take n).findSome? f=none) (a:f xs[n]=some y):xs.findSome? f=some y:=by
 have:=Qj h b
 rw[a] at this
 rw[←List.take_append_drop (n+1) xs,List.findSome?_append,this];rfl
end Go.Hm
namespace Go.Proofs.YtfppjenblllfaaaGreatDoor
open Go.Emb Go.RowKit Go.Kd Go.Hm
variable {w : World} {K : Value → World → Prop} {σ : Q4} {v : Value} {l : List Cla}
theorem P3:L2 σ Hm.Met.zero [S [], .slice none 0 0,S [], .bool false,I 0, .slice none 0 0, .slice none 0 0]:=
 ⟨_,_,_,rfl,Sl.nil,Sl.nil,Sl.nil,by decide,by decide,by decide,by decide⟩
theorem Dp (h:K (.agg [S [], .slice none 0 0,S [], .bool false,I 0, .slice none 0 0, .slice none 0 0].toArray) w):N3 P T.b [] w K:=V7 (by kernel_rfl) h
theorem X0o {c:Cla} {cs:List Value} {n:X0} (hs:X4 w σ) (hc:U6 σ c cs) (hsm:P8 c)
 (h: ∀pv cv hv w' σ',Stp w σ w' σ'→L2 σ' (oM (H9 c n)) [S (oM (H9 c n)).name,pv,S (oM (H9 c n)).result, .bool (oM (H9 c n)).abs,I (oM (H9 c n)).locals,cv,hv]→
  K (.tuple #[.agg [S (oM (H9 c n)).name,pv,S (oM (H9 c n)).result, .bool (oM (H9 c n)).abs,I (oM (H9 c n)).locals,cv,hv].toArray, .bool (H9 c n).isSome]) w'):Q0 P F.cj [.agg cs.toArray,S n] w K:=Q6D (by
 obtain ⟨lv,fv,mv,rfl,g1,g2,g3,g4,g5⟩:=hc
 unfold Q1x
 refine Y8 hs fun a w1 σ1 hk1 ha1=>?_
 refine J6 hk1.sat rfl fun q w2 σ2 hk2 hq=>?_
 refine B5 hk2.sat fun b w3 σ3 hb hk3 hm=>?_
 rw[fa]
 have ha3:=(ha1.up hk2).up hk3
 have g3:=((g3.up hk1).up hk2).up hk3
 have hq3:=hq.up hk3
 refine ld hk3.sat ha3 rfl ?_
 rw[Qf]
 have hS3:=(hk1.trans hk2).trans hk3
 have hb0:w.heap.size≤b:=Yt hb (hk1.trans hk2)
 refine Sd (fun x=>decide (x.name=n)) hk3.sat g3 (fun x cs w4 K _ hs4 hr hl hK=>Y7 (Q3R ?_)) fun w4 hb4=>?_
 ·obtain ⟨pv,cv,hv,rfl,_⟩:=hr
  unfold Th
  refine Y8 hs4 fun a w5 σ5 hk5 ha5=>?_
  (repeat' (first | (with_reducible intro _) | (with_reducible refine V5 ?_) | (simp only[↓M2,M2,Mb,reduceIte]) | (with_reducible first | refine ld aS aL aR ?_ | refine X8 aS aL aR ?_ | refine Z1 aS aL aR ?_ | refine Q9 aL ?_ | refine V1 aR ?_ | refine Y8 aS ?_ | refine L3 aS aL ?_ | refine J6 aS aR ?_ | refine Y6 aS aR aR (Rep.one (by assumption)) ?_ | refine U2 aS aR aR aR ?_ | (refine Z4 (fun hh=>?_) (fun hh=>?_)<;>(try simp only[hh,Bool.not_true,Bool.not_false,↓M2,M2,Mb,reduceIte])) | (refine Q5 (fun hh=>?_) (fun hh=>?_)<;>(try simp only[hh,Bool.not_true,Bool.not_false,↓M2,M2,Mb,reduceIte])))))
  exact hK _ hk5.bel
 have hk4:Stp w3 σ3 w4 σ3:=Stp.of_below hk3.sat hb4
 have hm:=hm.step hk4
 have hS4:=hS3.trans hk4
 unfold H9 at h
 rw[Q4V] at h
 refine Z0 ?_
 cases hf:c.methods.findIdx? fun x=>decide (x.name=n) with
 | none=>
  rw[hf] at h
  simp only[W7]
  refine V9 ?_
  refine Dp ?_
  refine T7 hm hS4 hb0 rfl rfl (Rep.one (P3 (σ:=σ3))) fun w5 hS5 hm5=>?_
  refine W1 hm5 rfl ?_
  exact h _ _ _ w5 σ3 hS5.stp P3
 | some i=>
  rw[hf] at h
  have hi:i<c.methods.length:=(List.findIdx?_eq_some_iff_getElem.1 hf).1
  simp only[Option.bind_some,List.getElem?_eq_getElem hi] at h
  simp only[W7]
  refine Q5 (fun hh=>absurd (of_decide_eq_true hh) (by omega)) (fun _=>?_)
  rw[fa]
  refine ld hk4.sat ha3 rfl ?_
  refine L7 g3 hi fun p cells hl1 hl2 hr=>?_
  refine Z1 hk4.sat hl1 hl2 ?_
  refine Q2N hk4.sat hr (hsm.2.2.2 _ (List.getElem_mem hi)) fun pv cv hv w5 σ5 hk5 hr5=>?_
  refine T7 (hm.step hk5) (hS4.trans hk5) hb0 rfl rfl (Rep.one hr5) fun w6 hS6 hm6=>?_
  refine W1 hm6 rfl ?_
  exact h _ _ _ w6 σ5 hS6.stp hr5)
theorem X1J {n:X0} (ok:Ok l): ∀(k:Nat) {c:Cla} {cs:List Value} {w:World} {σ:Q4} {K:Value→World→Prop},F6 l c.name<k→lk l c.name=some c→X4 w σ→Tab σ v l→U6 σ c cs→
 (∀pv Z Y w' W,Stp w σ w' W→L2 W (o2 (U3 l c n)) [S (o2 (U3 l c n)).name,pv,S (o2 (U3 l c n)).result, .bool (o2 (U3 l c n)).abs,I (o2 (U3 l c n)).locals,Z,Y]→
  K (.tuple #[S (o1 (U3 l c n)), .agg [S (o2 (U3 l c n)).name,pv,S (o2 (U3 l c n)).result, .bool (o2 (U3 l c n)).abs,I (o2 (U3 l c n)).locals,Z,Y].toArray, .bool (U3 l c n).isSome]) w')→
 Q0 P F.aI [v, .agg cs.toArray,S n] w K:=by
 intro k
 induction k with
 | zero=>
  intro c cs w σ K hk
  omega
 | succ k ih=>
  intro c cs w σ K hk hc hs ht hr h
  refine Ij ?_
  obtain ⟨lv,fv,mv,rfl,g1,g2,g3,g4,g5⟩:=hr
  have H:=Q2G ok.acy hc n
  generalize hf:(fun u=>match lk l u with | none=>none | some d=>match H9 d n with | some m=>some (u,m) | none=>U3 l d n)=f at H
  unfold Mi
  refine Y8 hs fun a w1 σ1 E a8=>?_
  refine B5 E.sat fun b w2 σ2 hb B bb=>?_
  have V:w.heap.size≤b:=Yt hb E
  have aq:=a8.up B
  rw[fa]
  refine ld B.sat aq rfl ?_
  have g1:=(g1.up E).up B
  refine Q9 g1 ?_
  refine J5 c.like.length (fun i w'=> ∃W,Stp w σ w' W∧SLe σ2 W∧Z5 W w' b [S [], .slice none 0 0,S [], .bool false,I 0, .slice none 0 0, .slice none 0 0]∧(c.like.take i).findSome? f=none) ⟨σ2,E.trans B,SLe.refl _,bb,rfl⟩ fun i w3 d hi ab=>?_
  obtain ⟨σ3,A,ai,an,y⟩:=ab
  have ba:=ht.lift ⟨A.le⟩
  refine Z0 ?_
  refine Q5 (fun hh=>?_) (fun hh=>?_)
  ·have g:i<c.like.length:=by simpa using hh
   refine Wl (g1.lift ai) g fun p a7 af=>?_
   refine X8 A.sat a7 rfl ?_
   obtain ⟨d,X⟩:=ok.full c (U4 hc).2.1 _ (List.getElem_mem g)
   obtain ⟨ak,a4,_⟩:=U4 X
   have j:f c.like[i]=match H9 d n with | some m=>some (c.like[i],m) | none=>U3 l d n:=by rw[←hf];simp only[X]
   refine Xr A.sat ba X fun a1 az a0 w4 σ4 M f1 f2 f3 f4 f5 ay=>?_
   refine X0o M.sat ay (ok.sm d a4) fun pv Z Y w5 σ5 C ac=>?_
   refine V6 (vs:=[_,_]) rfl ?_
   refine V6 (vs:=[_,_]) rfl ?_
   refine Y6 C.sat (by rfl) rfl (Rep.one ac) fun q w6 σ6 J aa=>?_
   have t:=((A.trans M).trans C).trans J
   have aj:=((an.step M).step C).step J
   have U:=RMe_lift ac ⟨J.le⟩
   cases ho:H9 d n with
   | some m=>
    rw[ho] at j U aa
    (try simp only[ho])
    refine V9 ?_
    refine U9 t.sat ?_
    refine W5 (fun v _=>v= .agg [S m.name,pv,S m.result, .bool m.abs,I m.locals,Z,Y].toArray) (fun _ _ _ h _=>h) (fun w hb=>Z1 hb.sat aa rfl ⟨Below.refl _ _,rfl⟩) ?_
    rintro _ w7 am rfl
    refine T7 (aj.step am.stp) (t.trans am.stp) V rfl rfl (Rep.one U) fun w8 av aw=>?_
    refine W1 aw rfl ?_
    have Q:=H.trans (Qi g y j)
    rw[Q] at h
    exact h _ _ _ w8 σ6 av.stp U
   | none=>
    rw[ho] at j
    (try simp only[Option.isSome_none])
    refine W0 ?_
    refine Xr t.sat (ht.lift ⟨t.le⟩) X fun a1 az a0 w7 σ7 z f1 f2 f3 f4 f5 a6=>?_
    have bq:=Xu ok.acy hc (by simp[J3,List.getElem_mem g]:c.like[i]∈J3 c) X
    refine ih (by rw[ak];omega) (by rw[ak];exact X) z.sat (ht.lift ⟨(t.trans z).le⟩) a6 fun pv Z Y w8 σ8 L ao=>?_
    refine V6 (vs:=[_,_,_]) rfl ?_
    refine V6 (vs:=[_,_,_]) rfl ?_
    refine V6 (vs:=[_,_,_]) rfl ?_
    refine Y6 L.sat (by rfl) rfl (Rep.one ao) fun q w9 σ9 D al=>?_
    have O:=((t.trans z).trans L).trans D
    have ap:=((aj.step z).step L).step D
    have R:=RMe_lift ao ⟨D.le⟩
    cases Q:U3 l d n with
    | some r=>
     obtain ⟨s,m⟩:=r
     rw[Q] at j R al
     (try simp only[Q])
     refine V9 ?_
     refine U9 O.sat ?_
     refine W5 (fun v _=>v= .agg [S m.name,pv,S m.result, .bool m.abs,I m.locals,Z,Y].toArray) (fun _ _ _ h _=>h) (fun w hb=>Z1 hb.sat al rfl ⟨Below.refl _ _,rfl⟩) ?_
     rintro _ bu N rfl
     refine T7 (ap.step N.stp) (O.trans N.stp) V rfl rfl (Rep.one R) fun ar ae ad=>?_
     refine W1 ad rfl ?_
     have af:=H.trans (Qi g y j)
     rw[af] at h
     exact h _ _ _ ar σ9 ae.stp R
    | none=>
     rw[Q] at j
     (try simp only[Option.isSome_none])
     refine W0 ?_
     refine D7 ?_
     refine Y3 (by have:=g1.max;omega) g ⟨σ9,O,?_,ap,?_⟩
     ·exact ai.more ⟨fun b o e=>D.le _ _ (L.le _ _ (z.le _ _ (J.le _ _ (C.le _ _ (M.le _ _ e)))))⟩
     ·rw[Qj g y];exact j
  ·have g: ¬i<c.like.length:=by simpa using hh
   rw[List.take_of_length_le (by omega)] at y
   refine Dp ?_
   refine T7 an A V rfl rfl (Rep.one (P3 (σ:=σ3))) fun w5 a2 a5=>?_
   refine W1 a5 rfl ?_
   have Q:=H.trans y
   rw[Q] at h
   exact h _ _ _ w5 σ3 a2.stp P3
end Go.Proofs.YtfppjenblllfaaaGreatDoor

namespace Go.Hm
open Go.Kd
theorem Q8V {l:List Cla} {n:X0} {c:Cla} (h:c∈chain l n):lk l c.name=some c:=by
 have key: ∀(f:Nat) (n:X0),c∈C3 (lk l) f n→lk l c.name=some c:=by
  intro f
  induction f with
  | zero=>intro n h;simp[C3] at h
  | succ f b=>
   intro n h
   simp only[C3] at h
   split at h
   ·simp at h
   ·rename_i d a
    rcases List.mem_cons.1 h with rfl | h
    ·rw[(U4 a).1];exact a
    ·exact b _ h
 exact key _ _ h
end Go.Hm
namespace Go.Proofs.YtfppjenblllfaaaGreatDoor
open Go.Emb Go.RowKit Go.Kd Go.Hm
variable {w : World} {K : Value → World → Prop} {σ : Q4} {v : Value} {l : List Cla}
theorem Q9L {k n:X0} (hs:X4 w σ) (ht:Tab σ v l) (ok:Ok l)
 (h: ∀pv cv hv w' E,Stp w σ w' E→L2 E (o2 (J8 l k n)) [S (o2 (J8 l k n)).name,pv,S (o2 (J8 l k n)).result, .bool (o2 (J8 l k n)).abs,I (o2 (J8 l k n)).locals,cv,hv]→
  K (.tuple #[S (o1 (J8 l k n)), .agg [S (o2 (J8 l k n)).name,pv,S (o2 (J8 l k n)).result, .bool (o2 (J8 l k n)).abs,I (o2 (J8 l k n)).locals,cv,hv].toArray, .bool (J8 l k n).isSome]) w'):
 Q0 P F.aX [v,S k,S n] w K:=Cw (by
 unfold Uu
 refine B5 hs fun b w1 σ1 H R ao=>?_
 refine Q85 R.sat (ht.lift ⟨R.le⟩) ok.acy ok.len fun v1 w2 σ2 ad af=>?_
 have ba:=ao.step ad
 have bj:=ao.lt
 refine Q39 (R.trans ad) (af.mono R.bel.size) fun w3 a8 bb aj=>?_
 rw[List.reverse_reverse] at aj
 obtain ⟨σ3,ak,N,bg,a2⟩:=aj.keep bb
 have bi:=Hx l k
 have al:v1.ownBlock≠some b:=fun e=>by have:=af.own e;omega
 have av:Z5 σ3 w3 b [S [], .slice none 0 0,S [], .bool false,I 0, .slice none 0 0, .slice none 0 0]:=by
  have:=ba.kp a8 al
  exact ⟨(a2 b fun e=>al e.symm).trans this.1,this.2⟩
 refine Q9 N ?_
 unfold J8 at h
 refine J5 (chain l k).length (fun i w'=> ∃E,Stp w σ w' E∧SLe σ3 E∧Z5 E w' b [S [], .slice none 0 0,S [], .bool false,I 0, .slice none 0 0, .slice none 0 0]∧((chain l k).take i).findSome? (fun c=>(H9 c n).map (c.name,·))=none) ⟨σ3,ak,SLe.refl _,av,rfl⟩ fun i w5 d hi C=>?_
 obtain ⟨σ5,J,M,ap,y⟩:=C
 refine Z0 ?_
 refine Q5 (fun hh=>?_) (fun hh=>?_)
 ·have a:i<(chain l k).length:=by simpa using hh
  refine L7 (N.lift M) a fun p cells W z Z=>?_
  refine Z1 J.sat W z ?_
  refine Y6 J.sat (by rfl) z (Rep.one Z) fun q w6 σ6 A ac=>?_
  refine Z1 A.sat ac z ?_
  have ai:=Ah (List.getElem_mem a)
  refine X0o A.sat (Rep.up A.le Z) (ok.sm _ ai) fun pv cv hv w7 σ7 j ar=>?_
  refine V6 (vs:=[_,_]) rfl ?_
  refine V6 (vs:=[_,_]) rfl ?_
  refine Y6 j.sat (by rfl) rfl (Rep.one ar) fun q8 w8 σ8 u an=>?_
  have X:=((J.trans A).trans j).trans u
  have ae:=((ap.step A).step j).step u
  have B:=RMe_lift ar ⟨u.le⟩
  cases D:H9 (chain l k)[i] n with
  | some m=>
   rw[D] at B an
   (try simp only[D])
   refine V9 ?_
   obtain ⟨lv,fv,mv,rfl,g⟩:=Z
   refine U9 X.sat ?_
   refine X2 (.pointer (some (q.add 0))) (fun w H=>by rw[fa];exact X6 rfl) ?_
   refine X2 (S (chain l k)[i].name) (fun t w H e=>by rw[e];exact ld H.sat ((ac.up j).up u) rfl (X6 rfl)) ?_
   refine W5 (fun v _=>v= .agg [S m.name,pv,S m.result, .bool m.abs,I m.locals,cv,hv].toArray) (fun _ _ _ h _=>h) (fun w H=>Z1 H.sat an rfl ⟨Below.refl _ _,rfl⟩) ?_
   rintro _ _ _ w9 az rfl rfl rfl
   refine T7 (ae.step az.stp) (X.trans az.stp) H rfl rfl (Rep.one B) fun ay a0 aw=>?_
   refine W1 aw rfl ?_
   rw[Qi (f:=fun c=>(H9 c n).map (c.name,·)) a y (by simp only[D];rfl)] at h
   exact h _ _ _ ay σ8 a0.stp B
  | none=>
   (try simp only[D])
   refine W0 ?_
   refine D7 ?_
   refine Y3 (by have:=ok.len;omega) a ⟨σ8,X,M.more ⟨fun b o e=>u.le _ _ (j.le _ _ (A.le _ _ e))⟩,ae,?_⟩
   rw[Qj a y];simp only[D];rfl
 ·have a: ¬i<(chain l k).length:=by simpa using hh
  rw[List.take_of_length_le (by omega)] at y
  rw[y] at h
  clear av ak hh
  refine Q9 (N.lift M) ?_
  refine J5 (chain l k).length (fun i w'=> ∃E,Stp w σ w' E∧SLe σ3 E∧Z5 E w' b [S [], .slice none 0 0,S [], .bool false,I 0, .slice none 0 0, .slice none 0 0]∧((chain l k).take i).findSome? (fun c=>U3 l c n)=none) ⟨σ5,J,M,ap,rfl⟩ fun i w6 d hi C=>?_
  obtain ⟨σ6,L,ax,ag,y⟩:=C
  refine Z0 ?_
  refine Q5 (fun hh=>?_) (fun hh=>?_)
  ·have a:i<(chain l k).length:=by simpa using hh
   refine L7 (N.lift ax) a fun p cells W z Z=>?_
   refine Z1 L.sat W z ?_
   refine Y6 L.sat (by rfl) z (Rep.one Z) fun q w7 σ7 j bc=>?_
   refine Z1 j.sat bc z ?_
   have O:=L.trans j
   have a5:=Q8V (List.getElem_mem a)
   refine X1J ok _ (Nat.lt_succ_self _) a5 j.sat (ht.lift ⟨O.le⟩) (Rep.up j.le Z) fun pv cv hv w8 σ8 u B=>?_
   refine V6 (vs:=[_,_,_]) rfl ?_
   refine V6 (vs:=[_,_,_]) rfl ?_
   refine V6 (vs:=[_,_,_]) rfl ?_
   refine Y6 u.sat (by rfl) rfl (Rep.one B) fun q9 w9 σ9 Q ah=>?_
   have V:=(O.trans u).trans Q
   have a1:=((ag.step j).step u).step Q
   have Y:=RMe_lift B ⟨Q.le⟩
   cases D:U3 l (chain l k)[i] n with
   | some r=>
    obtain ⟨s,m⟩:=r
    rw[D] at Y ah
    (try simp only[D])
    refine V9 ?_
    refine U9 V.sat ?_
    refine W5 (fun v _=>v= .agg [S m.name,pv,S m.result, .bool m.abs,I m.locals,cv,hv].toArray) (fun _ _ _ h _=>h) (fun w H=>Z1 H.sat ah rfl ⟨Below.refl _ _,rfl⟩) ?_
    rintro _ ay U rfl
    refine T7 (a1.step U.stp) (V.trans U.stp) H rfl rfl (Rep.one Y) fun a7 aq am=>?_
    refine W1 am rfl ?_
    have:=Qi (f:=fun c=>U3 l c n) a y D
    unfold U3 at this
    rw[this] at h
    exact h _ _ _ a7 σ9 aq.stp Y
   | none=>
    (try simp only[D])
    refine W0 ?_
    refine D7 ?_
    refine Y3 (by have:=ok.len;omega) a ⟨σ9,V,ax.more ⟨fun b o e=>Q.le _ _ (u.le _ _ (j.le _ _ e))⟩,a1,?_⟩
    rw[Qj a y];exact D
  ·have a: ¬i<(chain l k).length:=by simpa using hh
   rw[List.take_of_length_le (by omega)] at y
   refine Dp ?_
   refine T7 ag L H rfl rfl (Rep.one (P3 (σ:=σ6))) fun w7 O a6=>?_
   refine W1 a6 rfl ?_
   unfold U3 at y
   rw[y] at h
   exact h _ _ _ w7 σ6 O.stp P3)
end Go.Proofs.YtfppjenblllfaaaGreatDoor

namespace Go.Kd
def brk (b:UInt8):Bool:=[(91:UInt8),93].contains b
def Q06:Nat→X0→X0
 | 0,s=>s
 | n+1,s=>match s.getLast? with
  | some b=>if brk b then Q06 n (s.take (s.length-1)) else s
  | none=>s
def Oi (s:X0):X0:=Q06 s.length s
theorem Q7j: ∀(n m:Nat) (s:X0),s.length≤n→s.length≤m→Q06 n s=Q06 m s:=by
 intro n
 induction n with
 | zero=>
  intro m s h _
  have:s=[]:=List.eq_nil_of_length_eq_zero (by omega)
  subst this
  cases m<;>rfl
 | succ n a=>
  intro m s h c
  cases m with
  | zero=>
   have:s=[]:=List.eq_nil_of_length_eq_zero (by omega)
   subst this;rfl
  | succ m=>
   simp only[Q06]
   cases d:s.getLast? with
   | none=>rfl
   | some b=>
    simp only
    split
    ·exact a m _ (by rw[List.length_take];omega) (by rw[List.length_take];omega)
    ·rfl
theorem Q0e (s:X0):Oi s=match s.getLast? with | some b=>if brk b then Oi (s.take (s.length-1)) else s | none=>s:=by
 unfold Oi
 cases d:s with
 | nil=>rfl
 | cons c r=>
  rw[←d]
  obtain ⟨n,e⟩: ∃n,s.length=n+1:=⟨r.length,by rw[d];rfl⟩
  have a:s.length-1=n:=by omega
  rw[e]
  simp only[Q06,a]
  cases f:s.getLast? with
  | none=>rfl
  | some b=>
   simp only
   split
   ·rw[show n+1-1=n by omega];exact Q7j n (s.take n).length _ (by rw[List.length_take];omega) (Nat.le_refl _)
   ·rfl
theorem Q8a {s:X0} (h:name s=true): ∃b,s.getLast?=some b∧D9 b.toNat=true:=by
 cases s with
 | nil=>simp[name] at h
 | cons c r=>
  refine ⟨(c::r).getLast (by simp),List.getLast?_eq_some_getLast (by simp),?_⟩
  simp only[name,Bool.and_eq_true,List.all_eq_true] at h
  exact h.2 _ (List.getLast_mem _)
theorem Q89 {b:UInt8} (h:D9 b.toNat=true):brk b=false:=by
 have c:b≠91:=by rintro rfl;revert h;decide
 have a:b≠93:=by rintro rfl;revert h;decide
 simp[brk,c,a]
theorem Wd {s:X0} (h:(plain s||W2 s)=true):name s=true:=by
 simp only[Bool.or_eq_true] at h
 rcases h with h | h
 ·simp only[plain,Bool.or_eq_true,decide_eq_true_eq] at h
  rcases h with (h | h) | h<;>subst h<;>decide
 ·cases s with
  | nil=>simp[W2] at h
  | cons c r=>simp only[W2,Bool.and_eq_true] at h;exact h.1
end Go.Kd
namespace Go.Proofs.YtfppjenblllfaaaGreatDoor
open Go.Emb Go.RowKit Go.Kd Go.Hm
variable {w : World} {K : Value → World → Prop} {σ : Q4} {v : Value} {l : List Cla}
theorem Q93 {s:X0} (h:D3 s=true):Oi s=Oi (Kd.cutA s):=by
 have f:2≤s.length∧s.drop (s.length-2)=[91,93]:=by simpa [D3] using h
 obtain ⟨i,e⟩:=f
 have a:s=Kd.cutA s++[91,93]:=by unfold Kd.cutA;rw[←e,List.take_append_drop]
 have g:(Kd.cutA s).length+2=s.length:=by unfold Kd.cutA;rw[List.length_take];omega
 have c:s.getLast?=some 93:=by rw[a];simp
 have b:s.take (s.length-1)=Kd.cutA s++[91]:=by
  conv=>lhs;rw[a]
  rw[List.take_append,List.length_append]
  simp
  exact List.take_of_length_le (by omega)
 rw[Q0e s,c]
 simp only[show brk 93=true from rfl,if_true,b]
 rw[Q0e]
 have d:(Kd.cutA s++[91]).getLast?=some 91:=by simp
 rw[d]
 simp only[show brk 91=true from rfl,if_true]
 congr 1
 simp
theorem Q8h {s:X0}:(plain (base s).1||W2 (base s).1)=true→Oi s=(base s).1:=by
 have key: ∀(n:Nat) (s:X0),s.length≤n→(plain (base s).1||W2 (base s).1)=true→Oi s=(base s).1:=by
  intro n
  induction n with
  | zero=>
   intro s h a
   have:s=[]:=List.eq_nil_of_length_eq_zero (by omega)
   subst this;rfl
  | succ n g=>
   intro s h a
   by_cases c:D3 s=true
   ·have d:base s=((base (Kd.cutA s)).1,(base (Kd.cutA s)).2+1):=by rw[Zv s,c];simp
    rw[d] at a⊢
    rw[Q93 c]
    exact g _ (by have:=P7 c;omega) a
   ·have d:base s=(s,0):=by rw[Zv s,eq_false_of_ne_true c];simp
    rw[d] at a⊢
    obtain ⟨b,f,e⟩:=Q8a (Wd a)
    rw[Q0e,f]
    simp[Q89 e]
 exact key _ s (Nat.le_refl _)
instance z_asciiSet:TZ P T.a4 256 256 (.agg (Array.replicate 256 (.bool false))):=⟨by kernel_rfl⟩
theorem Q5i (h: ∀w',Below w.heap.size w w'→K (.tuple #[.agg (Lib.setCells [91,93]), .bool true]) w'):Q0 P F.bO [S [91,93]] w K:=by
 refine Un (fn:=Tryz.f88) Tryz.func88 (by kernel_rfl) (by kernel_rfl) (Calls.mono (Tryz.strings_makeASCIISet (fun w=>Xp z_asciiSet w) ⟨[91,93].toArray⟩ w (by decide) (by
  intro j b a
  have:b∈[(91:UInt8),93]:=List.mem_of_getElem? a
  simp at this;rcases this with rfl | rfl<;>decide)) ?_)
 rintro e w' ⟨rfl,rfl⟩
 exact h _ ((Below.refl _ _).alloc (Nat.le_refl _) _)
theorem Q1n {q:Addr} {b:UInt8} (c:X4 w σ) (a:Z3 σ q (Lib.setCells [91,93]).toList) (h:K (.bool (brk b)) w):Q0 P F.au [.pointer (some q), .int .u8 b.toNat] w K:=Lt (by
 unfold P9
 rw[E7]
 have d:=b.toNat_lt
 rw[Q7Q (by omega) (by omega)]
 refine ld c a ?_ h
 have:=Lib.setCells_at [91,93] b
 rw[←Array.getElem?_toList] at this
 simpa [brk] using this)
theorem Q16 {q:Addr} {s:X0} (k:X4 w σ) (m:s.length≤Z7) (j:Z3 σ q (Lib.setCells [91,93]).toList) (h:K (S (Oi s)) w):Q0 P F.af [S s, .pointer (some q)] w K:=Hb (by
 unfold Zm
 refine V5 ?_
 refine Ym (fun x w'=>w'=w∧ ∃u:X0,x=S u∧u.length≤Z7∧Oi u=Oi s) (fun x _=>(sOf x).length) ⟨rfl,s,rfl,m,rfl⟩ ?_
 rintro _ d _ ⟨rfl,u,rfl,g,e⟩
 have f:sOf (S u)=u:=by simp[sOf]
 simp only[f]
 refine Q4n X7 ?_
 refine Q1T ?_
 refine Q5 (fun hh=>?_) (fun hh=>?_)
 ·have n:0<u.length:=by simpa using hh
  have o:u.length≤9223372036854775807:=Nat.le_trans g (by decide)
  refine Q4n X7 ?_
  refine Dm ⟨by omega,by omega⟩ ?_
  have i:((u.length:Int)-1).toNat=u.length-1:=by omega
  rw[Qd X7 (by omega) (by omega)]
  simp only[i]
  have b:u.getLast?=some (u[u.length-1]'(by omega)):=by rw[List.getLast?_eq_getElem?,List.getElem?_eq_getElem]
  have a:=Q0e u
  rw[b] at a
  simp only at a
  refine Q1n k j ?_
  cases c:brk (u[u.length-1]'(by omega)) with
  | true=>
   rw[c] at a
   simp only[↓M1,M1,Mb,reduceIte]
   rw[B1 (by omega) (by omega),I7 X7 (by omega) (by omega)]
   simp only[i]
   refine ⟨⟨trivial,_,rfl,by rw[List.length_take];omega,?_⟩,?_⟩
   ·rw[←e,a];simp
   ·have:sOf (S (u.take (u.length-1)))=u.take (u.length-1):=by simp[sOf]
    simp only[this,List.length_take];omega
  | false=>
   rw[c] at a
   simp only[↓M1,M1,Mb,reduceIte]
   intro _
   rw[←e,a] at h
   simpa using h
 ·have n: ¬0<u.length:=by simpa using hh
  have:u=[]:=List.eq_nil_of_length_eq_zero (by omega)
  subst this
  intro _
  rw[←e] at h
  exact h)
theorem Q5J {s:X0} (hs:X4 w σ) (hl:s.length≤Z7) (h: ∀w' σ',Stp w σ w' σ'→K (S (Oi s)) w'):Q0 P F.bj [S s,S [91,93]] w K:=Is (by
 unfold Mh
 by_cases hs0:s=[]
 ·subst hs0
  (repeat' (first | (with_reducible intro _) | (with_reducible refine V5 ?_) | (simp only[↓M2,M2,Mb,reduceIte]) | (with_reducible first | refine ld aS aL aR ?_ | refine X8 aS aL aR ?_ | refine Z1 aS aL aR ?_ | refine Q9 aL ?_ | refine V1 aR ?_ | refine Y8 aS ?_ | refine L3 aS aL ?_ | refine J6 aS aR ?_ | refine Y6 aS aR aR (Rep.one (by assumption)) ?_ | refine U2 aS aR aR aR ?_ | (refine Z4 (fun hh=>?_) (fun hh=>?_)<;>(try simp only[hh,Bool.not_true,Bool.not_false,↓M2,M2,Mb,reduceIte])) | (refine Q5 (fun hh=>?_) (fun hh=>?_)<;>(try simp only[hh,Bool.not_true,Bool.not_false,↓M2,M2,Mb,reduceIte])))))
  all_goals first | exact h _ _ (by (repeat (first | exact Stp.refl (by (first | assumption | exact Stp.sat (by assumption) | exact Hst.sat (by assumption))) | assumption | refine Stp.trans ?_ (by first | assumption | exact Hst.stp (by assumption))))) | (exfalso;simp_all)
 have d1:decide (s=[])=false:=decide_eq_false hs0
 simp only[d1,show decide (([91,93]:X0)=[])=false from rfl,show decide ((([91,93]:X0).length:Int)=1)=false from rfl,↓M1,M1,Mb,reduceIte]
 refine Q5i (W3 hs fun w1 σ1 hk1=>?_)
 simp only[↓M1,M1,Mb,reduceIte]
 have hsz:(Lib.setCells [91,93]).toList.length=256:=by rw[Array.length_toList];exact Lib.setCells_size _
 have hone: ∀u∈(Lib.setCells [91,93]).toList,u.oneCell'=true:=by
  have:=Lib.setCells_one [91,93]
  rw[Array.all_eq_true'] at this
  intro u hu;exact this u (by simpa using hu)
 have htr: ∀{w:World} {σ:Q4} {K:Value→World→Prop} {q:Addr},X4 w σ→Z3 σ q (Lib.setCells [91,93]).toList→K (S (Oi s)) w→Q0 P F.af [S s, .pointer (some q)] w K:=fun hs hq h=>Q16 hs hl hq h
 have hta:Lib.setCells [91,93]=(Lib.setCells [91,93]).toList.toArray:=Array.toArray_toList.symm
 generalize (Lib.setCells [91,93]).toList=cs at*
 rw[hta]
 refine Y6 hk1.sat (by show (Array.replicate 256 (Value.bool false)).size=256;exact Array.size_replicate) hsz hone fun q w2 σ2 hk2 hq=>?_
 refine htr hk2.sat hq ?_
 exact h _ _ (hk1.trans hk2))
theorem Tf {s:X0} (hs:X4 w σ) (ht:Tab σ v l) (hl:s.length≤Z7) (h: ∀w' σ',Stp w σ w' σ'→K (.bool (R7 l s)) w'):Q0 P F.v [v,S s] w K:=Ip (by
 unfold Mn
 unfold R7 at h
 refine Nk ?_
 refine Q5 (fun hh=>?_) (fun hh=>?_)
 ·have e:decide (s=C2)=true:=hh
  rw[e] at h
  exact h _ _ (Stp.refl hs)
 ·have e:decide (s=C2)=false:=hh
  rw[e] at h
  refine Q5J hs hl fun w1 σ1 hk1=>?_
  refine Zz s (Nat.le_trans hl (by decide)) (W3 hk1.sat fun w2 σ2 hk2=>?_)
  cases hr:right s with
  | false=>
   rw[hr] at h
   (repeat' (first | (with_reducible intro _) | (with_reducible refine V5 ?_) | (simp only[↓M2,M2,Mb,reduceIte]) | (with_reducible first | refine ld aS aL aR ?_ | refine X8 aS aL aR ?_ | refine Z1 aS aL aR ?_ | refine Q9 aL ?_ | refine V1 aR ?_ | refine Y8 aS ?_ | refine L3 aS aL ?_ | refine J6 aS aR ?_ | refine Y6 aS aR aR (Rep.one (by assumption)) ?_ | refine U2 aS aR aR aR ?_ | (refine Z4 (fun hh=>?_) (fun hh=>?_)<;>(try simp only[hh,Bool.not_true,Bool.not_false,↓M2,M2,Mb,reduceIte])) | (refine Q5 (fun hh=>?_) (fun hh=>?_)<;>(try simp only[hh,Bool.not_true,Bool.not_false,↓M2,M2,Mb,reduceIte])))))
   all_goals exact aF
  | true=>
   rw[hr] at h
   have hr2:(plain (base s).1||W2 (base s).1)=true:=by
    simp only[right,Bool.and_eq_true] at hr;exact hr.2
   rw[Q8h hr2]
   (repeat' (first | (with_reducible intro _) | (with_reducible refine V5 ?_) | (simp only[↓M2,M2,Mb,reduceIte]) | (with_reducible first | refine ld aS aL aR ?_ | refine X8 aS aL aR ?_ | refine Z1 aS aL aR ?_ | refine Q9 aL ?_ | refine V1 aR ?_ | refine Y8 aS ?_ | refine L3 aS aL ?_ | refine J6 aS aR ?_ | refine Y6 aS aR aR (Rep.one (by assumption)) ?_ | refine U2 aS aR aR aR ?_ | refine Vk _ ?_ | refine Q6W au au ?_ | (refine Z4 (fun hh=>?_) (fun hh=>?_)<;>(try simp only[hh,Bool.not_true,Bool.not_false,↓M2,M2,Mb,reduceIte])) | (refine Q5 (fun hh=>?_) (fun hh=>?_)<;>(try simp only[hh,Bool.not_true,Bool.not_false,↓M2,M2,Mb,reduceIte])))))
   all_goals exact aF)
end Go.Proofs.YtfppjenblllfaaaGreatDoor

namespace Go.Emb
open Go.RowKit Go.Hm
variable {P : Program} {w w0 w1 w' w'' : World} {K : Value → World → Prop} {σ σ0 σ1 σ' : Q4}
theorem Q2K (m:List (List UInt8×Value)) (k n:List UInt8) (v:Value):M0 (Qw m k v) n=if k=n then some v else M0 m n:=by
 induction m with
 | nil=>simp[Qw,M0]
 | cons p r b=>
  simp only[Qw]
  by_cases h:p.1=k
  ·rw[if_pos h]
   simp only[M0]
   by_cases a:k=n
   ·simp[a]
   ·rw[if_neg a,if_neg a,if_neg (by rw[h];exact a)]
  ·rw[if_neg h]
   simp only[M0]
   by_cases a:p.1=n
   ·rw[if_pos a,if_pos a,if_neg (by intro e;exact h (a.trans e.symm))]
   ·rw[if_neg a,if_neg a];exact b
theorem U0.shift {B sz:Nat} {e:TypeId} {v:Value} {xs:List (List UInt8)} (h:U0 B e sz X9 σ w v xs) (m: ∀k,v.ownBlock=some k→σ' k=none):U0 B e sz X9 σ' w v xs:=by
 obtain ⟨a,i,rfl,p,r,c,u⟩:=h
 refine ⟨a,i,rfl,p,r,fun b d=>⟨(c b d).1,(c b d).2.1,(c b d).2.2.1,m _ (by subst d;rfl)⟩,fun o=>?_⟩
 obtain ⟨g,f,j,rfl,n,y,s,t,q⟩:=u o
 exact ⟨g,f,j,rfl,n,m g rfl,s,t,q⟩
theorem Kpt.sat {D:Nat→Prop} (a:X4 w σ) (d:Kpt D w w') (c: ∀k,D k→σ k=none):X4 w' σ:=fun b o e=>by
 rw[d.block b (a.lt e) fun h=>by rw[c b h] at e;cases e];exact a b o e
theorem Nxt.kpt {D a:Nat→Prop} (h:Nxt D w σ w' σ') (b:Kpt a w' w'') (c: ∀k,a k→D k) (d: ∀k,a k→σ' k=none):Nxt D w σ w'' σ':=
 ⟨h.kp.trans (b.mono fun k _ h=>c k h),h.le,h.old,b.sat h.sat d⟩
theorem X1x {t V:TypeId} {e:TypeId} {by_:Nat} {z:Value} {cs:List Bool} [ts:TS P t e] [tz:TZ P e 1 by_ z] {B:Nat} {y:World} {i σ':Q4} {f u:Value} {xs:List (List UInt8)} {s:List UInt8}
 (C:U0 B e 1 X9 i y f xs) (hB:B≤y.heap.size) (L:U0 B e 1 X9 i w1 f xs) (r:Nxt (fun k=>f.ownBlock=some k) y i w1 σ') (N:Sl 1 X9 σ' u [s]) (U:(z.cells.size==1&&decide (0<1))=true)
 (j:(xs.length+1)*by_≤140737488355328) (Q:xs.length+1≤1000000000000):
 X5 P .append [t,t] V cs [f,u] w1 (dk (Ss B e 1 X9 i f xs s) (VQa y.heap.size B e 1 X9 i f xs s) w1):=by
 have q: ∀k,f.ownBlock=some k→σ' k=none:=fun k c=>(r.old k (C.mem c).2.1).trans (C.mem c).2.2
 refine Q1P r.sat (Nat.le_trans hB r.kp.size) (L.shift q) N U (by simpa using j) (by simpa using Q) fun W M A H n d=>?_
 have b:U0 B e 1 X9 i M W (xs++[s]):=n.shift fun k c=>by
  have:=(n.mem c).2.2
  cases hh:i k with
  | none=>rfl
  | some o=>rw[r.le.le _ _ hh] at this;cases this
 refine ⟨⟨A.mono fun k _ h=>h.1,fun h=>?_,fun a g E h=>?_⟩,b,?_⟩
 ·rcases d with ⟨a,g,m,p⟩ | ⟨j,_⟩
  ·rw[p] at b;rw[m];exact b.pre rfl
  ·exact h.below j
 ·rcases d with ⟨X,D,m,p⟩ | ⟨j,_⟩
  ·rw[m] at E;injection E with J q2 R
   subst J R
   rw[p] at b;exact b
  ·exact h.below j
 ·rcases d with ⟨a,g,m,p⟩ | ⟨j,O⟩
  ·exact .inl ⟨a,g,m,p⟩
  ·exact .inr ⟨fun k c=>Nat.le_trans r.kp.size (O k c),fun k c=>(C.mem c).2.1⟩
end Go.Emb
namespace Go.Hm
open Go.Kd
def Wk (l:List Cla) (n:X0):List Cla:=(R3 l n).filterMap (lk l)
theorem Q5j {l:List Cla} (h: ∀c∈l,P8 c) (a:List X0):weigh l a≤l.length*1000001:=by
 unfold weigh
 induction l with
 | nil=>simp
 | cons c r d=>
  have g:=d fun c b=>h c (by simp[b])
  have f:=(h c (by simp)).1
  simp only[List.map_cons,List.sum_cons,List.length_cons,Nat.add_mul]
  have e:(J3 c).length=c.like.length+1:=rfl
  split<;>omega
end Go.Hm
namespace Go.Proofs.YtfppjenblllfaaaGreatDoor
open Go.Emb Go.RowKit Go.Kd Go.Hm
variable {w : World} {K : Value → World → Prop} {σ : Q4} {v : Value} {l : List Cla}
theorem Q6j {β:Type} {n:X0} {f:Value} (L:β→Cla→Bool×β) (s0:β) (Q:β→World→Prop) (D:Nat→Prop) (hs:X4 w σ) (ht:Tab σ v l) (hl:l.length≤100000) (bm: ∀c∈l,P8 c) (hn:n.length≤Z7)
 (hD: ∀k,D k→k<w.heap.size∧σ k=none) (aj: ∀s w1 w2,Q s w1→(∀k,D k→w2.heap[k]? =w1.heap[k]?)→Q s w2) (h0:Q s0 w)
 (hf: ∀s c cs (w1:World) (σ1:Q4) (K:Value→World→Prop),SLe σ σ1→X4 w1 σ1→(∀k,D k→σ1 k=none)→Q s w1→U6 σ1 c cs→lk l c.name=some c→(∀w',Kpt D w1 w'→Q (L s c).2 w'→K (.bool (L s c).1) w')→Y9 P f [.agg cs.toArray] w1 K)
 (h: ∀w' σ',Nxt D w σ w' σ'→Q (Z9 L s0 (Wk l n) 0).2 w'→K (.bool (Z9 L s0 (Wk l n) 0).1.isSome) w'):Q0 P F.t [v,S n,f] w K:=Bp (by
 unfold Wj
 refine I6 (R:=X9) (sz:=1) (xs:=[n]) (Stp.refl hs) [S n] rfl rfl (by simp;rfl) rfl ⟨⟨rfl,hn⟩,trivial⟩ fun x0 w1 ay br _=>?_
 refine Ar ay.sat fun r w2 hr X cp=>?_
 have b3:=U0.of_acc (br.up X)
 have b0:=ay.trans X
 have bk:w.heap.size≤r:=Nat.le_trans ay.bel.size hr
 have bs: ∀b,weigh l b≤100001000000:=fun b=>by
  have:=Q5j bm b
  have h2:l.length*1000001≤100000*1000001:=Nat.mul_le_mul_right _ hl
  omega
 refine Fb (fun d x w1=> ∃(C b:List X0) (s:β) (σ1:Q4) (m:List (X0×Value)),d=C.length+weigh l b∧d≤1+weigh l []∧Nxt D w σ w1 σ1∧U0 w.heap.size T.c 1 X9 σ1 w1 x C∧E0 σ1 w1 r m∧(∀k,(M0 m k).isSome=decide (k∈b))∧x.ownBlock≠some r∧Q s w1∧
  R3 l n=Jf (lk l) d C b∧(∃i,Z9 L s0 (Wk l n) 0=Z9 L s (((R3 l n).drop b.length).filterMap (lk l)) i)) (1+weigh l []) ?_ ?_
 ·refine ⟨[n],[],s0,σ,[],by simp,Nat.le_refl _,Nxt.of_stp b0,b3,cp,by simp[M0],?_,aj _ _ _ h0 fun k o=>b0.bel.block k (hD k o).1,rfl,0,by simp[Wk]⟩
  intro e
  have:=br.mem r e
  omega
 rintro a0 d x dd w3 ⟨C,b,s,σ3,m,hd,c9,A,a1,af,O,cg,az,hv,i,y⟩ bv
 have cv:=bs []
 have a2:=A.sat
 obtain ⟨av,B⟩:=Q04 (lk l) d C b
 rw[←hv] at B
 have ae:(R3 l n).drop b.length=av:=by rw[B];simp
 rw[ae] at y
 refine Hw a1 ?_
 refine Q1T ?_
 cases ac:C with
 | nil=>
  subst ac
  refine Q5 (fun hh=>absurd (of_decide_eq_true hh) (by simp)) (fun _=>?_)
  have:R3 l n=b:=by rw[hv];cases d<;>rfl
  have hp:av=[]:=by rw[this] at B;simpa using B
  rw[hp] at y
  rw[y] at h
  exact h _ _ A az
 | cons t g=>
  subst ac
  refine Q5 (fun _=>?_) (fun hh=>absurd (of_decide_eq_false hh) (by simp))
  simp only[List.length_cons] at hd
  refine Q4c (n:=0) a1 (by simp) fun a cs h1 h2 h3=>?_
  obtain ⟨rfl,ck⟩:=h3
  simp only[List.getElem_cons_zero] at h1 ck
  have Y:=h1 0 _ rfl
  rw[add_zero] at Y
  refine Qg Y ?_
  refine X07 a1 1 (by simp) fun x' ad bo=>?_
  simp only[List.drop_succ_cons,List.drop_zero] at ad
  have J:x'.ownBlock≠some r:=by
   rcases bo with e | e<;>rw[e]
   ·exact cg
   ·simp
  rw[Q1d X7 af.2 t]
  have cf:d=(g.length+weigh l b)+1:=by omega
  have p:=hv
  rw[cf] at p
  simp only[Jf] at p
  have skip:(lk l t=none∨t∈b)→R3 l n=Jf (lk l) (g.length+weigh l b) g b:=by
   rintro (e | e)
   ·rw[e] at p;exact p
   ·cases e2:lk l t with
    | none=>rw[e2] at p;exact p
    | some c=>rw[e2] at p;simp only[if_pos e] at p;exact p
  have Z:(lk l t=none∨t∈b)→a0 x' w3:=fun b4=>
   bv (g.length+weigh l b) x' w3 (by omega) ⟨g,b,s,σ3,m,rfl,by omega,A,ad,af,O,J,az,skip b4,i,by rw[ae];exact y⟩
  have a6:=ht.lift A.le
  have U:=O t
  cases bi:M0 m t with
  | some u=>
   rw[bi] at U
   have ak:t∈b:=by simpa using U
   simp only[↓M2,M2,Mb,reduceIte]
   exact Z (.inr ak)
  | none=>
   rw[bi] at U
   have ak:t∉b:=by simpa using U
   simp only[↓M2,M2,Mb,reduceIte]
   cases H:lk l t with
   | none=>
    refine Tn a2 a6 H ?_
    simp only[↓M2,M2,Mb,reduceIte]
    exact Z (.inl H)
   | some c=>
    obtain ⟨ar,bh,_⟩:=U4 H
    refine Hf a2 a6 H ?_
    simp only[↓M2,M2,Mb,reduceIte]
    refine Db X7 af t (I 1) fun w4 bn ci=>?_
    have ag:Kpt (fun k=>k=r) w3 w4:=Kpt.of_upd bn rfl
    have b8:X4 w4 σ3:=ag.sat a2 fun k o=>by rw[o];exact af.1
    have bg:=ad.kp ag fun k o e=>J (e▸o)
    have ch:=aj _ _ _ az fun k o=>bn.block k (by have:=(hD k o).1;omega)
    have db:r<w3.heap.size:=af.lt
    refine Xr b8 a6 H fun lv fv mv w5 σ5 bf f1 f2 f3 f4 f5 bd=>?_
    refine Y6 bf.sat (by rfl) rfl (Rep.one bd) fun q w6 M W aq=>?_
    refine Z1 W.sat aq rfl ?_
    have z:=bf.trans W
    have bb: ∀k,D k→k<w4.heap.size:=fun k o=>by
     have h1:=(hD k o).1
     have h2:=A.kp.size
     have h3:=ag.size
     omega
    have cl:=aj _ _ _ ch fun k o=>z.bel.block k (bb k o)
    have a5:SLe σ M:=A.le.more ⟨z.le⟩
    have bw: ∀k,D k→M k=none:=fun k o=>by
     rw[z.old k (bb k o),A.old k (hD k o).1];exact (hD k o).2
    refine hf s c _ w6 M _ a5 W.sat bw cl (RCl_lift bd ⟨W.le⟩) (by rw[ar];exact H) fun w7 am b1=>?_
    have bq:X4 w7 M:=am.sat W.sat bw
    have ai:Nxt D w σ w7 M:=⟨((A.kp.more ag fun j e=>by rw[e];exact bk).trans (Kpt.of_below z.bel)).trans am,a5,fun k o=>by
     rw[z.old k (by have:=A.kp.size;have:=ag.size;omega)];exact A.old k o,bq⟩
    have ap: ∀k,w.heap.size≤k→ ¬D k:=fun k o e=>by have:=(hD k e).1;omega
    have V:=(bg.up z).kp am fun k o=>ap k ((bg.mem o).1)
    have bp:=(ci.up z).kp am (ap r bk)
    have bl: ∀k,(M0 (Qw m t (I 1)) k).isSome=decide (k∈b++[t]):=fun k=>by
     rw[Q2K]
     by_cases e:t=k
     ·subst e;simp
     ·rw[if_neg e,O k];simp[Ne.symm e]
    rw[H] at p
    simp only[if_neg ak] at p
    obtain ⟨be,ax⟩:=Q04 (lk l) (g.length+weigh l b) (g++J3 c) (b++[t])
    have bc:av=t::be:=by
     have:=B.symm.trans (p.trans ax)
     simpa using this
    rw[bc] at y
    simp only[List.filterMap_cons,H,Z9] at y
    cases E:(L s c).1 with
    | true=>
     rw[E] at y
     simp only[if_true] at y
     refine V9 ?_
     have:=h w7 M ai
     rw[y] at this
     exact this b1
    | false=>
     rw[E] at y
     simp only[Bool.false_eq_true,if_false] at y
     refine W0 ?_
     have ao:w.heap.size≤w7.heap.size:=ai.kp.size
     have aa: ∀k,x'.ownBlock=some k→M k=none:=fun k o=>(V.mem o).2.2
     have hw:=Fk l b c bh (by rw[ar];exact ak)
     rw[ar] at hw
     have de:=bs b
     have cd:g.length≤100001000001:=by omega
     have b6:=(bm c bh).1
     have cw:=bp.lt
     refine Q00 (Ss w.heap.size T.c 1 X9 M x' g c.super) (fun w1=>Kpt (fun k=>x'.ownBlock=some k) w7 w1∧X4 w1 M∧U0 w.heap.size T.c 1 X9 M w1 x' g)
      ⟨.of_below (Below.refl _ _).drew,bq.below (Below.refl _ _).drew,V.below (Below.refl _ _).drew⟩ (fun w1 w2 E ht=>⟨E.1.trans ht.1,ht.1.sat E.2.1 aa,ht.2.1 E.2.2⟩) ?_
     refine X2 (.pointer (some (q.add 1))) (fun w E=>by rw[fa];exact ⟨Ss.refl,rfl⟩) ?_
     refine X2 (.pointer (some (q.add 2))) (fun w E=>by rw[fa];exact ⟨Ss.refl,rfl⟩) ?_
     refine X2 (S c.super) (fun t w E e=>by rw[e];exact ld E.2.1 aq rfl ⟨Ss.refl,rfl⟩) ?_
     refine W5 (fun u w1=> ∃σ',Nxt (fun k=>x'.ownBlock=some k) w7 M w1 σ'∧Sl 1 X9 σ' u [c.super]) (fun u w1 w2 e ht=>by obtain ⟨σ',h1,h2⟩:=e;exact ⟨σ',h1.kpt ht.1 (fun _ o=>o) (fun k o=>(h1.old k (V.mem o).2.1).trans (aa k o)),h2⟩) (fun t w1 E e=>?_) ?_
     ·rw[e]
      refine O7 (R:=X9) (sz:=1) E.2.1 [S c.super] [c.super] rfl rfl (by simp;rfl) rfl ⟨⟨rfl,f5⟩,trivial⟩ fun u w2 σ2 X hu=>?_
      have ce:Nxt (fun k=>x'.ownBlock=some k) w7 M w1 M:=⟨E.1,SLe.refl _,fun _ _=>rfl,E.2.1⟩
      exact ⟨Ss.below X.bel,σ2,ce.trans (Nxt.of_stp X),hu⟩
     refine W5 (VQa w7.heap.size w.heap.size T.c 1 X9 M x' g c.super) (fun _ _ _ h1 ht=>h1.stable ht) (fun u w1 E e=>?_) ?_
     ·obtain ⟨σ',h1,h2⟩:=e
      exact X1x V ao E.2.2 h1 h2 rfl (by omega) (by omega)
     refine X2 lv (fun t w E e=>by rw[e];exact ld E.2.1 aq rfl ⟨Ss.refl,rfl⟩) ?_
     rintro dg c5 dn dh co da w8 N _ _ _ _ ⟨b7,bz⟩ rfl
     have a4:co.ownBlock≠some r:=by
      rcases bz with ⟨a,cj,e1,e2⟩ | ⟨e1,_⟩
      ·rw[e2];rw[e1] at J;cases a<;>exact J
      ·intro e;have:=e1 r e;omega
     refine Q1P N.2.1 (Nat.le_trans ao N.1.size) b7 (f1.up W) rfl (by rw[List.length_append,List.length_cons,List.length_nil];omega) (by rw[List.length_append,List.length_cons,List.length_nil];omega) fun bu w9 aw cm cn bj=>?_
     have b5:bu.ownBlock≠some r:=by
      rcases bj with ⟨a,cj,e1,e2⟩ | ⟨_,e1⟩
      ·rw[e2];rw[e1] at a4;cases a<;>exact a4
      ·intro e;have:=e1 r e;have:=N.1.size;omega
     have ca:Nxt D w σ w9 M:=⟨(ai.kp.more N.1 fun j e=>(V.mem e).1).more aw fun j e=>e.2.1,a5,ai.old,cm⟩
     have cq:=(bp.kp N.1 J).kp aw fun e=>a4 e.1
     have b9:=aj _ w7 w9 b1 fun k o=>by
      have h1:=(hD k o).1
      rw[aw.block k (by have:=N.1.size;omega) fun e=>by have:=e.2.1;omega,N.1.block k (by omega) fun e=>by have:=(V.mem e).1;omega]
     have c4:(g++J3 c).length=g.length+1+c.like.length:=by simp[J3];omega
     have cx:(J3 c).length=c.like.length+1:=rfl
     have a7:Jf (lk l) (g.length+weigh l b) (g++J3 c) (b++[t])=Jf (lk l) ((g++J3 c).length+weigh l (b++[t])) (g++J3 c) (b++[t]):=by
      have:=Q9x l ((g++J3 c).length+weigh l (b++[t])) (g++J3 c) (b++[t]) (Nat.le_refl _) (g.length+weigh l b-((g++J3 c).length+weigh l (b++[t])))
      rw[←this];congr 1;omega
     refine bv ((g++J3 c).length+weigh l (b++[t])) bu w9 (by omega) ⟨g++J3 c,b++[t],(L s c).2,M,_,rfl,by omega,ca,?_,cq,bl,b5,b9,p.trans a7,i+1,?_⟩
     ·have:g++J3 c=(g++[c.super])++c.like:=by simp[J3]
      rw[this];exact cn
     ·rw[y,B,bc];simp)
end Go.Proofs.YtfppjenblllfaaaGreatDoor

namespace Go.Emb
open Go.RowKit Go.Hm
theorem Nxt.stp {w w':World} {σ a:Q4} (h:Nxt (fun _=>False) w σ w' a):Stp w σ w' a:=⟨h.kp.below fun _=>id,h.sat,h.le.le,h.old⟩
end Go.Emb
namespace Go.Hm
open Go.Kd Go.Emb
theorem Q2T {α:Type} (p:α→Bool): ∀(xs:List α) (i:Nat),(Z9 (fun (_:Unit) x=>(p x,())) () xs i).1.isSome=xs.any p
 | [],_=>rfl
 | x::r,i=>by
  simp only[Z9,List.any_cons]
  cases p x with
  | true=>simp
  | false=>simpa using Q2T p r (i+1)
theorem Q3Q {l:List Cla} (n b:X0):((Wk l n).any fun c=>decide (c.name=b))=(R3 l n).contains b:=by
 have key: ∀vs:List X0,(∀x∈vs,∃c,lk l x=some c)→((vs.filterMap (lk l)).any fun c=>decide (c.name=b))=vs.contains b:=by
  intro vs
  induction vs with
  | nil=>intro _;rfl
  | cons x r f=>
   intro h
   obtain ⟨c,a⟩:=h x (by simp)
   rw[List.filterMap_cons,a]
   simp only[List.any_cons,List.contains_cons]
   rw[f fun y e=>h y (by simp[e]),(U4 a).1]
   congr 1
   rw[Bool.eq_iff_iff,beq_iff_eq,decide_eq_true_eq];exact ⟨Eq.symm,Eq.symm⟩
 exact key _ fun x d=>(Zy.1 d).right
end Go.Hm
namespace Go.Proofs.YtfppjenblllfaaaGreatDoor
open Go.Emb Go.RowKit Go.Kd Go.Hm
variable {w : World} {K : Value → World → Prop} {σ : Q4} {v : Value} {l : List Cla}
theorem Q60 {n:X0} {f:Value} (p:Cla→Bool) (hs:X4 w σ) (ht:Tab σ v l) (hl:l.length≤100000) (hsm: ∀c∈l,P8 c) (hn:n.length≤Z7)
 (hf: ∀c cs (w1:World) (σ1:Q4) (K:Value→World→Prop),SLe σ σ1→X4 w1 σ1→U6 σ1 c cs→(∀w' σ',Stp w1 σ1 w' σ'→K (.bool (p c)) w')→Y9 P f [.agg cs.toArray] w1 K)
 (h: ∀w' σ',Stp w σ w' σ'→K (.bool ((Wk l n).any p)) w'):Q0 P F.t [v,S n,f] w K:=by
 refine Q6j (fun (_:Unit) c=>(p c,())) () (fun _ _=>True) (fun _=>False) hs ht hl hsm hn (fun _ e=>e.elim) (fun _ _ _ _ _=>trivial) trivial (fun s c cs w1 σ1 K le hs1 _ _ hr _ hK=>hf c cs w1 σ1 K le hs1 hr fun w' σ' hk=>hK w' (.of_below hk.bel) trivial) fun w' σ' hn _=>?_
 rw[Q2T]
 exact h w' σ' hn.stp
theorem Q99 {n b:X0} {q:Addr} (hs:X4 w σ) (ht:Tab σ v l) (ok:Ok l) (hn:n.length≤Z7) (hq:Z3 σ q [S b]) (h: ∀w' σ',Stp w σ w' σ'→K (.bool ((R3 l n).contains b)) w'):
 Q0 P F.t [v,S n, .func (.func F.bd) #[] #[.pointer (some q)]] w K:=by
 refine Q60 (fun c=>decide (c.name=b)) hs ht ok.len ok.sm hn (fun c cs w1 σ1 K le hs1 hr hK=>Y7 (Bq ?_)) (by rw[Q3Q];exact h)
 obtain ⟨lv,fv,mv,rfl,_⟩:=hr
 unfold Vv
 have hq1:=hq.lift le
 refine Y8 hs1 fun a w2 σ2 hk2 ha2=>?_
 (repeat' (first | (with_reducible intro _) | (with_reducible refine V5 ?_) | (simp only[↓M2,M2,Mb,reduceIte]) | (with_reducible first | refine ld aS aL aR ?_ | refine X8 aS aL aR ?_ | refine Z1 aS aL aR ?_ | refine Q9 aL ?_ | refine V1 aR ?_ | refine Y8 aS ?_ | refine L3 aS aL ?_ | refine J6 aS aR ?_ | refine Y6 aS aR aR (Rep.one (by assumption)) ?_ | refine U2 aS aR aR aR ?_ | (refine Z4 (fun hh=>?_) (fun hh=>?_)<;>(try simp only[hh,Bool.not_true,Bool.not_false,↓M2,M2,Mb,reduceIte])) | (refine Q5 (fun hh=>?_) (fun hh=>?_)<;>(try simp only[hh,Bool.not_true,Bool.not_false,↓M2,M2,Mb,reduceIte])))))
 exact hK _ _ hk2
theorem Q3D {a b:X0} (D:X4 w σ) (r:Tab σ v l) (ok:Ok l) (t:a.length≤Z7) (H:b.length≤Z7) (h: ∀w' E,Stp w σ w' E→K (.bool (H4 l a b)) w'):Q0 P F.a9 [v,S a,S b] w K:=Pr (by
 unfold Nq
 unfold H4 at h
 refine J6 D rfl fun q w1 σ1 m z=>?_
 refine Tf m.sat (r.lift ⟨m.le⟩) t fun N Q d=>?_
 have j:=m.trans d
 cases y:R7 l a with
 | false=>
  simp only[y,↓M2,M2,Mb,reduceIte,Bool.not_false,Bool.true_or,if_true] at h⊢
  exact h _ _ j
 | true=>
  simp only[y,↓M2,M2,Mb,reduceIte,Bool.not_true,Bool.false_or] at h⊢
  refine X8 d.sat (z.up d) rfl ?_
  refine Tf d.sat (r.lift ⟨j.le⟩) H fun U M e=>?_
  have c:=j.trans e
  cases A:R7 l b with
  | false=>
   simp only[A,↓M2,M2,Mb,reduceIte,Bool.not_false,if_true] at h⊢
   exact h _ _ c
  | true=>
   simp only[A,↓M2,M2,Mb,reduceIte,Bool.not_true,Bool.false_eq_true,if_false] at h⊢
   have k:=(z.up d).up e
   refine X8 e.sat k rfl ?_
   refine Nk ?_
   by_cases f:a=b
   ·rw[if_pos f] at h
    simp only[decide_eq_true f,↓M2,M2,Mb,reduceIte]
    exact h _ _ c
   rw[if_neg f] at h
   simp only[decide_eq_false f,↓M2,M2,Mb,reduceIte]
   refine Vk a ?_
   cases C:plain a with
   | true=>
    simp only[C,↓M2,M2,Mb,reduceIte,Bool.true_or,if_true] at h⊢
    exact h _ _ c
   | false=>
    simp only[C,↓M2,M2,Mb,reduceIte,Bool.false_or] at h⊢
    refine X8 e.sat k rfl ?_
    refine Vk b ?_
    cases B:plain b with
    | true=>
     simp only[B,↓M2,M2,Mb,reduceIte,if_true] at h⊢
     exact h _ _ c
    | false=>
     simp only[B,↓M2,M2,Mb,reduceIte,Bool.false_eq_true,if_false] at h⊢
     by_cases o:a=C2
     ·rw[if_pos o] at h
      have s:decide (a=[110,117,108,108])=true:=decide_eq_true o
      simp only[s,↓M2,M2,Mb,reduceIte]
      exact h _ _ c
     rw[if_neg o] at h
     have s:decide (a=[110,117,108,108])=false:=decide_eq_false o
     simp only[s,↓M2,M2,Mb,reduceIte]
     refine X1m a (Nat.le_trans t (by decide)) (W3 e.sat fun L J g=>?_)
     have i:=c.trans g
     have n:=k.up g
     refine Vs ?_
     by_cases p:elem a=[]
     ·rw[if_neg (by simpa using p)] at h
      simp only[decide_eq_true p,↓M2,M2,Mb,reduceIte]
      exact Q99 g.sat (r.lift ⟨i.le⟩) ok t n fun R O u=>h _ _ (i.trans u)
     ·rw[if_pos p] at h
      simp only[decide_eq_false p,↓M2,M2,Mb,reduceIte]
      refine X8 g.sat n rfl ?_
      refine Nk ?_
      exact h _ _ i)
theorem Q8w {a b:X0} (W:X4 w σ) (p:Tab σ v l) (ok:Ok l) (y:a.length≤Z7) (z:b.length≤Z7) (h: ∀w' E,Stp w σ w' E→K (S (B8 l a b)) w'):Q0 P F.aC [v,S a,S b] w K:=Kt (by
 unfold Me
 unfold B8 at h
 refine Q3D W p ok y z fun w1 σ1 j=>?_
 cases L:H4 l a b with
 | true=>
  simp only[L,↓M2,M2,Mb,reduceIte,if_true] at h⊢
  exact h _ _ j
 | false=>
  simp only[L,↓M2,M2,Mb,reduceIte,Bool.false_eq_true,if_false] at h⊢
  refine Q3D j.sat (p.lift ⟨j.le⟩) ok z y fun w2 σ2 r=>?_
  have n:=j.trans r
  cases M:H4 l b a with
  | true=>
   simp only[M,↓M2,M2,Mb,reduceIte,if_true] at h⊢
   exact h _ _ n
  | false=>
   simp only[M,↓M2,M2,Mb,reduceIte,Bool.false_eq_true,if_false] at h⊢
   refine Tf r.sat (p.lift ⟨n.le⟩) y fun w3 σ3 u=>?_
   have o:=n.trans u
   cases R:R7 l a with
   | false=>
    simp only[R,↓M2,M2,Mb,reduceIte,Bool.not_false,Bool.true_or,if_true] at h⊢
    exact h _ _ o
   | true=>
    simp only[R,↓M2,M2,Mb,reduceIte,Bool.not_true,Bool.false_or] at h⊢
    refine Tf u.sat (p.lift ⟨o.le⟩) z fun Z V C=>?_
    have i:=o.trans C
    cases Q:R7 l b with
    | false=>
     simp only[Q,↓M2,M2,Mb,reduceIte,Bool.not_false,Bool.true_or,if_true] at h⊢
     exact h _ _ i
    | true=>
     simp only[Q,↓M2,M2,Mb,reduceIte,Bool.not_true,Bool.false_or] at h⊢
     refine Vk a ?_
     cases N:plain a with
     | true=>
      simp only[N,↓M2,M2,Mb,reduceIte,Bool.true_or,if_true] at h⊢
      exact h _ _ i
     | false=>
      simp only[N,↓M2,M2,Mb,reduceIte,Bool.false_or] at h⊢
      refine Vk b ?_
      cases U:plain b with
      | true=>
       simp only[U,↓M2,M2,Mb,reduceIte,if_true] at h⊢
       exact h _ _ i
      | false=>
       simp only[U,↓M2,M2,Mb,reduceIte,Bool.false_eq_true,if_false] at h⊢
       refine Fb (fun d x w'=> ∃(s:X0) (E:Q4),x=S s∧s.length≤Z7∧Stp w σ w' E∧d=(chain l s).length∧(chain l a).find? (fun c=>H4 l b c.name)=(chain l s).find? fun c=>H4 l b c.name) _ ⟨a,V,rfl,y,i,rfl,rfl⟩ ?_
       rintro A d x dd w5 ⟨s,σ5,rfl,H,f,rfl,e⟩ D
       have m:=p.lift ⟨f.le⟩
       cases q:lk l s with
       | none=>
        refine Tn f.sat m q ?_
        refine W0 ?_
        rw[K0 q] at e
        rw[e] at h
        exact h _ _ f
       | some c=>
        have t:=(U4 q).1
        have g:=F5 ok.acy s
        rw[q] at g
        simp only at g
        rw[g,List.find?_cons,t] at e
        refine Hf f.sat m q ?_
        refine V9 ?_
        refine Q3D f.sat m ok z H fun w6 σ6 B=>?_
        have k:=f.trans B
        cases O:H4 l b s with
        | true=>
         rw[O] at e
         simp only at e
         refine V9 ?_
         rw[e] at h
         have:=h _ _ k
         simp only[t] at this
         exact this
        | false=>
         rw[O] at e
         simp only at e
         refine W0 ?_
         refine Xr k.sat (p.lift ⟨k.le⟩) q fun lv fv mv w7 Y J f1 f2 f3 f4 X hr=>?_
         refine V1 (v:=S c.super) rfl ?_
         exact D _ _ _ (by rw[g];simp) ⟨c.super,Y,rfl,X,k.trans J,rfl,e⟩)
theorem X17 {c:Cla} {cs:List Value} (hs:X4 w σ) (ht:Tab σ v l) (hl:l.length≤100000) (hsm: ∀c∈l,P8 c) (hc:U6 σ c cs) (h: ∀w' σ',Stp w σ w' σ'→K (.bool (G6 l c)) w'):Q0 P F.b4 [v, .agg cs.toArray] w K:=Gs (by
 obtain ⟨lv,fv,mv,rfl,g1,g2,g3,g4,g5⟩:=hc
 unfold Vt
 obtain ⟨a,_,_,_,rfl,_⟩:=ht.ex
 refine J6 hs rfl fun q w1 σ1 hk1 hq=>?_
 refine Y8 hk1.sat fun q2 w2 σ2 hk2 hq2=>?_
 rw[Qf,fa]
 have hS2:=hk1.trans hk2
 have back: ∀{n:X0} {w3:World} {σ3:Q4} {K:Value→World→Prop},SLe σ2 σ3→X4 w3 σ3→n.length≤Z7→(∀w' σ',Stp w3 σ3 w' σ'→K (.bool ((R3 l n).contains c.name)) w')→
  Y9 P (.func (.func F.aR) #[] #[.pointer (some q), .pointer (some q2)]) [S n] w3 K:=by
  intro n w3 σ3 K le hs3 hn hK
  refine Y7 (Se ?_)
  unfold Ju
  refine X8 hs3 ((hq.up hk2).lift le) rfl ?_
  rw[Qf]
  have le3:SLe σ σ3:=SLe.more ⟨hS2.le⟩ le
  refine Q60 (fun d=>decide (d.name=c.name)) hs3 (ht.lift le3) hl hsm hn (fun d ds w4 σ4 K le4 hs4 hr hK=>Y7 (Eu ?_)) (by rw[Q3Q];exact hK)
  obtain ⟨lv,fv,mv,rfl,_⟩:=hr
  unfold Zq
  have hq4:=(hq2.lift le).lift le4
  refine Y8 hs4 fun a w5 σ5 hk5 ha5=>?_
  (repeat' (first | (with_reducible intro _) | (with_reducible refine V5 ?_) | (simp only[↓M2,M2,Mb,reduceIte]) | (with_reducible first | refine ld aS aL aR ?_ | refine X8 aS aL aR ?_ | refine Z1 aS aL aR ?_ | refine Q9 aL ?_ | refine V1 aR ?_ | refine Y8 aS ?_ | refine L3 aS aL ?_ | refine J6 aS aR ?_ | refine Y6 aS aR aR (Rep.one (by assumption)) ?_ | refine U2 aS aR aR aR ?_ | (refine Z4 (fun hh=>?_) (fun hh=>?_)<;>(try simp only[hh,Bool.not_true,Bool.not_false,↓M2,M2,Mb,reduceIte])) | (refine Q5 (fun hh=>?_) (fun hh=>?_)<;>(try simp only[hh,Bool.not_true,Bool.not_false,↓M2,M2,Mb,reduceIte])))))
  exact hK _ _ hk5
 refine ld hk2.sat hq2 rfl ?_
 unfold G6 at h
 simp only[J3,List.any_cons] at h
 refine back (SLe.refl _) hk2.sat g5 fun w3 σ3 hk3=>?_
 cases e1:(R3 l c.super).contains c.name with
 | true=>
  rw[e1] at h
  simp only[↓M2,M2,Mb,reduceIte]
  exact h _ _ (hS2.trans hk3)
 | false=>
  rw[e1,Bool.false_or] at h
  simp only[↓M2,M2,Mb,reduceIte]
  refine ld hk3.sat (hq2.up hk3) rfl ?_
  refine F3 (fun n=>(R3 l n).contains c.name) hk3.sat (((g1.up hk1).up hk2).up hk3) (fun x w4 K _ hs4 hx hK=>back ⟨hk3.le⟩ hs4 hx fun w' σ' hk=>hK _ hk.bel) fun w4 hb=>?_
  (try simp only[↓M2,M2,Mb,reduceIte])
  exact h _ _ ((hS2.trans hk3).trans (Stp.of_below hk3.sat hb)))
end Go.Proofs.YtfppjenblllfaaaGreatDoor

namespace Go.Emb
open Go.RowKit Go.Hm
variable {P : Program} {w w0 w1 w' w'' : World} {K : Value → World → Prop} {σ σ0 σ1 σ' : Q4}
theorem Sl.at {α:Type} {R:Q4→α→List Value→Prop} {sz:Nat} {v:Value} {xs:List α} (h:Sl sz R σ v xs) {i:Nat} (d:i<xs.length):
 ∃p cs,Z3 σ p cs∧cs.length=sz∧R σ xs[i] cs∧ ∀{P:Program} {t e:TypeId} {by_:Nat} {z:Value} {w:World} {K:Value→World→Prop} [TS P t e] [TZ P e sz by_ z],K (.pointer (some p)) w→indexAddr P t v (I i) w K:=by
 obtain ⟨a,k,rfl,o,q,f,j⟩:=h
 cases a with
 | none=>have:=f rfl;omega
 | some b=>
  obtain ⟨cs,g,m,c⟩:=(j b rfl).2 i xs[i] (by simp[d])
  refine ⟨_,cs,g,m,c,?_⟩
  intro P t e by_ z w K _ _ n
  rw[Sq (by omega) (by omega)]
  simpa using n
abbrev ints (xs:List Nat):List Int:=xs.map fun n:Nat=>(n:Int)
theorem V0.grow {α:Type} {R:Q4→α→List Value→Prop} [hr:Rep R] {B sz:Nat} {e:TypeId} {v:Value} {xs:List α} (h:V0 B e sz R σ w v xs) (f:SLe σ σ') (d: ∀k,v.ownBlock=some k→σ' k=none):V0 B e sz R σ' w v xs:=by
 obtain ⟨cells,c,g,b⟩:=h
 exact ⟨cells,c,d,fun i x a=>hr.up f.le (b i x a)⟩
end Go.Emb
namespace Go.Proofs.YtfppjenblllfaaaGreatDoor
open Go.Emb Go.RowKit Go.Kd Go.Hm
variable {w : World} {K : Value → World → Prop} {σ : Q4} {v : Value} {l : List Cla}
theorem Q5E {B i:Nat} {xs:List Nat} {x:Value} (o:U0 B T.e 1 Uk σ w x (ints xs)) (h:K (.bool (decide (i∈xs))) w):Q0 P F.ay [x,I i] w K:=Oa (by
 unfold Ql
 have k:xs.length≤9223372036854775807:=by
  obtain ⟨a,t,_,m,q,_⟩:=o
  simp only[maxLen,ints,List.length_map] at q m;omega
 refine Du ?_
 unfold Zp
 refine Hw o ?_
 have j:(ints xs).length=xs.length:=by simp
 refine J5 xs.length (fun n w'=>w'=w∧i∉xs.take n) ⟨rfl,by simp⟩ fun n w' d u f=>?_
 obtain ⟨rfl,f⟩:=f
 rw[j]
 refine Z0 ?_
 refine Q5 (fun hh=>?_) (fun hh=>?_)
 ·have b:n<xs.length:=by simpa using hh
  refine Q4c o (by rw[j];exact b) fun a cs m q s=>?_
  obtain ⟨rfl,_⟩:=s
  have p:=m 0 _ rfl
  rw[add_zero] at p
  refine Qg p ?_
  simp only[List.getElem_map]
  refine Oy ?_
  refine Q5 (fun c=>?_) (fun c=>?_)
  ·have e:(i:Int)=xs[n]:=by simpa using c
   have:i=xs[n]:=by omega
   have g:decide (i∈xs)=true:=decide_eq_true (by rw[this];exact List.getElem_mem b)
   rw[g] at h
   refine Jb ?_
   rw[decide_eq_true (by omega:(0:Int)≤n)]
   exact h
  ·have e: ¬(i:Int)=xs[n]:=by simpa using c
   refine D7 ?_
   refine Y3 k b ⟨rfl,?_⟩
   rw[List.take_add_one,List.getElem?_eq_getElem b]
   simp only[Option.toList_some,List.mem_append,List.mem_singleton,not_or]
   exact ⟨f,fun r=>e (by rw[r])⟩
 ·have b: ¬n<xs.length:=by simpa using hh
  rw[List.take_of_length_le (by omega)] at f
  rw[decide_eq_false f] at h
  refine Jb ?_
  exact h)
theorem X1F {w0:World} {σ0 σb:Q4} {pf pt pw:Addr} {C frm:Nat} (ha:Yg l) (ho:G1 l) (hl:l.length≤100000) (bz: ∀c∈l,P8 c) (hf:0<frm) (ht:Tab σb v l) (av:Z3 σb pf [I frm]) (bi:Z3 σb pt [v])
 (bu:Z3 σb pw [.func (.func F.u) #[] #[.pointer (some pf), .pointer (some ⟨C,0,none⟩), .pointer (some pt), .pointer (some pw)]]) (b9:w0.heap.size≤C):
 ∀(k:Nat) {i:Nat} {b:List Nat} {x:Value} {w1:World} {σ1:Q4} {K:Value→World→Prop},i<l.length→(i<frm∨F6 l (Y1 l i)<k)→SLe σb σ1→Stp w0 σ0 w1 σ1→Z5 σ1 w1 C [x]→V0 w0.heap.size T.e 1 Uk σ1 w1 x (ints b)→x.ownBlock≠some C→Pe l b→
  (∀w2 σ2 x',SLe σ1 σ2→Stp w0 σ0 w2 σ2→Z5 σ2 w2 C [x']→V0 w0.heap.size T.e 1 Uk σ2 w2 x' (ints (Qa l frm b i))→x'.ownBlock≠some C→K (.tuple #[]) w2)→
  Y9 P (.func (.func F.u) #[] #[.pointer (some pf), .pointer (some ⟨C,0,none⟩), .pointer (some pt), .pointer (some pw)]) [I i] w1 K:=by
 obtain ⟨a,lv,r,m,rfl,t1,t2,t3,t4⟩:=ht.ex
 intro k
 induction k with
 | zero=>
  intro i b x w1 σ1 K hi hk Y U hm s hx ab h
  have A:i<frm:=hk.resolve_right (by omega)
  refine Y7 (Ud ?_)
  unfold P5
  refine X8 U.sat (av.lift Y) rfl ?_
  refine Z0 ?_
  rw[decide_eq_true (by omega:(i:Int)<frm)]
  simp only[↓M2,M2,Mb,reduceIte]
  have:Qa l frm b i=b:=Qs _ _ A
  rw[this] at h
  exact h _ _ _ (SLe.refl _) U hm s hx
 | succ k ih=>
  intro i b x w1 σ1 K hi hk Y U hm s hx ab h
  refine Y7 (Ud ?_)
  unfold P5
  refine X8 U.sat (av.lift Y) rfl ?_
  refine Z0 ?_
  have z:=Q64 ha ho hf b hi
  by_cases A:i<frm
  ·rw[decide_eq_true (by omega:(i:Int)<frm)]
   simp only[↓M2,M2,Mb,reduceIte]
   rw[if_pos A] at z
   rw[z] at h
   exact h _ _ _ (SLe.refl _) U hm s hx
  rw[if_neg A] at z
  rw[decide_eq_false (by omega: ¬(i:Int)<frm)]
  simp only[↓M2,M2,Mb,reduceIte]
  refine Q8T hm rfl ?_
  refine Q5E (U0.of_acc s) ?_
  by_cases Q:i∈b
  ·rw[if_pos Q] at z
   rw[z] at h
   simp only[decide_eq_true Q,↓M2,M2,Mb,reduceIte]
   exact h _ _ _ (SLe.refl _) U hm s hx
  rw[if_neg Q] at z
  simp only[decide_eq_false Q,↓M2,M2,Mb,reduceIte]
  have dg:F6 l (Y1 l i)<k+1:=hk.resolve_left A
  have t1:=t1.lift Y
  have t2:=t2.lift Y
  have t3:=t3.lift Y
  have L:=bi.lift Y
  obtain ⟨p,cs,bb,cp,bs,bc⟩:=t2.at hi
  obtain ⟨b3,fv,mv,rfl,f1,f2,f3,f4,f5⟩:=bs
  have a3:l.getD i Cla.zero=l[i]:=by rw[List.getD_eq_getElem?_getD,List.getElem?_eq_getElem hi];rfl
  have c9:=hm.lt
  refine U9 U.sat ?_
  refine X2 (.pointer (some a)) (fun w f=>X8 f.sat L rfl (X6 rfl)) ?_
  refine X2 (.pointer (some a)) (fun t w f e=>by rw[e,E7];exact X6 rfl) ?_
  refine X2 (.pointer (some (a.add 0))) (fun t w f e=>by rw[e,fa];exact X6 rfl) ?_
  refine X2 lv (fun t w f e=>by rw[e];exact ld f.sat t1 rfl (X6 rfl)) ?_
  refine X2 (.pointer (some p)) (fun t w f e=>by rw[e];exact bc (X6 rfl)) ?_
  refine X2 (.pointer (some (p.add 1))) (fun t w f e=>by rw[e,fa];exact X6 rfl) ?_
  refine X2 (S l[i].super) (fun t w f e=>by rw[e];exact ld f.sat bb rfl (X6 rfl)) ?_
  refine W5 (fun u w=>X4 w σ1∧V0 w0.heap.size T.c 1 X9 σ1 w u [l[i].super]∧ ∀k,u.ownBlock=some k→w1.heap.size≤k) (fun u w2 w3 h f=>⟨h.1.below f,h.2.1.up (Stp.of_below h.1 f),h.2.2⟩) (fun t w f e=>?_) ?_
  ·rw[e]
   refine I6 (R:=X9) (sz:=1) (xs:=[l[i].super]) (U.trans f.stp) [S l[i].super] rfl rfl (by simp;rfl) rfl ⟨⟨rfl,f5⟩,trivial⟩ fun u w2 ar hu bp=>?_
   exact ⟨ar.bel,ar.sat,hu,fun k hk=>Nat.le_trans f.stp.bel.size (bp k hk)⟩
  refine X2 (.pointer (some a)) (fun w f=>X8 f.sat L rfl (X6 rfl)) ?_
  refine X2 (.pointer (some a)) (fun t w f e=>by rw[e,E7];exact X6 rfl) ?_
  refine X2 (.pointer (some (a.add 0))) (fun t w f e=>by rw[e,fa];exact X6 rfl) ?_
  refine X2 lv (fun t w f e=>by rw[e];exact ld f.sat t1 rfl (X6 rfl)) ?_
  refine X2 (.pointer (some p)) (fun t w f e=>by rw[e];exact bc (X6 rfl)) ?_
  refine X2 (.pointer (some (p.add 2))) (fun t w f e=>by rw[e,fa];exact X6 rfl) ?_
  refine X2 b3 (fun t w f e=>by rw[e];exact ld f.sat bb rfl (X6 rfl)) ?_
  rintro cm dm cz di ct c6 dn dj cr cu c0 cn c4 c7 cl w2 O _ _ _ _ _ _ _ ⟨c2,bm,H⟩ _ _ _ _ _ _ bh
  subst bh
  have cb:=U.trans O.stp
  have bk:=(bz _ (List.getElem_mem hi)).1
  have ba: ∀j,x.ownBlock=some j→j<w1.heap.size:=fun j E=>(s.mem j E).2.1
  have ca:=hm.step O.stp
  have ag:=s.step O.stp
  refine Dl cb bm f1 rfl (by simp only[List.length_cons,List.length_nil];omega) (by simp only[List.length_cons,List.length_nil];omega) fun az w3 a0 cc bg a2=>?_
  have aa: ∀j,az.ownBlock=some j→w1.heap.size≤j:=fun j E=>by
   rcases a2 with e | e
   ·exact H j (e▸E)
   ·exact Nat.le_trans O.stp.bel.size (e j E)
  have a9:=ca.nx a0 fun e=>by have:=H _ e;omega
  have M:=ag.nx a0 fun j E e=>by have:=H _ e;have:=ba j E;omega
  obtain ⟨σ4,bl,X,aw,Z⟩:=bg.keep cc
  have X:Sl 1 X9 σ4 az (J3 l[i]):=X
  have b2:Z5 σ4 w3 C [x]:=⟨(Z C fun e=>by have:=aa C e.symm;omega).trans a9.1,a9.2⟩
  have am:V0 w0.heap.size T.e 1 Uk σ4 w3 x (ints b):=M.grow ⟨aw⟩ fun j E=>(Z j fun e=>by have:=aa j e.symm;have:=ba j E;omega).trans (M.mem j E).2.2
  have a8:SLe σ1 σ4:=⟨aw⟩
  refine Q9 X ?_
  refine J5 (J3 l[i]).length (fun n w'=> ∃σ' x',SLe σ4 σ'∧Stp w0 σ0 w' σ'∧Z5 σ' w' C [x']∧V0 w0.heap.size T.e 1 Uk σ' w' x' (ints (((J3 l[i]).take n).foldl (fun b u=>Qa l frm b ((Y4 l u).getD 0)) b))∧x'.ownBlock≠some C∧Pe l (((J3 l[i]).take n).foldl (fun b u=>Qa l frm b ((Y4 l u).getD 0)) b))
   ⟨σ4,x,SLe.refl _,bl,b2,am,hx,ab⟩ fun n w5 d hn ax=>?_
  obtain ⟨σ5,x5,ai,V,W,B,al,o⟩:=ax
  refine Z0 ?_
  have y:=a8.more ai
  refine Q5 (fun hh=>?_) (fun hh=>?_)
  ·have J:n<(J3 l[i]).length:=by simpa using hh
   refine Wl (X.lift ai) J fun q hq da=>?_
   refine X8 V.sat hq rfl ?_
   have e1:((J3 l[i]).take (n+1)).foldl (fun b u=>Qa l frm b ((Y4 l u).getD 0)) b=Qa l frm (((J3 l[i]).take n).foldl (fun b u=>Qa l frm b ((Y4 l u).getD 0)) b) ((Y4 l (J3 l[i])[n]).getD 0):=by
    rw[List.take_add_one,List.getElem?_eq_getElem J,List.foldl_append];rfl
   refine U9 V.sat ?_
   refine X2 _ (fun w f=>X8 f.sat (bu.lift (Y.more y)) rfl (X6 rfl)) ?_
   refine X2 (.pointer (some a)) (fun w f=>X8 f.sat (L.lift y) rfl (X6 rfl)) ?_
   refine X2 (.pointer (some a)) (fun t w f e=>by rw[e,E7];exact X6 rfl) ?_
   refine X2 (.pointer (some (a.add 1))) (fun t w f e=>by rw[e,fa];exact X6 rfl) ?_
   refine X2 (.map (some r)) (fun t w f e=>by rw[e];exact ld f.sat (t1.lift y) rfl (X6 rfl)) ?_
   refine X2 (I ((Y4 l (J3 l[i])[n]).getD 0:Nat)) (fun t w f e=>by
    rw[e,Q37 X7 ((t3.lift y).is f.sat) _,t4]
    cases Y4 l (J3 l[i])[n]<;>exact X6 rfl) ?_
   rintro cj co cw ci df db w6 ad rfl _ _ _ _ rfl
   have cy:l.length≤9223372036854775807:=by omega
   refine ih ?_ ?_ (Y.more y) (V.trans ad.stp) (W.step ad.stp) (B.step ad.stp) al o fun w7 σ7 x7 b7 br b5 ah bq=>?_
   ·cases E:Y4 l (J3 l[i])[n] with
    | none=>simp only[Option.getD_none];omega
    | some j=>exact (R6 E).1
   ·cases E:Y4 l (J3 l[i])[n] with
    | none=>exact .inl hf
    | some j=>
     right
     have:=Q0b ha ho hi (u:=(J3 l[i])[n]) (by rw[a3];exact List.getElem_mem J) E
     simp only[Option.getD_some];omega
   ·refine D7 ?_
    refine Y3 (by have:(J3 l[i]).length=l[i].like.length+1:=rfl;omega) J ⟨σ7,x7,ai.more b7,br,b5,?_,bq,?_⟩
    ·rw[e1];exact ah
    ·rw[e1]
     cases E:Y4 l (J3 l[i])[n] with
     | none=>simp only[Option.getD_none];rw[show Qa l frm _ 0=_ from Qs _ _ hf];exact o
     | some j=>exact Ff ha ho hf _ _ _ (R6 E).1 o
  ·have J: ¬n<(J3 l[i]).length:=by simpa using hh
   rw[List.take_of_length_le (by omega)] at B o
   rw[a3] at z
   refine Q8T W rfl ?_
   have ck:=o.len
   refine Uc (x:=(i:Int)) V B ⟨rfl,by omega,by omega⟩ rfl rfl rfl (by rw[List.length_map];omega) (by rw[List.length_map];omega) fun u x8 w8 σ8 aq bv N bd=>?_
   have a1:=W.nx aq al
   have a5:x8.ownBlock≠some C:=fun e=>by
    rcases bd with e2 | e2
    ·exact al (e2▸e)
    ·have:=e2 C e;have:=W.lt;omega
   have a7:x8.cells= #[x8]∧x8.oneCell'=true:=by
    obtain ⟨cells,h1,_⟩:=N
    rcases h1.2 with ⟨rfl,_⟩ | ⟨g,c8,dl,rfl,_⟩<;>exact ⟨rfl,rfl⟩
   refine st0 a1 (by simp) a7.1 a7.2 fun w9 a6 cd=>?_
   have bj:=a6.stp bv b9 a1.1
   have ae:V0 w0.heap.size T.e 1 Uk σ8 w9 x8 (ints (Qa l frm b i)):=by
    rw[z]
    have:=N.kp (Kpt.of_upd (D:=fun k=>k=C) a6 rfl) fun k hk e=>a5 (e▸hk)
    simpa [ints] using this
   exact h w9 σ8 x8 (y.more aq.le) bj cd ae a5
theorem X10 {frm:Nat} (hs:X4 w σ) (ht:Tab σ v l) (ha:Yg l) (ho:G1 l) (hl:l.length≤100000) (ac: ∀c∈l,P8 c) (hf:0<frm) (ag:frm≤l.length) (h: ∀v' w' σ',Stp w σ w' σ'→Sl 1 Uk σ' v' (ints (V3 l frm))→(V3 l frm).length≤l.length→(∀y∈V3 l frm,y<l.length)→K v' w'):Q0 P F.b5 [v,I frm] w K:=Gq (by
 unfold Wr
 have an:=ht
 obtain ⟨a,lv,r,m,rfl,t1,t2,t3,t4⟩:=ht.ex
 refine J6 hs rfl fun pt w1 σ1 t aa=>?_
 refine J6 t.sat rfl fun pf w2 σ2 j X=>?_
 refine B5 j.sat fun C w3 σ3 ar o O=>?_
 refine B5 o.sat fun bw w4 σ4 ad s L=>?_
 rw[Qf]
 have W:=O.step s
 have az:=O.lt
 have J:=((t.trans j).trans o).trans s
 have U:w.heap.size≤C:=Yt ar (t.trans j)
 have A:w.heap.size≤bw:=Yt ad ((t.trans j).trans o)
 refine st0 L (by simp[Value.cells]) rfl rfl fun w5 R ai=>?_
 have ah:=R.stp J A L.1
 have B:=W.upd R (by omega)
 obtain ⟨H,Q,V,n,M⟩:=ai.keep ah A
 have ab:Z5 H w5 C [.slice none 0 0]:=⟨(M C (by omega)).trans B.1,B.2⟩
 have n:SLe σ4 H:=⟨n⟩
 have u:=((X.up o).up s).lift n
 have z:=(((aa.up j).up o).up s).lift n
 have f:SLe σ H:=SLe.more ⟨J.le⟩ n
 have t1:=t1.lift f
 have t2:=t2.lift f
 refine X8 Q.sat u rfl ?_
 have ba:(List.range l.length).length=l.length:=List.length_range
 have hz:([Value.nilFunc].set 0 (Value.func (Fn.func F.u) #[] #[.pointer (some pf), .pointer (some ⟨C,0,none⟩), .pointer (some pt), .pointer (some ⟨bw,0,none⟩)]))=[Value.func (Fn.func F.u) #[] #[.pointer (some pf), .pointer (some ⟨C,0,none⟩), .pointer (some pt), .pointer (some ⟨bw,0,none⟩)]]:=rfl
 refine Fb (fun d x w'=> ∃(i:Nat) (σ':Q4) (x':Value),x=I i∧frm≤i∧i≤l.length∧d=l.length-i∧SLe H σ'∧Stp w σ w' σ'∧Z5 σ' w' C [x']∧V0 w.heap.size T.e 1 Uk σ' w' x' (ints (((List.range i).drop frm).foldl (fun e i=>Qa l frm e i) []))∧x'.ownBlock≠some C∧Pe l (((List.range i).drop frm).foldl (fun e i=>Qa l frm e i) [])) _
  ⟨frm,H, .slice none 0 0,rfl,Nat.le_refl _,ag,rfl,SLe.refl _,Q,ab,by rw[List.drop_eq_nil_of_le (by simp)];exact V0.nil,by simp[Value.ownBlock],by rw[List.drop_eq_nil_of_le (by simp)];exact ⟨by simp,by simp⟩⟩ ?_
 rintro Z d x dd w7 ⟨i,σ7,x7,rfl,a8,bb,rfl,g,p,N,k,ao,b⟩ ap
 refine X8 p.sat (z.lift g) rfl ?_
 rw[E7,fa]
 refine ld p.sat (t1.lift g) rfl ?_
 refine Q9 (t2.lift g) ?_
 refine Z0 ?_
 refine Q5 (fun hh=>?_) (fun hh=>?_)
 ·have q:i<l.length:=by simpa using hh
  refine X8 p.sat (V.lift g) rfl ?_
  refine X1F (w0:=w) (σ0:=σ) (σb:=H) ha ho hl ac hf (an.lift f) u z V U (F6 l (Y1 l i)+1) q (.inr (Nat.lt_succ_self _)) g p N k ao b fun w8 σ8 x8 aj E Y D ae=>?_
  refine Ce ⟨by omega,by omega⟩ ?_
  have e1:((List.range (i+1)).drop frm).foldl (fun e i=>Qa l frm e i) []=Qa l frm (((List.range i).drop frm).foldl (fun e i=>Qa l frm e i) []) i:=by
   rw[List.range_succ,List.drop_append_of_le_length (by simp;omega),List.foldl_append];rfl
  refine ap _ _ _ (by omega:l.length-(i+1)<l.length-i) ⟨i+1,σ8,x8,by simp,by omega,by omega,rfl,g.more aj,E,Y,?_,ae,?_⟩
  ·rw[e1];exact D
  ·rw[e1];exact Ff ha ho hf _ _ _ q b
 ·have q:i=l.length:=by
   have: ¬i<l.length:=by simpa using hh
   omega
  subst q
  refine Q8T N rfl ?_
  obtain ⟨σ8,E,am,_,_⟩:=k.keep p
  exact h _ _ _ E am b.len b.2)
end Go.Proofs.YtfppjenblllfaaaGreatDoor

namespace Go.Hm
open Go.Kd
theorem Q5l (x:X0) (r:List X0):N5 (x::r)=x++Lib.joinTail [44] r:=by
 induction r generalizing x with
 | nil=>simp[N5,Lib.joinTail]
 | cons y r a=>
  simp only[N5]
  rw[a y]
  simp[Lib.joinTail]
theorem Q0J (xs:List X0):Lib.join xs [44]=N5 xs:=by
 cases xs with
 | nil=>rfl
 | cons x r=>rw[Lib.join_cons,Q5l]
theorem Dg: ∀xs:List X0,(∀x∈xs,x.length≤100)→(N5 xs).length≤xs.length*101
 | [],_=>by simp[N5]
 | [a],h=>by have:=h a (by simp);simp[N5];omega
 | a::b::r,h=>by
  have e:=h a (by simp)
  have d:=Dg (b::r) fun x c=>h x (by simp[c])
  simp only[N5,List.length_append,List.length_cons,List.length_nil,Nat.add_mul] at*
  omega
def NmM (m:Hm.Met):Prop:=m.result.length≤100∧ ∀p∈m.params,p.length≤100
end Go.Hm
namespace Go.Proofs.YtfppjenblllfaaaGreatDoor
open Go.Emb Go.RowKit Go.Kd Go.Hm
variable {w : World} {K : Value → World → Prop} {σ : Q4} {v : Value} {l : List Cla}
theorem X0v {xs:List X0} {pv:Value} (B:X4 w σ) (N:Sl 1 X9 σ pv xs) (L:xs.length≤1000000) (D: ∀x∈xs,x.length≤100) (h: ∀w',Below w.heap.size w w'→K (S (N5 xs)) w'):Q0 P F.cJ [pv,S [44]] w K:=by
 obtain ⟨a,k,rfl,E,O,C,J⟩:=N
 have t:=Dg xs D
 have z:xs.length*101≤1000000*101:=Nat.mul_le_mul_right _ L
 cases a with
 | none=>
  have R:=C rfl
  have d:xs=[]:=List.eq_nil_of_length_eq_zero (by omega)
  subst d
  refine Un (fn:=Tryz.f165) Tryz.func165 (by kernel_rfl) (by kernel_rfl) (Calls.mono (Tryz.strings_Join_none none k ⟨[44].toArray⟩ w) ?_)
  rintro e w' ⟨rfl,rfl⟩
  exact h _ (Below.refl _ _)
 | some b=>
  obtain ⟨f,q⟩:=J b rfl
  by_cases d:xs=[]
  ·subst d
   refine Un (fn:=Tryz.f165) Tryz.func165 (by kernel_rfl) (by kernel_rfl) (Calls.mono (Tryz.strings_Join_none (some b) k ⟨[44].toArray⟩ w) ?_)
   rintro e w' ⟨rfl,rfl⟩
   exact h _ (Below.refl _ _)
  have f:=f (List.length_pos_iff.2 d)
  obtain ⟨n,o,U⟩:=b
  simp only at f
  subst f
  have c: ∀(j:Nat) (x:ByteArray),(xs.map fun s=>(⟨s.toArray⟩:ByteArray))[j]? =some x→w.cell? ⟨n,o+j,none⟩=some (.string x):=by
   intro j x m
   rw[List.getElem?_map] at m
   cases g:xs[j]? with
   | none=>rw[g] at m;cases m
   | some s=>
    rw[g] at m
    cases m
    obtain ⟨cs,H,Q,A⟩:=q j s g
    obtain ⟨rfl,_⟩:=A
    have:=H.cell B (i:=0) (v:=S s) rfl
    rw[add_zero] at this
    have e:(⟨n,o,none⟩:Addr).add (j*1)=⟨n,o+j,none⟩:=by unfold Addr.add;split<;>simp_all
    rw[e] at this;exact this
  have p:n<w.heap.size:=by
   obtain ⟨x,r,rfl⟩: ∃x r,xs=x::r:=by cases xs with | nil=>exact absurd rfl d | cons x r=>exact ⟨x,r,rfl⟩
   have:=c 0 ⟨x.toArray⟩ (by simp)
   exact World.block_lt_of_cell? _ _ this
  have y:(xs.map fun s=>(⟨s.toArray⟩:ByteArray)).map (·.data.toList)=xs:=by rw[List.map_map];simp[Function.comp_def]
  have u:=Tryz.strings_Join n o k (xs.map fun s=>(⟨s.toArray⟩:ByteArray)) ⟨[44].toArray⟩ w c p (by rw[List.length_map];omega) (by rw[List.length_map];exact E) (by rw[y];show (Lib.join xs [44]).length≤_;rw[Q0J];omega)
  rw[y,List.length_map] at u
  refine Un (fn:=Tryz.f165) Tryz.func165 (by kernel_rfl) (by kernel_rfl) (Calls.mono u ?_)
  rintro e w' ⟨rfl,M⟩
  have:=h w' M
  rw[←Q0J] at this
  exact this
theorem Q7M {m:Hm.Met} {cs:List Value} (n:X4 w σ) (p:L2 σ m cs) (d:SmM m) (i:NmM m) (h: ∀w' r,Stp w σ w' r→K (S (P2 m)) w'):Q0 P F.bP [.agg cs.toArray] w K:=Q4i (by
 obtain ⟨pv,s,N,rfl,q,J,u,M,L,A⟩:=p
 unfold Tq
 refine Y8 n fun a w1 σ1 c j=>?_
 have o:=Dg m.params i.2
 have k:m.params.length*101≤1000000*101:=Nat.mul_le_mul_right _ d.1
 refine U9 c.sat ?_
 refine X2 (.pointer (some (a.add 1))) (fun w b=>by rw[fa];exact X6 rfl) ?_
 refine X2 (.pointer (some (a.add 2))) (fun w b=>by rw[fa];exact X6 rfl) ?_
 refine X2 pv (fun t w b e=>by rw[e];exact ld b.sat j rfl (X6 rfl)) ?_
 refine X2 (S (N5 m.params)) (fun t w b e=>by rw[e];exact X0v b.sat (q.up c) d.1 i.2 fun w' f=>Q1r f rfl) ?_
 refine X2 (S ([40]++N5 m.params)) (fun t w b e=>by rw[e];exact Rb (by simp only[List.length_cons,List.length_nil];omega) (X6 rfl)) ?_
 refine X2 (S ([40]++N5 m.params++[41])) (fun t w b e=>by rw[e];exact Rb (by simp only[List.length_append,List.length_cons,List.length_nil];omega) (X6 rfl)) ?_
 refine X2 (S m.result) (fun t w b e=>by rw[e];exact ld b.sat j rfl (X6 rfl)) ?_
 rintro E D H O z C y B g _ _ _ _ _ rfl rfl
 have:=i.1
 refine Rb (by simp only[List.length_append,List.length_cons,List.length_nil];omega) ?_
 exact h _ _ (c.trans g.stp))
end Go.Proofs.YtfppjenblllfaaaGreatDoor

namespace Go.Emb
open Go.RowKit Go.Hm
variable {P : Program} {w w0 w1 w' w'' : World} {K : Value → World → Prop} {σ σ0 σ1 σ' : Q4}
theorem Fp {α:Type} (f:α→α) (e:α): ∀l:List α,(l++[e]).modify l.length f=l++[f e]
 | []=>rfl
 | x::r=>by simp[Fp f e r]
theorem Kz (k:List UInt8) (e:MapEntry) (a:e.key=S k): ∀(es:List MapEntry) (i:Nat),Instr.findNow .string (S k) es i=some none→Instr.findNow .string (S k) (es++[e]) i=some (some (i+es.length,e.val))
 | [],i,_=>by
  simp[Instr.findNow,a,Instr.sameNow,Rj]
 | x::r,i,h=>by
  simp only[Instr.findNow,List.cons_append] at h⊢
  split at h
  ·cases h
  ·rename_i b
   rw[Kz k e a r (i+1) h]
   simp;omega
  ·cases h
theorem Q0O (k:List UInt8) (u:Value): ∀(es:List MapEntry) (i j:Nat) (v:Value),Instr.findNow .string (S k) es i=some (some (j,v))→i≤j∧j-i<es.length∧Instr.findNow .string (S k) (es.modify (j-i) fun e=>{e with val:=u}) i=some (some (j,u))
 | [],i,j,v,h=>by simp[Instr.findNow] at h
 | x::r,i,j,v,h=>by
  simp only[Instr.findNow] at h
  split at h
  ·rename_i a
   cases h
   refine ⟨Nat.le_refl _,by simp,?_⟩
   simp only[Nat.sub_self,List.modify_zero_cons,Instr.findNow,a]
  ·rename_i a
   obtain ⟨d,c,b⟩:=Q0O k u r (i+1) j v h
   refine ⟨by omega,by simp;omega,?_⟩
   rw[show j-i=(j-(i+1))+1 by omega]
   simp only[List.modify_succ_cons,Instr.findNow,a]
   exact b
  ·cases h
theorem Jo {t n p:TypeId} [tm:TM P t n p] (l:P.underlying n=some .string) {r:Nat} {es:Array MapEntry} {a:Nat} {k:List UInt8} {i:Nat} {v:Value} {e:MapEntry} (m:w.heap[r]? =some (.map es a))
 (q:Instr.findNow .string (S k) es.toList 0=some (some (i,v))) (o:es[i]? =some e) (d:e.key=S k):
 (Instr.mapEntry t (.map (some r)) (S k)).run P w= .ok (.tuple #[v,goInt e.born]) {w with heap:=w.heap.setIfInBounds r (.map es a)}:=by
 have s:(getObj r).run P w= .ok (.map es a) w:=by simp[getObj,Sem.run,m]
 have b:(Instr.keyThatStays (S k) (S k)).run P w= .ok (S k) w:=by
  simp[Instr.keyThatStays,Instr.sameBits,Rj]
 have f:(es.modify i fun e=>{e with key:=S k})=es:=by
  apply Array.ext'
  apply List.ext_getElem?
  intro j
  simp only[Array.toList_modify,List.getElem?_modify]
  by_cases g:i=j
  ·subst g
   rw[Array.getElem?_toList,o]
   simp[←d]
  ·cases es.toList[j]? <;>simp[g]
 have c:(setObj r (.map es a)).run P w= .ok () {w with heap:=w.heap.setIfInBounds r (.map es a)}:=by
  simp[setObj,Sem.run,m]
 simp only[Instr.mapEntry,Sem.run_bind,run_underlying tm.h,Result.andThen_ok,Instr.findKey,run_underlying l,q,C8 l,s,Sem.run_pure]
 simp only[o,Option.map_some,Option.getD_some,d,b,Result.andThen_ok,f,c]
theorem Q0V {r:Nat} {o:Obj} (h:w.heap[r]? =some o):({w with heap:=w.heap.setIfInBounds r o}:World)=w:=by
 have:w.heap.setIfInBounds r o=w.heap:=by
  apply Array.ext'
  apply List.ext_getElem?
  intro j
  simp only[Array.toList_setIfInBounds,List.getElem?_set]
  by_cases a:r=j
  ·subst a
   rw[if_pos rfl]
   have:=h
   rw[←Array.getElem?_toList] at this
   rw[this,if_pos (by have:=(Array.getElem?_eq_some_iff.1 h).1;simpa using this)]
  ·rw[if_neg a]
 rw[this]
theorem Q25 {r:Nat} {o a:Obj} (h:w.heap[r]? =some a):Upd w r {w with heap:=w.heap.setIfInBounds r o}∧({w with heap:=w.heap.setIfInBounds r o}:World).heap[r]? =some o:=by
 have b:=(Array.getElem?_eq_some_iff.1 h).1
 exact ⟨⟨rfl,rfl,rfl,by simp,fun k c=>by simp only[Array.getElem?_setIfInBounds];rw[if_neg (by omega)]⟩,by simp[Array.getElem?_setIfInBounds,b]⟩
structure Ent3 (P : Program) (t : TypeId) (r : Nat) (k : List UInt8) (u : Value) (m : List (List UInt8 × Value)) (O0 O1 O2 : Obj) (stamp : Nat) : Prop where
  same : O0 = O2 → O1 = O0
  put : N0 (some O2) (Qw m k u)
  entry : ∀ {w : World} {K : Value → World → Prop}, (w.heap[r]? = some O0 ∨ w.heap[r]? = some O1 ∨ w.heap[r]? = some O2) → (∀ x w', Upd w r w' → (w.heap[r]? = some O0 → w'.heap[r]? = some O1) → (w.heap[r]? ≠ some O0 → w'.heap[r]? = w.heap[r]?) → K (.tuple #[x, I stamp]) w') → mapEntry P t (.map (some r)) (S k) w K
  store : ∀ {w : World} {K : Value → World → Prop}, (w.heap[r]? = some O1 ∨ w.heap[r]? = some O2) → (∀ w', Upd w r w' → w'.heap[r]? = some O2 → K undef w') → entryStore P t (.map (some r)) (I stamp) u w K
theorem X2F {t kt et:TypeId} {by_:Nat} {z:Value} [tm:TM P t kt et] [tz:TZ P et 1 by_ z] (U:P.underlying kt=some .string) {r:Nat} {m:List (List UInt8×Value)} (hm:N0 (w.heap[r]?) m) (k:List UInt8) (u:Value):
 ∃O O1 O2 s,w.heap[r]? =some O∧Ent3 P t r k u m O O1 O2 s:=by
 obtain ⟨es,g,h1,h2,h3,Z⟩:=hm
 obtain ⟨r',X,q2,q3,q4⟩:=Rh k es.toList m 0 h2
 -- the array behind it, the place, the stamp
 have Q: ∀(f:Array MapEntry) (d i:Nat) (q:MapEntry) (v1:Value),Instr.findNow .string (S k) f.toList 0=some (some (i,v1))→f[i]? =some q→q.key=S k→(f.toList.map (·.born)).Pairwise (· < ·)→
  (Obj.map es g= .map (f.modify i fun e=>{e with val:=u}) d→Obj.map f d=Obj.map es g)→N0 (some (.map (f.modify i fun e=>{e with val:=u}) d)) (Qw m k u)→
  (∀{w:World},w.heap[r]? =some (.map es g)→ ∃x,(Instr.mapEntry t (.map (some r)) (S k)).run P w= .ok (.tuple #[x,I q.born]) {w with heap:=w.heap.setIfInBounds r (.map f d)})→
  ∃O O1 O2 s,w.heap[r]? =some O∧Ent3 P t r k u m O O1 O2 s:=by
  intro f d i q v1 f1 f2 f3 f4 f5 f6 f7
  obtain ⟨_,H,f8⟩:=Q0O k u f.toList 0 i v1 f1
  simp only[Nat.sub_zero] at H f8
  have aw:i<f.size:=by simpa using H
  have f9:(f.modify i fun e=>{e with val:=u})[i]? =some {q with val:=u}:=by
   rw[Array.getElem?_modify,if_pos rfl,f2];rfl
  have aq:Instr.findNow .string (S k) (f.modify i fun e=>{e with val:=u}).toList 0=some (some (i,u)):=by
   rw[Array.toList_modify];exact f8
  have L: ∀(l:Array MapEntry),l.toList.map (·.born)=f.toList.map (·.born)→l.findIdx? (fun e=>(e.born:Int)==q.born)=some i:=by
   intro l C
   obtain ⟨le⟩:=l
   have e0:(Array.mk le).findIdx? (fun e=>(e.born:Int)==q.born)=le.findIdx? (fun e=>(e.born:Int)==q.born):=List.findIdx?_toArray ..
   rw[e0,List.findIdx?_eq_some_iff_getElem]
   generalize V:(Array.mk le)=l at*
   have ak:le=l.toList:=by rw[←V]
   subst ak
   have ay:l.toList.length=f.toList.length:=by have:=congrArg List.length C;simpa using this
   have R: ∀j (Y:j<l.toList.length),(l.toList[j]).born=(f.toList[j]'(by omega)).born:=fun j Y=>by
    have h5:(l.toList.map (·.born))[j]? =(f.toList.map (·.born))[j]? :=by rw[C]
    rw[List.getElem?_map,List.getElem?_map,List.getElem?_eq_getElem Y,List.getElem?_eq_getElem (by omega)] at h5
    simpa using h5
   have N:f.toList[i]=q:=by
    have:=f2
    rw[←Array.getElem?_toList,List.getElem?_eq_getElem H] at this
    simpa using this
   refine ⟨by omega,by rw[R i (by omega),N];simp,fun j Y=>?_⟩
   have ai:j<f.toList.length:=by omega
   have:=(List.pairwise_iff_getElem.1 f4) j i (by simpa using ai) (by simpa using H) Y
   simp only[List.getElem_map] at this
   rw[R j (by omega)]
   rw[N] at this
   simp only[beq_iff_eq];omega
  have E:(f.modify i fun e=>{e with val:=u}).toList.map (·.born)=f.toList.map (·.born):=by
   apply List.ext_getElem?
   intro j
   simp only[Array.toList_modify,List.getElem?_map,List.getElem?_modify]
   by_cases J:i=j<;>cases f.toList[j]? <;>simp[J]
  have al:(f.modify i fun e=>{e with val:=u}).modify i (fun e=>{e with val:=u})=f.modify i fun e=>{e with val:=u}:=by
   apply Array.ext'
   apply List.ext_getElem?
   intro j
   simp only[Array.toList_modify,List.getElem?_modify]
   by_cases J:i=j<;>cases f.toList[j]? <;>simp[J]
  have A: ∀(l:Array MapEntry) {w:World},l.toList.map (·.born)=f.toList.map (·.born)→w.heap[r]? =some (.map l d)→(Instr.entryStore t (.map (some r)) (I q.born) u).run P w= .ok () {w with heap:=w.heap.setIfInBounds r (.map (l.modify i fun e=>{e with val:=u}) d)}:=by
   intro l w C hw
   have hg:(getObj r).run P w= .ok (.map l d) w:=by simp[getObj,Sem.run,hw]
   have D: ∀o,(setObj r (.map o d)).run P w= .ok () {w with heap:=w.heap.setIfInBounds r (.map o d)}:=by
    intro o;simp[setObj,Sem.run,hw]
   simp only[Instr.entryStore,Sem.run_bind,hg,Result.andThen_ok,asInt,Sem.run_pure,asIntOf,L l C,D]
  refine ⟨.map es g, .map f d, .map (f.modify i fun e=>{e with val:=u}) d,q.born,h1,f5,f6,?_,?_⟩
  ·intro w K hw M
   unfold mapEntry
   rcases hw with hw | hw | hw
   ·obtain ⟨x,hx⟩:=f7 hw
    rw[Y0 hx]
    obtain ⟨u1,u2⟩:=Q25 (o:= .map f d) hw
    exact M x _ u1 (fun _=>u2) fun h=>absurd hw h
   ·have:=Jo (P:=P) (t:=t) U hw f1 f2 f3
    rw[Q0V hw] at this
    rw[Y0 this]
    refine M _ w ⟨rfl,rfl,rfl,rfl,fun _ _=>rfl⟩ (fun h0=>?_) fun _=>rfl
    exact hw
   ·have:=Jo (P:=P) (t:=t) U hw aq f9 f3
    rw[Q0V hw] at this
    rw[Y0 this]
    refine M _ w ⟨rfl,rfl,rfl,rfl,fun _ _=>rfl⟩ (fun h0=>?_) fun _=>rfl
    rw[h0] at hw
    cases hw
    rw[h0,f5 rfl]
  ·intro w K hw M
   unfold entryStore
   rcases hw with hw | hw
   ·rw[Nd (A f rfl hw)]
    obtain ⟨u1,u2⟩:=Q25 (o:= .map (f.modify i fun e=>{e with val:=u}) d) hw
    exact M _ u1 u2
   ·have:=A _ E hw
    rw[al,Q0V hw] at this
    rw[Nd this]
    exact M _ ⟨rfl,rfl,rfl,rfl,fun _ _=>rfl⟩ hw
 cases r' with
 | none=>
  obtain ⟨i,hi,bf,ba,ar⟩:=tz.info
  have hz: ∀w:World,(zeroValue et).run P w= .ok z w:=fun w=>Xp tz w
  refine Q (es.push {key:=S k,val:=z,born:=g}) (g+1) es.size {key:=S k,val:=z,born:=g} z ?_ (by simp) rfl ?_ ?_ ?_ ?_
  ·have:=Kz k {key:=S k,val:=z,born:=g} rfl es.toList 0 X
   simpa using this
  ·simp only[Array.toList_push,List.map_append,List.map_cons,List.map_nil]
   rw[List.pairwise_append]
   refine ⟨h3,by simp,?_⟩
   intro a ha b C
   simp at C;subst C
   obtain ⟨e,he,rfl⟩:=List.mem_map.1 ha
   exact Z e he
  ·intro e
   injection e with q e2
   omega
  ·refine ⟨_,_,rfl,?_,?_,?_⟩
   ·rw[q4 rfl]
    simp only[Array.toList_modify,Array.toList_push]
    rw[←Array.length_toList,Fp]
    simp[h2]
   ·have:((es.push {key:=S k,val:=z,born:=g}).modify es.size fun e=>{e with val:=u}).toList.map (·.born)=es.toList.map (·.born)++[g]:=by
     simp only[Array.toList_modify,Array.toList_push]
     rw[←Array.length_toList,Fp]
     simp
    rw[this,List.pairwise_append]
    refine ⟨h3,by simp,?_⟩
    intro a ha b C
    simp at C;subst C
    obtain ⟨e,he,rfl⟩:=List.mem_map.1 ha
    exact Z e he
   ·intro e he
    simp only[Array.toList_modify,Array.toList_push] at he
    rw[←Array.length_toList,Fp] at he
    rcases List.mem_append.1 he with he | he
    ·have:=Z e he;omega
    ·simp at he;subst he;simp
  ·intro w hw
   have hg:(getObj r).run P w= .ok (.map es g) w:=by simp[getObj,Sem.run,hw]
   have D: ∀o c,(setObj r (.map o c)).run P w= .ok () {w with heap:=w.heap.setIfInBounds r (.map o c)}:=by
    intro o c;simp[setObj,Sem.run,hw]
   refine ⟨z,?_⟩
   simp only[Instr.mapEntry,Sem.run_bind,run_underlying tm.h,Result.andThen_ok,Instr.findKey,run_underlying U,X,C8 U,hg,Sem.run_pure,hz,D]
   rfl
 | some p=>
  obtain ⟨j,v⟩:=p
  obtain ⟨z1,z2,z3⟩:=q3 j v rfl
  obtain ⟨e,q,e2⟩:=z2
  simp only[Nat.sub_zero] at q z3
  have W:es[j]? =some e:=by rw[←Array.getElem?_toList];exact q
  refine Q es g j e v X W e2 h3 (fun _=>rfl) ?_ fun hw=>⟨v,Jo U hw X W e2⟩
  refine ⟨_,_,rfl,?_,?_,?_⟩
  ·have:=z3 u
   rw[←this,Array.toList_modify]
   congr 1
   apply List.ext_getElem?
   intro n
   simp only[List.getElem?_modify]
   by_cases B:j=n
   ·subst B;rw[q];simp[e2]
   ·simp[B]
  ·have:(es.modify j fun e=>{e with val:=u}).toList.map (·.born)=es.toList.map (·.born):=by
    apply List.ext_getElem?
    intro n
    simp only[Array.toList_modify,List.getElem?_map,List.getElem?_modify]
    by_cases B:j=n<;>cases es.toList[n]? <;>simp[B]
   rw[this];exact h3
  ·intro x hx
   have:x.born∈(es.modify j fun e=>{e with val:=u}).toList.map (·.born):=List.mem_map.2 ⟨x,hx,rfl⟩
   have C:(es.modify j fun e=>{e with val:=u}).toList.map (·.born)=es.toList.map (·.born):=by
    apply List.ext_getElem?
    intro n
    simp only[Array.toList_modify,List.getElem?_map,List.getElem?_modify]
    by_cases B:j=n<;>cases es.toList[n]? <;>simp[B]
   rw[C] at this
   obtain ⟨y,hy,e⟩:=List.mem_map.1 this
   rw[←e];exact Z y hy
end Go.Emb

namespace Go.Hm
open Go.Kd Go.Emb
abbrev H5:=List (X0×X0)
def E9:H5→X0→Option X0
 | [],_=>none
 | p::r,k=>if p.1=k then some p.2 else E9 r k
def Eb:H5→X0→X0→H5
 | [],k,v=>[(k,v)]
 | p::r,k,v=>if p.1=k then (k,v)::r else p::Eb r k v
def F4 (m:H5):List (List UInt8×Value):=m.map fun p=>(p.1,S p.2)
theorem Q8L (m:H5) (k:X0):M0 (F4 m) k=(E9 m k).map S:=by
 induction m with
 | nil=>rfl
 | cons p r a=>
  simp only[F4,List.map_cons,M0,E9]
  split
  ·rfl
  ·exact a
theorem Q4F (m:H5) (k v:X0):Qw (F4 m) k (S v)=F4 (Eb m k v):=by
 induction m with
 | nil=>rfl
 | cons p r a=>
  simp only[F4,List.map_cons,Qw,Eb]
  split
  ·rfl
  ·rw[List.map_cons];congr 1
theorem Pg (m:H5) (k v n:X0):E9 (Eb m k v) n=if k=n then some v else E9 m n:=by
 induction m with
 | nil=>simp[Eb,E9]
 | cons p r b=>
  simp only[Eb]
  by_cases h:p.1=k
  ·rw[if_pos h]
   simp only[E9]
   by_cases a:k=n
   ·simp[a]
   ·rw[if_neg a,if_neg a,if_neg (by rw[h];exact a)]
  ·rw[if_neg h]
   simp only[E9]
   by_cases a:p.1=n
   ·rw[if_pos a,if_pos a,if_neg (by intro e;exact h (a.trans e.symm))]
   ·rw[if_neg a,if_neg a];exact b
def Jp (d:X0) (s:H5×H5) (m:Hm.Met):Bool×(H5×H5):=
 ((match E9 s.1 m.name with | some x=> !decide (x=P2 m) | none=>false),(Eb s.1 m.name (P2 m),Eb s.2 m.name d))
end Go.Hm
namespace Go.Emb
open Go.RowKit Go.Hm
theorem N0.of_below {w w':World} {r:Nat} {m:List (List UInt8×Value)} (h:N0 (w.heap[r]?) m) (d:Below w.heap.size w w'):N0 (w'.heap[r]?) m:=by
 obtain ⟨es,a,b,c⟩:=h
 rw[d.block r (Array.getElem?_eq_some_iff.1 b).1]
 exact ⟨es,a,b,c⟩
theorem Q3O {P:Program} {w:World} {K:Value→World→Prop} {t b a:TypeId} {sz by_:Nat} {z:Value} [tm:TM P t b a] [tz:TZ P a sz by_ z] (d:P.underlying b=some .string) {r:Nat} {m:List (List UInt8×Value)} (c:N0 (w.heap[r]?) m) (k:List UInt8)
 (h:K (.tuple #[(M0 m k).getD z, .bool (M0 m k).isSome]) w):lookup P t (.map (some r)) (S k) true w K:=by
 rw[Q1d d c k];cases e:M0 m k<;>rw[e] at h<;>exact h
theorem N0.lt {w:World} {r:Nat} {m:List (List UInt8×Value)} (h:N0 (w.heap[r]?) m):r<w.heap.size:=by
 obtain ⟨es,a,b,c⟩:=h
 exact (Array.getElem?_eq_some_iff.1 b).1
end Go.Emb
namespace Go.Proofs.YtfppjenblllfaaaGreatDoor
open Go.Emb Go.RowKit Go.Kd Go.Hm
variable {w : World} {K : Value → World → Prop} {σ : Q4} {v : Value} {l : List Cla}
theorem X2v {m:Hm.Met} {cs ds:List Value} {pa pb q:Addr} {b o:Nat} {s:H5×H5} {d:X0} (hs:X4 w σ) (hm:L2 σ m cs) (R:SmM m) (hn:NmM m) (V:Z3 σ pa [.map (some b)]) (al:Z3 σ pb [.map (some o)]) (hq:Z3 σ q (S d::ds))
 (ai:σ b=none) (ag:σ o=none) (W:b≠o) (p:N0 (w.heap[b]?) (F4 s.1)) (r:N0 (w.heap[o]?) (F4 s.2))
 (h: ∀w',Kpt (fun k=>k=b∨k=o) w w'→N0 (w'.heap[b]?) (F4 (Jp d s m).2.1)→N0 (w'.heap[o]?) (F4 (Jp d s m).2.2)→K (.bool (Jp d s m).1) w'):
 Q0 P F.aA [.agg cs.toArray, .pointer (some pa), .pointer (some q), .pointer (some pb)] w K:=Oh (by
 have Q:=hm
 obtain ⟨pv,cv,hv,rfl,g1,g2,g3,g4,g5,g6⟩:=hm
 unfold Xh
 refine Y8 hs fun a w1 σ1 f U=>?_
 have ap:=p.lt
 have ar:=r.lt
 have p:=p.of_below f.bel
 have r:=r.of_below f.bel
 have ac:σ1 b=none:=(f.old b ap).trans ai
 have H:σ1 o=none:=(f.old o ar).trans ag
 refine X8 f.sat (V.up f) rfl ?_
 rw[fa]
 refine ld f.sat U rfl ?_
 refine Q3O X7 p m.name ?_
 have aj:(.tuple #[(M0 (F4 s.1) m.name).getD (.string ⟨#[]⟩), .bool (M0 (F4 s.1) m.name).isSome]:Value)= .tuple #[S ((E9 s.1 m.name).getD []), .bool (E9 s.1 m.name).isSome]:=by
  rw[Q8L];cases E9 s.1 m.name<;>rfl
 rw[aj]
 refine V6 (vs:=[_,_]) rfl ?_
 refine V6 (vs:=[_,_]) rfl ?_
 obtain ⟨L,M,y,A,ao,E⟩:=X2F (P:=P) (t:=T.q) X7 p m.name (S (P2 m))
 have aa:=p.lt
 refine Q00 (fun c i=>Kpt (fun k=>k=b) c i∧(i.heap[b]? =c.heap[b]? ∨(c.heap[b]? =some L∧L≠y∧i.heap[b]? =some M)∨i.heap[b]? =some y))
  (fun c=>Kpt (fun k=>k=b) w1 c∧X4 c σ1∧(c.heap[b]? =some L∨c.heap[b]? =some M∨c.heap[b]? =some y))
  ⟨.of_below (Below.refl _ _).drew,f.sat.below (Below.refl _ _).drew, .inl ao⟩ (fun c i g C=>⟨g.1.trans C.1,C.1.sat g.2.1 (fun k hk=>hk▸ac),by
   rcases C.2 with e | ⟨_,_,e⟩ | e
   ·rw[e];exact g.2.2
   ·exact .inr (.inl e)
   ·exact .inr (.inr e)⟩) ?_
 refine X2 (.pointer (some (a.add 0))) (fun w g=>by rw[fa];exact ⟨⟨Kpt.refl, .inl rfl⟩,rfl⟩) ?_
 refine X2 (.pointer (some (a.add 0))) (fun w g=>by rw[fa];exact ⟨⟨Kpt.refl, .inl rfl⟩,rfl⟩) ?_
 refine X2 (.pointer (some (q.add 0))) (fun w g=>by rw[fa];exact ⟨⟨Kpt.refl, .inl rfl⟩,rfl⟩) ?_
 refine X2 (.map (some b)) (fun w g=>X8 g.2.1 (V.up f) rfl ⟨⟨Kpt.refl, .inl rfl⟩,rfl⟩) ?_
 refine X2 (S m.name) (fun t w g e=>by rw[e];exact ld g.2.1 U rfl ⟨⟨Kpt.refl, .inl rfl⟩,rfl⟩) ?_
 refine X2 (.map (some o)) (fun w g=>X8 g.2.1 (al.up f) rfl ⟨⟨Kpt.refl, .inl rfl⟩,rfl⟩) ?_
 refine X2 (S m.name) (fun t w g e=>by rw[e];exact ld g.2.1 U rfl ⟨⟨Kpt.refl, .inl rfl⟩,rfl⟩) ?_
 refine X2 (.agg [S m.name,pv,S m.result, .bool m.abs,I m.locals,cv,hv].toArray) (fun w g=>Z1 g.2.1 U rfl ⟨⟨Kpt.refl, .inl rfl⟩,rfl⟩) ?_
 refine X2 (S (P2 m)) (fun t c g e=>by
  rw[e]
  exact Q7M g.2.1 (RMe_lift Q ⟨f.le⟩) R hn fun i σ3 z=>⟨⟨.of_below z.bel, .inl (z.bel.block b (Nat.lt_of_lt_of_le aa g.1.size))⟩,rfl⟩) ?_
 refine X2 (S d) (fun t w g e=>by rw[e];exact ld g.2.1 (hq.up f) rfl ⟨⟨Kpt.refl, .inl rfl⟩,rfl⟩) ?_
 have st: ∀{c i:World},(c.heap[b]? =some M∨c.heap[b]? =some y)→(i.heap[b]? =c.heap[b]? ∨(c.heap[b]? =some L∧L≠y∧i.heap[b]? =some M)∨i.heap[b]? =some y)→(i.heap[b]? =some M∨i.heap[b]? =some y):=by
  intro c i j h2
  rcases h2 with e | ⟨_,_,e⟩ | e
  ·rw[e];exact j
  ·exact .inl e
  ·exact .inr e
 refine W5 (fun u c=>(∃x,u= .tuple #[x,I A])∧(c.heap[b]? =some M∨c.heap[b]? =some y)) (fun u c i j C=>⟨j.1,st j.2 C.2⟩) (fun ab ah c g e1 e2=>?_) ?_
 ·rw[e1,e2]
  refine E.entry g.2.2 fun x i n ax af=>?_
  by_cases Y:c.heap[b]? =some L
  ·have j:=ax Y
   refine ⟨⟨Kpt.of_upd n rfl,?_⟩,⟨x,rfl⟩, .inl j⟩
   by_cases B:L=y
   ·left;rw[j,Y,E.same B]
   ·exact .inr (.inl ⟨Y,B,j⟩)
  ·have j:=af Y
   refine ⟨⟨Kpt.of_upd n rfl, .inl j⟩,⟨x,rfl⟩,?_⟩
   rw[j];exact g.2.2.resolve_left Y
 refine W5 (fun u c=>u=I A∧(c.heap[b]? =some M∨c.heap[b]? =some y)) (fun u c i j C=>⟨j.1,st j.2 C.2⟩) (fun t c g e=>?_) ?_
 ·obtain ⟨⟨x,rfl⟩,j⟩:=e
  exact V6 (vs:=[_,_]) rfl ⟨⟨Kpt.refl, .inl rfl⟩,rfl,j⟩
 refine W5 (fun _ c=>c.heap[b]? =some y) (fun u c i j C=>?_) (fun ab av ak c g e1 e2 e3=>?_) ?_
 ·rcases C.2 with e | ⟨e,B,_⟩ | e
  ·exact e.trans j
  ·rw[j] at e;cases e;exact absurd rfl B
  ·exact e
 ·rw[e1,e3,e2.1]
  refine E.store e2.2 fun i n h3=>⟨⟨Kpt.of_upd n rfl, .inr (.inr h3)⟩,h3⟩
 rintro a8 be bk ab ah bh bg bd ak bf bc av bi c N _ _ _ _ _ rfl rfl _ _ rfl _ _ ay
 have am:N0 (c.heap[b]?) (F4 (Eb s.1 m.name (P2 m))):=by
  rw[ay,←Q4F];exact E.put
 have ae:N0 (c.heap[o]?) (F4 s.2):=by
  rw[N.1.block o r.lt fun e=>W e.symm];exact r
 refine Db X7 ⟨H,ae⟩ m.name (S d) fun i n an=>?_
 have X:N0 (i.heap[o]?) (F4 (Eb s.2 m.name d)):=by rw[←Q4F];exact an.2
 have J:N0 (i.heap[b]?) (F4 (Eb s.1 m.name (P2 m))):=by rw[n.block b W];exact am
 have z:Kpt (fun k=>k=b∨k=o) w i:=((Kpt.of_below f.bel).trans (N.1.mono fun k _ h=> .inl h)).trans (Kpt.of_upd n (.inr rfl))
 have Z:X4 i σ1:=(Kpt.of_upd (D:=fun k=>k=o) n rfl).sat N.2.1 fun k hk=>hk▸H
 unfold Jp at h
 cases ho:E9 s.1 m.name with
 | none=>
  rw[ho] at h
  simp only[Option.isSome_none,↓M2,M2,Mb,reduceIte]
  exact h i z J X
 | some x=>
  rw[ho] at h
  simp only[Option.isSome_some,Option.getD_some,↓M2,M2,Mb,reduceIte]
  refine Z1 Z U rfl ?_
  refine Q7M Z (RMe_lift Q ⟨f.le⟩) R hn fun w4 σ4 O=>?_
  simp only[↓M2,M2,Mb,reduceIte]
  exact h w4 (z.trans (Kpt.of_below O.bel)) (J.of_below O.bel) (X.of_below O.bel))
end Go.Proofs.YtfppjenblllfaaaGreatDoor

namespace Go.Hm
open Go.Kd Go.Emb
def Ef (s:H5×H5) (c:Cla):Bool×(H5×H5):=((Z9 (Jp c.name) s c.methods 0).1.isSome,(Z9 (Jp c.name) s c.methods 0).2)
def Dk (a:List Hm.Met):Prop:= ∃x∈a,∃y∈a,x.name=y.name∧P2 x≠P2 y
theorem Q3k (a:List Hm.Met):Vq a=true↔Dk a:=by
 simp[Vq,Dk]
structure Gd (pre : List Hm.Met) (s : H5 × H5) : Prop where
  a : ∀ m ∈ pre, E9 s.1 m.name = some (P2 m)
  b : ∀ k x, E9 s.1 k = some x → ∃ m ∈ pre, m.name = k ∧ P2 m = x
  c : ∀ k, (E9 s.2 k).isSome = true ↔ ∃ m ∈ pre, m.name = k
theorem Gd.no {b:List Hm.Met} {s:H5×H5} (h:Gd b s): ¬Dk b:=by
 rintro ⟨x,d,y,i,f,e⟩
 have c:=h.a x d
 have g:=h.a y i
 rw[f,g] at c
 exact e (Option.some.inj c).symm
theorem Gd.step {j:List Hm.Met} {s:H5×H5} (h:Gd j s) (d:X0) (m:Hm.Met):((Jp d s m).1=true→Dk (j++[m]))∧((Jp d s m).1=false→Gd (j++[m]) (Jp d s m).2):=by
 unfold Jp
 constructor
 ·intro n
  cases o:E9 s.1 m.name with
  | none=>rw[o] at n;cases n
  | some x=>
   rw[o] at n
   obtain ⟨y,hy,f,p⟩:=h.b _ _ o
   exact ⟨y,by simp[hy],m,by simp,f,by rw[p];simpa using n⟩
 ·intro n
  have i: ∀x,E9 s.1 m.name=some x→x=P2 m:=fun x g=>by rw[g] at n;simpa using n
  refine ⟨fun y hy=>?_,fun k x g=>?_,fun k=>?_⟩
  ·simp only[Pg]
   rcases List.mem_append.1 hy with hy | hy
   ·have:=h.a y hy
    by_cases e:m.name=y.name
    ·rw[if_pos e];congr 1;exact (i _ (by rw[e];exact this)).symm
    ·rw[if_neg e];exact this
   ·simp at hy;subst hy;simp
  ·simp only[Pg] at g
   by_cases e:m.name=k
   ·rw[if_pos e] at g;cases g;exact ⟨m,by simp,e,rfl⟩
   ·rw[if_neg e] at g
    obtain ⟨y,hy,f⟩:=h.b _ _ g
    exact ⟨y,by simp[hy],f⟩
  ·simp only[Pg]
   by_cases e:m.name=k
   ·rw[if_pos e];exact ⟨fun _=>⟨m,by simp,e⟩,fun _=>rfl⟩
   ·rw[if_neg e,h.c k]
    constructor
    ·rintro ⟨y,hy,f⟩;exact ⟨y,by simp[hy],f⟩
    ·rintro ⟨y,hy,f⟩
     rcases List.mem_append.1 hy with hy | hy
     ·exact ⟨y,hy,f⟩
     ·simp at hy;subst hy;exact absurd f e
theorem Dk.mono {a b:List Hm.Met} (h:Dk a) (c: ∀x∈a,x∈b):Dk b:=by
 obtain ⟨x,d,y,f,e⟩:=h
 exact ⟨x,c x d,y,c y f,e⟩
theorem Q1t (d:X0): ∀(b a:List Hm.Met) (s:H5×H5) (i:Nat),Gd a s→((Z9 (Jp d) s b i).1.isSome=true→Dk (a++b))∧((Z9 (Jp d) s b i).1.isSome=false→Gd (a++b) (Z9 (Jp d) s b i).2)
 | [],a,s,i,h=>by simpa [Z9] using h
 | m::r,a,s,i,h=>by
  obtain ⟨j,g⟩:=h.step d m
  simp only[Z9]
  cases f:(Jp d s m).1 with
  | true=>
   simp only[if_true,Option.isSome_some]
   exact ⟨fun _=>(j f).mono fun x c=>by simp at c⊢;rcases c with h | h<;>simp[h],fun e=>by cases e⟩
  | false=>
   simp only[Bool.false_eq_true,if_false]
   have:=Q1t d r (a++[m]) (Jp d s m).2 (i+1) (g f)
   rw[show a++m::r=(a++[m])++r by simp]
   exact this
theorem Q1A: ∀(cs:List Cla) (a:List Hm.Met) (s:H5×H5) (i:Nat),Gd a s→((Z9 Ef s cs i).1.isSome=true→Dk (a++cs.flatMap (·.methods)))∧((Z9 Ef s cs i).1.isSome=false→Gd (a++cs.flatMap (·.methods)) (Z9 Ef s cs i).2)
 | [],a,s,i,h=>by simpa [Z9] using h
 | c::r,a,s,i,h=>by
  obtain ⟨f,d⟩:=Q1t c.name c.methods a s 0 h
  simp only[Z9]
  cases b:(Ef s c).1 with
  | true=>
   simp only[if_true,Option.isSome_some]
   exact ⟨fun _=>(f b).mono (by simp;intro x hx;rcases hx with hx | hx;exact .inl hx;exact .inr (.inl hx)),fun e=>by cases e⟩
  | false=>
   simp only[Bool.false_eq_true,if_false]
   have:=Q1A r (a++c.methods) (Ef s c).2 (i+1) (d b)
   rw[List.flatMap_cons,←List.append_assoc]
   exact this
theorem X1S:Gd [] ([],[]):=⟨by simp,by simp[E9],by simp[E9]⟩
theorem Q6x (l:List Cla) (n:X0):Vj l n=(Wk l n).flatMap (·.methods):=by
 unfold Vj Wk
 induction R3 l n with
 | nil=>rfl
 | cons u r a=>
  rw[List.flatMap_cons,List.filterMap_cons]
  cases b:lk l u with
  | none=>simpa [b] using a
  | some c=>simp only[Option.map_some,Option.getD_some,List.flatMap_cons];rw[a]
end Go.Hm
namespace Go.Emb
open Go.RowKit Go.Hm
variable {P : Program} {w w0 w1 w' w'' : World} {K : Value → World → Prop} {σ σ0 σ1 σ' : Q4}
def It (σ:Q4) (w:World) (b r:Nat) (es:Array MapEntry) (a:Nat) (c:Array Nat):Prop:=σ b=none∧ ∃d,a≤d∧w.heap[b]? =some (.mapIter (some r) a c d)
theorem It.step {b r:Nat} {es:Array MapEntry} {a:Nat} {c:Array Nat} (h:It σ w b r es a c) (k:Stp w σ w' σ'):It σ' w' b r es a c:=by
 obtain ⟨g,i,f,d⟩:=h
 have e:=(Array.getElem?_eq_some_iff.1 d).1
 exact ⟨(k.old b e).trans g,i,f,(k.bel.block b e).trans d⟩
theorem X2h {t e d:TypeId} [tm:TM P t e d] {r:Nat} {es:Array MapEntry} {a:Nat} (c:X4 w σ) (f:w.heap[r]? =some (.map es a))
 (h: ∀b w' σ',w.heap.size≤b→Stp w σ w' σ'→It σ' w' b r es a #[]→K (.pointer (some ⟨b,0,none⟩)) w'):rng P t (.map (some r)) w K:=by
 unfold rng
 have g:(getObj r).run P w= .ok (.map es a) w:=by simp[getObj,Sem.run,f]
 rw[Y0 (v:= .pointer (some ⟨w.heap.size,0,none⟩)) (w':=w.alloc (.mapIter (some r) a #[] a)) (by
  simp only[Instr.range,Sem.run_bind,run_underlying tm.h,Result.andThen_ok,g,Sem.run_pure]
  simp)]
 exact h _ _ _ (Nat.le_refl _) (Stp.own c _) ⟨c.none (Nat.le_refl _),a,Nat.le_refl _,heap_alloc_new w _⟩
theorem X2t {t:TypeId} {b r:Nat} {es:Array MapEntry} {clock:Nat} {seen:Array Nat} (hi:It σ w b r es clock seen) (hm:w.heap[r]? =some (.map es clock)) (hold: ∀x∈es.toList,x.born<clock)
 (h0:(∀e∈es.toList,e.born∈seen)→K (.tuple #[.bool false]) w)
 (h1: ∀e w',e∈es.toList→e.born∉seen→Kpt (fun k=>k=b) w w'→It σ w' b r es clock (seen.push e.born)→w'.heap[b]? =some (.mapIter (some r) clock (seen.push e.born) clock)→K (.tuple #[.bool true,e.key,e.val]) w'):J1 P (.pointer (some ⟨b,0,none⟩)) false t w K:=by
 obtain ⟨hb,c0,hc,hh⟩:=hi
 unfold J1
 rcases run_next_at (P:=P) w t b r clock c0 seen es clock hh hm hold hc with ⟨hz,hrun⟩ | ⟨e,he,w1,hw1,hrun⟩
 ·rw[Y0 hrun]
  refine h0 fun e he=>Classical.byContradiction fun hn=>?_
  have:e∈(leftOf es seen).toList:=by
   unfold leftOf
   simp only[Array.toList_filter,List.mem_filter]
   exact ⟨he,by simpa using hn⟩
  have hl:(leftOf es seen).toList.length=0:=by simpa using hz
  rw[List.eq_nil_of_length_eq_zero hl] at this
  cases this
 ·rw[Y0 hrun]
  have he':e∈es.toList∧e.born∉seen:=by
   unfold leftOf at he
   simp only[Array.toList_filter,List.mem_filter] at he
   exact ⟨he.1,by simpa using he.2⟩
  have hh1:w1.heap[b]? =some (.mapIter (some r) clock seen c0):=by rcases hw1 with rfl | rfl<;>exact hh
  obtain ⟨u1,u2⟩:=Q25 (w:=w1) (o:= .mapIter (some r) clock (seen.push e.born) clock) hh1
  refine h1 e _ he'.1 he'.2 ?_ ⟨hb,clock,Nat.le_refl _,u2⟩ u2
  have k1:Kpt (fun k=>k=b) w w1:=by
   rcases hw1 with rfl | rfl
   ·exact Kpt.refl
   ·exact .of_below (Below.refl _ _).drew
  exact k1.trans (Kpt.of_upd u1 rfl)
theorem X1P {b r:Nat} {es:Array MapEntry} {a:Nat} {c:Array Nat} {e:MapEntry} (hh:w.heap[b]? =some (.mapIter (some r) a (c.push e.born) a)) (d:w.heap[r]? =some (.map es a)) (g:e∈es.toList) (f:(es.toList.map (·.born)).Nodup)
 (h:K (.tuple #[e.key,e.val]) w):Q6P P (.pointer (some ⟨b,0,none⟩)) w K:=by
 unfold Q6P
 rw[Y0 (run_entry_at w b r a c es a e hh d g f)]
 exact h
end Go.Emb
namespace Go.Proofs.YtfppjenblllfaaaGreatDoor
open Go.Emb Go.RowKit Go.Kd Go.Hm
variable {w : World} {K : Value → World → Prop} {σ : Q4} {v : Value} {l : List Cla}
theorem Ja (o:Option Nat):decide ((0:Int)≤W7 o)=o.isSome:=by
 cases o with
 | none=>rfl
 | some i=>simp[W7]
theorem Q2c {q:Addr} {s:X0} (c:X4 w σ) (d:Tab σ v l) (g:Z3 σ q [v]) (f:s.length≤Z7) (h: ∀w' σ',Stp w σ w' σ'→K (.bool (D5 l s)) w'):Y9 P (.func (.func F.ag) #[] #[.pointer (some q)]) [S s] w K:=Y7 (Dw (by
 unfold Zd
 unfold D5 at h
 refine Vs ?_
 by_cases a:s=C2
 ·have e:decide (s=[110,117,108,108])=true:=decide_eq_true a
  simp only[e,decide_eq_true a,↓M2,M2,Mb,reduceIte] at h⊢
  exact h _ _ (Stp.refl c)
 ·have e:decide (s=[110,117,108,108])=false:=decide_eq_false a
  simp only[e,decide_eq_false a,↓M2,M2,Mb,reduceIte] at h⊢
  refine X8 c g rfl ?_
  refine Tf c d f fun w1 σ1 b=>?_
  (try simp only[↓M2,M2,Mb,reduceIte])
  exact h _ _ b))
theorem Q7b {q p:Addr} {s:X0} (b:X4 w σ) (c:Tab σ v l) (f:Z3 σ q [v]) (d:Z3 σ p [.func (.func F.ag) #[] #[.pointer (some q)]]) (e:s.length≤Z7) (h: ∀w' σ',Stp w σ w' σ'→K (.bool (!D5 l s)) w'):Y9 P (.func (.func F.ah) #[] #[.pointer (some p)]) [S s] w K:=Y7 (Hg (by
 unfold Ze
 refine X8 b d rfl ?_
 refine Q2c b c f e fun w1 σ1 a=>?_
 refine Ro ?_
 exact h _ _ a))
theorem Q5m {c:Cla} {cs:List Value} {pa H:Addr} {b e:Nat} {s:H5×H5} (O:X4 w σ) (L:U6 σ c cs) (t:P8 c) (W:Nm c) (y:Z3 σ pa [.map (some b)]) (B:Z3 σ H [.map (some e)])
 (z:σ b=none) (r:σ e=none) (A:b≠e) (m:N0 (w.heap[b]?) (F4 s.1)) (n:N0 (w.heap[e]?) (F4 s.2))
 (h: ∀w',Kpt (fun k=>k=b∨k=e) w w'→N0 (w'.heap[b]?) (F4 (Ef s c).2.1)∧N0 (w'.heap[e]?) (F4 (Ef s c).2.2)→K (.bool (Ef s c).1) w'):
 Y9 P (.func (.func F.aK) #[] #[.pointer (some pa), .pointer (some H)]) [.agg cs.toArray] w K:=Y7 (Et (by
 obtain ⟨lv,Y,mv,rfl,Z,g2,M,g4,g5⟩:=L
 unfold Yu
 refine Y8 O fun q w1 σ1 a C=>?_
 rw[fa]
 refine ld a.sat C rfl ?_
 rw[Qf]
 have p:=m.lt
 have u:=n.lt
 have o:σ1 b=none:=(a.old b p).trans z
 have i:σ1 e=none:=(a.old e u).trans r
 refine Yh (Jp c.name) s (fun s w'=>X4 w' σ1∧N0 (w'.heap[b]?) (F4 s.1)∧N0 (w'.heap[e]?) (F4 s.2)) (fun k=>k=b∨k=e) (fun _ _ h=>h.1) ⟨a.sat,m.of_below a.bel,n.of_below a.bel⟩ (M.up a)
  (fun s x cs D K E f g Q J V=>Y7 ?_) fun D f g=>?_
 ·refine X2v (s:=s) (d:=c.name) g.1 Q (t.2.2.2 x E) (W.2.2 x E) (y.up a) (B.up a) C o i A g.2.1 g.2.2 fun X j N R=>?_
  exact V X (f.trans j) ⟨j.sat g.1 fun k U=>by rcases U with rfl | rfl<;>assumption,N,R⟩
 ·exact h D ((Kpt.of_below a.bel).trans f) g.2))
end Go.Proofs.YtfppjenblllfaaaGreatDoor

namespace Go.Emb
open Go.RowKit Go.Hm
theorem Stp.nx {D:Nat→Prop} {w w1 g:World} {σ σ1 f:Q4} (a:Stp w σ w1 σ1) (c:Nxt D w1 σ1 g f) (hD: ∀k,D k→w.heap.size≤k):Stp w σ g f:=
 ⟨⟨c.kp.os.trans a.bel.os,c.kp.tape.trans a.bel.tape,c.kp.output.trans a.bel.output,Nat.le_trans a.bel.size c.kp.size,fun k d=>(c.kp.block k (Nat.lt_of_lt_of_le d a.bel.size) fun e=>by have:=hD k e;omega).trans (a.bel.block k d)⟩,
  c.sat,fun b o e=>c.le.le b o (a.le b o e),fun k d=>(c.old k (Nat.lt_of_lt_of_le d a.bel.size)).trans (a.old k d)⟩
end Go.Emb
namespace Go.Hm
open Go.Kd Go.Emb
theorem X0t {es:Array MapEntry} {m:H5} (h:es.toList.map (fun e=>(e.key,e.val))=(F4 m).map (fun p=>(S p.1,p.2))):
 (∀e∈es.toList,∃k,e.key=S k∧(E9 m k).isSome=true)∧ ∀k,(E9 m k).isSome=true→ ∃e∈es.toList,e.key=S k:=by
 have b: ∀(m:H5) k,(E9 m k).isSome=true↔k∈m.map (·.1):=by
  intro m
  induction m with
  | nil=>intro k;simp[E9]
  | cons p r j=>
   intro k
   simp only[E9,List.map_cons,List.mem_cons]
   by_cases e:p.1=k
   ·simp[e]
   ·rw[if_neg e,j k]
    constructor
    ·exact .inr
    ·rintro (h | h)
     ·exact absurd h.symm e
     ·exact h
 constructor
 ·intro e f
  have c:(e.key,e.val)∈es.toList.map (fun e=>(e.key,e.val)):=List.mem_map.2 ⟨e,f,rfl⟩
  rw[h] at c
  obtain ⟨p,g,a⟩:=List.mem_map.1 c
  obtain ⟨q,d,rfl⟩:=List.mem_map.1 g
  simp only[Prod.mk.injEq] at a
  exact ⟨q.1,a.1.symm,(b m _).2 (List.mem_map.2 ⟨q,d,rfl⟩)⟩
 ·intro k i
  obtain ⟨q,d,rfl⟩:=List.mem_map.1 ((b m k).1 i)
  have c:(S q.1,S q.2)∈(F4 m).map (fun p=>(S p.1,p.2)):=List.mem_map.2 ⟨(q.1,S q.2),List.mem_map.2 ⟨q,d,rfl⟩,rfl⟩
  rw[←h] at c
  obtain ⟨e,f,a⟩:=List.mem_map.1 c
  simp only[Prod.mk.injEq] at a
  exact ⟨e,f,a.1⟩
def Nn (l:List Cla) (m:Hm.Met):Bool:=(!D5 l m.result&& !decide (m.result=[]))||m.params.any fun s=> !D5 l s
end Go.Hm
namespace Go.Proofs.YtfppjenblllfaaaGreatDoor
open Go.Emb Go.RowKit Go.Kd Go.Hm
variable {w : World} {K : Value → World → Prop} {σ : Q4} {v : Value} {l : List Cla}
set_option maxHeartbeats 1000000 in
theorem Q8x {c:Cla} {cs:List Value} (hs:X4 w σ) (ht:Tab σ v l) (ok:Ok l) (hc:U6 σ c cs) (fo:P8 c) (hn:Nm c) (h: ∀w' V,Stp w σ w' V→K (I (U8 l c)) w'):Q0 P F.aP [v, .agg cs.toArray] w K:=Si (by
 obtain ⟨lv,fv,mv,rfl,g1,g2,g3,g4,g5⟩:=hc
 unfold Jw
 obtain ⟨a,_,_,_,hv,_⟩:=ht.ex
 unfold U8 at h
 refine J6 hs (by rw[hv];rfl) fun q2 w1 σ1 a9 y=>?_
 refine Y8 a9.sat fun q3 w2 σ2 av z=>?_
 have ek:=a9.trans av
 have y:=y.up av
 have g1:=(g1.up a9).up av
 have g2:=(g2.up a9).up av
 have g3:=(g3.up a9).up av
 have a6:=g2.max
 have cd:=g3.max
 rw[fa]
 refine ld av.sat z rfl ?_
 refine Q9 g2 ?_
 refine J5 c.fields.length (fun n w'=> ∃V,Stp w σ w' V∧SLe σ2 V∧((c.fields.take n).any fun f=>(Xg l c.super f.name).isSome)=false) ⟨σ2,ek,SLe.refl _,by simp⟩ fun n w3 d a8 af=>?_
 obtain ⟨σ3,a3,cc,E⟩:=af
 refine Z0 ?_
 refine Q5 (fun hh=>?_) (fun hh=>?_)
 ·have g:n<c.fields.length:=by simpa using hh
  refine Q7A (g2.lift cc) g fun p aw ac=>?_
  refine Z1 a3.sat aw rfl ?_
  refine Y6 a3.sat (by rfl) rfl (Rep.one ac) fun q4 w4 σ4 W d9=>?_
  have Z:SLe σ2 σ4:=cc.more ⟨W.le⟩
  have ax:=a3.trans W
  refine X8 W.sat (y.lift Z) rfl ?_
  rw[fa]
  refine ld W.sat (z.lift Z) rfl ?_
  rw[fa]
  refine ld W.sat d9 rfl ?_
  refine X0R W.sat (ht.lift ⟨ax.le⟩) ok.acy ok.len ok.sm fun w5 σ5 ca=>?_
  refine Jb ?_
  rw[Ja]
  refine Q5 (fun al=>?_) (fun al=>?_)
  ·have:Qq l c=true:=C1 g al
   rw[if_pos this] at h
   exact h _ _ (ax.trans ca)
  ·refine D7 ?_
   refine Y3 a6 g ⟨σ5,ax.trans ca,Z.more ⟨ca.le⟩,?_⟩
   rw[M3 g,E,al];rfl
 have g: ¬n<c.fields.length:=by simpa using hh
 rw[D0 g] at E
 have ed:Qq l c=false:=E
 rw[if_neg (by rw[ed];simp)] at h
 rw[Qf]
 clear E hh g a8
 refine U2 a3.sat (by rfl) rfl rfl fun q7 w4 σ4 W az=>?_
 have Z:SLe σ2 σ4:=cc.more ⟨W.le⟩
 have ax:=a3.trans W
 have y:=y.lift Z
 have z:=z.lift Z
 have g1:=g1.lift Z
 have g2:=g2.lift Z
 have g3:=g3.lift Z
 rw[fa]
 refine ld W.sat z rfl ?_
 refine Q9 g2 ?_
 refine J5 c.fields.length (fun n w'=> ∃V,Stp w σ w' V∧SLe σ4 V∧((c.fields.take n).any fun f=> !D5 l f.kind)=false) ⟨σ4,ax,SLe.refl _,by simp⟩ fun n w5 d a8 af=>?_
 obtain ⟨σ5,bb,ar,E⟩:=af
 refine Z0 ?_
 refine Q5 (fun hh=>?_) (fun hh=>?_)
 ·have g:n<c.fields.length:=by simpa using hh
  refine Q7A (g2.lift ar) g fun p aw ac=>?_
  refine Z1 bb.sat aw rfl ?_
  refine Y6 bb.sat (by rfl) rfl (Rep.one ac) fun q9 w6 σ6 a0 d2=>?_
  have aj:SLe σ4 σ6:=ar.more ⟨a0.le⟩
  have O:=bb.trans a0
  refine X8 a0.sat (az.lift aj) rfl ?_
  rw[fa]
  refine ld a0.sat d2 rfl ?_
  refine Q2c a0.sat (ht.lift ⟨O.le⟩) (y.lift aj) ac.2.2 fun w7 σ7 H=>?_
  refine Ro ?_
  refine Q5 (fun al=>?_) (fun al=>?_)
  ·have:C7 l c=true:=by
    unfold C7
    rw[C1 (p:=fun f:Fld=> !D5 l f.kind) g al];rfl
   rw[if_pos this] at h
   exact h _ _ (O.trans H)
  ·refine D7 ?_
   refine Y3 a6 g ⟨σ7,O.trans H,aj.more ⟨H.le⟩,?_⟩
   rw[M3 g,E,al];rfl
 have g: ¬n<c.fields.length:=by simpa using hh
 rw[D0 g] at E
 have d6:=E
 clear E hh g a8
 have y:=y.lift ar
 have z:=z.lift ar
 have az:=az.lift ar
 have g3:=g3.lift ar
 rw[fa]
 refine ld bb.sat z rfl ?_
 refine Q9 g3 ?_
 refine J5 c.methods.length (fun n w'=> ∃V,Stp w σ w' V∧SLe σ5 V∧((c.methods.take n).any (Nn l))=false) ⟨σ5,bb,SLe.refl _,by simp⟩ fun n w6 d a8 af=>?_
 obtain ⟨σ6,O,aj,E⟩:=af
 refine Z0 ?_
 refine Q5 (fun hh=>?_) (fun hh=>?_)
 ·have g:n<c.methods.length:=by simpa using hh
  refine L7 (g3.lift aj) g fun p cells aw da ac=>?_
  refine Z1 O.sat aw da ?_
  refine Y6 O.sat (by rfl) da (Rep.one ac) fun e8 w7 σ7 H Y=>?_
  obtain ⟨pv,cv,fx,rfl,m1,m2,m3,m4,m5,m6⟩:=ac
  have ce:SLe σ5 σ7:=aj.more ⟨H.le⟩
  have de:=O.trans H
  have D:Nn l c.methods[n]=true→ ∀{w8:World} {σ8:Q4},Stp w σ w8 σ8→K (.int .i64 65) w8:=fun hb w8 σ8 q=>by
   have:C7 l c=true:=by
    unfold C7
    have:=C1 (p:=Nn l) g hb
    unfold Nn at this
    rw[this,Bool.or_true]
   rw[if_pos this] at h
   exact h _ _ q
  have A:Nn l c.methods[n]=false→ ∀{w8:World} {σ8:Q4},Stp w σ w8 σ8→SLe σ5 σ8→UpI c.methods.length (fun n w'=> ∃V,Stp w σ w' V∧SLe σ5 V∧((c.methods.take n).any (Nn l))=false) (.int .i64 (IntKind.i64.wrap (n+1))) w8∧Gy c.methods.length (.int .i64 (IntKind.i64.wrap (n+1)))<Gy c.methods.length (I n):=fun hb w8 σ8 q ab=>
   Y3 cd g ⟨σ8,q,ab,by rw[M3 g,E,hb];rfl⟩
  unfold Nn at D A
  refine X8 H.sat (az.lift ce) rfl ?_
  rw[fa]
  refine ld H.sat Y rfl ?_
  refine Q2c H.sat (ht.lift ⟨de.le⟩) (y.lift ce) m5 fun w8 σ8 M=>?_
  have q:=de.trans M
  have ab:SLe σ5 σ8:=ce.more ⟨M.le⟩
  have Y:=Y.up M
  have m1:=(m1.up H).up M
  -- what the parameters come to
  have bv: ∀{w8:World} {σ8:Q4} {K:Value→World→Prop},Stp w σ w8 σ8→SLe σ5 σ8→Sl 1 X9 σ8 pv c.methods[n].params→(∀w' V,Stp w8 σ8 w' V→K (.bool (c.methods[n].params.any fun s=> !D5 l s)) w')→Q0 P F.d [pv, .func (.func F.ah) #[] #[.pointer (some q7)]] w8 K:=by
   intro w8 σ8 K q ab m1 hK
   refine F3 (fun s=> !D5 l s) q.sat m1 (fun x w9 K _ eh hx d5=>Q7b eh (ht.lift ⟨q.le⟩) (y.lift ab) (az.lift ab) hx fun w' V hk=>d5 w' hk.bel) fun w9 hb=>hK w9 σ8 (Stp.of_below q.sat hb)
  cases e1:D5 l c.methods[n].result with
  | true=>
   rw[e1] at D A
   simp only[↓M2,M2,Mb,reduceIte]
   refine ld M.sat Y rfl ?_
   (try simp only[↓M2,M2,Mb,reduceIte])
   refine bv q ab m1 fun w9 σ9 J=>?_
   cases e2:c.methods[n].params.any fun s=> !D5 l s with
   | true=>
    rw[e2] at D
    simp only[↓M2,M2,Mb,reduceIte]
    exact D rfl (q.trans J)
   | false=>
    rw[e2] at A
    simp only[↓M2,M2,Mb,reduceIte]
    exact A rfl (q.trans J) (ab.more ⟨J.le⟩)
  | false=>
   rw[e1] at D A
   simp only[↓M2,M2,Mb,reduceIte]
   refine ld M.sat Y rfl ?_
   simp only[↓M2,M2,Mb,reduceIte]
   by_cases e3:c.methods[n].result=[]
   ·rw[decide_eq_true e3] at D A
    simp only[decide_eq_true e3,↓M2,M2,Mb,reduceIte]
    refine ld M.sat Y rfl ?_
    (try simp only[↓M2,M2,Mb,reduceIte])
    refine bv q ab m1 fun w9 σ9 J=>?_
    cases e2:c.methods[n].params.any fun s=> !D5 l s with
    | true=>
     rw[e2] at D
     simp only[↓M2,M2,Mb,reduceIte]
     exact D rfl (q.trans J)
    | false=>
     rw[e2] at A
     simp only[↓M2,M2,Mb,reduceIte]
     exact A rfl (q.trans J) (ab.more ⟨J.le⟩)
   ·rw[decide_eq_false e3] at D
    simp only[decide_eq_false e3,↓M2,M2,Mb,reduceIte]
    exact D rfl q
 have g: ¬n<c.methods.length:=by simpa using hh
 rw[D0 g] at E
 have cj:C7 l c=false:=by
  unfold C7
  unfold Nn at E
  rw[d6,E];rfl
 rw[if_neg (by rw[cj];simp)] at h
 clear E hh g a8
 have y:=y.lift aj
 have z:=z.lift aj
 refine Ar O.sat fun r1 w7 ac H t=>?_
 refine Ar H.sat fun N w8 d8 M u=>?_
 have aw:=t.lt
 have t:=t.up M
 have dy:r1≠N:=by omega
 have q:=(O.trans H).trans M
 have ey:w.heap.size≤r1:=Nat.le_trans O.bel.size ac
 have e6:w.heap.size≤N:=Yt d8 (O.trans H)
 refine B5 M.sat fun b1 w9 σ9 dx J C=>?_
 refine B5 J.sat fun b2 d4 fy dw ag B=>?_
 have eo:=C.lt
 have ew:=t.lt
 have ez:=u.lt
 have t:=(t.up J).up ag
 have u:=(u.up J).up ag
 have C:=C.up ag
 have dp:=(q.trans J).trans ag
 have bs:w.heap.size≤b1:=Yt dx q
 have bq:w.heap.size≤b2:=Yt dw (q.trans J)
 refine st0 C (by simp[Value.cells]) rfl rfl fun c9 ci C=>?_
 have ct:=ci.stp dp bs C.1
 have B:=B.upd ci (by omega)
 have dn:Kpt (fun k=>k=b1) d4 c9:=Kpt.of_upd ci rfl
 have t:=t.kp dn (by omega)
 have u:=u.kp dn (by omega)
 refine st0 B (by simp[Value.cells]) rfl rfl fun aq ck B=>?_
 have c1:=ck.stp ct bq B.1
 have C:=C.upd ck (by omega)
 have c5:Kpt (fun k=>k=b2) c9 aq:=Kpt.of_upd ck rfl
 have t:=t.kp c5 (by omega)
 have u:=u.kp c5 (by omega)
 obtain ⟨b5,cp,bc,di,ak⟩:=C.keep c1 bs
 have B:Z5 b5 aq b2 _:=⟨(ak b2 (by omega)).trans B.1,B.2⟩
 have t:E0 b5 aq r1 []:=⟨(ak r1 (by omega)).trans t.1,t.2⟩
 have u:E0 b5 aq N []:=⟨(ak N (by omega)).trans u.1,u.2⟩
 obtain ⟨a4,ah,bj,bz,be⟩:=B.keep cp bq
 have t:E0 a4 aq r1 []:=⟨(be r1 (by omega)).trans t.1,t.2⟩
 have u:E0 a4 aq N []:=⟨(be N (by omega)).trans u.1,u.2⟩
 have bc:=bc.le bz
 have bc:Z3 a4 ⟨b1,0,none⟩ [.map (some r1)]:=bc
 have bj:Z3 a4 ⟨b2,0,none⟩ [.map (some N)]:=bj
 have c7:SLe σ6 a4:=⟨fun b o e=>bz b o (di b o (ag.le b o (J.le b o (M.le b o (H.le b o e)))))⟩
 clear C B
 have y:=y.lift c7
 have z:=z.lift c7
 refine X8 ah.sat y rfl ?_
 rw[fa]
 refine ld ah.sat z rfl ?_
 rw[Qf]
 refine Q6j Ef ([],[]) (fun s w'=>N0 (w'.heap[r1]?) (F4 s.1)∧N0 (w'.heap[N]?) (F4 s.2)) (fun k=>k=r1∨k=N) ah.sat (ht.lift ⟨ah.le⟩) ok.len ok.sm g4
  (fun k hk=>by rcases hk with rfl | rfl;exact ⟨t.lt,t.1⟩;exact ⟨u.lt,u.1⟩) (fun s wa wb hi hk=>by rw[hk r1 (.inl rfl),hk N (.inr rfl)];exact hi) ⟨t.2,u.2⟩
  (fun s d ds wa σa K le ea cw hi hr dv hK=>?_) fun fi b7 ai b0=>?_
 ·have dl:=(U4 dv).2.1
  exact Q5m ea hr (ok.sm d dl) (ok.nm d dl) (bc.lift le) (bj.lift le) (cw r1 (.inl rfl)) (cw N (.inr rfl)) dy hi.1 hi.2 hK
 have Q:=ah.nx ai fun k hk=>by rcases hk with rfl | rfl<;>assumption
 obtain ⟨dc,cz⟩:=Q1A (Wk l c.name) [] ([],[]) 0 X1S
 rw[List.nil_append,←Q6x] at dc cz
 cases cy:(Z9 Ef ([],[]) (Wk l c.name) 0).1.isSome with
 | true=>
  have:Xs l c=true:=(Q3k _).2 (dc cy)
  rw[if_pos this] at h
  refine V9 ?_
  exact h _ _ Q
 | false=>
  have bi:=cz cy
  have:Xs l c=false:=by
   cases e:Xs l c with
   | false=>rfl
   | true=>exact absurd ((Q3k _).1 e) bi.no
  rw[if_neg (by rw[this];simp)] at h
  refine W0 ?_
  have y:=y.lift ai.le
  have z:=z.lift ai.le
  rw[fa]
  refine ld Q.sat z rfl ?_
  unfold Mx at h
  cases db:c.abs with
  | true=>
   rw[db] at h
   refine V9 ?_
   exact h _ _ Q
  | false=>
   rw[db] at h
   simp only[Bool.not_false,Bool.true_and] at h
   refine W0 ?_
   refine X8 Q.sat (bj.lift ai.le) rfl ?_
   generalize fb:(Z9 Ef ([],[]) (Wk l c.name) 0).2=st at bi b0
   obtain ⟨es,am,e1,e2,e3,e4⟩:=b0.2
   have c8:b7 N=none:=(ai.old N u.lt).trans u.1
   obtain ⟨dm,dj⟩:=X0t e2
   refine X2h (tm:=inferInstance) Q.sat e1 fun ib fd eb ec an d7=>?_
   have br:=(Array.getElem?_eq_some_iff.1 e1).1
   refine Fb (fun d _ w'=> ∃(V:Q4) (U:Array Nat),d=es.toList.countP (fun e=> !U.contains e.born)∧Stp w σ w' V∧SLe b7 V∧V N=none∧w'.heap[N]? =some (.map es am)∧It V w' ib N es am U∧ ∀e∈es.toList,e.born∈U→ ∀k,e.key=S k→Xl l c.name k=false) _
    ⟨eb, #[],rfl,Q.trans an,⟨an.le⟩,(an.old N br).trans c8,(an.bel.block N br).trans e1,d7,by simp⟩ ?_
   rintro b9 d x dd e9 ⟨df,U,rfl,bp,ao,c4,a1,ay,ba⟩ ei
   have dh:w.heap.size≤ib:=Nat.le_trans Q.bel.size ec
   refine X2t ay a1 e4 (fun cr=>?_) fun e c3 bk a5 bw b8 c6=>?_
   ·refine V6 (vs:=[_]) rfl ?_
    refine W0 ?_
    have:((Vj l c.name).any fun m=>Xl l c.name m.name)=false:=by
     rw[List.any_eq_false]
     intro m hm
     obtain ⟨e,he,bg⟩:=dj m.name ((bi.c m.name).2 ⟨m,hm,rfl⟩)
     rw[ba e he (cr e he) _ bg];simp
    rw[this] at h
    exact h _ _ bp
   ·refine V6 (vs:=[_,_,_]) rfl ?_
    refine V9 ?_
    have ap:c3.heap[N]? =some (.map es am):=by
     rw[bw.block N (Array.getElem?_eq_some_iff.1 a1).1 (by omega)];exact a1
    have ch:=ay.1
    have ae:Stp w σ c3 df:=bp.kp bw fun k hk=>by rw[hk];exact ⟨dh,ch⟩
    refine X1P c6 ap bk (e3.imp fun b4=>Nat.ne_of_lt b4) ?_
    refine V6 (vs:=[_,_]) rfl ?_
    obtain ⟨k,bg,dz⟩:=dm e bk
    have er:SLe b7 df:=ao
    refine X8 ae.sat (y.lift ao) rfl ?_
    rw[fa]
    refine ld ae.sat (z.lift ao) rfl ?_
    rw[bg]
    refine Q9L ae.sat (ht.lift ⟨ae.le⟩) ok fun pv cv hv fr fp L cx=>?_
    refine V6 (vs:=[_,_,_]) rfl ?_
    refine V6 (vs:=[_,_,_]) rfl ?_
    refine V6 (vs:=[_,_,_]) rfl ?_
    refine Y6 L.sat (by rfl) rfl (Rep.one cx) fun fl em d1 X bu=>?_
    have bd:=(ae.trans L).trans X
    have R:Xl l c.name k=true→ ∀{w8:World} {σ8:Q4},Stp w σ w8 σ8→K (.int .i64 67) w8:=fun hb w8 σ8 q=>by
     obtain ⟨m,hm,cj⟩:=(bi.c k).1 dz
     have:((Vj l c.name).any fun m=>Xl l c.name m.name)=true:=List.any_eq_true.2 ⟨m,hm,by rw[cj];exact hb⟩
     rw[this] at h
     exact h _ _ q
    have b3:Xl l c.name k=false→b9 () em:=fun hb=>by
     have cq: ∀e':MapEntry,e'.born∈U.push e.born↔e'.born∈U∨e'.born=e.born:=fun e'=>by simp
     refine ei _ _ _ ?_ ⟨d1,U.push e.born,rfl,bd,ao.more ⟨fun b o h=>X.le _ _ (L.le _ _ h)⟩,?_,?_,(b8.step L).step X,fun e' c2 ef k' cb=>?_⟩
     ·refine Q2U (fun x _ hx=>?_) ⟨e,bk,?_,?_⟩
      ·simp only[Bool.not_eq_true',Array.contains_push,Bool.or_eq_false_iff] at hx⊢
       exact hx.1
      ·simpa using a5
      ·simp
     ·have a7:=(Array.getElem?_eq_some_iff.1 ap).1
      rw[X.old N (Nat.lt_of_lt_of_le a7 L.bel.size),L.old N a7];exact c4
     ·have a7:=(Array.getElem?_eq_some_iff.1 ap).1
      rw[X.bel.block N (Nat.lt_of_lt_of_le a7 L.bel.size),L.bel.block N a7];exact ap
     ·rcases (cq e').1 ef with h1 | h1
      ·exact ba e' c2 h1 k' cb
      ·have:e'=e:=by
        have d0:(es.toList.map (·.born)).Nodup:=e3.imp fun b4=>Nat.ne_of_lt b4
        obtain ⟨i,hi,rfl⟩:=List.getElem_of_mem c2
        obtain ⟨j,hj,rfl⟩:=List.getElem_of_mem bk
        have h5:(es.toList.map (·.born))[i]'(by simpa using hi)=(es.toList.map (·.born))[j]'(by simpa using hj):=by simpa using h1
        have:=(List.getElem_inj d0).1 h5
        subst this;rfl
       subst this
       rw[bg] at cb
       have:k=k':=by
        have:=cb
        simp at this
        exact this
       rw[←this];exact hb
    unfold Xl at R b3
    cases c0:J8 l c.name k with
    | none=>
     rw[c0] at R
     simp only[↓M2,M2,Mb,reduceIte,Option.isSome_none]
     exact R rfl bd
    | some r=>
     rw[c0] at R b3 bu
     simp only[↓M2,M2,Mb,reduceIte,Option.isSome_some]
     refine ld X.sat bu rfl ?_
     (try simp only[↓M2,M2,Mb,reduceIte])
     cases bh:r.2.abs with
     | true=>
      exact Q5 (fun _=>R bh bd) (fun e=>absurd (bh.symm.trans e) (by simp))
     | false=>
      exact Q5 (fun e=>absurd (bh.symm.trans e) (by simp)) (fun _=>b3 bh))
end Go.Proofs.YtfppjenblllfaaaGreatDoor

namespace Go.Emb
open Go.RowKit Go.Hm
variable {P : Program} {w w0 w1 w' w'' : World} {K : Value → World → Prop} {σ σ0 σ1 σ' : Q4}
theorem X0m {t e:TypeId} {n by_:Nat} {z:Value} [ta:TA P t n e] [tz:TZ P e 1 by_ z] [tg:TG P e false] {cs:List Value} {i:Nat} {v:Value} (c:i<n) (a:cs[i]? =some v) (h:K v w):E2 P t (.agg cs.toArray) (I i) w K:=by
 unfold E2
 have b:(0:Int)≤i∧(i:Int)<n:=⟨by omega,by omega⟩
 rw[Y0 (v:=v) (w':=w) (by
  simp only[Instr.index,asIntOf,Sem.run_bind,Sem.run_pure,Result.andThen_ok,run_underlying ta.h,b,and_self,if_true,W4 tz,part,Yw tg]
  simp[a])]
 exact h
theorem Q72 {α:Type} {R:Q4→α→List Value→Prop} {B sz:Nat} {e:TypeId} {v:Value} {xs:List α} {a t:TypeId} {cs:List Bool} [ts:TS P a e] (h:V0 B e sz R σ w v xs) (b:K (I xs.length) w):X5 P .len [a] t cs [v] w K:=Hw (U0.of_acc h) b
theorem Q33 {α:Type} {R:Q4→α→List Value→Prop} {B sz:Nat} {e:TypeId} {v:Value} {xs:List α} (h:V0 B e sz R σ w v xs):v.cells= #[v]∧v.oneCell'=true:=by
 obtain ⟨cells,b,_⟩:=h
 rcases b.2 with ⟨rfl,_⟩ | ⟨g,a,c,rfl,_⟩<;>exact ⟨rfl,rfl⟩
end Go.Emb
namespace Go.Proofs.YtfppjenblllfaaaGreatDoor
open Go.Emb Go.RowKit Go.Kd Go.Hm
variable {w : World} {K : Value → World → Prop} {σ : Q4} {v : Value} {l : List Cla}
theorem X0I (A:X4 w σ) (D:Glb σ) (h: ∀t w' σ',Stp w σ w' σ'→V0 w.heap.size T.a 8 U6 σ' w' t F0→K t w'):Q0 P F.cp [] w K:=Q4l (by
 unfold Pa
 refine V7 (cells:= #[S Z8,S [], .slice none 0 0, .bool false, .bool false, .bool false, .slice none 0 0, .slice none 0 0]) (by kernel_rfl) ?_
 refine V7 (cells:= #[S K3,S N6, .bool false]) (by kernel_rfl) ?_
 refine O7 (R:=D6) (sz:=3) A [.agg #[S K3,S N6, .bool false]] [⟨K3,N6,false⟩] rfl rfl (by simp;rfl) rfl ⟨⟨rfl,by decide,by decide⟩,trivial⟩ fun M w1 σ1 e k=>?_
 have o:=k
 obtain ⟨y,b,rfl,_⟩:=o
 refine V7 (cells:= #[S V8,S Z8, .slice none 0 0, .bool false, .bool false, .bool false, .slice y 1 b, .slice none 0 0]) (by kernel_rfl) ?_
 refine I6 (R:=U6) (sz:=8) e [.agg #[S Z8,S [], .slice none 0 0, .bool false, .bool false, .bool false, .slice none 0 0, .slice none 0 0], .agg #[S V8,S Z8, .slice none 0 0, .bool false, .bool false, .bool false, .slice y 1 b, .slice none 0 0]]
  [⟨Z8,[],[],false,false,false,[],[]⟩,⟨V8,Z8,[],false,false,false,[⟨K3,N6,false⟩],[]⟩] rfl rfl (by simp;exact ⟨rfl,rfl⟩) rfl
  ⟨⟨_,_,_,rfl,Sl.nil,Sl.nil,Sl.nil,by decide,by decide⟩,⟨_,_,_,rfl,Sl.nil,k,Sl.nil,by decide,by decide⟩,trivial⟩ fun L J g j _=>?_
 have q:=D.lift ⟨e.le⟩
 refine Z1 (cs:=J0.map S) g.sat q.flt rfl ?_
 refine O9 6 (fun n a w'=> ∃σ',Stp w σ w' σ'∧V0 w.heap.size T.a 8 U6 σ' w' a ([⟨Z8,[],[],false,false,false,[],[]⟩,⟨V8,Z8,[],false,false,false,[⟨K3,N6,false⟩],[]⟩]++(J0.take n).map fun n=>⟨n,V8,[],false,false,true,[],[]⟩)) ⟨σ1,e.trans g,j⟩ fun n a N d O i=>?_
 obtain ⟨H,p,c⟩:=i
 have C:J0.length=6:=rfl
 refine Z0 ?_
 refine Q5 (fun hh=>?_) (fun hh=>?_)
 ·have f:n<6:=by have:=of_decide_eq_true hh;omega
  refine X0m (v:=S (J0[n]'(by omega))) f (by rw[List.getElem?_map,List.getElem?_eq_getElem (by omega)];rfl) ?_
  refine V7 (cells:= #[S (J0[n]'(by omega)),S V8, .slice none 0 0, .bool false, .bool false, .bool true, .slice none 0 0, .slice none 0 0]) (by kernel_rfl) ?_
  have m:(J0[n]'(by omega)).length≤10:=by
   have: ∀x∈J0,x.length≤10:=by decide
   exact this _ (List.getElem_mem _)
  refine Uc (x:=⟨J0[n]'(by omega),V8,[],false,false,true,[],[]⟩) p c ⟨_,_,_,rfl,Sl.nil,Sl.nil,Sl.nil,Nat.le_trans m (by decide),(by decide:V8.length≤Z7)⟩ rfl rfl rfl (by simp;omega) (by simp;omega) fun s t E z B r u _=>?_
  refine D7 ?_
  refine Z6 (by omega) f ⟨z,r,?_⟩
  rw[List.take_add_one,List.getElem?_eq_getElem (by omega),List.map_append,←List.append_assoc]
  exact u
 ·have f: ¬n<6:=by have:=of_decide_eq_false hh;omega
  rw[List.take_of_length_le (by omega)] at c
  exact h _ _ _ p c)
end Go.Proofs.YtfppjenblllfaaaGreatDoor

namespace Go.Hm
open Go.Kd
def L4 {α:Type} (f:α→Int):List α→Nat→Option (Nat×Int)
 | [],_=>none
 | x::r,i=>if f x=0 then L4 f r (i+1) else some (i,f x)
theorem Xm {α:Type} {f:α→Int}: ∀{l:List α} {i:Nat},L4 f l i=none→ ∀x∈l,f x=0
 | [],_,_=>by simp
 | x::r,i,h=>by
  simp only[L4] at h
  split at h
  ·rename_i a
   intro y hy
   rcases List.mem_cons.1 hy with rfl | hy
   ·exact a
   ·exact Xm h y hy
  ·cases h
def Dt (a:List Cla):Option Nat:=(List.range a.length).find? fun i=>(Y4 (a.take i) (Y1 a i)).isSome
def Q7 (l:List Cla):List Cla:=F0++l
def Gr (a:Cla→Int) (l:List Cla):Option (Int×Int):=match L4 a l 0 with
 | some (i,e)=>some (i,e)
 | none=>match Dt (Q7 l) with
  | some i=>some ((i:Int)-8,60)
  | none=>match L4 (fun c=>(L5 (Q7 l) c:Int)) l 0 with
   | some (i,e)=>some (i,e)
   | none=>match l.findIdx? (G6 (Q7 l)) with
    | some i=>some (i,63)
    | none=>match (V3 (Q7 l) 8).find? fun j=> !decide (U8 (Q7 l) ((Q7 l).getD j Cla.zero)=0) with
     | some j=>some ((j:Int)-8,U8 (Q7 l) ((Q7 l).getD j Cla.zero))
     | none=>none
theorem Q55 {s:X0} (h:name s=true):s.length≤32:=by
 cases s with
 | nil=>simp
 | cons c r=>simp only[name,Bool.and_eq_true,decide_eq_true_eq] at h;exact h.1.1
theorem Q9E {s:X0} (h:W2 s=true):s.length≤32:=Q55 (Wd (by rw[h,Bool.or_true]))
theorem Q6V {s:X0} (h:L8 s=true):s.length≤32:=by
 cases s with
 | nil=>simp
 | cons c r=>simp only[L8,Bool.and_eq_true] at h;exact Q55 h.1
theorem Q1q {a:List Cla} (h:Dt a=none):G1 a:=by
 unfold Dt at h
 rw[List.find?_eq_none] at h
 unfold G1
 rw[List.nodup_iff_pairwise_ne,List.pairwise_iff_getElem]
 intro i j d b k e
 simp only[List.length_map] at d b
 have:=h j (by simp;exact b)
 apply this
 simp only[List.getElem_map] at e
 cases g:Y4 (a.take j) (Y1 a j) with
 | some _=>rfl
 | none=>
  have c:=List.findIdx?_eq_none_iff.1 g a[i] (List.mem_take_iff_getElem.2 ⟨i,by omega,rfl⟩)
  have f:Y1 a j=a[j].name:=by unfold Y1;rw[List.getD_eq_getElem?_getD,List.getElem?_eq_getElem b];rfl
  rw[f] at c
  simp[e] at c
theorem Yr: ∀c∈F0,P8 c∧Nm c∧c.like=[]:=by
 have h: ∀c∈F0,(c.like=[]∧c.methods=[]∧c.fields.length≤1∧c.name.length≤100∧ ∀f∈c.fields,f.name.length≤100∧f.kind.length≤100):=by decide
 intro c e
 obtain ⟨b,a,i,d,g⟩:=h c e
 refine ⟨⟨by rw[b];simp,by omega,by rw[a];simp,by rw[a];simp⟩,⟨d,g,by rw[a];simp⟩,b⟩
theorem Q97: ∀c∈F0,(c.name=Z8∧J3 c=[[]])∨(c.name=V8∧J3 c=[Z8])∨(c.name∈J0∧J3 c=[V8]):=by decide
theorem Q7J {l:List Cla} (q:G1 (Q7 l)) (z: ∀c∈l,c.name≠[]) (y: ∀c∈l,G6 (Q7 l) c=false):Yg (Q7 l):=by
 have k:lk (Q7 l) []=none:=by
  cases h:lk (Q7 l) [] with
  | none=>rfl
  | some c=>
   obtain ⟨e,hm,_⟩:=U4 h
   rcases List.mem_append.1 hm with hm | hm
   ·have: ∀c∈F0,c.name≠[]:=by decide
    exact absurd e (this c hm)
   ·exact absurd e (z c hm)
 have j:lk (Q7 l) Z8=some ⟨Z8,[],[],false,false,false,[],[]⟩:=q.lk (c:=⟨Z8,[],[],false,false,false,[],[]⟩) (List.mem_append_left _ (by decide))
 have i:lk (Q7 l) V8=some ⟨V8,Z8,[],false,false,false,[⟨K3,N6,false⟩],[]⟩:=q.lk (c:=⟨V8,Z8,[],false,false,false,[⟨K3,N6,false⟩],[]⟩) (List.mem_append_left _ (by decide))
 have o: ∀b,¬Reach (lk (Q7 l)) [] b:=fun b h=>by obtain ⟨c,d⟩:=h.left;rw[k] at d;cases d
 have p: ∀b,Reach (lk (Q7 l)) Z8 b→b=Z8:=by
  intro b h
  cases h with
  | refl=>rfl
  | step d f g=>
   rw[j] at d;cases d
   simp[J3] at f;subst f
   exact absurd g (o b)
 have v: ∀b,Reach (lk (Q7 l)) V8 b→b=V8∨b=Z8:=by
  intro b h
  cases h with
  | refl=>exact .inl rfl
  | step d f g=>
   rw[i] at d;cases d
   simp[J3] at f;subst f
   exact .inr (p b g)
 rintro a ⟨c,d,u,f,g⟩
 obtain ⟨e,hm,_⟩:=U4 d
 rcases List.mem_append.1 hm with hm | hm
 ·rcases Q97 c hm with ⟨m,n⟩ | ⟨m,n⟩ | ⟨m,n⟩<;>rw[n] at f<;>simp at f<;>subst f
  ·exact o _ g
  ·have:=p _ g
   rw[←e,m] at this
   exact absurd this (by decide)
  ·have w: ∀x∈J0,x≠V8∧x≠Z8:=by decide
   obtain ⟨r,t⟩:=w _ m
   rw[←e] at g
   rcases v _ g with h | h
   ·exact r h
   ·exact t h
 ·have:=y c hm
  unfold G6 at this
  have s:=List.any_eq_false.1 this u f
  apply s
  rw[List.contains_iff_mem,Zy,e];exact g
end Go.Hm
namespace Go.Proofs.YtfppjenblllfaaaGreatDoor
open Go.Emb Go.RowKit Go.Kd Go.Hm
theorem Q21 {s:X0} (h:right s=true):s.length≤38:=by
 simp only[right,Bool.and_eq_true,decide_eq_true_eq] at h
 have e:=Ax s
 have:(base s).1.length≤32:=by
  have d:=h.2
  have a:=Wd d
  cases b:(base s).1 with
  | nil=>simp
  | cons c r=>
   rw[b] at a
   simp only[name,Bool.and_eq_true,decide_eq_true_eq] at a
   exact a.1.1
 omega
theorem Q0v {c:Cla} (h:M4 c=0):P8 c∧Nm c∧c.name≠[]:=by
 unfold M4 at h
 split at h
 ·cases h
 ·rename_i b
  split at h
  ·rename_i g
   simp only[Xw,Bool.or_eq_true,decide_eq_true_eq,not_or,List.any_eq_true,not_exists,not_and] at b
   obtain ⟨⟨⟨l,v⟩,A⟩,u⟩:=b
   simp only[Lj,Bool.and_eq_true] at g
   obtain ⟨⟨⟨⟨⟨⟨⟨⟨k,y⟩,w⟩,z⟩,t⟩,s⟩,B⟩,r⟩,n⟩:=g
   have a:W2 c.name=true:=List.all_eq_true.1 k c.name (by simp)
   have d: ∀m∈c.methods,m.params.length≤32∧m.catches.length≤32∧m.code.length≤200:=fun m b=>by
    have:=l m b
    simp only[Ui,Bool.or_eq_true,decide_eq_true_eq,not_or] at this
    omega
   refine ⟨⟨by omega,by omega,by omega,fun m b=>by have:=d m b;unfold SmM;omega⟩,⟨by have:=Q9E a;omega,fun f o=>?_,fun m b=>?_⟩,fun e=>by rw[e] at a;simp[W2] at a⟩
   ·have:=List.all_eq_true.1 r f o
    simp only[Nv,Bool.and_eq_true] at this
    have j:=Q6V this.1
    have i:=Q21 this.2
    omega
   ·have:=List.all_eq_true.1 n m b
    simp only[C6,Bool.and_eq_true,Bool.or_eq_true,decide_eq_true_eq,List.all_eq_true] at this
    obtain ⟨⟨⟨_,j⟩,i⟩,_⟩:=this
    refine ⟨?_,fun p q=>by have:=Q21 (j p q);omega⟩
    rcases i with e | e
    ·rw[e];simp
    ·have:=Q21 e;omega
  ·cases h
end Go.Proofs.YtfppjenblllfaaaGreatDoor

namespace Go.Hm
open Go.Kd
theorem Uj {α:Type} {f:α→Int} {xs:List α} {n:Nat} (h:n<xs.length) (a:L4 f xs 0=L4 f (xs.drop n) n):L4 f xs 0=if f xs[n]=0 then L4 f (xs.drop (n+1)) (n+1) else some (n,f xs[n]):=by
 rw[a,List.drop_eq_getElem_cons h];rfl
theorem Q6z {a:List Cla} {n:Nat} (h:n<a.length) (k:X0):Y4 (a.take (n+1)) k=match Y4 (a.take n) k with
 | some i=>some i
 | none=>if a[n].name=k then some n else none:=by
 unfold Y4
 rw[List.take_add_one,List.getElem?_eq_getElem h]
 simp only[Option.toList_some,List.findIdx?_append]
 cases (a.take n).findIdx? fun c=>decide (c.name=k) with
 | some i=>rfl
 | none=>
  simp only[Option.none_or,List.findIdx?_cons,List.findIdx?_nil,List.length_take]
  by_cases e:a[n].name=k
  ·simp[e];omega
  ·simp[e]
end Go.Hm
namespace Go.Proofs.YtfppjenblllfaaaGreatDoor
open Go.Emb Go.RowKit Go.Kd Go.Hm
variable {w : World} {K : Value → World → Prop} {σ : Q4} {v : Value} {l : List Cla}
theorem Fl {a:List Cla} {n:Nat} (h:n<a.length):Y1 a n=a[n].name:=by unfold Y1;rw[List.getD_eq_getElem?_getD,List.getElem?_eq_getElem h];rfl
set_option maxHeartbeats 1000000 in
theorem X2g {lv:Value} (hs:X4 w σ) (hg:Glb σ) (hl:Sl 8 U6 σ lv l) (hlen:l.length≤1000) (hsm: ∀c∈l,P8 c)
 (h1: ∀i e w' σ',Gr M4 l=some (i,e)→Stp w σ w' σ'→K (.tuple #[.pointer none,I i,I e]) w')
 (h0: ∀v w' σ',Gr M4 l=none→Stp w σ w' σ'→Tab σ' v (Q7 l)→Ok (Q7 l)→G1 (Q7 l)→K (.tuple #[v,I 0,I 0]) w'):Q0 P F.cF [lv] w K:=Q6S (by
 unfold Q1B
 have hgl:F0.length=8:=rfl
 have hal:(Q7 l).length=8+l.length:=by simp[Q7,hgl]
 refine X0I hs hg fun x0 w1 σ1 hk1 ha1=>?_
 refine Ar hk1.sat fun r w2 hr hk2 hm2=>?_
 have ha2:=ha1.up hk2
 have hx0:x0.cells= #[x0]∧x0.oneCell'=true:=Q33 ha1
 have hx0s: ∃a n c,x0= .slice a n c:=by
  obtain ⟨cells,q1,_⟩:=ha1
  rcases q1.2 with ⟨rfl,_⟩ | ⟨g,cap,cur,rfl,_⟩<;>exact ⟨_,_,_,rfl⟩
 have hx0r:x0.ownBlock≠some r:=fun e=>by have:=(ha1.mem r e).2.1;omega
 obtain ⟨a0,n0,c0,hx0e⟩:=hx0s
 rw[hx0e]
 refine V7 (cells:= #[.slice a0 n0 c0, .map (some r)]) (by kernel_rfl) ?_
 rw[←hx0e]
 refine Pu (cs:=[x0, .map (some r)]) hk2.sat fun bt w3 σ3 hbt hk3 hbm=>?_
 have hS3:=(hk1.trans hk2).trans hk3
 have ha3:=ha2.up hk3
 have hm3:=hm2.up hk3
 have hrw:w.heap.size≤r:=Nat.le_trans hk1.bel.size hr
 have hrl:r<w2.heap.size:=hm2.lt
 have hbtw:w.heap.size≤bt:=Yt hbt (hk1.trans hk2)
 have hrbt:r≠bt:=by omega
 have hx0b:x0.ownBlock≠some bt:=fun e=>by have:=(ha2.mem bt e).2.1;omega
 rw[E7,fa]
 refine Jk hbm rfl ?_
 refine Q72 ha3 ?_
 rw[hgl]
 have hl3:=hl.up hS3
 refine Q9 hl3 ?_
 -- classes, each by itself
 refine J5 l.length (fun n w'=> ∃σ' x,Stp w σ w' σ'∧SLe σ3 σ'∧Z5 σ' w' bt [x, .map (some r)]∧V0 w.heap.size T.a 8 U6 σ' w' x (F0++l.take n)∧E0 σ' w' r []∧x.ownBlock≠some bt∧x.ownBlock≠some r∧L4 M4 l 0=L4 M4 (l.drop n) n)
  ⟨σ3,x0,hS3,SLe.refl _,hbm,by simpa using ha3,hm3,hx0b,hx0r,rfl⟩ fun n w4 d hn hinv=>?_
 obtain ⟨σ4,x,hS4,le4,hb4,ha4,hm4,hxb,hxr,hfb⟩:=hinv
 refine Z0 ?_
 refine Q5 (fun hh=>?_) (fun hh=>?_)
 ·have hn':n<l.length:=by simpa using hh
  refine L7 (hl3.lift le4) hn' fun p cells hl1 hl2 hr1=>?_
  refine Z1 hS4.sat hl1 hl2 ?_
  refine Y6 hS4.sat (by rfl) hl2 (Rep.one hr1) fun q w5 σ5 hk5 hq5=>?_
  have hS5:=hS4.trans hk5
  have hr5:=RCl_lift hr1 ⟨hk5.le⟩
  refine Z1 hk5.sat hq5 hl2 ?_
  have hsmn:=hsm _ (List.getElem_mem hn')
  refine X0H hk5.sat (hg.lift ⟨hS5.le⟩) hr5 hsmn.1 fun w6 σ6 hk6=>?_
  have hS6:=hS5.trans hk6
  have hfb2:=Uj hn' hfb
  refine Xd ?_
  refine Q5 (fun hh2=>?_) (fun hh2=>?_)
  ·have hne: ¬M4 l[n]=0:=by simpa using hh2
   rw[if_neg hne] at hfb2
   refine h1 _ _ _ _ ?_ hS6
   unfold Gr
   rw[hfb2]
  ·have hz:M4 l[n]=0:=by simpa using hh2
   rw[if_pos hz] at hfb2
   have hk56:=hk5.trans hk6
   have hb6:=hb4.up hk56
   have ha6:=ha4.up hk56
   have hm6:=hm4.up hk56
   have hq6:=hq5.up hk6
   have hr6:=RCl_lift hr5 ⟨hk6.le⟩
   have hxs: ∀k,x.ownBlock=some k→k<w6.heap.size:=fun k hk=>(ha6.mem k hk).2.1
   refine U9 hk6.sat ?_
   refine X2 (.pointer (some ⟨bt,0,none⟩)) (fun w hb=>by rw[E7];exact X6 rfl) ?_
   refine X2 (.pointer (some ((⟨bt,0,none⟩:Addr).add 0))) (fun t w hb e=>by rw[e,fa];exact X6 rfl) ?_
   refine X2 x (fun t w hb e=>by rw[e];exact Jk (hb6.step hb.stp) rfl (X6 rfl)) ?_
   refine X2 (.agg cells.toArray) (fun w hb=>Z1 hb.sat hq6 hl2 (X6 rfl)) ?_
   refine Ri (Φ:=fun σ' v=> ∃ds:List Value,v= .agg ds.toArray∧ds.length=8∧U6 σ' l[n] ds) (fun t w hb e=>by
    rw[e];exact Q9F hb.sat hr6 hsmn fun lv fv mv w' σ' hk hrc=>Q0Q hb hk ⟨_,rfl,rfl,hrc⟩) ?_
   refine Ri (w:=w6) (σ:=σ6) (Φ:=fun σ' v=>Sl 8 U6 σ' v [l[n]]) (fun t w hb e=>by
    obtain ⟨σ',hk,ds,rfl,hd1,hd2⟩:=e
    refine O7 (R:=U6) (sz:=8) hk.sat [.agg ds.toArray] [l[n]] rfl rfl (by simpa [Value.cells] using hd1) rfl ⟨by simpa [Value.cells] using hd2,trivial⟩ fun u w2 σ2 hk2 hu=>?_
    exact ⟨hk2.bel,σ2,hk.trans hk2,hu⟩) ?_
   rintro t43 t44 t45 t46 t47 t48 w7 hb7 _ _ e45 _ _ ⟨σ8,hk8,hu8⟩
   subst e45
   have hS8:=hS6.trans hk8
   have hb8:=hb6.up hk8
   have ha8:=ha6.up hk8
   have hm8:=hm6.up hk8
   have hbl:=hb6.lt
   have hml:=hm6.lt
   refine Dl hS8 ha8 hu8 rfl (by simp[hgl];omega) (by simp[hgl];omega) fun x' w9 hn9 hS9 ha9 hat9=>?_
   have hb9:=hb8.nx hn9 hxb
   have hm9:=hm8.nx hn9 hxr
   have hxb':x'.ownBlock≠some bt:=fun e=>by
    rcases hat9 with e2 | e2
    ·exact hxb (e2▸e)
    ·have:=e2 bt e;have:=hk8.bel.size;omega
   have hxr':x'.ownBlock≠some r:=fun e=>by
    rcases hat9 with e2 | e2
    ·exact hxr (e2▸e)
    ·have:=e2 r e;have:=hk8.bel.size;omega
   obtain ⟨hxc1,hxc2⟩:=Q33 ha9
   rw[E7,fa]
   refine Mc hb9 (by simp) hxc1 hxc2 fun w10 u10 hb10=>?_
   have hS10:=u10.stp hS9 hbtw hb9.1
   have k10:Kpt (fun k=>k=bt) w9 w10:=Kpt.of_upd u10 rfl
   refine D7 ?_
   refine Y3 hl3.max hn' ⟨σ8,x',hS10,le4.more ⟨fun b o e=>hk8.le _ _ (hk56.le _ _ e)⟩,hb10,?_,hm9.kp k10 hrbt,hxb',hxr',hfb2⟩
   have:=ha9.kp k10 fun k hk e=>hxb' (e▸hk)
   rw[List.take_add_one,List.getElem?_eq_getElem hn',←List.append_assoc]
   exact this
 have hn': ¬n<l.length:=by simpa using hh
 rw[List.take_of_length_le (by omega)] at ha4
 rw[List.drop_eq_nil_of_le (by omega)] at hfb
 have hfb:L4 M4 l 0=none:=hfb
 have hck:=Xm hfb
 have hcf: ∀c∈l,P8 c∧Nm c∧c.name≠[]:=fun c hc=>Q0v (hck c hc)
 have hsmall: ∀c∈Q7 l,P8 c:=fun c hc=>by
  rcases List.mem_append.1 hc with hc | hc
  ·exact (Yr c hc).1
  ·exact (hcf c hc).1
 have hnmall: ∀c∈Q7 l,Nm c:=fun c hc=>by
  rcases List.mem_append.1 hc with hc | hc
  ·exact (Yr c hc).2.1
  ·exact (hcf c hc).2.1
 have hlenall:(Q7 l).length≤100000:=by omega
 unfold Gr at h1 h0
 rw[hfb] at h1 h0
 simp only at h1 h0
 -- from now on the classes stay
 obtain ⟨σ5,hS5,hv5,le5,old5⟩:=ha4.keep hS4
 have hb5:Z5 σ5 w4 bt _:=⟨(old5 bt fun e=>hxb e.symm).trans hb4.1,hb4.2⟩
 have hm5:E0 σ5 w4 r []:=⟨(old5 r fun e=>hxr e.symm).trans hm4.1,hm4.2⟩
 obtain ⟨σ6,hS6,hb6,le6,old6⟩:=hb5.keep hS5 hbtw
 have hm6:E0 σ6 w4 r []:=⟨(old6 r hrbt).trans hm5.1,hm5.2⟩
 have hv6:Sl 8 U6 σ6 x (Q7 l):=hv5.le le6
 clear hb5 hb4 ha4
 rw[E7,fa]
 refine ld hS6.sat hb6 rfl ?_
 refine Q9 hv6 ?_
 refine J5 (Q7 l).length (fun n w'=> ∃σ' m,Stp w σ w' σ'∧SLe σ6 σ'∧E0 σ' w' r m∧(∀k,M0 m k=(Y4 ((Q7 l).take n) k).map (fun i:Nat=>I (i:Int)))∧ ∀j,j<n→(Y4 ((Q7 l).take j) (Y1 (Q7 l) j)).isSome=false)
  ⟨σ6,[],hS6,SLe.refl _,hm6,by simp[M0,Y4],by intro j hj;omega⟩ fun n w5 d hn2 hinv=>?_
 obtain ⟨σ7,m,hS7,le7,hm7,hlm,hnd⟩:=hinv
 refine Z0 ?_
 refine Q5 (fun hh2=>?_) (fun hh2=>?_)
 ·have hn3:n<(Q7 l).length:=by simpa using hh2
  refine L7 (hv6.lift le7) hn3 fun p cells hl1 hl2 hr1=>?_
  refine Z1 hS7.sat hl1 hl2 ?_
  refine Y6 hS7.sat (by rfl) hl2 (Rep.one hr1) fun q w6 σ8 hk8 hq8=>?_
  obtain ⟨lv',fv,mv,rfl,f1,f2,f3,f4,f5⟩:=hr1
  have hS8:=hS7.trans hk8
  have le8:SLe σ6 σ8:=le7.more ⟨hk8.le⟩
  have hm8:=hm7.up hk8
  have hb8:=hb6.lift le8
  rw[fa]
  refine ld hk8.sat hq8 rfl ?_
  refine Oe ?_
  unfold Zh
  rw[E7,fa]
  refine ld hk8.sat hb8 rfl ?_
  refine Q3O X7 hm8.2 _ ?_
  refine V6 (vs:=[_,_]) rfl ?_
  refine V6 (vs:=[_,_]) rfl ?_
  have hna:=Fl hn3
  have hfd:=hlm (Q7 l)[n].name
  cases hfc:Y4 ((Q7 l).take n) (Q7 l)[n].name with
  | some i=>
   rw[hfc] at hfd
   rw[hfd]
   refine V9 ?_
   have hdup:Dt (Q7 l)=some n:=by
    unfold Dt
    rw[List.find?_range_eq_some]
    refine ⟨by rw[hna,hfc];rfl,by simpa using hn3,fun j hj=>by rw[hnd j hj];rfl⟩
   refine Dm ⟨by omega,by omega⟩ ?_
   refine h1 _ _ _ _ ?_ hS8
   rw[hdup]
   rfl
  | none=>
   rw[hfc] at hfd
   rw[hfd]
   refine W0 ?_
   refine U9 hk8.sat ?_
   refine X2 (.pointer (some ⟨bt,0,none⟩)) (fun w hb=>by rw[E7];exact X6 rfl) ?_
   refine X2 (.pointer (some ((⟨bt,0,none⟩:Addr).add 1))) (fun t w hb e=>by rw[e,fa];exact X6 rfl) ?_
   refine X2 (.pointer (some (q.add 0))) (fun w hb=>by rw[fa];exact X6 rfl) ?_
   refine X2 (.map (some r)) (fun t w hb e=>by rw[e];exact ld hb.sat hb8 rfl (X6 rfl)) ?_
   refine X2 (S (Q7 l)[n].name) (fun t w hb e=>by rw[e];exact ld hb.sat hq8 rfl (X6 rfl)) ?_
   rintro t71 t72 t74 t73 t75 w9 hb9 _ _ _ rfl rfl
   refine Db X7 (hm8.up hb9.stp) _ (I n) fun w10 u10 hm10=>?_
   have hS9:=hS8.trans hb9.stp
   have hS10:=u10.stp hS9 hrw hm10.1
   refine D7 ?_
   refine Y3 (by omega) hn3 ⟨σ8,_,hS10,le8,hm10,fun k=>?_,fun j hj=>?_⟩
   ·rw[Q2K,Q6z hn3 k]
    by_cases e:(Q7 l)[n].name=k
    ·subst e
     rw[if_pos rfl,hfc];simp
    ·rw[if_neg e,hlm k]
     cases Y4 ((Q7 l).take n) k with
     | some i=>rfl
     | none=>simp[e]
   ·by_cases e:j=n
    ·subst e;rw[hna,hfc];rfl
    ·exact hnd j (by omega)
 have hn3: ¬n<(Q7 l).length:=by simpa using hh2
 have hne:n=(Q7 l).length:=by omega
 subst hne
 rw[List.take_of_length_le (Nat.le_refl _)] at hlm
 have hdup:Dt (Q7 l)=none:=by
  unfold Dt
  rw[List.find?_eq_none]
  intro j hj
  rw[hnd j (by simpa using hj)];simp
 rw[hdup] at h1 h0
 simp only at h1 h0
 have hown:=Q1q hdup
 obtain ⟨σ8,hS8,hm8,le8,_⟩:=hm7.keep hS7 hrw
 have le68:SLe σ6 σ8:=le7.more ⟨le8⟩
 have ht8:Tab σ8 (.pointer (some ⟨bt,0,none⟩)) (Q7 l):=⟨⟨bt,0,none⟩,x,r,m,rfl,hb6.lift le68,hv6.lift le68,hm8,hlm⟩
 have hb8:=hb6.lift le68
 have hv8:=hv6.lift le68
 clear hm7 hm8 hh2 hn3 hn2 hh hn' hn hnd
 have hdr:(Q7 l).drop 8=l:=by simp[Q7,hgl]
 rw[E7,fa]
 refine ld hS8.sat hb8 rfl ?_
 refine Hj hv8 (some (I (8:Nat))) none 8 (Q7 l).length (.inr rfl) (.inl ⟨rfl,rfl⟩) (by omega) (Nat.le_refl _) fun v9 hv9=>?_
 rw[hdr,List.take_of_length_le (by omega)] at hv9
 refine Q9 hv9 ?_
 refine J5 l.length (fun n w'=> ∃σ',Stp w σ w' σ'∧SLe σ8 σ'∧L4 (fun c=>(L5 (Q7 l) c:Int)) l 0=L4 (fun c=>(L5 (Q7 l) c:Int)) (l.drop n) n) ⟨σ8,hS8,SLe.refl _,rfl⟩ fun n w6 d hn hinv=>?_
 obtain ⟨σ9,hS9,le9,hfu⟩:=hinv
 refine Z0 ?_
 refine Q5 (fun hh=>?_) (fun hh=>?_)
 ·have hn':n<l.length:=by simpa using hh
  refine L7 (hv9.lift le9) hn' fun p cells hl1 hl2 hr1=>?_
  refine Z1 hS9.sat hl1 hl2 ?_
  refine Y6 hS9.sat (by rfl) hl2 (Rep.one hr1) fun q w7 σ10 hk10 hq10=>?_
  have hS10:=hS9.trans hk10
  refine Z1 hk10.sat hq10 hl2 ?_
  have hfu2:=Uj hn' hfu
  refine Q9j hk10.sat (ht8.lift (le9.more ⟨hk10.le⟩)) (RCl_lift hr1 ⟨hk10.le⟩) fun w8 σ11 hk11=>?_
  refine Xd ?_
  refine Q5 (fun hh2=>?_) (fun hh2=>?_)
  ·have hne: ¬(L5 (Q7 l) l[n]:Int)=0:=by simpa using hh2
   rw[if_neg hne] at hfu2
   refine h1 _ _ _ _ ?_ (hS10.trans hk11)
   rw[hfu2]
  ·have hz:(L5 (Q7 l) l[n]:Int)=0:=by simpa using hh2
   rw[if_pos hz] at hfu2
   refine D7 ?_
   exact Y3 hl3.max hn' ⟨σ11,hS10.trans hk11,le9.more ⟨fun b o e=>hk11.le _ _ (hk10.le _ _ e)⟩,hfu2⟩
 have hn': ¬n<l.length:=by simpa using hh
 rw[List.drop_eq_nil_of_le (by omega)] at hfu
 have hfu:L4 (fun c=>(L5 (Q7 l) c:Int)) l 0=none:=hfu
 rw[hfu] at h1 h0
 simp only at h1 h0
 have hup:=Xm hfu
 have ht9:=ht8.lift le9
 clear hh hn' hn
 rw[E7,fa]
 refine ld hS9.sat (hb8.lift le9) rfl ?_
 refine Hj (hv8.lift le9) (some (I (8:Nat))) none 8 (Q7 l).length (.inr rfl) (.inl ⟨rfl,rfl⟩) (by omega) (Nat.le_refl _) fun v10 hv10=>?_
 rw[hdr,List.take_of_length_le (by omega)] at hv10
 rw[Qf]
 refine Cl (G6 (Q7 l)) hS9.sat hv10 (fun c cs w7 K hc hs7 hr hlen hK=>Y7 (first:=[.pointer (some ⟨bt,0,none⟩)]) (caps:=[]) ?_) fun w7 hb7=>?_
 ·exact X17 hs7 ht9 hlenall hsmall hr fun w' σ' hk=>hK w' hk.bel
 have hS10:=hS9.trans (Stp.of_below hS9.sat hb7)
 refine Jb ?_
 rw[Ja]
 cases hlo:l.findIdx? (G6 (Q7 l)) with
 | some i=>
  refine V9 ?_
  refine h1 _ _ _ _ ?_ hS10
  rw[hlo];rfl
 | none=>
  rw[hlo] at h1 h0
  simp only at h1 h0
  refine W0 ?_
  have hlo': ∀c∈l,G6 (Q7 l) c=false:=fun c hc=>List.findIdx?_eq_none_iff.1 hlo c hc
  have hacy:=Q7J hown (fun c hc=>(hcf c hc).2.2) hlo'
  have hfull:Q92 (Q7 l):=fun c hc u hu=>by
   rcases List.mem_append.1 hc with hc | hc
   ·rw[(Yr c hc).2.2] at hu;simp at hu
   ·have:=hup c hc
    unfold L5 at this
    split at this
    ·simp at this
    ·split at this
     ·simp at this
     ·rename_i hnb
      have hnb:c.like.any (O5 (Q7 l))=false:=eq_false_of_ne_true hnb
      have:=List.any_eq_false.1 hnb u hu
      unfold O5 at this
      cases hd:lk (Q7 l) u with
      | none=>rw[hd] at this;simp at this
      | some d=>exact ⟨d,rfl⟩
  have hok:Ok (Q7 l):=⟨hacy,hlenall,hsmall,hfull,hnmall⟩
  refine X10 (frm:=8) hS10.sat (ht9.lift ⟨(Stp.of_below hS9.sat hb7).le⟩) hacy hown hlenall hsmall (by omega) (by omega) fun v11 w8 σ11 hk11 hv11 hol hoi=>?_
  have hS11:=hS10.trans hk11
  have ht11:=ht9.lift ⟨fun b o e=>hk11.le _ _ e⟩
  refine Q9 hv11 ?_
  have hil:(ints (V3 (Q7 l) 8)).length=(V3 (Q7 l) 8).length:=by simp
  rw[hil]
  refine J5 (V3 (Q7 l) 8).length (fun n w'=> ∃σ',Stp w σ w' σ'∧SLe σ11 σ'∧ ∀j∈(V3 (Q7 l) 8).take n,U8 (Q7 l) ((Q7 l).getD j Cla.zero)=0) ⟨σ11,hS11,SLe.refl _,by simp⟩ fun n w9 d hn hinv=>?_
  obtain ⟨σ12,hS12,le12,hno⟩:=hinv
  refine Z0 ?_
  refine Q5 (fun hh=>?_) (fun hh=>?_)
  ·have hn':n<(V3 (Q7 l) 8).length:=by simpa using hh
   refine L7 (hv11.lift le12) (by rw[hil];exact hn') fun p cells hl1 hl2 hr1=>?_
   obtain ⟨rfl,_⟩:=hr1
   refine X8 hS12.sat hl1 rfl ?_
   simp only[List.getElem_map]
   rw[E7,fa]
   have le8x:SLe σ8 σ12:=le9.more (SLe.more ⟨hk11.le⟩ le12)
   refine ld hS12.sat (hb8.lift le8x) rfl ?_
   have hji:=hoi _ (List.getElem_mem hn')
   refine L7 (hv8.lift le8x) hji fun p2 cells hl1 hl2 hr1=>?_
   refine Z1 hS12.sat hl1 hl2 ?_
   have hat:(Q7 l).getD (V3 (Q7 l) 8)[n] Cla.zero=(Q7 l)[(V3 (Q7 l) 8)[n]]:=by rw[List.getD_eq_getElem?_getD,List.getElem?_eq_getElem hji];rfl
   have hmem:=List.getElem_mem hji
   refine Q8x hS12.sat (ht11.lift le12) hok hr1 (hsmall _ hmem) (hnmall _ hmem) fun w10 σ13 hk13=>?_
   have hS13:=hS12.trans hk13
   refine Xd ?_
   refine Q5 (fun hh2=>?_) (fun hh2=>?_)
   ·have hne: ¬U8 (Q7 l) (Q7 l)[(V3 (Q7 l) 8)[n]]=0:=by simpa using hh2
    refine Dm ⟨by omega,by omega⟩ ?_
    have hfind:(V3 (Q7 l) 8).find? (fun j=> !decide (U8 (Q7 l) ((Q7 l).getD j Cla.zero)=0))=some (V3 (Q7 l) 8)[n]:=by
     rw[List.find?_eq_some_iff_getElem]
     refine ⟨by rw[hat];simpa using hne,n,hn',rfl,fun j hj=>?_⟩
     have:=hno _ (List.mem_take_iff_getElem.2 ⟨j,by omega,rfl⟩)
     rw[this];simp
    have:=h1 (((V3 (Q7 l) 8)[n]:Int)-8) (U8 (Q7 l) (Q7 l)[(V3 (Q7 l) 8)[n]]) w10 σ13 (by rw[hfind];simp only[hat]) hS13
    exact this
   ·have hz:U8 (Q7 l) (Q7 l)[(V3 (Q7 l) 8)[n]]=0:=by simpa using hh2
    refine D7 ?_
    refine Y3 (by omega) hn' ⟨σ13,hS13,le12.more ⟨hk13.le⟩,fun j hj=>?_⟩
    rw[List.take_add_one,List.getElem?_eq_getElem hn'] at hj
    rcases List.mem_append.1 hj with hj | hj
    ·exact hno j hj
    ·simp at hj;subst hj;rw[hat];exact hz
  ·have hn': ¬n<(V3 (Q7 l) 8).length:=by simpa using hh
   rw[List.take_of_length_le (by omega)] at hno
   have hfind:(V3 (Q7 l) 8).find? (fun j=> !decide (U8 (Q7 l) ((Q7 l).getD j Cla.zero)=0))=none:=by
    rw[List.find?_eq_none]
    intro j hj
    rw[hno j hj];simp
   rw[hfind] at h0
   exact h0 _ _ _ rfl hS12 (ht11.lift le12) hok hown)
end Go.Proofs.YtfppjenblllfaaaGreatDoor

namespace Go.Hm
open Go.Kd
def Q8K (m:Hm.Met):Bool:= !(decide (50<m.code.length)||decide (8<m.params.length)||decide (8<m.catches.length))
def Q9K (c:Cla):Bool:= !(decide (6<c.like.length)||decide (6<c.fields.length)||decide (6<c.methods.length))&&c.methods.all Q8K
def Q9i (l:List Cla):Bool:= !decide (12<l.length)&&l.all Q9K
theorem Q7G {l:List Cla} (h:Q9i l=true):l.length≤12∧ ∀c∈l,Q9K c=true:=by
 simp only[Q9i,Bool.and_eq_true,Bool.not_eq_true',decide_eq_false_iff_not,List.all_eq_true] at h
 exact ⟨by omega,h.2⟩
theorem X1t {l:List Cla} (h:Q9i l=true): ∀c∈l,P8 c:=by
 intro c e
 have:=(Q7G h).2 c e
 simp only[Q9K,Q8K,Bool.and_eq_true,Bool.not_eq_true',Bool.or_eq_false_iff,decide_eq_false_iff_not,List.all_eq_true] at this
 obtain ⟨⟨⟨a,b⟩,g⟩,d⟩:=this
 refine ⟨by omega,by omega,by omega,fun m f=>?_⟩
 obtain ⟨⟨p,q⟩,r⟩:=d m f
 exact ⟨by omega,by omega,by omega⟩
end Go.Hm
namespace Go.Proofs.YtfppjenblllfaaaGreatDoor
open Go.Emb Go.RowKit Go.Kd Go.Hm
variable {w : World} {K : Value → World → Prop} {σ : Q4} {v : Value} {l : List Cla}
end Go.Proofs.YtfppjenblllfaaaGreatDoor

namespace Go.Proofs.YtfppjenblllfaaaGreatDoor
open Go.Emb Go.RowKit Go.Kd Go.Hm
variable {w : World} {K : Value → World → Prop} {σ : Q4} {v : Value} {l : List Cla}
theorem X2b:P.underlying T.r=some (.pointer T.u):=by kernel_rfl
theorem Q8Z (d:Nat) (o:Option Addr):(Op.equalIn (d+1) T.r (.pointer o) (.pointer none)).run P w= .ok o.isNone w:=by
 cases o<;>simp[Op.equalIn,run_underlying X2b]
theorem Q7K {a:Addr} {b c:Operand} (h:K (.bool false) w):Q3 P .eql T.r b c (.pointer (some a)) (.pointer none) w K:=by
 have e:(Op.equal T.r (.pointer (some a)) (.pointer none)).run P w= .ok false w:=Q8Z 9999 _
 unfold Q3
 rw[Y0 (v:= .bool false) (w':=w) (by simp[eqGuard,Go.binOp,e])]
 exact h
end Go.Proofs.YtfppjenblllfaaaGreatDoor

namespace Go.Hm
open Go.Kd
theorem clas_name {s:X0} (h:W2 s=true):name s=true:=Wd (by rw[h,Bool.or_true])
theorem Q4O {a:X0} (h:name a=true):D3 a=false:=by
 cases e:D3 a with
 | false=>rfl
 | true=>
  exfalso
  have d:2≤a.length∧a.drop (a.length-2)=[91,93]:=by simpa [D3] using e
  have b:(93:UInt8)∈a:=List.mem_of_mem_drop (i:=a.length-2) (by rw[d.2];simp)
  cases a with
  | nil=>simp at b
  | cons c r=>
   simp only[name,Bool.and_eq_true,List.all_eq_true] at h
   have:=h.2 _ b
   revert this;decide
end Go.Hm
namespace Go.Proofs.YtfppjenblllfaaaGreatDoor
open Go.Emb Go.RowKit Go.Kd Go.Hm
theorem Q8c {a:X0} (h:name a=true):base a=(a,0):=by rw[Zv,Q4O h];simp
theorem Ot {s:X0} (h:W2 s=true):D3 s=false∧base s=(s,0)∧right s=true∧plain s=false∧elem s=[]∧s≠C2∧s≠[]:=by
 have d:=Hm.clas_name h
 have a:=Q4O d
 have c:=Q8c d
 refine ⟨a,c,?_,?_,by simp[elem,a],?_,?_⟩
 ·simp[right,c,h]
 ·cases b:plain s with
  | false=>rfl
  | true=>
   simp only[plain,Bool.or_eq_true,decide_eq_true_eq] at b
   rcases b with (e | e) | e<;>subst e<;>revert h<;>decide
 ·rintro rfl;revert h;decide
 ·rintro rfl;revert h;decide
structure Wf (l : List Cla) : Prop where
  ck : ∀ c ∈ l, M4 c = 0
  own : G1 (Q7 l)
  acy : Yg (Q7 l)
  up : ∀ c ∈ l, L5 (Q7 l) c = 0
  mem : ∀ c ∈ l, U8 (Q7 l) c = 0
section
variable {l : List Cla} (wf : Wf l)
include wf
theorem Wf.names {c:Cla} (hc:c∈Q7 l):W2 c.name=true:=by
 rcases List.mem_append.1 hc with hc | hc
 ·have: ∀c∈F0,W2 c.name=true:=by decide+kernel
  exact this c hc
 ·have:=wf.ck c hc
  unfold M4 at this
  split at this
  ·cases this
  ·split at this
   ·rename_i a
    simp only[Lj,Bool.and_eq_true] at a
    obtain ⟨⟨⟨⟨⟨⟨⟨⟨b,_⟩,_⟩,_⟩,_⟩,_⟩,_⟩,_⟩,_⟩:=a
    exact List.all_eq_true.1 b c.name (by simp)
   ·cases this
theorem Wf.lkn {n:X0} {c:Cla} (h:lk (Q7 l) n=some c):W2 n=true:=by
 obtain ⟨e,a,_⟩:=U4 h
 rw[←e];exact wf.names a
theorem Wf.root:lk (Q7 l) Z8=some ⟨Z8,[],[],false,false,false,[],[]⟩:=wf.own.lk (c:=⟨Z8,[],[],false,false,false,[],[]⟩) (List.mem_append_left _ (by decide))
theorem Wf.fault:lk (Q7 l) V8=some ⟨V8,Z8,[],false,false,false,[⟨K3,N6,false⟩],[]⟩:=wf.own.lk (c:=⟨V8,Z8,[],false,false,false,[⟨K3,N6,false⟩],[]⟩) (List.mem_append_left _ (by decide))
theorem Wf.super {c:Cla} (hc:c∈Q7 l):c.name=Z8∨ ∃d,lk (Q7 l) c.super=some d:=by
 rcases List.mem_append.1 hc with hc | hc
 ·have: ∀c∈F0,c.name=Z8∨c.super=Z8∨c.super=V8:=by decide
  rcases this c hc with h | h | h
  ·exact .inl h
  ·exact .inr ⟨_,h▸wf.root⟩
  ·exact .inr ⟨_,h▸wf.fault⟩
 ·right
  have:=wf.up c hc
  unfold L5 at this
  split at this
  ·cases this
  ·rename_i h
   unfold P4 at h
   cases a:lk (Q7 l) c.super with
   | none=>rw[a] at h;simp at h
   | some d=>exact ⟨d,rfl⟩
theorem Wf.atRoot {b:X0} (h:Hm.Reach (lk (Q7 l)) Z8 b):b=Z8:=by
 cases h with
 | refl=>rfl
 | step c a e=>
  rw[wf.root] at c;cases c
  simp[J3] at a;subst a
  obtain ⟨d,f⟩:=e.left
  exact absurd (wf.lkn f) (by decide)
theorem Wf.kind {n:X0} {c:Cla} (h:lk (Q7 l) n=some c):R7 (Q7 l) n=true:=by
 obtain ⟨g,b,a,d,i,e,f⟩:=Ot (wf.lkn h)
 have:Q0Y (Q7 l) n=true:=by rw[Q2p,h];rfl
 simp[R7,a,b,this]
theorem Wf.sub_iff {a b:X0}:H4 (Q7 l) a b=true↔R7 (Q7 l) a=true∧R7 (Q7 l) b=true∧(a=b∨(plain a=false∧plain b=false∧(a=C2∨(elem a≠[]∧b=Z8)∨(lk (Q7 l) a≠none∧Hm.Reach (lk (Q7 l)) a b)))):=by
 unfold H4
 cases j:R7 (Q7 l) a<;>cases m:R7 (Q7 l) b<;>simp
 by_cases e:a=b
 ·simp[e]
 cases pa:plain a<;>cases k:plain b<;>simp[e]
 by_cases f:a=C2
 ·simp[f]
 simp only[f,false_or]
 by_cases d:elem a=[]
 ·simp only[d,if_true,not_true_eq_false,false_and,false_or,Zy]
  constructor
  ·intro h;obtain ⟨c,i⟩:=h.left;exact ⟨by rw[i];simp,h⟩
  ·intro h;exact h.2
 ·simp only[d,if_false,not_false_eq_true,true_and]
  constructor
  ·exact .inl
  ·rintro (h | ⟨h,_⟩)
   ·exact h
   ·cases g:lk (Q7 l) a with
    | none=>exact absurd g h
    | some c=>exact absurd (Ot (wf.lkn g)).2.2.2.2.1 d
theorem Wf.sub_class {a b:X0} {c:Cla} (e:lk (Q7 l) a=some c):H4 (Q7 l) a b=true↔Hm.Reach (lk (Q7 l)) a b:=by
 obtain ⟨o,n,k,g,j,i,m⟩:=Ot (wf.lkn e)
 rw[wf.sub_iff]
 constructor
 ·rintro ⟨_,_,rfl | ⟨_,_,h | ⟨h,_⟩ | ⟨_,h⟩⟩⟩
  ·exact .refl e
  ·exact absurd h i
  ·exact absurd j h
  ·exact h
 ·intro h
  obtain ⟨d,f⟩:=h.right
  exact ⟨wf.kind e,wf.kind f, .inr ⟨g,(Ot (wf.lkn f)).2.2.2.1, .inr (.inr ⟨by rw[e];simp,h⟩)⟩⟩
end
end Go.Proofs.YtfppjenblllfaaaGreatDoor

namespace Go.Proofs.YtfppjenblllfaaaGreatDoor
open Go.Emb Go.RowKit Go.Kd Go.Hm
theorem Q5H {L:List Cla} (g:Yg L): ∀(k:Nat) {n:X0} {c:Cla},F6 L n<k→c∈chain L n→Hm.Reach (lk L) n c.name∧lk L c.name=some c:=by
 intro k
 induction k with
 | zero=>intro n c h;omega
 | succ k o=>
  intro n c p hc
  rw[F5 g] at hc
  cases a:lk L n with
  | none=>rw[a] at hc;simp at hc
  | some d=>
   rw[a] at hc
   have b:=(U4 a).1
   rcases List.mem_cons.1 hc with rfl | hc
   ·rw[b];exact ⟨.refl a,a⟩
   ·cases i:lk L d.super with
    | none=>rw[K0 i] at hc;simp at hc
    | some e=>
     have f:d.super∈J3 d:=by simp[J3]
     obtain ⟨m,j⟩:=o (by have:=Xu g a f i;omega) hc
     exact ⟨.step a f m,j⟩
section
variable {l : List Cla} (wf : Wf l)
include wf
end
end Go.Proofs.YtfppjenblllfaaaGreatDoor

namespace Go.Hm
open Go.Kd
structure Shp where
  seen : Bool
  stack : List X0
  locals : List X0
deriving DecidableEq
def Shp.zero:Shp:=⟨false,[],[]⟩
def Yd (l:List Cla) (a b:X0):X0:=if a=[]∨b=[] then [] else B8 l a b
def Wc (l:List Cla) (a b:Shp):Shp×Int:=
 if a.seen=false then (b,0) else if b.seen=false then (a,0)
 else if a.stack.length≠b.stack.length∨a.locals.length≠b.locals.length then (Shp.zero,75)
 else if (List.zipWith (B8 l) a.stack b.stack).any (fun s=>decide (s=[])) then (Shp.zero,75)
 else (⟨true,List.zipWith (B8 l) a.stack b.stack,List.zipWith (Yd l) a.locals b.locals⟩,0)
def Qe (cls:X0) (m:Hm.Met):Shp:=
 ⟨true,[],((cls::m.params)++List.replicate (min m.locals 1000).toNat []).take (min m.locals 1000).toNat⟩
theorem Rs (l:List Cla):R7 l []=false:=by
 have:right []=false:=by decide
 simp[R7,this,C2]
theorem Q6b (l:List Cla) (a:X0):H4 l a []=false:=by
 unfold H4;rw[Rs];simp
theorem Q63 (l:List Cla) (a:X0):H4 l [] a=false:=by
 unfold H4;rw[Rs];simp
theorem Q96 (l:List Cla) (a b:X0):Yd l a b=B8 l a b:=by
 unfold Yd
 split
 ·rename_i h
  unfold B8
  rcases h with rfl | rfl
  ·rw[Q63,Q6b,Rs];simp
  ·rw[Q63,Q6b,Rs];simp
 ·rfl
end Go.Hm
namespace Go.Proofs.YtfppjenblllfaaaGreatDoor
open Go.Emb Go.RowKit Go.Kd Go.Hm
section
variable {l : List Cla} (wf : Wf l)
include wf
end
end Go.Proofs.YtfppjenblllfaaaGreatDoor

namespace Go.Emb
open Go.RowKit Go.Hm
def M9 (σ:Q4) (s:Shp) (cs:List Value):Prop:= ∃sv a,cs=[.bool s.seen,sv,a]∧Sl 1 X9 σ sv s.stack∧Sl 1 X9 σ a s.locals
instance:Rep M9:=⟨fun hk ⟨sv,lv,h1,h2,h3⟩=>⟨sv,lv,h1,h2.le hk,h3.le hk⟩,fun ⟨sv,lv,h1,h2,h3⟩ u hu=>by
 rw[h1] at hu;simp at hu;rcases hu with rfl | rfl | rfl
 ·rfl
 ·exact F7 h2
 ·exact F7 h3⟩
end Go.Emb
namespace Go.Proofs.YtfppjenblllfaaaGreatDoor
open Go.Emb Go.RowKit Go.Kd Go.Hm Go.ChangeShapes Go.WideShapes
section
variable {H : Type} {enc : TypeId × Value → H} {W : World} {cs : List Value} {fuel : Nat} {x : DataW H × List MemPlace} {v : Value} {d : DataW H} {p : List MemPlace}
set_option maxRecDepth 100000 in
theorem X1Y {base:Nat} (c:Value.okWide P W .any base T.b v) (h:DataW.Trod enc P W 0 (fun _=>true) true T.b v d p) (e:Wt P T.b d): ∃y cs,v= .agg (List.toArray cs)∧L2 (Yb W) y cs:=by
 have a:=c
 unfold Value.okWide at a
 rw[Da] at a
 obtain ⟨cs,rfl,_⟩:=a
 unfold DataW.Trod at h
 obtain ⟨fuel,h⟩:=h
 obtain ⟨y,b⟩:=X1D h e
 obtain ⟨cs⟩:=cs
 exact ⟨y,cs,rfl,by simpa [Value.cells] using b⟩
end
end Go.Proofs.YtfppjenblllfaaaGreatDoor

namespace Go.Proofs.YtfppjenblllfaaaGreatDoor
open Go.Emb Go.RowKit Go.Kd Go.Hm
variable {w : World} {K : Value → World → Prop} {σ : Q4}
end Go.Proofs.YtfppjenblllfaaaGreatDoor

namespace Go.Proofs.YtfppjenblllfaaaGreatDoor
open Go.Emb Go.RowKit Go.Kd Go.Hm
variable {w : World} {K : Value → World → Prop} {σ : Q4} {l : List Cla} {v : Value}
theorem P6 {n:X0} (q:X4 w σ) (o:Sl 8 U6 σ v l) (h:K (I (W7 (Y4 l n))) w):Q0 P F.c [v,S n] w K:=Ks (by
 unfold Mf
 refine J5 l.length (fun k w'=>w'=w∧ ∀j (g:j<l.length),j<k→ ¬l[j].name=n) ⟨rfl,fun j _ h=>by omega⟩ fun k w1 d C s=>?_
 obtain ⟨rfl,b⟩:=s
 refine Q9 o ?_
 refine Z0 ?_
 refine Q5 (fun i=>?_) (fun i=>?_)
 ·have a:k<l.length:=by simpa using i
  refine L7 o a fun p cells m t u=>?_
  obtain ⟨D,y,mv,rfl,A,B,H,z,E⟩:=u
  rw[fa]
  refine ld q m rfl ?_
  refine Nk ?_
  refine Q5 (fun f=>?_) (fun f=>?_)
  ·have f:l[k].name=n:=by simpa using f
   have:Y4 l n=some k:=by
    unfold Y4
    rw[List.findIdx?_eq_some_iff_getElem]
    exact ⟨a,by simpa using f,fun j g=>by simpa using b j (by omega) g⟩
   rw[this] at h
   exact h
  ·have f: ¬l[k].name=n:=by simpa using f
   refine D7 ?_
   refine Y3 o.max a ⟨rfl,fun j g r=>?_⟩
   by_cases e:j=k
   ·subst e;exact f
   ·exact b j g (by omega)
 ·have a: ¬k<l.length:=by simpa using i
  have:Y4 l n=none:=by
   unfold Y4
   rw[List.findIdx?_eq_none_iff]
   intro c i
   obtain ⟨j,g,rfl⟩:=List.getElem_of_mem i
   simpa using b j g (by omega)
  rw[this] at h
  exact h)
end Go.Proofs.YtfppjenblllfaaaGreatDoor

namespace Go.Proofs.YtfppjenblllfaaaGreatDoor
open Go.Emb Go.RowKit Go.Kd Go.Hm
variable {w : World} {K : Value → World → Prop} {σ : Q4} {l : List Cla} {v : Value}
theorem Q57 {a:X0} (d:a.length≤Z7) (h:K (S (base a).1) w):Q0 P F.aF [S a] w K:=Ik (by
 unfold Lw
 have c:=Ax a
 have b:a.length≤140737488355328:=by simp only[Z7] at d;omega
 rw[D2 X7]
 refine Q0W a b ?_
 (try simp only[↓Mr,Mr,Mb,reduceIte])
 rw[B1 (n:=2*((base a).2:Int)) (by omega) (by omega),B1 (by omega) (by omega),I7 X7 (by omega) (by omega)]
 rw[show ((a.length:Int)-2*((base a).2:Int)).toNat=a.length-2*(base a).2 from by omega,Q30]
 exact h)
theorem Q9l {s:X0} (g:X4 w σ) (f:Sl 8 U6 σ v l) (c:s.length≤Z7) (h:K (.bool (R7 l s)) w):Q0 P F.bk [v,S s] w K:=Kr (by
 unfold Ml
 have b:s.length≤140737488355328:=by simp only[Z7] at c;omega
 unfold R7 at h
 refine Nk ?_
 by_cases a:s=C2
 ·have:decide (s=[110,117,108,108])=true:=by rw[decide_eq_true_eq];exact a
  simp only[this,↓M1,M1,Mb,reduceIte]
  simp only[a,decide_true,Bool.true_or] at h
  exact h
 ·have:decide (s=[110,117,108,108])=false:=by rw[decide_eq_false_iff_not];exact a
  simp only[this,↓M1,M1,Mb,reduceIte]
  simp only[a,decide_false,Bool.false_or] at h
  refine Ve s b ?_
  cases e:right s with
  | false=>(try simp only[↓M1,M1,Mb,reduceIte]);simpa [e] using h
  | true=>
   (try simp only[↓M1,M1,Mb,reduceIte])
   refine Q57 c ?_
   (try simp only[↓M1,M1,Mb,reduceIte])
   refine Pl _ ?_
   simp only[e,Bool.true_and] at h
   cases d:plain (base s).1 with
   | true=>(try simp only[↓M1,M1,Mb,reduceIte]);simpa [d] using h
   | false=>
    (try simp only[↓M1,M1,Mb,reduceIte])
    refine Q57 c ?_
    (try simp only[↓M1,M1,Mb,reduceIte])
    refine P6 g f ?_
    refine Jb ?_
    rw[Ja]
    (try simp only[↓M1,M1,Mb,reduceIte])
    simpa [d,Q0Y] using h)
end Go.Proofs.YtfppjenblllfaaaGreatDoor

namespace Go.Proofs.YtfppjenblllfaaaGreatDoor
open Go.Emb Go.RowKit Go.Kd Go.Hm
variable {w : World} {K : Value → World → Prop} {σ : Q4} {l : List Cla} {v : Value}
theorem Q8z {s:X0} (d:X4 w σ) (c:Sl 8 U6 σ v l) (b:s.length≤Z7) (h:K (.bool (D5 l s)) w):Q0 P F.bc [v,S s] w K:=Bg (by
 unfold Wg
 unfold D5 at h
 refine Vs ?_
 have e:decide (s=[110,117,108,108])=decide (s=C2):=rfl
 rw[e]
 cases a:decide (s=C2) with
 | true=>
  rw[a] at h
  (try simp only[↓M1,M1,Mb,reduceIte])
  exact h
 | false=>
  rw[a] at h
  (try simp only[↓M1,M1,Mb,reduceIte])
  refine Q9l d c b ?_
  (try simp only[↓M1,M1,Mb,reduceIte])
  simpa using h)
end Go.Proofs.YtfppjenblllfaaaGreatDoor

namespace Go.Proofs.YtfppjenblllfaaaGreatDoor
open Go.Emb Go.RowKit Go.Kd Go.Hm
variable {w : World} {K : Value → World → Prop} {σ : Q4} {l : List Cla} {v : Value}
def Eo (c:Cla) (n:X0):Option Nat:=c.methods.findIdx? fun m=>decide (m.name=n)
theorem Q6n {c:Cla} {cs:List Value} {n:X0} (u:X4 w σ) (o:U6 σ c cs) (h: ∀w' D,Stp w σ w' D→K (I (W7 (Eo c n))) w'):Q0 P F.aM [.agg cs.toArray,S n] w K:=Aa (by
 unfold Nw
 obtain ⟨R,J,mv,rfl,M,N,r,L,U⟩:=o
 refine Y8 u fun q w0 σ0 a t=>?_
 have r:=r.up a
 refine J5 c.methods.length (fun k w'=>w'=w0∧ ∀j (i:j<c.methods.length),j<k→ ¬c.methods[j].name=n) ⟨rfl,fun j _ h=>by omega⟩ fun k w1 d O z=>?_
 obtain ⟨rfl,f⟩:=z
 rw[fa]
 refine ld a.sat t rfl ?_
 refine Q9 r ?_
 refine Z0 ?_
 refine Q5 (fun o=>?_) (fun o=>?_)
 ·have b:k<c.methods.length:=by simpa using o
  rw[fa]
  refine ld a.sat t rfl ?_
  refine L7 r b fun p cells s A B=>?_
  obtain ⟨pv,E,Y,rfl,Q,V,H,X,W⟩:=B
  rw[fa]
  refine ld a.sat s rfl ?_
  refine Nk ?_
  refine Q5 (fun g=>?_) (fun g=>?_)
  ·have g:c.methods[k].name=n:=by simpa using g
   have:Eo c n=some k:=by
    unfold Eo
    rw[List.findIdx?_eq_some_iff_getElem]
    exact ⟨b,by simpa using g,fun j i=>by simpa using f j (by omega) i⟩
   rw[this] at h
   exact h _ _ a
  ·have g: ¬c.methods[k].name=n:=by simpa using g
   refine D7 ?_
   refine Y3 r.max b ⟨rfl,fun j i y=>?_⟩
   by_cases e:j=k
   ·subst e;exact g
   ·exact f j i (by omega)
 ·have b: ¬k<c.methods.length:=by simpa using o
  have:Eo c n=none:=by
   unfold Eo
   rw[List.findIdx?_eq_none_iff]
   intro m C
   obtain ⟨j,i,rfl⟩:=List.getElem_of_mem C
   simpa using f j i (by omega)
  rw[this] at h
  exact h _ _ a)
end Go.Proofs.YtfppjenblllfaaaGreatDoor

namespace Go.Proofs.YtfppjenblllfaaaGreatDoor
open Go.Emb Go.RowKit Go.Kd Go.Hm
variable {w : World} {K : Value → World → Prop} {σ : Q4} {l : List Cla} {v : Value}
theorem Rq {n:X0} {d:Cla} (f:X4 w σ) (e:Sl 8 U6 σ v l) (c:lk l n=some d) (h: ∀i:Nat,l[i]? =some d→Y4 l n=some i→K (I i) w):Q0 P F.c [v,S n] w K:=by
 obtain ⟨_,_,i,a,b⟩:=U4 c
 refine P6 f e ?_
 rw[a];exact h i b a
theorem Pq {n:X0} (f:X4 w σ) (d:Sl 8 U6 σ v l) (b:lk l n=none) (h:K (I (-1)) w):Q0 P F.c [v,S n] w K:=by
 refine P6 f d ?_
 cases e:Y4 l n with
 | none=>exact h
 | some i=>obtain ⟨c,a,_⟩:=Zr e;rw[b] at a;cases a
end Go.Proofs.YtfppjenblllfaaaGreatDoor

namespace Go.Proofs.YtfppjenblllfaaaGreatDoor
open Go.Emb Go.RowKit Go.Kd Go.Hm
variable {w : World} {K : Value → World → Prop} {σ : Q4} {l : List Cla} {v : Value}
theorem Q94:decide ((-1:Int)<0)=true:=by decide
theorem Q4B (i:Nat):decide ((i:Int)<0)=false:=by rw[decide_eq_false_iff_not];omega
theorem Q7v {c:Cla} {cs:List Value} (W:X4 w σ) (hl:Sl 8 U6 σ v l) (A:U6 σ c cs) (h: ∀w' σ',Stp w σ w' σ'→K (I (L5 l c)) w'):Q0 P F.aW [v, .agg cs.toArray] w K:=Co (by
 unfold Vi
 obtain ⟨lv,fv,mv,rfl,z,f2,f3,f4,f5⟩:=A
 refine Y8 W fun q w0 σ0 o M=>?_
 have z:=z.up o
 have b:=hl.up o
 have a:=o.sat
 have u: ∀n:Nat,L5 l c=n→K (I n) w0:=fun n e=>by rw[←e];exact h _ _ o
 clear h
 (try simp only[↓M1,M1,Mb,reduceIte])
 refine ld a M rfl ?_
 have m:P4 l c.super=true→K (I (61:Nat)) w0:=fun e=>u 61 (by unfold L5;rw[if_pos e])
 cases L:lk l c.super with
 | none=>
  refine Pq a b L ?_
  simp only[Q94,↓M1,M1,Mb,reduceIte]
  exact m (by unfold P4;rw[L])
 | some d=>
  refine Rq a b L fun i Y hf=>?_
  obtain ⟨y,O⟩:=List.getElem?_eq_some_iff.1 Y
  simp only[Q4B,↓M1,M1,Mb,reduceIte]
  refine U1 b y ?_
  obtain ⟨ae,Z,ac,Q,r1⟩:=b.elC y
  rw[O] at Q
  (try simp only[↓M1,M1,Mb,reduceIte])
  refine ld a Q rfl ?_
  have g:P4 l c.super=(d.iface||d.fin):=by unfold P4;rw[L]
  cases D:d.iface with
  | true=>
   rw[D] at g
   (try simp only[↓M1,M1,Mb,reduceIte])
   exact m (by rw[g];rfl)
  | false=>
   rw[D] at g
   (try simp only[↓M1,M1,Mb,reduceIte])
   refine U1 b y ?_
   (try simp only[↓M1,M1,Mb,reduceIte])
   refine ld a Q rfl ?_
   cases C:d.fin with
   | true=>
    rw[C] at g
    (try simp only[↓M1,M1,Mb,reduceIte])
    exact m (by rw[g];rfl)
   | false=>
    rw[C] at g
    have H:P4 l c.super=false:=g
    (try simp only[↓M1,M1,Mb,reduceIte])
    refine J5 c.like.length (fun k w'=>w'=w0∧(c.like.take k).any (O5 l)=false) ⟨rfl,rfl⟩ fun k w1 d1 hk N=>?_
    obtain ⟨hw,s⟩:=N
    subst hw
    (try simp only[↓M1,M1,Mb,reduceIte])
    refine ld a M rfl ?_
    refine Q9 z ?_
    refine Z0 ?_
    refine Q5 (fun A=>?_) (fun A=>?_)
    ·have f:k<c.like.length:=by simpa using A
     have r:O5 l c.like[k]=true→K (I (62:Nat)) w1:=fun e=>u 62 (by
      unfold L5;rw[H,C1 f e];rfl)
     have t:O5 l c.like[k]=false→(c.like.take (k+1)).any (O5 l)=false:=fun e=>by rw[M3 f,s,e];rfl
     (try simp only[↓M1,M1,Mb,reduceIte])
     refine ld a M rfl ?_
     refine U1 z f ?_
     obtain ⟨p2,_⟩:=z.elS f
     refine X8 a p2 rfl ?_
     cases J:lk l c.like[k] with
     | none=>
      refine Pq a b J ?_
      simp only[Q94,↓M1,M1,Mb,reduceIte]
      exact r (by unfold O5;rw[J])
     | some e=>
      refine Rq a b J fun j X ai=>?_
      obtain ⟨E,R⟩:=List.getElem?_eq_some_iff.1 X
      simp only[Q4B,↓M1,M1,Mb,reduceIte]
      refine U1 b E ?_
      obtain ⟨ab,aa,V,U,r3⟩:=b.elC E
      rw[R] at U
      (try simp only[↓M1,M1,Mb,reduceIte])
      refine ld a U rfl ?_
      have p:O5 l c.like[k]= !e.iface:=by unfold O5;rw[J]
      cases B:e.iface with
      | true=>
       rw[B] at p
       (try simp only[↓M1,M1,Mb,reduceIte])
       exact Y3 z.max f ⟨rfl,t p⟩
      | false=>
       rw[B] at p
       (try simp only[↓M1,M1,Mb,reduceIte])
       exact r p
    ·have f: ¬k<c.like.length:=by simpa using A
     rw[D0 f] at s
     exact u 0 (by unfold L5;rw[H,s];rfl))
end Go.Proofs.YtfppjenblllfaaaGreatDoor

namespace Go.Proofs.YtfppjenblllfaaaGreatDoor
open Go.Emb Go.RowKit Go.Kd Go.Hm
variable {w : World} {K : Value → World → Prop} {σ : Q4} {l : List Cla} {v : Value}
theorem Q5T {n:X0} (h:lk l n=none):M6 l n=[]:=by unfold M6;rw[K0 h];rfl
theorem Q5g (a:Yg l) {n:X0} {c:Cla} (h:lk l n=some c):M6 l n=M6 l c.super++c.fields:=by
 unfold M6
 rw[F5 a,h]
 simp
theorem Q7f (a: ∀c∈l,P8 c) (n:X0):(M6 l n).length≤(l.length+1)*1000000:=by
 unfold M6
 have b:=Uf (fun c:Cla=>c.fields) 1000000 (chain l n).reverse fun c d=>(a c (Ah (by simpa using d))).2.1
 have e:=Hx l n
 rw[List.length_reverse] at b
 exact Nat.le_trans b (Nat.mul_le_mul_right _ e)
theorem Q0r {n:X0} (b:lk l n=none) (c:X4 w σ) (e:Sl 8 U6 σ v l) (h: ∀d w' a,Stp w σ w' a→Sl 3 D6 a d (M6 l n)→K d w'):Q0 P F.x [v,S n] w K:=Ut (by
 unfold T8
 refine Pq c e b ?_
 simp only[Q94,↓M1,M1,Mb,reduceIte]
 exact h _ _ _ (Stp.refl c) (by rw[Q5T b];exact Sl.nil))
theorem Q5q (o:Yg l) (hl:l.length≤1000) (g: ∀c∈l,P8 c): ∀(k:Nat) {n:X0} {w:World} {σ:Q4} {K:Value→World→Prop},(lk l n=none∨F6 l n<k)→X4 w σ→Sl 8 U6 σ v l→
 (∀m w' j,Stp w σ w' j→Sl 3 D6 j m (M6 l n)→K m w')→Q0 P F.x [v,S n] w K:=by
 intro k
 induction k with
 | zero=>
  intro n w σ K hk f b h
  rcases hk with hk | hk
  ·exact Q0r hk f b h
  ·omega
 | succ k ih=>
  intro n w σ K hk f b h
  cases a:lk l n with
  | none=>exact Q0r a f b h
  | some c=>
   have hk:F6 l n<k+1:=by
    rcases hk with hk | hk
    ·rw[a] at hk;cases hk
    ·exact hk
   refine Ut ?_
   unfold T8
   refine Rq f b a fun i U hf=>?_
   obtain ⟨J,y⟩:=List.getElem?_eq_some_iff.1 U
   simp only[Q4B,↓M1,M1,Mb,reduceIte]
   obtain ⟨lv,fv,mv,p1,N⟩:=b.elC J
   rw[y] at p1 N
   obtain ⟨_,g2,_,_,_⟩:=N.parts
   have H:lk l c.super=none∨F6 l c.super<k:=by
    cases V:lk l c.super with
    | none=>exact .inl rfl
    | some d=>
     have:=Xu o a (u:=c.super) (by simp[J3]) V
     right;omega
   have af:=Q7f g c.super
   have Y:=(g c (U4 a).2.1).2.1
   have O:(l.length+1)*1000000≤1001*1000000:=Nat.mul_le_mul_right _ (by omega)
   refine U9 f ?_
   (repeat refine J4 Qp ?_)
   refine Q7t (R:=D6) (by decide) ?_
   (repeat refine J4 Qp ?_)
   refine Ri (w:=w) (σ:=σ) (Φ:=fun j v=>Sl 3 D6 j v (M6 l c.super)) (fun t w p e=>?_) ?_
   ·subst e;exact ih H p.sat b fun m w' j hk L=>Q0Q p hk L
   refine Q2k (w:=w) (σ:=σ) (R:=D6) (sz:=3) (e:=T.k) (M6 l c.super) (fun q M w p C A=>?_) ?_
   ·obtain ⟨k1,a1,Q⟩:=C
    obtain ⟨σ2,k2,W⟩:=A
    exact X0C k1 a1 Q k2.sat W (fun _ _ h=>h) rfl (by omega) (by omega) fun m w' hk o=>Q4y p hk o
   (repeat refine J4 Qp ?_)
   rintro Z ak ah an q am M ab ag w2 X rfl rfl rfl rfl _ rfl _ ⟨r,D⟩ rfl
   refine Dl r D g2 rfl (by omega) (by omega) fun m w3 ac E s _=>?_
   obtain ⟨σ4,B,z,_⟩:=s.keep E
   exact h _ _ _ B (by rw[Q5g o a];exact z)
theorem Q7i {n:X0} (g:X4 w σ) (i:Sl 8 U6 σ v l) (e:Yg l) (f:l.length≤1000) (a: ∀c∈l,P8 c) (h: ∀d w' b,Stp w σ w' b→Sl 3 D6 b d (M6 l n)→K d w'):Q0 P F.x [v,S n] w K:=
 Q5q e f a _ (.inr (Nat.lt_succ_self _)) g i h
theorem Q8J {n f:X0} (y:X4 w σ) (L:Sl 8 U6 σ v l) (D:Yg l) (H:l.length≤1000) (u: ∀c∈l,P8 c) (h: ∀w' E,Stp w σ w' E→K (I (W7 (Xg l n f))) w'):Q0 P F.bb [v,S n,S f] w K:=Gc (by
 unfold Ll
 refine Q7i y L D H u fun O w1 σ1 r b=>?_
 have s: ∀o,Xg l n f=o→K (I (W7 o)) w1:=fun o e=>by rw[←e];exact h _ _ r
 unfold Xg at s
 generalize M6 l n=i at b s
 refine J5 i.length (fun k w'=>w'=w1∧ ∀j (q:j<i.length),j<k→ ¬i[j].name=f) ⟨rfl,fun j _ h=>by omega⟩ fun k M d N A=>?_
 obtain ⟨J,g⟩:=A
 subst J
 refine Q9 b ?_
 refine Z0 ?_
 refine Q5 (fun t=>?_) (fun t=>?_)
 ·have a:k<i.length:=by simpa using t
  refine U1 b a ?_
  obtain ⟨C,_⟩:=b.elF a
  (try simp only[↓M1,M1,Mb,reduceIte])
  refine ld r.sat C rfl ?_
  refine Nk ?_
  refine Q5 (fun p=>?_) (fun p=>?_)
  ·have p:i[k].name=f:=by simpa using p
   exact s (some k) (by
    rw[List.findIdx?_eq_some_iff_getElem]
    exact ⟨a,by simpa using p,fun j q=>by simpa using g j (by omega) q⟩)
  ·have p: ¬i[k].name=f:=by simpa using p
   (try simp only[↓M1,M1,Mb,reduceIte])
   refine Y3 b.max a ⟨rfl,fun j q z=>?_⟩
   by_cases e:j=k
   ·subst e;exact p
   ·exact g j q (by omega)
 ·have a: ¬k<i.length:=by simpa using t
  exact s none (by
   rw[List.findIdx?_eq_none_iff]
   intro m B
   obtain ⟨j,q,rfl⟩:=List.getElem_of_mem B
   simpa using g j q (by omega)))
end Go.Proofs.YtfppjenblllfaaaGreatDoor

namespace Go.Proofs.YtfppjenblllfaaaGreatDoor
open Go.Emb Go.RowKit Go.Kd Go.Hm
variable {w : World} {K : Value → World → Prop} {σ : Q4} {l : List Cla} {v : Value}
theorem Q2H {c:Cla} {n:X0} (h:Eo c n=none):H9 c n=none:=by
 unfold H9 Eo at*
 rw[List.findIdx?_eq_none_iff] at h
 rw[List.find?_eq_none]
 intro m a
 have:=h m a
 simpa using this
theorem Q6r {c:Cla} {n:X0} {i:Nat} (h:Eo c n=some i): ∃a:i<c.methods.length,H9 c n=some c.methods[i]:=by
 unfold H9 Eo at*
 obtain ⟨a,d,e⟩:=List.findIdx?_eq_some_iff_getElem.1 h
 refine ⟨a,List.find?_eq_some_iff_getElem.2 ⟨d,i,a,rfl,fun j b=>?_⟩⟩
 have:=e j b
 simpa using this
theorem Q36 {n:X0} (h:lk l n=none):Y4 l n=none:=by
 cases b:Y4 l n with
 | none=>rfl
 | some i=>obtain ⟨c,a,_⟩:=Zr b;rw[h] at a;cases a
set_option maxHeartbeats 1000000 in
theorem Q88 {n:X0} (ok:Ok l): ∀(k:Nat) {c:Cla} {cs:List Value} {w:World} {σ:Q4} {K:Value→World→Prop},F6 l c.name<k→lk l c.name=some c→X4 w σ→Sl 8 U6 σ v l→U6 σ c cs→
 (∀pv cv hv w' Z,Stp w σ w' Z→L2 Z (o2 (U3 l c n)) [S (o2 (U3 l c n)).name,pv,S (o2 (U3 l c n)).result, .bool (o2 (U3 l c n)).abs,I (o2 (U3 l c n)).locals,cv,hv]→
  K (.tuple #[S (o1 (U3 l c n)), .agg [S (o2 (U3 l c n)).name,pv,S (o2 (U3 l c n)).result, .bool (o2 (U3 l c n)).abs,I (o2 (U3 l c n)).locals,cv,hv].toArray, .bool (U3 l c n).isSome]) w')→
 Q0 P F.aB [v, .agg cs.toArray,S n] w K:=by
 intro k
 induction k with
 | zero=>
  intro c cs w σ K hk
  omega
 | succ k ih=>
  intro c cs w σ K hk hc hs hv hr h
  refine Gm ?_
  obtain ⟨lv,fv,mv,rfl,g1,g2,g3,g4,g5⟩:=hr
  have D:=Q2G ok.acy hc n
  generalize hf:(fun u=>match lk l u with | none=>none | some d=>match H9 d n with | some m=>some (u,m) | none=>U3 l d n)=f at D
  unfold Vy
  refine Y8 hs fun a w1 σ1 C a6=>?_
  refine B5 C.sat fun b w2 σ2 hb L a9=>?_
  have X:w.heap.size≤b:=Yt hb C
  have ao:=a6.up L
  have g1:=(g1.up C).up L
  refine J5 c.like.length (fun i w'=> ∃Z,Stp w σ w' Z∧SLe σ2 Z∧Z5 Z w' b [S [], .slice none 0 0,S [], .bool false,I 0, .slice none 0 0, .slice none 0 0]∧(c.like.take i).findSome? f=none) ⟨σ2,C.trans L,SLe.refl _,a9,rfl⟩ fun i w3 d hi aa=>?_
  obtain ⟨σ3,g,Q,ah,A⟩:=aa
  have W:=hv.up g
  have V:=ao.lift Q
  have E:=g1.lift Q
  (try simp only[↓M1,M1,Mb,reduceIte])
  refine ld g.sat V rfl ?_
  refine Q9 E ?_
  refine Z0 ?_
  refine Q5 (fun hh=>?_) (fun hh=>?_)
  ·have e:i<c.like.length:=by simpa using hh
   (try simp only[↓M1,M1,Mb,reduceIte])
   refine ld g.sat V rfl ?_
   refine U1 E e ?_
   obtain ⟨p0,_⟩:=E.elS e
   refine X8 g.sat p0 rfl ?_
   obtain ⟨d,hd⟩:=ok.full c (U4 hc).2.1 _ (List.getElem_mem e)
   obtain ⟨U,bq,_⟩:=U4 hd
   have t:f c.like[i]=match H9 d n with | some m=>some (c.like[i],m) | none=>U3 l d n:=by rw[←hf];simp only[hd]
   refine Rq g.sat W hd fun j hj b0=>?_
   obtain ⟨ac,a4⟩:=List.getElem?_eq_some_iff.1 hj
   refine U1 W ac ?_
   obtain ⟨bp,bm,bo,p1,r1⟩:=W.elC ac
   rw[a4] at p1 r1
   refine Z1 g.sat p1 rfl ?_
   refine Y6 g.sat (by rfl) rfl (Rep.one r1) fun q w4 σ4 o M=>?_
   refine Z1 o.sat M rfl ?_
   refine Q6n o.sat (RCl_lift r1 ⟨o.le⟩) fun w5 σ5 p=>?_
   refine Jb ?_
   rw[Ja]
   have B:=(g.trans o).trans p
   have H:=(ah.step o).step p
   have ba:=M.up p
   have r5:=RCl_lift r1 ⟨(o.trans p).le⟩
   have N:=p.sat
   have a7:SLe σ2 σ5:=Q.more ⟨(o.trans p).le⟩
   clear M p1 r1 p0 V E o p
   cases ho:Eo d n with
   | some i2=>
    obtain ⟨a1,a5⟩:=Q6r ho
    rw[a5] at t
    simp only[Option.isSome_some,W7,↓M1,M1,Mb,reduceIte]
    obtain ⟨_,_,ax,_,_⟩:=r5.parts
    obtain ⟨pv,cv,br,p2,r2⟩:=ax.elM a1
    refine U9 N ?_
    (repeat refine J4 Qp ?_)
    (intros;(repeat (rename_i hx;subst hx));(try simp only[↓M2,M2,Mb,reduceIte]))
    rename_i w6 ag
    refine T7 (H.step ag.stp) (B.trans ag.stp) X rfl rfl (Rep.one r2) fun w8 ay az=>?_
    refine W1 az rfl ?_
    have O:=D.trans (Qi e A t)
    rw[O] at h
    rw[U]
    exact h _ _ _ w8 σ5 ay.stp r2
   | none=>
    rw[Q2H ho] at t
    simp only[Option.isSome_none,↓M1,M1,Mb,reduceIte]
    refine Z1 N ba rfl ?_
    have bv:=Xu ok.acy hc (by simp[J3,List.getElem_mem e]:c.like[i]∈J3 c) hd
    refine ih (by rw[U];omega) (by rw[U];exact hd) N (hv.up B) r5 fun pv cv bu w8 σ8 z Y=>?_
    refine V6 (vs:=[_,_,_]) rfl ?_
    refine V6 (vs:=[_,_,_]) rfl ?_
    refine V6 (vs:=[_,_,_]) rfl ?_
    refine Y6 z.sat (by rfl) rfl (Rep.one Y) fun q w9 σ9 y a2=>?_
    have ab:=(B.trans z).trans y
    have aj:=(H.step z).step y
    have R:=RMe_lift Y ⟨y.le⟩
    have ar:SLe σ2 σ9:=a7.more ⟨(z.trans y).le⟩
    have a8:=y.sat
    cases O:U3 l d n with
    | some r=>
     obtain ⟨s,m⟩:=r
     rw[O] at t R a2
     clear Y z y
     simp only[O,Option.isSome_some,↓M1,M1,Mb,reduceIte]
     refine U9 a8 ?_
     (repeat refine J4 Qp ?_)
     (intros;(repeat (rename_i hx;subst hx));(try simp only[↓M2,M2,Mb,reduceIte]))
     rename_i bz J
     refine T7 (aj.step J.stp) (ab.trans J.stp) X rfl rfl (Rep.one R) fun aq af ae=>?_
     refine W1 ae rfl ?_
     have av:=D.trans (Qi e A t)
     rw[av] at h
     exact h _ _ _ aq σ9 af.stp R
    | none=>
     rw[O] at t
     simp only[Option.isSome_none,↓M1,M1,Mb,reduceIte]
     refine Y3 (by have:=g1.max;omega) e ⟨σ9,ab,ar,aj,?_⟩
     rw[Qj e A];exact t
  ·have e: ¬i<c.like.length:=by simpa using hh
   rw[List.take_of_length_le (by omega)] at A
   refine Dp ?_
   refine T7 ah g X rfl rfl (Rep.one (P3 (σ:=σ3))) fun w5 B H=>?_
   refine W1 H rfl ?_
   have O:=D.trans A
   rw[O] at h
   exact h _ _ _ w5 σ3 B.stp P3
set_option maxHeartbeats 1000000 in
theorem Q6E {k n:X0} (hs:X4 w σ) (hv:Sl 8 U6 σ v l) (ok:Ok l)
 (h: ∀pv cv hv w' L,Stp w σ w' L→L2 L (o2 (J8 l k n)) [S (o2 (J8 l k n)).name,pv,S (o2 (J8 l k n)).result, .bool (o2 (J8 l k n)).abs,I (o2 (J8 l k n)).locals,cv,hv]→
  K (.tuple #[S (o1 (J8 l k n)), .agg [S (o2 (J8 l k n)).name,pv,S (o2 (J8 l k n)).result, .bool (o2 (J8 l k n)).abs,I (o2 (J8 l k n)).locals,cv,hv].toArray, .bool (J8 l k n).isSome]) w'):
 Q0 P F.aY [v,S k,S n] w K:=Sr (by
 unfold Va
 refine B5 hs fun b w1 σ1 hb ab a0=>?_
 refine P6 ab.sat (hv.up ab) ?_
 unfold J8 at h
 generalize hF:(fun c:Cla=>(H9 c n).map (c.name,·))=F1 at h
 have ah: ∀c,F1 c=(H9 c n).map (c.name,·):=fun c=>by rw[←hF]
 refine Fb (fun m x w'=> ∃s B L,m=(chain l s).length∧x=I (W7 (Y4 l s))∧chain l k=B++chain l s∧Stp w σ w' L∧Z5 L w' b [S [], .slice none 0 0,S [], .bool false,I 0, .slice none 0 0, .slice none 0 0]∧B.findSome? F1=none)
  (chain l k).length ⟨k,[],σ1,rfl,rfl,rfl,ab,a0,rfl⟩ ?_
 rintro R m x d w2 ⟨s,B,σ2,rfl,rfl,a,J,am,f⟩ H
 have D:=hv.up J
 have Q:=J.sat
 refine Jb ?_
 rw[Ja]
 cases A:lk l s with
 | some c=>
  obtain ⟨af,a1,i,X,aa⟩:=U4 A
  obtain ⟨t,U⟩:=List.getElem?_eq_some_iff.1 aa
  simp only[X,Option.isSome_some,W7,↓M1,M1,Mb,reduceIte]
  refine U1 D t ?_
  obtain ⟨lv,fv,mv,z,O⟩:=D.elC t
  rw[U] at z O
  refine Z1 Q z rfl ?_
  refine Q6n Q O fun w3 σ3 j=>?_
  refine Jb ?_
  rw[Ja]
  have p:=J.trans j
  have g:=D.up j
  have y:=am.step j
  have u:=j.sat
  replace z:=z.up j
  replace O:=RCl_lift O ⟨j.le⟩
  have o:chain l s=c::chain l c.super:=by rw[F5 ok.acy s,A]
  cases V:Eo c n with
  | some i2=>
   obtain ⟨av,ay⟩:=Q6r V
   simp only[Option.isSome_some,W7,↓M1,M1,Mb,reduceIte]
   obtain ⟨_,_,a4,_,_⟩:=O.parts
   obtain ⟨pv,cv,bh,p2,r2⟩:=a4.elM av
   clear j
   refine U9 u ?_
   (repeat refine J4 Qp ?_)
   (intros;(repeat (rename_i hx;subst hx));(try simp only[↓M2,M2,Mb,reduceIte]))
   rename_i w4 ao
   refine T7 (y.step ao.stp) (p.trans ao.stp) hb rfl rfl (Rep.one r2) fun w8 a5 ar=>?_
   refine W1 ar rfl ?_
   have C:(chain l k).findSome? F1=some (c.name,c.methods[i2]):=by
    rw[a,List.findSome?_append,f,o,List.findSome?_cons,ah,ay];rfl
   rw[C] at h
   exact h _ _ _ w8 σ3 a5.stp r2
  | none=>
   simp only[Option.isSome_none,↓M1,M1,Mb,reduceIte]
   refine U1 g t ?_
   (try simp only[↓M1,M1,Mb,reduceIte])
   refine ld u z rfl ?_
   refine P6 u g ?_
   refine H (chain l c.super).length _ _ (by rw[o,List.length_cons];omega) ⟨c.super,B++[c],σ3,rfl,rfl,by rw[a,o];simp,p,y,?_⟩
   rw[List.findSome?_append,f]
   simp[ah,Q2H V]
 | none=>
  rw[Q36 A]
  simp only[Option.isSome_none,↓M1,M1,Mb,reduceIte]
  have al:(chain l k).findSome? F1=none:=by rw[a,K0 A,List.append_nil];exact f
  rw[al] at h
  clear H f a
  refine P6 Q D ?_
  refine Fb (fun m x w'=> ∃s B L,m=(chain l s).length∧x=I (W7 (Y4 l s))∧chain l k=B++chain l s∧Stp w σ w' L∧Z5 L w' b [S [], .slice none 0 0,S [], .bool false,I 0, .slice none 0 0, .slice none 0 0]∧B.findSome? (fun c=>U3 l c n)=none)
   (chain l k).length ⟨k,[],σ2,rfl,rfl,rfl,J,am,rfl⟩ ?_
  rintro R m x d w3 ⟨s,B,σ3,rfl,rfl,a,p,y,f⟩ H
  have g:=hv.up p
  have u:=p.sat
  refine Jb ?_
  rw[Ja]
  cases A:lk l s with
  | some c=>
   obtain ⟨af,a1,i,X,aa⟩:=U4 A
   obtain ⟨t,U⟩:=List.getElem?_eq_some_iff.1 aa
   simp only[X,Option.isSome_some,W7,↓M1,M1,Mb,reduceIte]
   refine U1 g t ?_
   obtain ⟨lv,fv,mv,z,O⟩:=g.elC t
   rw[U] at z O
   refine Z1 u z rfl ?_
   have o:chain l s=c::chain l c.super:=by rw[F5 ok.acy s,A]
   refine Q88 ok _ (Nat.lt_succ_self _) (by rw[af];exact A) u g O fun pv cv be w8 σ8 W Y=>?_
   refine V6 (vs:=[_,_,_]) rfl ?_
   refine V6 (vs:=[_,_,_]) rfl ?_
   refine V6 (vs:=[_,_,_]) rfl ?_
   refine Y6 W.sat (by rfl) rfl (Rep.one Y) fun q w9 σ9 E aw=>?_
   have e:=W.trans E
   have ag:=p.trans e
   have an:=y.step e
   have ac:=RMe_lift Y ⟨E.le⟩
   have Z:=E.sat
   have aj:=g.up e
   replace z:=z.up e
   cases V:U3 l c n with
   | some r=>
    obtain ⟨s,m⟩:=r
    rw[V] at ac aw
    clear Y W E e
    simp only[V,Option.isSome_some,↓M1,M1,Mb,reduceIte]
    refine U9 Z ?_
    (repeat refine J4 Qp ?_)
    (intros;(repeat (rename_i hx;subst hx));(try simp only[↓M2,M2,Mb,reduceIte]))
    rename_i bg N
    refine T7 (an.step N.stp) (ag.trans N.stp) hb rfl rfl (Rep.one ac) fun a2 ak ai=>?_
    refine W1 ai rfl ?_
    have C:(chain l k).findSome? (fun c=>U3 l c n)=some (s,m):=by
     rw[a,List.findSome?_append,f,o,List.findSome?_cons,V];rfl
    unfold U3 at C
    rw[C] at h
    exact h _ _ _ a2 σ9 ak.stp ac
   | none=>
    simp only[Option.isSome_none,↓M1,M1,Mb,reduceIte]
    refine U1 aj t ?_
    (try simp only[↓M1,M1,Mb,reduceIte])
    refine ld Z z rfl ?_
    refine P6 Z aj ?_
    refine H (chain l c.super).length _ _ (by rw[o,List.length_cons];omega) ⟨c.super,B++[c],σ9,rfl,rfl,by rw[a,o];simp,ag,an,?_⟩
    rw[List.findSome?_append,f]
    simp[V]
  | none=>
   rw[Q36 A]
   simp only[Option.isSome_none,↓M1,M1,Mb,reduceIte]
   have M:(chain l k).findSome? (fun c=>U3 l c n)=none:=by rw[a,K0 A,List.append_nil];exact f
   refine Dp ?_
   refine T7 y p hb rfl rfl (Rep.one (P3 (σ:=σ3))) fun w7 a3 az=>?_
   refine W1 az rfl ?_
   unfold U3 at M
   rw[M] at h
   exact h _ _ _ w7 σ3 a3.stp P3)
end Go.Proofs.YtfppjenblllfaaaGreatDoor

namespace Go.Hm
open Go.Kd
theorem Q0F: ∀(xs:List X0) (x:X0),xs≠[]→N5 (xs++[x])=N5 xs++[44]++x
 | [],_,h=>absurd rfl h
 | [a],x,_=>by simp[N5]
 | a::b::r,x,_=>by
  have:=Q0F (b::r) x (by simp)
  simp only[List.cons_append] at this⊢
  simp only[N5,this]
  simp
theorem Q0M {xs:List X0} {n:Nat} (h:n<xs.length):N5 (xs.take (n+1))=N5 (xs.take n)++(if 0<n then [44] else [])++xs[n]:=by
 rw[List.take_add_one,List.getElem?_eq_getElem h]
 simp only[Option.toList_some]
 cases n with
 | zero=>simp[N5]
 | succ n=>
  rw[Q0F _ _ (by intro e;have:=congrArg List.length e;simp only[List.length_take,List.length_nil] at this;omega)]
  simp
end Go.Hm
namespace Go.Proofs.YtfppjenblllfaaaGreatDoor
open Go.Emb Go.RowKit Go.Kd Go.Hm
variable {w : World} {K : Value → World → Prop} {σ : Q4} {l : List Cla} {v : Value}
theorem Q52 {m:Hm.Met} {cs:List Value} (y:X4 w σ) (B:L2 σ m cs) (p:SmM m) (s:NmM m) (h: ∀w' C,Stp w σ w' C→K (S (P2 m)) w'):Q0 P F.aE [.agg cs.toArray] w K:=Kb (by
 obtain ⟨pv,H,U,rfl,f,O,J,R,Q,L⟩:=B
 unfold Md
 refine Y8 y fun q w1 σ1 g j=>?_
 have f:=f.up g
 have E: ∀n,(N5 (m.params.take n)).length≤101000000:=fun n=>by
  have:=Dg (m.params.take n) fun x t=>s.2 x (List.mem_of_mem_take t)
  have A:(m.params.take n).length≤1000000:=by rw[List.length_take];have:=p.1;omega
  have N:(m.params.take n).length*101≤1000000*101:=Nat.mul_le_mul_right _ A
  omega
 have c:=g.sat
 refine O9 m.params.length (fun n a w'=>w'=w1∧a=S ([40]++N5 (m.params.take n))) ⟨rfl,by simp[N5]⟩ fun n a M d z i=>?_
 obtain ⟨D,rfl⟩:=i
 subst D
 have o:=E n
 (try simp only[↓M1,M1,Mb,reduceIte])
 refine ld c j rfl ?_
 refine Q9 f ?_
 refine Z0 ?_
 refine Q5 (fun k=>?_) (fun k=>?_)
 ·have b:n<m.params.length:=by simpa using k
  have t:=s.2 _ (List.getElem_mem b)
  refine V5 ?_
  obtain ⟨u,_⟩:=f.elS b
  refine Q5 (fun r=>?_) (fun r=>?_)
  ·have e:0<n:=by have:=of_decide_eq_true r;omega
   refine Rb (by simp only[List.length_append,List.length_cons,List.length_nil];omega) ?_
   intro d
   (try simp only[↓M1,M1,Mb,reduceIte])
   refine ld c j rfl ?_
   refine U1 f b ?_
   refine X8 c u rfl ?_
   refine Rb (by simp only[List.length_append,List.length_cons,List.length_nil];omega) ?_
   (try simp only[↓M1,M1,Mb,reduceIte])
   refine Z6 f.max b ⟨rfl,?_⟩
   rw[Q0M b,if_pos e];simp
  ·have e: ¬0<n:=by have:=of_decide_eq_false r;omega
   intro d
   (try simp only[↓M1,M1,Mb,reduceIte])
   refine ld c j rfl ?_
   refine U1 f b ?_
   refine X8 c u rfl ?_
   refine Rb (by simp only[List.length_append,List.length_cons,List.length_nil];omega) ?_
   (try simp only[↓M1,M1,Mb,reduceIte])
   refine Z6 f.max b ⟨rfl,?_⟩
   rw[Q0M b,if_neg e];simp
 ·have b: ¬n<m.params.length:=by simpa using k
  rw[List.take_of_length_le (by omega)] at o⊢
  refine Rb (by simp only[List.length_append,List.length_cons,List.length_nil];omega) ?_
  (try simp only[↓M1,M1,Mb,reduceIte])
  refine ld c j rfl ?_
  refine Rb (by simp only[List.length_append,List.length_cons,List.length_nil];have:=s.1;omega) ?_
  exact h _ _ g)
end Go.Proofs.YtfppjenblllfaaaGreatDoor

namespace Go.Hm
open Go.Kd
def Edge (l:List Cla) (i j:Nat):Prop:= ∃c,l[i]? =some c∧ ∃u∈J3 c,Y4 l u=some j
inductive Thr (E : Nat → Nat → Prop) (n : Nat) : Nat → Nat → Prop
  | one {i j : Nat} : E i j → Thr E n i j
  | more {i m j : Nat} : E i m → m < n → Thr E n m j → Thr E n i j
theorem Thr.cut {E:Nat→Nat→Prop} {n i j:Nat} (h:Thr E (n+1) i j):Thr E n i j∨(Thr E n i n∧Thr E n n j):=by
 induction h with
 | one h=>exact .inl (.one h)
 | @more i m j d f _ c=>
  by_cases e:m<n
  ·rcases c with c | ⟨a,b⟩
   ·exact .inl (.more d e c)
   ·exact .inr ⟨.more d e a,b⟩
  ·obtain rfl:m=n:=by omega
   rcases c with c | ⟨a,b⟩
   ·exact .inr ⟨.one d,c⟩
   ·exact .inr ⟨.one d,b⟩
theorem Thr.join {E:Nat→Nat→Prop} {n i k j:Nat} (h:Thr E n i k) (a:k<n) (g:Thr E n k j):Thr E n i j:=by
 induction h with
 | one h=>exact .more h a g
 | more c b _ d=>exact .more c b (d a g)
theorem Q34 {l:List Cla} (f:G1 l) {i j:Nat} (e:i<l.length):Edge l i j↔j<l.length∧ ∃u∈J3 l[i],u=Y1 l j∧Y4 l u=some j:=by
 unfold Edge
 rw[List.getElem?_eq_getElem e]
 constructor
 ·rintro ⟨c,d,u,b,a⟩
  cases d
  exact ⟨(R6 a).1,u,b,(R6 a).2.symm,a⟩
 ·rintro ⟨_,u,b,_,a⟩
  exact ⟨_,rfl,u,b,a⟩
theorem Q9B {l:List Cla} (b:G1 l) {i:Nat} (a:i<l.length):lk l (Y1 l i)=some l[i]:=by
 have:=Qo b a
 rwa [List.getD_eq_getElem?_getD,List.getElem?_eq_getElem a] at this
theorem Q9y {l:List Cla} (a:G1 l) {i j:Nat} (b:i<l.length) (h:Thr (Edge l) l.length i j):j<l.length∧Uo (lk l) (Y1 l i) (Y1 l j):=by
 induction h with
 | one h=>
  obtain ⟨e,u,d,f,g⟩:=(Q34 a b).1 h
  obtain ⟨c,m,_⟩:=Zr g
  refine ⟨e,_,Q9B a b,u,d,?_⟩
  subst f;exact .refl m
 | more e o _ p=>
  obtain ⟨k,n⟩:=p o
  obtain ⟨_,u,d,f,g⟩:=(Q34 a b).1 e
  refine ⟨k,_,Q9B a b,u,d,?_⟩
  subst f;exact n.reach
theorem Q8y {l:List Cla} (w:G1 l) {a b:X0} (h:Hm.Reach (lk l) a b): ∀i j,Y4 l a=some i→Y4 l b=some j→i=j∨Thr (Edge l) l.length i j:=by
 induction h with
 | refl _=>
  intro i j g f;rw[g] at f;cases f;exact .inl rfl
 | step q r s t=>
  rename_i a u b c
  intro i j g f
  obtain ⟨d,v⟩:=s.left
  obtain ⟨_,_,k,m,p⟩:=U4 v
  obtain ⟨y,e,n,_⟩:=Zr g
  rw[q] at e;cases e
  have o:Edge l i k:=⟨c,n,u,r,m⟩
  rcases t k j m f with rfl | hT
  ·exact .inr (.one o)
  ·exact .inr (.more o (R6 m).1 hT)
theorem Q8Y {l:List Cla} (b:G1 l) {i j:Nat} (m:i<l.length) (g:j<l.length) (h:Uo (lk l) (Y1 l i) (Y1 l j)):Thr (Edge l) l.length i j:=by
 obtain ⟨c,f,u,q,n⟩:=h
 rw[Q9B b m] at f;cases f
 obtain ⟨d,r⟩:=n.left
 obtain ⟨_,_,k,a,p⟩:=U4 r
 have o:Edge l i k:=⟨_,List.getElem?_eq_getElem m,u,q,a⟩
 have e:Y4 l (Y1 l j)=some j:=by
  have:=b.find (List.getElem?_eq_getElem g)
  unfold Y1
  rw[List.getD_eq_getElem?_getD,List.getElem?_eq_getElem g];exact this
 rcases Q8y b n k j a e with rfl | hT
 ·exact .one o
 ·exact .more o (R6 a).1 hT
theorem X1a {l:List Cla} (a:G1 l) {i j:Nat} (b:i<l.length) (c:j<l.length):Thr (Edge l) l.length i j↔Zx l (Y1 l i) (Y1 l j)=true:=by
 rw[Vm]
 exact ⟨fun h=>(Q9y a b h).2,Q8Y a b c⟩
def Xj (l:List Cla):List (List Bool):=(List.range l.length).map fun i=>(List.range l.length).map fun j=>Zx l (Y1 l i) (Y1 l j)
def Sc (m:Nat→Nat→Bool) (i j:Nat) (b:Bool):Nat→Nat→Bool:=fun x y=>if x=i∧y=j then b else m x y
structure Clos (E : Nat → Nat → Prop) (n k i j : Nat) (m : Nat → Nat → Bool) : Prop where
  sound : ∀ a b, m a b = true → Thr E n a b
  full : ∀ a b, a < n → b < n → Thr E k a b → m a b = true
  done : ∀ a b, a < n → b < n → (a < i ∨ (a = i ∧ b < j)) → Thr E (k + 1) a b → m a b = true
theorem Clos.next {E:Nat→Nat→Prop} {n k i j:Nat} {m:Nat→Nat→Bool} (h:Clos E n k i j m) (o:k<n) (t:i<n) (s:j<n):Clos E n k i (j+1) (Sc m i j (m i j||(m i k&&m k j))):=by
 have f: ∀a b,m a b=true→Sc m i j (m i j||(m i k&&m k j)) a b=true:=by
  intro a b c
  unfold Sc
  split
  ·rename_i e;rw[←e.1,←e.2,c];rfl
  ·exact c
 refine ⟨fun a b c=>?_,fun a b p r l=>f a b (h.full a b p r l),fun a b p r q l=>?_⟩
 ·unfold Sc at c
  split at c
  ·rename_i e
   obtain ⟨rfl,rfl⟩:=e
   simp only[Bool.or_eq_true,Bool.and_eq_true] at c
   rcases c with d | ⟨d,g⟩
   ·exact h.sound _ _ d
   ·exact (h.sound _ _ d).join o (h.sound _ _ g)
  ·exact h.sound _ _ c
 ·by_cases e:a=i∧b=j
  ·obtain ⟨rfl,rfl⟩:=e
   unfold Sc
   rw[if_pos ⟨rfl,rfl⟩]
   rcases l.cut with d | ⟨d,g⟩
   ·rw[h.full _ _ t s d];rfl
   ·rw[h.full _ _ t o d,h.full _ _ o s g];simp
  ·refine f a b (h.done a b p r ?_ l)
   rcases q with d | ⟨d,g⟩
   ·exact .inl d
   ·right;refine ⟨d,?_⟩
    have:b≠j:=fun u=>e ⟨d,u⟩
    omega
theorem Clos.row {E:Nat→Nat→Prop} {n k i:Nat} {m:Nat→Nat→Bool} (h:Clos E n k i n m):Clos E n k (i+1) 0 m:=
 ⟨h.sound,h.full,fun a b d f c e=>h.done a b d f (by omega) e⟩
theorem Clos.round {E:Nat→Nat→Prop} {n k:Nat} {m:Nat→Nat→Bool} (h:Clos E n k n 0 m):Clos E n (k+1) 0 0 m:=
 ⟨h.sound,fun a b c e d=>h.done a b c e (.inl c) d,fun a b c e f d=>by omega⟩
theorem Clos.start {E:Nat→Nat→Prop} {n:Nat} {m:Nat→Nat→Bool} (h: ∀a b,a<n→(m a b=true↔E a b)) (j: ∀a b,n≤a→m a b=false):Clos E n 0 0 0 m:=by
 refine ⟨fun a b c=>?_,fun a b d i f=>?_,fun a b d i g f=>by omega⟩
 ·by_cases d:a<n
  ·exact .one ((h a b d).1 c)
  ·rw[j a b (by omega)] at c;cases c
 ·cases f with
  | one e=>exact (h a b d).2 e
  | more _ k _=>omega
theorem Clos.all {l:List Cla} (c:G1 l) {m:Nat→Nat→Bool} (h:Clos (Edge l) l.length l.length 0 0 m) {i j:Nat} (b:i<l.length) (a:j<l.length):m i j=Zx l (Y1 l i) (Y1 l j):=by
 rw[Bool.eq_iff_iff,←X1a c b a]
 exact ⟨h.sound i j,h.full i j b a⟩
end Go.Hm

namespace Go.Emb
open Go.RowKit Go.Hm
variable {P : Program} {w w0 w1 w' w'' : World} {K : Value → World → Prop} {σ σ0 σ1 σ' : Q4}
theorem X1j {t e:TypeId} {by_ n:Nat} {z:Value} [ts:TS P t e] [tz:TZ P e 1 by_ z] (g:X4 w σ) (l:z.cells= #[z]) (o:n≤1000000) (m:by_*n≤281474976710656)
 (h: ∀b w',w.heap.size≤b→Stp w σ w' σ→Z5 σ w' b (List.replicate n z)→K (.slice (some ⟨b,0,none⟩) n n) w'):Na P t (I n) (I n) w K:=by
 obtain ⟨i,j,c,d,a⟩:=tz.info
 have f:(i.bytes:Int)*(n:Int)≤281474976710656:=by
  rw[d]
  have:((by_*n:Nat):Int)≤281474976710656:=by omega
  rwa [Int.natCast_mul] at this
 have k:=run_makeSlice (P:=P) w t e i z ts.h j a .i64 .i64 (n:Int) (n:Int) (by omega) (Int.le_refl _) (by rw[c];simp only[Int.toNat_natCast];omega) f (by omega)
 unfold Na
 rw[Y0 k]
 simp only[Int.toNat_natCast,c,Nat.mul_one]
 refine h _ _ (Nat.le_refl _) (Stp.own g _) ⟨g.none (Nat.le_refl _),e,?_⟩
 rw[heap_alloc_new,l]
 have:madeCells #[z] n=(List.replicate n z).toArray:=by rw[←toList_madeCells_one,Array.toArray_toList]
 rw[this]
def Q49 (n:Nat) (_:Q4) (b:Nat) (cs:List Value):Prop:=cs=[.slice (some ⟨b,0,none⟩) n n]
instance (n:Nat):Rep (Q49 n):=⟨fun _ h=>h,fun h u hu=>by rw[h] at hu;simp at hu;subst hu;rfl⟩
def Q8q (σ:Q4) (xs:List Bool) (cs:List Value):Prop:= ∃v,cs=[v]∧Sl 1 Q6O σ v xs
instance:Rep Q8q:=⟨fun k h=>by obtain ⟨v,h1,h2⟩:=h;exact ⟨v,h1,h2.le k⟩,fun h u hu=>by
 obtain ⟨v,rfl,a,cap,rfl,_⟩:=h
 simp at hu;subst hu;rfl⟩
def bools (n:Nat) (f:Nat→Bool):List Value:=(List.range n).map fun j=> .bool (f j)
theorem Pk {n:Nat} {f:Nat→Bool}:(bools n f).length=n:=by simp[bools]
theorem Q3e {n j:Nat} {f:Nat→Bool} (h:j<n):(bools n f)[j]? =some (.bool (f j)):=by simp[bools,h]
theorem Q3a {n j:Nat} {f:Nat→Bool} {b:Bool}:(bools n f).set j (.bool b)=bools n (fun x=>if x=j then b else f x):=by
 apply List.ext_getElem?
 intro k
 rw[List.getElem?_set]
 by_cases a:k<n
 ·by_cases e:j=k
  ·subst e;simp[bools,a]
  ·have c: ¬k=j:=fun h=>e h.symm
   simp[bools,a,e,c]
 ·simp[bools,a]
  intro e;omega
theorem Q5Q {n:Nat}:List.replicate n (Value.bool false)=bools n fun _=>false:=by
 apply List.ext_getElem?
 intro k
 by_cases a:k<n<;>simp[bools,a]
def T1 (σ:Q4) (w:World) (a:List Nat) (n:Nat) (m:Nat→Nat→Bool):Prop:=a.Nodup∧ ∀i (h:i<a.length),Z5 σ w a[i] (bools n (m i))
theorem T1.up {a:List Nat} {n:Nat} {m:Nat→Nat→Bool} (h:T1 σ w a n m) (k:Stp w σ w' σ'):T1 σ' w' a n m:=⟨h.1,fun i b=>(h.2 i b).up k⟩
theorem T1.kp {a:List Nat} {n:Nat} {m:Nat→Nat→Bool} {D:Nat→Prop} (h:T1 σ w a n m) (k:Kpt D w w') (d: ∀b∈a,¬D b):T1 σ w' a n m:=⟨h.1,fun i c=>(h.2 i c).kp k (d _ (List.getElem_mem c))⟩
theorem T1.lt {a:List Nat} {n:Nat} {m:Nat→Nat→Bool} (h:T1 σ w a n m) {b:Nat} (d:b∈a):b<w.heap.size∧σ b=none:=by
 obtain ⟨i,c,rfl⟩:=List.getElem_of_mem d
 exact ⟨(h.2 i c).lt,(h.2 i c).1⟩
theorem T1.snoc {d:List Nat} {n b:Nat} {m:Nat→Nat→Bool} {f:Nat→Bool} (h:T1 σ w d n m) (p:b∉d) (o:Z5 σ w b (bools n f)):T1 σ w (d++[b]) n (fun x=>if x=d.length then f else m x):=by
 refine ⟨by rw[List.nodup_append];exact ⟨h.1,by simp,fun a k c g e=>by simp at g;subst g;subst e;exact p k⟩,fun i l=>?_⟩
 rw[List.length_append,List.length_singleton] at l
 by_cases j:i<d.length
 ·rw[List.getElem_append_left j]
  simp only[if_neg (show¬i=d.length by omega)]
  exact h.2 i j
 ·obtain rfl:i=d.length:=by omega
  simp only[List.getElem_concat_length,if_true]
  exact o
theorem T1.congr {a:List Nat} {n:Nat} {m m':Nat→Nat→Bool} (h:T1 σ w a n m) (c: ∀i,i<a.length→m i=m' i):T1 σ w a n m':=⟨h.1,fun i b=>c i b▸h.2 i b⟩
theorem T1.keep {a:List Nat} {n:Nat} {m:Nat→Nat→Bool} (U:0<n) (u:n≤1000000): ∀{σ:Q4},T1 σ w a n m→Stp w0 σ0 w σ→(∀b∈a,w0.heap.size≤b)→ ∃σ',Stp w0 σ0 w σ'∧SLe σ σ'∧ ∀i (h:i<a.length),Sl 1 Q6O σ' (.slice (some ⟨a[i],0,none⟩) n n) ((List.range n).map (m i)):=by
 intro σ h J N
 have key: ∀k,k≤a.length→ ∃σ',Stp w0 σ0 w σ'∧SLe σ σ'∧(∀i (h:i<a.length),i<k→Z3 σ' ⟨a[i],0,none⟩ (bools n (m i)))∧ ∀i (h:i<a.length),k≤i→σ' a[i]=none:=by
  intro k
  induction k with
  | zero=>intro _;exact ⟨σ,J,SLe.refl _,fun i _ h=>by omega,fun i c _=>(h.2 i c).1⟩
  | succ k C=>
   intro R
   obtain ⟨σ1,f,l,o,t⟩:=C (by omega)
   have d:k<a.length:=by omega
   have z:Z5 σ1 w a[k] (bools n (m k)):=⟨t k d (Nat.le_refl _),(h.2 k d).2⟩
   obtain ⟨B,A,L,r,O⟩:=z.keep f (N _ (List.getElem_mem d))
   refine ⟨B,A,l.more ⟨r⟩,fun i c E=>?_,fun i c H=>?_⟩
   ·by_cases e:i=k
    ·subst e;exact L
    ·exact (o i c (by omega)).le r
   ·rw[O]
    ·exact t i c (by omega)
    ·intro e
     have:=List.nodup_iff_pairwise_ne.1 h.1
     rw[List.pairwise_iff_getElem] at this
     exact this k i d c (by omega) e.symm
 obtain ⟨σ1,f,l,o,_⟩:=key a.length (Nat.le_refl _)
 refine ⟨σ1,f,l,fun i c=>⟨some ⟨a[i],0,none⟩,n,by simp,by simp,by simp only[maxLen];omega,fun e=>(by cases e),?_⟩⟩
 intro b Q
 obtain rfl:=Option.some.inj Q
 refine ⟨fun _=>rfl,fun j x g=>?_⟩
 have s:j<n:=by have:=(List.getElem?_eq_some_iff.1 g).1;simpa using this
 obtain ⟨q0,D3,e,M,y,D⟩:=o i c c
 have p:x=m i j:=by simp[s] at g;exact g.symm
 refine ⟨[.bool x],⟨G5 rfl _,D3,e,M,by rw[C0];exact y,fun k v q=>?_⟩,rfl,rfl⟩
 obtain rfl:k=0:=by cases k with
  | zero=>rfl
  | succ k=>simp at q
 simp at q
 rw[Xt,←q,p]
 have:=D j _ (Q3e s)
 simpa using this
end Go.Emb

namespace Go.Emb
open Go.RowKit Go.Hm
variable {P : Program} {w w0 w1 w' w'' : World} {K : Value → World → Prop} {σ σ0 σ1 σ' : Q4}
theorem Q0f {t e:TypeId} {sz by_:Nat} {z:Value} [ts:TS P t e] [tz:TZ P e sz by_ z] {a:Addr} {n b i:Nat} (d:i<n) (c:K (.pointer (some (a.add (i*sz)))) w):indexAddr P t (.slice (some a) n b) (I i) w K:=by
 rw[Sq (by omega) (by omega)]
 simpa using c
theorem T1.nx {D:Nat→Prop} {a:List Nat} {n:Nat} {m:Nat→Nat→Bool} (h:T1 σ w a n m) (k:Nxt D w σ w' σ') (d: ∀b∈a,¬D b):T1 σ' w' a n m:=
 ⟨h.1,fun i c=>(h.2 i c).nx k (d _ (List.getElem_mem c))⟩
theorem T1.set {a:List Nat} {n i j:Nat} {b:Bool} {m:Nat→Nat→Bool} (h:T1 σ w a n m) (g:i<a.length) (o:Upd w a[i] w') (d:Z5 σ w' a[i] ((bools n (m i)).set j (.bool b))):T1 σ w' a n (Sc m i j b):=by
 refine ⟨h.1,fun k c=>?_⟩
 by_cases e:k=i
 ·subst e
  rw[Q3a] at d
  have:Sc m k j b k=fun x=>if x=j then b else m k x:=by funext x;simp[Sc]
  rw[this];exact d
 ·have:Sc m i j b k=m k:=by funext x;simp[Sc,e]
  rw[this]
  refine (h.2 k c).upd o fun f=>e ?_
  rcases Nat.lt_trichotomy k i with hlt | hlt | hlt
  ·have:=List.nodup_iff_pairwise_ne.1 h.1
   rw[List.pairwise_iff_getElem] at this
   exact absurd f (this k i c g hlt)
  ·exact hlt
  ·have:=List.nodup_iff_pairwise_ne.1 h.1
   rw[List.pairwise_iff_getElem] at this
   exact absurd f.symm (this i k g c hlt)
end Go.Emb
namespace Go.Proofs.YtfppjenblllfaaaGreatDoor
open Go.Emb Go.RowKit Go.Kd Go.Hm
variable {w : World} {K : Value → World → Prop} {σ : Q4} {l : List Cla} {v : Value}
def Vu (l:List Cla) (i j:Nat):Bool:=match l[i]? with
 | none=>false
 | some c=>(J3 c).any fun u=>decide (Y4 l u=some j)
theorem Q8G (l:List Cla) (i j:Nat):Vu l i j=true↔Hm.Edge l i j:=by
 unfold Vu Hm.Edge
 cases h:l[i]? with
 | none=>simp
 | some c=>simp[List.any_eq_true]
theorem Q81 {l:List Cla} {i j:Nat} (h:l.length≤i):Vu l i j=false:=by
 unfold Vu
 rw[List.getElem?_eq_none h]
set_option maxHeartbeats 4000000 in
theorem Q2X (hs:X4 w σ) (hl:Sl 8 U6 σ v l) (ho:G1 l) (hpos:0<l.length) (hlen:l.length≤1000) (hsm: ∀c∈l,P8 c)
 (h: ∀v' w' σ',Stp w σ w' σ'→Sl 1 Q8q σ' v' (Xj l)→K v' w'):Q0 P F.az [v] w K:=Gu (by
 unfold Wq
 refine Ae (R:=Q49 l.length) (e:=T.a0) (Stp.refl hs) (by decide) fun x0 w1 hk1 ha1 _=>?_
 refine O9 l.length (fun n x w'=> ∃σ' bs,Stp w σ w' σ'∧V0 w.heap.size T.a0 1 (Q49 l.length) σ' w' x bs∧T1 σ' w' bs l.length (Vu l)∧bs.length=n∧ ∀b∈bs,w.heap.size≤b∧x.ownBlock≠some b) ⟨σ,[],hk1,ha1,⟨List.nodup_nil,by simp⟩,rfl,by simp⟩ fun n x w2 d hn hinv=>?_
 obtain ⟨σ2,bs,hS2,ha2,hM2,hbl,hb2⟩:=hinv
 refine Q9 (hl.up hS2) ?_
 refine Z0 ?_
 refine Q5 (fun hc=>?_) (fun hc=>?_)
 ·have hn':n<l.length:=by simpa using hc
  have hl2:=hl.up hS2
  refine Q9 hl2 ?_
  refine X1j hS2.sat rfl (by omega) (by omega) fun b w3 hb3 hk3 hm3=>?_
  rw[Q5Q] at hm3
  obtain ⟨lv,fv,mv,p1,r1⟩:=hl2.elC hn'
  obtain ⟨g1,_,_,g4,g5⟩:=r1.parts
  have hsmc:=hsm _ (List.getElem_mem hn')
  have hs3:=hk3.sat
  refine U9 hs3 ?_
  (repeat refine J4 Qp ?_)
  refine Q2k (w:=w3) (σ:=σ2) (R:=X9) (sz:=1) (e:=T.c) [l[n].super] (fun t w hb e=>?_) ?_
  ·subst e;exact I6 hb.stp [_] [l[n].super] rfl rfl (by simp;rfl) rfl ⟨⟨rfl,g5⟩,trivial⟩ fun v' w' hk ha _=>Q4y hb hk ha
  (repeat refine J4 Qp ?_)
  rintro t24 t25 t30 t31 t26 t27 t32 w4 hb4 rfl rfl rfl rfl rfl ⟨f27,a27⟩ rfl
  refine Dl f27 a27 g1 rfl (by simp;have:=hsmc.1;omega) (by simp;have:=hsmc.1;omega) fun v5 w5 hn5 hS5 ha5 hat5=>?_
  obtain ⟨σ6,hS6,hv6,le6,_⟩:=ha5.keep hS5
  have hv6:Sl 1 X9 σ6 v5 (J3 l[n]):=hv6
  have hb3w:w.heap.size≤b:=Nat.le_trans hS2.bel.size hb3
  have hm6:=hm3.up hS6
  have ha6:=(ha2.up hk3).up hS6
  have hM6:=(hM2.up hk3).up hS6
  have hS26:=(hS2.trans hk3).trans hS6
  have hxb: ∀k,x.ownBlock=some k→k≠b:=fun k e=>by have:=(ha2.mem k e).2.1;omega
  have hbbs:b∉bs:=fun e=>by have:=(hM2.lt e).1;omega
  clear hm3 ha2 hM2 hS6 hS5 ha5 a27 f27 hn5 hat5
  refine J5 (J3 l[n]).length (fun k w'=>Stp w σ w' σ6∧V0 w.heap.size T.a0 1 (Q49 l.length) σ6 w' x bs∧T1 σ6 w' bs l.length (Vu l)∧Z5 σ6 w' b (bools l.length fun j=>((J3 l[n]).take k).any fun u=>decide (Y4 l u=some j)))
   ⟨hS26,ha6,hM6,hm6⟩ fun k w7 d7 hk hinv=>?_
  obtain ⟨hS7,ha7,hM7,hm7⟩:=hinv
  refine Q9 hv6 ?_
  refine Z0 ?_
  refine Q5 (fun hc=>?_) (fun hc=>?_)
  ·have hk':k<(J3 l[n]).length:=by simpa using hc
   refine V5 ?_
   refine U1 hv6 hk' ?_
   obtain ⟨p2,p3⟩:=hv6.elS hk'
   refine X8 hS7.sat p2 rfl ?_
   refine P6 hS7.sat (hl.up hS7) ?_
   refine Jb ?_
   rw[Ja]
   have hnx: ∀f:Nat→Bool,(∀j,f j=(((J3 l[n]).take k).any (fun u=>decide (Y4 l u=some j))||decide (Y4 l (J3 l[n])[k]=some j)))→f=fun j=>((J3 l[n]).take (k+1)).any fun u=>decide (Y4 l u=some j):=by
    intro f hf;funext j;rw[hf,M3 hk']
   cases hfc:Y4 l (J3 l[n])[k] with
   | none=>
    simp only[Option.isSome_none,↓M1,M1,Mb,reduceIte]
    intro d
    refine Y3 hv6.max hk' ⟨hS7,ha7,hM7,?_⟩
    rw[←hnx (fun j=>((J3 l[n]).take k).any fun u=>decide (Y4 l u=some j)) (fun j=>by rw[hfc];simp)]
    exact hm7
   | some j=>
    have hj:=(R6 hfc).1
    simp only[Option.isSome_some,W7,↓M1,M1,Mb,reduceIte]
    refine Q0f hj ?_
    rw[Nat.mul_one]
    refine Mc hm7 (by rw[Pk];exact hj) (by rfl) (by rfl) fun w8 u8 hm8=>?_
    intro d
    rw[Q3a] at hm8
    refine Y3 hv6.max hk' ⟨u8.stp hS7 hb3w hm7.1,ha7.kp (D:=(· =b)) (.of_upd u8 rfl) hxb,hM7.kp (D:=(· =b)) (.of_upd u8 rfl) (fun c hc e=>hbbs (e▸hc)),?_⟩
    rw[←hnx (fun x=>if x=j then true else _) (fun i=>?_)]
    ·exact hm8
    ·rw[hfc]
     by_cases e:i=j
     ·subst e;simp
     ·have: ¬j=i:=fun e'=>e e'.symm
      simp[e,this]
  ·have hk': ¬k<(J3 l[n]).length:=by simpa using hc
   have hk0:k=(J3 l[n]).length:=by omega
   subst hk0
   rw[List.take_of_length_le (Nat.le_refl _)] at hm7
   have hef:(fun j=>(J3 l[n]).any fun u=>decide (Y4 l u=some j))=Vu l n:=by
    funext j;unfold Vu;rw[List.getElem?_eq_getElem hn']
   rw[hef] at hm7
   have hM8:=(hM7.snoc hbbs hm7).congr (m':=Vu l) (fun i _=>by
    by_cases e:i=bs.length
    ·rw[if_pos e,e,hbl]
    ·rw[if_neg e])
   refine Uc (R:=Q49 l.length) (x:=b) hS7 ha7 rfl rfl rfl rfl (by omega) (by omega) fun s v' w9 σ9 hnx hS9 ha9 hat=>?_
   have hdis: ∀c∈bs++[b],w.heap.size≤c∧x.ownBlock≠some c:=by
    intro c hc
    rcases List.mem_append.1 hc with hc | hc
    ·exact hb2 c hc
    ·simp at hc;subst hc;exact ⟨hb3w,fun e=>hxb _ e rfl⟩
   have hlt9: ∀c∈bs++[b],c<w7.heap.size:=fun c hc=>(hM8.lt hc).1
   refine D7 ?_
   refine Z6 (by omega) hn' ⟨σ9,bs++[b],hS9,ha9,hM8.nx hnx (fun c hc=>(hdis c hc).2),by rw[List.length_append,hbl];rfl,fun c hc=>⟨(hdis c hc).1,fun e=>?_⟩⟩
   rcases hat with hat | hat
   ·exact (hdis c hc).2 (hat▸e)
   ·have:=hat c e;have:=hlt9 c hc;omega
 ·have hn0:n=l.length:=by
   have: ¬n<l.length:=by simpa using hc
   omega
  obtain ⟨σ8,hS8,hv8,le8,old8⟩:=ha2.keep hS2
  have hlb:bs.length=l.length:=by omega
  have hM8:T1 σ8 w2 bs l.length (Vu l):=⟨hM2.1,fun i hi=>⟨(old8 _ (fun e=>(hb2 _ (List.getElem_mem hi)).2 e.symm)).trans (hM2.2 i hi).1,(hM2.2 i hi).2⟩⟩
  have hpx: ∀i (hi:i<bs.length),Z3 σ8 (elA 1 x i) [.slice (some ⟨bs[i],0,none⟩) l.length l.length]:=fun i hi=>by
   obtain ⟨cs,h1,_,h2⟩:=hv8.el hi
   have h2:cs=_:=h2
   subst h2;exact h1
  clear ha2 hM2 hS2 le8 old8
  refine J5 l.length (fun k w'=> ∃m,Stp w σ w' σ8∧T1 σ8 w' bs l.length m∧Clos (Hm.Edge l) l.length k 0 0 m) ⟨Vu l,hS8,hM8,Clos.start (fun a b _=>Q8G l a b) (fun a b h=>Q81 h)⟩ fun k w3 d3 hk3 hinv=>?_
  obtain ⟨m3,hS3,hM3,hC3⟩:=hinv
  refine Q9 (hl.up hS3) ?_
  refine Z0 ?_
  refine Q5 (fun hc=>?_) (fun hc=>?_)
  ·have hk':k<l.length:=by simpa using hc
   refine J5 l.length (fun i w'=> ∃m,Stp w σ w' σ8∧T1 σ8 w' bs l.length m∧Clos (Hm.Edge l) l.length k i 0 m) ⟨m3,hS3,hM3,hC3⟩ fun i w4 d4 hi4 hinv=>?_
   obtain ⟨m4,hS4,hM4,hC4⟩:=hinv
   refine Q9 (hl.up hS4) ?_
   refine Z0 ?_
   refine Q5 (fun hc=>?_) (fun hc=>?_)
   ·have hi':i<l.length:=by simpa using hc
    refine J5 l.length (fun j w'=> ∃m,Stp w σ w' σ8∧T1 σ8 w' bs l.length m∧Clos (Hm.Edge l) l.length k i j m) ⟨m4,hS4,hM4,hC4⟩ fun j w5 d5 hj5 hinv=>?_
    obtain ⟨m5,hS5,hM5,hC5⟩:=hinv
    refine Q9 (hl.up hS5) ?_
    refine Z0 ?_
    refine Q5 (fun hc=>?_) (fun hc=>?_)
    ·have hj':j<l.length:=by simpa using hc
     have hi6:i<bs.length:=by omega
     have hk6:k<bs.length:=by omega
     have px_i:=hpx i hi6
     have px_k:=hpx k hk6
     have hrd: ∀{w':World} {K:Value→World→Prop} {a b:Nat} {ha:a<bs.length},Hst w5 σ8 w' σ8→b<l.length→K (.bool (m5 a b)) w'→Q2 P T.p (.pointer (some ((⟨bs[a],0,none⟩:Addr).add (b*1)))) w' K:=fun hst hb hK=>by
      rw[Nat.mul_one]
      exact Qg (((hM5.up hst.stp).2 _ _).cell (Q3e hb)) hK
     refine U9 hS5.sat ?_
     (repeat (apply J4;(· intros;(repeat (rename_i hx;subst hx));(repeat' (first | (with_reducible exact W8 rfl) | (with_reducible exact Xo (Stp.bel (by (repeat (first | exact Stp.refl (by (first | assumption | exact Stp.sat (by assumption) | exact Hst.sat (by assumption))) | assumption | refine Stp.trans ?_ (by first | assumption | exact Hst.stp (by assumption)))))) rfl) | (with_reducible intro _) | (simp only[↓M2,M2,Mb,reduceIte]) | (with_reducible refine Q0f au ?_) | (with_reducible refine hrd au au ?_) | (with_reducible show Q2 _ _ _ _ _;first | refine X8 aS aL aR ?_ | refine Z1 aS aL aR ?_ | refine ld aS aL aR ?_) | (with_reducible show indexAddr _ _ _ _ _ _;refine U1 aL au ?_) | (with_reducible show X5 _ _ _ _ _ _ _ _;refine Q9 aL ?_) | (with_reducible show Lq _ _ _ _ _ _;refine V1 aR ?_) | (with_reducible show pick _ _ _ _ _ _;refine Jr ?_) | (apply Wu;intro hh;(try simp only[hh,reduceIte,↓M2,M2,Mb,reduceIte]))));done)))
     cases h1:m5 i j
     ·simp only[reduceIte]
      (repeat (apply J4;(· intros;(repeat (rename_i hx;subst hx));(repeat' (first | (with_reducible exact W8 rfl) | (with_reducible exact Xo (Stp.bel (by (repeat (first | exact Stp.refl (by (first | assumption | exact Stp.sat (by assumption) | exact Hst.sat (by assumption))) | assumption | refine Stp.trans ?_ (by first | assumption | exact Hst.stp (by assumption)))))) rfl) | (with_reducible intro _) | (simp only[↓M2,M2,Mb,reduceIte]) | (with_reducible refine Q0f au ?_) | (with_reducible refine hrd au au ?_) | (with_reducible show Q2 _ _ _ _ _;first | refine X8 aS aL aR ?_ | refine Z1 aS aL aR ?_ | refine ld aS aL aR ?_) | (with_reducible show indexAddr _ _ _ _ _ _;refine U1 aL au ?_) | (with_reducible show X5 _ _ _ _ _ _ _ _;refine Q9 aL ?_) | (with_reducible show Lq _ _ _ _ _ _;refine V1 aR ?_) | (with_reducible show pick _ _ _ _ _ _;refine Jr ?_) | (apply Wu;intro hh;(try simp only[hh,reduceIte,↓M2,M2,Mb,reduceIte]))));done)))
      (intros;(repeat (rename_i hx;subst hx));(try simp only[↓M2,M2,Mb,reduceIte]))
      rename_i w6 hb6
      refine Q0f hj' ?_
      rw[Nat.mul_one]
      refine Eq.subst (motive:=fun V=>Z2 P T.p (.pointer (some ((⟨bs[i],0,none⟩:Addr).add j))) V w6 _) (show Value.bool (m5 i j||(m5 i k&&m5 k j))=_ from by cases h2:m5 i k<;>simp[h1,h2]) ?_
      refine Mc ((hM5.up hb6.stp).2 i hi6) (by rw[Pk];exact hj') (by rfl) (by rfl) fun w7 u7 hm7=>?_
      (try simp only[↓M1,M1,Mb,reduceIte])
      exact Y3 (by omega) hj' ⟨_,u7.stp (hS5.trans hb6.stp) (hb2 _ (List.getElem_mem hi6)).1 hm7.1,(hM5.up hb6.stp).set hi6 u7 hm7,hC5.next hk' hi' hj'⟩
     ·simp only[Bool.true_eq_false,reduceIte]
      (repeat (apply J4;(· intros;(repeat (rename_i hx;subst hx));(repeat' (first | (with_reducible exact W8 rfl) | (with_reducible exact Xo (Stp.bel (by (repeat (first | exact Stp.refl (by (first | assumption | exact Stp.sat (by assumption) | exact Hst.sat (by assumption))) | assumption | refine Stp.trans ?_ (by first | assumption | exact Hst.stp (by assumption)))))) rfl) | (with_reducible intro _) | (simp only[↓M2,M2,Mb,reduceIte]) | (with_reducible refine Q0f au ?_) | (with_reducible refine hrd au au ?_) | (with_reducible show Q2 _ _ _ _ _;first | refine X8 aS aL aR ?_ | refine Z1 aS aL aR ?_ | refine ld aS aL aR ?_) | (with_reducible show indexAddr _ _ _ _ _ _;refine U1 aL au ?_) | (with_reducible show X5 _ _ _ _ _ _ _ _;refine Q9 aL ?_) | (with_reducible show Lq _ _ _ _ _ _;refine V1 aR ?_) | (with_reducible show pick _ _ _ _ _ _;refine Jr ?_) | (apply Wu;intro hh;(try simp only[hh,reduceIte,↓M2,M2,Mb,reduceIte]))));done)))
      (intros;(repeat (rename_i hx;subst hx));(try simp only[↓M2,M2,Mb,reduceIte]))
      rename_i w6 hb6
      refine Q0f hj' ?_
      rw[Nat.mul_one]
      refine Eq.subst (motive:=fun V=>Z2 P T.p (.pointer (some ((⟨bs[i],0,none⟩:Addr).add j))) V w6 _) (show Value.bool (m5 i j||(m5 i k&&m5 k j))=_ from by simp[h1]) ?_
      refine Mc ((hM5.up hb6.stp).2 i hi6) (by rw[Pk];exact hj') (by rfl) (by rfl) fun w7 u7 hm7=>?_
      (try simp only[↓M1,M1,Mb,reduceIte])
      exact Y3 (by omega) hj' ⟨_,u7.stp (hS5.trans hb6.stp) (hb2 _ (List.getElem_mem hi6)).1 hm7.1,(hM5.up hb6.stp).set hi6 u7 hm7,hC5.next hk' hi' hj'⟩
    ·have hj0:j=l.length:=by
      have: ¬j<l.length:=by simpa using hc
      omega
     subst hj0
     refine D7 ?_
     exact Y3 (by omega) hi' ⟨m5,hS5,hM5,hC5.row⟩
   ·have hi0:i=l.length:=by
     have: ¬i<l.length:=by simpa using hc
     omega
    subst hi0
    refine D7 ?_
    exact Y3 (by omega) hk' ⟨m4,hS4,hM4,hC4.round⟩
  ·have hk0:k=l.length:=by
    have: ¬k<l.length:=by simpa using hc
    omega
   subst hk0
   obtain ⟨σ9,hS9,le9,hrows⟩:=hM3.keep hpos (by omega) hS3 (fun b hb=>(hb2 b hb).1)
   refine h _ _ _ hS9 ((hv8.lift le9).conv (by simp[Xj,hlb]) fun i hi hj cs hcs=>?_)
   have hcs:cs=_:=hcs
   subst hcs
   refine ⟨_,rfl,?_⟩
   have:=hrows i hi
   have he:(Xj l)[i]=(List.range l.length).map (m3 i):=by
    have hi':i<l.length:=by omega
    simp only[Xj,List.getElem_map,List.getElem_range]
    apply List.map_congr_left
    intro j hj
    exact (Clos.all ho hC3 hi' (by simpa using hj)).symm
   rw[he];exact this)
end Go.Proofs.YtfppjenblllfaaaGreatDoor
