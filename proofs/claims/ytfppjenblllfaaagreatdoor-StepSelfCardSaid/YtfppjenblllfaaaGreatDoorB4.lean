/- Parts of a proof about the given program: its functions as texts of their own, what each computes, plain laws of that. The conditions of each stand in its statement. -/
import Derived.Test.YtfppjenblllfaaaGreatDoorB3
import Derived.Shelf.Strings.Builder1
import Derived.Shelf.Strings.Builder2
import Derived.Shelf.Strings.OnBuilder
import Derived.Shelf.Strings.Trim
import Derived.Shelf.Small.Utf8
import Derived.Shelf.Small.Strs
import Derived.Shelf.Small.Wraps
import Derived.Shelf.Strings.BuilderF
import Derived.Shelf.Strings.BuilderK
import Derived.Shelf.Strings.Builder2Cap
import Derived.Shelf.Strings.Search1
import Derived.Shelf.Strings.Search2
import Derived.Shelf.Strings.Search3
import Derived.Shelf.Strings.Cut
import Derived.Shelf.LaysM
import Derived.Shelf.Strings.Shaped
import Derived.Shelf.Strings.Prefix
import Derived.Shelf.Unicode.Decode
import Derived.Shelf.Strings.Runes
import Derived.Shelf.Strings.AsciiSet
import Derived.Shelf.Unicode.DecodeSlow
import Derived.Shelf.Unicode.DecodeAny
import Derived.Shelf.Unicode.DecodeLast
import Derived.Shelf.Slices.Turned
import Derived.Ground.Names2Prog
import Derived.Shelf.Slices.Clone
import Derived.Ground.SlgnProg
import Derived.Shelf.SlicesE.Clone
import Derived.Shelf.Unicode.ValidAny
import Derived.Test.YtfppjenblllfaaaGreatDoorProg
import Derived.Test.YtfppjenblllfaaaGreatDoorRows
import Derived.Lib.LaidU8T
import Derived.OpenShut
import Derived.MakeChecks
import Derived.WideShapes
import Derived.Test.YtfppjenblllfaaaGreatDoorB2
import Derived.Lib.AsciiSet
import Derived.Lib.Join
import Derived.Maps.RangeRun
import Derived.Laws.OwnMore
set_option linter.unnecessarySimpa false
set_option linter.defProp false
set_option linter.unusedSectionVars false
set_option linter.unusedVariables false
set_option linter.unusedSimpArgs false
namespace Go.Proofs
open Go.Shelf
def Tryz.lays156_ren : Go.Shelf.Ren := ⟨fun | 156 => 165 | 165 => 200 | 166 => 201 | 169 => 202 | 240 => 219 | 241 => 220 | 276 => 230 | 277 => 231 | n => n, fun | 31 => 22 | 9 => 9 | 3 => 3 | 4 => 4 | 0 => 0 | 20 => 20 | 72 => 188 | 76 => 191 | 70 => 185 | 37 => 186 | 75 => 190 | 127 => 199 | 164 => 209 | 5 => 5 | 80 => 141 | n => n, fun | n => n⟩
theorem Tryz.lays156 : Go.Proofs.Lays.n156 Tryz.prog Tryz.lays156_ren := {
  mixed := by kernel_rfl
  f156 := Tryz.func165.trans (congrArg some (by kernel_rfl))
  f165 := Tryz.func200.trans (congrArg some (by kernel_rfl))
  f166 := Tryz.func201.trans (congrArg some (by kernel_rfl))
  f169 := Tryz.func202.trans (congrArg some (by kernel_rfl))
  f240 := Tryz.func219.trans (congrArg some (by kernel_rfl))
  f241 := Tryz.func220.trans (congrArg some (by kernel_rfl))
  f276 := Tryz.func230.trans (congrArg some (by kernel_rfl))
  f277 := Tryz.func231.trans (congrArg some (by kernel_rfl))
  t0 := Tryz.underlying0
  a0 := Tryz.isAgg0
  z0 := Tryz.sizeOf0
  v0 := Tryz.zeroValue0
  t3 := Tryz.underlying3
  a3 := Tryz.isAgg3
  z3 := Tryz.sizeOf3
  v3 := Tryz.zeroValue3
  t4 := Tryz.underlying4
  a4 := Tryz.isAgg4
  z4 := Tryz.sizeOf4
  v4 := Tryz.zeroValue4
  t9 := Tryz.underlying9
  a9 := Tryz.isAgg9
  z9 := Tryz.sizeOf9
  v9 := Tryz.zeroValue9
  t20 := Tryz.underlying20
  a20 := Tryz.isAgg20
  z20 := Tryz.sizeOf20
  v20 := Tryz.zeroValue20
  t31 := Tryz.underlying22
  a31 := Tryz.isAgg22
  z31 := Tryz.sizeOf22
  v31 := Tryz.zeroValue22
  t37 := Tryz.underlying186
  a37 := Tryz.isAgg186
  z37 := Tryz.sizeOf186
  v37 := Tryz.zeroValue186
  t70 := Tryz.underlying185
  a70 := Tryz.isAgg185
  z70 := Tryz.sizeOf185
  v70 := Tryz.zeroValue185
  t72 := Tryz.underlying188
  a72 := Tryz.isAgg188
  z72 := Tryz.sizeOf188
  v72 := Tryz.zeroValue188
  t75 := Tryz.underlying190
  a75 := Tryz.isAgg190
  z75 := Tryz.sizeOf190
  v75 := Tryz.zeroValue190
  t76 := Tryz.underlying191
  a76 := Tryz.isAgg191
  z76 := Tryz.sizeOf191
  v76 := Tryz.zeroValue191
  t127 := Tryz.underlying199
  a127 := Tryz.isAgg199
  z127 := Tryz.sizeOf199
  v127 := Tryz.zeroValue199
  t164 := Tryz.underlying209
  a164 := Tryz.isAgg209
  z164 := Tryz.sizeOf209
  v164 := Tryz.zeroValue209 }
theorem Tryz.Builder_Extra_156 : Builder.Extra Tryz.prog Tryz.lays156_ren := {
  sizeBuilder := by kernel_rfl
  liesBuilder := by kernel_rfl
  t5 := Tryz.underlying5
  a5 := Tryz.isAgg5
  z5 := Tryz.sizeOf5
  v5 := Tryz.zeroValue5
  infoByte := by kernel_rfl
  cellsByte := by kernel_rfl
  sizeByte := by kernel_rfl
  neB5 := by decide }
open Go.RowKit in
theorem Tryz.strings_Join_none (a : Option Addr) (c : Nat) (sep : ByteArray) (w : World) :
    Calls Tryz.prog 165 #[.slice a 0 c, .string sep] w fun e w' => e = .returned (.string ⟨#[]⟩) ∧ w' = w := Any.strings_Join_none Tryz.lays156 Tryz.Builder_Extra_156 a c sep w
open Go.RowKit in
theorem Tryz.strings_Join (bk o c : Nat) (xs : List ByteArray) (sep : ByteArray) (w : World) (hcells : ∀ (j : Nat) x, xs[j]? = some x → w.cell? ⟨bk, o + j, none⟩ = some (.string x)) (hbk : bk < w.heap.size) (hN : xs.length ≤ 140737488355328) (hcap : xs.length ≤ c) (hlen : (Lib.join (xs.map (·.data.toList)) sep.data.toList).length ≤ 140737488355328) :
    Calls Tryz.prog 165 #[.slice (some ⟨bk, o, none⟩) xs.length c, .string sep] w fun e w' => e = .returned (.string ⟨(Lib.join (xs.map (·.data.toList)) sep.data.toList).toArray⟩) ∧ Below w.heap.size w w' := Any.strings_Join Tryz.lays156 Tryz.Builder_Extra_156 bk o c xs sep w hcells hbk hN hcap hlen
open Go.RowKit in
def Tryz.lays144_ren : Go.Shelf.Ren := ⟨fun | 144 => 227 | 143 => 239 | 219 => 222 | 217 => 223 | 225 => 212 | 224 => 211 | 267 => 234 | 266 => 235 | 314 => 241 | n => n, fun | 9 => 9 | 4 => 4 | 3 => 3 | 5 => 5 | 46 => 196 | 146 => 218 | 51 => 217 | n => n, fun | 1 => 3 | n => n⟩
theorem Tryz.lays144 : Go.Proofs.Lays.n144 Tryz.prog Tryz.lays144_ren := {
  mixed := by kernel_rfl
  f143 := Tryz.func239.trans (congrArg some (by kernel_rfl))
  f144 := Tryz.func227.trans (congrArg some (by kernel_rfl))
  f217 := Tryz.func223.trans (congrArg some (by kernel_rfl))
  f219 := Tryz.func222.trans (congrArg some (by kernel_rfl))
  f224 := Tryz.func211.trans (congrArg some (by kernel_rfl))
  f225 := Tryz.func212.trans (congrArg some (by kernel_rfl))
  f266 := Tryz.func235.trans (congrArg some (by kernel_rfl))
  f267 := Tryz.func234.trans (congrArg some (by kernel_rfl))
  f314 := Tryz.func241.trans (congrArg some (by kernel_rfl))
  t3 := Tryz.underlying3
  a3 := Tryz.isAgg3
  z3 := Tryz.sizeOf3
  v3 := Tryz.zeroValue3
  t4 := Tryz.underlying4
  a4 := Tryz.isAgg4
  z4 := Tryz.sizeOf4
  v4 := Tryz.zeroValue4
  t5 := Tryz.underlying5
  a5 := Tryz.isAgg5
  z5 := Tryz.sizeOf5
  v5 := Tryz.zeroValue5
  t9 := Tryz.underlying9
  a9 := Tryz.isAgg9
  z9 := Tryz.sizeOf9
  v9 := Tryz.zeroValue9
  t46 := Tryz.underlying196
  a46 := Tryz.isAgg196
  z46 := Tryz.sizeOf196
  v46 := Tryz.zeroValue196
  t51 := Tryz.underlying217
  a51 := Tryz.isAgg217
  z51 := Tryz.sizeOf217
  v51 := Tryz.zeroValue217
  t146 := Tryz.underlying218
  a146 := Tryz.isAgg218
  z146 := Tryz.sizeOf218
  v146 := Tryz.zeroValue218
  g1 := by kernel_rfl }
open Go.RowKit Go.Lib in
theorem Tryz.strings_Contains_one (s : ByteArray) (c : UInt8) (w : World) :
    Calls Tryz.prog 227 #[.string s, .string ⟨#[c]⟩] w fun e w' => e = .returned (.bool (decide (0 ≤ Lib.indexByte s.data.toList c))) ∧ w' = w := Any.strings_Contains_one Tryz.lays144 s c w
def Tryz.lays227_ren : Go.Shelf.Ren := ⟨fun | 227 => 88 | n => n, fun | 9 => 9 | 116 => 107 | 4 => 4 | 0 => 0 | 3 => 3 | 5 => 5 | n => n, fun | n => n⟩
theorem Tryz.lays227 : Go.Proofs.Lays.n227 Tryz.prog Tryz.lays227_ren := {
  mixed := by kernel_rfl
  f227 := Tryz.func88.trans (congrArg some (by kernel_rfl))
  t0 := Tryz.underlying0
  a0 := Tryz.isAgg0
  z0 := Tryz.sizeOf0
  v0 := Tryz.zeroValue0
  t3 := Tryz.underlying3
  a3 := Tryz.isAgg3
  z3 := Tryz.sizeOf3
  v3 := Tryz.zeroValue3
  t4 := Tryz.underlying4
  a4 := Tryz.isAgg4
  z4 := Tryz.sizeOf4
  v4 := Tryz.zeroValue4
  t5 := Tryz.underlying5
  a5 := Tryz.isAgg5
  z5 := Tryz.sizeOf5
  v5 := Tryz.zeroValue5
  t9 := Tryz.underlying9
  a9 := Tryz.isAgg9
  z9 := Tryz.sizeOf9
  v9 := Tryz.zeroValue9
  t116 := Tryz.underlying107
  a116 := Tryz.isAgg107
  z116 := Tryz.sizeOf107 }
open Go.RowKit Go.Lib in
theorem Tryz.strings_makeASCIISet (hv116 : ∀ w, (zeroValue 107).run Tryz.prog w = .ok (.agg (Array.replicate 256 (.bool false))) w) (chars : ByteArray) (w : World) (hs : chars.size < 4294967281) (hascii : ∀ (j : Nat) b, chars.data.toList[j]? = some b → b.toNat < 128) :
    Calls Tryz.prog 88 #[.string chars] w fun e w' => e = .returned (.tuple #[.agg (Lib.setCells chars.data.toList), .bool true]) ∧ w' = w.alloc (.cells (Lib.setCells chars.data.toList) 107) := Any.strings_makeASCIISet Tryz.lays227 hv116 (by kernel_rfl) chars w hs hascii
open Go.RowKit Go.Lib in
def Tryz.lays196_ren : Go.Shelf.Ren := ⟨fun | 196 => 226 | 259 => 238 | n => n, fun | 9 => 9 | 4 => 4 | 3 => 3 | 5 => 5 | 12 => 12 | 119 => 200 | 0 => 0 | 46 => 196 | 139 => 203 | 138 => 202 | 53 => 220 | n => n, fun | 3 => 1 | 4 => 2 | n => n⟩
theorem Tryz.lays196 : Go.Proofs.Lays.n196 Tryz.prog Tryz.lays196_ren := {
  mixed := by kernel_rfl
  f196 := Tryz.func226.trans (congrArg some (by kernel_rfl))
  f259 := Tryz.func238.trans (congrArg some (by kernel_rfl))
  t0 := Tryz.underlying0
  a0 := Tryz.isAgg0
  z0 := Tryz.sizeOf0
  v0 := Tryz.zeroValue0
  t3 := Tryz.underlying3
  a3 := Tryz.isAgg3
  z3 := Tryz.sizeOf3
  v3 := Tryz.zeroValue3
  t4 := Tryz.underlying4
  a4 := Tryz.isAgg4
  z4 := Tryz.sizeOf4
  v4 := Tryz.zeroValue4
  t5 := Tryz.underlying5
  a5 := Tryz.isAgg5
  z5 := Tryz.sizeOf5
  v5 := Tryz.zeroValue5
  t9 := Tryz.underlying9
  a9 := Tryz.isAgg9
  z9 := Tryz.sizeOf9
  v9 := Tryz.zeroValue9
  t12 := Tryz.underlying12
  a12 := Tryz.isAgg12
  z12 := Tryz.sizeOf12
  v12 := Tryz.zeroValue12
  t46 := Tryz.underlying196
  a46 := Tryz.isAgg196
  z46 := Tryz.sizeOf196
  v46 := Tryz.zeroValue196
  t53 := Tryz.underlying220
  a53 := Tryz.isAgg220
  z53 := Tryz.sizeOf220
  v53 := Tryz.zeroValue220
  t119 := Tryz.underlying200
  a119 := Tryz.isAgg200
  z119 := Tryz.sizeOf200
  t138 := Tryz.underlying202
  a138 := Tryz.isAgg202
  z138 := Tryz.sizeOf202
  v138 := Tryz.zeroValue202
  t139 := Tryz.underlying203
  a139 := Tryz.isAgg203
  z139 := Tryz.sizeOf203
  v139 := Tryz.zeroValue203
  g3 := by kernel_rfl
  g4 := by kernel_rfl }
end Go.Proofs

namespace Go.Proofs.YtfppjenblllfaaaGreatDoor
open Go.Emb Go.RowKit Go.Kd Go.Hm
variable {w : World} {K : Value → World → Prop} {σ : Q4}
theorem Q8S {f:FuncId} {fn:Func} {a:List Value} {V:Value} (d:P.funcs[f]? =some fn) (b:fn.body.isSome=true) (c:(fn.name== "runtime.NumGoroutine")=false)
 (h:Calls P f a.toArray w fun e w'=>e= .returned V∧Below w.heap.size w w') (g: ∀w',Below w.heap.size w w'→K V w'):Q0 P f a w K:=by
 refine Um d b c (Calls.mono h ?_)
 rintro e w' ⟨rfl,b⟩
 exact g w' b
theorem Q3u {a:X0} (c:a.length≤J3) (b:Lib.Utf8Tabs G.e G.d w) (h: ∀w',Below w.heap.size w w'→K (.bool (Lib.validD a)) w'):Q0 P F.bx [S a] w K:=
 Q8S Tryz.func226 (by kernel_rfl) (by kernel_rfl) (by
  have:=Any.utf8_ValidString Tryz.lays196 ⟨a.toArray⟩ w (by rw[C7];simp only[J3] at c;omega) b
  simp only[List.toList_toArray] at this
  exact this) h
theorem Q5S {a:X0} {c:UInt8} (h:K (.bool (decide (0≤Lib.indexByte a c))) w):Q0 P F.cn [S a,S [c]] w K:=by
 refine Um (fn:=Tryz.f227) Tryz.func227 (by kernel_rfl) (by kernel_rfl) (Calls.mono (Tryz.strings_Contains_one ⟨a.toArray⟩ c w) ?_)
 rintro e w' ⟨rfl,rfl⟩
 exact h
structure Glb (σ : Q4) : Prop where
  ops : Q18 σ
  tabs : ∀ w, X4 w σ → Lib.Utf8Tabs G.e G.d w
  flt : Z2 σ ⟨G.b, 0, none⟩ (J1.map S)
theorem Glb.lift {σ0:Q4} (h:Glb σ0) (k:SLe σ0 σ):Glb σ:=⟨h.ops.le k.le,fun w a=>h.tabs w fun b o e=>a b o (k.le b o e),h.flt.le k.le⟩
def txt (n s:X0):Bool:=
 if n=[119,111,114,100] then decide (s.length≤64)&&Lib.validD s&& !decide (0≤Lib.indexByte s 10)
 else if n=[110,101,119] then W6 s
 else if n=[105,115]∨n=[99,97,115,116] then right s&& !plain s
 else if n=[97,114,114,97,121] then right s&&decide (Q15 s<3)
 else Xr s
theorem X1k {n a:X0} (ha:a.length≤J3) (hs:X4 w σ) (hg:Glb σ) (h: ∀w' σ',Stp w σ w' σ'→K (.bool (txt n a)) w'):Q0 P F.cB [S n,S a] w K:=Q5z (by
 unfold Q0A
 have ha':a.length≤140737488355320:=by simp only[J3] at ha;omega
 have ha2:a.length≤140737488355328:=by simp only[J3] at ha;omega
 have hv: ∀{w1:World} {K:Value→World→Prop},X4 w1 σ→(∀w',Below w1.heap.size w1 w'→K (.bool (Lib.validD a)) w')→Q0 P F.bx [S a] w1 K:=fun hk h=>Q3u ha (hg.tabs _ hk) h
 unfold txt at h
 have e:decide ((a.length:Int)≤64)=decide (a.length≤64):=by rw[Bool.eq_iff_iff];simp only[decide_eq_true_eq];omega
 have e3:decide ((Q15 a:Int)<3)=decide (Q15 a<3):=by rw[Bool.eq_iff_iff];simp only[decide_eq_true_eq];omega
 by_cases h1:n=[119,111,114,100]
 ·rw[if_pos h1] at h
  simp only[decide_eq_true h1,↓M1,M1,Mb,reduceIte,e]
  by_cases h2:a.length≤64
  ·simp only[decide_eq_true h2,↓M1,M1,Mb,reduceIte] at h⊢
   refine hv hs (W2 hs ?_)
   intro w1 σ1 hk
   by_cases h3:Lib.validD a=true
   ·simp only[h3,↓M1,M1,Mb,reduceIte] at h⊢
    refine Q5S ?_
    (repeat' (first | (with_reducible intro _) | (with_reducible refine V6 ?_) | (simp only[↓M2,M2,Mb,reduceIte]) | (with_reducible first | refine ld aS aL aR ?_ | refine X8 aS aL aR ?_ | refine Y7 aS aL aR ?_ | refine Q8 aL ?_ | refine V0 aR ?_ | refine Y9 aS ?_ | refine L1 aS aL ?_ | refine J6 aS aR ?_ | refine Y6 aS aR aR (Rep.one (by assumption)) ?_ | refine U0 aS aR aR aR ?_ | (refine Z4 (fun hh=>?_) (fun hh=>?_)<;>(try simp only[hh,Bool.not_true,Bool.not_false,↓M2,M2,Mb,reduceIte])) | (refine Q5 (fun hh=>?_) (fun hh=>?_)<;>(try simp only[hh,Bool.not_true,Bool.not_false,↓M2,M2,Mb,reduceIte])))))
    all_goals exact aF
   ·simp only[eq_false_of_ne_true h3,↓M1,M1,Mb,reduceIte] at h⊢
    (repeat' (first | (with_reducible intro _) | (with_reducible refine V6 ?_) | (simp only[↓M2,M2,Mb,reduceIte]) | (with_reducible first | refine ld aS aL aR ?_ | refine X8 aS aL aR ?_ | refine Y7 aS aL aR ?_ | refine Q8 aL ?_ | refine V0 aR ?_ | refine Y9 aS ?_ | refine L1 aS aL ?_ | refine J6 aS aR ?_ | refine Y6 aS aR aR (Rep.one (by assumption)) ?_ | refine U0 aS aR aR aR ?_ | (refine Z4 (fun hh=>?_) (fun hh=>?_)<;>(try simp only[hh,Bool.not_true,Bool.not_false,↓M2,M2,Mb,reduceIte])) | (refine Q5 (fun hh=>?_) (fun hh=>?_)<;>(try simp only[hh,Bool.not_true,Bool.not_false,↓M2,M2,Mb,reduceIte])))))
    all_goals exact aF
  ·simp only[decide_eq_false h2,↓M1,M1,Mb,reduceIte] at h⊢
   (repeat' (first | (with_reducible intro _) | (with_reducible refine V6 ?_) | (simp only[↓M2,M2,Mb,reduceIte]) | (with_reducible first | refine ld aS aL aR ?_ | refine X8 aS aL aR ?_ | refine Y7 aS aL aR ?_ | refine Q8 aL ?_ | refine V0 aR ?_ | refine Y9 aS ?_ | refine L1 aS aL ?_ | refine J6 aS aR ?_ | refine Y6 aS aR aR (Rep.one (by assumption)) ?_ | refine U0 aS aR aR aR ?_ | (refine Z4 (fun hh=>?_) (fun hh=>?_)<;>(try simp only[hh,Bool.not_true,Bool.not_false,↓M2,M2,Mb,reduceIte])) | (refine Q5 (fun hh=>?_) (fun hh=>?_)<;>(try simp only[hh,Bool.not_true,Bool.not_false,↓M2,M2,Mb,reduceIte])))))
   all_goals exact aF
 rw[if_neg h1] at h
 simp only[decide_eq_false h1,↓M1,M1,Mb,reduceIte]
 by_cases h2:n=[110,101,119]
 ·rw[if_pos h2] at h
  simp only[decide_eq_true h2,↓M1,M1,Mb,reduceIte]
  (repeat' (first | (with_reducible intro _) | (with_reducible refine V6 ?_) | (simp only[↓M2,M2,Mb,reduceIte]) | (with_reducible first | refine ld aS aL aR ?_ | refine X8 aS aL aR ?_ | refine Y7 aS aL aR ?_ | refine Q8 aL ?_ | refine V0 aR ?_ | refine Y9 aS ?_ | refine L1 aS aL ?_ | refine J6 aS aR ?_ | refine Y6 aS aR aR (Rep.one (by assumption)) ?_ | refine U0 aS aR aR aR ?_ | refine Dl _ au (W2 aS ?_) | (refine Z4 (fun hh=>?_) (fun hh=>?_)<;>(try simp only[hh,Bool.not_true,Bool.not_false,↓M2,M2,Mb,reduceIte])) | (refine Q5 (fun hh=>?_) (fun hh=>?_)<;>(try simp only[hh,Bool.not_true,Bool.not_false,↓M2,M2,Mb,reduceIte])))))
  all_goals exact aF
 rw[if_neg h2] at h
 simp only[decide_eq_false h2,↓M1,M1,Mb,reduceIte]
 by_cases h3:n=[105,115]∨n=[99,97,115,116]
 ·rw[if_pos h3] at h
  have e4:(decide (n=[105,115])||decide (n=[99,97,115,116]))=true:=by simpa using h3
  refine V6 ?_
  refine Q5 (fun h4=>?_) (fun h4=>?_)
  ·simp only[h4,↓M1,M1,Mb,reduceIte]
   (repeat' (first | (with_reducible intro _) | (with_reducible refine V6 ?_) | (simp only[↓M2,M2,Mb,reduceIte]) | (with_reducible first | refine ld aS aL aR ?_ | refine X8 aS aL aR ?_ | refine Y7 aS aL aR ?_ | refine Q8 aL ?_ | refine V0 aR ?_ | refine Y9 aS ?_ | refine L1 aS aL ?_ | refine J6 aS aR ?_ | refine Y6 aS aR aR (Rep.one (by assumption)) ?_ | refine U0 aS aR aR aR ?_ | refine Zn _ au (W2 aS ?_) | refine Up _ ?_ | (refine Z4 (fun hh=>?_) (fun hh=>?_)<;>(try simp only[hh,Bool.not_true,Bool.not_false,↓M2,M2,Mb,reduceIte])) | (refine Q5 (fun hh=>?_) (fun hh=>?_)<;>(try simp only[hh,Bool.not_true,Bool.not_false,↓M2,M2,Mb,reduceIte])))))
   all_goals exact aF
  ·rw[h4,Bool.false_or] at e4
   simp only[e4,↓M1,M1,Mb,reduceIte]
   (repeat' (first | (with_reducible intro _) | (with_reducible refine V6 ?_) | (simp only[↓M2,M2,Mb,reduceIte]) | (with_reducible first | refine ld aS aL aR ?_ | refine X8 aS aL aR ?_ | refine Y7 aS aL aR ?_ | refine Q8 aL ?_ | refine V0 aR ?_ | refine Y9 aS ?_ | refine L1 aS aL ?_ | refine J6 aS aR ?_ | refine Y6 aS aR aR (Rep.one (by assumption)) ?_ | refine U0 aS aR aR aR ?_ | refine Zn _ au (W2 aS ?_) | refine Up _ ?_ | (refine Z4 (fun hh=>?_) (fun hh=>?_)<;>(try simp only[hh,Bool.not_true,Bool.not_false,↓M2,M2,Mb,reduceIte])) | (refine Q5 (fun hh=>?_) (fun hh=>?_)<;>(try simp only[hh,Bool.not_true,Bool.not_false,↓M2,M2,Mb,reduceIte])))))
   all_goals exact aF
 rw[if_neg h3] at h
 obtain ⟨h3,h4⟩:=not_or.1 h3
 refine V6 ?_
 simp only[decide_eq_false h3,decide_eq_false h4,↓M1,M1,Mb,reduceIte]
 by_cases h5:n=[97,114,114,97,121]
 ·rw[if_pos h5] at h
  simp only[decide_eq_true h5,↓M1,M1,Mb,reduceIte]
  (repeat' (first | (with_reducible intro _) | (with_reducible refine V6 ?_) | (simp only[↓M2,M2,Mb,reduceIte]) | (with_reducible first | refine ld aS aL aR ?_ | refine X8 aS aL aR ?_ | refine Y7 aS aL aR ?_ | refine Q8 aL ?_ | refine V0 aR ?_ | refine Y9 aS ?_ | refine L1 aS aL ?_ | refine J6 aS aR ?_ | refine Y6 aS aR aR (Rep.one (by assumption)) ?_ | refine U0 aS aR aR aR ?_ | refine Zn _ au (W2 aS ?_) | refine X1x _ au (W2 aS ?_) | (refine Z4 (fun hh=>?_) (fun hh=>?_)<;>(try simp only[hh,Bool.not_true,Bool.not_false,↓M2,M2,Mb,reduceIte])) | (refine Q5 (fun hh=>?_) (fun hh=>?_)<;>(try simp only[hh,Bool.not_true,Bool.not_false,↓M2,M2,Mb,reduceIte])))))
  all_goals (try rw[e3])
  all_goals exact aF
 rw[if_neg h5] at h
 simp only[decide_eq_false h5,↓M1,M1,Mb,reduceIte]
 intro _
 refine X0I a ha2 (W2 hs fun w1 σ1 hk=>?_)
 by_cases hp:Xr a=true
 ·simp only[hp,if_true] at h⊢
  (repeat' (first | (with_reducible intro _) | (with_reducible refine V6 ?_) | (simp only[↓M2,M2,Mb,reduceIte]) | (with_reducible first | refine ld aS aL aR ?_ | refine X8 aS aL aR ?_ | refine Y7 aS aL aR ?_ | refine Q8 aL ?_ | refine V0 aR ?_ | refine Y9 aS ?_ | refine L1 aS aL ?_ | refine J6 aS aR ?_ | refine Y6 aS aR aR (Rep.one (by assumption)) ?_ | refine U0 aS aR aR aR ?_ | (refine Z4 (fun hh=>?_) (fun hh=>?_)<;>(try simp only[hh,Bool.not_true,Bool.not_false,↓M2,M2,Mb,reduceIte])) | (refine Q5 (fun hh=>?_) (fun hh=>?_)<;>(try simp only[hh,Bool.not_true,Bool.not_false,↓M2,M2,Mb,reduceIte])))))
  all_goals exact aF
 ·simp only[eq_false_of_ne_true hp,Bool.false_eq_true,if_false] at h⊢
  (repeat' (first | (with_reducible intro _) | (with_reducible refine V6 ?_) | (simp only[↓M2,M2,Mb,reduceIte]) | (with_reducible first | refine ld aS aL aR ?_ | refine X8 aS aL aR ?_ | refine Y7 aS aL aR ?_ | refine Q8 aL ?_ | refine V0 aR ?_ | refine Y9 aS ?_ | refine L1 aS aL ?_ | refine J6 aS aR ?_ | refine Y6 aS aR aR (Rep.one (by assumption)) ?_ | refine U0 aS aR aR aR ?_ | (refine Z4 (fun hh=>?_) (fun hh=>?_)<;>(try simp only[hh,Bool.not_true,Bool.not_false,↓M2,M2,Mb,reduceIte])) | (refine Q5 (fun hh=>?_) (fun hh=>?_)<;>(try simp only[hh,Bool.not_true,Bool.not_false,↓M2,M2,Mb,reduceIte])))))
  all_goals exact aF)
def N0 (i:Ins):Int:=if !(takes i.op).2.2 then 40 else if (!(takes i.op).1&&decide (i.n≠0))||(!(takes i.op).2.1&&decide (i.s≠[]))||((takes i.op).2.1&& !txt i.op i.s) then 41 else 0
theorem Q9u {a:X0} (b:X4 w σ) (c:Glb σ) (h: ∀w',Below w.heap.size w w'→K (.tuple #[.bool (takes a).1, .bool (takes a).2.1, .bool (takes a).2.2]) w'):Q0 P F.bV [S a] w K:=X0s b c.ops h
theorem Q5n {i:Ins} {cs:List Value} (hs:X4 w σ) (hg:Glb σ) (hi:I3 σ i cs) (h: ∀w' σ',Stp w σ w' σ'→K (I (N0 i)) w'):Q0 P F.cv [.agg cs.toArray] w K:=Q4a (by
 obtain ⟨rfl,h1,h2,h3⟩:=hi
 unfold Kx
 unfold N0 at h
 (repeat' (first | (with_reducible intro _) | (with_reducible refine V6 ?_) | (simp only[↓M2,M2,Mb,reduceIte]) | (with_reducible first | refine ld aS aL aR ?_ | refine X8 aS aL aR ?_ | refine Y7 aS aL aR ?_ | refine Q8 aL ?_ | refine V0 aR ?_ | refine Y9 aS ?_ | refine L1 aS aL ?_ | refine J6 aS aR ?_ | refine Y6 aS aR aR (Rep.one (by assumption)) ?_ | refine U0 aS aR aR aR ?_ | refine Q9u au au (W2 aS ?_) | refine X1k au au au ?_ | (refine Z4 (fun hh=>?_) (fun hh=>?_)<;>(try simp only[hh,Bool.not_true,Bool.not_false,↓M2,M2,Mb,reduceIte])) | (refine Q5 (fun hh=>?_) (fun hh=>?_)<;>(try simp only[hh,Bool.not_true,Bool.not_false,↓M2,M2,Mb,reduceIte])))))
 all_goals exact aF)
end Go.Proofs.YtfppjenblllfaaaGreatDoor

namespace Go.Emb
open Go.RowKit Go.Hm
variable {P : Program} {W : World}
theorem Q1d {w:World} (c:X4 w (Ug W)) {a:Addr} {v:Value} (h:W.cell? a=some v):w.cell? a=some v:=by
 unfold World.cell? at h⊢
 cases b:W.heap[a.block]? with
 | none=>rw[b] at h;cases h
 | some o=>rw[b] at h;rw[c _ o b];exact h
theorem X1d {α:Type} {f:α→List Value} {sz:Nat} (k: ∀a,(f a).length=sz): ∀(l:List α) (cs:List Value),cs.length=l.length*sz→(∀i a,l[i]? =some a→(cs.drop (i*sz)).take sz=f a)→cs=l.flatMap f:=by
 intro l
 induction l with
 | nil=>intro cs h _;simp at h;simp[h]
 | cons a r c=>
  intro cs h hh
  have j:=hh 0 a rfl
  have g:=c (cs.drop sz) (by rw[List.length_drop,h,List.length_cons,Nat.succ_mul];omega) (fun i b e=>by
   have:=hh (i+1) b (by simpa using e)
   rw[List.drop_drop]
   rwa [Nat.succ_mul,Nat.add_comm] at this)
  rw[List.flatMap_cons,←g,←j]
  simp
theorem Q3d {α H:Type} {enc:TypeId×Value→H} {base:Nat} {u:Nat→Bool} {b:Bool} {f:α→List Value} {j:α→DataW H} {n sz:Nat} {t e:TypeId} {c:Nat} {cs:List Value} {p:List MemPlace} (y:P.underlying t=some (.array n e)) (B:P.cellsOf e=sz) (k:P.cellsOf t=n*sz)
 (l:List α) (C: ∀a,(f a).length=sz) (o: ∀m cs a q,DataW.trod enc P W base u b m e cs=some (j a,q)→cs=f a)
 (h:DataW.trod enc P W base u b c t cs=some (.agg (l.map j),p)):cs=l.flatMap f:=by
 obtain ⟨xs,m,_,g,z,J,E⟩:=DataW.trod_array y h
 simp only[Prod.mk.injEq,DataW.agg.injEq] at g
 have A:l.length=n:=by have:=congrArg List.length g.1;simp at this;omega
 refine X1d C l cs (by rw[z,k,A]) fun i a r=>?_
 have L:i<l.length:=(List.getElem?_eq_some_iff.1 r).1
 have s:=E i (by omega)
 have w:i<xs.length:=by omega
 rw[List.getElem?_eq_getElem w,B] at s
 have D:(xs[i]).1=j a:=by
  have:=congrArg (·[i]?) g.1
  simp only[List.getElem?_map,r,List.getElem?_eq_getElem w,Option.map_some,Option.some.injEq] at this
  exact this.symm
 exact o m _ a _ (by rw[s];congr 1;exact Prod.ext D rfl)
theorem Q4z {n:String} {g:Nat} {cs:Array Value} {l:List Value} (f:P.globalNamed n=some g) (a:W.var? P n=some cs) (h:cs.toList=l):Z2 (Ug W) ⟨g,0,none⟩ l:=by
 unfold World.var? at a
 rw[f] at a
 simp only[Option.bind_some] at a
 cases b:W.heap[g]? with
 | none=>rw[b] at a;cases a
 | some o=>
  rw[b] at a
  cases o with
  | cells H5 e c=>
   cases a
   refine ⟨rfl,cs,e,c,b,fun i v j=>?_⟩
   subst h
   simpa using j
  | _=>cases a
end Go.Emb
namespace Go.Proofs.YtfppjenblllfaaaGreatDoor
open Go.Emb Go.RowKit Go.Kd Go.Hm
variable {W : World}
def laidAll:List (String×DataW Unit):=[("unicode/utf8.acceptRanges",Rows.laid_unicode_utf8_acceptRanges),("squinch/code.ops",Rows.laid_squinch_code_ops),("squinch/hier.faults",Rows.laid_squinch_hier_faults),("unicode/utf8.first",Rows.laid_unicode_utf8_first)]
theorem X2i:Rows.laid_squinch_code_ops=(.agg (Zd.map fun o=> .agg [.lit (.string o.name), .lit (.bool o.number), .lit (.bool o.text)]):DataW Unit):=by rfl
theorem Q9E:Rows.laid_squinch_hier_faults=(.agg (J1.map fun s=> .lit (.string s)):DataW Unit):=by rfl
theorem X2d:(Rows.laid_unicode_utf8_acceptRanges:DataW Unit)=Lib.acceptData:=by rfl
theorem X14:Rows.laid_unicode_utf8_first=Lib.firstData:=by kernel_rfl
def X2t:Array Field:= #[⟨"name",T.b,0,false, "", "squinch/code",0⟩,⟨"number",T.m,1,false, "", "squinch/code",16⟩,⟨"text",T.m,2,false, "", "squinch/code",17⟩]
theorem X2q:P.underlying T.a6=some (.struct X2t):=by kernel_rfl
theorem X1F (h:laidMetH P laidAll W):Glb (Ug W):=by
 rw[Go.MakeChecks.laidMetH_plain _ _ _ (by kernel_rfl)] at h
 refine ⟨?_,fun w z=>?_,?_⟩
 ·obtain ⟨g,t,cs,l,p,u,j,b,r⟩:=Lib.laidMet.reads h (.tail _ (.head _))
  obtain rfl:=Option.some.inj ((show P.globalNamed "squinch/code.ops"=some G.a by kernel_rfl).symm.trans u)
  obtain rfl:=Option.some.inj ((show (P.globals[G.a]?).map (·.type)=some T.a8 by kernel_rfl).symm.trans j)
  rw[X2i] at r
  refine Q4z u b (Q3d (f:=cOp) (sz:=3) (n:=42) (e:=T.a6) (by kernel_rfl) (by kernel_rfl) (by kernel_rfl) Zd (fun _=>rfl) (fun m cs a q h=>by
  obtain ⟨xs,n,_,k,Z,Y,C⟩:=DataW.trod_struct X2q h
  simp only[Prod.mk.injEq,DataW.agg.injEq] at k
  have o:cs.length=3:=by rw[Z];kernel_rfl
  obtain ⟨B,y,A,rfl⟩:=Q6J o
  obtain ⟨U,V,x2,rfl⟩:=Q6J (show xs.length=3 by rw[Y];rfl)
  have k:=k.1
  simp only[List.map_cons,List.map_nil,List.cons.injEq,and_true] at k
  obtain ⟨D,J,N⟩:=k
  have M:DataW.trod (fun _=>()) P W 0 (fun _=>true) false n T.b (List.take (P.cellsOf T.b) (List.drop 0 [B,y,A]))=some U:=C 0 _ rfl
  have E:DataW.trod (fun _=>()) P W 0 (fun _=>true) false n T.m (List.take (P.cellsOf T.m) (List.drop 1 [B,y,A]))=some V:=C 1 _ rfl
  have Q:DataW.trod (fun _=>()) P W 0 (fun _=>true) false n T.m (List.take (P.cellsOf T.m) (List.drop 2 [B,y,A]))=some x2:=C 2 _ rfl
  rw[Fu] at M
  rw[Q8w] at E Q
  obtain ⟨⟨⟨s0⟩⟩,q0,r0,_⟩:=DataW.trod_string X7 M
  obtain ⟨b1,O,r1⟩:=DataW.trod_bool Pq E
  obtain ⟨b2,R,X⟩:=DataW.trod_bool Pq Q
  simp at q0 O R
  subst q0 O R r0 r1 X
  simp at D J N
  simp[cOp,←D,←J,←N]) r)
 ·have:=utf8Tabs_of_readsT (U8Types.of196 Tryz.lays196) ⟨by kernel_rfl,by kernel_rfl,by kernel_rfl,by kernel_rfl,by kernel_rfl,by kernel_rfl,by kernel_rfl⟩ (X14▸Lib.laidMet.reads h (.tail _ (.tail _ (.tail _ (.head _))))) (X2d▸Lib.laidMet.reads h (.head _))
  exact ⟨fun c hc=>Q1d z (this.1 c hc),fun i L=>⟨Q1d z (this.2 i L).1,Q1d z (this.2 i L).2⟩⟩
 ·obtain ⟨g,t,cs,l,p,u,j,b,r⟩:=Lib.laidMet.reads h (.tail _ (.tail _ (.head _)))
  obtain rfl:=Option.some.inj ((show P.globalNamed "squinch/hier.faults"=some G.b by kernel_rfl).symm.trans u)
  obtain rfl:=Option.some.inj ((show (P.globals[G.b]?).map (·.type)=some T.ag by kernel_rfl).symm.trans j)
  rw[Q9E] at r
  have:=Q3d (f:=fun s=>[S s]) (sz:=1) (n:=6) (e:=T.b) (by kernel_rfl) Fu (by kernel_rfl) J1 (fun _=>rfl) (fun m cs a q h=>by
   obtain ⟨⟨⟨s⟩⟩,rfl,k,_⟩:=DataW.trod_string X7 h
   cases k;rfl) r
  exact Q4z u b (this.trans (by rfl))
end Go.Proofs.YtfppjenblllfaaaGreatDoor
namespace Go.Emb
open Go.RowKit Go.Hm
theorem X1y {H:Type} {P:Program} {a:List TypeId} {ds:List (DataW H)} (h:(DataW.weightsEach P a ds).all (· ≤reachBytes)=true) {j:Nat} {t:TypeId} {d:DataW H} (c:a[j]? =some t) (b:ds[j]? =some d):Wt P t d:=fun n e=>by
 have:=List.all_eq_true.1 h _ (DataW.weights_mem_each c b n e)
 simpa using this
end Go.Emb
namespace Go.Proofs.YtfppjenblllfaaaGreatDoor
open Go.Emb Go.RowKit Go.Kd Go.Hm
section
variable {H : Type} {enc : TypeId × Value → H} {W : World} {v : Value} {d : DataW H} {p : List MemPlace}
end
end Go.Proofs.YtfppjenblllfaaaGreatDoor

namespace Go.Proofs.YtfppjenblllfaaaGreatDoor
open Go.Emb Go.RowKit Go.Kd Go.Hm
variable {w : World} {K : Value → World → Prop} {σ : Q4}
def C3 (n:Int) (x:Cat):Bool:=decide (0≤x.frm)&&decide (x.frm<x.to)&&decide (x.to≤n)&&decide (0≤x.at_)&&decide (x.at_<n)&&W6 x.cls
theorem Q6K {cs:List Value} {c:Cat} {q:Addr} {n:Int} (hs:X4 w σ) (hc:Yo σ c cs) (hq:Z2 σ q [I n]) (h: ∀w' σ',Stp w σ w' σ'→K (.bool (C3 n c)) w'):Q0 P F.b1 [.agg cs.toArray, .pointer (some q)] w K:=Q0O (by
 obtain ⟨rfl,h1,h2,h3,h4⟩:=hc
 unfold He
 unfold C3 at h
 (repeat' (first | (with_reducible intro _) | (with_reducible refine V6 ?_) | (simp only[↓M2,M2,Mb,reduceIte]) | (with_reducible first | refine ld aS aL aR ?_ | refine X8 aS aL aR ?_ | refine Y7 aS aL aR ?_ | refine Q8 aL ?_ | refine V0 aR ?_ | refine Y9 aS ?_ | refine L1 aS aL ?_ | refine J6 aS aR ?_ | refine Y6 aS aR aR (Rep.one (by assumption)) ?_ | refine U0 aS aR aR aR ?_ | refine Dl _ au (W2 aS ?_) | (refine Z4 (fun hh=>?_) (fun hh=>?_)<;>(try simp only[hh,Bool.not_true,Bool.not_false,↓M2,M2,Mb,reduceIte])) | (refine Q5 (fun hh=>?_) (fun hh=>?_)<;>(try simp only[hh,Bool.not_true,Bool.not_false,↓M2,M2,Mb,reduceIte])))))
 all_goals exact aF)
theorem Q7k {cs:List Value} {i:Ins} (hs:X4 w σ) (hg:Glb σ) (hc:I3 σ i cs) (h: ∀w' σ',Stp w σ w' σ'→K (.bool (decide (N0 i=0))) w'):Q0 P F.b2 [.agg cs.toArray] w K:=Q0U (by
 obtain ⟨rfl,h1,h2,h3⟩:=hc
 have hc:I3 σ i [S i.op,I i.n,S i.s]:=⟨rfl,h1,h2,h3⟩
 unfold Ef
 (repeat' (first | (with_reducible intro _) | (with_reducible refine V6 ?_) | (simp only[↓M2,M2,Mb,reduceIte]) | (with_reducible first | refine ld aS aL aR ?_ | refine X8 aS aL aR ?_ | refine Y7 aS aL aR ?_ | refine Q8 aL ?_ | refine V0 aR ?_ | refine Y9 aS ?_ | refine L1 aS aL ?_ | refine J6 aS aR ?_ | refine Y6 aS aR aR (Rep.one (by assumption)) ?_ | refine U0 aS aR aR aR ?_ | refine Q5n au au au ?_ | (refine Z4 (fun hh=>?_) (fun hh=>?_)<;>(try simp only[hh,Bool.not_true,Bool.not_false,↓M2,M2,Mb,reduceIte])) | (refine Q5 (fun hh=>?_) (fun hh=>?_)<;>(try simp only[hh,Bool.not_true,Bool.not_false,↓M2,M2,Mb,reduceIte])))))
 all_goals exact aF)
def C9 (m:Hm.Met):Bool:=L5 m.name&&m.params.all right&&(decide (m.result=[])||right m.result)&&
 if m.abs then decide (m.locals=0)&&decide (m.code=[])&&decide (m.catches=[])
 else decide (m.code≠[])&&decide ((m.params.length:Int)<m.locals)&&m.code.all (fun i=>decide (N0 i=0))&&m.catches.all (C3 m.code.length)
theorem Q9l {cs:List Value} {m:Hm.Met} (hs:X4 w σ) (hg:Glb σ) (hm:M5 σ m cs) (h: ∀w' σ',Stp w σ w' σ'→K (.bool (C9 m)) w'):Q0 P F.aU [.agg cs.toArray] w K:=Q24 (by
 obtain ⟨pv,cv,hv,rfl,g1,g2,g3,g4,g5,g6⟩:=hm
 unfold Cc
 unfold C9 at h
 have e1:decide ((0:Int)<m.code.length)=decide (m.code≠[]):=by cases m.code<;>simp
 have e2:decide ((m.code.length:Int)=0)=decide (m.code=[]):=by cases m.code<;>simp;omega
 have e3:decide ((m.catches.length:Int)=0)=decide (m.catches=[]):=by cases m.catches<;>simp;omega
 have hA: ∀{w1:World} {σ1:Q4} {K:Value→World→Prop},X4 w1 σ1→Sl 1 Y0 σ1 pv m.params→(∀w' σ',Stp w1 σ1 w' σ'→K (.bool (m.params.all right)) w')→Q0 P F.a4 [pv, .func (.func F.a2) #[] #[]] w1 K:=
  fun hs hv h=>Cj right hs hv (fun σ1 x w1 K _ _ hs hl hK=>Y8 (Zn x (Nat.le_trans hl (by decide)) hK)) (W2 hs h)
 have hB: ∀{w1:World} {σ1:Q4} {K:Value→World→Prop},X4 w1 σ1→Glb σ1→Sl 3 I3 σ1 cv m.code→(∀w' σ',Stp w1 σ1 w' σ'→K (.bool (m.code.all fun i=>decide (N0 i=0))) w')→Q0 P F.ap [cv, .func (.func F.b2) #[] #[]] w1 K:=
  fun hs hg hv h=>Q0f (fun i=>decide (N0 i=0)) hs hv (fun σ1 x cs w1 K le _ hs hr hl hK=>Y8 (Q7k hs (hg.lift ⟨le⟩) hr fun w' σ' hk=>hK w' hk.bel)) (W2 hs h)
 have hC: ∀{w1:World} {σ1:Q4} {K:Value→World→Prop} {q:Addr},X4 w1 σ1→Sl 4 Yo σ1 hv m.catches→Z2 σ1 q [I m.code.length]→(∀w' σ',Stp w1 σ1 w' σ'→K (.bool (m.catches.all (C3 m.code.length))) w')→Q0 P F.aq [hv, .func (.func F.b1) #[] #[.pointer (some q)]] w1 K:=
  fun hs hv hq h=>Q0j (C3 m.code.length) hs hv (fun σ1 x cs w1 K le _ hs hr hl hK=>Y8 (Q6K hs hr (hq.le le) fun w' σ' hk=>hK w' hk.bel)) (W2 hs h)
 refine Y9 hs fun a w1 σ1 hk1 ha1=>?_
 (repeat' (first | (with_reducible intro _) | (with_reducible refine V6 ?_) | (simp only[↓M2,M2,Mb,reduceIte]) | (with_reducible first | refine ld aS aL aR ?_ | refine X8 aS aL aR ?_ | refine Y7 aS aL aR ?_ | refine Q8 aL ?_ | refine V0 aR ?_ | refine Y9 aS ?_ | refine L1 aS aL ?_ | refine J6 aS aR ?_ | refine Y6 aS aR aR (Rep.one (by assumption)) ?_ | refine U0 aS aR aR aR ?_ | refine Q4G au (W2 aS ?_) | refine Zn _ au (W2 aS ?_) | refine hA au au ?_ | refine hB au au au ?_ | refine hC au au au ?_ | (refine Z4 (fun hh=>?_) (fun hh=>?_)<;>(try simp only[hh,Bool.not_true,Bool.not_false,↓M2,M2,Mb,reduceIte])) | (refine Q5 (fun hh=>?_) (fun hh=>?_)<;>(try simp only[hh,Bool.not_true,Bool.not_false,↓M2,M2,Mb,reduceIte])))))
 all_goals (simp only[←e1,←e2,←e3] at h;clear e1 e2 e3;exact aF))
theorem Q7z {cs:List Value} {m:Hm.Met} (a:X4 w σ) (d:Glb σ) (c:M5 σ m cs) (h: ∀w' b,Stp w σ w' b→K (.bool (C9 m)) w'):Z0 P (.func (.func F.aU) #[] #[]) [.agg cs.toArray] w K:=Y8 (Q9l a d c h)
def Oe (f:Fld):Bool:=L5 f.name&&right f.kind
def Ld (c:Cla):Bool:=(c.name::c.super::c.like).all W6&& !((c.super::c.like).any fun y=>decide (c.name=y))&&E9 id [] c.like&&
 !(c.iface&&(!c.abs|| !decide (c.super=Z7)|| !decide (c.fields=[])||c.methods.any (fun m=> !m.abs)))&&
 !((c.abs&&c.fin)||(c.methods.any (·.abs)&& !c.abs))&&E9 Fld.name [] c.fields&&E9 Hm.Met.name [] c.methods&&c.fields.all Oe&&c.methods.all C9
def L6 (c:Cla):Int:=if Xv c then 51 else if Ld c then 0 else 50
theorem Q7B {cs:List Value} {f:Fld} (hs:X4 w σ) (hf:E0 σ f cs) (h: ∀w' σ',Stp w σ w' σ'→K (.bool (Oe f)) w'):Q0 P F.bi [.agg cs.toArray] w K:=Q1A (by
 obtain ⟨rfl,h1,h2⟩:=hf
 unfold Hy
 unfold Oe at h
 (repeat' (first | (with_reducible intro _) | (with_reducible refine V6 ?_) | (simp only[↓M2,M2,Mb,reduceIte]) | (with_reducible first | refine ld aS aL aR ?_ | refine X8 aS aL aR ?_ | refine Y7 aS aL aR ?_ | refine Q8 aL ?_ | refine V0 aR ?_ | refine Y9 aS ?_ | refine L1 aS aL ?_ | refine J6 aS aR ?_ | refine Y6 aS aR aR (Rep.one (by assumption)) ?_ | refine U0 aS aR aR aR ?_ | refine Q4G au (W2 aS ?_) | refine Zn _ au (W2 aS ?_) | (refine Z4 (fun hh=>?_) (fun hh=>?_)<;>(try simp only[hh,Bool.not_true,Bool.not_false,↓M2,M2,Mb,reduceIte])) | (refine Q5 (fun hh=>?_) (fun hh=>?_)<;>(try simp only[hh,Bool.not_true,Bool.not_false,↓M2,M2,Mb,reduceIte])))))
 all_goals exact aF)
set_option maxHeartbeats 1600000 in
theorem X0P {cs:List Value} {c:Cla} (hs:X4 w σ) (hg:Glb σ) (hc:U5 σ c cs) (hl:c.like.length≤1000000) (h: ∀w' σ',Stp w σ w' σ'→K (.bool (Ld c)) w'):Q0 P F.cc [.agg cs.toArray] w K:=Q3v (by
 obtain ⟨lv,fv,mv,rfl,g1,g2,g3,g4,g5⟩:=hc
 unfold Ib
 unfold Ld at h
 refine Y9 hs fun a w1 σ1 hk1 ha1=>?_
 rw[fa]
 refine ld hk1.sat ha1 rfl ?_
 rw[fa]
 refine ld hk1.sat ha1 rfl ?_
 refine Qh (R:=Y0) (sz:=1) (xs:=[c.name,c.super]) hk1 [_,_] rfl rfl (by simp;exact ⟨rfl,rfl⟩) rfl ⟨⟨rfl,g4⟩,⟨rfl,g5⟩,trivial⟩ fun v w2 hk2 hacc _=>?_
 rw[fa]
 refine ld hk2.sat ha1 rfl ?_
 refine Ox (hk1.trans hk2) hacc (g1.up hk1) rfl (by simp;omega) (by simp;omega) fun v' w3 hn3 hS3 hacc3 _=>?_
 obtain ⟨σ3,hS3,hv3,le3,_⟩:=hacc3.keep hS3
 have hv3:Sl 1 Y0 σ3 v' (c.name::c.super::c.like):=hv3
 have ha3:=ha1.le le3
 have le13:SLe σ σ3:=⟨hS3.le⟩
 have g1:=g1.lift le13
 have g2:=g2.lift le13
 have g3:=g3.lift le13
 have hg:=hg.lift le13
 refine V2 hS3.sat ?_
 refine W7 (fun v _=>Sl 1 Y0 σ3 v (c.super::c.like)) (fun _ _ _ h _=>h) (fun w hb=>?_) ?_
 ·refine Cp hv3 (some (I 1)) none 1 (c.like.length+2) (.inr rfl) (.inl ⟨rfl,by simp⟩) (by omega) (by simp) fun v' hv'=>⟨Below.refl _ _,?_⟩
  simpa using hv'
 refine X2 (.pointer (some (a.add 0))) (fun w hb=>by rw[fa];exact X5 rfl) ?_
 refine X2 (S c.name) (fun t w hb e=>by rw[e];exact ld hb.sat ha3 rfl (X5 rfl)) ?_
 rintro t16 t17 t18 w4 hb4 f16 rfl rfl
 have hS4:=hS3.trans hb4.stp
 clear hb4 hk1 hk2 hn3
 have hs4:=hS4.sat
 refine Q0g hs4 f16 ?_
 have hA: ∀{w1:World} {σ1:Q4} {K:Value→World→Prop},X4 w1 σ1→Sl 7 M5 σ1 mv c.methods→(∀w' σ',Stp w1 σ1 w' σ'→K (.bool (c.methods.any (·.abs))) w')→Q0 P F.a [mv, .func (.func F.bW) #[] #[]] w1 K:=
  fun hs hv h=>H8 (·.abs) hs hv (fun x cs w1 K _ hs hr hl hK=>Y8 (Q1C (by
   obtain ⟨pv,cv,hv,rfl,_⟩:=hr
   unfold Rh
   refine Y9 hs fun a w1 σ1 hk1 ha1=>?_
   (repeat' (first | (with_reducible intro _) | (with_reducible refine V6 ?_) | (simp only[↓M2,M2,Mb,reduceIte]) | (with_reducible first | refine ld aS aL aR ?_ | refine X8 aS aL aR ?_ | refine Y7 aS aL aR ?_ | refine Q8 aL ?_ | refine V0 aR ?_ | refine Y9 aS ?_ | refine L1 aS aL ?_ | refine J6 aS aR ?_ | refine Y6 aS aR aR (Rep.one (by assumption)) ?_ | refine U0 aS aR aR aR ?_ | (refine Z4 (fun hh=>?_) (fun hh=>?_)<;>(try simp only[hh,Bool.not_true,Bool.not_false,↓M2,M2,Mb,reduceIte])) | (refine Q5 (fun hh=>?_) (fun hh=>?_)<;>(try simp only[hh,Bool.not_true,Bool.not_false,↓M2,M2,Mb,reduceIte])))))
   exact hK _ hk1.bel))) (W2 hs h)
 have hB: ∀{w1:World} {σ1:Q4} {K:Value→World→Prop},X4 w1 σ1→Sl 7 M5 σ1 mv c.methods→(∀w' σ',Stp w1 σ1 w' σ'→K (.bool (c.methods.any fun m=> !m.abs)) w')→Q0 P F.a [mv, .func (.func F.bX) #[] #[]] w1 K:=
  fun hs hv h=>H8 (fun m=> !m.abs) hs hv (fun x cs w1 K _ hs hr hl hK=>Y8 (Q1E (by
   obtain ⟨pv,cv,hv,rfl,_⟩:=hr
   unfold Hw
   refine Y9 hs fun a w1 σ1 hk1 ha1=>?_
   (repeat' (first | (with_reducible intro _) | (with_reducible refine V6 ?_) | (simp only[↓M2,M2,Mb,reduceIte]) | (with_reducible first | refine ld aS aL aR ?_ | refine X8 aS aL aR ?_ | refine Y7 aS aL aR ?_ | refine Q8 aL ?_ | refine V0 aR ?_ | refine Y9 aS ?_ | refine L1 aS aL ?_ | refine J6 aS aR ?_ | refine Y6 aS aR aR (Rep.one (by assumption)) ?_ | refine U0 aS aR aR aR ?_ | (refine Z4 (fun hh=>?_) (fun hh=>?_)<;>(try simp only[hh,Bool.not_true,Bool.not_false,↓M2,M2,Mb,reduceIte])) | (refine Q5 (fun hh=>?_) (fun hh=>?_)<;>(try simp only[hh,Bool.not_true,Bool.not_false,↓M2,M2,Mb,reduceIte])))))
   exact hK _ hk1.bel))) (W2 hs h)
 have hC: ∀{w1:World} {σ1:Q4} {K:Value→World→Prop},X4 w1 σ1→Sl 1 Y0 σ1 v' (c.name::c.super::c.like)→(∀w' σ',Stp w1 σ1 w' σ'→K (.bool ((c.name::c.super::c.like).all W6)) w')→Q0 P F.a4 [v', .func (.func F.af) #[] #[]] w1 K:=
  fun hs hv h=>Cj W6 hs hv (fun σ1 x w1 K _ _ hs hl hK=>Y8 (Dl x (Nat.le_trans hl (by decide)) hK)) (W2 hs h)
 have hD: ∀{w1:World} {σ1:Q4} {K:Value→World→Prop},X4 w1 σ1→Sl 1 Y0 σ1 lv c.like→(∀w' σ',Stp w1 σ1 w' σ'→K (.bool (E9 id [] c.like)) w')→Q0 P F.aI [lv, .func (.func F.bY) #[] #[]] w1 K:=
  fun hs hv h=>Q3o id hs hv (fun σ1 x w1 K _ hs hl hK=>Y8 (Q1k (hK _ (Below.refl _ _)))) (W2 hs h)
 have hE: ∀{w1:World} {σ1:Q4} {K:Value→World→Prop},X4 w1 σ1→Sl 3 E0 σ1 fv c.fields→(∀w' σ',Stp w1 σ1 w' σ'→K (.bool (E9 Fld.name [] c.fields)) w')→Q0 P F.aw [fv, .func (.func F.bZ) #[] #[]] w1 K:=
  fun hs hv h=>Q0T Fld.name hs hv (fun σ1 x cs w1 K _ hs hr hl hK=>Y8 (Q1y (by
   obtain ⟨rfl,_⟩:=hr
   unfold Rl
   refine Y9 hs fun a w1 σ1 hk1 ha1=>?_
   (repeat' (first | (with_reducible intro _) | (with_reducible refine V6 ?_) | (simp only[↓M2,M2,Mb,reduceIte]) | (with_reducible first | refine ld aS aL aR ?_ | refine X8 aS aL aR ?_ | refine Y7 aS aL aR ?_ | refine Q8 aL ?_ | refine V0 aR ?_ | refine Y9 aS ?_ | refine L1 aS aL ?_ | refine J6 aS aR ?_ | refine Y6 aS aR aR (Rep.one (by assumption)) ?_ | refine U0 aS aR aR aR ?_ | (refine Z4 (fun hh=>?_) (fun hh=>?_)<;>(try simp only[hh,Bool.not_true,Bool.not_false,↓M2,M2,Mb,reduceIte])) | (refine Q5 (fun hh=>?_) (fun hh=>?_)<;>(try simp only[hh,Bool.not_true,Bool.not_false,↓M2,M2,Mb,reduceIte])))))
   exact hK _ hk1.bel))) (W2 hs h)
 have hF: ∀{w1:World} {σ1:Q4} {K:Value→World→Prop},X4 w1 σ1→Sl 7 M5 σ1 mv c.methods→(∀w' σ',Stp w1 σ1 w' σ'→K (.bool (E9 Hm.Met.name [] c.methods)) w')→Q0 P F.am [mv, .func (.func F.c0) #[] #[]] w1 K:=
  fun hs hv h=>Q0h Hm.Met.name hs hv (fun σ1 x cs w1 K _ hs hr hl hK=>Y8 (Q1P (by
   obtain ⟨pv,cv,hv,rfl,_⟩:=hr
   unfold Hv
   refine Y9 hs fun a w1 σ1 hk1 ha1=>?_
   (repeat' (first | (with_reducible intro _) | (with_reducible refine V6 ?_) | (simp only[↓M2,M2,Mb,reduceIte]) | (with_reducible first | refine ld aS aL aR ?_ | refine X8 aS aL aR ?_ | refine Y7 aS aL aR ?_ | refine Q8 aL ?_ | refine V0 aR ?_ | refine Y9 aS ?_ | refine L1 aS aL ?_ | refine J6 aS aR ?_ | refine Y6 aS aR aR (Rep.one (by assumption)) ?_ | refine U0 aS aR aR aR ?_ | (refine Z4 (fun hh=>?_) (fun hh=>?_)<;>(try simp only[hh,Bool.not_true,Bool.not_false,↓M2,M2,Mb,reduceIte])) | (refine Q5 (fun hh=>?_) (fun hh=>?_)<;>(try simp only[hh,Bool.not_true,Bool.not_false,↓M2,M2,Mb,reduceIte])))))
   exact hK _ hk1.bel))) (W2 hs h)
 have hG: ∀{w1:World} {σ1:Q4} {K:Value→World→Prop},X4 w1 σ1→Sl 3 E0 σ1 fv c.fields→(∀w' σ',Stp w1 σ1 w' σ'→K (.bool (c.fields.all Oe)) w')→Q0 P F.an [fv, .func (.func F.bi) #[] #[]] w1 K:=
  fun hs hv h=>Q0m Oe hs hv (fun σ1 x cs w1 K _ _ hs hr hl hK=>Y8 (Q7B hs hr fun w' σ' hk=>hK w' hk.bel)) (W2 hs h)
 have hH: ∀{w1:World} {σ1:Q4} {K:Value→World→Prop},X4 w1 σ1→Glb σ1→Sl 7 M5 σ1 mv c.methods→(∀w' σ',Stp w1 σ1 w' σ'→K (.bool (c.methods.all C9)) w')→Q0 P F.aj [mv, .func (.func F.aU) #[] #[]] w1 K:=
  fun hs hg hv h=>Pm C9 hs hv (fun σ1 x cs w1 K le _ hs hr hl hK=>Q7z hs (hg.lift ⟨le⟩) hr fun w' σ' hk=>hK w' hk.bel) (W2 hs h)
 have e1:decide ((0:Int)<c.fields.length)= !decide (c.fields=[]):=by cases c.fields<;>simp
 have e2:decide (c.super=[79,98,106,101,99,116])=decide (c.super=Z7):=rfl
 (repeat' (first | (with_reducible intro _) | (with_reducible refine V6 ?_) | (simp only[↓M2,M2,Mb,reduceIte]) | (with_reducible first | refine ld aS aL aR ?_ | refine X8 aS aL aR ?_ | refine Y7 aS aL aR ?_ | refine Q8 aL ?_ | refine V0 aR ?_ | refine Y9 aS ?_ | refine L1 aS aL ?_ | refine J6 aS aR ?_ | refine Y6 aS aR aR (Rep.one (by assumption)) ?_ | refine U0 aS aR aR aR ?_ | refine hA au au ?_ | refine hB au au ?_ | refine hC au au ?_ | refine hD au au ?_ | refine hE au au ?_ | refine hF au au ?_ | refine hG au au ?_ | refine hH au au au ?_ | (refine Z4 (fun hh=>?_) (fun hh=>?_)<;>(try simp only[hh,Bool.not_true,Bool.not_false,↓M2,M2,Mb,reduceIte])) | (refine Q5 (fun hh=>?_) (fun hh=>?_)<;>(try simp only[hh,Bool.not_true,Bool.not_false,↓M2,M2,Mb,reduceIte])))))
 all_goals (simp only[←e1,←e2] at h;clear hA hB hC hD hE hF hG hH e1 e2;exact aF))
theorem X0X {cs:List Value} {c:Cla} (hs:X4 w σ) (hg:Glb σ) (hc:U5 σ c cs) (hl:c.like.length≤1000000) (h: ∀w' σ',Stp w σ w' σ'→K (I (L6 c)) w'):Q0 P F.ca [.agg cs.toArray] w K:=Q3k (by
 have hc0:=hc
 obtain ⟨lv,fv,mv,rfl,g1,g2,g3,g4,g5⟩:=hc
 unfold Gx
 unfold L6 at h
 (repeat' (first | (with_reducible intro _) | (with_reducible refine V6 ?_) | (simp only[↓M2,M2,Mb,reduceIte]) | (with_reducible first | refine ld aS aL aR ?_ | refine X8 aS aL aR ?_ | refine Y7 aS aL aR ?_ | refine Q8 aL ?_ | refine V0 aR ?_ | refine Y9 aS ?_ | refine L1 aS aL ?_ | refine J6 aS aR ?_ | refine Y6 aS aR aR (Rep.one (by assumption)) ?_ | refine U0 aS aR aR aR ?_ | refine X1i au au (W2 aS ?_) | refine X0P au au au au ?_ | (refine Z4 (fun hh=>?_) (fun hh=>?_)<;>(try simp only[hh,Bool.not_true,Bool.not_false,↓M2,M2,Mb,reduceIte])) | (refine Q5 (fun hh=>?_) (fun hh=>?_)<;>(try simp only[hh,Bool.not_true,Bool.not_false,↓M2,M2,Mb,reduceIte])))))
 all_goals exact aF)
end Go.Proofs.YtfppjenblllfaaaGreatDoor

namespace Go.Emb
open Go.RowKit Go.Hm
structure Tab (σ : Q4) (v : Value) (l : List Cla) : Prop where
  ex : ∃ a lv r m, v = .pointer (some a) ∧ Z2 σ a [lv, .map (some r)] ∧ Sl 8 U5 σ lv l ∧ I2 σ r m ∧ ∀ n, L9 m n = (Y4 l n).map (fun i : Nat => I (i : Int))
theorem Tab.lift {σ0 σ:Q4} {v:Value} {l:List Cla} (h:Tab σ0 v l) (k:SLe σ0 σ):Tab σ v l:=by
 obtain ⟨a,b,r,m,e,d,g,f,c⟩:=h.ex
 exact ⟨a,b,r,m,e,d.lift k,g.lift k,f.lift k,c⟩
end Go.Emb
namespace Go.Proofs.YtfppjenblllfaaaGreatDoor
open Go.Emb Go.RowKit Go.Kd Go.Hm
variable {w : World} {K : Value → World → Prop} {σ : Q4} {v : Value} {l : List Cla}
theorem Q6R {n:X0} (b:X4 w σ) (d:Tab σ v l) (h:K (.bool (Q1e l n)) w):Q0 P F.k [v,S n] w K:=Nt (by
 obtain ⟨a,i,r,m,rfl,g,j,f,c⟩:=d.ex
 unfold Yt
 rw[E6,fa]
 refine ld b g rfl ?_
 rw[Q0Y X7 (f.is b) n,c n]
 unfold Q1e at h
 cases e:Y4 l n<;>rw[e] at h<;>((try simp only[Option.map_some,Option.map_none]);(try simp only[↓M1,M1,Mb,reduceIte]);exact h))
theorem Xt {n:X0} {c:Cla} (W:X4 w σ) (J:Tab σ v l) (Y:lk l n=some c)
 (h: ∀k s mv w' j,Stp w σ w' j→Sl 1 Y0 j k c.like→Sl 3 E0 j s c.fields→Sl 7 M5 j mv c.methods→c.name.length≤J3→c.super.length≤J3→U5 j c [S c.name,S c.super,k, .bool c.iface, .bool c.abs, .bool c.fin,s,mv]→
  K (.agg [S c.name,S c.super,k, .bool c.iface, .bool c.abs, .bool c.fin,s,mv].toArray) w'):Q0 P F.h [v,S n] w K:=Gs (by
 obtain ⟨a,k,r,m,rfl,D,Z,t3,t4⟩:=J.ex
 obtain ⟨_,_,i,hi,u⟩:=U3 Y
 obtain ⟨C,rfl⟩:=List.getElem?_eq_some_iff.1 u
 unfold Li
 refine G8 W fun b w1 σ1 f d y=>?_
 refine V2 d.sat ?_
 refine X2 (.pointer (some a)) (fun w f=>by rw[E6];exact X5 rfl) ?_
 refine X2 (.pointer (some (a.add 0))) (fun t w f e=>by rw[e,fa];exact X5 rfl) ?_
 refine X2 (.pointer (some a)) (fun w f=>by rw[E6];exact X5 rfl) ?_
 refine X2 (.pointer (some (a.add 1))) (fun t w f e=>by rw[e,fa];exact X5 rfl) ?_
 refine X2 k (fun t w f e=>by rw[e];exact ld f.sat (D.up d) rfl (X5 rfl)) ?_
 refine X2 (.map (some r)) (fun t w f e=>by rw[e];exact ld f.sat (D.up d) rfl (X5 rfl)) ?_
 refine X2 (I i) (fun t w f e=>by rw[e,Q3h X7 ((t3.up d).is f.sat) n,t4 n,hi];exact X5 rfl) ?_
 rintro t6 t7 U M t8 ae Q w2 g rfl rfl rfl rfl e8 rfl rfl
 subst e8
 have z:=y.step g.stp
 refine L7 (Z.up d) C fun p cs X o E=>?_
 refine Y7 g.sat X o ?_
 have q:=E
 obtain ⟨H,s,mv,rfl,g1,R,N,V,L⟩:=E
 refine T4 z (d.trans g.stp) f rfl rfl (Rep.one q) fun O B A=>?_
 refine W1 A rfl ?_
 exact h _ _ _ O σ1 B.stp g1 R N V L q)
theorem Al {n:X0} (b:X4 w σ) (c:Tab σ v l) (a:lk l n=none) (h:K (.bool false) w):Q0 P F.k [v,S n] w K:=Q6R b c (by rw[Q20,a];exact h)
theorem Eb {n:X0} {d:Cla} (b:X4 w σ) (c:Tab σ v l) (a:lk l n=some d) (h:K (.bool true) w):Q0 P F.k [v,S n] w K:=Q6R b c (by rw[Q20,a];exact h)
theorem Q94 {c:Cla} {cs:List Value} (hs:X4 w σ) (ht:Tab σ v l) (hc:U5 σ c cs) (h: ∀w' σ',Stp w σ w' σ'→K (I (L4 l c)) w'):Q0 P F.aW [v, .agg cs.toArray] w K:=Sp (by
 obtain ⟨lv,fv,mv,rfl,g1,g2,g3,g4,g5⟩:=hc
 unfold Vj
 unfold L4 at h
 cases hd:lk l c.super with
 | none=>
  simp only[P2,hd,if_true] at h
  (repeat' (first | (with_reducible intro _) | (with_reducible refine V6 ?_) | (simp only[↓M2,M2,Mb,reduceIte]) | (with_reducible first | refine ld aS aL aR ?_ | refine X8 aS aL aR ?_ | refine Y7 aS aL aR ?_ | refine Q8 aL ?_ | refine V0 aR ?_ | refine Y9 aS ?_ | refine L1 aS aL ?_ | refine J6 aS aR ?_ | refine Y6 aS aR aR (Rep.one (by assumption)) ?_ | refine U0 aS aR aR aR ?_ | refine Al au au au ?_ | (refine Z4 (fun hh=>?_) (fun hh=>?_)<;>(try simp only[hh,Bool.not_true,Bool.not_false,↓M2,M2,Mb,reduceIte])) | (refine Q5 (fun hh=>?_) (fun hh=>?_)<;>(try simp only[hh,Bool.not_true,Bool.not_false,↓M2,M2,Mb,reduceIte])))))
  all_goals exact aF
 | some d=>
  simp only[P2,hd] at h
  obtain ⟨dn,ds,dl,di,da,df,dfs,dms⟩:=d
  cases di<;>cases df
  ·simp only[Bool.or_self,Bool.false_eq_true,if_false] at h
   (repeat' (first | (with_reducible intro _) | (with_reducible refine V6 ?_) | (simp only[↓M2,M2,Mb,reduceIte]) | (with_reducible first | refine ld aS aL aR ?_ | refine X8 aS aL aR ?_ | refine Y7 aS aL aR ?_ | refine Q8 aL ?_ | refine V0 aR ?_ | refine Y9 aS ?_ | refine L1 aS aL ?_ | refine J6 aS aR ?_ | refine Y6 aS aR aR (Rep.one (by assumption)) ?_ | refine U0 aS aR aR aR ?_ | refine Eb au au au ?_ | refine Xt au au au ?_ | (refine Z4 (fun hh=>?_) (fun hh=>?_)<;>(try simp only[hh,Bool.not_true,Bool.not_false,↓M2,M2,Mb,reduceIte])) | (refine Q5 (fun hh=>?_) (fun hh=>?_)<;>(try simp only[hh,Bool.not_true,Bool.not_false,↓M2,M2,Mb,reduceIte])))))
   rename_i w3 σ3 hk3 _ _ _ _ _ _
   have hS:Stp w σ w3 σ3:=by (repeat (first | exact Stp.refl (by (first | assumption | exact Stp.sat (by assumption) | exact Hst.sat (by assumption))) | assumption | refine Stp.trans ?_ (by first | assumption | exact Hst.stp (by assumption))))
   refine Z8 c.like.length (fun n w'=> ∃σ',Stp w σ w' σ'∧SLe σ3 σ'∧((c.like.take n).any (O5 l))=false) ⟨σ3,hS,SLe.refl _,by simp⟩ fun n w4 d hn hi=>?_
   obtain ⟨σ4,hS4,le4,hq⟩:=hi
   clear hk3
   refine Z1 ?_
   refine Q5 (fun hh=>?_) (fun hh=>?_)
   ·have hn':n<c.like.length:=by simpa using hh
    have hmax:c.like.length≤9223372036854775807:=g1.max
    refine Qe (by (first | assumption | exact Sl.lift (by assumption) (by (repeat (first | exact SLe.refl _ | refine SLe.more ?_ (by assumption) | refine SLe.more ?_ (Nxt.le (by assumption)) | refine SLe.step ?_ (by assumption)))) | exact Z2.lift (by assumption) (by (repeat (first | exact SLe.refl _ | refine SLe.more ?_ (by assumption) | refine SLe.more ?_ (Nxt.le (by assumption)) | refine SLe.step ?_ (by assumption)))) | exact I2.lift (by assumption) (by (repeat (first | exact SLe.refl _ | refine SLe.more ?_ (by assumption) | refine SLe.more ?_ (Nxt.le (by assumption)) | refine SLe.step ?_ (by assumption)))) | exact RCl_lift (by assumption) (by (repeat (first | exact SLe.refl _ | refine SLe.more ?_ (by assumption) | refine SLe.more ?_ (Nxt.le (by assumption)) | refine SLe.step ?_ (by assumption)))) | exact RMe_lift (by assumption) (by (repeat (first | exact SLe.refl _ | refine SLe.more ?_ (by assumption) | refine SLe.more ?_ (Nxt.le (by assumption)) | refine SLe.step ?_ (by assumption)))) | exact Glb.lift (by assumption) (by (repeat (first | exact SLe.refl _ | refine SLe.more ?_ (by assumption) | refine SLe.more ?_ (Nxt.le (by assumption)) | refine SLe.step ?_ (by assumption)))) | exact Tab.lift (by assumption) (by (repeat (first | exact SLe.refl _ | refine SLe.more ?_ (by assumption) | refine SLe.more ?_ (Nxt.le (by assumption)) | refine SLe.step ?_ (by assumption)))) | exact RIn_any (by assumption) | exact RFd_any (by assumption) | exact RCa_any (by assumption))) hn' fun p hl hbig=>?_
    have hq':=M3 (p:=O5 l) hn'
    rw[hq] at hq'
    cases hx:lk l c.like[n] with
    | none=>
     simp only[C0 (p:=O5 l) hn' (by simp only[O5,hx]),if_true] at h
     (repeat' (first | (with_reducible intro _) | (with_reducible refine V6 ?_) | (simp only[↓M2,M2,Mb,reduceIte]) | (with_reducible first | refine ld aS aL aR ?_ | refine X8 aS aL aR ?_ | refine Y7 aS aL aR ?_ | refine Q8 aL ?_ | refine V0 aR ?_ | refine Y9 aS ?_ | refine L1 aS aL ?_ | refine J6 aS aR ?_ | refine Y6 aS aR aR (Rep.one (by assumption)) ?_ | refine U0 aS aR aR aR ?_ | refine Al au au au ?_ | (refine Z4 (fun hh=>?_) (fun hh=>?_)<;>(try simp only[hh,Bool.not_true,Bool.not_false,↓M2,M2,Mb,reduceIte])) | (refine Q5 (fun hh=>?_) (fun hh=>?_)<;>(try simp only[hh,Bool.not_true,Bool.not_false,↓M2,M2,Mb,reduceIte])))))
     all_goals exact aF
    | some x=>
     obtain ⟨xn,xs,xl,xi,xa,xf,xfs,xms⟩:=x
     cases xi
     ·simp only[C0 (p:=O5 l) hn' (by simp only[O5,hx];rfl),if_true] at h
      (repeat' (first | (with_reducible intro _) | (with_reducible refine V6 ?_) | (simp only[↓M2,M2,Mb,reduceIte]) | (with_reducible first | refine ld aS aL aR ?_ | refine X8 aS aL aR ?_ | refine Y7 aS aL aR ?_ | refine Q8 aL ?_ | refine V0 aR ?_ | refine Y9 aS ?_ | refine L1 aS aL ?_ | refine J6 aS aR ?_ | refine Y6 aS aR aR (Rep.one (by assumption)) ?_ | refine U0 aS aR aR aR ?_ | refine Eb au au au ?_ | refine Xt au au au ?_ | (refine Z4 (fun hh=>?_) (fun hh=>?_)<;>(try simp only[hh,Bool.not_true,Bool.not_false,↓M2,M2,Mb,reduceIte])) | (refine Q5 (fun hh=>?_) (fun hh=>?_)<;>(try simp only[hh,Bool.not_true,Bool.not_false,↓M2,M2,Mb,reduceIte])))))
      all_goals exact aF
     ·(repeat' (first | (with_reducible intro _) | (with_reducible refine V6 ?_) | (simp only[↓M2,M2,Mb,reduceIte]) | (with_reducible first | refine ld aS aL aR ?_ | refine X8 aS aL aR ?_ | refine Y7 aS aL aR ?_ | refine Q8 aL ?_ | refine V0 aR ?_ | refine Y9 aS ?_ | refine L1 aS aL ?_ | refine J6 aS aR ?_ | refine Y6 aS aR aR (Rep.one (by assumption)) ?_ | refine U0 aS aR aR aR ?_ | refine Eb au au au ?_ | refine Xt au au au ?_ | (refine Z4 (fun hh=>?_) (fun hh=>?_)<;>(try simp only[hh,Bool.not_true,Bool.not_false,↓M2,M2,Mb,reduceIte])) | (refine Q5 (fun hh=>?_) (fun hh=>?_)<;>(try simp only[hh,Bool.not_true,Bool.not_false,↓M2,M2,Mb,reduceIte])))))
      refine Y2 hmax hn' ⟨_,by (repeat (first | exact Stp.refl (by (first | assumption | exact Stp.sat (by assumption) | exact Hst.sat (by assumption))) | assumption | refine Stp.trans ?_ (by first | assumption | exact Hst.stp (by assumption)))),by (repeat (first | exact SLe.refl _ | refine SLe.more ?_ (by assumption) | refine SLe.more ?_ (Nxt.le (by assumption)) | refine SLe.step ?_ (by assumption))),by rw[hq'];simp only[O5,hx];rfl⟩
   ·have hn': ¬n<c.like.length:=by simpa using hh
    rw[O9 hn'] at hq
    simp only[hq,Bool.false_eq_true,if_false] at h
    exact h _ _ hS4
  all_goals
   simp only[Bool.or_self,Bool.or_true,Bool.true_or,if_true] at h
   (repeat' (first | (with_reducible intro _) | (with_reducible refine V6 ?_) | (simp only[↓M2,M2,Mb,reduceIte]) | (with_reducible first | refine ld aS aL aR ?_ | refine X8 aS aL aR ?_ | refine Y7 aS aL aR ?_ | refine Q8 aL ?_ | refine V0 aR ?_ | refine Y9 aS ?_ | refine L1 aS aL ?_ | refine J6 aS aR ?_ | refine Y6 aS aR aR (Rep.one (by assumption)) ?_ | refine U0 aS aR aR aR ?_ | refine Eb au au au ?_ | refine Xt au au au ?_ | (refine Z4 (fun hh=>?_) (fun hh=>?_)<;>(try simp only[hh,Bool.not_true,Bool.not_false,↓M2,M2,Mb,reduceIte])) | (refine Q5 (fun hh=>?_) (fun hh=>?_)<;>(try simp only[hh,Bool.not_true,Bool.not_false,↓M2,M2,Mb,reduceIte])))))
   all_goals exact aF)
end Go.Proofs.YtfppjenblllfaaaGreatDoor

namespace Go.Emb
open Go.RowKit Go.Hm
variable {P : Program} {w w0 w1 w' w'' : World} {K : Value → World → Prop} {σ σ0 σ1 σ' : Q4}
theorem Q7c {a:Addr} {v:Value} (h:w.cell? a=some v) (b:Below w.heap.size w w'):w'.cell? a=some v:=by
 rw[←h];exact World.cell?_of_block (b.block a.block (World.block_lt_of_cell? _ _ h))
def Ptr {α:Type} (sz:Nat) (R:Q4→α→List Value→Prop) (σ:Q4) (x:α) (p:Value) (w:World):Prop:=
 ∃a cs,p= .pointer (some a)∧(∀j u,cs[j]? =some u→w.cell? (a.add j)=some u)∧cs.length=sz∧R σ x cs
theorem Ptr.below {α:Type} {sz:Nat} {R:Q4→α→List Value→Prop} {x:α} {p:Value} (h:Ptr sz R σ x p w) (d:Below w.heap.size w w'):Ptr sz R σ x p w':=by
 obtain ⟨a,cs,c,f,e⟩:=h
 exact ⟨a,cs,c,fun j u b=>Q7c (f j u b) d,e⟩
end Go.Emb
namespace Go.Proofs.YtfppjenblllfaaaGreatDoor
open Go.Emb Go.RowKit Go.Kd Go.Hm
variable {w : World} {K : Value → World → Prop} {σ : Q4} {v : Value} {l : List Cla}
theorem Q2W {w0:World} {σ0:Q4} {xs:List Cla} (hS:Stp w0 σ0 w σ) (D:U2 w0.heap.size T.a 8 U5 σ w v xs)
 (h: ∀w',Kpt (fun k=>v.ownBlock=some k) w w'→Stp w0 σ0 w' σ→U2 w0.heap.size T.a 8 U5 σ w' v xs.reverse→K (.tuple #[]) w'):Q0 P F.p [v] w K:=Xu (by
 unfold C5
 have Q:xs.length≤9223372036854775807:=by
  obtain ⟨a,aa,_,g,b,_⟩:=D
  simp only[maxLen] at b;omega
 refine Gf D ?_
 refine Dm ⟨by omega,by omega⟩ ?_
 refine Zv (fun x w'=> ∃i:Nat,x=(I i,I ((xs.length:Int)-1-i))∧2*i≤xs.length∧Kpt (fun k=>v.ownBlock=some k) w w'∧Stp w0 σ0 w' σ∧U2 w0.heap.size T.a 8 U5 σ w' v (E7 i xs)) (fun x _=>match x.2 with | .int _ n=>(n+1).toNat | _=>0) ⟨0,by simp,by omega,Kpt.refl,hS,D⟩ ?_
 rintro _ d w1 ⟨i,rfl,U,O,j,c⟩
 obtain ⟨R,N⟩:=Tf xs i U
 refine Z1 ?_
 refine Q5 (fun hh=>?_) (fun hh=>?_)
 ·have W:(i:Int)<(xs.length:Int)-1-i:=by simpa using hh
  have M:((xs.length:Int)-1-i)=((xs.length-1-i:Nat):Int):=by omega
  have q:i<(E7 i xs).length:=by omega
  have r:xs.length-1-i<(E7 i xs).length:=by omega
  refine V2 j.sat ?_
  refine W7 (Ptr 8 U5 σ (E7 i xs)[xs.length-1-i]) (fun _ _ _ h f=>h.below f) (fun w f=>?_) ?_
  ·simp only[M]
   exact Q3X (c.step f.stp) r fun a cs g b o=>⟨Below.refl _ _,a,cs,rfl,g,b,o⟩
  refine W7 (Ptr 8 U5 σ (E7 i xs)[i]) (fun _ _ _ h f=>h.below f) (fun w f=>?_) ?_
  ·exact Q3X (c.step f.stp) q fun a cs g b o=>⟨Below.refl _ _,a,cs,rfl,g,b,o⟩
  refine W7 (fun v _=> ∃cs:List Value,v= .agg cs.toArray∧cs.length=8∧U5 σ (E7 i xs)[xs.length-1-i] cs) (fun _ _ _ h _=>h) (fun t w f e=>?_) ?_
  ·obtain ⟨a,cs,rfl,g,b,o⟩:=e
   exact Dv b g ⟨Below.refl _ _,cs,rfl,b,o⟩
  refine W7 (fun v _=> ∃cs:List Value,v= .agg cs.toArray∧cs.length=8∧U5 σ (E7 i xs)[i] cs) (fun _ _ _ h _=>h) (fun t w f e=>?_) ?_
  ·obtain ⟨a,cs,rfl,g,b,o⟩:=e
   exact Dv b g ⟨Below.refl _ _,cs,rfl,b,o⟩
  rintro ac Y V X w2 m _ _ ⟨cs,rfl,A,s⟩ ⟨ds,rfl,C,y⟩
  refine X0a (j.trans m.stp) (c.step m.stp) q A s (Rep.one s) fun p u w3 z H J=>?_
  simp only[M]
  refine X0a H.stp J (by simpa using r) C y (Rep.one y) fun p u w4 E L B=>?_
  refine Cw ⟨by omega,by omega⟩ ?_
  refine Dm ⟨by omega,by omega⟩ ?_
  refine ⟨⟨i+1,by congr 1<;>congr 1<;>omega,by omega,?_,L.stp,?_⟩,?_⟩
  ·exact ((O.trans (Kpt.of_below m.stp.bel)).trans z).trans E
  ·have Z:(E7 i xs)[i]? =some (E7 i xs)[i]:=List.getElem?_eq_getElem q
   have e2:(E7 i xs)[xs.length-1-i]? =some (E7 i xs)[xs.length-1-i]:=List.getElem?_eq_getElem r
   have:E7 (i+1) xs=((E7 i xs).set i (E7 i xs)[xs.length-1-i]).set (xs.length-1-i) (E7 i xs)[i]:=by
    simp only[E7,Z,e2]
   rw[this];exact B
  ·simp only;omega
 ·have ad: ¬(i:Int)<(xs.length:Int)-1-i:=by simpa using hh
  rw[Q8L xs i U (by omega)] at c
  exact h w1 O j c)
def sOf:Value→X0 | .string b=>b.data.toList | _=>[]
theorem Q8f {n:X0} (L:X4 w σ) (z:Tab σ v l) (C:Yg l) (hl:l.length≤100000) (h: ∀p w' σ',Stp w σ w' σ'→U2 w.heap.size T.a 8 U5 σ' w' p (chain l n).reverse→K p w'):Q0 P F.aJ [v,S n] w K:=Km (by
 unfold Me
 refine Zv (fun x w'=> ∃(s:X0) (m:List Cla) (σ':Q4),x.2=S s∧chain l n=m++chain l s∧Stp w σ w' σ'∧V5 w.heap.size T.a 8 U5 σ' w' x.1 m) (fun x _=>(chain l (sOf x.2)).length)
  ⟨n,[],σ,rfl,rfl,Stp.refl L,V5.nil⟩ ?_
 rintro ⟨W,_⟩ d w1 ⟨s,m,σ1,rfl,o,a,g⟩
 have e:=z.lift ⟨a.le⟩
 have A:=Rb l n
 have q:sOf (S s)=s:=by simp[sOf]
 simp only[q]
 cases j:lk l s with
 | none=>
  refine Al a.sat e j ?_
  refine V7 ?_
  rw[I7 j,List.append_nil] at o
  rw[←o] at g
  refine Q2W a (U2.of_acc g) fun N f t r=>?_
  exact h _ _ _ t r
 | some c=>
  refine Eb a.sat e j ?_
  refine V9 ?_
  refine Xt a.sat e j fun O E mv N X f M D J V H B=>?_
  have b:=F4 C s
  rw[j] at b
  simp only at b
  have U:m.length+1≤l.length+1:=by
   have:=congrArg List.length o
   rw[List.length_append,b,List.length_cons] at this;omega
  refine Jy (a.trans f) (g.up f) B rfl rfl rfl (by omega) (by omega) fun u p Y σ3 R i y _=>?_
  refine Xt i.sat (z.lift ⟨i.le⟩) j fun O E mv Z Q k M D J V H B=>?_
  refine V0 (v:=S c.super) rfl ?_
  refine ⟨⟨c.super,m++[c],Q,rfl,?_,i.trans k,y.up k⟩,?_⟩
  ·rw[o,b];simp
  ·have:sOf (S c.super)=c.super:=by simp[sOf]
   simp only[this,b,List.length_cons];omega)
theorem Q8Y {n:X0} (Z:X4 w σ) (V:Tab σ v l) (X:Yg l) (hl:l.length≤100000) (D: ∀c∈l,P7 c) (h: ∀y w' σ',Stp w σ w' σ'→Sl 3 E0 σ' y (M6 l n)→K y w'):Q0 P F.b0 [v,S n] w K:=Ce (by
 unfold Vd
 refine Q8f Z V X hl fun v1 w1 σ1 z A=>?_
 obtain ⟨M,E,r,ad,_⟩:=A.keep z
 generalize g:(chain l n).reverse=cs at*
 have N:cs.length≤l.length+1:=by rw[←g,List.length_reverse];exact Rb l n
 have s: ∀c∈cs,c.fields.length≤1000000:=fun c t=>(D c (Ai (by rw[←g] at t;simpa using t))).2.1
 refine Q8 r ?_
 refine O8 cs.length (fun i a w'=> ∃σ',Stp w σ w' σ'∧SLe M σ'∧V5 w.heap.size T.k 3 E0 σ' w' a ((cs.take i).flatMap (·.fields))) ⟨M,E,SLe.refl _,V5.nil⟩ fun i a w3 d hi k=>?_
 obtain ⟨σ3,f,m,j⟩:=k
 refine Z1 ?_
 refine Q5 (fun hh=>?_) (fun hh=>?_)
 ·have e:i<cs.length:=by simpa using hh
  refine L7 (r.lift m) e fun p cells C o Q=>?_
  refine Y7 f.sat C o ?_
  refine Y6 f.sat (by rfl) o (Rep.one Q) fun q w4 O b hq=>?_
  obtain ⟨lv,fv,mv,rfl,f1,Y,f3,f4,f5⟩:=Q
  rw[fa]
  refine ld b.sat hq rfl ?_
  have H:=Jr (fun c:Cla=>c.fields) 1000000 (cs.take i) fun c t=>s c (List.mem_of_mem_take t)
  rw[List.length_take] at H
  have ac:=s cs[i] (List.getElem_mem e)
  have R:min i cs.length*1000000≤100000*1000000:=Nat.mul_le_mul_right _ (by omega)
  refine Ox (f.trans b) (j.up b) (Y.up b) rfl (by omega) (by omega) fun y w5 U J u _=>?_
  refine D5 ?_
  refine Z6 (by omega) e ⟨O,J,m.more ⟨b.le⟩,?_⟩
  rw[List.take_add_one,List.getElem?_eq_getElem e,List.flatMap_append]
  simpa using u
 ·have e: ¬i<cs.length:=by simpa using hh
  rw[List.take_of_length_le (by omega)] at j
  obtain ⟨O,L,B,W,_⟩:=j.keep f
  refine h _ _ _ L ?_
  unfold M6
  rw[g];exact B)
theorem X0Q {n f:X0} (hs:X4 w σ) (ht:Tab σ v l) (ha:Yg l) (hl:l.length≤100000) (hsm: ∀c∈l,P7 c) (h: ∀w' σ',Stp w σ w' σ'→K (I (W5 (Xk l n f))) w'):Q0 P F.b9 [v,S n,S f] w K:=Gh (by
 unfold Ln
 refine J6 hs rfl fun q w1 σ1 hk1 hq=>?_
 refine Q8Y hk1.sat (ht.lift ⟨hk1.le⟩) ha hl hsm fun v' w2 σ2 hk2 hv2=>?_
 rw[Qf]
 refine Cl (fun x=>decide (x.name=f)) hk2.sat hv2 (fun x cs w3 K _ hs3 hr hl hK=>Y8 (Rx ?_)) fun w3 hb=>?_
 ·obtain ⟨rfl,_⟩:=hr
  unfold Uc
  have hq2:=hq.up hk2
  refine Y9 hs3 fun a w4 σ4 hk4 ha4=>?_
  (repeat' (first | (with_reducible intro _) | (with_reducible refine V6 ?_) | (simp only[↓M2,M2,Mb,reduceIte]) | (with_reducible first | refine ld aS aL aR ?_ | refine X8 aS aL aR ?_ | refine Y7 aS aL aR ?_ | refine Q8 aL ?_ | refine V0 aR ?_ | refine Y9 aS ?_ | refine L1 aS aL ?_ | refine J6 aS aR ?_ | refine Y6 aS aR aR (Rep.one (by assumption)) ?_ | refine U0 aS aR aR aR ?_ | (refine Z4 (fun hh=>?_) (fun hh=>?_)<;>(try simp only[hh,Bool.not_true,Bool.not_false,↓M2,M2,Mb,reduceIte])) | (refine Q5 (fun hh=>?_) (fun hh=>?_)<;>(try simp only[hh,Bool.not_true,Bool.not_false,↓M2,M2,Mb,reduceIte])))))
  exact hK _ hk4.bel
 ·exact h _ _ ((hk1.trans hk2).trans (Stp.of_below hk2.sat hb)))
end Go.Proofs.YtfppjenblllfaaaGreatDoor

namespace Go.Hm
open Go.Kd
theorem Q53 {α:Type} (p:α→Bool): ∀xs:List α,xs.find? p=(xs.findIdx? p).bind (xs[·]?)
 | []=>rfl
 | x::r=>by
  rw[List.find?_cons,List.findIdx?_cons]
  cases p x with
  | true=>rfl
  | false=>
   simp only[Bool.false_eq_true,if_false]
   rw[Q53 p r]
   cases r.findIdx? p<;>simp
def Q90 (l:List Cla):Prop:= ∀c∈l,∀u∈c.like,∃d,lk l u=some d
def Nm (c:Cla):Prop:=c.name.length≤100∧(∀f∈c.fields,f.name.length≤100∧f.kind.length≤100)∧ ∀m∈c.methods,m.result.length≤100∧ ∀p∈m.params,p.length≤100
structure Ok (l : List Cla) : Prop where
  acy : Yg l
  len : l.length ≤ 100000
  sm : ∀ c ∈ l, P7 c
  full : Q90 l
  nm : ∀ c ∈ l, Nm c
abbrev oM (o:Option Hm.Met):Hm.Met:=o.getD Hm.Met.zero
abbrev o1 (o:Option (X0×Hm.Met)):X0:=(o.map (·.1)).getD []
abbrev o2 (o:Option (X0×Hm.Met)):Hm.Met:=(o.map (·.2)).getD Hm.Met.zero
theorem Qj {α β:Type} {xs:List α} {f:α→Option β} {n:Nat} (h:n<xs.length) (a:(xs.take n).findSome? f=none):(xs.take (n+1)).findSome? f=f xs[n]:=by
 rw[List.take_add_one,List.getElem?_eq_getElem h,List.findSome?_append,a];simp
theorem T9 {α β:Type} {xs:List α} {f:α→Option β} {n:Nat} {y:β} (h:n<xs.length) (b:(xs.take n).findSome? f=none) (a:f xs[n]=some y):xs.findSome? f=some y:=by
 have:=Qj h b
 rw[a] at this
 rw[←List.take_append_drop (n+1) xs,List.findSome?_append,this];rfl
end Go.Hm
namespace Go.Proofs.YtfppjenblllfaaaGreatDoor
open Go.Emb Go.RowKit Go.Kd Go.Hm
variable {w : World} {K : Value → World → Prop} {σ : Q4} {v : Value} {l : List Cla}
theorem P3:M5 σ Hm.Met.zero [S [], .slice none 0 0,S [], .bool false,I 0, .slice none 0 0, .slice none 0 0]:=
 ⟨_,_,_,rfl,Sl.nil,Sl.nil,Sl.nil,by decide,by decide,by decide,by decide⟩
theorem Dn (h:K (.agg [S [], .slice none 0 0,S [], .bool false,I 0, .slice none 0 0, .slice none 0 0].toArray) w):N1 P T.c [] w K:=W0 (by kernel_rfl) h
theorem X04 {c:Cla} {cs:List Value} {n:X0} (hs:X4 w σ) (hc:U5 σ c cs) (hsm:P7 c)
 (h: ∀pv cv hv w' σ',Stp w σ w' σ'→M5 σ' (oM (H9 c n)) [S (oM (H9 c n)).name,pv,S (oM (H9 c n)).result, .bool (oM (H9 c n)).abs,I (oM (H9 c n)).locals,cv,hv]→
  K (.tuple #[.agg [S (oM (H9 c n)).name,pv,S (oM (H9 c n)).result, .bool (oM (H9 c n)).abs,I (oM (H9 c n)).locals,cv,hv].toArray, .bool (H9 c n).isSome]) w'):Q0 P F.cl [.agg cs.toArray,S n] w K:=Q7s (by
 obtain ⟨lv,fv,mv,rfl,g1,g2,g3,g4,g5⟩:=hc
 unfold Q1t
 refine Y9 hs fun a w1 σ1 hk1 ha1=>?_
 refine J6 hk1.sat rfl fun q w2 σ2 hk2 hq=>?_
 refine G8 hk2.sat fun b w3 σ3 hb hk3 hm=>?_
 rw[fa]
 have ha3:=(ha1.up hk2).up hk3
 have g3:=((g3.up hk1).up hk2).up hk3
 have hq3:=hq.up hk3
 refine ld hk3.sat ha3 rfl ?_
 rw[Qf]
 have hS3:=(hk1.trans hk2).trans hk3
 have hb0:w.heap.size≤b:=Yi hb (hk1.trans hk2)
 refine Sf (fun x=>decide (x.name=n)) hk3.sat g3 (fun x cs w4 K _ hs4 hr hl hK=>Y8 (Q4H ?_)) fun w4 hb4=>?_
 ·obtain ⟨pv,cv,hv,rfl,_⟩:=hr
  unfold Py
  refine Y9 hs4 fun a w5 σ5 hk5 ha5=>?_
  (repeat' (first | (with_reducible intro _) | (with_reducible refine V6 ?_) | (simp only[↓M2,M2,Mb,reduceIte]) | (with_reducible first | refine ld aS aL aR ?_ | refine X8 aS aL aR ?_ | refine Y7 aS aL aR ?_ | refine Q8 aL ?_ | refine V0 aR ?_ | refine Y9 aS ?_ | refine L1 aS aL ?_ | refine J6 aS aR ?_ | refine Y6 aS aR aR (Rep.one (by assumption)) ?_ | refine U0 aS aR aR aR ?_ | (refine Z4 (fun hh=>?_) (fun hh=>?_)<;>(try simp only[hh,Bool.not_true,Bool.not_false,↓M2,M2,Mb,reduceIte])) | (refine Q5 (fun hh=>?_) (fun hh=>?_)<;>(try simp only[hh,Bool.not_true,Bool.not_false,↓M2,M2,Mb,reduceIte])))))
  exact hK _ hk5.bel
 have hk4:Stp w3 σ3 w4 σ3:=Stp.of_below hk3.sat hb4
 have hm:=hm.step hk4
 have hS4:=hS3.trans hk4
 unfold H9 at h
 rw[Q53] at h
 refine Z1 ?_
 cases hf:c.methods.findIdx? fun x=>decide (x.name=n) with
 | none=>
  rw[hf] at h
  simp only[W5]
  refine V9 ?_
  refine Dn ?_
  refine T4 hm hS4 hb0 rfl rfl (Rep.one (P3 (σ:=σ3))) fun w5 hS5 hm5=>?_
  refine W1 hm5 rfl ?_
  exact h _ _ _ w5 σ3 hS5.stp P3
 | some i=>
  rw[hf] at h
  have hi:i<c.methods.length:=(List.findIdx?_eq_some_iff_getElem.1 hf).1
  simp only[Option.bind_some,List.getElem?_eq_getElem hi] at h
  simp only[W5]
  refine Q5 (fun hh=>absurd (of_decide_eq_true hh) (by omega)) (fun _=>?_)
  rw[fa]
  refine ld hk4.sat ha3 rfl ?_
  refine L7 g3 hi fun p cells hl1 hl2 hr=>?_
  refine Y7 hk4.sat hl1 hl2 ?_
  refine Q31 hk4.sat hr (hsm.2.2.2 _ (List.getElem_mem hi)) fun pv cv hv w5 σ5 hk5 hr5=>?_
  refine T4 (hm.step hk5) (hS4.trans hk5) hb0 rfl rfl (Rep.one hr5) fun w6 hS6 hm6=>?_
  refine W1 hm6 rfl ?_
  exact h _ _ _ w6 σ5 hS6.stp hr5)
theorem X1s {n:X0} (ok:Ok l): ∀(k:Nat) {c:Cla} {cs:List Value} {w:World} {σ:Q4} {K:Value→World→Prop},F2 l c.name<k→lk l c.name=some c→X4 w σ→Tab σ v l→U5 σ c cs→
 (∀pv W Y w' Z,Stp w σ w' Z→M5 Z (o2 (U1 l c n)) [S (o2 (U1 l c n)).name,pv,S (o2 (U1 l c n)).result, .bool (o2 (U1 l c n)).abs,I (o2 (U1 l c n)).locals,W,Y]→
  K (.tuple #[S (o1 (U1 l c n)), .agg [S (o2 (U1 l c n)).name,pv,S (o2 (U1 l c n)).result, .bool (o2 (U1 l c n)).abs,I (o2 (U1 l c n)).locals,W,Y].toArray, .bool (U1 l c n).isSome]) w')→
 Q0 P F.aK [v, .agg cs.toArray,S n] w K:=by
 intro k
 induction k with
 | zero=>
  intro c cs w σ K hk
  omega
 | succ k ih=>
  intro c cs w σ K hk hc hs ht hr h
  refine Iz ?_
  obtain ⟨lv,fv,mv,rfl,g1,g2,g3,g4,g5⟩:=hr
  have C:=Q2T ok.acy hc n
  generalize hf:(fun u=>match lk l u with | none=>none | some d=>match H9 d n with | some m=>some (u,m) | none=>U1 l d n)=f at C
  unfold Mk
  refine Y9 hs fun a w1 σ1 H a3=>?_
  refine G8 H.sat fun b w2 σ2 hb J a0=>?_
  have V:w.heap.size≤b:=Yi hb H
  have az:=a3.up J
  rw[fa]
  refine ld J.sat az rfl ?_
  have g1:=(g1.up H).up J
  refine Q8 g1 ?_
  refine Z8 c.like.length (fun i w'=> ∃Z,Stp w σ w' Z∧SLe σ2 Z∧Z5 Z w' b [S [], .slice none 0 0,S [], .bool false,I 0, .slice none 0 0, .slice none 0 0]∧(c.like.take i).findSome? f=none) ⟨σ2,H.trans J,SLe.refl _,a0,rfl⟩ fun i w3 d hi aj=>?_
  obtain ⟨σ3,A,ao,ap,z⟩:=aj
  have ar:=ht.lift ⟨A.le⟩
  refine Z1 ?_
  refine Q5 (fun hh=>?_) (fun hh=>?_)
  ·have g:i<c.like.length:=by simpa using hh
   refine Qe (g1.lift ao) g fun p aq ak=>?_
   refine X8 A.sat aq rfl ?_
   obtain ⟨d,X⟩:=ok.full c (U3 hc).2.1 _ (List.getElem_mem g)
   obtain ⟨ab,a5,_⟩:=U3 X
   have j:f c.like[i]=match H9 d n with | some m=>some (c.like[i],m) | none=>U1 l d n:=by rw[←hf];simp only[X]
   refine Xt A.sat ar X fun a7 a2 ay w4 σ4 L f1 f2 f3 f4 f5 a1=>?_
   refine X04 L.sat a1 (ok.sm d a5) fun pv W Y w5 σ5 E al=>?_
   refine J8 (vs:=[_,_]) rfl ?_
   refine J8 (vs:=[_,_]) rfl ?_
   refine Y6 E.sat (by rfl) rfl (Rep.one al) fun q w6 σ6 B ac=>?_
   have t:=((A.trans L).trans E).trans B
   have am:=((ap.step L).step E).step B
   have U:=RMe_lift al ⟨B.le⟩
   cases ho:H9 d n with
   | some m=>
    rw[ho] at j U ac
    (try simp only[ho])
    refine V9 ?_
    refine V2 t.sat ?_
    refine W7 (fun v _=>v= .agg [S m.name,pv,S m.result, .bool m.abs,I m.locals,W,Y].toArray) (fun _ _ _ h _=>h) (fun w hb=>Y7 hb.sat ac rfl ⟨Below.refl _ _,rfl⟩) ?_
    rintro _ w7 aa rfl
    refine T4 (am.step aa.stp) (t.trans aa.stp) V rfl rfl (Rep.one U) fun w8 a6 ax=>?_
    refine W1 ax rfl ?_
    have Q:=C.trans (T9 g z j)
    rw[Q] at h
    exact h _ _ _ w8 σ6 a6.stp U
   | none=>
    rw[ho] at j
    (try simp only[Option.isSome_none])
    refine V7 ?_
    refine Xt t.sat (ht.lift ⟨t.le⟩) X fun a7 a2 ay w7 σ7 y f1 f2 f3 f4 f5 aw=>?_
    have bv:=Xp ok.acy hc (by simp[J5,List.getElem_mem g]:c.like[i]∈J5 c) X
    refine ih (by rw[ab];omega) (by rw[ab];exact X) y.sat (ht.lift ⟨(t.trans y).le⟩) aw fun pv W Y w8 σ8 M ai=>?_
    refine J8 (vs:=[_,_,_]) rfl ?_
    refine J8 (vs:=[_,_,_]) rfl ?_
    refine J8 (vs:=[_,_,_]) rfl ?_
    refine Y6 M.sat (by rfl) rfl (Rep.one ai) fun q w9 σ9 D ad=>?_
    have O:=((t.trans y).trans M).trans D
    have an:=((am.step y).step M).step D
    have R:=RMe_lift ai ⟨D.le⟩
    cases Q:U1 l d n with
    | some r=>
     obtain ⟨s,m⟩:=r
     rw[Q] at j R ad
     (try simp only[Q])
     refine V9 ?_
     refine V2 O.sat ?_
     refine W7 (fun v _=>v= .agg [S m.name,pv,S m.result, .bool m.abs,I m.locals,W,Y].toArray) (fun _ _ _ h _=>h) (fun w hb=>Y7 hb.sat ad rfl ⟨Below.refl _ _,rfl⟩) ?_
     rintro _ bm N rfl
     refine T4 (an.step N.stp) (O.trans N.stp) V rfl rfl (Rep.one R) fun av ag af=>?_
     refine W1 af rfl ?_
     have ak:=C.trans (T9 g z j)
     rw[ak] at h
     exact h _ _ _ av σ9 ag.stp R
    | none=>
     rw[Q] at j
     (try simp only[Option.isSome_none])
     refine V7 ?_
     refine D5 ?_
     refine Y2 (by have:=g1.max;omega) g ⟨σ9,O,?_,an,?_⟩
     ·exact ao.more ⟨fun b o e=>D.le _ _ (M.le _ _ (y.le _ _ (B.le _ _ (E.le _ _ (L.le _ _ e)))))⟩
     ·rw[Qj g z];exact j
  ·have g: ¬i<c.like.length:=by simpa using hh
   rw[List.take_of_length_le (by omega)] at z
   refine Dn ?_
   refine T4 ap A V rfl rfl (Rep.one (P3 (σ:=σ3))) fun w5 ba a9=>?_
   refine W1 a9 rfl ?_
   have Q:=C.trans z
   rw[Q] at h
   exact h _ _ _ w5 σ3 ba.stp P3
end Go.Proofs.YtfppjenblllfaaaGreatDoor

namespace Go.Hm
open Go.Kd
theorem Q9n {l:List Cla} {n:X0} {c:Cla} (h:c∈chain l n):lk l c.name=some c:=by
 have key: ∀(f:Nat) (n:X0),c∈C4 (lk l) f n→lk l c.name=some c:=by
  intro f
  induction f with
  | zero=>intro n h;simp[C4] at h
  | succ f b=>
   intro n h
   simp only[C4] at h
   split at h
   ·simp at h
   ·rename_i d a
    rcases List.mem_cons.1 h with rfl | h
    ·rw[(U3 a).1];exact a
    ·exact b _ h
 exact key _ _ h
end Go.Hm
namespace Go.Proofs.YtfppjenblllfaaaGreatDoor
open Go.Emb Go.RowKit Go.Kd Go.Hm
variable {w : World} {K : Value → World → Prop} {σ : Q4} {v : Value} {l : List Cla}
theorem Q9D {k n:X0} (hs:X4 w σ) (ht:Tab σ v l) (ok:Ok l)
 (h: ∀pv cv hv w' E,Stp w σ w' E→M5 E (o2 (J7 l k n)) [S (o2 (J7 l k n)).name,pv,S (o2 (J7 l k n)).result, .bool (o2 (J7 l k n)).abs,I (o2 (J7 l k n)).locals,cv,hv]→
  K (.tuple #[S (o1 (J7 l k n)), .agg [S (o2 (J7 l k n)).name,pv,S (o2 (J7 l k n)).result, .bool (o2 (J7 l k n)).abs,I (o2 (J7 l k n)).locals,cv,hv].toArray, .bool (J7 l k n).isSome]) w'):
 Q0 P F.aY [v,S k,S n] w K:=St (by
 unfold Us
 refine G8 hs fun b w1 σ1 H N ac=>?_
 refine Q8f N.sat (ht.lift ⟨N.le⟩) ok.acy ok.len fun v1 w2 σ2 ae ax=>?_
 have bd:=ac.step ae
 have bk:=ac.lt
 refine Q2W (N.trans ae) (ax.mono N.bel.size) fun w3 a4 bb aj=>?_
 rw[List.reverse_reverse] at aj
 obtain ⟨σ3,a2,J,bh,az⟩:=aj.keep bb
 have bg:=Rb l k
 have ad:v1.ownBlock≠some b:=fun e=>by have:=ax.own e;omega
 have aw:Z5 σ3 w3 b [S [], .slice none 0 0,S [], .bool false,I 0, .slice none 0 0, .slice none 0 0]:=by
  have:=bd.kp a4 ad
  exact ⟨(az b fun e=>ad e.symm).trans this.1,this.2⟩
 refine Q8 J ?_
 unfold J7 at h
 refine Z8 (chain l k).length (fun i w'=> ∃E,Stp w σ w' E∧SLe σ3 E∧Z5 E w' b [S [], .slice none 0 0,S [], .bool false,I 0, .slice none 0 0, .slice none 0 0]∧((chain l k).take i).findSome? (fun c=>(H9 c n).map (c.name,·))=none) ⟨σ3,a2,SLe.refl _,aw,rfl⟩ fun i w5 d hi C=>?_
 obtain ⟨σ5,R,O,av,u⟩:=C
 refine Z1 ?_
 refine Q5 (fun hh=>?_) (fun hh=>?_)
 ·have a:i<(chain l k).length:=by simpa using hh
  refine L7 (J.lift O) a fun p cells W z Z=>?_
  refine Y7 R.sat W z ?_
  refine Y6 R.sat (by rfl) z (Rep.one Z) fun q w6 σ6 A ag=>?_
  refine Y7 A.sat ag z ?_
  have ao:=Ai (List.getElem_mem a)
  refine X04 A.sat (Rep.up A.le Z) (ok.sm _ ao) fun pv cv hv w7 σ7 j ah=>?_
  refine J8 (vs:=[_,_]) rfl ?_
  refine J8 (vs:=[_,_]) rfl ?_
  refine Y6 j.sat (by rfl) rfl (Rep.one ah) fun q8 w8 σ8 y an=>?_
  have X:=((R.trans A).trans j).trans y
  have ar:=((av.step A).step j).step y
  have B:=RMe_lift ah ⟨y.le⟩
  cases D:H9 (chain l k)[i] n with
  | some m=>
   rw[D] at B an
   (try simp only[D])
   refine V9 ?_
   obtain ⟨lv,fv,mv,rfl,g⟩:=Z
   refine V2 X.sat ?_
   refine X2 (.pointer (some (q.add 0))) (fun w H=>by rw[fa];exact X5 rfl) ?_
   refine X2 (S (chain l k)[i].name) (fun t w H e=>by rw[e];exact ld H.sat ((ag.up j).up y) rfl (X5 rfl)) ?_
   refine W7 (fun v _=>v= .agg [S m.name,pv,S m.result, .bool m.abs,I m.locals,cv,hv].toArray) (fun _ _ _ h _=>h) (fun w H=>Y7 H.sat an rfl ⟨Below.refl _ _,rfl⟩) ?_
   rintro _ _ _ w9 a1 rfl rfl rfl
   refine T4 (ar.step a1.stp) (X.trans a1.stp) H rfl rfl (Rep.one B) fun am ak a0=>?_
   refine W1 a0 rfl ?_
   rw[T9 (f:=fun c=>(H9 c n).map (c.name,·)) a u (by simp only[D];rfl)] at h
   exact h _ _ _ am σ8 ak.stp B
  | none=>
   (try simp only[D])
   refine V7 ?_
   refine D5 ?_
   refine Y2 (by have:=ok.len;omega) a ⟨σ8,X,O.more ⟨fun b o e=>y.le _ _ (j.le _ _ (A.le _ _ e))⟩,ar,?_⟩
   rw[Qj a u];simp only[D];rfl
 ·have a: ¬i<(chain l k).length:=by simpa using hh
  rw[List.take_of_length_le (by omega)] at u
  rw[u] at h
  clear aw a2 hh
  refine Q8 (J.lift O) ?_
  refine Z8 (chain l k).length (fun i w'=> ∃E,Stp w σ w' E∧SLe σ3 E∧Z5 E w' b [S [], .slice none 0 0,S [], .bool false,I 0, .slice none 0 0, .slice none 0 0]∧((chain l k).take i).findSome? (fun c=>U1 l c n)=none) ⟨σ5,R,O,av,rfl⟩ fun i w6 d hi C=>?_
  obtain ⟨σ6,L,ai,af,u⟩:=C
  refine Z1 ?_
  refine Q5 (fun hh=>?_) (fun hh=>?_)
  ·have a:i<(chain l k).length:=by simpa using hh
   refine L7 (J.lift ai) a fun p cells W z Z=>?_
   refine Y7 L.sat W z ?_
   refine Y6 L.sat (by rfl) z (Rep.one Z) fun q w7 σ7 j a6=>?_
   refine Y7 j.sat a6 z ?_
   have Q:=L.trans j
   have ba:=Q9n (List.getElem_mem a)
   refine X1s ok _ (Nat.lt_succ_self _) ba j.sat (ht.lift ⟨Q.le⟩) (Rep.up j.le Z) fun pv cv hv w8 σ8 y B=>?_
   refine J8 (vs:=[_,_,_]) rfl ?_
   refine J8 (vs:=[_,_,_]) rfl ?_
   refine J8 (vs:=[_,_,_]) rfl ?_
   refine Y6 y.sat (by rfl) rfl (Rep.one B) fun q9 w9 σ9 M al=>?_
   have V:=(Q.trans y).trans M
   have ap:=((af.step j).step y).step M
   have Y:=RMe_lift B ⟨M.le⟩
   cases D:U1 l (chain l k)[i] n with
   | some r=>
    obtain ⟨s,m⟩:=r
    rw[D] at Y al
    (try simp only[D])
    refine V9 ?_
    refine V2 V.sat ?_
    refine W7 (fun v _=>v= .agg [S m.name,pv,S m.result, .bool m.abs,I m.locals,cv,hv].toArray) (fun _ _ _ h _=>h) (fun w H=>Y7 H.sat al rfl ⟨Below.refl _ _,rfl⟩) ?_
    rintro _ am U rfl
    refine T4 (ap.step U.stp) (V.trans U.stp) H rfl rfl (Rep.one Y) fun a7 ay aq=>?_
    refine W1 aq rfl ?_
    have:=T9 (f:=fun c=>U1 l c n) a u D
    unfold U1 at this
    rw[this] at h
    exact h _ _ _ a7 σ9 ay.stp Y
   | none=>
    (try simp only[D])
    refine V7 ?_
    refine D5 ?_
    refine Y2 (by have:=ok.len;omega) a ⟨σ9,V,ai.more ⟨fun b o e=>M.le _ _ (y.le _ _ (j.le _ _ e))⟩,ap,?_⟩
    rw[Qj a u];exact D
  ·have a: ¬i<(chain l k).length:=by simpa using hh
   rw[List.take_of_length_le (by omega)] at u
   refine Dn ?_
   refine T4 af L H rfl rfl (Rep.one (P3 (σ:=σ6))) fun w7 Q bc=>?_
   refine W1 bc rfl ?_
   unfold U1 at u
   rw[u] at h
   exact h _ _ _ w7 σ6 Q.stp P3)
end Go.Proofs.YtfppjenblllfaaaGreatDoor

namespace Go.Kd
def brk (b:UInt8):Bool:=[(91:UInt8),93].contains b
def Q01:Nat→X0→X0
 | 0,s=>s
 | n+1,s=>match s.getLast? with
  | some b=>if brk b then Q01 n (s.take (s.length-1)) else s
  | none=>s
def Ol (s:X0):X0:=Q01 s.length s
theorem Q7n: ∀(n m:Nat) (s:X0),s.length≤n→s.length≤m→Q01 n s=Q01 m s:=by
 intro n
 induction n with
 | zero=>
  intro m s h _
  have:s=[]:=List.eq_nil_of_length_eq_zero (by omega)
  subst this
  cases m<;>rfl
 | succ n a=>
  intro m s h c
  cases m with
  | zero=>
   have:s=[]:=List.eq_nil_of_length_eq_zero (by omega)
   subst this;rfl
  | succ m=>
   simp only[Q01]
   cases d:s.getLast? with
   | none=>rfl
   | some b=>
    simp only
    split
    ·exact a m _ (by rw[List.length_take];omega) (by rw[List.length_take];omega)
    ·rfl
theorem Q0d (s:X0):Ol s=match s.getLast? with | some b=>if brk b then Ol (s.take (s.length-1)) else s | none=>s:=by
 unfold Ol
 cases d:s with
 | nil=>rfl
 | cons c r=>
  rw[←d]
  obtain ⟨n,e⟩: ∃n,s.length=n+1:=⟨r.length,by rw[d];rfl⟩
  have a:s.length-1=n:=by omega
  rw[e]
  simp only[Q01,a]
  cases f:s.getLast? with
  | none=>rfl
  | some b=>
   simp only
   split
   ·rw[show n+1-1=n by omega];exact Q7n n (s.take n).length _ (by rw[List.length_take];omega) (Nat.le_refl _)
   ·rfl
theorem Q8K {s:X0} (h:name s=true): ∃b,s.getLast?=some b∧E1 b.toNat=true:=by
 cases s with
 | nil=>simp[name] at h
 | cons c r=>
  refine ⟨(c::r).getLast (by simp),List.getLast?_eq_some_getLast (by simp),?_⟩
  simp only[name,Bool.and_eq_true,List.all_eq_true] at h
  exact h.2 _ (List.getLast_mem _)
theorem Q8H {b:UInt8} (h:E1 b.toNat=true):brk b=false:=by
 have a:b≠91:=by rintro rfl;revert h;decide
 have c:b≠93:=by rintro rfl;revert h;decide
 simp[brk,a,c]
theorem Wd {s:X0} (h:(plain s||W6 s)=true):name s=true:=by
 simp only[Bool.or_eq_true] at h
 rcases h with h | h
 ·simp only[plain,Bool.or_eq_true,decide_eq_true_eq] at h
  rcases h with (h | h) | h<;>subst h<;>decide
 ·cases s with
  | nil=>simp[W6] at h
  | cons c r=>simp only[W6,Bool.and_eq_true] at h;exact h.1
end Go.Kd
namespace Go.Proofs.YtfppjenblllfaaaGreatDoor
open Go.Emb Go.RowKit Go.Kd Go.Hm
variable {w : World} {K : Value → World → Prop} {σ : Q4} {v : Value} {l : List Cla}
theorem Q9c {s:X0} (h:H5 s=true):Ol s=Ol (Kd.cutA s):=by
 have d:2≤s.length∧s.drop (s.length-2)=[91,93]:=by simpa [H5] using h
 obtain ⟨i,f⟩:=d
 have a:s=Kd.cutA s++[91,93]:=by unfold Kd.cutA;rw[←f,List.take_append_drop]
 have g:(Kd.cutA s).length+2=s.length:=by unfold Kd.cutA;rw[List.length_take];omega
 have c:s.getLast?=some 93:=by rw[a];simp
 have b:s.take (s.length-1)=Kd.cutA s++[91]:=by
  conv=>lhs;rw[a]
  rw[List.take_append,List.length_append]
  simp
  exact List.take_of_length_le (by omega)
 rw[Q0d s,c]
 simp only[show brk 93=true from rfl,if_true,b]
 rw[Q0d]
 have e:(Kd.cutA s++[91]).getLast?=some 91:=by simp
 rw[e]
 simp only[show brk 91=true from rfl,if_true]
 congr 1
 simp
theorem Q7G {s:X0}:(plain (base s).1||W6 (base s).1)=true→Ol s=(base s).1:=by
 have key: ∀(n:Nat) (s:X0),s.length≤n→(plain (base s).1||W6 (base s).1)=true→Ol s=(base s).1:=by
  intro n
  induction n with
  | zero=>
   intro s h a
   have:s=[]:=List.eq_nil_of_length_eq_zero (by omega)
   subst this;rfl
  | succ n e=>
   intro s h a
   by_cases c:H5 s=true
   ·have d:base s=((base (Kd.cutA s)).1,(base (Kd.cutA s)).2+1):=by rw[Uw s,c];simp
    rw[d] at a⊢
    rw[Q9c c]
    exact e _ (by have:=P0 c;omega) a
   ·have d:base s=(s,0):=by rw[Uw s,eq_false_of_ne_true c];simp
    rw[d] at a⊢
    obtain ⟨b,f,g⟩:=Q8K (Wd a)
    rw[Q0d,f]
    simp[Q8H g]
 exact key _ s (Nat.le_refl _)
instance z_asciiSet:TZ P T.a4 256 256 (.agg (Array.replicate 256 (.bool false))):=⟨by kernel_rfl⟩
theorem Q5s (h: ∀w',Below w.heap.size w w'→K (.tuple #[.agg (Lib.setCells [91,93]), .bool true]) w'):Q0 P F.bP [S [91,93]] w K:=by
 refine Um (fn:=Tryz.f88) Tryz.func88 (by kernel_rfl) (by kernel_rfl) (Calls.mono (Tryz.strings_makeASCIISet (fun w=>Xs z_asciiSet w) ⟨[91,93].toArray⟩ w (by decide) (by
  intro j b a
  have:b∈[(91:UInt8),93]:=List.mem_of_getElem? a
  simp at this;rcases this with rfl | rfl<;>decide)) ?_)
 rintro e w' ⟨rfl,rfl⟩
 exact h _ ((Below.refl _ _).alloc (Nat.le_refl _) _)
theorem Q1z {q:Addr} {b:UInt8} (c:X4 w σ) (a:Z2 σ q (Lib.setCells [91,93]).toList) (h:K (.bool (brk b)) w):Q0 P F.au [.pointer (some q), .int .u8 b.toNat] w K:=Lq (by
 unfold P9
 rw[E6]
 have d:=b.toNat_lt
 rw[Q82 (by omega) (by omega)]
 refine ld c a ?_ h
 have:=Lib.setCells_at [91,93] b
 rw[←Array.getElem?_toList] at this
 simpa [brk] using this)
theorem Q0R {q:Addr} {s:X0} (j:X4 w σ) (k:s.length≤J3) (m:Z2 σ q (Lib.setCells [91,93]).toList) (h:K (S (Ol s)) w):Q0 P F.ag [S s, .pointer (some q)] w K:=En (by
 unfold Yy
 refine V6 ?_
 refine Zv (fun x w'=>w'=w∧ ∃u:X0,x=S u∧u.length≤J3∧Ol u=Ol s) (fun x _=>(sOf x).length) ⟨rfl,s,rfl,k,rfl⟩ ?_
 rintro _ d _ ⟨rfl,u,rfl,g,e⟩
 have f:sOf (S u)=u:=by simp[sOf]
 simp only[f]
 refine Q1p X7 ?_
 refine Ay ?_
 refine Q5 (fun hh=>?_) (fun hh=>?_)
 ·have n:0<u.length:=by simpa using hh
  have o:u.length≤9223372036854775807:=Nat.le_trans g (by decide)
  refine Q1p X7 ?_
  refine Dm ⟨by omega,by omega⟩ ?_
  have i:((u.length:Int)-1).toNat=u.length-1:=by omega
  rw[A0 X7 (by omega) (by omega)]
  simp only[i]
  have b:u.getLast?=some (u[u.length-1]'(by omega)):=by rw[List.getLast?_eq_getElem?,List.getElem?_eq_getElem]
  have a:=Q0d u
  rw[b] at a
  simp only at a
  refine Q1z j m ?_
  cases c:brk (u[u.length-1]'(by omega)) with
  | true=>
   rw[c] at a
   simp only[↓M1,M1,Mb,reduceIte]
   rw[B5 (by omega) (by omega),K0 X7 (by omega) (by omega)]
   simp only[i]
   refine ⟨⟨trivial,_,rfl,by rw[List.length_take];omega,?_⟩,?_⟩
   ·rw[←e,a];simp
   ·have:sOf (S (u.take (u.length-1)))=u.take (u.length-1):=by simp[sOf]
    simp only[this,List.length_take];omega
  | false=>
   rw[c] at a
   simp only[↓M1,M1,Mb,reduceIte]
   intro _
   rw[←e,a] at h
   simpa using h
 ·have n: ¬0<u.length:=by simpa using hh
  have:u=[]:=List.eq_nil_of_length_eq_zero (by omega)
  subst this
  intro _
  rw[←e] at h
  exact h)
theorem Q5j {s:X0} (hs:X4 w σ) (hl:s.length≤J3) (h: ∀w' σ',Stp w σ w' σ'→K (S (Ol s)) w'):Q0 P F.bj [S s,S [91,93]] w K:=Kr (by
 unfold Md
 by_cases hs0:s=[]
 ·subst hs0
  (repeat' (first | (with_reducible intro _) | (with_reducible refine V6 ?_) | (simp only[↓M2,M2,Mb,reduceIte]) | (with_reducible first | refine ld aS aL aR ?_ | refine X8 aS aL aR ?_ | refine Y7 aS aL aR ?_ | refine Q8 aL ?_ | refine V0 aR ?_ | refine Y9 aS ?_ | refine L1 aS aL ?_ | refine J6 aS aR ?_ | refine Y6 aS aR aR (Rep.one (by assumption)) ?_ | refine U0 aS aR aR aR ?_ | (refine Z4 (fun hh=>?_) (fun hh=>?_)<;>(try simp only[hh,Bool.not_true,Bool.not_false,↓M2,M2,Mb,reduceIte])) | (refine Q5 (fun hh=>?_) (fun hh=>?_)<;>(try simp only[hh,Bool.not_true,Bool.not_false,↓M2,M2,Mb,reduceIte])))))
  all_goals first | exact h _ _ (by (repeat (first | exact Stp.refl (by (first | assumption | exact Stp.sat (by assumption) | exact Hst.sat (by assumption))) | assumption | refine Stp.trans ?_ (by first | assumption | exact Hst.stp (by assumption))))) | (exfalso;simp_all)
 have d1:decide (s=[])=false:=decide_eq_false hs0
 simp only[d1,show decide (([91,93]:X0)=[])=false from rfl,show decide ((([91,93]:X0).length:Int)=1)=false from rfl,↓M1,M1,Mb,reduceIte]
 refine Q5s (W2 hs fun w1 σ1 hk1=>?_)
 simp only[↓M1,M1,Mb,reduceIte]
 have hsz:(Lib.setCells [91,93]).toList.length=256:=by rw[Array.length_toList];exact Lib.setCells_size _
 have hone: ∀u∈(Lib.setCells [91,93]).toList,u.oneCell'=true:=by
  have:=Lib.setCells_one [91,93]
  rw[Array.all_eq_true'] at this
  intro u hu;exact this u (by simpa using hu)
 have htr: ∀{w:World} {σ:Q4} {K:Value→World→Prop} {q:Addr},X4 w σ→Z2 σ q (Lib.setCells [91,93]).toList→K (S (Ol s)) w→Q0 P F.ag [S s, .pointer (some q)] w K:=fun hs hq h=>Q0R hs hl hq h
 have hta:Lib.setCells [91,93]=(Lib.setCells [91,93]).toList.toArray:=Array.toArray_toList.symm
 generalize (Lib.setCells [91,93]).toList=cs at*
 rw[hta]
 refine Y6 hk1.sat (by show (Array.replicate 256 (Value.bool false)).size=256;exact Array.size_replicate) hsz hone fun q w2 σ2 hk2 hq=>?_
 refine htr hk2.sat hq ?_
 exact h _ _ (hk1.trans hk2))
theorem Ek {s:X0} (hs:X4 w σ) (ht:Tab σ v l) (hl:s.length≤J3) (h: ∀w' σ',Stp w σ w' σ'→K (.bool (M0 l s)) w'):Q0 P F.n [v,S s] w K:=Kp (by
 unfold Lu
 unfold M0 at h
 refine Ng ?_
 refine Q5 (fun hh=>?_) (fun hh=>?_)
 ·have e:decide (s=C2)=true:=hh
  rw[e] at h
  exact h _ _ (Stp.refl hs)
 ·have e:decide (s=C2)=false:=hh
  rw[e] at h
  refine Q5j hs hl fun w1 σ1 hk1=>?_
  refine Zn s (Nat.le_trans hl (by decide)) (W2 hk1.sat fun w2 σ2 hk2=>?_)
  cases hr:right s with
  | false=>
   rw[hr] at h
   (repeat' (first | (with_reducible intro _) | (with_reducible refine V6 ?_) | (simp only[↓M2,M2,Mb,reduceIte]) | (with_reducible first | refine ld aS aL aR ?_ | refine X8 aS aL aR ?_ | refine Y7 aS aL aR ?_ | refine Q8 aL ?_ | refine V0 aR ?_ | refine Y9 aS ?_ | refine L1 aS aL ?_ | refine J6 aS aR ?_ | refine Y6 aS aR aR (Rep.one (by assumption)) ?_ | refine U0 aS aR aR aR ?_ | (refine Z4 (fun hh=>?_) (fun hh=>?_)<;>(try simp only[hh,Bool.not_true,Bool.not_false,↓M2,M2,Mb,reduceIte])) | (refine Q5 (fun hh=>?_) (fun hh=>?_)<;>(try simp only[hh,Bool.not_true,Bool.not_false,↓M2,M2,Mb,reduceIte])))))
   all_goals exact aF
  | true=>
   rw[hr] at h
   have hr2:(plain (base s).1||W6 (base s).1)=true:=by
    simp only[right,Bool.and_eq_true] at hr;exact hr.2
   rw[Q7G hr2]
   (repeat' (first | (with_reducible intro _) | (with_reducible refine V6 ?_) | (simp only[↓M2,M2,Mb,reduceIte]) | (with_reducible first | refine ld aS aL aR ?_ | refine X8 aS aL aR ?_ | refine Y7 aS aL aR ?_ | refine Q8 aL ?_ | refine V0 aR ?_ | refine Y9 aS ?_ | refine L1 aS aL ?_ | refine J6 aS aR ?_ | refine Y6 aS aR aR (Rep.one (by assumption)) ?_ | refine U0 aS aR aR aR ?_ | refine Up _ ?_ | refine Q6R au au ?_ | (refine Z4 (fun hh=>?_) (fun hh=>?_)<;>(try simp only[hh,Bool.not_true,Bool.not_false,↓M2,M2,Mb,reduceIte])) | (refine Q5 (fun hh=>?_) (fun hh=>?_)<;>(try simp only[hh,Bool.not_true,Bool.not_false,↓M2,M2,Mb,reduceIte])))))
   all_goals exact aF)
end Go.Proofs.YtfppjenblllfaaaGreatDoor

namespace Go.Emb
open Go.RowKit Go.Hm
variable {P : Program} {w w0 w1 w' w'' : World} {K : Value → World → Prop} {σ σ0 σ1 σ' : Q4}
theorem Q39 (m:List (List UInt8×Value)) (k n:List UInt8) (v:Value):L9 (Qu m k v) n=if k=n then some v else L9 m n:=by
 induction m with
 | nil=>simp[Qu,L9]
 | cons p r b=>
  simp only[Qu]
  by_cases h:p.1=k
  ·rw[if_pos h]
   simp only[L9]
   by_cases a:k=n
   ·simp[a]
   ·rw[if_neg a,if_neg a,if_neg (by rw[h];exact a)]
  ·rw[if_neg h]
   simp only[L9]
   by_cases a:p.1=n
   ·rw[if_pos a,if_pos a,if_neg (by intro e;exact h (a.trans e.symm))]
   ·rw[if_neg a,if_neg a];exact b
theorem U2.shift {B sz:Nat} {e:TypeId} {v:Value} {xs:List (List UInt8)} (h:U2 B e sz Y0 σ w v xs) (m: ∀k,v.ownBlock=some k→σ' k=none):U2 B e sz Y0 σ' w v xs:=by
 obtain ⟨a,i,rfl,o,n,c,u⟩:=h
 refine ⟨a,i,rfl,o,n,fun b d=>⟨(c b d).1,(c b d).2.1,(c b d).2.2.1,m _ (by subst d;rfl)⟩,fun q=>?_⟩
 obtain ⟨g,f,j,rfl,t,y,p,r,s⟩:=u q
 exact ⟨g,f,j,rfl,t,m g rfl,p,r,s⟩
theorem Kpt.sat {D:Nat→Prop} (a:X4 w σ) (d:Kpt D w w') (c: ∀k,D k→σ k=none):X4 w' σ:=fun b o e=>by
 rw[d.block b (a.lt e) fun h=>by rw[c b h] at e;cases e];exact a b o e
theorem Nxt.kpt {D a:Nat→Prop} (h:Nxt D w σ w' σ') (b:Kpt a w' w'') (c: ∀k,a k→D k) (d: ∀k,a k→σ' k=none):Nxt D w σ w'' σ':=
 ⟨h.kp.trans (b.mono fun k _ h=>c k h),h.le,h.old,b.sat h.sat d⟩
theorem X1W {t H:TypeId} {e:TypeId} {by_:Nat} {z:Value} {cs:List Bool} [ts:TS P t e] [tz:TZ P e 1 by_ z] {B:Nat} {y:World} {g σ':Q4} {d u:Value} {xs:List (List UInt8)} {s:List UInt8}
 (C:U2 B e 1 Y0 g y d xs) (hB:B≤y.heap.size) (Q:U2 B e 1 Y0 g w1 d xs) (q:Nxt (fun k=>d.ownBlock=some k) y g w1 σ') (V:Sl 1 Y0 σ' u [s]) (N:(z.cells.size==1&&decide (0<1))=true)
 (j:(xs.length+1)*by_≤140737488355328) (O:xs.length+1≤1000000000000):
 X6 P .append [t,t] H cs [d,u] w1 (dk (Sy B e 1 Y0 g d xs s) (VQa y.heap.size B e 1 Y0 g d xs s) w1):=by
 have n: ∀k,d.ownBlock=some k→σ' k=none:=fun k c=>(q.old k (C.mem c).2.1).trans (C.mem c).2.2
 refine Q1M q.sat (Nat.le_trans hB q.kp.size) (Q.shift n) V N (by simpa using j) (by simpa using O) fun L U A J p f=>?_
 have b:U2 B e 1 Y0 g U L (xs++[s]):=p.shift fun k c=>by
  have:=(p.mem c).2.2
  cases hh:g k with
  | none=>rfl
  | some o=>rw[q.le.le _ _ hh] at this;cases this
 refine ⟨⟨A.mono fun k _ h=>h.1,fun h=>?_,fun a i D h=>?_⟩,b,?_⟩
 ·rcases f with ⟨a,i,m,r⟩ | ⟨j,_⟩
  ·rw[r] at b;rw[m];exact b.pre rfl
  ·exact h.below j
 ·rcases f with ⟨X,E,m,r⟩ | ⟨j,_⟩
  ·rw[m] at D;injection D with W q2 R
   subst W R
   rw[r] at b;exact b
  ·exact h.below j
 ·rcases f with ⟨a,i,m,r⟩ | ⟨j,M⟩
  ·exact .inl ⟨a,i,m,r⟩
  ·exact .inr ⟨fun k c=>Nat.le_trans q.kp.size (M k c),fun k c=>(C.mem c).2.1⟩
end Go.Emb
namespace Go.Hm
open Go.Kd
def Vp (l:List Cla) (n:X0):List Cla:=(R3 l n).filterMap (lk l)
theorem Q5P {l:List Cla} (h: ∀c∈l,P7 c) (a:List X0):weigh l a≤l.length*1000001:=by
 unfold weigh
 induction l with
 | nil=>simp
 | cons c r b=>
  have f:=b fun c d=>h c (by simp[d])
  have g:=(h c (by simp)).1
  simp only[List.map_cons,List.sum_cons,List.length_cons,Nat.add_mul]
  have e:(J5 c).length=c.like.length+1:=rfl
  split<;>omega
end Go.Hm
namespace Go.Proofs.YtfppjenblllfaaaGreatDoor
open Go.Emb Go.RowKit Go.Kd Go.Hm
variable {w : World} {K : Value → World → Prop} {σ : Q4} {v : Value} {l : List Cla}
theorem Q6f {β:Type} {n:X0} {f:Value} (L:β→Cla→Bool×β) (s0:β) (Q:β→World→Prop) (D:Nat→Prop) (hs:X4 w σ) (ht:Tab σ v l) (hl:l.length≤100000) (bd: ∀c∈l,P7 c) (hn:n.length≤J3)
 (hD: ∀k,D k→k<w.heap.size∧σ k=none) (ai: ∀s w1 w2,Q s w1→(∀k,D k→w2.heap[k]? =w1.heap[k]?)→Q s w2) (h0:Q s0 w)
 (hf: ∀s c cs (w1:World) (σ1:Q4) (K:Value→World→Prop),SLe σ σ1→X4 w1 σ1→(∀k,D k→σ1 k=none)→Q s w1→U5 σ1 c cs→lk l c.name=some c→(∀w',Kpt D w1 w'→Q (L s c).2 w'→K (.bool (L s c).1) w')→Z0 P f [.agg cs.toArray] w1 K)
 (h: ∀w' σ',Nxt D w σ w' σ'→Q (Z9 L s0 (Vp l n) 0).2 w'→K (.bool (Z9 L s0 (Vp l n) 0).1.isSome) w'):Q0 P F.u [v,S n,f] w K:=Be (by
 unfold La
 refine Qh (R:=Y0) (sz:=1) (xs:=[n]) (Stp.refl hs) [S n] rfl rfl (by simp;rfl) rfl ⟨⟨rfl,hn⟩,trivial⟩ fun x0 w1 ax bm _=>?_
 refine An ax.sat fun r w2 hr ac ci=>?_
 have ch:=U2.of_acc (bm.up ac)
 have be:=ax.trans ac
 have bj:w.heap.size≤r:=Nat.le_trans ax.bel.size hr
 have bk: ∀b,weigh l b≤100001000000:=fun b=>by
  have:=Q5P bd b
  have h2:l.length*1000001≤100000*1000001:=Nat.mul_le_mul_right _ hl
  omega
 refine Ba (fun d x w1=> ∃(C b:List X0) (s:β) (σ1:Q4) (m:List (X0×Value)),d=C.length+weigh l b∧d≤1+weigh l []∧Nxt D w σ w1 σ1∧U2 w.heap.size T.b 1 Y0 σ1 w1 x C∧D7 σ1 w1 r m∧(∀k,(L9 m k).isSome=decide (k∈b))∧x.ownBlock≠some r∧Q s w1∧
  R3 l n=Zz (lk l) d C b∧(∃i,Z9 L s0 (Vp l n) 0=Z9 L s (((R3 l n).drop b.length).filterMap (lk l)) i)) (1+weigh l []) ?_ ?_
 ·refine ⟨[n],[],s0,σ,[],by simp,Nat.le_refl _,Nxt.of_stp be,ch,ci,by simp[L9],?_,ai _ _ _ h0 fun k o=>be.bel.block k (hD k o).1,rfl,0,by simp[Vp]⟩
  intro e
  have:=bm.mem r e
  omega
 rintro ay d x dd w3 ⟨C,b,s,σ3,m,hd,c7,A,av,ag,N,cl,a1,hv,i,y⟩ b0
 have cw:=bk []
 have a4:=A.sat
 obtain ⟨az,B⟩:=Q00 (lk l) d C b
 rw[←hv] at B
 have Y:(R3 l n).drop b.length=az:=by rw[B];simp
 rw[Y] at y
 refine Gf av ?_
 refine Ay ?_
 cases aa:C with
 | nil=>
  subst aa
  refine Q5 (fun hh=>absurd (of_decide_eq_true hh) (by simp)) (fun _=>?_)
  have:R3 l n=b:=by rw[hv];cases d<;>rfl
  have hp:az=[]:=by rw[this] at B;simpa using B
  rw[hp] at y
  rw[y] at h
  exact h _ _ A a1
 | cons t g=>
  subst aa
  refine Q5 (fun _=>?_) (fun hh=>absurd (of_decide_eq_false hh) (by simp))
  simp only[List.length_cons] at hd
  refine Q3X (n:=0) av (by simp) fun a cs X h2 h3=>?_
  obtain ⟨rfl,b3⟩:=h3
  simp only[List.getElem_cons_zero] at X b3
  have ab:=X 0 _ rfl
  rw[add_zero] at ab
  refine Qg ab ?_
  refine Q9R av 1 (by simp) fun x' Z br=>?_
  simp only[List.drop_succ_cons,List.drop_zero] at Z
  have J:x'.ownBlock≠some r:=by
   rcases br with e | e<;>rw[e]
   ·exact cl
   ·simp
  rw[Q0Y X7 ag.2 t]
  have cp:d=(g.length+weigh l b)+1:=by omega
  have p:=hv
  rw[cp] at p
  simp only[Zz] at p
  have skip:(lk l t=none∨t∈b)→R3 l n=Zz (lk l) (g.length+weigh l b) g b:=by
   rintro (e | e)
   ·rw[e] at p;exact p
   ·cases e2:lk l t with
    | none=>rw[e2] at p;exact p
    | some c=>rw[e2] at p;simp only[if_pos e] at p;exact p
  have ae:(lk l t=none∨t∈b)→ay x' w3:=fun cq=>
   b0 (g.length+weigh l b) x' w3 (by omega) ⟨g,b,s,σ3,m,rfl,by omega,A,Z,ag,N,J,a1,skip cq,i,by rw[Y];exact y⟩
  have aq:=ht.lift A.le
  have U:=N t
  cases bp:L9 m t with
  | some u=>
   rw[bp] at U
   have ak:t∈b:=by simpa using U
   simp only[↓M2,M2,Mb,reduceIte]
   exact ae (.inr ak)
  | none=>
   rw[bp] at U
   have ak:t∉b:=by simpa using U
   simp only[↓M2,M2,Mb,reduceIte]
   cases H:lk l t with
   | none=>
    refine Al a4 aq H ?_
    simp only[↓M2,M2,Mb,reduceIte]
    exact ae (.inl H)
   | some c=>
    obtain ⟨a5,bb,_⟩:=U3 H
    refine Eb a4 aq H ?_
    simp only[↓M2,M2,Mb,reduceIte]
    refine De X7 ag t (I 1) fun w4 bz cf=>?_
    have ad:Kpt (fun k=>k=r) w3 w4:=Kpt.of_upd bz rfl
    have cd:X4 w4 σ3:=ad.sat a4 fun k o=>by rw[o];exact ag.1
    have bv:=Z.kp ad fun k o e=>J (e▸o)
    have b8:=ai _ _ _ a1 fun k o=>bz.block k (by have:=(hD k o).1;omega)
    have dh:r<w3.heap.size:=ag.lt
    refine Xt cd aq H fun lv fv mv w5 σ5 bf f1 f2 f3 f4 f5 bq=>?_
    refine Y6 bf.sat (by rfl) rfl (Rep.one bq) fun q w6 M W ar=>?_
    refine Y7 W.sat ar rfl ?_
    have z:=bf.trans W
    have bn: ∀k,D k→k<w4.heap.size:=fun k o=>by
     have X:=(hD k o).1
     have h2:=A.kp.size
     have h3:=ad.size
     omega
    have b9:=ai _ _ _ b8 fun k o=>z.bel.block k (bn k o)
    have a7:SLe σ M:=A.le.more ⟨z.le⟩
    have bs: ∀k,D k→M k=none:=fun k o=>by
     rw[z.old k (bn k o),A.old k (hD k o).1];exact (hD k o).2
    refine hf s c _ w6 M _ a7 W.sat bs b9 (RCl_lift bq ⟨W.le⟩) (by rw[a5];exact H) fun w7 aj bc=>?_
    have bo:X4 w7 M:=aj.sat W.sat bs
    have an:Nxt D w σ w7 M:=⟨((A.kp.more ad fun j e=>by rw[e];exact bj).trans (Kpt.of_below z.bel)).trans aj,a7,fun k o=>by
     rw[z.old k (by have:=A.kp.size;have:=ad.size;omega)];exact A.old k o,bo⟩
    have ap: ∀k,w.heap.size≤k→ ¬D k:=fun k o e=>by have:=(hD k e).1;omega
    have V:=(bv.up z).kp aj fun k o=>ap k ((bv.mem o).1)
    have b1:=(cf.up z).kp aj (ap r bj)
    have bx: ∀k,(L9 (Qu m t (I 1)) k).isSome=decide (k∈b++[t]):=fun k=>by
     rw[Q39]
     by_cases e:t=k
     ·subst e;simp
     ·rw[if_neg e,N k];simp[Ne.symm e]
    rw[H] at p
    simp only[if_neg ak] at p
    obtain ⟨bl,a0⟩:=Q00 (lk l) (g.length+weigh l b) (g++J5 c) (b++[t])
    have bg:az=t::bl:=by
     have:=B.symm.trans (p.trans a0)
     simpa using this
    rw[bg] at y
    simp only[List.filterMap_cons,H,Z9] at y
    cases E:(L s c).1 with
    | true=>
     rw[E] at y
     simp only[if_true] at y
     refine V9 ?_
     have:=h w7 M an
     rw[y] at this
     exact this bc
    | false=>
     rw[E] at y
     simp only[Bool.false_eq_true,if_false] at y
     refine V7 ?_
     have ao:w.heap.size≤w7.heap.size:=an.kp.size
     have af: ∀k,x'.ownBlock=some k→M k=none:=fun k o=>(V.mem o).2.2
     have hw:=Fq l b c bb (by rw[a5];exact ak)
     rw[a5] at hw
     have db:=bk b
     have b5:g.length≤100001000001:=by omega
     have cm:=(bd c bb).1
     have cu:=b1.lt
     refine Q09 (Sy w.heap.size T.b 1 Y0 M x' g c.super) (fun w1=>Kpt (fun k=>x'.ownBlock=some k) w7 w1∧X4 w1 M∧U2 w.heap.size T.b 1 Y0 M w1 x' g)
      ⟨.of_below (Below.refl _ _).drew,bo.below (Below.refl _ _).drew,V.below (Below.refl _ _).drew⟩ (fun w1 w2 E ht=>⟨E.1.trans ht.1,ht.1.sat E.2.1 af,ht.2.1 E.2.2⟩) ?_
     refine X2 (.pointer (some (q.add 1))) (fun w E=>by rw[fa];exact ⟨Sy.refl,rfl⟩) ?_
     refine X2 (.pointer (some (q.add 2))) (fun w E=>by rw[fa];exact ⟨Sy.refl,rfl⟩) ?_
     refine X2 (S c.super) (fun t w E e=>by rw[e];exact ld E.2.1 ar rfl ⟨Sy.refl,rfl⟩) ?_
     refine W7 (fun u w1=> ∃σ',Nxt (fun k=>x'.ownBlock=some k) w7 M w1 σ'∧Sl 1 Y0 σ' u [c.super]) (fun u w1 w2 e ht=>by obtain ⟨σ',X,h2⟩:=e;exact ⟨σ',X.kpt ht.1 (fun _ o=>o) (fun k o=>(X.old k (V.mem o).2.1).trans (af k o)),h2⟩) (fun t w1 E e=>?_) ?_
     ·rw[e]
      refine D6 (R:=Y0) (sz:=1) E.2.1 [S c.super] [c.super] rfl rfl (by simp;rfl) rfl ⟨⟨rfl,f5⟩,trivial⟩ fun u w2 σ2 ac hu=>?_
      have b4:Nxt (fun k=>x'.ownBlock=some k) w7 M w1 M:=⟨E.1,SLe.refl _,fun _ _=>rfl,E.2.1⟩
      exact ⟨Sy.below ac.bel,σ2,b4.trans (Nxt.of_stp ac),hu⟩
     refine W7 (VQa w7.heap.size w.heap.size T.b 1 Y0 M x' g c.super) (fun _ _ _ X ht=>X.stable ht) (fun u w1 E e=>?_) ?_
     ·obtain ⟨σ',X,h2⟩:=e
      exact X1W V ao E.2.2 X h2 rfl (by omega) (by omega)
     refine X2 lv (fun t w E e=>by rw[e];exact ld E.2.1 ar rfl ⟨Sy.refl,rfl⟩) ?_
     rintro dc dn de c2 cj c3 w8 O _ _ _ _ ⟨ck,bi⟩ rfl
     have a2:cj.ownBlock≠some r:=by
      rcases bi with ⟨a,ca,e1,e2⟩ | ⟨e1,_⟩
      ·rw[e2];rw[e1] at J;cases a<;>exact J
      ·intro e;have:=e1 r e;omega
     refine Q1M O.2.1 (Nat.le_trans ao O.1.size) ck (f1.up W) rfl (by rw[List.length_append,List.length_cons,List.length_nil];omega) (by rw[List.length_append,List.length_cons,List.length_nil];omega) fun bw w9 aw cr cc bh=>?_
     have b6:bw.ownBlock≠some r:=by
      rcases bh with ⟨a,ca,e1,e2⟩ | ⟨_,e1⟩
      ·rw[e2];rw[e1] at a2;cases a<;>exact a2
      ·intro e;have:=e1 r e;have:=O.1.size;omega
     have ce:Nxt D w σ w9 M:=⟨(an.kp.more O.1 fun j e=>(V.mem e).1).more aw fun j e=>e.2.1,a7,an.old,cr⟩
     have co:=(b1.kp O.1 J).kp aw fun e=>a2 e.1
     have cb:=ai _ w7 w9 bc fun k o=>by
      have X:=(hD k o).1
      rw[aw.block k (by have:=O.1.size;omega) fun e=>by have:=e.2.1;omega,O.1.block k (by omega) fun e=>by have:=(V.mem e).1;omega]
     have c9:(g++J5 c).length=g.length+1+c.like.length:=by simp[J5];omega
     have ct:(J5 c).length=c.like.length+1:=rfl
     have a3:Zz (lk l) (g.length+weigh l b) (g++J5 c) (b++[t])=Zz (lk l) ((g++J5 c).length+weigh l (b++[t])) (g++J5 c) (b++[t]):=by
      have:=Q97 l ((g++J5 c).length+weigh l (b++[t])) (g++J5 c) (b++[t]) (Nat.le_refl _) (g.length+weigh l b-((g++J5 c).length+weigh l (b++[t])))
      rw[←this];congr 1;omega
     refine b0 ((g++J5 c).length+weigh l (b++[t])) bw w9 (by omega) ⟨g++J5 c,b++[t],(L s c).2,M,_,rfl,by omega,ce,?_,co,bx,b6,cb,p.trans a3,i+1,?_⟩
     ·have:g++J5 c=(g++[c.super])++c.like:=by simp[J5]
      rw[this];exact cc
     ·rw[y,B,bg];simp)
end Go.Proofs.YtfppjenblllfaaaGreatDoor

namespace Go.Emb
open Go.RowKit Go.Hm
theorem Nxt.stp {w w':World} {σ a:Q4} (h:Nxt (fun _=>False) w σ w' a):Stp w σ w' a:=⟨h.kp.below fun _=>id,h.sat,h.le.le,h.old⟩
end Go.Emb
namespace Go.Hm
open Go.Kd Go.Emb
theorem Q33 {α:Type} (p:α→Bool): ∀(xs:List α) (i:Nat),(Z9 (fun (_:Unit) x=>(p x,())) () xs i).1.isSome=xs.any p
 | [],_=>rfl
 | x::r,i=>by
  simp only[Z9,List.any_cons]
  cases p x with
  | true=>simp
  | false=>simpa using Q33 p r (i+1)
theorem Q4E {l:List Cla} (n b:X0):((Vp l n).any fun c=>decide (c.name=b))=(R3 l n).contains b:=by
 have key: ∀vs:List X0,(∀x∈vs,∃c,lk l x=some c)→((vs.filterMap (lk l)).any fun c=>decide (c.name=b))=vs.contains b:=by
  intro vs
  induction vs with
  | nil=>intro _;rfl
  | cons x r d=>
   intro h
   obtain ⟨c,a⟩:=h x (by simp)
   rw[List.filterMap_cons,a]
   simp only[List.any_cons,List.contains_cons]
   rw[d fun y f=>h y (by simp[f]),(U3 a).1]
   congr 1
   rw[Bool.eq_iff_iff,beq_iff_eq,decide_eq_true_eq];exact ⟨Eq.symm,Eq.symm⟩
 exact key _ fun x e=>(Zu.1 e).right
end Go.Hm
namespace Go.Proofs.YtfppjenblllfaaaGreatDoor
open Go.Emb Go.RowKit Go.Kd Go.Hm
variable {w : World} {K : Value → World → Prop} {σ : Q4} {v : Value} {l : List Cla}
theorem Q69 {n:X0} {f:Value} (p:Cla→Bool) (hs:X4 w σ) (ht:Tab σ v l) (hl:l.length≤100000) (hsm: ∀c∈l,P7 c) (hn:n.length≤J3)
 (hf: ∀c cs (w1:World) (σ1:Q4) (K:Value→World→Prop),SLe σ σ1→X4 w1 σ1→U5 σ1 c cs→(∀w' σ',Stp w1 σ1 w' σ'→K (.bool (p c)) w')→Z0 P f [.agg cs.toArray] w1 K)
 (h: ∀w' σ',Stp w σ w' σ'→K (.bool ((Vp l n).any p)) w'):Q0 P F.u [v,S n,f] w K:=by
 refine Q6f (fun (_:Unit) c=>(p c,())) () (fun _ _=>True) (fun _=>False) hs ht hl hsm hn (fun _ e=>e.elim) (fun _ _ _ _ _=>trivial) trivial (fun s c cs w1 σ1 K le hs1 _ _ hr _ hK=>hf c cs w1 σ1 K le hs1 hr fun w' σ' hk=>hK w' (.of_below hk.bel) trivial) fun w' σ' hn _=>?_
 rw[Q33]
 exact h w' σ' hn.stp
theorem Q9G {n b:X0} {q:Addr} (hs:X4 w σ) (ht:Tab σ v l) (ok:Ok l) (hn:n.length≤J3) (hq:Z2 σ q [S b]) (h: ∀w' σ',Stp w σ w' σ'→K (.bool ((R3 l n).contains b)) w'):
 Q0 P F.u [v,S n, .func (.func F.bd) #[] #[.pointer (some q)]] w K:=by
 refine Q69 (fun c=>decide (c.name=b)) hs ht ok.len ok.sm hn (fun c cs w1 σ1 K le hs1 hr hK=>Y8 (Gk ?_)) (by rw[Q4E];exact h)
 obtain ⟨lv,fv,mv,rfl,_⟩:=hr
 unfold Wx
 have hq1:=hq.lift le
 refine Y9 hs1 fun a w2 σ2 hk2 ha2=>?_
 (repeat' (first | (with_reducible intro _) | (with_reducible refine V6 ?_) | (simp only[↓M2,M2,Mb,reduceIte]) | (with_reducible first | refine ld aS aL aR ?_ | refine X8 aS aL aR ?_ | refine Y7 aS aL aR ?_ | refine Q8 aL ?_ | refine V0 aR ?_ | refine Y9 aS ?_ | refine L1 aS aL ?_ | refine J6 aS aR ?_ | refine Y6 aS aR aR (Rep.one (by assumption)) ?_ | refine U0 aS aR aR aR ?_ | (refine Z4 (fun hh=>?_) (fun hh=>?_)<;>(try simp only[hh,Bool.not_true,Bool.not_false,↓M2,M2,Mb,reduceIte])) | (refine Q5 (fun hh=>?_) (fun hh=>?_)<;>(try simp only[hh,Bool.not_true,Bool.not_false,↓M2,M2,Mb,reduceIte])))))
 exact hK _ _ hk2
theorem Q3D {a b:X0} (H:X4 w σ) (r:Tab σ v l) (ok:Ok l) (s:a.length≤J3) (E:b.length≤J3) (h: ∀w' D,Stp w σ w' D→K (.bool (E4 l a b)) w'):Q0 P F.aa [v,S a,S b] w K:=Ab (by
 unfold Nu
 unfold E4 at h
 refine J6 H rfl fun q w1 σ1 i z=>?_
 refine Ek i.sat (r.lift ⟨i.le⟩) s fun O L e=>?_
 have j:=i.trans e
 cases y:M0 l a with
 | false=>
  simp only[y,↓M2,M2,Mb,reduceIte,Bool.not_false,Bool.true_or,if_true] at h⊢
  exact h _ _ j
 | true=>
  simp only[y,↓M2,M2,Mb,reduceIte,Bool.not_true,Bool.false_or] at h⊢
  refine X8 e.sat (z.up e) rfl ?_
  refine Ek e.sat (r.lift ⟨j.le⟩) E fun M U d=>?_
  have c:=j.trans d
  cases B:M0 l b with
  | false=>
   simp only[B,↓M2,M2,Mb,reduceIte,Bool.not_false,if_true] at h⊢
   exact h _ _ c
  | true=>
   simp only[B,↓M2,M2,Mb,reduceIte,Bool.not_true,Bool.false_eq_true,if_false] at h⊢
   have k:=(z.up e).up d
   refine X8 d.sat k rfl ?_
   refine Ng ?_
   by_cases f:a=b
   ·rw[if_pos f] at h
    simp only[decide_eq_true f,↓M2,M2,Mb,reduceIte]
    exact h _ _ c
   rw[if_neg f] at h
   simp only[decide_eq_false f,↓M2,M2,Mb,reduceIte]
   refine Up a ?_
   cases C:plain a with
   | true=>
    simp only[C,↓M2,M2,Mb,reduceIte,Bool.true_or,if_true] at h⊢
    exact h _ _ c
   | false=>
    simp only[C,↓M2,M2,Mb,reduceIte,Bool.false_or] at h⊢
    refine X8 d.sat k rfl ?_
    refine Up b ?_
    cases A:plain b with
    | true=>
     simp only[A,↓M2,M2,Mb,reduceIte,if_true] at h⊢
     exact h _ _ c
    | false=>
     simp only[A,↓M2,M2,Mb,reduceIte,Bool.false_eq_true,if_false] at h⊢
     by_cases p:a=C2
     ·rw[if_pos p] at h
      have u:decide (a=[110,117,108,108])=true:=decide_eq_true p
      simp only[u,↓M2,M2,Mb,reduceIte]
      exact h _ _ c
     rw[if_neg p] at h
     have u:decide (a=[110,117,108,108])=false:=decide_eq_false p
     simp only[u,↓M2,M2,Mb,reduceIte]
     refine X1j a (Nat.le_trans s (by decide)) (W2 d.sat fun N Q g=>?_)
     have m:=c.trans g
     have n:=k.up g
     refine Ui ?_
     by_cases o:elem a=[]
     ·rw[if_neg (by simpa using o)] at h
      simp only[decide_eq_true o,↓M2,M2,Mb,reduceIte]
      exact Q9G g.sat (r.lift ⟨m.le⟩) ok s n fun J R t=>h _ _ (m.trans t)
     ·rw[if_pos o] at h
      simp only[decide_eq_false o,↓M2,M2,Mb,reduceIte]
      refine X8 g.sat n rfl ?_
      refine Ng ?_
      exact h _ _ m)
theorem Q7I {a b:X0} (X:X4 w σ) (p:Tab σ v l) (ok:Ok l) (y:a.length≤J3) (z:b.length≤J3) (h: ∀w' A,Stp w σ w' A→K (S (R7 l a b)) w'):Q0 P F.aE [v,S a,S b] w K:=Kg (by
 unfold Mf
 unfold R7 at h
 refine Q3D X p ok y z fun w1 σ1 g=>?_
 cases M:E4 l a b with
 | true=>
  simp only[M,↓M2,M2,Mb,reduceIte,if_true] at h⊢
  exact h _ _ g
 | false=>
  simp only[M,↓M2,M2,Mb,reduceIte,Bool.false_eq_true,if_false] at h⊢
  refine Q3D g.sat (p.lift ⟨g.le⟩) ok z y fun w2 σ2 t=>?_
  have o:=g.trans t
  cases R:E4 l b a with
  | true=>
   simp only[R,↓M2,M2,Mb,reduceIte,if_true] at h⊢
   exact h _ _ o
  | false=>
   simp only[R,↓M2,M2,Mb,reduceIte,Bool.false_eq_true,if_false] at h⊢
   refine Ek t.sat (p.lift ⟨o.le⟩) y fun w3 σ3 r=>?_
   have n:=o.trans r
   cases U:M0 l a with
   | false=>
    simp only[U,↓M2,M2,Mb,reduceIte,Bool.not_false,Bool.true_or,if_true] at h⊢
    exact h _ _ n
   | true=>
    simp only[U,↓M2,M2,Mb,reduceIte,Bool.not_true,Bool.false_or] at h⊢
    refine Ek r.sat (p.lift ⟨n.le⟩) z fun w4 Y D=>?_
    have k:=n.trans D
    cases N:M0 l b with
    | false=>
     simp only[N,↓M2,M2,Mb,reduceIte,Bool.not_false,Bool.true_or,if_true] at h⊢
     exact h _ _ k
    | true=>
     simp only[N,↓M2,M2,Mb,reduceIte,Bool.not_true,Bool.false_or] at h⊢
     refine Up a ?_
     cases O:plain a with
     | true=>
      simp only[O,↓M2,M2,Mb,reduceIte,Bool.true_or,if_true] at h⊢
      exact h _ _ k
     | false=>
      simp only[O,↓M2,M2,Mb,reduceIte,Bool.false_or] at h⊢
      refine Up b ?_
      cases Q:plain b with
      | true=>
       simp only[Q,↓M2,M2,Mb,reduceIte,if_true] at h⊢
       exact h _ _ k
      | false=>
       simp only[Q,↓M2,M2,Mb,reduceIte,Bool.false_eq_true,if_false] at h⊢
       refine Ba (fun d x w'=> ∃(s:X0) (A:Q4),x=S s∧s.length≤J3∧Stp w σ w' A∧d=(chain l s).length∧(chain l a).find? (fun c=>E4 l b c.name)=(chain l s).find? fun c=>E4 l b c.name) _ ⟨a,Y,rfl,y,k,rfl,rfl⟩ ?_
       rintro B d x dd w5 ⟨s,σ5,rfl,C,f,rfl,e⟩ H
       have m:=p.lift ⟨f.le⟩
       cases q:lk l s with
       | none=>
        refine Al f.sat m q ?_
        refine V7 ?_
        rw[I7 q] at e
        rw[e] at h
        exact h _ _ f
       | some c=>
        have u:=(U3 q).1
        have i:=F4 ok.acy s
        rw[q] at i
        simp only at i
        rw[i,List.find?_cons,u] at e
        refine Eb f.sat m q ?_
        refine V9 ?_
        refine Q3D f.sat m ok z C fun w6 Z E=>?_
        have j:=f.trans E
        cases L:E4 l b s with
        | true=>
         rw[L] at e
         simp only at e
         refine V9 ?_
         rw[e] at h
         have:=h _ _ j
         simp only[u] at this
         exact this
        | false=>
         rw[L] at e
         simp only at e
         refine V7 ?_
         refine Xt j.sat (p.lift ⟨j.le⟩) q fun lv fv mv w7 V J f1 f2 f3 f4 W hr=>?_
         refine V0 (v:=S c.super) rfl ?_
         exact H _ _ _ (by rw[i];simp) ⟨c.super,V,rfl,W,j.trans J,rfl,e⟩)
theorem X0R {c:Cla} {cs:List Value} (hs:X4 w σ) (ht:Tab σ v l) (hl:l.length≤100000) (hsm: ∀c∈l,P7 c) (hc:U5 σ c cs) (h: ∀w' σ',Stp w σ w' σ'→K (.bool (F8 l c)) w'):Q0 P F.b4 [v, .agg cs.toArray] w K:=Bb (by
 obtain ⟨lv,fv,mv,rfl,g1,g2,g3,g4,g5⟩:=hc
 unfold Wu
 obtain ⟨a,_,_,_,rfl,_⟩:=ht.ex
 refine J6 hs rfl fun q w1 σ1 hk1 hq=>?_
 refine Y9 hk1.sat fun q2 w2 σ2 hk2 hq2=>?_
 rw[Qf,fa]
 have hS2:=hk1.trans hk2
 have back: ∀{n:X0} {w3:World} {σ3:Q4} {K:Value→World→Prop},SLe σ2 σ3→X4 w3 σ3→n.length≤J3→(∀w' σ',Stp w3 σ3 w' σ'→K (.bool ((R3 l n).contains c.name)) w')→
  Z0 P (.func (.func F.aT) #[] #[.pointer (some q), .pointer (some q2)]) [S n] w3 K:=by
  intro n w3 σ3 K le hs3 hn hK
  refine Y8 (Sg ?_)
  unfold Ua
  refine X8 hs3 ((hq.up hk2).lift le) rfl ?_
  rw[Qf]
  have le3:SLe σ σ3:=SLe.more ⟨hS2.le⟩ le
  refine Q69 (fun d=>decide (d.name=c.name)) hs3 (ht.lift le3) hl hsm hn (fun d ds w4 σ4 K le4 hs4 hr hK=>Y8 (Dy ?_)) (by rw[Q4E];exact hK)
  obtain ⟨lv,fv,mv,rfl,_⟩:=hr
  unfold Zi
  have hq4:=(hq2.lift le).lift le4
  refine Y9 hs4 fun a w5 σ5 hk5 ha5=>?_
  (repeat' (first | (with_reducible intro _) | (with_reducible refine V6 ?_) | (simp only[↓M2,M2,Mb,reduceIte]) | (with_reducible first | refine ld aS aL aR ?_ | refine X8 aS aL aR ?_ | refine Y7 aS aL aR ?_ | refine Q8 aL ?_ | refine V0 aR ?_ | refine Y9 aS ?_ | refine L1 aS aL ?_ | refine J6 aS aR ?_ | refine Y6 aS aR aR (Rep.one (by assumption)) ?_ | refine U0 aS aR aR aR ?_ | (refine Z4 (fun hh=>?_) (fun hh=>?_)<;>(try simp only[hh,Bool.not_true,Bool.not_false,↓M2,M2,Mb,reduceIte])) | (refine Q5 (fun hh=>?_) (fun hh=>?_)<;>(try simp only[hh,Bool.not_true,Bool.not_false,↓M2,M2,Mb,reduceIte])))))
  exact hK _ _ hk5
 refine ld hk2.sat hq2 rfl ?_
 unfold F8 at h
 simp only[J5,List.any_cons] at h
 refine back (SLe.refl _) hk2.sat g5 fun w3 σ3 hk3=>?_
 cases e1:(R3 l c.super).contains c.name with
 | true=>
  rw[e1] at h
  simp only[↓M2,M2,Mb,reduceIte]
  exact h _ _ (hS2.trans hk3)
 | false=>
  rw[e1,Bool.false_or] at h
  simp only[↓M2,M2,Mb,reduceIte]
  refine ld hk3.sat (hq2.up hk3) rfl ?_
  refine B9 (fun n=>(R3 l n).contains c.name) hk3.sat (((g1.up hk1).up hk2).up hk3) (fun x w4 K _ hs4 hx hK=>back ⟨hk3.le⟩ hs4 hx fun w' σ' hk=>hK _ hk.bel) fun w4 hb=>?_
  (try simp only[↓M2,M2,Mb,reduceIte])
  exact h _ _ ((hS2.trans hk3).trans (Stp.of_below hk3.sat hb)))
end Go.Proofs.YtfppjenblllfaaaGreatDoor

namespace Go.Emb
open Go.RowKit Go.Hm
variable {P : Program} {w w0 w1 w' w'' : World} {K : Value → World → Prop} {σ σ0 σ1 σ' : Q4}
theorem Sl.at {α:Type} {R:Q4→α→List Value→Prop} {sz:Nat} {v:Value} {xs:List α} (h:Sl sz R σ v xs) {i:Nat} (j:i<xs.length):
 ∃p cs,Z2 σ p cs∧cs.length=sz∧R σ xs[i] cs∧ ∀{P:Program} {t e:TypeId} {by_:Nat} {z:Value} {w:World} {K:Value→World→Prop} [TS P t e] [TZ P e sz by_ z],K (.pointer (some p)) w→indexAddr P t v (I i) w K:=by
 obtain ⟨a,g,rfl,o,q,f,n⟩:=h
 cases a with
 | none=>have:=f rfl;omega
 | some b=>
  obtain ⟨cs,k,c,d⟩:=(n b rfl).2 i xs[i] (by simp[j])
  refine ⟨_,cs,k,c,d,?_⟩
  intro P t e by_ z w K _ _ m
  rw[Cd (by omega) (by omega)]
  simpa using m
abbrev ints (xs:List Nat):List Int:=xs.map fun n:Nat=>(n:Int)
theorem V5.grow {α:Type} {R:Q4→α→List Value→Prop} [hr:Rep R] {B sz:Nat} {e:TypeId} {v:Value} {xs:List α} (h:V5 B e sz R σ w v xs) (a:SLe σ σ') (f: ∀k,v.ownBlock=some k→σ' k=none):V5 B e sz R σ' w v xs:=by
 obtain ⟨cells,c,g,d⟩:=h
 exact ⟨cells,c,f,fun i x b=>hr.up a.le (d i x b)⟩
end Go.Emb
namespace Go.Proofs.YtfppjenblllfaaaGreatDoor
open Go.Emb Go.RowKit Go.Kd Go.Hm
variable {w : World} {K : Value → World → Prop} {σ : Q4} {v : Value} {l : List Cla}
theorem Q5v {B i:Nat} {xs:List Nat} {x:Value} (m:U2 B T.e 1 Uo σ w x (ints xs)) (h:K (.bool (decide (i∈xs))) w):Q0 P F.az [x,I i] w K:=Ob (by
 unfold Qo
 have g:xs.length≤9223372036854775807:=by
  obtain ⟨a,r,_,o,p,_⟩:=m
  simp only[maxLen,ints,List.length_map] at p o;omega
 refine Em ?_
 unfold Yx
 refine Gf m ?_
 have j:(ints xs).length=xs.length:=by simp
 refine Z8 xs.length (fun n w'=>w'=w∧i∉xs.take n) ⟨rfl,by simp⟩ fun n w' d u k=>?_
 obtain ⟨rfl,k⟩:=k
 rw[j]
 refine Z1 ?_
 refine Q5 (fun hh=>?_) (fun hh=>?_)
 ·have b:n<xs.length:=by simpa using hh
  refine Q3X m (by rw[j];exact b) fun a cs o p t=>?_
  obtain ⟨rfl,_⟩:=t
  have q:=o 0 _ rfl
  rw[add_zero] at q
  refine Qg q ?_
  simp only[List.getElem_map]
  refine Ll ?_
  refine Q5 (fun c=>?_) (fun c=>?_)
  ·have e:(i:Int)=xs[n]:=by simpa using c
   have:i=xs[n]:=by omega
   have f:decide (i∈xs)=true:=decide_eq_true (by rw[this];exact List.getElem_mem b)
   rw[f] at h
   refine Zm ?_
   rw[decide_eq_true (by omega:(0:Int)≤n)]
   exact h
  ·have e: ¬(i:Int)=xs[n]:=by simpa using c
   refine D5 ?_
   refine Y2 g b ⟨rfl,?_⟩
   rw[List.take_add_one,List.getElem?_eq_getElem b]
   simp only[Option.toList_some,List.mem_append,List.mem_singleton,not_or]
   exact ⟨k,fun s=>e (by rw[s])⟩
 ·have b: ¬n<xs.length:=by simpa using hh
  rw[List.take_of_length_le (by omega)] at k
  rw[decide_eq_false k] at h
  refine Zm ?_
  exact h)
theorem X1Q {w0:World} {σ0 σb:Q4} {pf pt pw:Addr} {E frm:Nat} (ha:Yg l) (ho:G2 l) (hl:l.length≤100000) (bm: ∀c∈l,P7 c) (hf:0<frm) (ht:Tab σb v l) (aw:Z2 σb pf [I frm]) (bu:Z2 σb pt [v])
 (b0:Z2 σb pw [.func (.func F.v) #[] #[.pointer (some pf), .pointer (some ⟨E,0,none⟩), .pointer (some pt), .pointer (some pw)]]) (bw:w0.heap.size≤E):
 ∀(k:Nat) {i:Nat} {b:List Nat} {x:Value} {w1:World} {σ1:Q4} {K:Value→World→Prop},i<l.length→(i<frm∨F2 l (Y1 l i)<k)→SLe σb σ1→Stp w0 σ0 w1 σ1→Z5 σ1 w1 E [x]→V5 w0.heap.size T.e 1 Uo σ1 w1 x (ints b)→x.ownBlock≠some E→Pf l b→
  (∀w2 σ2 x',SLe σ1 σ2→Stp w0 σ0 w2 σ2→Z5 σ2 w2 E [x']→V5 w0.heap.size T.e 1 Uo σ2 w2 x' (ints (Qa l frm b i))→x'.ownBlock≠some E→K (.tuple #[]) w2)→
  Z0 P (.func (.func F.v) #[] #[.pointer (some pf), .pointer (some ⟨E,0,none⟩), .pointer (some pt), .pointer (some pw)]) [I i] w1 K:=by
 obtain ⟨a,lv,r,m,rfl,t1,t2,t3,t4⟩:=ht.ex
 intro k
 induction k with
 | zero=>
  intro i b x w1 σ1 K hi hk O V hm o hx aa h
  have A:i<frm:=hk.resolve_right (by omega)
  refine Y8 (Ud ?_)
  unfold P1
  refine X8 V.sat (aw.lift O) rfl ?_
  refine Z1 ?_
  rw[decide_eq_true (by omega:(i:Int)<frm)]
  simp only[↓M2,M2,Mb,reduceIte]
  have:Qa l frm b i=b:=Xa _ _ A
  rw[this] at h
  exact h _ _ _ (SLe.refl _) V hm o hx
 | succ k ih=>
  intro i b x w1 σ1 K hi hk O V hm o hx aa h
  refine Y8 (Ud ?_)
  unfold P1
  refine X8 V.sat (aw.lift O) rfl ?_
  refine Z1 ?_
  have z:=Q6r ha ho hf b hi
  by_cases A:i<frm
  ·rw[decide_eq_true (by omega:(i:Int)<frm)]
   simp only[↓M2,M2,Mb,reduceIte]
   rw[if_pos A] at z
   rw[z] at h
   exact h _ _ _ (SLe.refl _) V hm o hx
  rw[if_neg A] at z
  rw[decide_eq_false (by omega: ¬(i:Int)<frm)]
  simp only[↓M2,M2,Mb,reduceIte]
  refine Q9k hm rfl ?_
  refine Q5v (U2.of_acc o) ?_
  by_cases W:i∈b
  ·rw[if_pos W] at z
   rw[z] at h
   simp only[decide_eq_true W,↓M2,M2,Mb,reduceIte]
   exact h _ _ _ (SLe.refl _) V hm o hx
  rw[if_neg W] at z
  simp only[decide_eq_false W,↓M2,M2,Mb,reduceIte]
  have dl:F2 l (Y1 l i)<k+1:=hk.resolve_left A
  have t1:=t1.lift O
  have t2:=t2.lift O
  have t3:=t3.lift O
  have J:=bu.lift O
  obtain ⟨p,cs,a6,cy,b9,ay⟩:=t2.at hi
  obtain ⟨b3,fv,mv,rfl,f1,f2,f3,f4,f5⟩:=b9
  have a3:l.getD i Cla.zero=l[i]:=by rw[List.getD_eq_getElem?_getD,List.getElem?_eq_getElem hi];rfl
  have cn:=hm.lt
  refine V2 V.sat ?_
  refine X2 (.pointer (some a)) (fun w f=>X8 f.sat J rfl (X5 rfl)) ?_
  refine X2 (.pointer (some a)) (fun t w f e=>by rw[e,E6];exact X5 rfl) ?_
  refine X2 (.pointer (some (a.add 0))) (fun t w f e=>by rw[e,fa];exact X5 rfl) ?_
  refine X2 lv (fun t w f e=>by rw[e];exact ld f.sat t1 rfl (X5 rfl)) ?_
  refine X2 (.pointer (some p)) (fun t w f e=>by rw[e];exact ay (X5 rfl)) ?_
  refine X2 (.pointer (some (p.add 1))) (fun t w f e=>by rw[e,fa];exact X5 rfl) ?_
  refine X2 (S l[i].super) (fun t w f e=>by rw[e];exact ld f.sat a6 rfl (X5 rfl)) ?_
  refine W7 (fun u w=>X4 w σ1∧V5 w0.heap.size T.b 1 Y0 σ1 w u [l[i].super]∧ ∀k,u.ownBlock=some k→w1.heap.size≤k) (fun u w2 w3 h f=>⟨h.1.below f,h.2.1.up (Stp.of_below h.1 f),h.2.2⟩) (fun t w f e=>?_) ?_
  ·rw[e]
   refine Qh (R:=Y0) (sz:=1) (xs:=[l[i].super]) (V.trans f.stp) [S l[i].super] rfl rfl (by simp;rfl) rfl ⟨⟨rfl,f5⟩,trivial⟩ fun u w2 a4 hu b7=>?_
   exact ⟨a4.bel,a4.sat,hu,fun k hk=>Nat.le_trans f.stp.bel.size (b7 k hk)⟩
  refine X2 (.pointer (some a)) (fun w f=>X8 f.sat J rfl (X5 rfl)) ?_
  refine X2 (.pointer (some a)) (fun t w f e=>by rw[e,E6];exact X5 rfl) ?_
  refine X2 (.pointer (some (a.add 0))) (fun t w f e=>by rw[e,fa];exact X5 rfl) ?_
  refine X2 lv (fun t w f e=>by rw[e];exact ld f.sat t1 rfl (X5 rfl)) ?_
  refine X2 (.pointer (some p)) (fun t w f e=>by rw[e];exact ay (X5 rfl)) ?_
  refine X2 (.pointer (some (p.add 2))) (fun t w f e=>by rw[e,fa];exact X5 rfl) ?_
  refine X2 b3 (fun t w f e=>by rw[e];exact ld f.sat a6 rfl (X5 rfl)) ?_
  rintro dn cz dm dh c1 c7 ct cp cm c6 da df c8 c9 cq w2 U _ _ _ _ _ _ _ ⟨dc,b8,N⟩ _ _ _ _ _ _ bi
  subst bi
  have bn:=V.trans U.stp
  have b2:=(bm _ (List.getElem_mem hi)).1
  have bd: ∀j,x.ownBlock=some j→j<w1.heap.size:=fun j B=>(o.mem j B).2.1
  have bx:=hm.step U.stp
  have ae:=o.step U.stp
  refine Ox bn b8 f1 rfl (by simp only[List.length_cons,List.length_nil];omega) (by simp only[List.length_cons,List.length_nil];omega) fun a5 w3 a0 cb bp a7=>?_
  have Z: ∀j,a5.ownBlock=some j→w1.heap.size≤j:=fun j B=>by
   rcases a7 with e | e
   ·exact N j (e▸B)
   ·exact Nat.le_trans U.stp.bel.size (e j B)
  have a9:=bx.nx a0 fun e=>by have:=N _ e;omega
  have H:=ae.nx a0 fun j B e=>by have:=N _ e;have:=bd j B;omega
  obtain ⟨σ4,bz,Q,aq,ab⟩:=bp.keep cb
  have Q:Sl 1 Y0 σ4 a5 (J5 l[i]):=Q
  have br:Z5 σ4 w3 E [x]:=⟨(ab E fun e=>by have:=Z E e.symm;omega).trans a9.1,a9.2⟩
  have ah:V5 w0.heap.size T.e 1 Uo σ4 w3 x (ints b):=H.grow ⟨aq⟩ fun j B=>(ab j fun e=>by have:=Z j e.symm;have:=bd j B;omega).trans (H.mem j B).2.2
  have ar:SLe σ1 σ4:=⟨aq⟩
  refine Q8 Q ?_
  refine Z8 (J5 l[i]).length (fun n w'=> ∃σ' x',SLe σ4 σ'∧Stp w0 σ0 w' σ'∧Z5 σ' w' E [x']∧V5 w0.heap.size T.e 1 Uo σ' w' x' (ints (((J5 l[i]).take n).foldl (fun b u=>Qa l frm b ((Y4 l u).getD 0)) b))∧x'.ownBlock≠some E∧Pf l (((J5 l[i]).take n).foldl (fun b u=>Qa l frm b ((Y4 l u).getD 0)) b))
   ⟨σ4,x,SLe.refl _,bz,br,ah,hx,aa⟩ fun n w5 d hn a2=>?_
  obtain ⟨σ5,x5,al,Y,X,C,af,s⟩:=a2
  refine Z1 ?_
  have y:=ar.more al
  refine Q5 (fun hh=>?_) (fun hh=>?_)
  ·have L:n<(J5 l[i]).length:=by simpa using hh
   refine Qe (Q.lift al) L fun q hq de=>?_
   refine X8 Y.sat hq rfl ?_
   have e1:((J5 l[i]).take (n+1)).foldl (fun b u=>Qa l frm b ((Y4 l u).getD 0)) b=Qa l frm (((J5 l[i]).take n).foldl (fun b u=>Qa l frm b ((Y4 l u).getD 0)) b) ((Y4 l (J5 l[i])[n]).getD 0):=by
    rw[List.take_add_one,List.getElem?_eq_getElem L,List.foldl_append];rfl
   refine V2 Y.sat ?_
   refine X2 _ (fun w f=>X8 f.sat (b0.lift (O.more y)) rfl (X5 rfl)) ?_
   refine X2 (.pointer (some a)) (fun w f=>X8 f.sat (J.lift y) rfl (X5 rfl)) ?_
   refine X2 (.pointer (some a)) (fun t w f e=>by rw[e,E6];exact X5 rfl) ?_
   refine X2 (.pointer (some (a.add 1))) (fun t w f e=>by rw[e,fa];exact X5 rfl) ?_
   refine X2 (.map (some r)) (fun t w f e=>by rw[e];exact ld f.sat (t1.lift y) rfl (X5 rfl)) ?_
   refine X2 (I ((Y4 l (J5 l[i])[n]).getD 0:Nat)) (fun t w f e=>by
    rw[e,Q3h X7 ((t3.lift y).is f.sat) _,t4]
    cases Y4 l (J5 l[i])[n]<;>exact X5 rfl) ?_
   rintro cj cw c2 c3 cr dd w6 ac rfl _ _ _ _ rfl
   have ck:l.length≤9223372036854775807:=by omega
   refine ih ?_ ?_ (O.more y) (Y.trans ac.stp) (X.step ac.stp) (C.step ac.stp) af s fun w7 σ7 x7 bj ca cc ag bv=>?_
   ·cases B:Y4 l (J5 l[i])[n] with
    | none=>simp only[Option.getD_none];omega
    | some j=>exact (R0 B).1
   ·cases B:Y4 l (J5 l[i])[n] with
    | none=>exact .inl hf
    | some j=>
     right
     have:=Ar ha ho hi (u:=(J5 l[i])[n]) (by rw[a3];exact List.getElem_mem L) B
     simp only[Option.getD_some];omega
   ·refine D5 ?_
    refine Y2 (by have:(J5 l[i]).length=l[i].like.length+1:=rfl;omega) L ⟨σ7,x7,al.more bj,ca,cc,?_,bv,?_⟩
    ·rw[e1];exact ag
    ·rw[e1]
     cases B:Y4 l (J5 l[i])[n] with
     | none=>simp only[Option.getD_none];rw[show Qa l frm _ 0=_ from Xa _ _ hf];exact s
     | some j=>exact Ge ha ho hf _ _ _ (R0 B).1 s
  ·have L: ¬n<(J5 l[i]).length:=by simpa using hh
   rw[List.take_of_length_le (by omega)] at C s
   rw[a3] at z
   refine Q9k X rfl ?_
   have c0:=s.len
   refine Jy (x:=(i:Int)) Y C ⟨rfl,by omega,by omega⟩ rfl rfl rfl (by rw[List.length_map];omega) (by rw[List.length_map];omega) fun u x8 w8 σ8 ba b1 M a1=>?_
   have az:=X.nx ba af
   have bc:x8.ownBlock≠some E:=fun e=>by
    rcases a1 with e2 | e2
    ·exact af (e2▸e)
    ·have:=e2 E e;have:=X.lt;omega
   have av:x8.cells= #[x8]∧x8.oneCell'=true:=by
    obtain ⟨cells,h1,_⟩:=M
    rcases h1.2 with ⟨rfl,_⟩ | ⟨g,cu,dj,rfl,_⟩<;>exact ⟨rfl,rfl⟩
   refine st0 az (by simp) av.1 av.2 fun w9 a8 b6=>?_
   have bg:=a8.stp b1 bw az.1
   have ad:V5 w0.heap.size T.e 1 Uo σ8 w9 x8 (ints (Qa l frm b i)):=by
    rw[z]
    have:=M.kp (Kpt.of_upd (D:=fun k=>k=E) a8 rfl) fun k hk e=>bc (e▸hk)
    simpa [ints] using this
   exact h w9 σ8 x8 (y.more ba.le) bg b6 ad bc
theorem X11 {frm:Nat} (hs:X4 w σ) (ht:Tab σ v l) (ha:Yg l) (ho:G2 l) (hl:l.length≤100000) (ab: ∀c∈l,P7 c) (hf:0<frm) (ao:frm≤l.length) (h: ∀v' w' σ',Stp w σ w' σ'→Sl 1 Uo σ' v' (ints (U6 l frm))→(U6 l frm).length≤l.length→(∀y∈U6 l frm,y<l.length)→K v' w'):Q0 P F.b5 [v,I frm] w K:=Bq (by
 unfold Wb
 have ak:=ht
 obtain ⟨a,lv,r,m,rfl,t1,t2,t3,t4⟩:=ht.ex
 refine J6 hs rfl fun pt w1 σ1 t af=>?_
 refine J6 t.sat rfl fun pf w2 σ2 k ad=>?_
 refine G8 k.sat fun E w3 σ3 ar j Q=>?_
 refine G8 j.sat fun bw w4 σ4 ap q O=>?_
 rw[Qf]
 have R:=Q.step q
 have a2:=Q.lt
 have W:=((t.trans k).trans j).trans q
 have L:w.heap.size≤E:=Yi ar (t.trans k)
 have z:w.heap.size≤bw:=Yi ap ((t.trans k).trans j)
 refine st0 O (by simp[Value.cells]) rfl rfl fun w5 M aj=>?_
 have aq:=M.stp W z O.1
 have u:=R.upd M (by omega)
 obtain ⟨H,N,J,n,V⟩:=aj.keep aq z
 have Z:Z5 H w5 E [.slice none 0 0]:=⟨(V E (by omega)).trans u.1,u.2⟩
 have n:SLe σ4 H:=⟨n⟩
 have A:=((ad.up j).up q).lift n
 have B:=(((af.up k).up j).up q).lift n
 have e:SLe σ H:=SLe.more ⟨W.le⟩ n
 have t1:=t1.lift e
 have t2:=t2.lift e
 refine X8 N.sat A rfl ?_
 have bc:(List.range l.length).length=l.length:=List.length_range
 have hz:([Value.nilFunc].set 0 (Value.func (Fn.func F.v) #[] #[.pointer (some pf), .pointer (some ⟨E,0,none⟩), .pointer (some pt), .pointer (some ⟨bw,0,none⟩)]))=[Value.func (Fn.func F.v) #[] #[.pointer (some pf), .pointer (some ⟨E,0,none⟩), .pointer (some pt), .pointer (some ⟨bw,0,none⟩)]]:=rfl
 refine Ba (fun d x w'=> ∃(i:Nat) (σ':Q4) (X:Value),x=I i∧frm≤i∧i≤l.length∧d=l.length-i∧SLe H σ'∧Stp w σ w' σ'∧Z5 σ' w' E [X]∧V5 w.heap.size T.e 1 Uo σ' w' X (ints (((List.range i).drop frm).foldl (fun f i=>Qa l frm f i) []))∧X.ownBlock≠some E∧Pf l (((List.range i).drop frm).foldl (fun f i=>Qa l frm f i) [])) _
  ⟨frm,H, .slice none 0 0,rfl,Nat.le_refl _,ao,rfl,SLe.refl _,N,Z,by rw[List.drop_eq_nil_of_le (by simp)];exact V5.nil,by simp[Value.ownBlock],by rw[List.drop_eq_nil_of_le (by simp)];exact ⟨by simp,by simp⟩⟩ ?_
 rintro ag d x dd w7 ⟨i,σ7,x7,rfl,a6,ba,rfl,g,p,U,o,an,b⟩ am
 refine X8 p.sat (B.lift g) rfl ?_
 rw[E6,fa]
 refine ld p.sat (t1.lift g) rfl ?_
 refine Q8 (t2.lift g) ?_
 refine Z1 ?_
 refine Q5 (fun hh=>?_) (fun hh=>?_)
 ·have s:i<l.length:=by simpa using hh
  refine X8 p.sat (J.lift g) rfl ?_
  refine X1Q (w0:=w) (σ0:=σ) (σb:=H) ha ho hl ab hf (ak.lift e) A B J L (F2 l (Y1 l i)+1) s (.inr (Nat.lt_succ_self _)) g p U o an b fun w8 σ8 x8 Y C ai D al=>?_
  refine Cw ⟨by omega,by omega⟩ ?_
  have e1:((List.range (i+1)).drop frm).foldl (fun f i=>Qa l frm f i) []=Qa l frm (((List.range i).drop frm).foldl (fun f i=>Qa l frm f i) []) i:=by
   rw[List.range_succ,List.drop_append_of_le_length (by simp;omega),List.foldl_append];rfl
  refine am _ _ _ (by omega:l.length-(i+1)<l.length-i) ⟨i+1,σ8,x8,by simp,by omega,by omega,rfl,g.more Y,C,ai,?_,al,?_⟩
  ·rw[e1];exact D
  ·rw[e1];exact Ge ha ho hf _ _ _ s b
 ·have s:i=l.length:=by
   have: ¬i<l.length:=by simpa using hh
   omega
  subst s
  refine Q9k U rfl ?_
  obtain ⟨σ8,C,ac,_,_⟩:=o.keep p
  exact h _ _ _ C ac b.len b.2)
end Go.Proofs.YtfppjenblllfaaaGreatDoor

namespace Go.Hm
open Go.Kd
theorem Q5i (x:X0) (r:List X0):N7 (x::r)=x++Lib.joinTail [44] r:=by
 induction r generalizing x with
 | nil=>simp[N7,Lib.joinTail]
 | cons y r a=>
  simp only[N7]
  rw[a y]
  simp[Lib.joinTail]
theorem Q0I (xs:List X0):Lib.join xs [44]=N7 xs:=by
 cases xs with
 | nil=>rfl
 | cons x r=>rw[Lib.join_cons,Q5i]
theorem Oz: ∀xs:List X0,(∀x∈xs,x.length≤100)→(N7 xs).length≤xs.length*101
 | [],_=>by simp[N7]
 | [a],h=>by have:=h a (by simp);simp[N7];omega
 | a::b::r,h=>by
  have d:=h a (by simp)
  have e:=Oz (b::r) fun x c=>h x (by simp[c])
  simp only[N7,List.length_append,List.length_cons,List.length_nil,Nat.add_mul] at*
  omega
def NmM (m:Hm.Met):Prop:=m.result.length≤100∧ ∀p∈m.params,p.length≤100
end Go.Hm
namespace Go.Proofs.YtfppjenblllfaaaGreatDoor
open Go.Emb Go.RowKit Go.Kd Go.Hm
variable {w : World} {K : Value → World → Prop} {σ : Q4} {v : Value} {l : List Cla}
theorem X0T {xs:List X0} {pv:Value} (D:X4 w σ) (M:Sl 1 Y0 σ pv xs) (H:xs.length≤1000000) (J: ∀x∈xs,x.length≤100) (h: ∀w',Below w.heap.size w w'→K (S (N7 xs)) w'):Q0 P F.cI [pv,S [44]] w K:=by
 obtain ⟨a,k,rfl,C,U,E,N⟩:=M
 have p:=Oz xs J
 have z:xs.length*101≤1000000*101:=Nat.mul_le_mul_right _ H
 cases a with
 | none=>
  have R:=E rfl
  have d:xs=[]:=List.eq_nil_of_length_eq_zero (by omega)
  subst d
  refine Um (fn:=Tryz.f165) Tryz.func165 (by kernel_rfl) (by kernel_rfl) (Calls.mono (Tryz.strings_Join_none none k ⟨[44].toArray⟩ w) ?_)
  rintro e w' ⟨rfl,rfl⟩
  exact h _ (Below.refl _ _)
 | some b=>
  obtain ⟨f,t⟩:=N b rfl
  by_cases d:xs=[]
  ·subst d
   refine Um (fn:=Tryz.f165) Tryz.func165 (by kernel_rfl) (by kernel_rfl) (Calls.mono (Tryz.strings_Join_none (some b) k ⟨[44].toArray⟩ w) ?_)
   rintro e w' ⟨rfl,rfl⟩
   exact h _ (Below.refl _ _)
  have f:=f (List.length_pos_iff.2 d)
  obtain ⟨m,o,Q⟩:=b
  simp only at f
  subst f
  have c: ∀(j:Nat) (x:ByteArray),(xs.map fun s=>(⟨s.toArray⟩:ByteArray))[j]? =some x→w.cell? ⟨m,o+j,none⟩=some (.string x):=by
   intro j x n
   rw[List.getElem?_map] at n
   cases g:xs[j]? with
   | none=>rw[g] at n;cases n
   | some s=>
    rw[g] at n
    cases n
    obtain ⟨cs,L,O,B⟩:=t j s g
    obtain ⟨rfl,_⟩:=B
    have:=L.cell D (i:=0) (v:=S s) rfl
    rw[add_zero] at this
    have e:(⟨m,o,none⟩:Addr).add (j*1)=⟨m,o+j,none⟩:=by unfold Addr.add;split<;>simp_all
    rw[e] at this;exact this
  have q:m<w.heap.size:=by
   obtain ⟨x,r,rfl⟩: ∃x r,xs=x::r:=by cases xs with | nil=>exact absurd rfl d | cons x r=>exact ⟨x,r,rfl⟩
   have:=c 0 ⟨x.toArray⟩ (by simp)
   exact World.block_lt_of_cell? _ _ this
  have u:(xs.map fun s=>(⟨s.toArray⟩:ByteArray)).map (·.data.toList)=xs:=by rw[List.map_map];simp[Function.comp_def]
  have y:=Tryz.strings_Join m o k (xs.map fun s=>(⟨s.toArray⟩:ByteArray)) ⟨[44].toArray⟩ w c q (by rw[List.length_map];omega) (by rw[List.length_map];exact C) (by rw[u];show (Lib.join xs [44]).length≤_;rw[Q0I];omega)
  rw[u,List.length_map] at y
  refine Um (fn:=Tryz.f165) Tryz.func165 (by kernel_rfl) (by kernel_rfl) (Calls.mono y ?_)
  rintro e w' ⟨rfl,A⟩
  have:=h w' A
  rw[←Q0I] at this
  exact this
theorem Q7O {m:Hm.Met} {cs:List Value} (p:X4 w σ) (q:M5 σ m cs) (d:SmM m) (i:NmM m) (h: ∀w' o,Stp w σ w' o→K (S (P4 m)) w'):Q0 P F.bQ [.agg cs.toArray] w K:=Q4m (by
 obtain ⟨pv,D,N,rfl,r,y,z,B,s,u⟩:=q
 unfold Pu
 refine Y9 p fun a w1 σ1 c j=>?_
 have n:=Oz m.params i.2
 have k:m.params.length*101≤1000000*101:=Nat.mul_le_mul_right _ d.1
 refine V2 c.sat ?_
 refine X2 (.pointer (some (a.add 1))) (fun w b=>by rw[fa];exact X5 rfl) ?_
 refine X2 (.pointer (some (a.add 2))) (fun w b=>by rw[fa];exact X5 rfl) ?_
 refine X2 pv (fun t w b e=>by rw[e];exact ld b.sat j rfl (X5 rfl)) ?_
 refine X2 (S (N7 m.params)) (fun t w b e=>by rw[e];exact X0T b.sat (r.up c) d.1 i.2 fun w' f=>Q1B f rfl) ?_
 refine X2 (S ([40]++N7 m.params)) (fun t w b e=>by rw[e];exact Rm (by simp only[List.length_cons,List.length_nil];omega) (X5 rfl)) ?_
 refine X2 (S ([40]++N7 m.params++[41])) (fun t w b e=>by rw[e];exact Rm (by simp only[List.length_append,List.length_cons,List.length_nil];omega) (X5 rfl)) ?_
 refine X2 (S m.result) (fun t w b e=>by rw[e];exact ld b.sat j rfl (X5 rfl)) ?_
 rintro L O M J C A H E g _ _ _ _ _ rfl rfl
 have:=i.1
 refine Rm (by simp only[List.length_append,List.length_cons,List.length_nil];omega) ?_
 exact h _ _ (c.trans g.stp))
end Go.Proofs.YtfppjenblllfaaaGreatDoor

namespace Go.Emb
open Go.RowKit Go.Hm
variable {P : Program} {w w0 w1 w' w'' : World} {K : Value → World → Prop} {σ σ0 σ1 σ' : Q4}
theorem Bt {α:Type} (f:α→α) (e:α): ∀l:List α,(l++[e]).modify l.length f=l++[f e]
 | []=>rfl
 | x::r=>by simp[Bt f e r]
theorem Pb (k:List UInt8) (e:MapEntry) (a:e.key=S k): ∀(es:List MapEntry) (i:Nat),Instr.findNow .string (S k) es i=some none→Instr.findNow .string (S k) (es++[e]) i=some (some (i+es.length,e.val))
 | [],i,_=>by
  simp[Instr.findNow,a,Instr.sameNow,Rk]
 | x::r,i,h=>by
  simp only[Instr.findNow,List.cons_append] at h⊢
  split at h
  ·cases h
  ·rename_i b
   rw[Pb k e a r (i+1) h]
   simp;omega
  ·cases h
theorem Q0B (k:List UInt8) (u:Value): ∀(es:List MapEntry) (i j:Nat) (v:Value),Instr.findNow .string (S k) es i=some (some (j,v))→i≤j∧j-i<es.length∧Instr.findNow .string (S k) (es.modify (j-i) fun e=>{e with val:=u}) i=some (some (j,u))
 | [],i,j,v,h=>by simp[Instr.findNow] at h
 | x::r,i,j,v,h=>by
  simp only[Instr.findNow] at h
  split at h
  ·rename_i a
   cases h
   refine ⟨Nat.le_refl _,by simp,?_⟩
   simp only[Nat.sub_self,List.modify_zero_cons,Instr.findNow,a]
  ·rename_i a
   obtain ⟨c,d,b⟩:=Q0B k u r (i+1) j v h
   refine ⟨by omega,by simp;omega,?_⟩
   rw[show j-i=(j-(i+1))+1 by omega]
   simp only[List.modify_succ_cons,Instr.findNow,a]
   exact b
  ·cases h
theorem Jk {t n p:TypeId} [tm:TM P t n p] (l:P.underlying n=some .string) {r:Nat} {es:Array MapEntry} {a:Nat} {k:List UInt8} {i:Nat} {v:Value} {e:MapEntry} (o:w.heap[r]? =some (.map es a))
 (q:Instr.findNow .string (S k) es.toList 0=some (some (i,v))) (m:es[i]? =some e) (c:e.key=S k):
 (Instr.mapEntry t (.map (some r)) (S k)).run P w= .ok (.tuple #[v,goInt e.born]) {w with heap:=w.heap.setIfInBounds r (.map es a)}:=by
 have s:(getObj r).run P w= .ok (.map es a) w:=by simp[getObj,Sem.run,o]
 have b:(Instr.keyThatStays (S k) (S k)).run P w= .ok (S k) w:=by
  simp[Instr.keyThatStays,Instr.sameBits,Rk]
 have g:(es.modify i fun e=>{e with key:=S k})=es:=by
  apply Array.ext'
  apply List.ext_getElem?
  intro j
  simp only[Array.toList_modify,List.getElem?_modify]
  by_cases d:i=j
  ·subst d
   rw[Array.getElem?_toList,m]
   simp[←c]
  ·cases es.toList[j]? <;>simp[d]
 have f:(setObj r (.map es a)).run P w= .ok () {w with heap:=w.heap.setIfInBounds r (.map es a)}:=by
  simp[setObj,Sem.run,o]
 simp only[Instr.mapEntry,Sem.run_bind,run_underlying tm.h,Result.andThen_ok,Instr.findKey,run_underlying l,q,C6 l,s,Sem.run_pure]
 simp only[m,Option.map_some,Option.getD_some,c,b,Result.andThen_ok,g,f]
theorem Q0X {r:Nat} {o:Obj} (h:w.heap[r]? =some o):({w with heap:=w.heap.setIfInBounds r o}:World)=w:=by
 have:w.heap.setIfInBounds r o=w.heap:=by
  apply Array.ext'
  apply List.ext_getElem?
  intro j
  simp only[Array.toList_setIfInBounds,List.getElem?_set]
  by_cases a:r=j
  ·subst a
   rw[if_pos rfl]
   have:=h
   rw[←Array.getElem?_toList] at this
   rw[this,if_pos (by have:=(Array.getElem?_eq_some_iff.1 h).1;simpa using this)]
  ·rw[if_neg a]
 rw[this]
theorem Q2r {r:Nat} {o a:Obj} (h:w.heap[r]? =some a):Upd w r {w with heap:=w.heap.setIfInBounds r o}∧({w with heap:=w.heap.setIfInBounds r o}:World).heap[r]? =some o:=by
 have b:=(Array.getElem?_eq_some_iff.1 h).1
 exact ⟨⟨rfl,rfl,rfl,by simp,fun k c=>by simp only[Array.getElem?_setIfInBounds];rw[if_neg (by omega)]⟩,by simp[Array.getElem?_setIfInBounds,b]⟩
structure Ent3 (P : Program) (t : TypeId) (r : Nat) (k : List UInt8) (u : Value) (m : List (List UInt8 × Value)) (O0 O1 O2 : Obj) (stamp : Nat) : Prop where
  same : O0 = O2 → O1 = O0
  put : M9 (some O2) (Qu m k u)
  entry : ∀ {w : World} {K : Value → World → Prop}, (w.heap[r]? = some O0 ∨ w.heap[r]? = some O1 ∨ w.heap[r]? = some O2) → (∀ x w', Upd w r w' → (w.heap[r]? = some O0 → w'.heap[r]? = some O1) → (w.heap[r]? ≠ some O0 → w'.heap[r]? = w.heap[r]?) → K (.tuple #[x, I stamp]) w') → mapEntry P t (.map (some r)) (S k) w K
  store : ∀ {w : World} {K : Value → World → Prop}, (w.heap[r]? = some O1 ∨ w.heap[r]? = some O2) → (∀ w', Upd w r w' → w'.heap[r]? = some O2 → K undef w') → entryStore P t (.map (some r)) (I stamp) u w K
theorem X2r {t kt et:TypeId} {by_:Nat} {z:Value} [tm:TM P t kt et] [tz:TZ P et 1 by_ z] (N:P.underlying kt=some .string) {r:Nat} {m:List (List UInt8×Value)} (hm:M9 (w.heap[r]?) m) (k:List UInt8) (u:Value):
 ∃O O1 O2 s,w.heap[r]? =some O∧Ent3 P t r k u m O O1 O2 s:=by
 obtain ⟨es,g,h1,h2,h3,X⟩:=hm
 obtain ⟨r',q1,q2,q3,q4⟩:=Ro k es.toList m 0 h2
 -- the array behind it, the place, the stamp
 have U: ∀(f:Array MapEntry) (d i:Nat) (q:MapEntry) (v1:Value),Instr.findNow .string (S k) f.toList 0=some (some (i,v1))→f[i]? =some q→q.key=S k→(f.toList.map (·.born)).Pairwise (· < ·)→
  (Obj.map es g= .map (f.modify i fun e=>{e with val:=u}) d→Obj.map f d=Obj.map es g)→M9 (some (.map (f.modify i fun e=>{e with val:=u}) d)) (Qu m k u)→
  (∀{w:World},w.heap[r]? =some (.map es g)→ ∃x,(Instr.mapEntry t (.map (some r)) (S k)).run P w= .ok (.tuple #[x,I q.born]) {w with heap:=w.heap.setIfInBounds r (.map f d)})→
  ∃O O1 O2 s,w.heap[r]? =some O∧Ent3 P t r k u m O O1 O2 s:=by
  intro f d i q v1 f1 f2 f3 f4 f5 f6 f7
  obtain ⟨_,E,f8⟩:=Q0B k u f.toList 0 i v1 f1
  simp only[Nat.sub_zero] at E f8
  have aw:i<f.size:=by simpa using E
  have f9:(f.modify i fun e=>{e with val:=u})[i]? =some {q with val:=u}:=by
   rw[Array.getElem?_modify,if_pos rfl,f2];rfl
  have aq:Instr.findNow .string (S k) (f.modify i fun e=>{e with val:=u}).toList 0=some (some (i,u)):=by
   rw[Array.toList_modify];exact f8
  have J: ∀(l:Array MapEntry),l.toList.map (·.born)=f.toList.map (·.born)→l.findIdx? (fun e=>(e.born:Int)==q.born)=some i:=by
   intro l C
   obtain ⟨Y⟩:=l
   have e0:(Array.mk Y).findIdx? (fun e=>(e.born:Int)==q.born)=Y.findIdx? (fun e=>(e.born:Int)==q.born):=List.findIdx?_toArray ..
   rw[e0,List.findIdx?_eq_some_iff_getElem]
   generalize Q:(Array.mk Y)=l at*
   have ag:Y=l.toList:=by rw[←Q]
   subst ag
   have a5:l.toList.length=f.toList.length:=by have:=congrArg List.length C;simpa using this
   have W: ∀j (hj:j<l.toList.length),(l.toList[j]).born=(f.toList[j]'(by omega)).born:=fun j hj=>by
    have h5:(l.toList.map (·.born))[j]? =(f.toList.map (·.born))[j]? :=by rw[C]
    rw[List.getElem?_map,List.getElem?_map,List.getElem?_eq_getElem hj,List.getElem?_eq_getElem (by omega)] at h5
    simpa using h5
   have R:f.toList[i]=q:=by
    have:=f2
    rw[←Array.getElem?_toList,List.getElem?_eq_getElem E] at this
    simpa using this
   refine ⟨by omega,by rw[W i (by omega),R];simp,fun j hj=>?_⟩
   have ai:j<f.toList.length:=by omega
   have:=(List.pairwise_iff_getElem.1 f4) j i (by simpa using ai) (by simpa using E) hj
   simp only[List.getElem_map] at this
   rw[W j (by omega)]
   rw[R] at this
   simp only[beq_iff_eq];omega
  have H:(f.modify i fun e=>{e with val:=u}).toList.map (·.born)=f.toList.map (·.born):=by
   apply List.ext_getElem?
   intro j
   simp only[Array.toList_modify,List.getElem?_map,List.getElem?_modify]
   by_cases L:i=j<;>cases f.toList[j]? <;>simp[L]
  have an:(f.modify i fun e=>{e with val:=u}).modify i (fun e=>{e with val:=u})=f.modify i fun e=>{e with val:=u}:=by
   apply Array.ext'
   apply List.ext_getElem?
   intro j
   simp only[Array.toList_modify,List.getElem?_modify]
   by_cases L:i=j<;>cases f.toList[j]? <;>simp[L]
  have A: ∀(l:Array MapEntry) {w:World},l.toList.map (·.born)=f.toList.map (·.born)→w.heap[r]? =some (.map l d)→(Instr.entryStore t (.map (some r)) (I q.born) u).run P w= .ok () {w with heap:=w.heap.setIfInBounds r (.map (l.modify i fun e=>{e with val:=u}) d)}:=by
   intro l w C hw
   have hg:(getObj r).run P w= .ok (.map l d) w:=by simp[getObj,Sem.run,hw]
   have D: ∀o,(setObj r (.map o d)).run P w= .ok () {w with heap:=w.heap.setIfInBounds r (.map o d)}:=by
    intro o;simp[setObj,Sem.run,hw]
   simp only[Instr.entryStore,Sem.run_bind,hg,Result.andThen_ok,asInt,Sem.run_pure,asIntOf,J l C,D]
  refine ⟨.map es g, .map f d, .map (f.modify i fun e=>{e with val:=u}) d,q.born,h1,f5,f6,?_,?_⟩
  ·intro w K hw M
   unfold mapEntry
   rcases hw with hw | hw | hw
   ·obtain ⟨x,hx⟩:=f7 hw
    rw[X9 hx]
    obtain ⟨u1,u2⟩:=Q2r (o:= .map f d) hw
    exact M x _ u1 (fun _=>u2) fun h=>absurd hw h
   ·have:=Jk (P:=P) (t:=t) N hw f1 f2 f3
    rw[Q0X hw] at this
    rw[X9 this]
    refine M _ w ⟨rfl,rfl,rfl,rfl,fun _ _=>rfl⟩ (fun h0=>?_) fun _=>rfl
    exact hw
   ·have:=Jk (P:=P) (t:=t) N hw aq f9 f3
    rw[Q0X hw] at this
    rw[X9 this]
    refine M _ w ⟨rfl,rfl,rfl,rfl,fun _ _=>rfl⟩ (fun h0=>?_) fun _=>rfl
    rw[h0] at hw
    cases hw
    rw[h0,f5 rfl]
  ·intro w K hw M
   unfold entryStore
   rcases hw with hw | hw
   ·rw[My (A f rfl hw)]
    obtain ⟨u1,u2⟩:=Q2r (o:= .map (f.modify i fun e=>{e with val:=u}) d) hw
    exact M _ u1 u2
   ·have:=A _ H hw
    rw[an,Q0X hw] at this
    rw[My this]
    exact M _ ⟨rfl,rfl,rfl,rfl,fun _ _=>rfl⟩ hw
 cases r' with
 | none=>
  obtain ⟨i,hi,bd,bj,ao⟩:=tz.info
  have hz: ∀w:World,(zeroValue et).run P w= .ok z w:=fun w=>Xs tz w
  refine U (es.push {key:=S k,val:=z,born:=g}) (g+1) es.size {key:=S k,val:=z,born:=g} z ?_ (by simp) rfl ?_ ?_ ?_ ?_
  ·have:=Pb k {key:=S k,val:=z,born:=g} rfl es.toList 0 q1
   simpa using this
  ·simp only[Array.toList_push,List.map_append,List.map_cons,List.map_nil]
   rw[List.pairwise_append]
   refine ⟨h3,by simp,?_⟩
   intro a ha b C
   simp at C;subst C
   obtain ⟨e,he,rfl⟩:=List.mem_map.1 ha
   exact X e he
  ·intro e
   injection e with q Z
   omega
  ·refine ⟨_,_,rfl,?_,?_,?_⟩
   ·rw[q4 rfl]
    simp only[Array.toList_modify,Array.toList_push]
    rw[←Array.length_toList,Bt]
    simp[h2]
   ·have:((es.push {key:=S k,val:=z,born:=g}).modify es.size fun e=>{e with val:=u}).toList.map (·.born)=es.toList.map (·.born)++[g]:=by
     simp only[Array.toList_modify,Array.toList_push]
     rw[←Array.length_toList,Bt]
     simp
    rw[this,List.pairwise_append]
    refine ⟨h3,by simp,?_⟩
    intro a ha b C
    simp at C;subst C
    obtain ⟨e,he,rfl⟩:=List.mem_map.1 ha
    exact X e he
   ·intro e he
    simp only[Array.toList_modify,Array.toList_push] at he
    rw[←Array.length_toList,Bt] at he
    rcases List.mem_append.1 he with he | he
    ·have:=X e he;omega
    ·simp at he;subst he;simp
  ·intro w hw
   have hg:(getObj r).run P w= .ok (.map es g) w:=by simp[getObj,Sem.run,hw]
   have D: ∀o c,(setObj r (.map o c)).run P w= .ok () {w with heap:=w.heap.setIfInBounds r (.map o c)}:=by
    intro o c;simp[setObj,Sem.run,hw]
   refine ⟨z,?_⟩
   simp only[Instr.mapEntry,Sem.run_bind,run_underlying tm.h,Result.andThen_ok,Instr.findKey,run_underlying N,q1,C6 N,hg,Sem.run_pure,hz,D]
   rfl
 | some p=>
  obtain ⟨j,v⟩:=p
  obtain ⟨z1,z2,z3⟩:=q3 j v rfl
  obtain ⟨e,q,Z⟩:=z2
  simp only[Nat.sub_zero] at q z3
  have V:es[j]? =some e:=by rw[←Array.getElem?_toList];exact q
  refine U es g j e v q1 V Z h3 (fun _=>rfl) ?_ fun hw=>⟨v,Jk N hw q1 V Z⟩
  refine ⟨_,_,rfl,?_,?_,?_⟩
  ·have:=z3 u
   rw[←this,Array.toList_modify]
   congr 1
   apply List.ext_getElem?
   intro n
   simp only[List.getElem?_modify]
   by_cases B:j=n
   ·subst B;rw[q];simp[Z]
   ·simp[B]
  ·have:(es.modify j fun e=>{e with val:=u}).toList.map (·.born)=es.toList.map (·.born):=by
    apply List.ext_getElem?
    intro n
    simp only[Array.toList_modify,List.getElem?_map,List.getElem?_modify]
    by_cases B:j=n<;>cases es.toList[n]? <;>simp[B]
   rw[this];exact h3
  ·intro x hx
   have:x.born∈(es.modify j fun e=>{e with val:=u}).toList.map (·.born):=List.mem_map.2 ⟨x,hx,rfl⟩
   have C:(es.modify j fun e=>{e with val:=u}).toList.map (·.born)=es.toList.map (·.born):=by
    apply List.ext_getElem?
    intro n
    simp only[Array.toList_modify,List.getElem?_map,List.getElem?_modify]
    by_cases B:j=n<;>cases es.toList[n]? <;>simp[B]
   rw[C] at this
   obtain ⟨y,hy,e⟩:=List.mem_map.1 this
   rw[←e];exact X y hy
end Go.Emb

namespace Go.Hm
open Go.Kd Go.Emb
abbrev H4:=List (X0×X0)
def E8:H4→X0→Option X0
 | [],_=>none
 | p::r,k=>if p.1=k then some p.2 else E8 r k
def Dx:H4→X0→X0→H4
 | [],k,v=>[(k,v)]
 | p::r,k,v=>if p.1=k then (k,v)::r else p::Dx r k v
def F0 (m:H4):List (List UInt8×Value):=m.map fun p=>(p.1,S p.2)
theorem Q89 (m:H4) (k:X0):L9 (F0 m) k=(E8 m k).map S:=by
 induction m with
 | nil=>rfl
 | cons p r a=>
  simp only[F0,List.map_cons,L9,E8]
  split
  ·rfl
  ·exact a
theorem Q4U (m:H4) (k v:X0):Qu (F0 m) k (S v)=F0 (Dx m k v):=by
 induction m with
 | nil=>rfl
 | cons p r a=>
  simp only[F0,List.map_cons,Qu,Dx]
  split
  ·rfl
  ·rw[List.map_cons];congr 1
theorem Pl (m:H4) (k v n:X0):E8 (Dx m k v) n=if k=n then some v else E8 m n:=by
 induction m with
 | nil=>simp[Dx,E8]
 | cons p r b=>
  simp only[Dx]
  by_cases h:p.1=k
  ·rw[if_pos h]
   simp only[E8]
   by_cases a:k=n
   ·simp[a]
   ·rw[if_neg a,if_neg a,if_neg (by rw[h];exact a)]
  ·rw[if_neg h]
   simp only[E8]
   by_cases a:p.1=n
   ·rw[if_pos a,if_pos a,if_neg (by intro e;exact h (a.trans e.symm))]
   ·rw[if_neg a,if_neg a];exact b
def Jj (d:X0) (s:H4×H4) (m:Hm.Met):Bool×(H4×H4):=
 ((match E8 s.1 m.name with | some x=> !decide (x=P4 m) | none=>false),(Dx s.1 m.name (P4 m),Dx s.2 m.name d))
end Go.Hm
namespace Go.Emb
open Go.RowKit Go.Hm
theorem M9.of_below {w w':World} {r:Nat} {m:List (List UInt8×Value)} (h:M9 (w.heap[r]?) m) (c:Below w.heap.size w w'):M9 (w'.heap[r]?) m:=by
 obtain ⟨es,a,b,d⟩:=h
 rw[c.block r (Array.getElem?_eq_some_iff.1 b).1]
 exact ⟨es,a,b,d⟩
theorem Q4P {P:Program} {w:World} {K:Value→World→Prop} {t b a:TypeId} {sz by_:Nat} {z:Value} [tm:TM P t b a] [tz:TZ P a sz by_ z] (d:P.underlying b=some .string) {r:Nat} {m:List (List UInt8×Value)} (c:M9 (w.heap[r]?) m) (k:List UInt8)
 (h:K (.tuple #[(L9 m k).getD z, .bool (L9 m k).isSome]) w):lookup P t (.map (some r)) (S k) true w K:=by
 rw[Q0Y d c k];cases e:L9 m k<;>rw[e] at h<;>exact h
theorem M9.lt {w:World} {r:Nat} {m:List (List UInt8×Value)} (h:M9 (w.heap[r]?) m):r<w.heap.size:=by
 obtain ⟨es,a,b,c⟩:=h
 exact (Array.getElem?_eq_some_iff.1 b).1
end Go.Emb
namespace Go.Proofs.YtfppjenblllfaaaGreatDoor
open Go.Emb Go.RowKit Go.Kd Go.Hm
variable {w : World} {K : Value → World → Prop} {σ : Q4} {v : Value} {l : List Cla}
theorem X27 {m:Hm.Met} {cs ds:List Value} {pa pb q:Addr} {b o:Nat} {s:H4×H4} {d:X0} (hs:X4 w σ) (hm:M5 σ m cs) (X:SmM m) (hn:NmM m) (Q:Z2 σ pa [.map (some b)]) (ax:Z2 σ pb [.map (some o)]) (hq:Z2 σ q (S d::ds))
 (aj:σ b=none) (an:σ o=none) (R:b≠o) (p:M9 (w.heap[b]?) (F0 s.1)) (y:M9 (w.heap[o]?) (F0 s.2))
 (h: ∀w',Kpt (fun k=>k=b∨k=o) w w'→M9 (w'.heap[b]?) (F0 (Jj d s m).2.1)→M9 (w'.heap[o]?) (F0 (Jj d s m).2.2)→K (.bool (Jj d s m).1) w'):
 Q0 P F.aB [.agg cs.toArray, .pointer (some pa), .pointer (some q), .pointer (some pb)] w K:=Om (by
 have aa:=hm
 obtain ⟨pv,cv,hv,rfl,g1,g2,g3,g4,g5,g6⟩:=hm
 unfold Xl
 refine Y9 hs fun a w1 σ1 f Z=>?_
 have ak:=p.lt
 have ai:=y.lt
 have p:=p.of_below f.bel
 have y:=y.of_below f.bel
 have Y:σ1 b=none:=(f.old b ak).trans aj
 have H:σ1 o=none:=(f.old o ai).trans an
 refine X8 f.sat (Q.up f) rfl ?_
 rw[fa]
 refine ld f.sat Z rfl ?_
 refine Q4P X7 p m.name ?_
 have aq:(.tuple #[(L9 (F0 s.1) m.name).getD (.string ⟨#[]⟩), .bool (L9 (F0 s.1) m.name).isSome]:Value)= .tuple #[S ((E8 s.1 m.name).getD []), .bool (E8 s.1 m.name).isSome]:=by
  rw[Q89];cases E8 s.1 m.name<;>rfl
 rw[aq]
 refine J8 (vs:=[_,_]) rfl ?_
 refine J8 (vs:=[_,_]) rfl ?_
 obtain ⟨L,N,A,z,ay,E⟩:=X2r (P:=P) (t:=T.q) X7 p m.name (S (P4 m))
 have W:=p.lt
 refine Q09 (fun c i=>Kpt (fun k=>k=b) c i∧(i.heap[b]? =c.heap[b]? ∨(c.heap[b]? =some L∧L≠A∧i.heap[b]? =some N)∨i.heap[b]? =some A))
  (fun c=>Kpt (fun k=>k=b) w1 c∧X4 c σ1∧(c.heap[b]? =some L∨c.heap[b]? =some N∨c.heap[b]? =some A))
  ⟨.of_below (Below.refl _ _).drew,f.sat.below (Below.refl _ _).drew, .inl ay⟩ (fun c i g C=>⟨g.1.trans C.1,C.1.sat g.2.1 (fun k hk=>hk▸Y),by
   rcases C.2 with e | ⟨_,_,e⟩ | e
   ·rw[e];exact g.2.2
   ·exact .inr (.inl e)
   ·exact .inr (.inr e)⟩) ?_
 refine X2 (.pointer (some (a.add 0))) (fun w g=>by rw[fa];exact ⟨⟨Kpt.refl, .inl rfl⟩,rfl⟩) ?_
 refine X2 (.pointer (some (a.add 0))) (fun w g=>by rw[fa];exact ⟨⟨Kpt.refl, .inl rfl⟩,rfl⟩) ?_
 refine X2 (.pointer (some (q.add 0))) (fun w g=>by rw[fa];exact ⟨⟨Kpt.refl, .inl rfl⟩,rfl⟩) ?_
 refine X2 (.map (some b)) (fun w g=>X8 g.2.1 (Q.up f) rfl ⟨⟨Kpt.refl, .inl rfl⟩,rfl⟩) ?_
 refine X2 (S m.name) (fun t w g e=>by rw[e];exact ld g.2.1 Z rfl ⟨⟨Kpt.refl, .inl rfl⟩,rfl⟩) ?_
 refine X2 (.map (some o)) (fun w g=>X8 g.2.1 (ax.up f) rfl ⟨⟨Kpt.refl, .inl rfl⟩,rfl⟩) ?_
 refine X2 (S m.name) (fun t w g e=>by rw[e];exact ld g.2.1 Z rfl ⟨⟨Kpt.refl, .inl rfl⟩,rfl⟩) ?_
 refine X2 (.agg [S m.name,pv,S m.result, .bool m.abs,I m.locals,cv,hv].toArray) (fun w g=>Y7 g.2.1 Z rfl ⟨⟨Kpt.refl, .inl rfl⟩,rfl⟩) ?_
 refine X2 (S (P4 m)) (fun t c g e=>by
  rw[e]
  exact Q7O g.2.1 (RMe_lift aa ⟨f.le⟩) X hn fun i σ3 r=>⟨⟨.of_below r.bel, .inl (r.bel.block b (Nat.lt_of_lt_of_le W g.1.size))⟩,rfl⟩) ?_
 refine X2 (S d) (fun t w g e=>by rw[e];exact ld g.2.1 (hq.up f) rfl ⟨⟨Kpt.refl, .inl rfl⟩,rfl⟩) ?_
 have st: ∀{c i:World},(c.heap[b]? =some N∨c.heap[b]? =some A)→(i.heap[b]? =c.heap[b]? ∨(c.heap[b]? =some L∧L≠A∧i.heap[b]? =some N)∨i.heap[b]? =some A)→(i.heap[b]? =some N∨i.heap[b]? =some A):=by
  intro c i j h2
  rcases h2 with e | ⟨_,_,e⟩ | e
  ·rw[e];exact j
  ·exact .inl e
  ·exact .inr e
 refine W7 (fun u c=>(∃x,u= .tuple #[x,I z])∧(c.heap[b]? =some N∨c.heap[b]? =some A)) (fun u c i j C=>⟨j.1,st j.2 C.2⟩) (fun ab av c g e1 e2=>?_) ?_
 ·rw[e1,e2]
  refine E.entry g.2.2 fun x i n ao ap=>?_
  by_cases h0:c.heap[b]? =some L
  ·have j:=ao h0
   refine ⟨⟨Kpt.of_upd n rfl,?_⟩,⟨x,rfl⟩, .inl j⟩
   by_cases B:L=A
   ·left;rw[j,h0,E.same B]
   ·exact .inr (.inl ⟨h0,B,j⟩)
  ·have j:=ap h0
   refine ⟨⟨Kpt.of_upd n rfl, .inl j⟩,⟨x,rfl⟩,?_⟩
   rw[j];exact g.2.2.resolve_left h0
 refine W7 (fun u c=>u=I z∧(c.heap[b]? =some N∨c.heap[b]? =some A)) (fun u c i j C=>⟨j.1,st j.2 C.2⟩) (fun t c g e=>?_) ?_
 ·obtain ⟨⟨x,rfl⟩,j⟩:=e
  exact J8 (vs:=[_,_]) rfl ⟨⟨Kpt.refl, .inl rfl⟩,rfl,j⟩
 refine W7 (fun _ c=>c.heap[b]? =some A) (fun u c i j C=>?_) (fun ab ah am c g e1 e2 e3=>?_) ?_
 ·rcases C.2 with e | ⟨e,B,_⟩ | e
  ·exact e.trans j
  ·rw[j] at e;cases e;exact absurd rfl B
  ·exact e
 ·rw[e1,e3,e2.1]
  refine E.store e2.2 fun i n h3=>⟨⟨Kpt.of_upd n rfl, .inr (.inr h3)⟩,h3⟩
 rintro bk bi ba ab av bh bc a5 am a9 a7 ah bb c O _ _ _ _ _ rfl rfl _ _ rfl _ _ al
 have aw:M9 (c.heap[b]?) (F0 (Dx s.1 m.name (P4 m))):=by
  rw[al,←Q4U];exact E.put
 have af:M9 (c.heap[o]?) (F0 s.2):=by
  rw[O.1.block o y.lt fun e=>R e.symm];exact y
 refine De X7 ⟨H,af⟩ m.name (S d) fun i n ar=>?_
 have V:M9 (i.heap[o]?) (F0 (Dx s.2 m.name d)):=by rw[←Q4U];exact ar.2
 have J:M9 (i.heap[b]?) (F0 (Dx s.1 m.name (P4 m))):=by rw[n.block b R];exact aw
 have r:Kpt (fun k=>k=b∨k=o) w i:=((Kpt.of_below f.bel).trans (O.1.mono fun k _ h=> .inl h)).trans (Kpt.of_upd n (.inr rfl))
 have U:X4 i σ1:=(Kpt.of_upd (D:=fun k=>k=o) n rfl).sat O.2.1 fun k hk=>hk▸H
 unfold Jj at h
 cases ho:E8 s.1 m.name with
 | none=>
  rw[ho] at h
  simp only[Option.isSome_none,↓M2,M2,Mb,reduceIte]
  exact h i r J V
 | some x=>
  rw[ho] at h
  simp only[Option.isSome_some,Option.getD_some,↓M2,M2,Mb,reduceIte]
  refine Y7 U Z rfl ?_
  refine Q7O U (RMe_lift aa ⟨f.le⟩) X hn fun w4 σ4 M=>?_
  simp only[↓M2,M2,Mb,reduceIte]
  exact h w4 (r.trans (Kpt.of_below M.bel)) (J.of_below M.bel) (V.of_below M.bel))
end Go.Proofs.YtfppjenblllfaaaGreatDoor

namespace Go.Hm
open Go.Kd Go.Emb
def Ea (s:H4×H4) (c:Cla):Bool×(H4×H4):=((Z9 (Jj c.name) s c.methods 0).1.isSome,(Z9 (Jj c.name) s c.methods 0).2)
def Dd (a:List Hm.Met):Prop:= ∃x∈a,∃y∈a,x.name=y.name∧P4 x≠P4 y
theorem Q2X (a:List Hm.Met):Vr a=true↔Dd a:=by
 simp[Vr,Dd]
structure Gd (pre : List Hm.Met) (s : H4 × H4) : Prop where
  a : ∀ m ∈ pre, E8 s.1 m.name = some (P4 m)
  b : ∀ k x, E8 s.1 k = some x → ∃ m ∈ pre, m.name = k ∧ P4 m = x
  c : ∀ k, (E8 s.2 k).isSome = true ↔ ∃ m ∈ pre, m.name = k
theorem Gd.no {b:List Hm.Met} {s:H4×H4} (h:Gd b s): ¬Dd b:=by
 rintro ⟨x,d,y,e,g,f⟩
 have c:=h.a x d
 have i:=h.a y e
 rw[g,i] at c
 exact f (Option.some.inj c).symm
theorem Gd.step {i:List Hm.Met} {s:H4×H4} (h:Gd i s) (d:X0) (m:Hm.Met):((Jj d s m).1=true→Dd (i++[m]))∧((Jj d s m).1=false→Gd (i++[m]) (Jj d s m).2):=by
 unfold Jj
 constructor
 ·intro n
  cases o:E8 s.1 m.name with
  | none=>rw[o] at n;cases n
  | some x=>
   rw[o] at n
   obtain ⟨y,hy,f,p⟩:=h.b _ _ o
   exact ⟨y,by simp[hy],m,by simp,f,by rw[p];simpa using n⟩
 ·intro n
  have g: ∀x,E8 s.1 m.name=some x→x=P4 m:=fun x j=>by rw[j] at n;simpa using n
  refine ⟨fun y hy=>?_,fun k x j=>?_,fun k=>?_⟩
  ·simp only[Pl]
   rcases List.mem_append.1 hy with hy | hy
   ·have:=h.a y hy
    by_cases e:m.name=y.name
    ·rw[if_pos e];congr 1;exact (g _ (by rw[e];exact this)).symm
    ·rw[if_neg e];exact this
   ·simp at hy;subst hy;simp
  ·simp only[Pl] at j
   by_cases e:m.name=k
   ·rw[if_pos e] at j;cases j;exact ⟨m,by simp,e,rfl⟩
   ·rw[if_neg e] at j
    obtain ⟨y,hy,f⟩:=h.b _ _ j
    exact ⟨y,by simp[hy],f⟩
  ·simp only[Pl]
   by_cases e:m.name=k
   ·rw[if_pos e];exact ⟨fun _=>⟨m,by simp,e⟩,fun _=>rfl⟩
   ·rw[if_neg e,h.c k]
    constructor
    ·rintro ⟨y,hy,f⟩;exact ⟨y,by simp[hy],f⟩
    ·rintro ⟨y,hy,f⟩
     rcases List.mem_append.1 hy with hy | hy
     ·exact ⟨y,hy,f⟩
     ·simp at hy;subst hy;exact absurd f e
theorem Dd.mono {a b:List Hm.Met} (h:Dd a) (c: ∀x∈a,x∈b):Dd b:=by
 obtain ⟨x,d,y,f,e⟩:=h
 exact ⟨x,c x d,y,c y f,e⟩
theorem Q1S (d:X0): ∀(b a:List Hm.Met) (s:H4×H4) (i:Nat),Gd a s→((Z9 (Jj d) s b i).1.isSome=true→Dd (a++b))∧((Z9 (Jj d) s b i).1.isSome=false→Gd (a++b) (Z9 (Jj d) s b i).2)
 | [],a,s,i,h=>by simpa [Z9] using h
 | m::r,a,s,i,h=>by
  obtain ⟨g,j⟩:=h.step d m
  simp only[Z9]
  cases f:(Jj d s m).1 with
  | true=>
   simp only[if_true,Option.isSome_some]
   exact ⟨fun _=>(g f).mono fun x c=>by simp at c⊢;rcases c with h | h<;>simp[h],fun e=>by cases e⟩
  | false=>
   simp only[Bool.false_eq_true,if_false]
   have:=Q1S d r (a++[m]) (Jj d s m).2 (i+1) (j f)
   rw[show a++m::r=(a++[m])++r by simp]
   exact this
theorem Q1l: ∀(cs:List Cla) (a:List Hm.Met) (s:H4×H4) (i:Nat),Gd a s→((Z9 Ea s cs i).1.isSome=true→Dd (a++cs.flatMap (·.methods)))∧((Z9 Ea s cs i).1.isSome=false→Gd (a++cs.flatMap (·.methods)) (Z9 Ea s cs i).2)
 | [],a,s,i,h=>by simpa [Z9] using h
 | c::r,a,s,i,h=>by
  obtain ⟨d,f⟩:=Q1S c.name c.methods a s 0 h
  simp only[Z9]
  cases b:(Ea s c).1 with
  | true=>
   simp only[if_true,Option.isSome_some]
   exact ⟨fun _=>(d b).mono (by simp;intro x hx;rcases hx with hx | hx;exact .inl hx;exact .inr (.inl hx)),fun e=>by cases e⟩
  | false=>
   simp only[Bool.false_eq_true,if_false]
   have:=Q1l r (a++c.methods) (Ea s c).2 (i+1) (f b)
   rw[List.flatMap_cons,←List.append_assoc]
   exact this
theorem X19:Gd [] ([],[]):=⟨by simp,by simp[E8],by simp[E8]⟩
theorem Q6x (l:List Cla) (n:X0):Ut l n=(Vp l n).flatMap (·.methods):=by
 unfold Ut Vp
 induction R3 l n with
 | nil=>rfl
 | cons u r a=>
  rw[List.flatMap_cons,List.filterMap_cons]
  cases b:lk l u with
  | none=>simpa [b] using a
  | some c=>simp only[Option.map_some,Option.getD_some,List.flatMap_cons];rw[a]
end Go.Hm
namespace Go.Emb
open Go.RowKit Go.Hm
variable {P : Program} {w w0 w1 w' w'' : World} {K : Value → World → Prop} {σ σ0 σ1 σ' : Q4}
def It (σ:Q4) (w:World) (b r:Nat) (es:Array MapEntry) (a:Nat) (c:Array Nat):Prop:=σ b=none∧ ∃d,a≤d∧w.heap[b]? =some (.mapIter (some r) a c d)
theorem It.step {b r:Nat} {es:Array MapEntry} {a:Nat} {c:Array Nat} (h:It σ w b r es a c) (k:Stp w σ w' σ'):It σ' w' b r es a c:=by
 obtain ⟨f,g,i,d⟩:=h
 have e:=(Array.getElem?_eq_some_iff.1 d).1
 exact ⟨(k.old b e).trans f,g,i,(k.bel.block b e).trans d⟩
theorem X1Y {t g d:TypeId} [tm:TM P t g d] {r:Nat} {es:Array MapEntry} {a:Nat} (c:X4 w σ) (f:w.heap[r]? =some (.map es a))
 (h: ∀b w' σ',w.heap.size≤b→Stp w σ w' σ'→It σ' w' b r es a #[]→K (.pointer (some ⟨b,0,none⟩)) w'):rng P t (.map (some r)) w K:=by
 unfold rng
 have e:(getObj r).run P w= .ok (.map es a) w:=by simp[getObj,Sem.run,f]
 rw[X9 (v:= .pointer (some ⟨w.heap.size,0,none⟩)) (w':=w.alloc (.mapIter (some r) a #[] a)) (by
  simp only[Instr.range,Sem.run_bind,run_underlying tm.h,Result.andThen_ok,e,Sem.run_pure]
  simp)]
 exact h _ _ _ (Nat.le_refl _) (Stp.own c _) ⟨c.none (Nat.le_refl _),a,Nat.le_refl _,heap_alloc_new w _⟩
theorem X20 {t:TypeId} {b r:Nat} {es:Array MapEntry} {clock:Nat} {seen:Array Nat} (hi:It σ w b r es clock seen) (hm:w.heap[r]? =some (.map es clock)) (hold: ∀x∈es.toList,x.born<clock)
 (h0:(∀e∈es.toList,e.born∈seen)→K (.tuple #[.bool false]) w)
 (h1: ∀e w',e∈es.toList→e.born∉seen→Kpt (fun k=>k=b) w w'→It σ w' b r es clock (seen.push e.born)→w'.heap[b]? =some (.mapIter (some r) clock (seen.push e.born) clock)→K (.tuple #[.bool true,e.key,e.val]) w'):J4 P (.pointer (some ⟨b,0,none⟩)) false t w K:=by
 obtain ⟨hb,c0,hc,hh⟩:=hi
 unfold J4
 rcases run_next_at (P:=P) w t b r clock c0 seen es clock hh hm hold hc with ⟨hz,hrun⟩ | ⟨e,he,w1,hw1,hrun⟩
 ·rw[X9 hrun]
  refine h0 fun e he=>Classical.byContradiction fun hn=>?_
  have:e∈(leftOf es seen).toList:=by
   unfold leftOf
   simp only[Array.toList_filter,List.mem_filter]
   exact ⟨he,by simpa using hn⟩
  have hl:(leftOf es seen).toList.length=0:=by simpa using hz
  rw[List.eq_nil_of_length_eq_zero hl] at this
  cases this
 ·rw[X9 hrun]
  have he':e∈es.toList∧e.born∉seen:=by
   unfold leftOf at he
   simp only[Array.toList_filter,List.mem_filter] at he
   exact ⟨he.1,by simpa using he.2⟩
  have hh1:w1.heap[b]? =some (.mapIter (some r) clock seen c0):=by rcases hw1 with rfl | rfl<;>exact hh
  obtain ⟨u1,u2⟩:=Q2r (w:=w1) (o:= .mapIter (some r) clock (seen.push e.born) clock) hh1
  refine h1 e _ he'.1 he'.2 ?_ ⟨hb,clock,Nat.le_refl _,u2⟩ u2
  have k1:Kpt (fun k=>k=b) w w1:=by
   rcases hw1 with rfl | rfl
   ·exact Kpt.refl
   ·exact .of_below (Below.refl _ _).drew
  exact k1.trans (Kpt.of_upd u1 rfl)
theorem X1v {b r:Nat} {es:Array MapEntry} {a:Nat} {c:Array Nat} {e:MapEntry} (hh:w.heap[b]? =some (.mapIter (some r) a (c.push e.born) a)) (f:w.heap[r]? =some (.map es a)) (d:e∈es.toList) (g:(es.toList.map (·.born)).Nodup)
 (h:K (.tuple #[e.key,e.val]) w):Q7a P (.pointer (some ⟨b,0,none⟩)) w K:=by
 unfold Q7a
 rw[X9 (run_entry_at w b r a c es a e hh f d g)]
 exact h
end Go.Emb
namespace Go.Proofs.YtfppjenblllfaaaGreatDoor
open Go.Emb Go.RowKit Go.Kd Go.Hm
variable {w : World} {K : Value → World → Prop} {σ : Q4} {v : Value} {l : List Cla}
theorem Zw (o:Option Nat):decide ((0:Int)≤W5 o)=o.isSome:=by
 cases o with
 | none=>rfl
 | some i=>simp[W5]
theorem Q2x {q:Addr} {s:X0} (b:X4 w σ) (d:Tab σ v l) (f:Z2 σ q [v]) (g:s.length≤J3) (h: ∀w' σ',Stp w σ w' σ'→K (.bool (D2 l s)) w'):Z0 P (.func (.func F.ah) #[] #[.pointer (some q)]) [S s] w K:=Y8 (Dw (by
 unfold Yk
 unfold D2 at h
 refine Ui ?_
 by_cases a:s=C2
 ·have e:decide (s=[110,117,108,108])=true:=decide_eq_true a
  simp only[e,decide_eq_true a,↓M2,M2,Mb,reduceIte] at h⊢
  exact h _ _ (Stp.refl b)
 ·have e:decide (s=[110,117,108,108])=false:=decide_eq_false a
  simp only[e,decide_eq_false a,↓M2,M2,Mb,reduceIte] at h⊢
  refine X8 b f rfl ?_
  refine Ek b d g fun w1 σ1 c=>?_
  (try simp only[↓M2,M2,Mb,reduceIte])
  exact h _ _ c))
theorem Q6w {q p:Addr} {s:X0} (b:X4 w σ) (c:Tab σ v l) (d:Z2 σ q [v]) (e:Z2 σ p [.func (.func F.ah) #[] #[.pointer (some q)]]) (f:s.length≤J3) (h: ∀w' σ',Stp w σ w' σ'→K (.bool (!D2 l s)) w'):Z0 P (.func (.func F.ai) #[] #[.pointer (some p)]) [S s] w K:=Y8 (Hj (by
 unfold Zb
 refine X8 b e rfl ?_
 refine Q2x b c d f fun w1 σ1 a=>?_
 refine Nh ?_
 exact h _ _ a))
theorem Q5q {c:Cla} {cs:List Value} {pa J:Addr} {e b:Nat} {s:H4×H4} (Q:X4 w σ) (U:U5 σ c cs) (z:P7 c) (X:Nm c) (p:Z2 σ pa [.map (some e)]) (B:Z2 σ J [.map (some b)])
 (u:σ e=none) (A:σ b=none) (r:e≠b) (m:M9 (w.heap[e]?) (F0 s.1)) (i:M9 (w.heap[b]?) (F0 s.2))
 (h: ∀w',Kpt (fun k=>k=e∨k=b) w w'→M9 (w'.heap[e]?) (F0 (Ea s c).2.1)∧M9 (w'.heap[b]?) (F0 (Ea s c).2.2)→K (.bool (Ea s c).1) w'):
 Z0 P (.func (.func F.aM) #[] #[.pointer (some pa), .pointer (some J)]) [.agg cs.toArray] w K:=Y8 (Hg (by
 obtain ⟨lv,Y,mv,rfl,g1,g2,N,g4,Z⟩:=U
 unfold Yl
 refine Y9 Q fun q w1 σ1 a D=>?_
 rw[fa]
 refine ld a.sat D rfl ?_
 rw[Qf]
 have y:=m.lt
 have t:=i.lt
 have n:σ1 e=none:=(a.old e y).trans u
 have o:σ1 b=none:=(a.old b t).trans A
 refine Yb (Jj c.name) s (fun s w'=>X4 w' σ1∧M9 (w'.heap[e]?) (F0 s.1)∧M9 (w'.heap[b]?) (F0 s.2)) (fun k=>k=e∨k=b) (fun _ _ h=>h.1) ⟨a.sat,m.of_below a.bel,i.of_below a.bel⟩ (N.up a)
  (fun s x cs C K H f g V E W=>Y8 ?_) fun C f g=>?_
 ·refine X27 (s:=s) (d:=c.name) g.1 V (z.2.2.2 x H) (X.2.2 x H) (p.up a) (B.up a) D n o r g.2.1 g.2.2 fun O j R M=>?_
  exact W O (f.trans j) ⟨j.sat g.1 fun k L=>by rcases L with rfl | rfl<;>assumption,R,M⟩
 ·exact h C ((Kpt.of_below a.bel).trans f) g.2))
end Go.Proofs.YtfppjenblllfaaaGreatDoor

namespace Go.Emb
open Go.RowKit Go.Hm
theorem Stp.nx {D:Nat→Prop} {w w1 f:World} {σ σ1 g:Q4} (a:Stp w σ w1 σ1) (c:Nxt D w1 σ1 f g) (hD: ∀k,D k→w.heap.size≤k):Stp w σ f g:=
 ⟨⟨c.kp.os.trans a.bel.os,c.kp.tape.trans a.bel.tape,c.kp.output.trans a.bel.output,Nat.le_trans a.bel.size c.kp.size,fun k d=>(c.kp.block k (Nat.lt_of_lt_of_le d a.bel.size) fun e=>by have:=hD k e;omega).trans (a.bel.block k d)⟩,
  c.sat,fun b o e=>c.le.le b o (a.le b o e),fun k d=>(c.old k (Nat.lt_of_lt_of_le d a.bel.size)).trans (a.old k d)⟩
end Go.Emb
namespace Go.Hm
open Go.Kd Go.Emb
theorem X0Z {es:Array MapEntry} {m:H4} (h:es.toList.map (fun e=>(e.key,e.val))=(F0 m).map (fun p=>(S p.1,p.2))):
 (∀e∈es.toList,∃k,e.key=S k∧(E8 m k).isSome=true)∧ ∀k,(E8 m k).isSome=true→ ∃e∈es.toList,e.key=S k:=by
 have c: ∀(m:H4) k,(E8 m k).isSome=true↔k∈m.map (·.1):=by
  intro m
  induction m with
  | nil=>intro k;simp[E8]
  | cons p r g=>
   intro k
   simp only[E8,List.map_cons,List.mem_cons]
   by_cases e:p.1=k
   ·simp[e]
   ·rw[if_neg e,g k]
    constructor
    ·exact .inr
    ·rintro (h | h)
     ·exact absurd h.symm e
     ·exact h
 constructor
 ·intro e d
  have a:(e.key,e.val)∈es.toList.map (fun e=>(e.key,e.val)):=List.mem_map.2 ⟨e,d,rfl⟩
  rw[h] at a
  obtain ⟨p,i,b⟩:=List.mem_map.1 a
  obtain ⟨q,f,rfl⟩:=List.mem_map.1 i
  simp only[Prod.mk.injEq] at b
  exact ⟨q.1,b.1.symm,(c m _).2 (List.mem_map.2 ⟨q,f,rfl⟩)⟩
 ·intro k j
  obtain ⟨q,f,rfl⟩:=List.mem_map.1 ((c m k).1 j)
  have a:(S q.1,S q.2)∈(F0 m).map (fun p=>(S p.1,p.2)):=List.mem_map.2 ⟨(q.1,S q.2),List.mem_map.2 ⟨q,f,rfl⟩,rfl⟩
  rw[←h] at a
  obtain ⟨e,d,b⟩:=List.mem_map.1 a
  simp only[Prod.mk.injEq] at b
  exact ⟨e,d,b.1⟩
def Ns (l:List Cla) (m:Hm.Met):Bool:=(!D2 l m.result&& !decide (m.result=[]))||m.params.any fun s=> !D2 l s
end Go.Hm
namespace Go.Proofs.YtfppjenblllfaaaGreatDoor
open Go.Emb Go.RowKit Go.Kd Go.Hm
variable {w : World} {K : Value → World → Prop} {σ : Q4} {v : Value} {l : List Cla}
set_option maxHeartbeats 1000000 in
theorem Q8x {c:Cla} {cs:List Value} (hs:X4 w σ) (ht:Tab σ v l) (ok:Ok l) (hc:U5 σ c cs) (fd:P7 c) (hn:Nm c) (h: ∀w' W,Stp w σ w' W→K (I (U8 l c)) w'):Q0 P F.aR [v, .agg cs.toArray] w K:=Sd (by
 obtain ⟨lv,fv,mv,rfl,g1,g2,g3,g4,g5⟩:=hc
 unfold Jw
 obtain ⟨a,_,_,_,hv,_⟩:=ht.ex
 unfold U8 at h
 refine J6 hs (by rw[hv];rfl) fun q2 w1 σ1 a5 y=>?_
 refine Y9 a5.sat fun q3 w2 σ2 ar z=>?_
 have d9:=a5.trans ar
 have y:=y.up ar
 have g1:=(g1.up a5).up ar
 have g2:=(g2.up a5).up ar
 have g3:=(g3.up a5).up ar
 have bd:=g2.max
 have b6:=g3.max
 rw[fa]
 refine ld ar.sat z rfl ?_
 refine Q8 g2 ?_
 refine Z8 c.fields.length (fun n w'=> ∃W,Stp w σ w' W∧SLe σ2 W∧((c.fields.take n).any fun f=>(Xk l c.super f.name).isSome)=false) ⟨σ2,d9,SLe.refl _,by simp⟩ fun n w3 d a0 af=>?_
 obtain ⟨σ3,a1,cg,H⟩:=af
 refine Z1 ?_
 refine Q5 (fun hh=>?_) (fun hh=>?_)
 ·have g:n<c.fields.length:=by simpa using hh
  refine Q80 (g2.lift cg) g fun p aw aa=>?_
  refine Y7 a1.sat aw rfl ?_
  refine Y6 a1.sat (by rfl) rfl (Rep.one aa) fun q4 w4 σ4 V dz=>?_
  have Z:SLe σ2 σ4:=cg.more ⟨V.le⟩
  have a6:=a1.trans V
  refine X8 V.sat (y.lift Z) rfl ?_
  rw[fa]
  refine ld V.sat (z.lift Z) rfl ?_
  rw[fa]
  refine ld V.sat dz rfl ?_
  refine X0Q V.sat (ht.lift ⟨a6.le⟩) ok.acy ok.len ok.sm fun w5 σ5 cb=>?_
  refine Zm ?_
  rw[Zw]
  refine Q5 (fun am=>?_) (fun am=>?_)
  ·have:Qt l c=true:=C0 g am
   rw[if_pos this] at h
   exact h _ _ (a6.trans cb)
  ·refine D5 ?_
   refine Y2 bd g ⟨σ5,a6.trans cb,Z.more ⟨cb.le⟩,?_⟩
   rw[M3 g,H,am];rfl
 have g: ¬n<c.fields.length:=by simpa using hh
 rw[O9 g] at H
 have eg:Qt l c=false:=H
 rw[if_neg (by rw[eg];simp)] at h
 rw[Qf]
 clear H hh g a0
 refine U0 a1.sat (by rfl) rfl rfl fun q7 w4 σ4 V a9=>?_
 have Z:SLe σ2 σ4:=cg.more ⟨V.le⟩
 have a6:=a1.trans V
 have y:=y.lift Z
 have z:=z.lift Z
 have g1:=g1.lift Z
 have g2:=g2.lift Z
 have g3:=g3.lift Z
 rw[fa]
 refine ld V.sat z rfl ?_
 refine Q8 g2 ?_
 refine Z8 c.fields.length (fun n w'=> ∃W,Stp w σ w' W∧SLe σ4 W∧((c.fields.take n).any fun f=> !D2 l f.kind)=false) ⟨σ4,a6,SLe.refl _,by simp⟩ fun n w5 d a0 af=>?_
 obtain ⟨σ5,a2,av,H⟩:=af
 refine Z1 ?_
 refine Q5 (fun hh=>?_) (fun hh=>?_)
 ·have g:n<c.fields.length:=by simpa using hh
  refine Q80 (g2.lift av) g fun p aw aa=>?_
  refine Y7 a2.sat aw rfl ?_
  refine Y6 a2.sat (by rfl) rfl (Rep.one aa) fun q9 w6 σ6 a3 ed=>?_
  have aj:SLe σ4 σ6:=av.more ⟨a3.le⟩
  have U:=a2.trans a3
  refine X8 a3.sat (a9.lift aj) rfl ?_
  rw[fa]
  refine ld a3.sat ed rfl ?_
  refine Q2x a3.sat (ht.lift ⟨U.le⟩) (y.lift aj) aa.2.2 fun w7 σ7 E=>?_
  refine Nh ?_
  refine Q5 (fun am=>?_) (fun am=>?_)
  ·have:C8 l c=true:=by
    unfold C8
    rw[C0 (p:=fun f:Fld=> !D2 l f.kind) g am];rfl
   rw[if_pos this] at h
   exact h _ _ (U.trans E)
  ·refine D5 ?_
   refine Y2 bd g ⟨σ7,U.trans E,aj.more ⟨E.le⟩,?_⟩
   rw[M3 g,H,am];rfl
 have g: ¬n<c.fields.length:=by simpa using hh
 rw[O9 g] at H
 have d5:=H
 clear H hh g a0
 have y:=y.lift av
 have z:=z.lift av
 have a9:=a9.lift av
 have g3:=g3.lift av
 rw[fa]
 refine ld a2.sat z rfl ?_
 refine Q8 g3 ?_
 refine Z8 c.methods.length (fun n w'=> ∃W,Stp w σ w' W∧SLe σ5 W∧((c.methods.take n).any (Ns l))=false) ⟨σ5,a2,SLe.refl _,by simp⟩ fun n w6 d a0 af=>?_
 obtain ⟨σ6,U,aj,H⟩:=af
 refine Z1 ?_
 refine Q5 (fun hh=>?_) (fun hh=>?_)
 ·have g:n<c.methods.length:=by simpa using hh
  refine L7 (g3.lift aj) g fun p cells aw di aa=>?_
  refine Y7 U.sat aw di ?_
  refine Y6 U.sat (by rfl) di (Rep.one aa) fun fw w7 σ7 E X=>?_
  obtain ⟨pv,cv,fx,rfl,m1,m2,m3,m4,m5,m6⟩:=aa
  have b3:SLe σ5 σ7:=aj.more ⟨E.le⟩
  have dp:=U.trans E
  have B:Ns l c.methods[n]=true→ ∀{w8:World} {σ8:Q4},Stp w σ w8 σ8→K (.int .i64 65) w8:=fun hb w8 σ8 q=>by
   have:C8 l c=true:=by
    unfold C8
    have:=C0 (p:=Ns l) g hb
    unfold Ns at this
    rw[this,Bool.or_true]
   rw[if_pos this] at h
   exact h _ _ q
  have A:Ns l c.methods[n]=false→ ∀{w8:World} {σ8:Q4},Stp w σ w8 σ8→SLe σ5 σ8→UpI c.methods.length (fun n w'=> ∃W,Stp w σ w' W∧SLe σ5 W∧((c.methods.take n).any (Ns l))=false) (.int .i64 (IntKind.i64.wrap (n+1))) w8∧UpM c.methods.length (.int .i64 (IntKind.i64.wrap (n+1)))<UpM c.methods.length (I n):=fun hb w8 σ8 q ac=>
   Y2 b6 g ⟨σ8,q,ac,by rw[M3 g,H,hb];rfl⟩
  unfold Ns at B A
  refine X8 E.sat (a9.lift b3) rfl ?_
  rw[fa]
  refine ld E.sat X rfl ?_
  refine Q2x E.sat (ht.lift ⟨dp.le⟩) (y.lift b3) m5 fun w8 σ8 M=>?_
  have q:=dp.trans M
  have ac:SLe σ5 σ8:=b3.more ⟨M.le⟩
  have X:=X.up M
  have m1:=(m1.up E).up M
  -- what the parameters come to
  have bp: ∀{w8:World} {σ8:Q4} {K:Value→World→Prop},Stp w σ w8 σ8→SLe σ5 σ8→Sl 1 Y0 σ8 pv c.methods[n].params→(∀w' W,Stp w8 σ8 w' W→K (.bool (c.methods[n].params.any fun s=> !D2 l s)) w')→Q0 P F.d [pv, .func (.func F.ai) #[] #[.pointer (some q7)]] w8 K:=by
   intro w8 σ8 K q ac m1 hK
   refine B9 (fun s=> !D2 l s) q.sat m1 (fun x w9 K _ ek hx ec=>Q6w ek (ht.lift ⟨q.le⟩) (y.lift ac) (a9.lift ac) hx fun w' W hk=>ec w' hk.bel) fun w9 hb=>hK w9 σ8 (Stp.of_below q.sat hb)
  cases e1:D2 l c.methods[n].result with
  | true=>
   rw[e1] at B A
   simp only[↓M2,M2,Mb,reduceIte]
   refine ld M.sat X rfl ?_
   (try simp only[↓M2,M2,Mb,reduceIte])
   refine bp q ac m1 fun w9 σ9 J=>?_
   cases e2:c.methods[n].params.any fun s=> !D2 l s with
   | true=>
    rw[e2] at B
    simp only[↓M2,M2,Mb,reduceIte]
    exact B rfl (q.trans J)
   | false=>
    rw[e2] at A
    simp only[↓M2,M2,Mb,reduceIte]
    exact A rfl (q.trans J) (ac.more ⟨J.le⟩)
  | false=>
   rw[e1] at B A
   simp only[↓M2,M2,Mb,reduceIte]
   refine ld M.sat X rfl ?_
   simp only[↓M2,M2,Mb,reduceIte]
   by_cases e3:c.methods[n].result=[]
   ·rw[decide_eq_true e3] at B A
    simp only[decide_eq_true e3,↓M2,M2,Mb,reduceIte]
    refine ld M.sat X rfl ?_
    (try simp only[↓M2,M2,Mb,reduceIte])
    refine bp q ac m1 fun w9 σ9 J=>?_
    cases e2:c.methods[n].params.any fun s=> !D2 l s with
    | true=>
     rw[e2] at B
     simp only[↓M2,M2,Mb,reduceIte]
     exact B rfl (q.trans J)
    | false=>
     rw[e2] at A
     simp only[↓M2,M2,Mb,reduceIte]
     exact A rfl (q.trans J) (ac.more ⟨J.le⟩)
   ·rw[decide_eq_false e3] at B
    simp only[decide_eq_false e3,↓M2,M2,Mb,reduceIte]
    exact B rfl q
 have g: ¬n<c.methods.length:=by simpa using hh
 rw[O9 g] at H
 have b7:C8 l c=false:=by
  unfold C8
  unfold Ns at H
  rw[d5,H];rfl
 rw[if_neg (by rw[b7];simp)] at h
 clear H hh g a0
 have y:=y.lift aj
 have z:=z.lift aj
 refine An U.sat fun r1 w7 aa E t=>?_
 refine An E.sat fun N w8 eh M u=>?_
 have aw:=t.lt
 have t:=t.up M
 have d0:r1≠N:=by omega
 have q:=(U.trans E).trans M
 have eq:w.heap.size≤r1:=Nat.le_trans U.bel.size aa
 have e7:w.heap.size≤N:=Yi eh (U.trans E)
 refine G8 M.sat fun b1 w9 σ9 ea J C=>?_
 refine G8 J.sat fun b2 dy fk ee ah D=>?_
 have ey:=C.lt
 have et:=t.lt
 have eo:=u.lt
 have t:=(t.up J).up ah
 have u:=(u.up J).up ah
 have C:=C.up ah
 have c8:=(q.trans J).trans ah
 have b0:w.heap.size≤b1:=Yi ea q
 have bw:w.heap.size≤b2:=Yi ee (q.trans J)
 refine st0 C (by simp[Value.cells]) rfl rfl fun cp ce C=>?_
 have cw:=ce.stp c8 b0 C.1
 have D:=D.upd ce (by omega)
 have c7:Kpt (fun k=>k=b1) dy cp:=Kpt.of_upd ce rfl
 have t:=t.kp c7 (by omega)
 have u:=u.kp c7 (by omega)
 refine st0 D (by simp[Value.cells]) rfl rfl fun aq b4 D=>?_
 have da:=b4.stp cw bw D.1
 have C:=C.upd b4 (by omega)
 have dg:Kpt (fun k=>k=b2) cp aq:=Kpt.of_upd b4 rfl
 have t:=t.kp dg (by omega)
 have u:=u.kp dg (by omega)
 obtain ⟨cc,dl,ba,dh,al⟩:=C.keep da b0
 have D:Z5 cc aq b2 _:=⟨(al b2 (by omega)).trans D.1,D.2⟩
 have t:D7 cc aq r1 []:=⟨(al r1 (by omega)).trans t.1,t.2⟩
 have u:D7 cc aq N []:=⟨(al N (by omega)).trans u.1,u.2⟩
 obtain ⟨be,ae,bj,bx,bb⟩:=D.keep dl bw
 have t:D7 be aq r1 []:=⟨(bb r1 (by omega)).trans t.1,t.2⟩
 have u:D7 be aq N []:=⟨(bb N (by omega)).trans u.1,u.2⟩
 have ba:=ba.le bx
 have ba:Z2 be ⟨b1,0,none⟩ [.map (some r1)]:=ba
 have bj:Z2 be ⟨b2,0,none⟩ [.map (some N)]:=bj
 have dn:SLe σ6 be:=⟨fun b o e=>bx b o (dh b o (ah.le b o (J.le b o (M.le b o (E.le b o e)))))⟩
 clear C D
 have y:=y.lift dn
 have z:=z.lift dn
 refine X8 ae.sat y rfl ?_
 rw[fa]
 refine ld ae.sat z rfl ?_
 rw[Qf]
 refine Q6f Ea ([],[]) (fun s w'=>M9 (w'.heap[r1]?) (F0 s.1)∧M9 (w'.heap[N]?) (F0 s.2)) (fun k=>k=r1∨k=N) ae.sat (ht.lift ⟨ae.le⟩) ok.len ok.sm g4
  (fun k hk=>by rcases hk with rfl | rfl;exact ⟨t.lt,t.1⟩;exact ⟨u.lt,u.1⟩) (fun s wa wb hi hk=>by rw[hk r1 (.inl rfl),hk N (.inr rfl)];exact hi) ⟨t.2,u.2⟩
  (fun s d ds wa σa K le d7 c3 hi hr d2 hK=>?_) fun fg ca ai bu=>?_
 ·have dj:=(U3 d2).2.1
  exact Q5q d7 hr (ok.sm d dj) (ok.nm d dj) (ba.lift le) (bj.lift le) (c3 r1 (.inl rfl)) (c3 N (.inr rfl)) d0 hi.1 hi.2 hK
 have Q:=ae.nx ai fun k hk=>by rcases hk with rfl | rfl<;>assumption
 obtain ⟨cq,c6⟩:=Q1l (Vp l c.name) [] ([],[]) 0 X19
 rw[List.nil_append,←Q6x] at cq c6
 cases c9:(Z9 Ea ([],[]) (Vp l c.name) 0).1.isSome with
 | true=>
  have:Xo l c=true:=(Q2X _).2 (cq c9)
  rw[if_pos this] at h
  refine V9 ?_
  exact h _ _ Q
 | false=>
  have bk:=c6 c9
  have:Xo l c=false:=by
   cases e:Xo l c with
   | false=>rfl
   | true=>exact absurd ((Q2X _).1 e) bk.no
  rw[if_neg (by rw[this];simp)] at h
  refine V7 ?_
  have y:=y.lift ai.le
  have z:=z.lift ai.le
  rw[fa]
  refine ld Q.sat z rfl ?_
  unfold Na at h
  cases dm:c.abs with
  | true=>
   rw[dm] at h
   refine V9 ?_
   exact h _ _ Q
  | false=>
   rw[dm] at h
   simp only[Bool.not_false,Bool.true_and] at h
   refine V7 ?_
   refine X8 Q.sat (bj.lift ai.le) rfl ?_
   generalize e8:(Z9 Ea ([],[]) (Vp l c.name) 0).2=st at bk bu
   obtain ⟨es,ak,e1,e2,e3,e4⟩:=bu.2
   have cu:ca N=none:=(ai.old N u.lt).trans u.1
   obtain ⟨c2,de⟩:=X0Z e2
   refine X1Y (tm:=inferInstance) Q.sat e1 fun ib fe dw dv ap d1=>?_
   have bs:=(Array.getElem?_eq_some_iff.1 e1).1
   refine Ba (fun d _ w'=> ∃(W:Q4) (O:Array Nat),d=es.toList.countP (fun e=> !O.contains e.born)∧Stp w σ w' W∧SLe ca W∧W N=none∧w'.heap[N]? =some (.map es ak)∧It W w' ib N es ak O∧ ∀e∈es.toList,e.born∈O→ ∀k,e.key=S k→Xi l c.name k=false) _
    ⟨dw, #[],rfl,Q.trans ap,⟨ap.le⟩,(ap.old N bs).trans cu,(ap.bel.block N bs).trans e1,d1,by simp⟩ ?_
   rintro b5 d x dd fj ⟨cx,O,rfl,bv,ao,c1,a4,ay,a7⟩ d6
   have c4:w.heap.size≤ib:=Nat.le_trans Q.bel.size dv
   refine X20 ay a4 e4 (fun cy=>?_) fun e c5 bn az bq ci df=>?_
   ·refine J8 (vs:=[_]) rfl ?_
    refine V7 ?_
    have:((Ut l c.name).any fun m=>Xi l c.name m.name)=false:=by
     rw[List.any_eq_false]
     intro m hm
     obtain ⟨e,he,bo⟩:=de m.name ((bk.c m.name).2 ⟨m,hm,rfl⟩)
     rw[a7 e he (cy e he) _ bo];simp
    rw[this] at h
    exact h _ _ bv
   ·refine J8 (vs:=[_,_,_]) rfl ?_
    refine V9 ?_
    have an:c5.heap[N]? =some (.map es ak):=by
     rw[bq.block N (Array.getElem?_eq_some_iff.1 a4).1 (by omega)];exact a4
    have ch:=ay.1
    have ag:Stp w σ c5 cx:=bv.kp bq fun k hk=>by rw[hk];exact ⟨c4,ch⟩
    refine X1v df an bn (e3.imp fun cd=>Nat.ne_of_lt cd) ?_
    refine J8 (vs:=[_,_]) rfl ?_
    obtain ⟨k,bo,eb⟩:=c2 e bn
    have e0:SLe ca cx:=ao
    refine X8 ag.sat (y.lift ao) rfl ?_
    rw[fa]
    refine ld ag.sat (z.lift ao) rfl ?_
    rw[bo]
    refine Q9D ag.sat (ht.lift ⟨ag.le⟩) ok fun pv cv hv fr fq L c0=>?_
    refine J8 (vs:=[_,_,_]) rfl ?_
    refine J8 (vs:=[_,_,_]) rfl ?_
    refine J8 (vs:=[_,_,_]) rfl ?_
    refine Y6 L.sat (by rfl) rfl (Rep.one c0) fun fy d4 d3 Y bz=>?_
    have a8:=(ag.trans L).trans Y
    have R:Xi l c.name k=true→ ∀{w8:World} {σ8:Q4},Stp w σ w8 σ8→K (.int .i64 67) w8:=fun hb w8 σ8 q=>by
     obtain ⟨m,hm,b7⟩:=(bk.c k).1 eb
     have:((Ut l c.name).any fun m=>Xi l c.name m.name)=true:=List.any_eq_true.2 ⟨m,hm,by rw[b7];exact hb⟩
     rw[this] at h
     exact h _ _ q
    have b9:Xi l c.name k=false→b5 () d4:=fun hb=>by
     have db: ∀e':MapEntry,e'.born∈O.push e.born↔e'.born∈O∨e'.born=e.born:=fun e'=>by simp
     refine d6 _ _ _ ?_ ⟨d3,O.push e.born,rfl,a8,ao.more ⟨fun b o h=>Y.le _ _ (L.le _ _ h)⟩,?_,?_,(ci.step L).step Y,fun e' dc em k' ck=>?_⟩
     ·refine Q2U (fun x _ hx=>?_) ⟨e,bn,?_,?_⟩
      ·simp only[Bool.not_eq_true',Array.contains_push,Bool.or_eq_false_iff] at hx⊢
       exact hx.1
      ·simpa using az
      ·simp
     ·have ax:=(Array.getElem?_eq_some_iff.1 an).1
      rw[Y.old N (Nat.lt_of_lt_of_le ax L.bel.size),L.old N ax];exact c1
     ·have ax:=(Array.getElem?_eq_some_iff.1 an).1
      rw[Y.bel.block N (Nat.lt_of_lt_of_le ax L.bel.size),L.bel.block N ax];exact an
     ·rcases (db e').1 em with h1 | h1
      ·exact a7 e' dc h1 k' ck
      ·have:e'=e:=by
        have ei:(es.toList.map (·.born)).Nodup:=e3.imp fun cd=>Nat.ne_of_lt cd
        obtain ⟨i,hi,rfl⟩:=List.getElem_of_mem dc
        obtain ⟨j,hj,rfl⟩:=List.getElem_of_mem bn
        have h5:(es.toList.map (·.born))[i]'(by simpa using hi)=(es.toList.map (·.born))[j]'(by simpa using hj):=by simpa using h1
        have:=(List.getElem_inj ei).1 h5
        subst this;rfl
       subst this
       rw[bo] at ck
       have:k=k':=by
        have:=ck
        simp at this
        exact this
       rw[←this];exact hb
    unfold Xi at R b9
    cases ct:J7 l c.name k with
    | none=>
     rw[ct] at R
     simp only[↓M2,M2,Mb,reduceIte,Option.isSome_none]
     exact R rfl a8
    | some r=>
     rw[ct] at R b9 bz
     simp only[↓M2,M2,Mb,reduceIte,Option.isSome_some]
     refine ld Y.sat bz rfl ?_
     (try simp only[↓M2,M2,Mb,reduceIte])
     cases bi:r.2.abs with
     | true=>
      exact Q5 (fun _=>R bi a8) (fun e=>absurd (bi.symm.trans e) (by simp))
     | false=>
      exact Q5 (fun e=>absurd (bi.symm.trans e) (by simp)) (fun _=>b9 bi))
end Go.Proofs.YtfppjenblllfaaaGreatDoor

namespace Go.Emb
open Go.RowKit Go.Hm
variable {P : Program} {w w0 w1 w' w'' : World} {K : Value → World → Prop} {σ σ0 σ1 σ' : Q4}
theorem Q9N {t e:TypeId} {n by_:Nat} {z:Value} [ta:TA P t n e] [tz:TZ P e 1 by_ z] [tg:TG P e false] {cs:List Value} {i:Nat} {v:Value} (c:i<n) (a:cs[i]? =some v) (h:K v w):D9 P t (.agg cs.toArray) (I i) w K:=by
 unfold D9
 have b:(0:Int)≤i∧(i:Int)<n:=⟨by omega,by omega⟩
 rw[X9 (v:=v) (w':=w) (by
  simp only[Instr.index,asIntOf,Sem.run_bind,Sem.run_pure,Result.andThen_ok,run_underlying ta.h,b,and_self,if_true,W4 tz,part,Za tg]
  simp[a])]
 exact h
theorem Q6D {α:Type} {R:Q4→α→List Value→Prop} {B sz:Nat} {e:TypeId} {v:Value} {xs:List α} {a t:TypeId} {cs:List Bool} [ts:TS P a e] (h:V5 B e sz R σ w v xs) (b:K (I xs.length) w):X6 P .len [a] t cs [v] w K:=Gf (U2.of_acc h) b
theorem Q2I {α:Type} {R:Q4→α→List Value→Prop} {B sz:Nat} {e:TypeId} {v:Value} {xs:List α} (h:V5 B e sz R σ w v xs):v.cells= #[v]∧v.oneCell'=true:=by
 obtain ⟨cells,c,_⟩:=h
 rcases c.2 with ⟨rfl,_⟩ | ⟨g,b,a,rfl,_⟩<;>exact ⟨rfl,rfl⟩
end Go.Emb
namespace Go.Proofs.YtfppjenblllfaaaGreatDoor
open Go.Emb Go.RowKit Go.Kd Go.Hm
variable {w : World} {K : Value → World → Prop} {σ : Q4} {v : Value} {l : List Cla}
theorem X0A (z:X4 w σ) (D:Glb σ) (h: ∀q w' σ',Stp w σ w' σ'→V5 w.heap.size T.a 8 U5 σ' w' q B1→K q w'):Q0 P F.cp [] w K:=Q4Y (by
 unfold Aj
 refine W0 (cells:= #[S Z7,S [], .slice none 0 0, .bool false, .bool false, .bool false, .slice none 0 0, .slice none 0 0]) (by kernel_rfl) ?_
 refine W0 (cells:= #[S I8,S N5, .bool false]) (by kernel_rfl) ?_
 refine D6 (R:=E0) (sz:=3) z [.agg #[S I8,S N5, .bool false]] [⟨I8,N5,false⟩] rfl rfl (by simp;rfl) rfl ⟨⟨rfl,by decide,by decide⟩,trivial⟩ fun M w1 σ1 c k=>?_
 have p:=k
 obtain ⟨y,b,rfl,_⟩:=p
 refine W0 (cells:= #[S V8,S Z7, .slice none 0 0, .bool false, .bool false, .bool false, .slice y 1 b, .slice none 0 0]) (by kernel_rfl) ?_
 refine Qh (R:=U5) (sz:=8) c [.agg #[S Z7,S [], .slice none 0 0, .bool false, .bool false, .bool false, .slice none 0 0, .slice none 0 0], .agg #[S V8,S Z7, .slice none 0 0, .bool false, .bool false, .bool false, .slice y 1 b, .slice none 0 0]]
  [⟨Z7,[],[],false,false,false,[],[]⟩,⟨V8,Z7,[],false,false,false,[⟨I8,N5,false⟩],[]⟩] rfl rfl (by simp;exact ⟨rfl,rfl⟩) rfl
  ⟨⟨_,_,_,rfl,Sl.nil,Sl.nil,Sl.nil,by decide,by decide⟩,⟨_,_,_,rfl,Sl.nil,k,Sl.nil,by decide,by decide⟩,trivial⟩ fun L J j i _=>?_
 have t:=D.lift ⟨c.le⟩
 refine Y7 (cs:=J1.map S) j.sat t.flt rfl ?_
 refine O8 6 (fun n a w'=> ∃σ',Stp w σ w' σ'∧V5 w.heap.size T.a 8 U5 σ' w' a ([⟨Z7,[],[],false,false,false,[],[]⟩,⟨V8,Z7,[],false,false,false,[⟨I8,N5,false⟩],[]⟩]++(J1.take n).map fun n=>⟨n,V8,[],false,false,true,[],[]⟩)) ⟨σ1,c.trans j,i⟩ fun n a E d O g=>?_
 obtain ⟨N,o,f⟩:=g
 have C:J1.length=6:=rfl
 refine Z1 ?_
 refine Q5 (fun hh=>?_) (fun hh=>?_)
 ·have e:n<6:=by have:=of_decide_eq_true hh;omega
  refine Q9N (v:=S (J1[n]'(by omega))) e (by rw[List.getElem?_map,List.getElem?_eq_getElem (by omega)];rfl) ?_
  refine W0 (cells:= #[S (J1[n]'(by omega)),S V8, .slice none 0 0, .bool false, .bool false, .bool true, .slice none 0 0, .slice none 0 0]) (by kernel_rfl) ?_
  have m:(J1[n]'(by omega)).length≤10:=by
   have: ∀x∈J1,x.length≤10:=by decide
   exact this _ (List.getElem_mem _)
  refine Jy (x:=⟨J1[n]'(by omega),V8,[],false,false,true,[],[]⟩) o f ⟨_,_,_,rfl,Sl.nil,Sl.nil,Sl.nil,Nat.le_trans m (by decide),(by decide:V8.length≤J3)⟩ rfl rfl rfl (by simp;omega) (by simp;omega) fun s q H B A u r _=>?_
  refine D5 ?_
  refine Z6 (by omega) e ⟨B,u,?_⟩
  rw[List.take_add_one,List.getElem?_eq_getElem (by omega),List.map_append,←List.append_assoc]
  exact r
 ·have e: ¬n<6:=by have:=of_decide_eq_false hh;omega
  rw[List.take_of_length_le (by omega)] at f
  exact h _ _ _ o f)
end Go.Proofs.YtfppjenblllfaaaGreatDoor

namespace Go.Hm
open Go.Kd
def L2 {α:Type} (f:α→Int):List α→Nat→Option (Nat×Int)
 | [],_=>none
 | x::r,i=>if f x=0 then L2 f r (i+1) else some (i,f x)
theorem F3 {α:Type} {f:α→Int}: ∀{l:List α} {i:Nat},L2 f l i=none→ ∀x∈l,f x=0
 | [],_,_=>by simp
 | x::r,i,h=>by
  simp only[L2] at h
  split at h
  ·rename_i a
   intro y hy
   rcases List.mem_cons.1 hy with rfl | hy
   ·exact a
   ·exact F3 h y hy
  ·cases h
def Ei (a:List Cla):Option Nat:=(List.range a.length).find? fun i=>(Y4 (a.take i) (Y1 a i)).isSome
def Q6 (l:List Cla):List Cla:=B1++l
def Eg (a:Cla→Int) (l:List Cla):Option (Int×Int):=match L2 a l 0 with
 | some (i,e)=>some (i,e)
 | none=>match Ei (Q6 l) with
  | some i=>some ((i:Int)-8,60)
  | none=>match L2 (fun c=>(L4 (Q6 l) c:Int)) l 0 with
   | some (i,e)=>some (i,e)
   | none=>match l.findIdx? (F8 (Q6 l)) with
    | some i=>some (i,63)
    | none=>match (U6 (Q6 l) 8).find? fun j=> !decide (U8 (Q6 l) ((Q6 l).getD j Cla.zero)=0) with
     | some j=>some ((j:Int)-8,U8 (Q6 l) ((Q6 l).getD j Cla.zero))
     | none=>none
theorem Q3Q {s:X0} (h:name s=true):s.length≤32:=by
 cases s with
 | nil=>simp
 | cons c r=>simp only[name,Bool.and_eq_true,decide_eq_true_eq] at h;exact h.1.1
theorem Q92 {s:X0} (h:W6 s=true):s.length≤32:=Q3Q (Wd (by rw[h,Bool.or_true]))
theorem Q6V {s:X0} (h:L5 s=true):s.length≤32:=by
 cases s with
 | nil=>simp
 | cons c r=>simp only[L5,Bool.and_eq_true] at h;exact Q3Q h.1
theorem Bs {a:List Cla} (h:Ei a=none):G2 a:=by
 unfold Ei at h
 rw[List.find?_eq_none] at h
 unfold G2
 rw[List.nodup_iff_pairwise_ne,List.pairwise_iff_getElem]
 intro i j g b d e
 simp only[List.length_map] at g b
 have:=h j (by simp;exact b)
 apply this
 simp only[List.getElem_map] at e
 cases f:Y4 (a.take j) (Y1 a j) with
 | some _=>rfl
 | none=>
  have c:=List.findIdx?_eq_none_iff.1 f a[i] (List.mem_take_iff_getElem.2 ⟨i,by omega,rfl⟩)
  have k:Y1 a j=a[j].name:=by unfold Y1;rw[List.getD_eq_getElem?_getD,List.getElem?_eq_getElem b];rfl
  rw[k] at c
  simp[e] at c
theorem Zc: ∀c∈B1,P7 c∧Nm c∧c.like=[]:=by
 have h: ∀c∈B1,(c.like=[]∧c.methods=[]∧c.fields.length≤1∧c.name.length≤100∧ ∀f∈c.fields,f.name.length≤100∧f.kind.length≤100):=by decide
 intro c e
 obtain ⟨b,a,i,d,g⟩:=h c e
 refine ⟨⟨by rw[b];simp,by omega,by rw[a];simp,by rw[a];simp⟩,⟨d,g,by rw[a];simp⟩,b⟩
theorem Q9t: ∀c∈B1,(c.name=Z7∧J5 c=[[]])∨(c.name=V8∧J5 c=[Z7])∨(c.name∈J1∧J5 c=[V8]):=by decide
theorem Q4R {l:List Cla} (q:G2 (Q6 l)) (w: ∀c∈l,c.name≠[]) (v: ∀c∈l,F8 (Q6 l) c=false):Yg (Q6 l):=by
 have k:lk (Q6 l) []=none:=by
  cases h:lk (Q6 l) [] with
  | none=>rfl
  | some c=>
   obtain ⟨e,hm,_⟩:=U3 h
   rcases List.mem_append.1 hm with hm | hm
   ·have: ∀c∈B1,c.name≠[]:=by decide
    exact absurd e (this c hm)
   ·exact absurd e (w c hm)
 have j:lk (Q6 l) Z7=some ⟨Z7,[],[],false,false,false,[],[]⟩:=q.lk (c:=⟨Z7,[],[],false,false,false,[],[]⟩) (List.mem_append_left _ (by decide))
 have i:lk (Q6 l) V8=some ⟨V8,Z7,[],false,false,false,[⟨I8,N5,false⟩],[]⟩:=q.lk (c:=⟨V8,Z7,[],false,false,false,[⟨I8,N5,false⟩],[]⟩) (List.mem_append_left _ (by decide))
 have p: ∀b,¬Reach (lk (Q6 l)) [] b:=fun b h=>by obtain ⟨c,d⟩:=h.left;rw[k] at d;cases d
 have o: ∀b,Reach (lk (Q6 l)) Z7 b→b=Z7:=by
  intro b h
  cases h with
  | refl=>rfl
  | step d f g=>
   rw[j] at d;cases d
   simp[J5] at f;subst f
   exact absurd g (p b)
 have r: ∀b,Reach (lk (Q6 l)) V8 b→b=V8∨b=Z7:=by
  intro b h
  cases h with
  | refl=>exact .inl rfl
  | step d f g=>
   rw[i] at d;cases d
   simp[J5] at f;subst f
   exact .inr (o b g)
 rintro a ⟨c,d,u,f,g⟩
 obtain ⟨e,hm,_⟩:=U3 d
 rcases List.mem_append.1 hm with hm | hm
 ·rcases Q9t c hm with ⟨m,n⟩ | ⟨m,n⟩ | ⟨m,n⟩<;>rw[n] at f<;>simp at f<;>subst f
  ·exact p _ g
  ·have:=o _ g
   rw[←e,m] at this
   exact absurd this (by decide)
  ·have z: ∀x∈J1,x≠V8∧x≠Z7:=by decide
   obtain ⟨t,y⟩:=z _ m
   rw[←e] at g
   rcases r _ g with h | h
   ·exact t h
   ·exact y h
 ·have:=v c hm
  unfold F8 at this
  have s:=List.any_eq_false.1 this u f
  apply s
  rw[List.contains_iff_mem,Zu,e];exact g
end Go.Hm
namespace Go.Proofs.YtfppjenblllfaaaGreatDoor
open Go.Emb Go.RowKit Go.Kd Go.Hm
theorem Q2u {s:X0} (h:right s=true):s.length≤38:=by
 simp only[right,Bool.and_eq_true,decide_eq_true_eq] at h
 have e:=As s
 have:(base s).1.length≤32:=by
  have d:=h.2
  have a:=Wd d
  cases b:(base s).1 with
  | nil=>simp
  | cons c r=>
   rw[b] at a
   simp only[name,Bool.and_eq_true,decide_eq_true_eq] at a
   exact a.1.1
 omega
theorem Rz {c:Cla} (h:L6 c=0):P7 c∧Nm c∧c.name≠[]:=by
 unfold L6 at h
 split at h
 ·cases h
 ·rename_i b
  split at h
  ·rename_i g
   simp only[Xv,Bool.or_eq_true,decide_eq_true_eq,not_or,List.any_eq_true,not_exists,not_and] at b
   obtain ⟨⟨⟨l,s⟩,A⟩,t⟩:=b
   simp only[Ld,Bool.and_eq_true] at g
   obtain ⟨⟨⟨⟨⟨⟨⟨⟨r,B⟩,u⟩,y⟩,z⟩,v⟩,w⟩,n⟩,k⟩:=g
   have a:W6 c.name=true:=List.all_eq_true.1 r c.name (by simp)
   have d: ∀m∈c.methods,m.params.length≤32∧m.catches.length≤32∧m.code.length≤200:=fun m b=>by
    have:=l m b
    simp only[Uh,Bool.or_eq_true,decide_eq_true_eq,not_or] at this
    omega
   refine ⟨⟨by omega,by omega,by omega,fun m b=>by have:=d m b;unfold SmM;omega⟩,⟨by have:=Q92 a;omega,fun f o=>?_,fun m b=>?_⟩,fun e=>by rw[e] at a;simp[W6] at a⟩
   ·have:=List.all_eq_true.1 n f o
    simp only[Oe,Bool.and_eq_true] at this
    have i:=Q6V this.1
    have j:=Q2u this.2
    omega
   ·have:=List.all_eq_true.1 k m b
    simp only[C9,Bool.and_eq_true,Bool.or_eq_true,decide_eq_true_eq,List.all_eq_true] at this
    obtain ⟨⟨⟨_,i⟩,j⟩,_⟩:=this
    refine ⟨?_,fun p q=>by have:=Q2u (i p q);omega⟩
    rcases j with e | e
    ·rw[e];simp
    ·have:=Q2u e;omega
  ·cases h
end Go.Proofs.YtfppjenblllfaaaGreatDoor

namespace Go.Hm
open Go.Kd
theorem Ue {α:Type} {f:α→Int} {xs:List α} {n:Nat} (h:n<xs.length) (a:L2 f xs 0=L2 f (xs.drop n) n):L2 f xs 0=if f xs[n]=0 then L2 f (xs.drop (n+1)) (n+1) else some (n,f xs[n]):=by
 rw[a,List.drop_eq_getElem_cons h];rfl
theorem Q7r {a:List Cla} {n:Nat} (h:n<a.length) (k:X0):Y4 (a.take (n+1)) k=match Y4 (a.take n) k with
 | some i=>some i
 | none=>if a[n].name=k then some n else none:=by
 unfold Y4
 rw[List.take_add_one,List.getElem?_eq_getElem h]
 simp only[Option.toList_some,List.findIdx?_append]
 cases (a.take n).findIdx? fun c=>decide (c.name=k) with
 | some i=>rfl
 | none=>
  simp only[Option.none_or,List.findIdx?_cons,List.findIdx?_nil,List.length_take]
  by_cases e:a[n].name=k
  ·simp[e];omega
  ·simp[e]
end Go.Hm
namespace Go.Proofs.YtfppjenblllfaaaGreatDoor
open Go.Emb Go.RowKit Go.Kd Go.Hm
variable {w : World} {K : Value → World → Prop} {σ : Q4} {v : Value} {l : List Cla}
theorem Bo {a:List Cla} {n:Nat} (h:n<a.length):Y1 a n=a[n].name:=by unfold Y1;rw[List.getD_eq_getElem?_getD,List.getElem?_eq_getElem h];rfl
set_option maxHeartbeats 1000000 in
theorem X2l {lv:Value} (hs:X4 w σ) (hg:Glb σ) (hl:Sl 8 U5 σ lv l) (hlen:l.length≤1000) (hsm: ∀c∈l,P7 c)
 (h1: ∀i e w' σ',Eg L6 l=some (i,e)→Stp w σ w' σ'→K (.tuple #[.pointer none,I i,I e]) w')
 (h0: ∀v w' σ',Eg L6 l=none→Stp w σ w' σ'→Tab σ' v (Q6 l)→Ok (Q6 l)→G2 (Q6 l)→K (.tuple #[v,I 0,I 0]) w'):Q0 P F.cE [lv] w K:=Q6z (by
 unfold Q1v
 have hgl:B1.length=8:=rfl
 have hal:(Q6 l).length=8+l.length:=by simp[Q6,hgl]
 refine X0A hs hg fun x0 w1 σ1 hk1 ha1=>?_
 refine An hk1.sat fun r w2 hr hk2 hm2=>?_
 have ha2:=ha1.up hk2
 have hx0:x0.cells= #[x0]∧x0.oneCell'=true:=Q2I ha1
 have hx0s: ∃a n c,x0= .slice a n c:=by
  obtain ⟨cells,q1,_⟩:=ha1
  rcases q1.2 with ⟨rfl,_⟩ | ⟨g,cap,cur,rfl,_⟩<;>exact ⟨_,_,_,rfl⟩
 have hx0r:x0.ownBlock≠some r:=fun e=>by have:=(ha1.mem r e).2.1;omega
 obtain ⟨a0,n0,c0,hx0e⟩:=hx0s
 rw[hx0e]
 refine W0 (cells:= #[.slice a0 n0 c0, .map (some r)]) (by kernel_rfl) ?_
 rw[←hx0e]
 refine Ao (cs:=[x0, .map (some r)]) hk2.sat fun bt w3 σ3 hbt hk3 hbm=>?_
 have hS3:=(hk1.trans hk2).trans hk3
 have ha3:=ha2.up hk3
 have hm3:=hm2.up hk3
 have hrw:w.heap.size≤r:=Nat.le_trans hk1.bel.size hr
 have hrl:r<w2.heap.size:=hm2.lt
 have hbtw:w.heap.size≤bt:=Yi hbt (hk1.trans hk2)
 have hrbt:r≠bt:=by omega
 have hx0b:x0.ownBlock≠some bt:=fun e=>by have:=(ha2.mem bt e).2.1;omega
 rw[E6,fa]
 refine Ub hbm rfl ?_
 refine Q6D ha3 ?_
 rw[hgl]
 have hl3:=hl.up hS3
 refine Q8 hl3 ?_
 -- classes, each by itself
 refine Z8 l.length (fun n w'=> ∃σ' x,Stp w σ w' σ'∧SLe σ3 σ'∧Z5 σ' w' bt [x, .map (some r)]∧V5 w.heap.size T.a 8 U5 σ' w' x (B1++l.take n)∧D7 σ' w' r []∧x.ownBlock≠some bt∧x.ownBlock≠some r∧L2 L6 l 0=L2 L6 (l.drop n) n)
  ⟨σ3,x0,hS3,SLe.refl _,hbm,by simpa using ha3,hm3,hx0b,hx0r,rfl⟩ fun n w4 d hn hinv=>?_
 obtain ⟨σ4,x,hS4,le4,hb4,ha4,hm4,hxb,hxr,hfb⟩:=hinv
 refine Z1 ?_
 refine Q5 (fun hh=>?_) (fun hh=>?_)
 ·have hn':n<l.length:=by simpa using hh
  refine L7 (hl3.lift le4) hn' fun p cells hl1 hl2 hr1=>?_
  refine Y7 hS4.sat hl1 hl2 ?_
  refine Y6 hS4.sat (by rfl) hl2 (Rep.one hr1) fun q w5 σ5 hk5 hq5=>?_
  have hS5:=hS4.trans hk5
  have hr5:=RCl_lift hr1 ⟨hk5.le⟩
  refine Y7 hk5.sat hq5 hl2 ?_
  have hsmn:=hsm _ (List.getElem_mem hn')
  refine X0X hk5.sat (hg.lift ⟨hS5.le⟩) hr5 hsmn.1 fun w6 σ6 hk6=>?_
  have hS6:=hS5.trans hk6
  have hfb2:=Ue hn' hfb
  refine Xg ?_
  refine Q5 (fun hh2=>?_) (fun hh2=>?_)
  ·have hne: ¬L6 l[n]=0:=by simpa using hh2
   rw[if_neg hne] at hfb2
   refine h1 _ _ _ _ ?_ hS6
   unfold Eg
   rw[hfb2]
  ·have hz:L6 l[n]=0:=by simpa using hh2
   rw[if_pos hz] at hfb2
   have hk56:=hk5.trans hk6
   have hb6:=hb4.up hk56
   have ha6:=ha4.up hk56
   have hm6:=hm4.up hk56
   have hq6:=hq5.up hk6
   have hr6:=RCl_lift hr5 ⟨hk6.le⟩
   have hxs: ∀k,x.ownBlock=some k→k<w6.heap.size:=fun k hk=>(ha6.mem k hk).2.1
   refine V2 hk6.sat ?_
   refine X2 (.pointer (some ⟨bt,0,none⟩)) (fun w hb=>by rw[E6];exact X5 rfl) ?_
   refine X2 (.pointer (some ((⟨bt,0,none⟩:Addr).add 0))) (fun t w hb e=>by rw[e,fa];exact X5 rfl) ?_
   refine X2 x (fun t w hb e=>by rw[e];exact Ub (hb6.step hb.stp) rfl (X5 rfl)) ?_
   refine X2 (.agg cells.toArray) (fun w hb=>Y7 hb.sat hq6 hl2 (X5 rfl)) ?_
   refine Rp (Φ:=fun σ' v=> ∃ds:List Value,v= .agg ds.toArray∧ds.length=8∧U5 σ' l[n] ds) (fun t w hb e=>by
    rw[e];exact Q9f hb.sat hr6 hsmn fun lv fv mv w' σ' hk hrc=>Q13 hb hk ⟨_,rfl,rfl,hrc⟩) ?_
   refine Rp (w:=w6) (σ:=σ6) (Φ:=fun σ' v=>Sl 8 U5 σ' v [l[n]]) (fun t w hb e=>by
    obtain ⟨σ',hk,ds,rfl,hd1,hd2⟩:=e
    refine D6 (R:=U5) (sz:=8) hk.sat [.agg ds.toArray] [l[n]] rfl rfl (by simpa [Value.cells] using hd1) rfl ⟨by simpa [Value.cells] using hd2,trivial⟩ fun u w2 σ2 hk2 hu=>?_
    exact ⟨hk2.bel,σ2,hk.trans hk2,hu⟩) ?_
   rintro t43 t44 t45 t46 t47 t48 w7 hb7 _ _ e45 _ _ ⟨σ8,hk8,hu8⟩
   subst e45
   have hS8:=hS6.trans hk8
   have hb8:=hb6.up hk8
   have ha8:=ha6.up hk8
   have hm8:=hm6.up hk8
   have hbl:=hb6.lt
   have hml:=hm6.lt
   refine Ox hS8 ha8 hu8 rfl (by simp[hgl];omega) (by simp[hgl];omega) fun x' w9 hn9 hS9 ha9 hat9=>?_
   have hb9:=hb8.nx hn9 hxb
   have hm9:=hm8.nx hn9 hxr
   have hxb':x'.ownBlock≠some bt:=fun e=>by
    rcases hat9 with e2 | e2
    ·exact hxb (e2▸e)
    ·have:=e2 bt e;have:=hk8.bel.size;omega
   have hxr':x'.ownBlock≠some r:=fun e=>by
    rcases hat9 with e2 | e2
    ·exact hxr (e2▸e)
    ·have:=e2 r e;have:=hk8.bel.size;omega
   obtain ⟨hxc1,hxc2⟩:=Q2I ha9
   rw[E6,fa]
   refine Lv hb9 (by simp) hxc1 hxc2 fun w10 u10 hb10=>?_
   have hS10:=u10.stp hS9 hbtw hb9.1
   have k10:Kpt (fun k=>k=bt) w9 w10:=Kpt.of_upd u10 rfl
   refine D5 ?_
   refine Y2 hl3.max hn' ⟨σ8,x',hS10,le4.more ⟨fun b o e=>hk8.le _ _ (hk56.le _ _ e)⟩,hb10,?_,hm9.kp k10 hrbt,hxb',hxr',hfb2⟩
   have:=ha9.kp k10 fun k hk e=>hxb' (e▸hk)
   rw[List.take_add_one,List.getElem?_eq_getElem hn',←List.append_assoc]
   exact this
 have hn': ¬n<l.length:=by simpa using hh
 rw[List.take_of_length_le (by omega)] at ha4
 rw[List.drop_eq_nil_of_le (by omega)] at hfb
 have hfb:L2 L6 l 0=none:=hfb
 have hck:=F3 hfb
 have hcf: ∀c∈l,P7 c∧Nm c∧c.name≠[]:=fun c hc=>Rz (hck c hc)
 have hsmall: ∀c∈Q6 l,P7 c:=fun c hc=>by
  rcases List.mem_append.1 hc with hc | hc
  ·exact (Zc c hc).1
  ·exact (hcf c hc).1
 have hnmall: ∀c∈Q6 l,Nm c:=fun c hc=>by
  rcases List.mem_append.1 hc with hc | hc
  ·exact (Zc c hc).2.1
  ·exact (hcf c hc).2.1
 have hlenall:(Q6 l).length≤100000:=by omega
 unfold Eg at h1 h0
 rw[hfb] at h1 h0
 simp only at h1 h0
 -- from now on the classes stay
 obtain ⟨σ5,hS5,hv5,le5,old5⟩:=ha4.keep hS4
 have hb5:Z5 σ5 w4 bt _:=⟨(old5 bt fun e=>hxb e.symm).trans hb4.1,hb4.2⟩
 have hm5:D7 σ5 w4 r []:=⟨(old5 r fun e=>hxr e.symm).trans hm4.1,hm4.2⟩
 obtain ⟨σ6,hS6,hb6,le6,old6⟩:=hb5.keep hS5 hbtw
 have hm6:D7 σ6 w4 r []:=⟨(old6 r hrbt).trans hm5.1,hm5.2⟩
 have hv6:Sl 8 U5 σ6 x (Q6 l):=hv5.le le6
 clear hb5 hb4 ha4
 rw[E6,fa]
 refine ld hS6.sat hb6 rfl ?_
 refine Q8 hv6 ?_
 refine Z8 (Q6 l).length (fun n w'=> ∃σ' m,Stp w σ w' σ'∧SLe σ6 σ'∧D7 σ' w' r m∧(∀k,L9 m k=(Y4 ((Q6 l).take n) k).map (fun i:Nat=>I (i:Int)))∧ ∀j,j<n→(Y4 ((Q6 l).take j) (Y1 (Q6 l) j)).isSome=false)
  ⟨σ6,[],hS6,SLe.refl _,hm6,by simp[L9,Y4],by intro j hj;omega⟩ fun n w5 d hn2 hinv=>?_
 obtain ⟨σ7,m,hS7,le7,hm7,hlm,hnd⟩:=hinv
 refine Z1 ?_
 refine Q5 (fun hh2=>?_) (fun hh2=>?_)
 ·have hn3:n<(Q6 l).length:=by simpa using hh2
  refine L7 (hv6.lift le7) hn3 fun p cells hl1 hl2 hr1=>?_
  refine Y7 hS7.sat hl1 hl2 ?_
  refine Y6 hS7.sat (by rfl) hl2 (Rep.one hr1) fun q w6 σ8 hk8 hq8=>?_
  obtain ⟨lv',fv,mv,rfl,f1,f2,f3,f4,f5⟩:=hr1
  have hS8:=hS7.trans hk8
  have le8:SLe σ6 σ8:=le7.more ⟨hk8.le⟩
  have hm8:=hm7.up hk8
  have hb8:=hb6.lift le8
  rw[fa]
  refine ld hk8.sat hq8 rfl ?_
  refine Nt ?_
  unfold Yt
  rw[E6,fa]
  refine ld hk8.sat hb8 rfl ?_
  refine Q4P X7 hm8.2 _ ?_
  refine J8 (vs:=[_,_]) rfl ?_
  refine J8 (vs:=[_,_]) rfl ?_
  have hna:=Bo hn3
  have hfd:=hlm (Q6 l)[n].name
  cases hfc:Y4 ((Q6 l).take n) (Q6 l)[n].name with
  | some i=>
   rw[hfc] at hfd
   rw[hfd]
   refine V9 ?_
   have hdup:Ei (Q6 l)=some n:=by
    unfold Ei
    rw[List.find?_range_eq_some]
    refine ⟨by rw[hna,hfc];rfl,by simpa using hn3,fun j hj=>by rw[hnd j hj];rfl⟩
   refine Dm ⟨by omega,by omega⟩ ?_
   refine h1 _ _ _ _ ?_ hS8
   rw[hdup]
   rfl
  | none=>
   rw[hfc] at hfd
   rw[hfd]
   refine V7 ?_
   refine V2 hk8.sat ?_
   refine X2 (.pointer (some ⟨bt,0,none⟩)) (fun w hb=>by rw[E6];exact X5 rfl) ?_
   refine X2 (.pointer (some ((⟨bt,0,none⟩:Addr).add 1))) (fun t w hb e=>by rw[e,fa];exact X5 rfl) ?_
   refine X2 (.pointer (some (q.add 0))) (fun w hb=>by rw[fa];exact X5 rfl) ?_
   refine X2 (.map (some r)) (fun t w hb e=>by rw[e];exact ld hb.sat hb8 rfl (X5 rfl)) ?_
   refine X2 (S (Q6 l)[n].name) (fun t w hb e=>by rw[e];exact ld hb.sat hq8 rfl (X5 rfl)) ?_
   rintro t71 t72 t74 t73 t75 w9 hb9 _ _ _ rfl rfl
   refine De X7 (hm8.up hb9.stp) _ (I n) fun w10 u10 hm10=>?_
   have hS9:=hS8.trans hb9.stp
   have hS10:=u10.stp hS9 hrw hm10.1
   refine D5 ?_
   refine Y2 (by omega) hn3 ⟨σ8,_,hS10,le8,hm10,fun k=>?_,fun j hj=>?_⟩
   ·rw[Q39,Q7r hn3 k]
    by_cases e:(Q6 l)[n].name=k
    ·subst e
     rw[if_pos rfl,hfc];simp
    ·rw[if_neg e,hlm k]
     cases Y4 ((Q6 l).take n) k with
     | some i=>rfl
     | none=>simp[e]
   ·by_cases e:j=n
    ·subst e;rw[hna,hfc];rfl
    ·exact hnd j (by omega)
 have hn3: ¬n<(Q6 l).length:=by simpa using hh2
 have hne:n=(Q6 l).length:=by omega
 subst hne
 rw[List.take_of_length_le (Nat.le_refl _)] at hlm
 have hdup:Ei (Q6 l)=none:=by
  unfold Ei
  rw[List.find?_eq_none]
  intro j hj
  rw[hnd j (by simpa using hj)];simp
 rw[hdup] at h1 h0
 simp only at h1 h0
 have hown:=Bs hdup
 obtain ⟨σ8,hS8,hm8,le8,_⟩:=hm7.keep hS7 hrw
 have le68:SLe σ6 σ8:=le7.more ⟨le8⟩
 have ht8:Tab σ8 (.pointer (some ⟨bt,0,none⟩)) (Q6 l):=⟨⟨bt,0,none⟩,x,r,m,rfl,hb6.lift le68,hv6.lift le68,hm8,hlm⟩
 have hb8:=hb6.lift le68
 have hv8:=hv6.lift le68
 clear hm7 hm8 hh2 hn3 hn2 hh hn' hn hnd
 have hdr:(Q6 l).drop 8=l:=by simp[Q6,hgl]
 rw[E6,fa]
 refine ld hS8.sat hb8 rfl ?_
 refine Cp hv8 (some (I (8:Nat))) none 8 (Q6 l).length (.inr rfl) (.inl ⟨rfl,rfl⟩) (by omega) (Nat.le_refl _) fun v9 hv9=>?_
 rw[hdr,List.take_of_length_le (by omega)] at hv9
 refine Q8 hv9 ?_
 refine Z8 l.length (fun n w'=> ∃σ',Stp w σ w' σ'∧SLe σ8 σ'∧L2 (fun c=>(L4 (Q6 l) c:Int)) l 0=L2 (fun c=>(L4 (Q6 l) c:Int)) (l.drop n) n) ⟨σ8,hS8,SLe.refl _,rfl⟩ fun n w6 d hn hinv=>?_
 obtain ⟨σ9,hS9,le9,hfu⟩:=hinv
 refine Z1 ?_
 refine Q5 (fun hh=>?_) (fun hh=>?_)
 ·have hn':n<l.length:=by simpa using hh
  refine L7 (hv9.lift le9) hn' fun p cells hl1 hl2 hr1=>?_
  refine Y7 hS9.sat hl1 hl2 ?_
  refine Y6 hS9.sat (by rfl) hl2 (Rep.one hr1) fun q w7 σ10 hk10 hq10=>?_
  have hS10:=hS9.trans hk10
  refine Y7 hk10.sat hq10 hl2 ?_
  have hfu2:=Ue hn' hfu
  refine Q94 hk10.sat (ht8.lift (le9.more ⟨hk10.le⟩)) (RCl_lift hr1 ⟨hk10.le⟩) fun w8 σ11 hk11=>?_
  refine Xg ?_
  refine Q5 (fun hh2=>?_) (fun hh2=>?_)
  ·have hne: ¬(L4 (Q6 l) l[n]:Int)=0:=by simpa using hh2
   rw[if_neg hne] at hfu2
   refine h1 _ _ _ _ ?_ (hS10.trans hk11)
   rw[hfu2]
  ·have hz:(L4 (Q6 l) l[n]:Int)=0:=by simpa using hh2
   rw[if_pos hz] at hfu2
   refine D5 ?_
   exact Y2 hl3.max hn' ⟨σ11,hS10.trans hk11,le9.more ⟨fun b o e=>hk11.le _ _ (hk10.le _ _ e)⟩,hfu2⟩
 have hn': ¬n<l.length:=by simpa using hh
 rw[List.drop_eq_nil_of_le (by omega)] at hfu
 have hfu:L2 (fun c=>(L4 (Q6 l) c:Int)) l 0=none:=hfu
 rw[hfu] at h1 h0
 simp only at h1 h0
 have hup:=F3 hfu
 have ht9:=ht8.lift le9
 clear hh hn' hn
 rw[E6,fa]
 refine ld hS9.sat (hb8.lift le9) rfl ?_
 refine Cp (hv8.lift le9) (some (I (8:Nat))) none 8 (Q6 l).length (.inr rfl) (.inl ⟨rfl,rfl⟩) (by omega) (Nat.le_refl _) fun v10 hv10=>?_
 rw[hdr,List.take_of_length_le (by omega)] at hv10
 rw[Qf]
 refine Ci (F8 (Q6 l)) hS9.sat hv10 (fun c cs w7 K hc hs7 hr hlen hK=>Y8 (first:=[.pointer (some ⟨bt,0,none⟩)]) (caps:=[]) ?_) fun w7 hb7=>?_
 ·exact X0R hs7 ht9 hlenall hsmall hr fun w' σ' hk=>hK w' hk.bel
 have hS10:=hS9.trans (Stp.of_below hS9.sat hb7)
 refine Zm ?_
 rw[Zw]
 cases hlo:l.findIdx? (F8 (Q6 l)) with
 | some i=>
  refine V9 ?_
  refine h1 _ _ _ _ ?_ hS10
  rw[hlo];rfl
 | none=>
  rw[hlo] at h1 h0
  simp only at h1 h0
  refine V7 ?_
  have hlo': ∀c∈l,F8 (Q6 l) c=false:=fun c hc=>List.findIdx?_eq_none_iff.1 hlo c hc
  have hacy:=Q4R hown (fun c hc=>(hcf c hc).2.2) hlo'
  have hfull:Q90 (Q6 l):=fun c hc u hu=>by
   rcases List.mem_append.1 hc with hc | hc
   ·rw[(Zc c hc).2.2] at hu;simp at hu
   ·have:=hup c hc
    unfold L4 at this
    split at this
    ·simp at this
    ·split at this
     ·simp at this
     ·rename_i hnb
      have hnb:c.like.any (O5 (Q6 l))=false:=eq_false_of_ne_true hnb
      have:=List.any_eq_false.1 hnb u hu
      unfold O5 at this
      cases hd:lk (Q6 l) u with
      | none=>rw[hd] at this;simp at this
      | some d=>exact ⟨d,rfl⟩
  have hok:Ok (Q6 l):=⟨hacy,hlenall,hsmall,hfull,hnmall⟩
  refine X11 (frm:=8) hS10.sat (ht9.lift ⟨(Stp.of_below hS9.sat hb7).le⟩) hacy hown hlenall hsmall (by omega) (by omega) fun v11 w8 σ11 hk11 hv11 hol hoi=>?_
  have hS11:=hS10.trans hk11
  have ht11:=ht9.lift ⟨fun b o e=>hk11.le _ _ e⟩
  refine Q8 hv11 ?_
  have hil:(ints (U6 (Q6 l) 8)).length=(U6 (Q6 l) 8).length:=by simp
  rw[hil]
  refine Z8 (U6 (Q6 l) 8).length (fun n w'=> ∃σ',Stp w σ w' σ'∧SLe σ11 σ'∧ ∀j∈(U6 (Q6 l) 8).take n,U8 (Q6 l) ((Q6 l).getD j Cla.zero)=0) ⟨σ11,hS11,SLe.refl _,by simp⟩ fun n w9 d hn hinv=>?_
  obtain ⟨σ12,hS12,le12,hno⟩:=hinv
  refine Z1 ?_
  refine Q5 (fun hh=>?_) (fun hh=>?_)
  ·have hn':n<(U6 (Q6 l) 8).length:=by simpa using hh
   refine L7 (hv11.lift le12) (by rw[hil];exact hn') fun p cells hl1 hl2 hr1=>?_
   obtain ⟨rfl,_⟩:=hr1
   refine X8 hS12.sat hl1 rfl ?_
   simp only[List.getElem_map]
   rw[E6,fa]
   have le8x:SLe σ8 σ12:=le9.more (SLe.more ⟨hk11.le⟩ le12)
   refine ld hS12.sat (hb8.lift le8x) rfl ?_
   have hji:=hoi _ (List.getElem_mem hn')
   refine L7 (hv8.lift le8x) hji fun p2 cells hl1 hl2 hr1=>?_
   refine Y7 hS12.sat hl1 hl2 ?_
   have hat:(Q6 l).getD (U6 (Q6 l) 8)[n] Cla.zero=(Q6 l)[(U6 (Q6 l) 8)[n]]:=by rw[List.getD_eq_getElem?_getD,List.getElem?_eq_getElem hji];rfl
   have hmem:=List.getElem_mem hji
   refine Q8x hS12.sat (ht11.lift le12) hok hr1 (hsmall _ hmem) (hnmall _ hmem) fun w10 σ13 hk13=>?_
   have hS13:=hS12.trans hk13
   refine Xg ?_
   refine Q5 (fun hh2=>?_) (fun hh2=>?_)
   ·have hne: ¬U8 (Q6 l) (Q6 l)[(U6 (Q6 l) 8)[n]]=0:=by simpa using hh2
    refine Dm ⟨by omega,by omega⟩ ?_
    have hfind:(U6 (Q6 l) 8).find? (fun j=> !decide (U8 (Q6 l) ((Q6 l).getD j Cla.zero)=0))=some (U6 (Q6 l) 8)[n]:=by
     rw[List.find?_eq_some_iff_getElem]
     refine ⟨by rw[hat];simpa using hne,n,hn',rfl,fun j hj=>?_⟩
     have:=hno _ (List.mem_take_iff_getElem.2 ⟨j,by omega,rfl⟩)
     rw[this];simp
    have:=h1 (((U6 (Q6 l) 8)[n]:Int)-8) (U8 (Q6 l) (Q6 l)[(U6 (Q6 l) 8)[n]]) w10 σ13 (by rw[hfind];simp only[hat]) hS13
    exact this
   ·have hz:U8 (Q6 l) (Q6 l)[(U6 (Q6 l) 8)[n]]=0:=by simpa using hh2
    refine D5 ?_
    refine Y2 (by omega) hn' ⟨σ13,hS13,le12.more ⟨hk13.le⟩,fun j hj=>?_⟩
    rw[List.take_add_one,List.getElem?_eq_getElem hn'] at hj
    rcases List.mem_append.1 hj with hj | hj
    ·exact hno j hj
    ·simp at hj;subst hj;rw[hat];exact hz
  ·have hn': ¬n<(U6 (Q6 l) 8).length:=by simpa using hh
   rw[List.take_of_length_le (by omega)] at hno
   have hfind:(U6 (Q6 l) 8).find? (fun j=> !decide (U8 (Q6 l) ((Q6 l).getD j Cla.zero)=0))=none:=by
    rw[List.find?_eq_none]
    intro j hj
    rw[hno j hj];simp
   rw[hfind] at h0
   exact h0 _ _ _ rfl hS12 (ht11.lift le12) hok hown)
end Go.Proofs.YtfppjenblllfaaaGreatDoor

namespace Go.Hm
open Go.Kd
def Q8d (m:Hm.Met):Bool:= !(decide (50<m.code.length)||decide (8<m.params.length)||decide (8<m.catches.length))
def Q9e (c:Cla):Bool:= !(decide (6<c.like.length)||decide (6<c.fields.length)||decide (6<c.methods.length))&&c.methods.all Q8d
def Q99 (l:List Cla):Bool:= !decide (12<l.length)&&l.all Q9e
def sA:X0:=[65]
theorem Q7V {l:List Cla} (h:Q99 l=true):l.length≤12∧ ∀c∈l,Q9e c=true:=by
 simp only[Q99,Bool.and_eq_true,Bool.not_eq_true',decide_eq_false_iff_not,List.all_eq_true] at h
 exact ⟨by omega,h.2⟩
theorem X1J {l:List Cla} (h:Q99 l=true): ∀c∈l,P7 c:=by
 intro c e
 have:=(Q7V h).2 c e
 simp only[Q9e,Q8d,Bool.and_eq_true,Bool.not_eq_true',Bool.or_eq_false_iff,decide_eq_false_iff_not,List.all_eq_true] at this
 obtain ⟨⟨⟨a,b⟩,g⟩,d⟩:=this
 refine ⟨by omega,by omega,by omega,fun m f=>?_⟩
 obtain ⟨⟨p,q⟩,r⟩:=d m f
 exact ⟨by omega,by omega,by omega⟩
end Go.Hm
namespace Go.Proofs.YtfppjenblllfaaaGreatDoor
open Go.Emb Go.RowKit Go.Kd Go.Hm
variable {w : World} {K : Value → World → Prop} {σ : Q4} {v : Value} {l : List Cla}
end Go.Proofs.YtfppjenblllfaaaGreatDoor

namespace Go.Proofs.YtfppjenblllfaaaGreatDoor
open Go.Emb Go.RowKit Go.Kd Go.Hm
variable {w : World} {K : Value → World → Prop} {σ : Q4} {v : Value} {l : List Cla}
theorem X25:P.underlying T.s=some (.pointer T.u):=by kernel_rfl
theorem Q9g (d:Nat) (o:Option Addr):(Op.equalIn (d+1) T.s (.pointer o) (.pointer none)).run P w= .ok o.isNone w:=by
 cases o<;>simp[Op.equalIn,run_underlying X25]
theorem Q7L {a:Addr} {b c:Operand} (h:K (.bool false) w):Q3 P .eql T.s b c (.pointer (some a)) (.pointer none) w K:=by
 have e:(Op.equal T.s (.pointer (some a)) (.pointer none)).run P w= .ok false w:=Q9g 9999 _
 unfold Q3
 rw[X9 (v:= .bool false) (w':=w) (by simp[eqGuard,Go.binOp,e])]
 exact h
end Go.Proofs.YtfppjenblllfaaaGreatDoor

namespace Go.Hm
open Go.Kd
theorem Q46 {l:List Cla} {frm:Nat}: ∀(f:Nat) (a:List Nat) (i:Nat),(∀y∈a,y∈G6 l frm f a i)∧(0<f→frm≤i→i∈G6 l frm f a i):=by
 intro f
 induction f with
 | zero=>intro a i;exact ⟨fun y b=>b,fun h=>by omega⟩
 | succ f g=>
  intro a i
  have c: ∀(d:List X0) (o:List Nat),∀y∈o,y∈d.foldl (fun a n=>G6 l frm f a ((Y4 l n).getD 0)) o:=by
   intro d
   induction d with
   | nil=>intro o y b;exact b
   | cons u r e=>intro o y b;exact e _ y ((g o _).1 y b)
  simp only[G6]
  split
  ·exact ⟨fun y b=>b,fun _ h=>by omega⟩
  ·split
   ·rename_i h;exact ⟨fun y b=>b,fun _ _=>h⟩
   ·exact ⟨fun y b=>List.mem_append_left _ (c _ _ y b),fun _ _=>by simp⟩
theorem Q7N {l:List Cla} {frm i:Nat} (e:frm≤i) (f:i<l.length):i∈U6 l frm:=by
 unfold U6
 have key: ∀(is b:List Nat),(∀y∈b,y∈is.foldl (fun b i=>G6 l frm (l.length+1) b i) b)∧(i∈is→i∈is.foldl (fun b i=>G6 l frm (l.length+1) b i) b):=by
  intro is
  induction is with
  | nil=>intro b;exact ⟨fun y d=>d,fun h=>by simp at h⟩
  | cons a r c=>
   intro b
   refine ⟨fun y d=>(c _).1 y ((Q46 _ _ _).1 y d),fun h=>?_⟩
   rcases List.mem_cons.1 h with rfl | h
   ·exact (c _).1 _ ((Q46 _ _ _).2 (by omega) e)
   ·exact (c _).2 h
 refine (key _ _).2 ?_
 rw[List.mem_drop_iff_getElem]
 exact ⟨i-frm,by simp;omega,by simp;omega⟩
theorem Q7F {s:X0} (h:W6 s=true):name s=true:=Wd (by rw[h,Bool.or_true])
theorem Q4J {a:X0} (h:name a=true):H5 a=false:=by
 cases d:H5 a with
 | false=>rfl
 | true=>
  exfalso
  have e:2≤a.length∧a.drop (a.length-2)=[91,93]:=by simpa [H5] using d
  have b:(93:UInt8)∈a:=List.mem_of_mem_drop (i:=a.length-2) (by rw[e.2];simp)
  cases a with
  | nil=>simp at b
  | cons c r=>
   simp only[name,Bool.and_eq_true,List.all_eq_true] at h
   have:=h.2 _ b
   revert this;decide
end Go.Hm
namespace Go.Proofs.YtfppjenblllfaaaGreatDoor
open Go.Emb Go.RowKit Go.Kd Go.Hm
theorem Q7X {a:X0} (h:name a=true):base a=(a,0):=by rw[Uw,Q4J h];simp
theorem Ow {s:X0} (h:W6 s=true):H5 s=false∧base s=(s,0)∧right s=true∧plain s=false∧elem s=[]∧s≠C2∧s≠[]:=by
 have b:=Hm.Q7F h
 have c:=Q4J b
 have d:=Q7X b
 refine ⟨c,d,?_,?_,by simp[elem,c],?_,?_⟩
 ·simp[right,d,h]
 ·cases a:plain s with
  | false=>rfl
  | true=>
   simp only[plain,Bool.or_eq_true,decide_eq_true_eq] at a
   rcases a with (e | e) | e<;>subst e<;>revert h<;>decide
 ·rintro rfl;revert h;decide
 ·rintro rfl;revert h;decide
structure Wf (l : List Cla) : Prop where
  ck : ∀ c ∈ l, L6 c = 0
  own : G2 (Q6 l)
  acy : Yg (Q6 l)
  up : ∀ c ∈ l, L4 (Q6 l) c = 0
  mem : ∀ c ∈ l, U8 (Q6 l) c = 0
theorem X2b {l:List Cla} (h:Eg L6 l=none):Wf l:=by
 unfold Eg at h
 split at h
 ·cases h
 rename_i k
 split at h
 ·cases h
 rename_i p
 split at h
 ·cases h
 rename_i o
 split at h
 ·cases h
 rename_i j
 split at h
 ·cases h
 rename_i m
 have d:=F3 k
 have a:=Bs p
 have g: ∀c∈l,F8 (Q6 l) c=false:=fun c b=>List.findIdx?_eq_none_iff.1 j c b
 refine ⟨d,a,Q4R a (fun c b=>(Rz (d c b)).2.2) g,fun c b=>by have:=F3 o c b;omega,fun c b=>?_⟩
 obtain ⟨i,n,rfl⟩:=List.getElem_of_mem b
 have f:B1.length=8:=rfl
 have:=List.find?_eq_none.1 m (8+i) (Q7N (by omega) (by simp[Q6,f];omega))
 have e:(Q6 l).getD (8+i) Cla.zero=l[i]:=by
  rw[List.getD_eq_getElem?_getD,Q6,List.getElem?_append_right (by omega),f,show 8+i-8=i by omega,List.getElem?_eq_getElem n];rfl
 rw[e] at this
 simpa using this
section
variable {l : List Cla} (wf : Wf l)
include wf
theorem Wf.names {c:Cla} (hc:c∈Q6 l):W6 c.name=true:=by
 rcases List.mem_append.1 hc with hc | hc
 ·have: ∀c∈B1,W6 c.name=true:=by decide+kernel
  exact this c hc
 ·have:=wf.ck c hc
  unfold L6 at this
  split at this
  ·cases this
  ·split at this
   ·rename_i a
    simp only[Ld,Bool.and_eq_true] at a
    obtain ⟨⟨⟨⟨⟨⟨⟨⟨b,_⟩,_⟩,_⟩,_⟩,_⟩,_⟩,_⟩,_⟩:=a
    exact List.all_eq_true.1 b c.name (by simp)
   ·cases this
theorem Wf.lkn {n:X0} {c:Cla} (h:lk (Q6 l) n=some c):W6 n=true:=by
 obtain ⟨e,a,_⟩:=U3 h
 rw[←e];exact wf.names a
theorem Wf.root:lk (Q6 l) Z7=some ⟨Z7,[],[],false,false,false,[],[]⟩:=wf.own.lk (c:=⟨Z7,[],[],false,false,false,[],[]⟩) (List.mem_append_left _ (by decide))
theorem Wf.fault:lk (Q6 l) V8=some ⟨V8,Z7,[],false,false,false,[⟨I8,N5,false⟩],[]⟩:=wf.own.lk (c:=⟨V8,Z7,[],false,false,false,[⟨I8,N5,false⟩],[]⟩) (List.mem_append_left _ (by decide))
theorem Wf.super {c:Cla} (hc:c∈Q6 l):c.name=Z7∨ ∃d,lk (Q6 l) c.super=some d:=by
 rcases List.mem_append.1 hc with hc | hc
 ·have: ∀c∈B1,c.name=Z7∨c.super=Z7∨c.super=V8:=by decide
  rcases this c hc with h | h | h
  ·exact .inl h
  ·exact .inr ⟨_,h▸wf.root⟩
  ·exact .inr ⟨_,h▸wf.fault⟩
 ·right
  have:=wf.up c hc
  unfold L4 at this
  split at this
  ·cases this
  ·rename_i h
   unfold P2 at h
   cases a:lk (Q6 l) c.super with
   | none=>rw[a] at h;simp at h
   | some d=>exact ⟨d,rfl⟩
theorem Wf.atRoot {b:X0} (h:Hm.Reach (lk (Q6 l)) Z7 b):b=Z7:=by
 cases h with
 | refl=>rfl
 | step a c f=>
  rw[wf.root] at a;cases a
  simp[J5] at c;subst c
  obtain ⟨d,e⟩:=f.left
  exact absurd (wf.lkn e) (by decide)
theorem Wf.kind {n:X0} {c:Cla} (h:lk (Q6 l) n=some c):M0 (Q6 l) n=true:=by
 obtain ⟨f,b,a,e,i,d,g⟩:=Ow (wf.lkn h)
 have:Q1e (Q6 l) n=true:=by rw[Q20,h];rfl
 simp[M0,a,b,this]
theorem Wf.sub_iff {a b:X0}:E4 (Q6 l) a b=true↔M0 (Q6 l) a=true∧M0 (Q6 l) b=true∧(a=b∨(plain a=false∧plain b=false∧(a=C2∨(elem a≠[]∧b=Z7)∨(lk (Q6 l) a≠none∧Hm.Reach (lk (Q6 l)) a b)))):=by
 unfold E4
 cases j:M0 (Q6 l) a<;>cases k:M0 (Q6 l) b<;>simp
 by_cases e:a=b
 ·simp[e]
 cases pa:plain a<;>cases m:plain b<;>simp[e]
 by_cases f:a=C2
 ·simp[f]
 simp only[f,false_or]
 by_cases d:elem a=[]
 ·simp only[d,if_true,not_true_eq_false,false_and,false_or,Zu]
  constructor
  ·intro h;obtain ⟨c,i⟩:=h.left;exact ⟨by rw[i];simp,h⟩
  ·intro h;exact h.2
 ·simp only[d,if_false,not_false_eq_true,true_and]
  constructor
  ·exact .inl
  ·rintro (h | ⟨h,_⟩)
   ·exact h
   ·cases g:lk (Q6 l) a with
    | none=>exact absurd g h
    | some c=>exact absurd (Ow (wf.lkn g)).2.2.2.2.1 d
theorem Wf.sub_class {a b:X0} {c:Cla} (e:lk (Q6 l) a=some c):E4 (Q6 l) a b=true↔Hm.Reach (lk (Q6 l)) a b:=by
 obtain ⟨k,o,n,i,j,g,m⟩:=Ow (wf.lkn e)
 rw[wf.sub_iff]
 constructor
 ·rintro ⟨_,_,rfl | ⟨_,_,h | ⟨h,_⟩ | ⟨_,h⟩⟩⟩
  ·exact .refl e
  ·exact absurd h g
  ·exact absurd j h
  ·exact h
 ·intro h
  obtain ⟨d,f⟩:=h.right
  exact ⟨wf.kind e,wf.kind f, .inr ⟨i,(Ow (wf.lkn f)).2.2.2.1, .inr (.inr ⟨by rw[e];simp,h⟩)⟩⟩
end
end Go.Proofs.YtfppjenblllfaaaGreatDoor

namespace Go.Proofs.YtfppjenblllfaaaGreatDoor
open Go.Emb Go.RowKit Go.Kd Go.Hm
theorem Q5c {L:List Cla} (g:Yg L): ∀(k:Nat) {n:X0} {c:Cla},F2 L n<k→c∈chain L n→Hm.Reach (lk L) n c.name∧lk L c.name=some c:=by
 intro k
 induction k with
 | zero=>intro n c h;omega
 | succ k j=>
  intro n c p hc
  rw[F4 g] at hc
  cases a:lk L n with
  | none=>rw[a] at hc;simp at hc
  | some d=>
   rw[a] at hc
   have b:=(U3 a).1
   rcases List.mem_cons.1 hc with rfl | hc
   ·rw[b];exact ⟨.refl a,a⟩
   ·cases f:lk L d.super with
    | none=>rw[I7 f] at hc;simp at hc
    | some e=>
     have i:d.super∈J5 d:=by simp[J5]
     obtain ⟨m,o⟩:=j (by have:=Xp g a i f;omega) hc
     exact ⟨.step a i m,o⟩
section
variable {l : List Cla} (wf : Wf l)
include wf
theorem Wf.sub_refl {a:X0} (h:M0 (Q6 l) a=true):E4 (Q6 l) a a=true:=wf.sub_iff.2 ⟨h,h, .inl rfl⟩
end
end Go.Proofs.YtfppjenblllfaaaGreatDoor

namespace Go.Hm
open Go.Kd
structure Shp where
  seen : Bool
  stack : List X0
  locals : List X0
deriving DecidableEq
def Shp.zero:Shp:=⟨false,[],[]⟩
def T7 (l:List Cla) (a b:X0):X0:=if a=[]∨b=[] then [] else R7 l a b
def F6 (l:List Cla) (a b:Shp):Shp×Int:=
 if a.seen=false then (b,0) else if b.seen=false then (a,0)
 else if a.stack.length≠b.stack.length∨a.locals.length≠b.locals.length then (Shp.zero,75)
 else if (List.zipWith (R7 l) a.stack b.stack).any (fun s=>decide (s=[])) then (Shp.zero,75)
 else (⟨true,List.zipWith (R7 l) a.stack b.stack,List.zipWith (T7 l) a.locals b.locals⟩,0)
theorem Og (l:List Cla):M0 l []=false:=by
 have:right []=false:=by decide
 simp[M0,this,C2]
theorem Q60 (l:List Cla) (a:X0):E4 l a []=false:=by
 unfold E4;rw[Og];simp
theorem Q6m (l:List Cla) (a:X0):E4 l [] a=false:=by
 unfold E4;rw[Og];simp
theorem Q4V (l:List Cla) (a b:X0):T7 l a b=R7 l a b:=by
 unfold T7
 split
 ·rename_i h
  unfold R7
  rcases h with rfl | rfl
  ·rw[Q6m,Q60,Og];simp
  ·rw[Q6m,Q60,Og];simp
 ·rfl
end Go.Hm
namespace Go.Proofs.YtfppjenblllfaaaGreatDoor
open Go.Emb Go.RowKit Go.Kd Go.Hm
section
variable {l : List Cla} (wf : Wf l)
include wf
theorem Wf.join_self {a:X0} (h:M0 (Q6 l) a=true):R7 (Q6 l) a a=a:=by
 unfold R7;rw[if_pos (wf.sub_refl h)]
theorem Wf.merge_self (s:Shp) (c:s.seen=true) (b: ∀k∈s.stack,M0 (Q6 l) k=true) (m: ∀k∈s.locals,k=[]∨M0 (Q6 l) k=true):F6 (Q6 l) s s=(s,0):=by
 unfold F6
 simp only[c,Bool.true_eq_false,if_false,ne_eq,not_true_eq_false,or_self]
 have e:List.zipWith (R7 (Q6 l)) s.stack s.stack=s.stack:=by
  refine List.ext_getElem (by simp) fun i d a=>?_
  simp only[List.getElem_zipWith]
  exact wf.join_self (b _ (List.getElem_mem a))
 have f:List.zipWith (T7 (Q6 l)) s.locals s.locals=s.locals:=by
  refine List.ext_getElem (by simp) fun i d a=>?_
  simp only[List.getElem_zipWith]
  rcases m _ (List.getElem_mem a) with h | h
  ·rw[h];simp[T7]
  ·rw[Q4V];exact wf.join_self h
 have g:s.stack.any (fun s=>decide (s=[]))=false:=by
  rw[List.any_eq_false]
  intro k j
  have:=b k j
  simp only[decide_eq_true_eq]
  rintro rfl
  rw[Og] at this;cases this
 rw[e,f,g]
 simp only[Bool.false_eq_true,if_false]
 cases s;simp_all
end
end Go.Proofs.YtfppjenblllfaaaGreatDoor

namespace Go.Emb
open Go.RowKit Go.Hm
def U7 (σ:Q4) (s:Shp) (cs:List Value):Prop:= ∃sv a,cs=[.bool s.seen,sv,a]∧Sl 1 Y0 σ sv s.stack∧Sl 1 Y0 σ a s.locals
instance:Rep U7:=⟨fun hk ⟨sv,lv,h1,h2,h3⟩=>⟨sv,lv,h1,h2.le hk,h3.le hk⟩,fun ⟨sv,lv,h1,h2,h3⟩ u hu=>by
 rw[h1] at hu;simp at hu;rcases hu with rfl | rfl | rfl
 ·rfl
 ·exact F5 h2
 ·exact F5 h3⟩
end Go.Emb
namespace Go.Proofs.YtfppjenblllfaaaGreatDoor
open Go.Emb Go.RowKit Go.Kd Go.Hm Go.ChangeShapes Go.WideShapes
section
variable {H : Type} {enc : TypeId × Value → H} {W : World} {cs : List Value} {fuel : Nat} {x : DataW H × List MemPlace} {v : Value} {d : DataW H} {p : List MemPlace}
def X2m:Array Field:= #[⟨"Seen",T.m,0,false, "", "",0⟩,⟨"Stack",T.d,1,false, "", "",8⟩,⟨"Locals",T.d,2,false, "", "",32⟩]
theorem Q1q:P.underlying T.f=some (.struct X2m):=by kernel_rfl
theorem X1w (h:DataW.trod enc P W 0 (fun _=>true) true fuel T.f cs=some x) (a:Wt P T.f x.1): ∃y,U7 (Ug W) y cs:=by
 obtain ⟨u,q,s,rfl⟩:=Q6J (X1X Q1q (by kernel_rfl) h)
 obtain ⟨_,_,m,w0⟩:=Q2f (o:=0) Q1q h a 0 rfl Q8w
 obtain ⟨_,_,n,w1⟩:=Q2f (o:=1) Q1q h a 1 rfl (by kernel_rfl)
 obtain ⟨_,_,j,l⟩:=Q2f (o:=2) Q1q h a 2 rfl (by kernel_rfl)
 obtain ⟨g,q0⟩:=X0L Pq m
 obtain ⟨r,e,b,k⟩:=X08 (R:=Y0) Q8c Fu (by decide) (fun _ _ _ h a=>Q8q X7 h a) n w1
 obtain ⟨t,i,c,f⟩:=X08 (R:=Y0) Q8c Fu (by decide) (fun _ _ _ h a=>Q8q X7 h a) j l
 simp at q0 b c
 subst q0 b c
 exact ⟨⟨g,e,i⟩,_,_,rfl,k,f⟩
set_option maxRecDepth 100000 in
theorem X1t {base:Nat} (c:Value.okWide P W .any base T.f v) (h:DataW.Trod enc P W 0 (fun _=>true) true T.f v d p) (b:Wt P T.f d): ∃y cs,v= .agg (List.toArray cs)∧U7 (Ug W) y cs:=by
 have a:=c
 unfold Value.okWide at a
 rw[Q1q] at a
 obtain ⟨cs,rfl,_⟩:=a
 unfold DataW.Trod at h
 obtain ⟨fuel,h⟩:=h
 obtain ⟨y,e⟩:=X1w h b
 obtain ⟨cs⟩:=cs
 exact ⟨y,cs,rfl,by simpa [Value.cells] using e⟩
end
end Go.Proofs.YtfppjenblllfaaaGreatDoor

namespace Go.Proofs.YtfppjenblllfaaaGreatDoor
open Go.Emb Go.RowKit Go.Kd Go.Hm
variable {w : World} {K : Value → World → Prop} {σ : Q4}
end Go.Proofs.YtfppjenblllfaaaGreatDoor

namespace Go.Proofs.YtfppjenblllfaaaGreatDoor
open Go.Emb Go.RowKit Go.Kd Go.Hm
variable {w : World} {K : Value → World → Prop} {σ : Q4} {l : List Cla} {v : Value}
theorem P5 {n:X0} (r:X4 w σ) (m:Sl 8 U5 σ v l) (h:K (I (W5 (Y4 l n))) w):Q0 P F.c [v,S n] w K:=Ki (by
 unfold Ls
 refine Z8 l.length (fun k w'=>w'=w∧ ∀j (g:j<l.length),j<k→ ¬l[j].name=n) ⟨rfl,fun j _ h=>by omega⟩ fun k w1 d C t=>?_
 obtain ⟨rfl,b⟩:=t
 refine Q8 m ?_
 refine Z1 ?_
 refine Q5 (fun i=>?_) (fun i=>?_)
 ·have a:k<l.length:=by simpa using i
  refine L7 m a fun p cells o s u=>?_
  obtain ⟨E,z,mv,rfl,D,y,B,H,A⟩:=u
  rw[fa]
  refine ld r o rfl ?_
  refine Ng ?_
  refine Q5 (fun f=>?_) (fun f=>?_)
  ·have f:l[k].name=n:=by simpa using f
   have:Y4 l n=some k:=by
    unfold Y4
    rw[List.findIdx?_eq_some_iff_getElem]
    exact ⟨a,by simpa using f,fun j g=>by simpa using b j (by omega) g⟩
   rw[this] at h
   exact h
  ·have f: ¬l[k].name=n:=by simpa using f
   refine D5 ?_
   refine Y2 m.max a ⟨rfl,fun j g q=>?_⟩
   by_cases e:j=k
   ·subst e;exact f
   ·exact b j g (by omega)
 ·have a: ¬k<l.length:=by simpa using i
  have:Y4 l n=none:=by
   unfold Y4
   rw[List.findIdx?_eq_none_iff]
   intro c i
   obtain ⟨j,g,rfl⟩:=List.getElem_of_mem i
   simpa using b j g (by omega)
  rw[this] at h
  exact h)
end Go.Proofs.YtfppjenblllfaaaGreatDoor

namespace Go.Proofs.YtfppjenblllfaaaGreatDoor
open Go.Emb Go.RowKit Go.Kd Go.Hm
variable {w : World} {K : Value → World → Prop} {σ : Q4} {l : List Cla} {v : Value}
theorem Q4K {a:X0} (d:a.length≤J3) (h:K (S (base a).1) w):Q0 P F.aH [S a] w K:=Il (by
 unfold Lz
 have c:=As a
 have b:a.length≤140737488355328:=by simp only[J3] at d;omega
 rw[D0 X7]
 refine Q0N a b ?_
 (try simp only[↓Mr,Mr,Mb,reduceIte])
 rw[B5 (n:=2*((base a).2:Int)) (by omega) (by omega),B5 (by omega) (by omega),K0 X7 (by omega) (by omega)]
 rw[show ((a.length:Int)-2*((base a).2:Int)).toNat=a.length-2*(base a).2 from by omega,Q2Y]
 exact h)
theorem Q9m {s:X0} (f:X4 w σ) (g:Sl 8 U5 σ v l) (b:s.length≤J3) (h:K (.bool (M0 l s)) w):Q0 P F.bk [v,S s] w K:=Kk (by
 unfold Mq
 have c:s.length≤140737488355328:=by simp only[J3] at b;omega
 unfold M0 at h
 refine Ng ?_
 by_cases a:s=C2
 ·have:decide (s=[110,117,108,108])=true:=by rw[decide_eq_true_eq];exact a
  simp only[this,↓M1,M1,Mb,reduceIte]
  simp only[a,decide_true,Bool.true_or] at h
  exact h
 ·have:decide (s=[110,117,108,108])=false:=by rw[decide_eq_false_iff_not];exact a
  simp only[this,↓M1,M1,Mb,reduceIte]
  simp only[a,decide_false,Bool.false_or] at h
  refine Vh s c ?_
  cases e:right s with
  | false=>(try simp only[↓M1,M1,Mb,reduceIte]);simpa [e] using h
  | true=>
   (try simp only[↓M1,M1,Mb,reduceIte])
   refine Q4K b ?_
   (try simp only[↓M1,M1,Mb,reduceIte])
   refine Tp _ ?_
   simp only[e,Bool.true_and] at h
   cases d:plain (base s).1 with
   | true=>(try simp only[↓M1,M1,Mb,reduceIte]);simpa [d] using h
   | false=>
    (try simp only[↓M1,M1,Mb,reduceIte])
    refine Q4K b ?_
    (try simp only[↓M1,M1,Mb,reduceIte])
    refine P5 f g ?_
    refine Zm ?_
    rw[Zw]
    (try simp only[↓M1,M1,Mb,reduceIte])
    simpa [d,Q1e] using h)
end Go.Proofs.YtfppjenblllfaaaGreatDoor

namespace Go.Proofs.YtfppjenblllfaaaGreatDoor
open Go.Emb Go.RowKit Go.Kd Go.Hm
variable {w : World} {K : Value → World → Prop} {σ : Q4} {l : List Cla} {v : Value}
theorem Q8s {s:X0} (b:X4 w σ) (d:Sl 8 U5 σ v l) (c:s.length≤J3) (h:K (.bool (D2 l s)) w):Q0 P F.bc [v,S s] w K:=Gg (by
 unfold Wg
 unfold D2 at h
 refine Ui ?_
 have e:decide (s=[110,117,108,108])=decide (s=C2):=rfl
 rw[e]
 cases a:decide (s=C2) with
 | true=>
  rw[a] at h
  (try simp only[↓M1,M1,Mb,reduceIte])
  exact h
 | false=>
  rw[a] at h
  (try simp only[↓M1,M1,Mb,reduceIte])
  refine Q9m b d c ?_
  (try simp only[↓M1,M1,Mb,reduceIte])
  simpa using h)
end Go.Proofs.YtfppjenblllfaaaGreatDoor

namespace Go.Proofs.YtfppjenblllfaaaGreatDoor
open Go.Emb Go.RowKit Go.Kd Go.Hm
variable {w : World} {K : Value → World → Prop} {σ : Q4} {l : List Cla} {v : Value}
def Ds (c:Cla) (n:X0):Option Nat:=c.methods.findIdx? fun m=>decide (m.name=n)
theorem Q6d {c:Cla} {cs:List Value} {n:X0} (z:X4 w σ) (r:U5 σ c cs) (h: ∀w' u,Stp w σ w' u→K (I (W5 (Ds c n))) w'):Q0 P F.aO [.agg cs.toArray,S n] w K:=Ta (by
 unfold Nn
 obtain ⟨V,H,mv,rfl,U,E,o,X,L⟩:=r
 refine Y9 z fun q w0 σ0 a t=>?_
 have o:=o.up a
 refine Z8 c.methods.length (fun k w'=>w'=w0∧ ∀j (i:j<c.methods.length),j<k→ ¬c.methods[j].name=n) ⟨rfl,fun j _ h=>by omega⟩ fun k w1 d M C=>?_
 obtain ⟨rfl,f⟩:=C
 rw[fa]
 refine ld a.sat t rfl ?_
 refine Q8 o ?_
 refine Z1 ?_
 refine Q5 (fun r=>?_) (fun r=>?_)
 ·have b:k<c.methods.length:=by simpa using r
  rw[fa]
  refine ld a.sat t rfl ?_
  refine L7 o b fun p cells s B D=>?_
  obtain ⟨pv,R,Y,rfl,W,O,N,Q,J⟩:=D
  rw[fa]
  refine ld a.sat s rfl ?_
  refine Ng ?_
  refine Q5 (fun g=>?_) (fun g=>?_)
  ·have g:c.methods[k].name=n:=by simpa using g
   have:Ds c n=some k:=by
    unfold Ds
    rw[List.findIdx?_eq_some_iff_getElem]
    exact ⟨b,by simpa using g,fun j i=>by simpa using f j (by omega) i⟩
   rw[this] at h
   exact h _ _ a
  ·have g: ¬c.methods[k].name=n:=by simpa using g
   refine D5 ?_
   refine Y2 o.max b ⟨rfl,fun j i y=>?_⟩
   by_cases e:j=k
   ·subst e;exact g
   ·exact f j i (by omega)
 ·have b: ¬k<c.methods.length:=by simpa using r
  have:Ds c n=none:=by
   unfold Ds
   rw[List.findIdx?_eq_none_iff]
   intro m A
   obtain ⟨j,i,rfl⟩:=List.getElem_of_mem A
   simpa using f j i (by omega)
  rw[this] at h
  exact h _ _ a)
end Go.Proofs.YtfppjenblllfaaaGreatDoor

namespace Go.Proofs.YtfppjenblllfaaaGreatDoor
open Go.Emb Go.RowKit Go.Kd Go.Hm
variable {w : World} {K : Value → World → Prop} {σ : Q4} {l : List Cla} {v : Value}
theorem Hx {n:X0} {d:Cla} (c:X4 w σ) (e:Sl 8 U5 σ v l) (b:lk l n=some d) (h: ∀i:Nat,l[i]? =some d→Y4 l n=some i→K (I i) w):Q0 P F.c [v,S n] w K:=by
 obtain ⟨_,_,i,a,f⟩:=U3 b
 refine P5 c e ?_
 rw[a];exact h i f a
theorem Pe {n:X0} (d:X4 w σ) (f:Sl 8 U5 σ v l) (b:lk l n=none) (h:K (I (-1)) w):Q0 P F.c [v,S n] w K:=by
 refine P5 d f ?_
 cases e:Y4 l n with
 | none=>exact h
 | some i=>obtain ⟨c,a,_⟩:=Zo e;rw[b] at a;cases a
end Go.Proofs.YtfppjenblllfaaaGreatDoor

namespace Go.Proofs.YtfppjenblllfaaaGreatDoor
open Go.Emb Go.RowKit Go.Kd Go.Hm
variable {w : World} {K : Value → World → Prop} {σ : Q4} {l : List Cla} {v : Value}
theorem Q9h:decide ((-1:Int)<0)=true:=by decide
theorem Q4I (i:Nat):decide ((i:Int)<0)=false:=by rw[decide_eq_false_iff_not];omega
theorem Q6F {c:Cla} {cs:List Value} (hs:X4 w σ) (hl:Sl 8 U5 σ v l) (C:U5 σ c cs) (h: ∀w' Y,Stp w σ w' Y→K (I (L4 l c)) w'):Q0 P F.aX [v, .agg cs.toArray] w K:=Sn (by
 unfold Uu
 obtain ⟨lv,fv,mv,rfl,z,f2,f3,f4,f5⟩:=C
 refine Y9 hs fun q w0 σ0 p Q=>?_
 have z:=z.up p
 have b:=hl.up p
 have a:=p.sat
 have t: ∀n:Nat,L4 l c=n→K (I n) w0:=fun n e=>by rw[←e];exact h _ _ p
 clear h
 (try simp only[↓M1,M1,Mb,reduceIte])
 refine ld a Q rfl ?_
 have m:P2 l c.super=true→K (I (61:Nat)) w0:=fun e=>t 61 (by unfold L4;rw[if_pos e])
 cases L:lk l c.super with
 | none=>
  refine Pe a b L ?_
  simp only[Q9h,↓M1,M1,Mb,reduceIte]
  exact m (by unfold P2;rw[L])
 | some d=>
  refine Hx a b L fun i hi hf=>?_
  obtain ⟨y,N⟩:=List.getElem?_eq_some_iff.1 hi
  simp only[Q4I,↓M1,M1,Mb,reduceIte]
  refine J9 b y ?_
  obtain ⟨V,aa,ad,R,r1⟩:=b.elC y
  rw[N] at R
  (try simp only[↓M1,M1,Mb,reduceIte])
  refine ld a R rfl ?_
  have f:P2 l c.super=(d.iface||d.fin):=by unfold P2;rw[L]
  cases A:d.iface with
  | true=>
   rw[A] at f
   (try simp only[↓M1,M1,Mb,reduceIte])
   exact m (by rw[f];rfl)
  | false=>
   rw[A] at f
   (try simp only[↓M1,M1,Mb,reduceIte])
   refine J9 b y ?_
   (try simp only[↓M1,M1,Mb,reduceIte])
   refine ld a R rfl ?_
   cases B:d.fin with
   | true=>
    rw[B] at f
    (try simp only[↓M1,M1,Mb,reduceIte])
    exact m (by rw[f];rfl)
   | false=>
    rw[B] at f
    have E:P2 l c.super=false:=f
    (try simp only[↓M1,M1,Mb,reduceIte])
    refine Z8 c.like.length (fun k w'=>w'=w0∧(c.like.take k).any (O5 l)=false) ⟨rfl,rfl⟩ fun k w1 d1 hk O=>?_
    obtain ⟨hw,s⟩:=O
    subst hw
    (try simp only[↓M1,M1,Mb,reduceIte])
    refine ld a Q rfl ?_
    refine Q8 z ?_
    refine Z1 ?_
    refine Q5 (fun C=>?_) (fun C=>?_)
    ·have g:k<c.like.length:=by simpa using C
     have r:O5 l c.like[k]=true→K (I (62:Nat)) w1:=fun e=>t 62 (by
      unfold L4;rw[E,C0 g e];rfl)
     have u:O5 l c.like[k]=false→(c.like.take (k+1)).any (O5 l)=false:=fun e=>by rw[M3 g,s,e];rfl
     (try simp only[↓M1,M1,Mb,reduceIte])
     refine ld a Q rfl ?_
     refine J9 z g ?_
     obtain ⟨p2,_⟩:=z.elS g
     refine X8 a p2 rfl ?_
     cases J:lk l c.like[k] with
     | none=>
      refine Pe a b J ?_
      simp only[Q9h,↓M1,M1,Mb,reduceIte]
      exact r (by unfold O5;rw[J])
     | some e=>
      refine Hx a b J fun j hj af=>?_
      obtain ⟨H,M⟩:=List.getElem?_eq_some_iff.1 hj
      simp only[Q4I,↓M1,M1,Mb,reduceIte]
      refine J9 b H ?_
      obtain ⟨W,X,Z,U,r3⟩:=b.elC H
      rw[M] at U
      (try simp only[↓M1,M1,Mb,reduceIte])
      refine ld a U rfl ?_
      have o:O5 l c.like[k]= !e.iface:=by unfold O5;rw[J]
      cases D:e.iface with
      | true=>
       rw[D] at o
       (try simp only[↓M1,M1,Mb,reduceIte])
       exact Y2 z.max g ⟨rfl,u o⟩
      | false=>
       rw[D] at o
       (try simp only[↓M1,M1,Mb,reduceIte])
       exact r o
    ·have g: ¬k<c.like.length:=by simpa using C
     rw[O9 g] at s
     exact t 0 (by unfold L4;rw[E,s];rfl))
end Go.Proofs.YtfppjenblllfaaaGreatDoor

namespace Go.Proofs.YtfppjenblllfaaaGreatDoor
open Go.Emb Go.RowKit Go.Kd Go.Hm
variable {w : World} {K : Value → World → Prop} {σ : Q4} {l : List Cla} {v : Value}
theorem Q5t {n:X0} (h:lk l n=none):M6 l n=[]:=by unfold M6;rw[I7 h];rfl
theorem Q5l (a:Yg l) {n:X0} {c:Cla} (h:lk l n=some c):M6 l n=M6 l c.super++c.fields:=by
 unfold M6
 rw[F4 a,h]
 simp
theorem Q7w (a: ∀c∈l,P7 c) (n:X0):(M6 l n).length≤(l.length+1)*1000000:=by
 unfold M6
 have b:=Jr (fun c:Cla=>c.fields) 1000000 (chain l n).reverse fun c d=>(a c (Ai (by simpa using d))).2.1
 have e:=Rb l n
 rw[List.length_reverse] at b
 exact Nat.le_trans b (Nat.mul_le_mul_right _ e)
theorem Q0C {n:X0} (a:lk l n=none) (b:X4 w σ) (e:Sl 8 U5 σ v l) (h: ∀d w' c,Stp w σ w' c→Sl 3 E0 c d (M6 l n)→K d w'):Q0 P F.y [v,S n] w K:=Vi (by
 unfold Qk
 refine Pe b e a ?_
 simp only[Q9h,↓M1,M1,Mb,reduceIte]
 exact h _ _ _ (Stp.refl b) (by rw[Q5t a];exact Sl.nil))
theorem Q59 (p:Yg l) (hl:l.length≤1000) (m: ∀c∈l,P7 c): ∀(k:Nat) {n:X0} {w:World} {σ:Q4} {K:Value→World→Prop},(lk l n=none∨F2 l n<k)→X4 w σ→Sl 8 U5 σ v l→
 (∀g w' f,Stp w σ w' f→Sl 3 E0 f g (M6 l n)→K g w')→Q0 P F.y [v,S n] w K:=by
 intro k
 induction k with
 | zero=>
  intro n w σ K hk j b h
  rcases hk with hk | hk
  ·exact Q0C hk j b h
  ·omega
 | succ k V=>
  intro n w σ K hk j b h
  cases a:lk l n with
  | none=>exact Q0C a j b h
  | some c=>
   have hk:F2 l n<k+1:=by
    rcases hk with hk | hk
    ·rw[a] at hk;cases hk
    ·exact hk
   refine Vi ?_
   unfold Qk
   refine Hx j b a fun i hi hf=>?_
   obtain ⟨D,z⟩:=List.getElem?_eq_some_iff.1 hi
   simp only[Q4I,↓M1,M1,Mb,reduceIte]
   obtain ⟨lv,fv,mv,p1,N⟩:=b.elC D
   rw[z] at p1 N
   obtain ⟨_,U,_,_,_⟩:=N.parts
   have A:lk l c.super=none∨F2 l c.super<k:=by
    cases hu:lk l c.super with
    | none=>exact .inl rfl
    | some d=>
     have:=Xp p a (u:=c.super) (by simp[J5]) hu
     right;omega
   have al:=Q7w m c.super
   have Q:=(m c (U3 a).2.1).2.1
   have O:(l.length+1)*1000000≤1001*1000000:=Nat.mul_le_mul_right _ (by omega)
   refine V2 j ?_
   (repeat refine U4 Qn ?_)
   refine Q6X (R:=E0) (by decide) ?_
   (repeat refine U4 Qn ?_)
   refine Rp (w:=w) (σ:=σ) (Φ:=fun f v=>Sl 3 E0 f v (M6 l c.super)) (fun t w o e=>?_) ?_
   ·subst e;exact V A o.sat b fun g w' f hk s=>Q13 o hk s
   refine Q2e (w:=w) (σ:=σ) (R:=E0) (sz:=3) (e:=T.k) (M6 l c.super) (fun y J w o r q=>?_) ?_
   ·obtain ⟨k1,a1,Z⟩:=r
    obtain ⟨σ2,k2,Y⟩:=q
    exact X0n k1 a1 Z k2.sat Y (fun _ _ h=>h) rfl (by omega) (by omega) fun g w' hk p=>Q3N o hk p
   (repeat refine U4 Qn ?_)
   rintro W an aj ab y ae J ad X w2 ac rfl rfl rfl rfl _ rfl _ ⟨E,H⟩ rfl
   refine Ox E H U rfl (by omega) (by omega) fun g w3 af C L _=>?_
   obtain ⟨σ4,M,B,_⟩:=L.keep C
   exact h _ _ _ M (by rw[Q5l p a];exact B)
theorem Q6s {n:X0} (e:X4 w σ) (f:Sl 8 U5 σ v l) (g:Yg l) (i:l.length≤1000) (a: ∀c∈l,P7 c) (h: ∀d w' b,Stp w σ w' b→Sl 3 E0 b d (M6 l n)→K d w'):Q0 P F.y [v,S n] w K:=
 Q59 g i a _ (.inr (Nat.lt_succ_self _)) e f h
theorem Q7W {n f:X0} (B:X4 w σ) (L:Sl 8 U5 σ v l) (z:Yg l) (D:l.length≤1000) (u: ∀c∈l,P7 c) (h: ∀w' y,Stp w σ w' y→K (I (W5 (Xk l n f))) w'):Q0 P F.bb [v,S n,S f] w K:=Bd (by
 unfold Wn
 refine Q6s B L z D u fun M w1 σ1 r a=>?_
 have s: ∀o,Xk l n f=o→K (I (W5 o)) w1:=fun o e=>by rw[←e];exact h _ _ r
 unfold Xk at s
 generalize M6 l n=g at a s
 refine Z8 g.length (fun k w'=>w'=w1∧ ∀j (q:j<g.length),j<k→ ¬g[j].name=f) ⟨rfl,fun j _ h=>by omega⟩ fun k O d N E=>?_
 obtain ⟨J,i⟩:=E
 subst J
 refine Q8 a ?_
 refine Z1 ?_
 refine Q5 (fun t=>?_) (fun t=>?_)
 ·have b:k<g.length:=by simpa using t
  refine J9 a b ?_
  obtain ⟨H,_⟩:=a.elF b
  (try simp only[↓M1,M1,Mb,reduceIte])
  refine ld r.sat H rfl ?_
  refine Ng ?_
  refine Q5 (fun p=>?_) (fun p=>?_)
  ·have p:g[k].name=f:=by simpa using p
   exact s (some k) (by
    rw[List.findIdx?_eq_some_iff_getElem]
    exact ⟨b,by simpa using p,fun j q=>by simpa using i j (by omega) q⟩)
  ·have p: ¬g[k].name=f:=by simpa using p
   (try simp only[↓M1,M1,Mb,reduceIte])
   refine Y2 a.max b ⟨rfl,fun j q A=>?_⟩
   by_cases e:j=k
   ·subst e;exact p
   ·exact i j q (by omega)
 ·have b: ¬k<g.length:=by simpa using t
  exact s none (by
   rw[List.findIdx?_eq_none_iff]
   intro m C
   obtain ⟨j,q,rfl⟩:=List.getElem_of_mem C
   simpa using i j q (by omega)))
end Go.Proofs.YtfppjenblllfaaaGreatDoor

namespace Go.Proofs.YtfppjenblllfaaaGreatDoor
open Go.Emb Go.RowKit Go.Kd Go.Hm
variable {w : World} {K : Value → World → Prop} {σ : Q4} {l : List Cla} {v : Value}
theorem Q2Z {c:Cla} {n:X0} (h:Ds c n=none):H9 c n=none:=by
 unfold H9 Ds at*
 rw[List.findIdx?_eq_none_iff] at h
 rw[List.find?_eq_none]
 intro m a
 have:=h m a
 simpa using this
theorem Q61 {c:Cla} {n:X0} {i:Nat} (h:Ds c n=some i): ∃a:i<c.methods.length,H9 c n=some c.methods[i]:=by
 unfold H9 Ds at*
 obtain ⟨a,d,e⟩:=List.findIdx?_eq_some_iff_getElem.1 h
 refine ⟨a,List.find?_eq_some_iff_getElem.2 ⟨d,i,a,rfl,fun j b=>?_⟩⟩
 have:=e j b
 simpa using this
theorem Q2B {n:X0} (h:lk l n=none):Y4 l n=none:=by
 cases b:Y4 l n with
 | none=>rfl
 | some i=>obtain ⟨c,a,_⟩:=Zo b;rw[h] at a;cases a
set_option maxHeartbeats 1000000 in
theorem Q7R {n:X0} (ok:Ok l): ∀(k:Nat) {c:Cla} {cs:List Value} {w:World} {σ:Q4} {K:Value→World→Prop},F2 l c.name<k→lk l c.name=some c→X4 w σ→Sl 8 U5 σ v l→U5 σ c cs→
 (∀pv cv hv w' Z,Stp w σ w' Z→M5 Z (o2 (U1 l c n)) [S (o2 (U1 l c n)).name,pv,S (o2 (U1 l c n)).result, .bool (o2 (U1 l c n)).abs,I (o2 (U1 l c n)).locals,cv,hv]→
  K (.tuple #[S (o1 (U1 l c n)), .agg [S (o2 (U1 l c n)).name,pv,S (o2 (U1 l c n)).result, .bool (o2 (U1 l c n)).abs,I (o2 (U1 l c n)).locals,cv,hv].toArray, .bool (U1 l c n).isSome]) w')→
 Q0 P F.aC [v, .agg cs.toArray,S n] w K:=by
 intro k
 induction k with
 | zero=>
  intro c cs w σ K hk
  omega
 | succ k ih=>
  intro c cs w σ K hk hc hs hv hr h
  refine Bf ?_
  obtain ⟨lv,fv,mv,rfl,g1,g2,g3,g4,g5⟩:=hr
  have D:=Q2T ok.acy hc n
  generalize hf:(fun u=>match lk l u with | none=>none | some d=>match H9 d n with | some m=>some (u,m) | none=>U1 l d n)=f at D
  unfold Wp
  refine Y9 hs fun a w1 σ1 E a2=>?_
  refine G8 E.sat fun b w2 σ2 hb R a0=>?_
  have Y:w.heap.size≤b:=Yi hb E
  have az:=a2.up R
  have g1:=(g1.up E).up R
  refine Z8 c.like.length (fun i w'=> ∃Z,Stp w σ w' Z∧SLe σ2 Z∧Z5 Z w' b [S [], .slice none 0 0,S [], .bool false,I 0, .slice none 0 0, .slice none 0 0]∧(c.like.take i).findSome? f=none) ⟨σ2,E.trans R,SLe.refl _,a0,rfl⟩ fun i w3 d hi af=>?_
  obtain ⟨σ3,g,X,aj,z⟩:=af
  have N:=hv.up g
  have M:=az.lift X
  have C:=g1.lift X
  (try simp only[↓M1,M1,Mb,reduceIte])
  refine ld g.sat M rfl ?_
  refine Q8 C ?_
  refine Z1 ?_
  refine Q5 (fun hh=>?_) (fun hh=>?_)
  ·have e:i<c.like.length:=by simpa using hh
   (try simp only[↓M1,M1,Mb,reduceIte])
   refine ld g.sat M rfl ?_
   refine J9 C e ?_
   obtain ⟨p0,_⟩:=C.elS e
   refine X8 g.sat p0 rfl ?_
   obtain ⟨d,hd⟩:=ok.full c (U3 hc).2.1 _ (List.getElem_mem e)
   obtain ⟨L,bv,_⟩:=U3 hd
   have t:f c.like[i]=match H9 d n with | some m=>some (c.like[i],m) | none=>U1 l d n:=by rw[←hf];simp only[hd]
   refine Hx g.sat N hd fun j hj bs=>?_
   obtain ⟨ak,ao⟩:=List.getElem?_eq_some_iff.1 hj
   refine J9 N ak ?_
   obtain ⟨bw,br,bo,p1,r1⟩:=N.elC ak
   rw[ao] at p1 r1
   refine Y7 g.sat p1 rfl ?_
   refine Y6 g.sat (by rfl) rfl (Rep.one r1) fun q w4 σ4 o Q=>?_
   refine Y7 o.sat Q rfl ?_
   refine Q6d o.sat (RCl_lift r1 ⟨o.le⟩) fun w5 σ5 p=>?_
   refine Zm ?_
   rw[Zw]
   have B:=(g.trans o).trans p
   have H:=(aj.step o).step p
   have ar:=Q.up p
   have r5:=RCl_lift r1 ⟨(o.trans p).le⟩
   have V:=p.sat
   have a8:SLe σ2 σ5:=X.more ⟨(o.trans p).le⟩
   clear Q p1 r1 p0 M C o p
   cases ho:Ds d n with
   | some i2=>
    obtain ⟨ap,aw⟩:=Q61 ho
    rw[aw] at t
    simp only[Option.isSome_some,W5,↓M1,M1,Mb,reduceIte]
    obtain ⟨_,_,ax,_,_⟩:=r5.parts
    obtain ⟨pv,cv,bz,p2,r2⟩:=ax.elM ap
    refine V2 V ?_
    (repeat refine U4 Qn ?_)
    (intros;(repeat (rename_i hx;subst hx));(try simp only[↓M2,M2,Mb,reduceIte]))
    rename_i w6 ab
    refine T4 (H.step ab.stp) (B.trans ab.stp) Y rfl rfl (Rep.one r2) fun w8 a6 ay=>?_
    refine W1 ay rfl ?_
    have U:=D.trans (T9 e z t)
    rw[U] at h
    rw[L]
    exact h _ _ _ w8 σ5 a6.stp r2
   | none=>
    rw[Q2Z ho] at t
    simp only[Option.isSome_none,↓M1,M1,Mb,reduceIte]
    refine Y7 V ar rfl ?_
    have b0:=Xp ok.acy hc (by simp[J5,List.getElem_mem e]:c.like[i]∈J5 c) hd
    refine ih (by rw[L];omega) (by rw[L];exact hd) V (hv.up B) r5 fun pv cv bu w8 σ8 A O=>?_
    refine J8 (vs:=[_,_,_]) rfl ?_
    refine J8 (vs:=[_,_,_]) rfl ?_
    refine J8 (vs:=[_,_,_]) rfl ?_
    refine Y6 A.sat (by rfl) rfl (Rep.one O) fun q w9 σ9 y av=>?_
    have aa:=(B.trans A).trans y
    have ah:=(H.step A).step y
    have W:=RMe_lift O ⟨y.le⟩
    have a7:SLe σ2 σ9:=a8.more ⟨(A.trans y).le⟩
    have ba:=y.sat
    cases U:U1 l d n with
    | some r=>
     obtain ⟨s,m⟩:=r
     rw[U] at t W av
     clear O A y
     simp only[U,Option.isSome_some,↓M1,M1,Mb,reduceIte]
     refine V2 ba ?_
     (repeat refine U4 Qn ?_)
     (intros;(repeat (rename_i hx;subst hx));(try simp only[↓M2,M2,Mb,reduceIte]))
     rename_i bn J
     refine T4 (ah.step J.stp) (aa.trans J.stp) Y rfl rfl (Rep.one W) fun aq ad ac=>?_
     refine W1 ac rfl ?_
     have a3:=D.trans (T9 e z t)
     rw[a3] at h
     exact h _ _ _ aq σ9 ad.stp W
    | none=>
     rw[U] at t
     simp only[Option.isSome_none,↓M1,M1,Mb,reduceIte]
     refine Y2 (by have:=g1.max;omega) e ⟨σ9,aa,a7,ah,?_⟩
     rw[Qj e z];exact t
  ·have e: ¬i<c.like.length:=by simpa using hh
   rw[List.take_of_length_le (by omega)] at z
   refine Dn ?_
   refine T4 aj g Y rfl rfl (Rep.one (P3 (σ:=σ3))) fun w5 B H=>?_
   refine W1 H rfl ?_
   have U:=D.trans z
   rw[U] at h
   exact h _ _ _ w5 σ3 B.stp P3
set_option maxHeartbeats 1000000 in
theorem Q6u {k n:X0} (hs:X4 w σ) (hv:Sl 8 U5 σ v l) (ok:Ok l)
 (h: ∀pv cv hv w' L,Stp w σ w' L→M5 L (o2 (J7 l k n)) [S (o2 (J7 l k n)).name,pv,S (o2 (J7 l k n)).result, .bool (o2 (J7 l k n)).abs,I (o2 (J7 l k n)).locals,cv,hv]→
  K (.tuple #[S (o1 (J7 l k n)), .agg [S (o2 (J7 l k n)).name,pv,S (o2 (J7 l k n)).result, .bool (o2 (J7 l k n)).abs,I (o2 (J7 l k n)).locals,cv,hv].toArray, .bool (J7 l k n).isSome]) w'):
 Q0 P F.aZ [v,S k,S n] w K:=Ct (by
 unfold Va
 refine G8 hs fun b w1 σ1 hb X ar=>?_
 refine P5 X.sat (hv.up X) ?_
 unfold J7 at h
 generalize hF:(fun c:Cla=>(H9 c n).map (c.name,·))=F1 at h
 have ag: ∀c,F1 c=(H9 c n).map (c.name,·):=fun c=>by rw[←hF]
 refine Ba (fun m x w'=> ∃s C L,m=(chain l s).length∧x=I (W5 (Y4 l s))∧chain l k=C++chain l s∧Stp w σ w' L∧Z5 L w' b [S [], .slice none 0 0,S [], .bool false,I 0, .slice none 0 0, .slice none 0 0]∧C.findSome? F1=none)
  (chain l k).length ⟨k,[],σ1,rfl,rfl,rfl,X,ar,rfl⟩ ?_
 rintro Y m x d w2 ⟨s,C,σ2,rfl,rfl,f,B,an,e⟩ E
 have H:=hv.up B
 have W:=B.sat
 refine Zm ?_
 rw[Zw]
 cases A:lk l s with
 | some c=>
  obtain ⟨af,av,i,R,Q⟩:=U3 A
  obtain ⟨j,Z⟩:=List.getElem?_eq_some_iff.1 Q
  simp only[R,Option.isSome_some,W5,↓M1,M1,Mb,reduceIte]
  refine J9 H j ?_
  obtain ⟨lv,fv,mv,y,N⟩:=H.elC j
  rw[Z] at y N
  refine Y7 W y rfl ?_
  refine Q6d W N fun w3 σ3 g=>?_
  refine Zm ?_
  rw[Zw]
  have t:=B.trans g
  have p:=H.up g
  have z:=an.step g
  have u:=g.sat
  replace y:=y.up g
  replace N:=RCl_lift N ⟨g.le⟩
  have o:chain l s=c::chain l c.super:=by rw[F4 ok.acy s,A]
  cases ho:Ds c n with
  | some i2=>
   obtain ⟨aw,a1⟩:=Q61 ho
   simp only[Option.isSome_some,W5,↓M1,M1,Mb,reduceIte]
   obtain ⟨_,_,a2,_,_⟩:=N.parts
   obtain ⟨pv,cv,bb,p2,r2⟩:=a2.elM aw
   clear g
   refine V2 u ?_
   (repeat refine U4 Qn ?_)
   (intros;(repeat (rename_i hx;subst hx));(try simp only[↓M2,M2,Mb,reduceIte]))
   rename_i w4 ai
   refine T4 (z.step ai.stp) (t.trans ai.stp) hb rfl rfl (Rep.one r2) fun w8 ay a3=>?_
   refine W1 a3 rfl ?_
   have J:(chain l k).findSome? F1=some (c.name,c.methods[i2]):=by
    rw[f,List.findSome?_append,e,o,List.findSome?_cons,ag,a1];rfl
   rw[J] at h
   exact h _ _ _ w8 σ3 ay.stp r2
  | none=>
   simp only[Option.isSome_none,↓M1,M1,Mb,reduceIte]
   refine J9 p j ?_
   (try simp only[↓M1,M1,Mb,reduceIte])
   refine ld u y rfl ?_
   refine P5 u p ?_
   refine E (chain l c.super).length _ _ (by rw[o,List.length_cons];omega) ⟨c.super,C++[c],σ3,rfl,rfl,by rw[f,o];simp,t,z,?_⟩
   rw[List.findSome?_append,e]
   simp[ag,Q2Z ho]
 | none=>
  rw[Q2B A]
  simp only[Option.isSome_none,↓M1,M1,Mb,reduceIte]
  have aj:(chain l k).findSome? F1=none:=by rw[f,I7 A,List.append_nil];exact e
  rw[aj] at h
  clear E e f
  refine P5 W H ?_
  refine Ba (fun m x w'=> ∃s C L,m=(chain l s).length∧x=I (W5 (Y4 l s))∧chain l k=C++chain l s∧Stp w σ w' L∧Z5 L w' b [S [], .slice none 0 0,S [], .bool false,I 0, .slice none 0 0, .slice none 0 0]∧C.findSome? (fun c=>U1 l c n)=none)
   (chain l k).length ⟨k,[],σ2,rfl,rfl,rfl,B,an,rfl⟩ ?_
  rintro Y m x d w3 ⟨s,C,σ3,rfl,rfl,f,t,z,e⟩ E
  have p:=hv.up t
  have u:=t.sat
  refine Zm ?_
  rw[Zw]
  cases A:lk l s with
  | some c=>
   obtain ⟨af,av,i,R,Q⟩:=U3 A
   obtain ⟨j,Z⟩:=List.getElem?_eq_some_iff.1 Q
   simp only[R,Option.isSome_some,W5,↓M1,M1,Mb,reduceIte]
   refine J9 p j ?_
   obtain ⟨lv,fv,mv,y,N⟩:=p.elC j
   rw[Z] at y N
   refine Y7 u y rfl ?_
   have o:chain l s=c::chain l c.super:=by rw[F4 ok.acy s,A]
   refine Q7R ok _ (Nat.lt_succ_self _) (by rw[af];exact A) u p N fun pv cv be w8 σ8 U aa=>?_
   refine J8 (vs:=[_,_,_]) rfl ?_
   refine J8 (vs:=[_,_,_]) rfl ?_
   refine J8 (vs:=[_,_,_]) rfl ?_
   refine Y6 U.sat (by rfl) rfl (Rep.one aa) fun q w9 σ9 D az=>?_
   have a:=U.trans D
   have ae:=t.trans a
   have ak:=z.step a
   have V:=RMe_lift aa ⟨D.le⟩
   have ab:=D.sat
   have ao:=p.up a
   replace y:=y.up a
   cases ho:U1 l c n with
   | some r=>
    obtain ⟨s,m⟩:=r
    rw[ho] at V az
    clear aa U D a
    simp only[ho,Option.isSome_some,↓M1,M1,Mb,reduceIte]
    refine V2 ab ?_
    (repeat refine U4 Qn ?_)
    (intros;(repeat (rename_i hx;subst hx));(try simp only[↓M2,M2,Mb,reduceIte]))
    rename_i bg M
    refine T4 (ak.step M.stp) (ae.trans M.stp) hb rfl rfl (Rep.one V) fun ax am al=>?_
    refine W1 al rfl ?_
    have J:(chain l k).findSome? (fun c=>U1 l c n)=some (s,m):=by
     rw[f,List.findSome?_append,e,o,List.findSome?_cons,ho];rfl
    unfold U1 at J
    rw[J] at h
    exact h _ _ _ ax σ9 am.stp V
   | none=>
    simp only[Option.isSome_none,↓M1,M1,Mb,reduceIte]
    refine J9 ao j ?_
    (try simp only[↓M1,M1,Mb,reduceIte])
    refine ld ab y rfl ?_
    refine P5 ab ao ?_
    refine E (chain l c.super).length _ _ (by rw[o,List.length_cons];omega) ⟨c.super,C++[c],σ9,rfl,rfl,by rw[f,o];simp,ae,ak,?_⟩
    rw[List.findSome?_append,e]
    simp[ho]
  | none=>
   rw[Q2B A]
   simp only[Option.isSome_none,↓M1,M1,Mb,reduceIte]
   have O:(chain l k).findSome? (fun c=>U1 l c n)=none:=by rw[f,I7 A,List.append_nil];exact e
   refine Dn ?_
   refine T4 z t hb rfl rfl (Rep.one (P3 (σ:=σ3))) fun w7 a5 a6=>?_
   refine W1 a6 rfl ?_
   unfold U1 at O
   rw[O] at h
   exact h _ _ _ w7 σ3 a5.stp P3)
end Go.Proofs.YtfppjenblllfaaaGreatDoor

namespace Go.Hm
open Go.Kd
theorem Q0J: ∀(xs:List X0) (x:X0),xs≠[]→N7 (xs++[x])=N7 xs++[44]++x
 | [],_,h=>absurd rfl h
 | [a],x,_=>by simp[N7]
 | a::b::r,x,_=>by
  have:=Q0J (b::r) x (by simp)
  simp only[List.cons_append] at this⊢
  simp only[N7,this]
  simp
theorem Q0E {xs:List X0} {n:Nat} (h:n<xs.length):N7 (xs.take (n+1))=N7 (xs.take n)++(if 0<n then [44] else [])++xs[n]:=by
 rw[List.take_add_one,List.getElem?_eq_getElem h]
 simp only[Option.toList_some]
 cases n with
 | zero=>simp[N7]
 | succ n=>
  rw[Q0J _ _ (by intro e;have:=congrArg List.length e;simp only[List.length_take,List.length_nil] at this;omega)]
  simp
end Go.Hm
namespace Go.Proofs.YtfppjenblllfaaaGreatDoor
open Go.Emb Go.RowKit Go.Kd Go.Hm
variable {w : World} {K : Value → World → Prop} {σ : Q4} {l : List Cla} {v : Value}
theorem Q43 {m:Hm.Met} {cs:List Value} (B:X4 w σ) (C:M5 σ m cs) (p:SmM m) (s:NmM m) (h: ∀w' y,Stp w σ w' y→K (S (P4 m)) w'):Q0 P F.aG [.agg cs.toArray] w K:=Ip (by
 obtain ⟨pv,O,R,rfl,f,M,L,N,H,J⟩:=C
 unfold Ms
 refine Y9 B fun q w1 σ1 g j=>?_
 have f:=f.up g
 have z: ∀n,(N7 (m.params.take n)).length≤101000000:=fun n=>by
  have:=Oz (m.params.take n) fun x t=>s.2 x (List.mem_of_mem_take t)
  have A:(m.params.take n).length≤1000000:=by rw[List.length_take];have:=p.1;omega
  have U:(m.params.take n).length*101≤1000000*101:=Nat.mul_le_mul_right _ A
  omega
 have c:=g.sat
 refine O8 m.params.length (fun n a w'=>w'=w1∧a=S ([40]++N7 (m.params.take n))) ⟨rfl,by simp[N7]⟩ fun n a Q d D i=>?_
 obtain ⟨E,rfl⟩:=i
 subst E
 have r:=z n
 (try simp only[↓M1,M1,Mb,reduceIte])
 refine ld c j rfl ?_
 refine Q8 f ?_
 refine Z1 ?_
 refine Q5 (fun k=>?_) (fun k=>?_)
 ·have b:n<m.params.length:=by simpa using k
  have t:=s.2 _ (List.getElem_mem b)
  refine V6 ?_
  obtain ⟨u,_⟩:=f.elS b
  refine Q5 (fun o=>?_) (fun o=>?_)
  ·have e:0<n:=by have:=of_decide_eq_true o;omega
   refine Rm (by simp only[List.length_append,List.length_cons,List.length_nil];omega) ?_
   intro d
   (try simp only[↓M1,M1,Mb,reduceIte])
   refine ld c j rfl ?_
   refine J9 f b ?_
   refine X8 c u rfl ?_
   refine Rm (by simp only[List.length_append,List.length_cons,List.length_nil];omega) ?_
   (try simp only[↓M1,M1,Mb,reduceIte])
   refine Z6 f.max b ⟨rfl,?_⟩
   rw[Q0E b,if_pos e];simp
  ·have e: ¬0<n:=by have:=of_decide_eq_false o;omega
   intro d
   (try simp only[↓M1,M1,Mb,reduceIte])
   refine ld c j rfl ?_
   refine J9 f b ?_
   refine X8 c u rfl ?_
   refine Rm (by simp only[List.length_append,List.length_cons,List.length_nil];omega) ?_
   (try simp only[↓M1,M1,Mb,reduceIte])
   refine Z6 f.max b ⟨rfl,?_⟩
   rw[Q0E b,if_neg e];simp
 ·have b: ¬n<m.params.length:=by simpa using k
  rw[List.take_of_length_le (by omega)] at r⊢
  refine Rm (by simp only[List.length_append,List.length_cons,List.length_nil];omega) ?_
  (try simp only[↓M1,M1,Mb,reduceIte])
  refine ld c j rfl ?_
  refine Rm (by simp only[List.length_append,List.length_cons,List.length_nil];have:=s.1;omega) ?_
  exact h _ _ g)
end Go.Proofs.YtfppjenblllfaaaGreatDoor

namespace Go.Hm
open Go.Kd
def Edge (l:List Cla) (i j:Nat):Prop:= ∃c,l[i]? =some c∧ ∃u∈J5 c,Y4 l u=some j
inductive Thr (E : Nat → Nat → Prop) (n : Nat) : Nat → Nat → Prop
  | one {i j : Nat} : E i j → Thr E n i j
  | more {i m j : Nat} : E i m → m < n → Thr E n m j → Thr E n i j
theorem Thr.cut {E:Nat→Nat→Prop} {n i j:Nat} (h:Thr E (n+1) i j):Thr E n i j∨(Thr E n i n∧Thr E n n j):=by
 induction h with
 | one h=>exact .inl (.one h)
 | @more i m j d f _ c=>
  by_cases e:m<n
  ·rcases c with c | ⟨a,b⟩
   ·exact .inl (.more d e c)
   ·exact .inr ⟨.more d e a,b⟩
  ·obtain rfl:m=n:=by omega
   rcases c with c | ⟨a,b⟩
   ·exact .inr ⟨.one d,c⟩
   ·exact .inr ⟨.one d,b⟩
theorem Thr.join {E:Nat→Nat→Prop} {n i k j:Nat} (h:Thr E n i k) (a:k<n) (g:Thr E n k j):Thr E n i j:=by
 induction h with
 | one h=>exact .more h a g
 | more c d _ b=>exact .more c d (b a g)
theorem Q2F {l:List Cla} (f:G2 l) {i j:Nat} (e:i<l.length):Edge l i j↔j<l.length∧ ∃u∈J5 l[i],u=Y1 l j∧Y4 l u=some j:=by
 unfold Edge
 rw[List.getElem?_eq_getElem e]
 constructor
 ·rintro ⟨c,d,u,b,a⟩
  cases d
  exact ⟨(R0 a).1,u,b,(R0 a).2.symm,a⟩
 ·rintro ⟨_,u,b,_,a⟩
  exact ⟨_,rfl,u,b,a⟩
theorem Q9d {l:List Cla} (b:G2 l) {i:Nat} (a:i<l.length):lk l (Y1 l i)=some l[i]:=by
 have:=Qp b a
 rwa [List.getD_eq_getElem?_getD,List.getElem?_eq_getElem a] at this
theorem Q8N {l:List Cla} (b:G2 l) {i j:Nat} (a:i<l.length) (h:Thr (Edge l) l.length i j):j<l.length∧Uk (lk l) (Y1 l i) (Y1 l j):=by
 induction h with
 | one h=>
  obtain ⟨f,u,e,d,g⟩:=(Q2F b a).1 h
  obtain ⟨c,m,_⟩:=Zo g
  refine ⟨f,_,Q9d b a,u,e,?_⟩
  subst d;exact .refl m
 | more f o _ k=>
  obtain ⟨n,p⟩:=k o
  obtain ⟨_,u,e,d,g⟩:=(Q2F b a).1 f
  refine ⟨n,_,Q9d b a,u,e,?_⟩
  subst d;exact p.reach
theorem Q8m {l:List Cla} (y:G2 l) {a b:X0} (h:Hm.Reach (lk l) a b): ∀i j,Y4 l a=some i→Y4 l b=some j→i=j∨Thr (Edge l) l.length i j:=by
 induction h with
 | refl _=>
  intro i j n f;rw[n] at f;cases f;exact .inl rfl
 | step r s t q=>
  rename_i a u b c
  intro i j n f
  obtain ⟨d,v⟩:=t.left
  obtain ⟨_,_,k,m,p⟩:=U3 v
  obtain ⟨w,e,g,_⟩:=Zo n
  rw[r] at e;cases e
  have o:Edge l i k:=⟨c,g,u,s,m⟩
  rcases q k j m f with rfl | hT
  ·exact .inr (.one o)
  ·exact .inr (.more o (R0 m).1 hT)
theorem Q8W {l:List Cla} (e:G2 l) {i j:Nat} (m:i<l.length) (o:j<l.length) (h:Uk (lk l) (Y1 l i) (Y1 l j)):Thr (Edge l) l.length i j:=by
 obtain ⟨c,g,u,q,n⟩:=h
 rw[Q9d e m] at g;cases g
 obtain ⟨d,r⟩:=n.left
 obtain ⟨_,_,k,a,p⟩:=U3 r
 have f:Edge l i k:=⟨_,List.getElem?_eq_getElem m,u,q,a⟩
 have b:Y4 l (Y1 l j)=some j:=by
  have:=e.find (List.getElem?_eq_getElem o)
  unfold Y1
  rw[List.getD_eq_getElem?_getD,List.getElem?_eq_getElem o];exact this
 rcases Q8m e n k j a b with rfl | hT
 ·exact .one f
 ·exact .more f (R0 a).1 hT
theorem X0o {l:List Cla} (a:G2 l) {i j:Nat} (b:i<l.length) (c:j<l.length):Thr (Edge l) l.length i j↔Zp l (Y1 l i) (Y1 l j)=true:=by
 rw[Ux]
 exact ⟨fun h=>(Q8N a b h).2,Q8W a b c⟩
def Xj (l:List Cla):List (List Bool):=(List.range l.length).map fun i=>(List.range l.length).map fun j=>Zp l (Y1 l i) (Y1 l j)
def Sk (m:Nat→Nat→Bool) (i j:Nat) (b:Bool):Nat→Nat→Bool:=fun x y=>if x=i∧y=j then b else m x y
structure Clos (E : Nat → Nat → Prop) (n k i j : Nat) (m : Nat → Nat → Bool) : Prop where
  sound : ∀ a b, m a b = true → Thr E n a b
  full : ∀ a b, a < n → b < n → Thr E k a b → m a b = true
  done : ∀ a b, a < n → b < n → (a < i ∨ (a = i ∧ b < j)) → Thr E (k + 1) a b → m a b = true
theorem Clos.next {E:Nat→Nat→Prop} {n k i j:Nat} {m:Nat→Nat→Bool} (h:Clos E n k i j m) (r:k<n) (s:i<n) (t:j<n):Clos E n k i (j+1) (Sk m i j (m i j||(m i k&&m k j))):=by
 have f: ∀a b,m a b=true→Sk m i j (m i j||(m i k&&m k j)) a b=true:=by
  intro a b c
  unfold Sk
  split
  ·rename_i e;rw[←e.1,←e.2,c];rfl
  ·exact c
 refine ⟨fun a b c=>?_,fun a b q p l=>f a b (h.full a b q p l),fun a b q p o l=>?_⟩
 ·unfold Sk at c
  split at c
  ·rename_i e
   obtain ⟨rfl,rfl⟩:=e
   simp only[Bool.or_eq_true,Bool.and_eq_true] at c
   rcases c with d | ⟨d,g⟩
   ·exact h.sound _ _ d
   ·exact (h.sound _ _ d).join r (h.sound _ _ g)
  ·exact h.sound _ _ c
 ·by_cases e:a=i∧b=j
  ·obtain ⟨rfl,rfl⟩:=e
   unfold Sk
   rw[if_pos ⟨rfl,rfl⟩]
   rcases l.cut with d | ⟨d,g⟩
   ·rw[h.full _ _ s t d];rfl
   ·rw[h.full _ _ s r d,h.full _ _ r t g];simp
  ·refine f a b (h.done a b q p ?_ l)
   rcases o with d | ⟨d,g⟩
   ·exact .inl d
   ·right;refine ⟨d,?_⟩
    have:b≠j:=fun u=>e ⟨d,u⟩
    omega
theorem Clos.row {E:Nat→Nat→Prop} {n k i:Nat} {m:Nat→Nat→Bool} (h:Clos E n k i n m):Clos E n k (i+1) 0 m:=
 ⟨h.sound,h.full,fun a b e f d c=>h.done a b e f (by omega) c⟩
theorem Clos.round {E:Nat→Nat→Prop} {n k:Nat} {m:Nat→Nat→Bool} (h:Clos E n k n 0 m):Clos E n (k+1) 0 0 m:=
 ⟨h.sound,fun a b c e d=>h.done a b c e (.inl c) d,fun a b c e f d=>by omega⟩
theorem Clos.start {E:Nat→Nat→Prop} {n:Nat} {m:Nat→Nat→Bool} (h: ∀a b,a<n→(m a b=true↔E a b)) (j: ∀a b,n≤a→m a b=false):Clos E n 0 0 0 m:=by
 refine ⟨fun a b c=>?_,fun a b d i f=>?_,fun a b d i g f=>by omega⟩
 ·by_cases d:a<n
  ·exact .one ((h a b d).1 c)
  ·rw[j a b (by omega)] at c;cases c
 ·cases f with
  | one e=>exact (h a b d).2 e
  | more _ k _=>omega
theorem Clos.all {l:List Cla} (c:G2 l) {m:Nat→Nat→Bool} (h:Clos (Edge l) l.length l.length 0 0 m) {i j:Nat} (b:i<l.length) (a:j<l.length):m i j=Zp l (Y1 l i) (Y1 l j):=by
 rw[Bool.eq_iff_iff,←X0o c b a]
 exact ⟨h.sound i j,h.full i j b a⟩
end Go.Hm

namespace Go.Emb
open Go.RowKit Go.Hm
variable {P : Program} {w w0 w1 w' w'' : World} {K : Value → World → Prop} {σ σ0 σ1 σ' : Q4}
theorem X1f {t e:TypeId} {by_ n:Nat} {z:Value} [ts:TS P t e] [tz:TZ P e 1 by_ z] (g:X4 w σ) (j:z.cells= #[z]) (o:n≤1000000) (m:by_*n≤281474976710656)
 (h: ∀b w',w.heap.size≤b→Stp w σ w' σ→Z5 σ w' b (List.replicate n z)→K (.slice (some ⟨b,0,none⟩) n n) w'):Mw P t (I n) (I n) w K:=by
 obtain ⟨i,k,c,d,a⟩:=tz.info
 have f:(i.bytes:Int)*(n:Int)≤281474976710656:=by
  rw[d]
  have:((by_*n:Nat):Int)≤281474976710656:=by omega
  rwa [Int.natCast_mul] at this
 have l:=run_makeSlice (P:=P) w t e i z ts.h k a .i64 .i64 (n:Int) (n:Int) (by omega) (Int.le_refl _) (by rw[c];simp only[Int.toNat_natCast];omega) f (by omega)
 unfold Mw
 rw[X9 l]
 simp only[Int.toNat_natCast,c,Nat.mul_one]
 refine h _ _ (Nat.le_refl _) (Stp.own g _) ⟨g.none (Nat.le_refl _),e,?_⟩
 rw[heap_alloc_new,j]
 have:madeCells #[z] n=(List.replicate n z).toArray:=by rw[←toList_madeCells_one,Array.toArray_toList]
 rw[this]
def Q4w (n:Nat) (_:Q4) (b:Nat) (cs:List Value):Prop:=cs=[.slice (some ⟨b,0,none⟩) n n]
instance (n:Nat):Rep (Q4w n):=⟨fun _ h=>h,fun h u hu=>by rw[h] at hu;simp at hu;subst hu;rfl⟩
def Q8D (σ:Q4) (xs:List Bool) (cs:List Value):Prop:= ∃v,cs=[v]∧Sl 1 Q73 σ v xs
instance:Rep Q8D:=⟨fun k h=>by obtain ⟨v,h1,h2⟩:=h;exact ⟨v,h1,h2.le k⟩,fun h u hu=>by
 obtain ⟨v,rfl,a,cap,rfl,_⟩:=h
 simp at hu;subst hu;rfl⟩
def bools (n:Nat) (f:Nat→Bool):List Value:=(List.range n).map fun j=> .bool (f j)
theorem Pk {n:Nat} {f:Nat→Bool}:(bools n f).length=n:=by simp[bools]
theorem Q3i {n j:Nat} {f:Nat→Bool} (h:j<n):(bools n f)[j]? =some (.bool (f j)):=by simp[bools,h]
theorem Q2P {n j:Nat} {f:Nat→Bool} {b:Bool}:(bools n f).set j (.bool b)=bools n (fun x=>if x=j then b else f x):=by
 apply List.ext_getElem?
 intro k
 rw[List.getElem?_set]
 by_cases a:k<n
 ·by_cases e:j=k
  ·subst e;simp[bools,a]
  ·have c: ¬k=j:=fun h=>e h.symm
   simp[bools,a,e,c]
 ·simp[bools,a]
  intro e;omega
theorem Q5y {n:Nat}:List.replicate n (Value.bool false)=bools n fun _=>false:=by
 apply List.ext_getElem?
 intro k
 by_cases a:k<n<;>simp[bools,a]
def P8 (σ:Q4) (w:World) (a:List Nat) (n:Nat) (m:Nat→Nat→Bool):Prop:=a.Nodup∧ ∀i (h:i<a.length),Z5 σ w a[i] (bools n (m i))
theorem P8.up {a:List Nat} {n:Nat} {m:Nat→Nat→Bool} (h:P8 σ w a n m) (k:Stp w σ w' σ'):P8 σ' w' a n m:=⟨h.1,fun i b=>(h.2 i b).up k⟩
theorem P8.kp {a:List Nat} {n:Nat} {m:Nat→Nat→Bool} {D:Nat→Prop} (h:P8 σ w a n m) (k:Kpt D w w') (d: ∀b∈a,¬D b):P8 σ w' a n m:=⟨h.1,fun i c=>(h.2 i c).kp k (d _ (List.getElem_mem c))⟩
theorem P8.lt {c:List Nat} {n:Nat} {m:Nat→Nat→Bool} (h:P8 σ w c n m) {b:Nat} (d:b∈c):b<w.heap.size∧σ b=none:=by
 obtain ⟨i,a,rfl⟩:=List.getElem_of_mem d
 exact ⟨(h.2 i a).lt,(h.2 i a).1⟩
theorem P8.snoc {d:List Nat} {n b:Nat} {m:Nat→Nat→Bool} {f:Nat→Bool} (h:P8 σ w d n m) (o:b∉d) (k:Z5 σ w b (bools n f)):P8 σ w (d++[b]) n (fun x=>if x=d.length then f else m x):=by
 refine ⟨by rw[List.nodup_append];exact ⟨h.1,by simp,fun a l c g e=>by simp at g;subst g;subst e;exact o l⟩,fun i p=>?_⟩
 rw[List.length_append,List.length_singleton] at p
 by_cases j:i<d.length
 ·rw[List.getElem_append_left j]
  simp only[if_neg (show¬i=d.length by omega)]
  exact h.2 i j
 ·obtain rfl:i=d.length:=by omega
  simp only[List.getElem_concat_length,if_true]
  exact k
theorem P8.congr {a:List Nat} {n:Nat} {m m':Nat→Nat→Bool} (h:P8 σ w a n m) (c: ∀i,i<a.length→m i=m' i):P8 σ w a n m':=⟨h.1,fun i b=>c i b▸h.2 i b⟩
theorem P8.keep {a:List Nat} {n:Nat} {m:Nat→Nat→Bool} (U:0<n) (t:n≤1000000): ∀{σ:Q4},P8 σ w a n m→Stp w0 σ0 w σ→(∀b∈a,w0.heap.size≤b)→ ∃σ',Stp w0 σ0 w σ'∧SLe σ σ'∧ ∀i (h:i<a.length),Sl 1 Q73 σ' (.slice (some ⟨a[i],0,none⟩) n n) ((List.range n).map (m i)):=by
 intro σ h L y
 have key: ∀k,k≤a.length→ ∃σ',Stp w0 σ0 w σ'∧SLe σ σ'∧(∀i (h:i<a.length),i<k→Z2 σ' ⟨a[i],0,none⟩ (bools n (m i)))∧ ∀i (h:i<a.length),k≤i→σ' a[i]=none:=by
  intro k
  induction k with
  | zero=>intro _;exact ⟨σ,L,SLe.refl _,fun i _ h=>by omega,fun i c _=>(h.2 i c).1⟩
  | succ k D=>
   intro R
   obtain ⟨σ1,g,f,q,s⟩:=D (by omega)
   have d:k<a.length:=by omega
   have E:Z5 σ1 w a[k] (bools n (m k)):=⟨s k d (Nat.le_refl _),(h.2 k d).2⟩
   obtain ⟨z,M,A,r,C⟩:=E.keep g (y _ (List.getElem_mem d))
   refine ⟨z,M,f.more ⟨r⟩,fun i c H=>?_,fun i c J=>?_⟩
   ·by_cases e:i=k
    ·subst e;exact A
    ·exact (q i c (by omega)).le r
   ·rw[C]
    ·exact s i c (by omega)
    ·intro e
     have:=List.nodup_iff_pairwise_ne.1 h.1
     rw[List.pairwise_iff_getElem] at this
     exact this k i d c (by omega) e.symm
 obtain ⟨σ1,g,f,q,_⟩:=key a.length (Nat.le_refl _)
 refine ⟨σ1,g,f,fun i c=>⟨some ⟨a[i],0,none⟩,n,by simp,by simp,by simp only[maxLen];omega,fun e=>(by cases e),?_⟩⟩
 intro b B
 obtain rfl:=Option.some.inj B
 refine ⟨fun _=>rfl,fun j x l=>?_⟩
 have u:j<n:=by have:=(List.getElem?_eq_some_iff.1 l).1;simpa using this
 obtain ⟨q0,H5,e,N,O,Q⟩:=q i c c
 have o:x=m i j:=by simp[u] at l;exact l.symm
 refine ⟨[.bool x],⟨G5 rfl _,H5,e,N,by rw[C1];exact O,fun k v p=>?_⟩,rfl,rfl⟩
 obtain rfl:k=0:=by cases k with
  | zero=>rfl
  | succ k=>simp at p
 simp at p
 rw[Xq,←p,o]
 have:=Q j _ (Q3i u)
 simpa using this
end Go.Emb

namespace Go.Emb
open Go.RowKit Go.Hm
variable {P : Program} {w w0 w1 w' w'' : World} {K : Value → World → Prop} {σ σ0 σ1 σ' : Q4}
theorem Q07 {t e:TypeId} {sz by_:Nat} {z:Value} [ts:TS P t e] [tz:TZ P e sz by_ z] {a:Addr} {n b i:Nat} (d:i<n) (c:K (.pointer (some (a.add (i*sz)))) w):indexAddr P t (.slice (some a) n b) (I i) w K:=by
 rw[Cd (by omega) (by omega)]
 simpa using c
theorem P8.nx {D:Nat→Prop} {a:List Nat} {n:Nat} {m:Nat→Nat→Bool} (h:P8 σ w a n m) (k:Nxt D w σ w' σ') (d: ∀b∈a,¬D b):P8 σ' w' a n m:=
 ⟨h.1,fun i c=>(h.2 i c).nx k (d _ (List.getElem_mem c))⟩
theorem P8.set {a:List Nat} {n i j:Nat} {b:Bool} {m:Nat→Nat→Bool} (h:P8 σ w a n m) (g:i<a.length) (o:Upd w a[i] w') (f:Z5 σ w' a[i] ((bools n (m i)).set j (.bool b))):P8 σ w' a n (Sk m i j b):=by
 refine ⟨h.1,fun k c=>?_⟩
 by_cases e:k=i
 ·subst e
  rw[Q2P] at f
  have:Sk m k j b k=fun x=>if x=j then b else m k x:=by funext x;simp[Sk]
  rw[this];exact f
 ·have:Sk m i j b k=m k:=by funext x;simp[Sk,e]
  rw[this]
  refine (h.2 k c).upd o fun d=>e ?_
  rcases Nat.lt_trichotomy k i with hlt | hlt | hlt
  ·have:=List.nodup_iff_pairwise_ne.1 h.1
   rw[List.pairwise_iff_getElem] at this
   exact absurd d (this k i c g hlt)
  ·exact hlt
  ·have:=List.nodup_iff_pairwise_ne.1 h.1
   rw[List.pairwise_iff_getElem] at this
   exact absurd d.symm (this i k g c hlt)
end Go.Emb
namespace Go.Proofs.YtfppjenblllfaaaGreatDoor
open Go.Emb Go.RowKit Go.Kd Go.Hm
variable {w : World} {K : Value → World → Prop} {σ : Q4} {l : List Cla} {v : Value}
def Vy (l:List Cla) (i j:Nat):Bool:=match l[i]? with
 | none=>false
 | some c=>(J5 c).any fun u=>decide (Y4 l u=some j)
theorem Q8h (l:List Cla) (i j:Nat):Vy l i j=true↔Hm.Edge l i j:=by
 unfold Vy Hm.Edge
 cases h:l[i]? with
 | none=>simp
 | some c=>simp[List.any_eq_true]
theorem Q8v {l:List Cla} {i j:Nat} (h:l.length≤i):Vy l i j=false:=by
 unfold Vy
 rw[List.getElem?_eq_none h]
set_option maxHeartbeats 4000000 in
theorem Q2C (hs:X4 w σ) (hl:Sl 8 U5 σ v l) (ho:G2 l) (hpos:0<l.length) (hlen:l.length≤1000) (hsm: ∀c∈l,P7 c)
 (h: ∀v' w' σ',Stp w σ w' σ'→Sl 1 Q8D σ' v' (Xj l)→K v' w'):Q0 P F.aA [v] w K:=Gj (by
 unfold Lk
 refine Pa (R:=Q4w l.length) (e:=T.a0) (Stp.refl hs) (by decide) fun x0 w1 hk1 ha1 _=>?_
 refine O8 l.length (fun n x w'=> ∃σ' bs,Stp w σ w' σ'∧V5 w.heap.size T.a0 1 (Q4w l.length) σ' w' x bs∧P8 σ' w' bs l.length (Vy l)∧bs.length=n∧ ∀b∈bs,w.heap.size≤b∧x.ownBlock≠some b) ⟨σ,[],hk1,ha1,⟨List.nodup_nil,by simp⟩,rfl,by simp⟩ fun n x w2 d hn hinv=>?_
 obtain ⟨σ2,bs,hS2,ha2,hM2,hbl,hb2⟩:=hinv
 refine Q8 (hl.up hS2) ?_
 refine Z1 ?_
 refine Q5 (fun hc=>?_) (fun hc=>?_)
 ·have hn':n<l.length:=by simpa using hc
  have hl2:=hl.up hS2
  refine Q8 hl2 ?_
  refine X1f hS2.sat rfl (by omega) (by omega) fun b w3 hb3 hk3 hm3=>?_
  rw[Q5y] at hm3
  obtain ⟨lv,fv,mv,p1,r1⟩:=hl2.elC hn'
  obtain ⟨g1,_,_,g4,g5⟩:=r1.parts
  have hsmc:=hsm _ (List.getElem_mem hn')
  have hs3:=hk3.sat
  refine V2 hs3 ?_
  (repeat refine U4 Qn ?_)
  refine Q2e (w:=w3) (σ:=σ2) (R:=Y0) (sz:=1) (e:=T.b) [l[n].super] (fun t w hb e=>?_) ?_
  ·subst e;exact Qh hb.stp [_] [l[n].super] rfl rfl (by simp;rfl) rfl ⟨⟨rfl,g5⟩,trivial⟩ fun v' w' hk ha _=>Q3N hb hk ha
  (repeat refine U4 Qn ?_)
  rintro t24 t25 t30 t31 t26 t27 t32 w4 hb4 rfl rfl rfl rfl rfl ⟨f27,a27⟩ rfl
  refine Ox f27 a27 g1 rfl (by simp;have:=hsmc.1;omega) (by simp;have:=hsmc.1;omega) fun v5 w5 hn5 hS5 ha5 hat5=>?_
  obtain ⟨σ6,hS6,hv6,le6,_⟩:=ha5.keep hS5
  have hv6:Sl 1 Y0 σ6 v5 (J5 l[n]):=hv6
  have hb3w:w.heap.size≤b:=Nat.le_trans hS2.bel.size hb3
  have hm6:=hm3.up hS6
  have ha6:=(ha2.up hk3).up hS6
  have hM6:=(hM2.up hk3).up hS6
  have hS26:=(hS2.trans hk3).trans hS6
  have hxb: ∀k,x.ownBlock=some k→k≠b:=fun k e=>by have:=(ha2.mem k e).2.1;omega
  have hbbs:b∉bs:=fun e=>by have:=(hM2.lt e).1;omega
  clear hm3 ha2 hM2 hS6 hS5 ha5 a27 f27 hn5 hat5
  refine Z8 (J5 l[n]).length (fun k w'=>Stp w σ w' σ6∧V5 w.heap.size T.a0 1 (Q4w l.length) σ6 w' x bs∧P8 σ6 w' bs l.length (Vy l)∧Z5 σ6 w' b (bools l.length fun j=>((J5 l[n]).take k).any fun u=>decide (Y4 l u=some j)))
   ⟨hS26,ha6,hM6,hm6⟩ fun k w7 d7 hk hinv=>?_
  obtain ⟨hS7,ha7,hM7,hm7⟩:=hinv
  refine Q8 hv6 ?_
  refine Z1 ?_
  refine Q5 (fun hc=>?_) (fun hc=>?_)
  ·have hk':k<(J5 l[n]).length:=by simpa using hc
   refine V6 ?_
   refine J9 hv6 hk' ?_
   obtain ⟨p2,p3⟩:=hv6.elS hk'
   refine X8 hS7.sat p2 rfl ?_
   refine P5 hS7.sat (hl.up hS7) ?_
   refine Zm ?_
   rw[Zw]
   have hnx: ∀f:Nat→Bool,(∀j,f j=(((J5 l[n]).take k).any (fun u=>decide (Y4 l u=some j))||decide (Y4 l (J5 l[n])[k]=some j)))→f=fun j=>((J5 l[n]).take (k+1)).any fun u=>decide (Y4 l u=some j):=by
    intro f hf;funext j;rw[hf,M3 hk']
   cases hfc:Y4 l (J5 l[n])[k] with
   | none=>
    simp only[Option.isSome_none,↓M1,M1,Mb,reduceIte]
    intro d
    refine Y2 hv6.max hk' ⟨hS7,ha7,hM7,?_⟩
    rw[←hnx (fun j=>((J5 l[n]).take k).any fun u=>decide (Y4 l u=some j)) (fun j=>by rw[hfc];simp)]
    exact hm7
   | some j=>
    have hj:=(R0 hfc).1
    simp only[Option.isSome_some,W5,↓M1,M1,Mb,reduceIte]
    refine Q07 hj ?_
    rw[Nat.mul_one]
    refine Lv hm7 (by rw[Pk];exact hj) (by rfl) (by rfl) fun w8 u8 hm8=>?_
    intro d
    rw[Q2P] at hm8
    refine Y2 hv6.max hk' ⟨u8.stp hS7 hb3w hm7.1,ha7.kp (D:=(· =b)) (.of_upd u8 rfl) hxb,hM7.kp (D:=(· =b)) (.of_upd u8 rfl) (fun c hc e=>hbbs (e▸hc)),?_⟩
    rw[←hnx (fun x=>if x=j then true else _) (fun i=>?_)]
    ·exact hm8
    ·rw[hfc]
     by_cases e:i=j
     ·subst e;simp
     ·have: ¬j=i:=fun e'=>e e'.symm
      simp[e,this]
  ·have hk': ¬k<(J5 l[n]).length:=by simpa using hc
   have hk0:k=(J5 l[n]).length:=by omega
   subst hk0
   rw[List.take_of_length_le (Nat.le_refl _)] at hm7
   have hef:(fun j=>(J5 l[n]).any fun u=>decide (Y4 l u=some j))=Vy l n:=by
    funext j;unfold Vy;rw[List.getElem?_eq_getElem hn']
   rw[hef] at hm7
   have hM8:=(hM7.snoc hbbs hm7).congr (m':=Vy l) (fun i _=>by
    by_cases e:i=bs.length
    ·rw[if_pos e,e,hbl]
    ·rw[if_neg e])
   refine Jy (R:=Q4w l.length) (x:=b) hS7 ha7 rfl rfl rfl rfl (by omega) (by omega) fun s v' w9 σ9 hnx hS9 ha9 hat=>?_
   have hdis: ∀c∈bs++[b],w.heap.size≤c∧x.ownBlock≠some c:=by
    intro c hc
    rcases List.mem_append.1 hc with hc | hc
    ·exact hb2 c hc
    ·simp at hc;subst hc;exact ⟨hb3w,fun e=>hxb _ e rfl⟩
   have hlt9: ∀c∈bs++[b],c<w7.heap.size:=fun c hc=>(hM8.lt hc).1
   refine D5 ?_
   refine Z6 (by omega) hn' ⟨σ9,bs++[b],hS9,ha9,hM8.nx hnx (fun c hc=>(hdis c hc).2),by rw[List.length_append,hbl];rfl,fun c hc=>⟨(hdis c hc).1,fun e=>?_⟩⟩
   rcases hat with hat | hat
   ·exact (hdis c hc).2 (hat▸e)
   ·have:=hat c e;have:=hlt9 c hc;omega
 ·have hn0:n=l.length:=by
   have: ¬n<l.length:=by simpa using hc
   omega
  obtain ⟨σ8,hS8,hv8,le8,old8⟩:=ha2.keep hS2
  have hlb:bs.length=l.length:=by omega
  have hM8:P8 σ8 w2 bs l.length (Vy l):=⟨hM2.1,fun i hi=>⟨(old8 _ (fun e=>(hb2 _ (List.getElem_mem hi)).2 e.symm)).trans (hM2.2 i hi).1,(hM2.2 i hi).2⟩⟩
  have hpx: ∀i (hi:i<bs.length),Z2 σ8 (elA 1 x i) [.slice (some ⟨bs[i],0,none⟩) l.length l.length]:=fun i hi=>by
   obtain ⟨cs,h1,_,h2⟩:=hv8.el hi
   have h2:cs=_:=h2
   subst h2;exact h1
  clear ha2 hM2 hS2 le8 old8
  refine Z8 l.length (fun k w'=> ∃m,Stp w σ w' σ8∧P8 σ8 w' bs l.length m∧Clos (Hm.Edge l) l.length k 0 0 m) ⟨Vy l,hS8,hM8,Clos.start (fun a b _=>Q8h l a b) (fun a b h=>Q8v h)⟩ fun k w3 d3 hk3 hinv=>?_
  obtain ⟨m3,hS3,hM3,hC3⟩:=hinv
  refine Q8 (hl.up hS3) ?_
  refine Z1 ?_
  refine Q5 (fun hc=>?_) (fun hc=>?_)
  ·have hk':k<l.length:=by simpa using hc
   refine Z8 l.length (fun i w'=> ∃m,Stp w σ w' σ8∧P8 σ8 w' bs l.length m∧Clos (Hm.Edge l) l.length k i 0 m) ⟨m3,hS3,hM3,hC3⟩ fun i w4 d4 hi4 hinv=>?_
   obtain ⟨m4,hS4,hM4,hC4⟩:=hinv
   refine Q8 (hl.up hS4) ?_
   refine Z1 ?_
   refine Q5 (fun hc=>?_) (fun hc=>?_)
   ·have hi':i<l.length:=by simpa using hc
    refine Z8 l.length (fun j w'=> ∃m,Stp w σ w' σ8∧P8 σ8 w' bs l.length m∧Clos (Hm.Edge l) l.length k i j m) ⟨m4,hS4,hM4,hC4⟩ fun j w5 d5 hj5 hinv=>?_
    obtain ⟨m5,hS5,hM5,hC5⟩:=hinv
    refine Q8 (hl.up hS5) ?_
    refine Z1 ?_
    refine Q5 (fun hc=>?_) (fun hc=>?_)
    ·have hj':j<l.length:=by simpa using hc
     have hi6:i<bs.length:=by omega
     have hk6:k<bs.length:=by omega
     have px_i:=hpx i hi6
     have px_k:=hpx k hk6
     have hrd: ∀{w':World} {K:Value→World→Prop} {a b:Nat} {ha:a<bs.length},Hst w5 σ8 w' σ8→b<l.length→K (.bool (m5 a b)) w'→Q2 P T.m (.pointer (some ((⟨bs[a],0,none⟩:Addr).add (b*1)))) w' K:=fun hst hb hK=>by
      rw[Nat.mul_one]
      exact Qg (((hM5.up hst.stp).2 _ _).cell (Q3i hb)) hK
     refine V2 hS5.sat ?_
     (repeat (apply U4;(· intros;(repeat (rename_i hx;subst hx));(repeat' (first | (with_reducible exact N4 rfl) | (with_reducible exact Zl (Stp.bel (by (repeat (first | exact Stp.refl (by (first | assumption | exact Stp.sat (by assumption) | exact Hst.sat (by assumption))) | assumption | refine Stp.trans ?_ (by first | assumption | exact Hst.stp (by assumption)))))) rfl) | (with_reducible intro _) | (simp only[↓M2,M2,Mb,reduceIte]) | (with_reducible refine Q07 au ?_) | (with_reducible refine hrd au au ?_) | (with_reducible show Q2 _ _ _ _ _;first | refine X8 aS aL aR ?_ | refine Y7 aS aL aR ?_ | refine ld aS aL aR ?_) | (with_reducible show indexAddr _ _ _ _ _ _;refine J9 aL au ?_) | (with_reducible show X6 _ _ _ _ _ _ _ _;refine Q8 aL ?_) | (with_reducible show Vv _ _ _ _ _ _;refine V0 aR ?_) | (with_reducible show pick _ _ _ _ _ _;refine Jn ?_) | (apply Wv;intro hh;(try simp only[hh,reduceIte,↓M2,M2,Mb,reduceIte]))));done)))
     cases h1:m5 i j
     ·simp only[reduceIte]
      (repeat (apply U4;(· intros;(repeat (rename_i hx;subst hx));(repeat' (first | (with_reducible exact N4 rfl) | (with_reducible exact Zl (Stp.bel (by (repeat (first | exact Stp.refl (by (first | assumption | exact Stp.sat (by assumption) | exact Hst.sat (by assumption))) | assumption | refine Stp.trans ?_ (by first | assumption | exact Hst.stp (by assumption)))))) rfl) | (with_reducible intro _) | (simp only[↓M2,M2,Mb,reduceIte]) | (with_reducible refine Q07 au ?_) | (with_reducible refine hrd au au ?_) | (with_reducible show Q2 _ _ _ _ _;first | refine X8 aS aL aR ?_ | refine Y7 aS aL aR ?_ | refine ld aS aL aR ?_) | (with_reducible show indexAddr _ _ _ _ _ _;refine J9 aL au ?_) | (with_reducible show X6 _ _ _ _ _ _ _ _;refine Q8 aL ?_) | (with_reducible show Vv _ _ _ _ _ _;refine V0 aR ?_) | (with_reducible show pick _ _ _ _ _ _;refine Jn ?_) | (apply Wv;intro hh;(try simp only[hh,reduceIte,↓M2,M2,Mb,reduceIte]))));done)))
      (intros;(repeat (rename_i hx;subst hx));(try simp only[↓M2,M2,Mb,reduceIte]))
      rename_i w6 hb6
      refine Q07 hj' ?_
      rw[Nat.mul_one]
      refine Eq.subst (motive:=fun V=>Z3 P T.m (.pointer (some ((⟨bs[i],0,none⟩:Addr).add j))) V w6 _) (show Value.bool (m5 i j||(m5 i k&&m5 k j))=_ from by cases h2:m5 i k<;>simp[h1,h2]) ?_
      refine Lv ((hM5.up hb6.stp).2 i hi6) (by rw[Pk];exact hj') (by rfl) (by rfl) fun w7 u7 hm7=>?_
      (try simp only[↓M1,M1,Mb,reduceIte])
      exact Y2 (by omega) hj' ⟨_,u7.stp (hS5.trans hb6.stp) (hb2 _ (List.getElem_mem hi6)).1 hm7.1,(hM5.up hb6.stp).set hi6 u7 hm7,hC5.next hk' hi' hj'⟩
     ·simp only[Bool.true_eq_false,reduceIte]
      (repeat (apply U4;(· intros;(repeat (rename_i hx;subst hx));(repeat' (first | (with_reducible exact N4 rfl) | (with_reducible exact Zl (Stp.bel (by (repeat (first | exact Stp.refl (by (first | assumption | exact Stp.sat (by assumption) | exact Hst.sat (by assumption))) | assumption | refine Stp.trans ?_ (by first | assumption | exact Hst.stp (by assumption)))))) rfl) | (with_reducible intro _) | (simp only[↓M2,M2,Mb,reduceIte]) | (with_reducible refine Q07 au ?_) | (with_reducible refine hrd au au ?_) | (with_reducible show Q2 _ _ _ _ _;first | refine X8 aS aL aR ?_ | refine Y7 aS aL aR ?_ | refine ld aS aL aR ?_) | (with_reducible show indexAddr _ _ _ _ _ _;refine J9 aL au ?_) | (with_reducible show X6 _ _ _ _ _ _ _ _;refine Q8 aL ?_) | (with_reducible show Vv _ _ _ _ _ _;refine V0 aR ?_) | (with_reducible show pick _ _ _ _ _ _;refine Jn ?_) | (apply Wv;intro hh;(try simp only[hh,reduceIte,↓M2,M2,Mb,reduceIte]))));done)))
      (intros;(repeat (rename_i hx;subst hx));(try simp only[↓M2,M2,Mb,reduceIte]))
      rename_i w6 hb6
      refine Q07 hj' ?_
      rw[Nat.mul_one]
      refine Eq.subst (motive:=fun V=>Z3 P T.m (.pointer (some ((⟨bs[i],0,none⟩:Addr).add j))) V w6 _) (show Value.bool (m5 i j||(m5 i k&&m5 k j))=_ from by simp[h1]) ?_
      refine Lv ((hM5.up hb6.stp).2 i hi6) (by rw[Pk];exact hj') (by rfl) (by rfl) fun w7 u7 hm7=>?_
      (try simp only[↓M1,M1,Mb,reduceIte])
      exact Y2 (by omega) hj' ⟨_,u7.stp (hS5.trans hb6.stp) (hb2 _ (List.getElem_mem hi6)).1 hm7.1,(hM5.up hb6.stp).set hi6 u7 hm7,hC5.next hk' hi' hj'⟩
    ·have hj0:j=l.length:=by
      have: ¬j<l.length:=by simpa using hc
      omega
     subst hj0
     refine D5 ?_
     exact Y2 (by omega) hi' ⟨m5,hS5,hM5,hC5.row⟩
   ·have hi0:i=l.length:=by
     have: ¬i<l.length:=by simpa using hc
     omega
    subst hi0
    refine D5 ?_
    exact Y2 (by omega) hk' ⟨m4,hS4,hM4,hC4.round⟩
  ·have hk0:k=l.length:=by
    have: ¬k<l.length:=by simpa using hc
    omega
   subst hk0
   obtain ⟨σ9,hS9,le9,hrows⟩:=hM3.keep hpos (by omega) hS3 (fun b hb=>(hb2 b hb).1)
   refine h _ _ _ hS9 ((hv8.lift le9).conv (by simp[Xj,hlb]) fun i hi hj cs hcs=>?_)
   have hcs:cs=_:=hcs
   subst hcs
   refine ⟨_,rfl,?_⟩
   have:=hrows i hi
   have he:(Xj l)[i]=(List.range l.length).map (m3 i):=by
    have hi':i<l.length:=by omega
    simp only[Xj,List.getElem_map,List.getElem_range]
    apply List.map_congr_left
    intro j hj
    exact (Clos.all ho hC3 hi' (by simpa using hj)).symm
   rw[he];exact this)
end Go.Proofs.YtfppjenblllfaaaGreatDoor
