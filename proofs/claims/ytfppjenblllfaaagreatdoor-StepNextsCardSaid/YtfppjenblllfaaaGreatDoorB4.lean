/- Parts of a proof about the given program: its functions as texts of their own, what each computes, plain laws of that. The conditions of each stand in its statement. -/
import Derived.Test.YtfppjenblllfaaaGreatDoorB3
import Derived.Shelf.Strings.Builder1
import Derived.Shelf.Strings.Builder2
import Derived.Shelf.Strings.OnBuilder
import Derived.Shelf.Strings.Trim
import Derived.Shelf.Small.Utf8
import Derived.Shelf.Small.Strs
import Derived.Shelf.Small.Wraps
import Derived.Shelf.Strings.BuilderF
import Derived.Shelf.Strings.BuilderK
import Derived.Shelf.Strings.Builder2Cap
import Derived.Shelf.Strings.Search1
import Derived.Shelf.Strings.Search2
import Derived.Shelf.Strings.Search3
import Derived.Shelf.Strings.Cut
import Derived.Shelf.LaysM
import Derived.Shelf.Strings.Shaped
import Derived.Shelf.Strings.Prefix
import Derived.Shelf.Unicode.Decode
import Derived.Shelf.Strings.Runes
import Derived.Shelf.Strings.AsciiSet
import Derived.Shelf.Unicode.DecodeSlow
import Derived.Shelf.Unicode.DecodeAny
import Derived.Shelf.Unicode.DecodeLast
import Derived.Shelf.Slices.Turned
import Derived.Ground.Names2Prog
import Derived.Shelf.Slices.Clone
import Derived.Ground.SlgnProg
import Derived.Shelf.SlicesE.Clone
import Derived.Shelf.Unicode.ValidAny
import Derived.Test.YtfppjenblllfaaaGreatDoorProg
import Derived.Test.YtfppjenblllfaaaGreatDoorRows
import Derived.Lib.LaidU8T
import Derived.OpenShut
import Derived.MakeChecks
import Derived.WideShapes
import Derived.Lib.AsciiSet
import Derived.Lib.Join
import Derived.Maps.RangeRun
import Derived.Laws.OwnMore
set_option linter.unnecessarySimpa false
set_option linter.defProp false
set_option linter.unusedSectionVars false
set_option linter.unusedVariables false
set_option linter.unusedSimpArgs false
namespace Go.Proofs
open Go.Shelf
def Tryz.lays156_ren : Go.Shelf.Ren := ⟨fun | 156 => 165 | 165 => 200 | 166 => 201 | 169 => 202 | 240 => 219 | 241 => 220 | 276 => 230 | 277 => 231 | n => n, fun | 31 => 22 | 9 => 9 | 3 => 3 | 4 => 4 | 0 => 0 | 20 => 20 | 72 => 188 | 76 => 191 | 70 => 185 | 37 => 186 | 75 => 190 | 127 => 199 | 164 => 209 | 5 => 5 | 80 => 141 | n => n, fun | n => n⟩
theorem Tryz.lays156 : Go.Proofs.Lays.n156 Tryz.prog Tryz.lays156_ren := {
  mixed := by kernel_rfl
  f156 := Tryz.func165.trans (congrArg some (by kernel_rfl))
  f165 := Tryz.func200.trans (congrArg some (by kernel_rfl))
  f166 := Tryz.func201.trans (congrArg some (by kernel_rfl))
  f169 := Tryz.func202.trans (congrArg some (by kernel_rfl))
  f240 := Tryz.func219.trans (congrArg some (by kernel_rfl))
  f241 := Tryz.func220.trans (congrArg some (by kernel_rfl))
  f276 := Tryz.func230.trans (congrArg some (by kernel_rfl))
  f277 := Tryz.func231.trans (congrArg some (by kernel_rfl))
  t0 := Tryz.underlying0
  a0 := Tryz.isAgg0
  z0 := Tryz.sizeOf0
  v0 := Tryz.zeroValue0
  t3 := Tryz.underlying3
  a3 := Tryz.isAgg3
  z3 := Tryz.sizeOf3
  v3 := Tryz.zeroValue3
  t4 := Tryz.underlying4
  a4 := Tryz.isAgg4
  z4 := Tryz.sizeOf4
  v4 := Tryz.zeroValue4
  t9 := Tryz.underlying9
  a9 := Tryz.isAgg9
  z9 := Tryz.sizeOf9
  v9 := Tryz.zeroValue9
  t20 := Tryz.underlying20
  a20 := Tryz.isAgg20
  z20 := Tryz.sizeOf20
  v20 := Tryz.zeroValue20
  t31 := Tryz.underlying22
  a31 := Tryz.isAgg22
  z31 := Tryz.sizeOf22
  v31 := Tryz.zeroValue22
  t37 := Tryz.underlying186
  a37 := Tryz.isAgg186
  z37 := Tryz.sizeOf186
  v37 := Tryz.zeroValue186
  t70 := Tryz.underlying185
  a70 := Tryz.isAgg185
  z70 := Tryz.sizeOf185
  v70 := Tryz.zeroValue185
  t72 := Tryz.underlying188
  a72 := Tryz.isAgg188
  z72 := Tryz.sizeOf188
  v72 := Tryz.zeroValue188
  t75 := Tryz.underlying190
  a75 := Tryz.isAgg190
  z75 := Tryz.sizeOf190
  v75 := Tryz.zeroValue190
  t76 := Tryz.underlying191
  a76 := Tryz.isAgg191
  z76 := Tryz.sizeOf191
  v76 := Tryz.zeroValue191
  t127 := Tryz.underlying199
  a127 := Tryz.isAgg199
  z127 := Tryz.sizeOf199
  v127 := Tryz.zeroValue199
  t164 := Tryz.underlying209
  a164 := Tryz.isAgg209
  z164 := Tryz.sizeOf209
  v164 := Tryz.zeroValue209 }
theorem Tryz.Builder_Extra_156 : Builder.Extra Tryz.prog Tryz.lays156_ren := {
  sizeBuilder := by kernel_rfl
  liesBuilder := by kernel_rfl
  t5 := Tryz.underlying5
  a5 := Tryz.isAgg5
  z5 := Tryz.sizeOf5
  v5 := Tryz.zeroValue5
  infoByte := by kernel_rfl
  cellsByte := by kernel_rfl
  sizeByte := by kernel_rfl
  neB5 := by decide }
open Go.RowKit in
theorem Tryz.strings_Join_none (a : Option Addr) (c : Nat) (sep : ByteArray) (w : World) :
    Calls Tryz.prog 165 #[.slice a 0 c, .string sep] w fun e w' => e = .returned (.string ⟨#[]⟩) ∧ w' = w := Any.strings_Join_none Tryz.lays156 Tryz.Builder_Extra_156 a c sep w
open Go.RowKit in
theorem Tryz.strings_Join (bk o c : Nat) (xs : List ByteArray) (sep : ByteArray) (w : World) (hcells : ∀ (j : Nat) x, xs[j]? = some x → w.cell? ⟨bk, o + j, none⟩ = some (.string x)) (hbk : bk < w.heap.size) (hN : xs.length ≤ 140737488355328) (hcap : xs.length ≤ c) (hlen : (Lib.join (xs.map (·.data.toList)) sep.data.toList).length ≤ 140737488355328) :
    Calls Tryz.prog 165 #[.slice (some ⟨bk, o, none⟩) xs.length c, .string sep] w fun e w' => e = .returned (.string ⟨(Lib.join (xs.map (·.data.toList)) sep.data.toList).toArray⟩) ∧ Below w.heap.size w w' := Any.strings_Join Tryz.lays156 Tryz.Builder_Extra_156 bk o c xs sep w hcells hbk hN hcap hlen
open Go.RowKit in
def Tryz.lays144_ren : Go.Shelf.Ren := ⟨fun | 144 => 227 | 143 => 239 | 219 => 222 | 217 => 223 | 225 => 212 | 224 => 211 | 267 => 234 | 266 => 235 | 314 => 241 | n => n, fun | 9 => 9 | 4 => 4 | 3 => 3 | 5 => 5 | 46 => 196 | 146 => 218 | 51 => 217 | n => n, fun | 1 => 3 | n => n⟩
theorem Tryz.lays144 : Go.Proofs.Lays.n144 Tryz.prog Tryz.lays144_ren := {
  mixed := by kernel_rfl
  f143 := Tryz.func239.trans (congrArg some (by kernel_rfl))
  f144 := Tryz.func227.trans (congrArg some (by kernel_rfl))
  f217 := Tryz.func223.trans (congrArg some (by kernel_rfl))
  f219 := Tryz.func222.trans (congrArg some (by kernel_rfl))
  f224 := Tryz.func211.trans (congrArg some (by kernel_rfl))
  f225 := Tryz.func212.trans (congrArg some (by kernel_rfl))
  f266 := Tryz.func235.trans (congrArg some (by kernel_rfl))
  f267 := Tryz.func234.trans (congrArg some (by kernel_rfl))
  f314 := Tryz.func241.trans (congrArg some (by kernel_rfl))
  t3 := Tryz.underlying3
  a3 := Tryz.isAgg3
  z3 := Tryz.sizeOf3
  v3 := Tryz.zeroValue3
  t4 := Tryz.underlying4
  a4 := Tryz.isAgg4
  z4 := Tryz.sizeOf4
  v4 := Tryz.zeroValue4
  t5 := Tryz.underlying5
  a5 := Tryz.isAgg5
  z5 := Tryz.sizeOf5
  v5 := Tryz.zeroValue5
  t9 := Tryz.underlying9
  a9 := Tryz.isAgg9
  z9 := Tryz.sizeOf9
  v9 := Tryz.zeroValue9
  t46 := Tryz.underlying196
  a46 := Tryz.isAgg196
  z46 := Tryz.sizeOf196
  v46 := Tryz.zeroValue196
  t51 := Tryz.underlying217
  a51 := Tryz.isAgg217
  z51 := Tryz.sizeOf217
  v51 := Tryz.zeroValue217
  t146 := Tryz.underlying218
  a146 := Tryz.isAgg218
  z146 := Tryz.sizeOf218
  v146 := Tryz.zeroValue218
  g1 := by kernel_rfl }
open Go.RowKit Go.Lib in
theorem Tryz.strings_Contains_one (s : ByteArray) (c : UInt8) (w : World) :
    Calls Tryz.prog 227 #[.string s, .string ⟨#[c]⟩] w fun e w' => e = .returned (.bool (decide (0 ≤ Lib.indexByte s.data.toList c))) ∧ w' = w := Any.strings_Contains_one Tryz.lays144 s c w
def Tryz.lays227_ren : Go.Shelf.Ren := ⟨fun | 227 => 88 | n => n, fun | 9 => 9 | 116 => 107 | 4 => 4 | 0 => 0 | 3 => 3 | 5 => 5 | n => n, fun | n => n⟩
theorem Tryz.lays227 : Go.Proofs.Lays.n227 Tryz.prog Tryz.lays227_ren := {
  mixed := by kernel_rfl
  f227 := Tryz.func88.trans (congrArg some (by kernel_rfl))
  t0 := Tryz.underlying0
  a0 := Tryz.isAgg0
  z0 := Tryz.sizeOf0
  v0 := Tryz.zeroValue0
  t3 := Tryz.underlying3
  a3 := Tryz.isAgg3
  z3 := Tryz.sizeOf3
  v3 := Tryz.zeroValue3
  t4 := Tryz.underlying4
  a4 := Tryz.isAgg4
  z4 := Tryz.sizeOf4
  v4 := Tryz.zeroValue4
  t5 := Tryz.underlying5
  a5 := Tryz.isAgg5
  z5 := Tryz.sizeOf5
  v5 := Tryz.zeroValue5
  t9 := Tryz.underlying9
  a9 := Tryz.isAgg9
  z9 := Tryz.sizeOf9
  v9 := Tryz.zeroValue9
  t116 := Tryz.underlying107
  a116 := Tryz.isAgg107
  z116 := Tryz.sizeOf107 }
open Go.RowKit Go.Lib in
theorem Tryz.strings_makeASCIISet (hv116 : ∀ w, (zeroValue 107).run Tryz.prog w = .ok (.agg (Array.replicate 256 (.bool false))) w) (chars : ByteArray) (w : World) (hs : chars.size < 4294967281) (hascii : ∀ (j : Nat) b, chars.data.toList[j]? = some b → b.toNat < 128) :
    Calls Tryz.prog 88 #[.string chars] w fun e w' => e = .returned (.tuple #[.agg (Lib.setCells chars.data.toList), .bool true]) ∧ w' = w.alloc (.cells (Lib.setCells chars.data.toList) 107) := Any.strings_makeASCIISet Tryz.lays227 hv116 (by kernel_rfl) chars w hs hascii
open Go.RowKit Go.Lib in
def Tryz.lays196_ren : Go.Shelf.Ren := ⟨fun | 196 => 226 | 259 => 238 | n => n, fun | 9 => 9 | 4 => 4 | 3 => 3 | 5 => 5 | 12 => 12 | 119 => 200 | 0 => 0 | 46 => 196 | 139 => 203 | 138 => 202 | 53 => 220 | n => n, fun | 3 => 1 | 4 => 2 | n => n⟩
theorem Tryz.lays196 : Go.Proofs.Lays.n196 Tryz.prog Tryz.lays196_ren := {
  mixed := by kernel_rfl
  f196 := Tryz.func226.trans (congrArg some (by kernel_rfl))
  f259 := Tryz.func238.trans (congrArg some (by kernel_rfl))
  t0 := Tryz.underlying0
  a0 := Tryz.isAgg0
  z0 := Tryz.sizeOf0
  v0 := Tryz.zeroValue0
  t3 := Tryz.underlying3
  a3 := Tryz.isAgg3
  z3 := Tryz.sizeOf3
  v3 := Tryz.zeroValue3
  t4 := Tryz.underlying4
  a4 := Tryz.isAgg4
  z4 := Tryz.sizeOf4
  v4 := Tryz.zeroValue4
  t5 := Tryz.underlying5
  a5 := Tryz.isAgg5
  z5 := Tryz.sizeOf5
  v5 := Tryz.zeroValue5
  t9 := Tryz.underlying9
  a9 := Tryz.isAgg9
  z9 := Tryz.sizeOf9
  v9 := Tryz.zeroValue9
  t12 := Tryz.underlying12
  a12 := Tryz.isAgg12
  z12 := Tryz.sizeOf12
  v12 := Tryz.zeroValue12
  t46 := Tryz.underlying196
  a46 := Tryz.isAgg196
  z46 := Tryz.sizeOf196
  v46 := Tryz.zeroValue196
  t53 := Tryz.underlying220
  a53 := Tryz.isAgg220
  z53 := Tryz.sizeOf220
  v53 := Tryz.zeroValue220
  t119 := Tryz.underlying200
  a119 := Tryz.isAgg200
  z119 := Tryz.sizeOf200
  t138 := Tryz.underlying202
  a138 := Tryz.isAgg202
  z138 := Tryz.sizeOf202
  v138 := Tryz.zeroValue202
  t139 := Tryz.underlying203
  a139 := Tryz.isAgg203
  z139 := Tryz.sizeOf203
  v139 := Tryz.zeroValue203
  g3 := by kernel_rfl
  g4 := by kernel_rfl }
end Go.Proofs

namespace Go.Proofs.YtfppjenblllfaaaGreatDoor
open Go.Emb Go.RowKit Go.Kd Go.Hm
variable {w : World} {K : Value → World → Prop} {σ : Q4}
theorem Q9L {f:FuncId} {fn:Func} {a:List Value} {V:Value} (c:P.funcs[f]? =some fn) (b:fn.body.isSome=true) (d:(fn.name== "runtime.NumGoroutine")=false)
 (h:Calls P f a.toArray w fun e w'=>e= .returned V∧Below w.heap.size w w') (g: ∀w',Below w.heap.size w w'→K V w'):Q1 P f a w K:=by
 refine Ur c b d (Calls.mono h ?_)
 rintro e w' ⟨rfl,b⟩
 exact g w' b
theorem Q3w {a:X0} (c:a.length≤J0) (b:Lib.Utf8Tabs G.e G.d w) (h: ∀w',Below w.heap.size w w'→K (.bool (Lib.validD a)) w'):Q1 P F.bz [S a] w K:=
 Q9L Tryz.func226 (by kernel_rfl) (by kernel_rfl) (by
  have:=Any.utf8_ValidString Tryz.lays196 ⟨a.toArray⟩ w (by rw[B7];simp only[J0] at c;omega) b
  simp only[List.toList_toArray] at this
  exact this) h
theorem Q5V {a:X0} {c:UInt8} (h:K (.bool (decide (0≤Lib.indexByte a c))) w):Q1 P F.co [S a,S [c]] w K:=by
 refine Ur (fn:=Tryz.f227) Tryz.func227 (by kernel_rfl) (by kernel_rfl) (Calls.mono (Tryz.strings_Contains_one ⟨a.toArray⟩ c w) ?_)
 rintro e w' ⟨rfl,rfl⟩
 exact h
structure Glb (σ : Q4) : Prop where
  ops : Q1a σ
  tabs : ∀ w, X4 w σ → Lib.Utf8Tabs G.e G.d w
  flt : Z2 σ ⟨G.b, 0, none⟩ (Z9.map S)
theorem Glb.lift {σ0:Q4} (h:Glb σ0) (k:SLe σ0 σ):Glb σ:=⟨h.ops.le k.le,fun w a=>h.tabs w fun b o e=>a b o (k.le b o e),h.flt.le k.le⟩
def txt (n s:X0):Bool:=
 if n=[119,111,114,100] then decide (s.length≤64)&&Lib.validD s&& !decide (0≤Lib.indexByte s 10)
 else if n=[110,101,119] then W3 s
 else if n=[105,115]∨n=[99,97,115,116] then right s&& !plain s
 else if n=[97,114,114,97,121] then right s&&decide (Q13 s<3)
 else Yb s
theorem X1A {n a:X0} (ha:a.length≤J0) (hs:X4 w σ) (hg:Glb σ) (h: ∀w' σ',Stp w σ w' σ'→K (.bool (txt n a)) w'):Q1 P F.cF [S n,S a] w K:=Q5g (by
 unfold Q0Q
 have ha':a.length≤140737488355320:=by simp only[J0] at ha;omega
 have ha2:a.length≤140737488355328:=by simp only[J0] at ha;omega
 have hv: ∀{w1:World} {K:Value→World→Prop},X4 w1 σ→(∀w',Below w1.heap.size w1 w'→K (.bool (Lib.validD a)) w')→Q1 P F.bz [S a] w1 K:=fun hk h=>Q3w ha (hg.tabs _ hk) h
 unfold txt at h
 have e:decide ((a.length:Int)≤64)=decide (a.length≤64):=by rw[Bool.eq_iff_iff];simp only[decide_eq_true_eq];omega
 have e3:decide ((Q13 a:Int)<3)=decide (Q13 a<3):=by rw[Bool.eq_iff_iff];simp only[decide_eq_true_eq];omega
 by_cases h1:n=[119,111,114,100]
 ·rw[if_pos h1] at h
  simp only[decide_eq_true h1,↓M1,M1,Mb,reduceIte,e]
  by_cases h2:a.length≤64
  ·simp only[decide_eq_true h2,↓M1,M1,Mb,reduceIte] at h⊢
   refine hv hs (W4 hs ?_)
   intro w1 σ1 hk
   by_cases h3:Lib.validD a=true
   ·simp only[h3,↓M1,M1,Mb,reduceIte] at h⊢
    refine Q5V ?_
    (repeat' (first | (with_reducible intro _) | (with_reducible refine V9 ?_) | (simp only[↓M2,M2,Mb,reduceIte]) | (with_reducible first | refine ld aS aL aR ?_ | refine X7 aS aL aR ?_ | refine Z1 aS aL aR ?_ | refine Q8 aL ?_ | refine V4 aR ?_ | refine Z0 aS ?_ | refine L1 aS aL ?_ | refine J6 aS aR ?_ | refine Y4 aS aR aR (Rep.one (by assumption)) ?_ | refine U3 aS aR aR aR ?_ | (refine Z3 (fun hh=>?_) (fun hh=>?_)<;>(try simp only[hh,Bool.not_true,Bool.not_false,↓M2,M2,Mb,reduceIte])) | (refine Q5 (fun hh=>?_) (fun hh=>?_)<;>(try simp only[hh,Bool.not_true,Bool.not_false,↓M2,M2,Mb,reduceIte])))))
    all_goals exact aF
   ·simp only[eq_false_of_ne_true h3,↓M1,M1,Mb,reduceIte] at h⊢
    (repeat' (first | (with_reducible intro _) | (with_reducible refine V9 ?_) | (simp only[↓M2,M2,Mb,reduceIte]) | (with_reducible first | refine ld aS aL aR ?_ | refine X7 aS aL aR ?_ | refine Z1 aS aL aR ?_ | refine Q8 aL ?_ | refine V4 aR ?_ | refine Z0 aS ?_ | refine L1 aS aL ?_ | refine J6 aS aR ?_ | refine Y4 aS aR aR (Rep.one (by assumption)) ?_ | refine U3 aS aR aR aR ?_ | (refine Z3 (fun hh=>?_) (fun hh=>?_)<;>(try simp only[hh,Bool.not_true,Bool.not_false,↓M2,M2,Mb,reduceIte])) | (refine Q5 (fun hh=>?_) (fun hh=>?_)<;>(try simp only[hh,Bool.not_true,Bool.not_false,↓M2,M2,Mb,reduceIte])))))
    all_goals exact aF
  ·simp only[decide_eq_false h2,↓M1,M1,Mb,reduceIte] at h⊢
   (repeat' (first | (with_reducible intro _) | (with_reducible refine V9 ?_) | (simp only[↓M2,M2,Mb,reduceIte]) | (with_reducible first | refine ld aS aL aR ?_ | refine X7 aS aL aR ?_ | refine Z1 aS aL aR ?_ | refine Q8 aL ?_ | refine V4 aR ?_ | refine Z0 aS ?_ | refine L1 aS aL ?_ | refine J6 aS aR ?_ | refine Y4 aS aR aR (Rep.one (by assumption)) ?_ | refine U3 aS aR aR aR ?_ | (refine Z3 (fun hh=>?_) (fun hh=>?_)<;>(try simp only[hh,Bool.not_true,Bool.not_false,↓M2,M2,Mb,reduceIte])) | (refine Q5 (fun hh=>?_) (fun hh=>?_)<;>(try simp only[hh,Bool.not_true,Bool.not_false,↓M2,M2,Mb,reduceIte])))))
   all_goals exact aF
 rw[if_neg h1] at h
 simp only[decide_eq_false h1,↓M1,M1,Mb,reduceIte]
 by_cases h2:n=[110,101,119]
 ·rw[if_pos h2] at h
  simp only[decide_eq_true h2,↓M1,M1,Mb,reduceIte]
  (repeat' (first | (with_reducible intro _) | (with_reducible refine V9 ?_) | (simp only[↓M2,M2,Mb,reduceIte]) | (with_reducible first | refine ld aS aL aR ?_ | refine X7 aS aL aR ?_ | refine Z1 aS aL aR ?_ | refine Q8 aL ?_ | refine V4 aR ?_ | refine Z0 aS ?_ | refine L1 aS aL ?_ | refine J6 aS aR ?_ | refine Y4 aS aR aR (Rep.one (by assumption)) ?_ | refine U3 aS aR aR aR ?_ | refine Dv _ au (W4 aS ?_) | (refine Z3 (fun hh=>?_) (fun hh=>?_)<;>(try simp only[hh,Bool.not_true,Bool.not_false,↓M2,M2,Mb,reduceIte])) | (refine Q5 (fun hh=>?_) (fun hh=>?_)<;>(try simp only[hh,Bool.not_true,Bool.not_false,↓M2,M2,Mb,reduceIte])))))
  all_goals exact aF
 rw[if_neg h2] at h
 simp only[decide_eq_false h2,↓M1,M1,Mb,reduceIte]
 by_cases h3:n=[105,115]∨n=[99,97,115,116]
 ·rw[if_pos h3] at h
  have e4:(decide (n=[105,115])||decide (n=[99,97,115,116]))=true:=by simpa using h3
  refine V9 ?_
  refine Q5 (fun h4=>?_) (fun h4=>?_)
  ·simp only[h4,↓M1,M1,Mb,reduceIte]
   (repeat' (first | (with_reducible intro _) | (with_reducible refine V9 ?_) | (simp only[↓M2,M2,Mb,reduceIte]) | (with_reducible first | refine ld aS aL aR ?_ | refine X7 aS aL aR ?_ | refine Z1 aS aL aR ?_ | refine Q8 aL ?_ | refine V4 aR ?_ | refine Z0 aS ?_ | refine L1 aS aL ?_ | refine J6 aS aR ?_ | refine Y4 aS aR aR (Rep.one (by assumption)) ?_ | refine U3 aS aR aR aR ?_ | refine Jc _ au (W4 aS ?_) | refine Vh _ ?_ | (refine Z3 (fun hh=>?_) (fun hh=>?_)<;>(try simp only[hh,Bool.not_true,Bool.not_false,↓M2,M2,Mb,reduceIte])) | (refine Q5 (fun hh=>?_) (fun hh=>?_)<;>(try simp only[hh,Bool.not_true,Bool.not_false,↓M2,M2,Mb,reduceIte])))))
   all_goals exact aF
  ·rw[h4,Bool.false_or] at e4
   simp only[e4,↓M1,M1,Mb,reduceIte]
   (repeat' (first | (with_reducible intro _) | (with_reducible refine V9 ?_) | (simp only[↓M2,M2,Mb,reduceIte]) | (with_reducible first | refine ld aS aL aR ?_ | refine X7 aS aL aR ?_ | refine Z1 aS aL aR ?_ | refine Q8 aL ?_ | refine V4 aR ?_ | refine Z0 aS ?_ | refine L1 aS aL ?_ | refine J6 aS aR ?_ | refine Y4 aS aR aR (Rep.one (by assumption)) ?_ | refine U3 aS aR aR aR ?_ | refine Jc _ au (W4 aS ?_) | refine Vh _ ?_ | (refine Z3 (fun hh=>?_) (fun hh=>?_)<;>(try simp only[hh,Bool.not_true,Bool.not_false,↓M2,M2,Mb,reduceIte])) | (refine Q5 (fun hh=>?_) (fun hh=>?_)<;>(try simp only[hh,Bool.not_true,Bool.not_false,↓M2,M2,Mb,reduceIte])))))
   all_goals exact aF
 rw[if_neg h3] at h
 obtain ⟨h3,h4⟩:=not_or.1 h3
 refine V9 ?_
 simp only[decide_eq_false h3,decide_eq_false h4,↓M1,M1,Mb,reduceIte]
 by_cases h5:n=[97,114,114,97,121]
 ·rw[if_pos h5] at h
  simp only[decide_eq_true h5,↓M1,M1,Mb,reduceIte]
  (repeat' (first | (with_reducible intro _) | (with_reducible refine V9 ?_) | (simp only[↓M2,M2,Mb,reduceIte]) | (with_reducible first | refine ld aS aL aR ?_ | refine X7 aS aL aR ?_ | refine Z1 aS aL aR ?_ | refine Q8 aL ?_ | refine V4 aR ?_ | refine Z0 aS ?_ | refine L1 aS aL ?_ | refine J6 aS aR ?_ | refine Y4 aS aR aR (Rep.one (by assumption)) ?_ | refine U3 aS aR aR aR ?_ | refine Jc _ au (W4 aS ?_) | refine X1S _ au (W4 aS ?_) | (refine Z3 (fun hh=>?_) (fun hh=>?_)<;>(try simp only[hh,Bool.not_true,Bool.not_false,↓M2,M2,Mb,reduceIte])) | (refine Q5 (fun hh=>?_) (fun hh=>?_)<;>(try simp only[hh,Bool.not_true,Bool.not_false,↓M2,M2,Mb,reduceIte])))))
  all_goals (try rw[e3])
  all_goals exact aF
 rw[if_neg h5] at h
 simp only[decide_eq_false h5,↓M1,M1,Mb,reduceIte]
 intro _
 refine X0z a ha2 (W4 hs fun w1 σ1 hk=>?_)
 by_cases hp:Yb a=true
 ·simp only[hp,if_true] at h⊢
  (repeat' (first | (with_reducible intro _) | (with_reducible refine V9 ?_) | (simp only[↓M2,M2,Mb,reduceIte]) | (with_reducible first | refine ld aS aL aR ?_ | refine X7 aS aL aR ?_ | refine Z1 aS aL aR ?_ | refine Q8 aL ?_ | refine V4 aR ?_ | refine Z0 aS ?_ | refine L1 aS aL ?_ | refine J6 aS aR ?_ | refine Y4 aS aR aR (Rep.one (by assumption)) ?_ | refine U3 aS aR aR aR ?_ | (refine Z3 (fun hh=>?_) (fun hh=>?_)<;>(try simp only[hh,Bool.not_true,Bool.not_false,↓M2,M2,Mb,reduceIte])) | (refine Q5 (fun hh=>?_) (fun hh=>?_)<;>(try simp only[hh,Bool.not_true,Bool.not_false,↓M2,M2,Mb,reduceIte])))))
  all_goals exact aF
 ·simp only[eq_false_of_ne_true hp,Bool.false_eq_true,if_false] at h⊢
  (repeat' (first | (with_reducible intro _) | (with_reducible refine V9 ?_) | (simp only[↓M2,M2,Mb,reduceIte]) | (with_reducible first | refine ld aS aL aR ?_ | refine X7 aS aL aR ?_ | refine Z1 aS aL aR ?_ | refine Q8 aL ?_ | refine V4 aR ?_ | refine Z0 aS ?_ | refine L1 aS aL ?_ | refine J6 aS aR ?_ | refine Y4 aS aR aR (Rep.one (by assumption)) ?_ | refine U3 aS aR aR aR ?_ | (refine Z3 (fun hh=>?_) (fun hh=>?_)<;>(try simp only[hh,Bool.not_true,Bool.not_false,↓M2,M2,Mb,reduceIte])) | (refine Q5 (fun hh=>?_) (fun hh=>?_)<;>(try simp only[hh,Bool.not_true,Bool.not_false,↓M2,M2,Mb,reduceIte])))))
  all_goals exact aF)
def N3 (i:Ins):Int:=if !(takes i.op).2.2 then 40 else if (!(takes i.op).1&&decide (i.n≠0))||(!(takes i.op).2.1&&decide (i.s≠[]))||((takes i.op).2.1&& !txt i.op i.s) then 41 else 0
theorem Q9p {a:X0} (b:X4 w σ) (c:Glb σ) (h: ∀w',Below w.heap.size w w'→K (.tuple #[.bool (takes a).1, .bool (takes a).2.1, .bool (takes a).2.2]) w'):Q1 P F.bW [S a] w K:=X0t b c.ops h
theorem Q5I {i:Ins} {cs:List Value} (hs:X4 w σ) (hg:Glb σ) (hi:C9 σ i cs) (h: ∀w' σ',Stp w σ w' σ'→K (I (N3 i)) w'):Q1 P F.cx [.agg cs.toArray] w K:=Q4y (by
 obtain ⟨rfl,h1,h2,h3⟩:=hi
 unfold Pz
 unfold N3 at h
 (repeat' (first | (with_reducible intro _) | (with_reducible refine V9 ?_) | (simp only[↓M2,M2,Mb,reduceIte]) | (with_reducible first | refine ld aS aL aR ?_ | refine X7 aS aL aR ?_ | refine Z1 aS aL aR ?_ | refine Q8 aL ?_ | refine V4 aR ?_ | refine Z0 aS ?_ | refine L1 aS aL ?_ | refine J6 aS aR ?_ | refine Y4 aS aR aR (Rep.one (by assumption)) ?_ | refine U3 aS aR aR aR ?_ | refine Q9p au au (W4 aS ?_) | refine X1A au au au ?_ | (refine Z3 (fun hh=>?_) (fun hh=>?_)<;>(try simp only[hh,Bool.not_true,Bool.not_false,↓M2,M2,Mb,reduceIte])) | (refine Q5 (fun hh=>?_) (fun hh=>?_)<;>(try simp only[hh,Bool.not_true,Bool.not_false,↓M2,M2,Mb,reduceIte])))))
 all_goals exact aF)
end Go.Proofs.YtfppjenblllfaaaGreatDoor

namespace Go.Emb
open Go.RowKit Go.Hm
variable {P : Program} {W : World}
theorem Q18 {w:World} (c:X4 w (Lj W)) {a:Addr} {v:Value} (h:W.cell? a=some v):w.cell? a=some v:=by
 unfold World.cell? at h⊢
 cases b:W.heap[a.block]? with
 | none=>rw[b] at h;cases h
 | some o=>rw[b] at h;rw[c _ o b];exact h
theorem X1z {α:Type} {f:α→List Value} {sz:Nat} (k: ∀a,(f a).length=sz): ∀(l:List α) (cs:List Value),cs.length=l.length*sz→(∀i a,l[i]? =some a→(cs.drop (i*sz)).take sz=f a)→cs=l.flatMap f:=by
 intro l
 induction l with
 | nil=>intro cs h _;simp at h;simp[h]
 | cons a r c=>
  intro cs h hh
  have g:=hh 0 a rfl
  have e:=c (cs.drop sz) (by rw[List.length_drop,h,List.length_cons,Nat.succ_mul];omega) (fun i b j=>by
   have:=hh (i+1) b (by simpa using j)
   rw[List.drop_drop]
   rwa [Nat.succ_mul,Nat.add_comm] at this)
  rw[List.flatMap_cons,←e,←g]
  simp
theorem Q3j {α H:Type} {enc:TypeId×Value→H} {base:Nat} {u:Nat→Bool} {b:Bool} {f:α→List Value} {g:α→DataW H} {n sz:Nat} {t e:TypeId} {c:Nat} {cs:List Value} {p:List MemPlace} (z:P.underlying t=some (.array n e)) (B:P.cellsOf e=sz) (j:P.cellsOf t=n*sz)
 (l:List α) (y: ∀a,(f a).length=sz) (o: ∀m cs a q,DataW.trod enc P W base u b m e cs=some (g a,q)→cs=f a)
 (h:DataW.trod enc P W base u b c t cs=some (.agg (l.map g),p)):cs=l.flatMap f:=by
 obtain ⟨xs,m,_,k,E,J,D⟩:=DataW.trod_array z h
 simp only[Prod.mk.injEq,DataW.agg.injEq] at k
 have A:l.length=n:=by have:=congrArg List.length k.1;simp at this;omega
 refine X1z y l cs (by rw[E,j,A]) fun i a s=>?_
 have L:i<l.length:=(List.getElem?_eq_some_iff.1 s).1
 have r:=D i (by omega)
 have w:i<xs.length:=by omega
 rw[List.getElem?_eq_getElem w,B] at r
 have C:(xs[i]).1=g a:=by
  have:=congrArg (·[i]?) k.1
  simp only[List.getElem?_map,s,List.getElem?_eq_getElem w,Option.map_some,Option.some.injEq] at this
  exact this.symm
 exact o m _ a _ (by rw[r];congr 1;exact Prod.ext C rfl)
theorem Q4m {n:String} {g:Nat} {cs:Array Value} {l:List Value} (h:P.globalNamed n=some g) (a:W.var? P n=some cs) (j:cs.toList=l):Z2 (Lj W) ⟨g,0,none⟩ l:=by
 unfold World.var? at a
 rw[h] at a
 simp only[Option.bind_some] at a
 cases b:W.heap[g]? with
 | none=>rw[b] at a;cases a
 | some o=>
  rw[b] at a
  cases o with
  | cells D7 e f=>
   cases a
   refine ⟨rfl,cs,e,f,b,fun i v c=>?_⟩
   subst j
   simpa using c
  | _=>cases a
end Go.Emb
namespace Go.Proofs.YtfppjenblllfaaaGreatDoor
open Go.Emb Go.RowKit Go.Kd Go.Hm
variable {W : World}
def laidAll:List (String×DataW Unit):=[("unicode/utf8.acceptRanges",Rows.laid_unicode_utf8_acceptRanges),("squinch/code.ops",Rows.laid_squinch_code_ops),("squinch/hier.faults",Rows.laid_squinch_hier_faults),("unicode/utf8.first",Rows.laid_unicode_utf8_first)]
theorem X2n:Rows.laid_squinch_code_ops=(.agg (Zh.map fun o=> .agg [.lit (.string o.name), .lit (.bool o.number), .lit (.bool o.text)]):DataW Unit):=by rfl
theorem Q9h:Rows.laid_squinch_hier_faults=(.agg (Z9.map fun s=> .lit (.string s)):DataW Unit):=by rfl
theorem X2e:(Rows.laid_unicode_utf8_acceptRanges:DataW Unit)=Lib.acceptData:=by rfl
theorem X0n:Rows.laid_unicode_utf8_first=Lib.firstData:=by kernel_rfl
def X2F:Array Field:= #[⟨"name",T.b,0,false, "", "squinch/code",0⟩,⟨"number",T.n,1,false, "", "squinch/code",16⟩,⟨"text",T.n,2,false, "", "squinch/code",17⟩]
theorem X2C:P.underlying T.a7=some (.struct X2F):=by kernel_rfl
theorem X1O (h:laidMetH P laidAll W):Glb (Lj W):=by
 rw[Go.MakeChecks.laidMetH_plain _ _ _ (by kernel_rfl)] at h
 refine ⟨?_,fun w B=>?_,?_⟩
 ·obtain ⟨g,t,cs,u,p,l,j,b,o⟩:=Lib.laidMet.reads h (.tail _ (.head _))
  obtain rfl:=Option.some.inj ((show P.globalNamed "squinch/code.ops"=some G.a by kernel_rfl).symm.trans l)
  obtain rfl:=Option.some.inj ((show (P.globals[G.a]?).map (·.type)=some T.a9 by kernel_rfl).symm.trans j)
  rw[X2n] at o
  refine Q4m l b (Q3j (f:=cOp) (sz:=3) (n:=42) (e:=T.a7) (by kernel_rfl) (by kernel_rfl) (by kernel_rfl) Zh (fun _=>rfl) (fun m cs a q h=>by
  obtain ⟨xs,n,_,k,h1,h2,z⟩:=DataW.trod_struct X2C h
  simp only[Prod.mk.injEq,DataW.agg.injEq] at k
  have r:cs.length=3:=by rw[h1];kernel_rfl
  obtain ⟨A,C,y,rfl⟩:=Q6C r
  obtain ⟨x0,x1,X,rfl⟩:=Q6C (show xs.length=3 by rw[h2];rfl)
  have k:=k.1
  simp only[List.map_cons,List.map_nil,List.cons.injEq,and_true] at k
  obtain ⟨M,O,Q⟩:=k
  have J:DataW.trod (fun _=>()) P W 0 (fun _=>true) false n T.b (List.take (P.cellsOf T.b) (List.drop 0 [A,C,y]))=some x0:=z 0 _ rfl
  have D:DataW.trod (fun _=>()) P W 0 (fun _=>true) false n T.n (List.take (P.cellsOf T.n) (List.drop 1 [A,C,y]))=some x1:=z 1 _ rfl
  have L:DataW.trod (fun _=>()) P W 0 (fun _=>true) false n T.n (List.take (P.cellsOf T.n) (List.drop 2 [A,C,y]))=some X:=z 2 _ rfl
  rw[Fh] at J
  rw[X1x] at D L
  obtain ⟨⟨⟨s0⟩⟩,q0,V,_⟩:=DataW.trod_string X8 J
  obtain ⟨b1,E,Y⟩:=DataW.trod_bool Q1W D
  obtain ⟨b2,N,U⟩:=DataW.trod_bool Q1W L
  simp at q0 E N
  subst q0 E N V Y U
  simp at M O Q
  simp[cOp,←M,←O,←Q]) o)
 ·have:=utf8Tabs_of_readsT (U8Types.of196 Tryz.lays196) ⟨by kernel_rfl,by kernel_rfl,by kernel_rfl,by kernel_rfl,by kernel_rfl,by kernel_rfl,by kernel_rfl⟩ (X0n▸Lib.laidMet.reads h (.tail _ (.tail _ (.tail _ (.head _))))) (X2e▸Lib.laidMet.reads h (.head _))
  exact ⟨fun c Z=>Q18 B (this.1 c Z),fun i R=>⟨Q18 B (this.2 i R).1,Q18 B (this.2 i R).2⟩⟩
 ·obtain ⟨g,t,cs,u,p,l,j,b,o⟩:=Lib.laidMet.reads h (.tail _ (.tail _ (.head _)))
  obtain rfl:=Option.some.inj ((show P.globalNamed "squinch/hier.faults"=some G.b by kernel_rfl).symm.trans l)
  obtain rfl:=Option.some.inj ((show (P.globals[G.b]?).map (·.type)=some T.ah by kernel_rfl).symm.trans j)
  rw[Q9h] at o
  have:=Q3j (f:=fun s=>[S s]) (sz:=1) (n:=6) (e:=T.b) (by kernel_rfl) Fh (by kernel_rfl) Z9 (fun _=>rfl) (fun m cs a q h=>by
   obtain ⟨⟨⟨s⟩⟩,rfl,k,_⟩:=DataW.trod_string X8 h
   cases k;rfl) o
  exact Q4m l b (this.trans (by rfl))
end Go.Proofs.YtfppjenblllfaaaGreatDoor
namespace Go.Emb
open Go.RowKit Go.Hm
theorem X1g {H:Type} {P:Program} {a:List TypeId} {ds:List (DataW H)} (h:(DataW.weightsEach P a ds).all (· ≤reachBytes)=true) {j:Nat} {t:TypeId} {d:DataW H} (c:a[j]? =some t) (e:ds[j]? =some d):Wt P t d:=fun n b=>by
 have:=List.all_eq_true.1 h _ (DataW.weights_mem_each c e n b)
 simpa using this
end Go.Emb
namespace Go.Proofs.YtfppjenblllfaaaGreatDoor
open Go.Emb Go.RowKit Go.Kd Go.Hm
section
variable {H : Type} {enc : TypeId × Value → H} {W : World} {v : Value} {d : DataW H} {p : List MemPlace}
end
end Go.Proofs.YtfppjenblllfaaaGreatDoor

namespace Go.Proofs.YtfppjenblllfaaaGreatDoor
open Go.Emb Go.RowKit Go.Kd Go.Hm
variable {w : World} {K : Value → World → Prop} {σ : Q4}
def C8 (n:Int) (x:Cat):Bool:=decide (0≤x.frm)&&decide (x.frm<x.to)&&decide (x.to≤n)&&decide (0≤x.at_)&&decide (x.at_<n)&&W3 x.cls
theorem Q6K {cs:List Value} {c:Cat} {q:Addr} {n:Int} (hs:X4 w σ) (hc:Zt σ c cs) (hq:Z2 σ q [I n]) (h: ∀w' σ',Stp w σ w' σ'→K (.bool (C8 n c)) w'):Q1 P F.b1 [.agg cs.toArray, .pointer (some q)] w K:=Q1d (by
 obtain ⟨rfl,h1,h2,h3,h4⟩:=hc
 unfold Hr
 unfold C8 at h
 (repeat' (first | (with_reducible intro _) | (with_reducible refine V9 ?_) | (simp only[↓M2,M2,Mb,reduceIte]) | (with_reducible first | refine ld aS aL aR ?_ | refine X7 aS aL aR ?_ | refine Z1 aS aL aR ?_ | refine Q8 aL ?_ | refine V4 aR ?_ | refine Z0 aS ?_ | refine L1 aS aL ?_ | refine J6 aS aR ?_ | refine Y4 aS aR aR (Rep.one (by assumption)) ?_ | refine U3 aS aR aR aR ?_ | refine Dv _ au (W4 aS ?_) | (refine Z3 (fun hh=>?_) (fun hh=>?_)<;>(try simp only[hh,Bool.not_true,Bool.not_false,↓M2,M2,Mb,reduceIte])) | (refine Q5 (fun hh=>?_) (fun hh=>?_)<;>(try simp only[hh,Bool.not_true,Bool.not_false,↓M2,M2,Mb,reduceIte])))))
 all_goals exact aF)
theorem Q7d {cs:List Value} {i:Ins} (hs:X4 w σ) (hg:Glb σ) (hc:C9 σ i cs) (h: ∀w' σ',Stp w σ w' σ'→K (.bool (decide (N3 i=0))) w'):Q1 P F.b2 [.agg cs.toArray] w K:=Q1b (by
 obtain ⟨rfl,h1,h2,h3⟩:=hc
 have hc:C9 σ i [S i.op,I i.n,S i.s]:=⟨rfl,h1,h2,h3⟩
 unfold Ep
 (repeat' (first | (with_reducible intro _) | (with_reducible refine V9 ?_) | (simp only[↓M2,M2,Mb,reduceIte]) | (with_reducible first | refine ld aS aL aR ?_ | refine X7 aS aL aR ?_ | refine Z1 aS aL aR ?_ | refine Q8 aL ?_ | refine V4 aR ?_ | refine Z0 aS ?_ | refine L1 aS aL ?_ | refine J6 aS aR ?_ | refine Y4 aS aR aR (Rep.one (by assumption)) ?_ | refine U3 aS aR aR aR ?_ | refine Q5I au au au ?_ | (refine Z3 (fun hh=>?_) (fun hh=>?_)<;>(try simp only[hh,Bool.not_true,Bool.not_false,↓M2,M2,Mb,reduceIte])) | (refine Q5 (fun hh=>?_) (fun hh=>?_)<;>(try simp only[hh,Bool.not_true,Bool.not_false,↓M2,M2,Mb,reduceIte])))))
 all_goals exact aF)
def B4 (m:Hm.Met):Bool:=L7 m.name&&m.params.all right&&(decide (m.result=[])||right m.result)&&
 if m.abs then decide (m.locals=0)&&decide (m.code=[])&&decide (m.catches=[])
 else decide (m.code≠[])&&decide ((m.params.length:Int)<m.locals)&&m.code.all (fun i=>decide (N3 i=0))&&m.catches.all (C8 m.code.length)
theorem Q98 {cs:List Value} {m:Hm.Met} (hs:X4 w σ) (hg:Glb σ) (hm:M6 σ m cs) (h: ∀w' σ',Stp w σ w' σ'→K (.bool (B4 m)) w'):Q1 P F.aT [.agg cs.toArray] w K:=Q2z (by
 obtain ⟨pv,cv,hv,rfl,g1,g2,g3,g4,g5,g6⟩:=hm
 unfold Cu
 unfold B4 at h
 have e1:decide ((0:Int)<m.code.length)=decide (m.code≠[]):=by cases m.code<;>simp
 have e2:decide ((m.code.length:Int)=0)=decide (m.code=[]):=by cases m.code<;>simp;omega
 have e3:decide ((m.catches.length:Int)=0)=decide (m.catches=[]):=by cases m.catches<;>simp;omega
 have hA: ∀{w1:World} {σ1:Q4} {K:Value→World→Prop},X4 w1 σ1→Sl 1 Y1 σ1 pv m.params→(∀w' σ',Stp w1 σ1 w' σ'→K (.bool (m.params.all right)) w')→Q1 P F.a3 [pv, .func (.func F.a1) #[] #[]] w1 K:=
  fun hs hv h=>Cs right hs hv (fun σ1 x w1 K _ _ hs hl hK=>Y7 (Jc x (Nat.le_trans hl (by decide)) hK)) (W4 hs h)
 have hB: ∀{w1:World} {σ1:Q4} {K:Value→World→Prop},X4 w1 σ1→Glb σ1→Sl 3 C9 σ1 cv m.code→(∀w' σ',Stp w1 σ1 w' σ'→K (.bool (m.code.all fun i=>decide (N3 i=0))) w')→Q1 P F.ao [cv, .func (.func F.b2) #[] #[]] w1 K:=
  fun hs hg hv h=>Q0t (fun i=>decide (N3 i=0)) hs hv (fun σ1 x cs w1 K le _ hs hr hl hK=>Y7 (Q7d hs (hg.lift ⟨le⟩) hr fun w' σ' hk=>hK w' hk.bel)) (W4 hs h)
 have hC: ∀{w1:World} {σ1:Q4} {K:Value→World→Prop} {q:Addr},X4 w1 σ1→Sl 4 Zt σ1 hv m.catches→Z2 σ1 q [I m.code.length]→(∀w' σ',Stp w1 σ1 w' σ'→K (.bool (m.catches.all (C8 m.code.length))) w')→Q1 P F.ap [hv, .func (.func F.b1) #[] #[.pointer (some q)]] w1 K:=
  fun hs hv hq h=>Q0u (C8 m.code.length) hs hv (fun σ1 x cs w1 K le _ hs hr hl hK=>Y7 (Q6K hs hr (hq.le le) fun w' σ' hk=>hK w' hk.bel)) (W4 hs h)
 refine Z0 hs fun a w1 σ1 hk1 ha1=>?_
 (repeat' (first | (with_reducible intro _) | (with_reducible refine V9 ?_) | (simp only[↓M2,M2,Mb,reduceIte]) | (with_reducible first | refine ld aS aL aR ?_ | refine X7 aS aL aR ?_ | refine Z1 aS aL aR ?_ | refine Q8 aL ?_ | refine V4 aR ?_ | refine Z0 aS ?_ | refine L1 aS aL ?_ | refine J6 aS aR ?_ | refine Y4 aS aR aR (Rep.one (by assumption)) ?_ | refine U3 aS aR aR aR ?_ | refine Q4r au (W4 aS ?_) | refine Jc _ au (W4 aS ?_) | refine hA au au ?_ | refine hB au au au ?_ | refine hC au au au ?_ | (refine Z3 (fun hh=>?_) (fun hh=>?_)<;>(try simp only[hh,Bool.not_true,Bool.not_false,↓M2,M2,Mb,reduceIte])) | (refine Q5 (fun hh=>?_) (fun hh=>?_)<;>(try simp only[hh,Bool.not_true,Bool.not_false,↓M2,M2,Mb,reduceIte])))))
 all_goals (simp only[←e1,←e2,←e3] at h;clear e1 e2 e3;exact aF))
theorem Q8H {cs:List Value} {m:Hm.Met} (b:X4 w σ) (c:Glb σ) (d:M6 σ m cs) (h: ∀w' a,Stp w σ w' a→K (.bool (B4 m)) w'):Y9 P (.func (.func F.aT) #[] #[]) [.agg cs.toArray] w K:=Y7 (Q98 b c d h)
def Oi (f:Fld):Bool:=L7 f.name&&right f.kind
def Wm (c:Cla):Bool:=(c.name::c.super::c.like).all W3&& !((c.super::c.like).any fun y=>decide (c.name=y))&&H2 id [] c.like&&
 !(c.iface&&(!c.abs|| !decide (c.super=Z7)|| !decide (c.fields=[])||c.methods.any (fun m=> !m.abs)))&&
 !((c.abs&&c.fin)||(c.methods.any (·.abs)&& !c.abs))&&H2 Fld.name [] c.fields&&H2 Hm.Met.name [] c.methods&&c.fields.all Oi&&c.methods.all B4
def M3 (c:Cla):Int:=if Yd c then 51 else if Wm c then 0 else 50
theorem Q8u {cs:List Value} {f:Fld} (hs:X4 w σ) (hf:E5 σ f cs) (h: ∀w' σ',Stp w σ w' σ'→K (.bool (Oi f)) w'):Q1 P F.bj [.agg cs.toArray] w K:=Q1q (by
 obtain ⟨rfl,h1,h2⟩:=hf
 unfold Rj
 unfold Oi at h
 (repeat' (first | (with_reducible intro _) | (with_reducible refine V9 ?_) | (simp only[↓M2,M2,Mb,reduceIte]) | (with_reducible first | refine ld aS aL aR ?_ | refine X7 aS aL aR ?_ | refine Z1 aS aL aR ?_ | refine Q8 aL ?_ | refine V4 aR ?_ | refine Z0 aS ?_ | refine L1 aS aL ?_ | refine J6 aS aR ?_ | refine Y4 aS aR aR (Rep.one (by assumption)) ?_ | refine U3 aS aR aR aR ?_ | refine Q4r au (W4 aS ?_) | refine Jc _ au (W4 aS ?_) | (refine Z3 (fun hh=>?_) (fun hh=>?_)<;>(try simp only[hh,Bool.not_true,Bool.not_false,↓M2,M2,Mb,reduceIte])) | (refine Q5 (fun hh=>?_) (fun hh=>?_)<;>(try simp only[hh,Bool.not_true,Bool.not_false,↓M2,M2,Mb,reduceIte])))))
 all_goals exact aF)
set_option maxHeartbeats 1600000 in
theorem X15 {cs:List Value} {c:Cla} (hs:X4 w σ) (hg:Glb σ) (hc:U8 σ c cs) (hl:c.like.length≤1000000) (h: ∀w' σ',Stp w σ w' σ'→K (.bool (Wm c)) w'):Q1 P F.cd [.agg cs.toArray] w K:=Q3D (by
 obtain ⟨lv,fv,mv,rfl,g1,g2,g3,g4,g5⟩:=hc
 unfold Im
 unfold Wm at h
 refine Z0 hs fun a w1 σ1 hk1 ha1=>?_
 rw[fa]
 refine ld hk1.sat ha1 rfl ?_
 rw[fa]
 refine ld hk1.sat ha1 rfl ?_
 refine I6 (R:=Y1) (sz:=1) (xs:=[c.name,c.super]) hk1 [_,_] rfl rfl (by simp;exact ⟨rfl,rfl⟩) rfl ⟨⟨rfl,g4⟩,⟨rfl,g5⟩,trivial⟩ fun v w2 hk2 hacc _=>?_
 rw[fa]
 refine ld hk2.sat ha1 rfl ?_
 refine Dl (hk1.trans hk2) hacc (g1.up hk1) rfl (by simp;omega) (by simp;omega) fun v' w3 hn3 hS3 hacc3 _=>?_
 obtain ⟨σ3,hS3,hv3,le3,_⟩:=hacc3.keep hS3
 have hv3:Sl 1 Y1 σ3 v' (c.name::c.super::c.like):=hv3
 have ha3:=ha1.le le3
 have le13:SLe σ σ3:=⟨hS3.le⟩
 have g1:=g1.lift le13
 have g2:=g2.lift le13
 have g3:=g3.lift le13
 have hg:=hg.lift le13
 refine V3 hS3.sat ?_
 refine W9 (fun v _=>Sl 1 Y1 σ3 v (c.super::c.like)) (fun _ _ _ h _=>h) (fun w hb=>?_) ?_
 ·refine Hn hv3 (some (I 1)) none 1 (c.like.length+2) (.inr rfl) (.inl ⟨rfl,by simp⟩) (by omega) (by simp) fun v' hv'=>⟨Below.refl _ _,?_⟩
  simpa using hv'
 refine X2 (.pointer (some (a.add 0))) (fun w hb=>by rw[fa];exact X6 rfl) ?_
 refine X2 (S c.name) (fun t w hb e=>by rw[e];exact ld hb.sat ha3 rfl (X6 rfl)) ?_
 rintro t16 t17 t18 w4 hb4 f16 rfl rfl
 have hS4:=hS3.trans hb4.stp
 clear hb4 hk1 hk2 hn3
 have hs4:=hS4.sat
 refine Q0p hs4 f16 ?_
 have hA: ∀{w1:World} {σ1:Q4} {K:Value→World→Prop},X4 w1 σ1→Sl 7 M6 σ1 mv c.methods→(∀w' σ',Stp w1 σ1 w' σ'→K (.bool (c.methods.any (·.abs))) w')→Q1 P F.a [mv, .func (.func F.bX) #[] #[]] w1 K:=
  fun hs hv h=>R2 (·.abs) hs hv (fun x cs w1 K _ hs hr hl hK=>Y7 (Q1J (by
   obtain ⟨pv,cv,hv,rfl,_⟩:=hr
   unfold Rk
   refine Z0 hs fun a w1 σ1 hk1 ha1=>?_
   (repeat' (first | (with_reducible intro _) | (with_reducible refine V9 ?_) | (simp only[↓M2,M2,Mb,reduceIte]) | (with_reducible first | refine ld aS aL aR ?_ | refine X7 aS aL aR ?_ | refine Z1 aS aL aR ?_ | refine Q8 aL ?_ | refine V4 aR ?_ | refine Z0 aS ?_ | refine L1 aS aL ?_ | refine J6 aS aR ?_ | refine Y4 aS aR aR (Rep.one (by assumption)) ?_ | refine U3 aS aR aR aR ?_ | (refine Z3 (fun hh=>?_) (fun hh=>?_)<;>(try simp only[hh,Bool.not_true,Bool.not_false,↓M2,M2,Mb,reduceIte])) | (refine Q5 (fun hh=>?_) (fun hh=>?_)<;>(try simp only[hh,Bool.not_true,Bool.not_false,↓M2,M2,Mb,reduceIte])))))
   exact hK _ hk1.bel))) (W4 hs h)
 have hB: ∀{w1:World} {σ1:Q4} {K:Value→World→Prop},X4 w1 σ1→Sl 7 M6 σ1 mv c.methods→(∀w' σ',Stp w1 σ1 w' σ'→K (.bool (c.methods.any fun m=> !m.abs)) w')→Q1 P F.a [mv, .func (.func F.bY) #[] #[]] w1 K:=
  fun hs hv h=>R2 (fun m=> !m.abs) hs hv (fun x cs w1 K _ hs hr hl hK=>Y7 (Q1D (by
   obtain ⟨pv,cv,hv,rfl,_⟩:=hr
   unfold Re
   refine Z0 hs fun a w1 σ1 hk1 ha1=>?_
   (repeat' (first | (with_reducible intro _) | (with_reducible refine V9 ?_) | (simp only[↓M2,M2,Mb,reduceIte]) | (with_reducible first | refine ld aS aL aR ?_ | refine X7 aS aL aR ?_ | refine Z1 aS aL aR ?_ | refine Q8 aL ?_ | refine V4 aR ?_ | refine Z0 aS ?_ | refine L1 aS aL ?_ | refine J6 aS aR ?_ | refine Y4 aS aR aR (Rep.one (by assumption)) ?_ | refine U3 aS aR aR aR ?_ | (refine Z3 (fun hh=>?_) (fun hh=>?_)<;>(try simp only[hh,Bool.not_true,Bool.not_false,↓M2,M2,Mb,reduceIte])) | (refine Q5 (fun hh=>?_) (fun hh=>?_)<;>(try simp only[hh,Bool.not_true,Bool.not_false,↓M2,M2,Mb,reduceIte])))))
   exact hK _ hk1.bel))) (W4 hs h)
 have hC: ∀{w1:World} {σ1:Q4} {K:Value→World→Prop},X4 w1 σ1→Sl 1 Y1 σ1 v' (c.name::c.super::c.like)→(∀w' σ',Stp w1 σ1 w' σ'→K (.bool ((c.name::c.super::c.like).all W3)) w')→Q1 P F.a3 [v', .func (.func F.ad) #[] #[]] w1 K:=
  fun hs hv h=>Cs W3 hs hv (fun σ1 x w1 K _ _ hs hl hK=>Y7 (Dv x (Nat.le_trans hl (by decide)) hK)) (W4 hs h)
 have hD: ∀{w1:World} {σ1:Q4} {K:Value→World→Prop},X4 w1 σ1→Sl 1 Y1 σ1 lv c.like→(∀w' σ',Stp w1 σ1 w' σ'→K (.bool (H2 id [] c.like)) w')→Q1 P F.aH [lv, .func (.func F.bZ) #[] #[]] w1 K:=
  fun hs hv h=>Q3E id hs hv (fun σ1 x w1 K _ hs hl hK=>Y7 (Q1F (hK _ (Below.refl _ _)))) (W4 hs h)
 have hE: ∀{w1:World} {σ1:Q4} {K:Value→World→Prop},X4 w1 σ1→Sl 3 E5 σ1 fv c.fields→(∀w' σ',Stp w1 σ1 w' σ'→K (.bool (H2 Fld.name [] c.fields)) w')→Q1 P F.av [fv, .func (.func F.c0) #[] #[]] w1 K:=
  fun hs hv h=>Q17 Fld.name hs hv (fun σ1 x cs w1 K _ hs hr hl hK=>Y7 (Q21 (by
   obtain ⟨rfl,_⟩:=hr
   unfold Rv
   refine Z0 hs fun a w1 σ1 hk1 ha1=>?_
   (repeat' (first | (with_reducible intro _) | (with_reducible refine V9 ?_) | (simp only[↓M2,M2,Mb,reduceIte]) | (with_reducible first | refine ld aS aL aR ?_ | refine X7 aS aL aR ?_ | refine Z1 aS aL aR ?_ | refine Q8 aL ?_ | refine V4 aR ?_ | refine Z0 aS ?_ | refine L1 aS aL ?_ | refine J6 aS aR ?_ | refine Y4 aS aR aR (Rep.one (by assumption)) ?_ | refine U3 aS aR aR aR ?_ | (refine Z3 (fun hh=>?_) (fun hh=>?_)<;>(try simp only[hh,Bool.not_true,Bool.not_false,↓M2,M2,Mb,reduceIte])) | (refine Q5 (fun hh=>?_) (fun hh=>?_)<;>(try simp only[hh,Bool.not_true,Bool.not_false,↓M2,M2,Mb,reduceIte])))))
   exact hK _ hk1.bel))) (W4 hs h)
 have hF: ∀{w1:World} {σ1:Q4} {K:Value→World→Prop},X4 w1 σ1→Sl 7 M6 σ1 mv c.methods→(∀w' σ',Stp w1 σ1 w' σ'→K (.bool (H2 Hm.Met.name [] c.methods)) w')→Q1 P F.al [mv, .func (.func F.c1) #[] #[]] w1 K:=
  fun hs hv h=>Q0l Hm.Met.name hs hv (fun σ1 x cs w1 K _ hs hr hl hK=>Y7 (Q1M (by
   obtain ⟨pv,cv,hv,rfl,_⟩:=hr
   unfold Rz
   refine Z0 hs fun a w1 σ1 hk1 ha1=>?_
   (repeat' (first | (with_reducible intro _) | (with_reducible refine V9 ?_) | (simp only[↓M2,M2,Mb,reduceIte]) | (with_reducible first | refine ld aS aL aR ?_ | refine X7 aS aL aR ?_ | refine Z1 aS aL aR ?_ | refine Q8 aL ?_ | refine V4 aR ?_ | refine Z0 aS ?_ | refine L1 aS aL ?_ | refine J6 aS aR ?_ | refine Y4 aS aR aR (Rep.one (by assumption)) ?_ | refine U3 aS aR aR aR ?_ | (refine Z3 (fun hh=>?_) (fun hh=>?_)<;>(try simp only[hh,Bool.not_true,Bool.not_false,↓M2,M2,Mb,reduceIte])) | (refine Q5 (fun hh=>?_) (fun hh=>?_)<;>(try simp only[hh,Bool.not_true,Bool.not_false,↓M2,M2,Mb,reduceIte])))))
   exact hK _ hk1.bel))) (W4 hs h)
 have hG: ∀{w1:World} {σ1:Q4} {K:Value→World→Prop},X4 w1 σ1→Sl 3 E5 σ1 fv c.fields→(∀w' σ',Stp w1 σ1 w' σ'→K (.bool (c.fields.all Oi)) w')→Q1 P F.am [fv, .func (.func F.bj) #[] #[]] w1 K:=
  fun hs hv h=>Q0o Oi hs hv (fun σ1 x cs w1 K _ _ hs hr hl hK=>Y7 (Q8u hs hr fun w' σ' hk=>hK w' hk.bel)) (W4 hs h)
 have hH: ∀{w1:World} {σ1:Q4} {K:Value→World→Prop},X4 w1 σ1→Glb σ1→Sl 7 M6 σ1 mv c.methods→(∀w' σ',Stp w1 σ1 w' σ'→K (.bool (c.methods.all B4)) w')→Q1 P F.ah [mv, .func (.func F.aT) #[] #[]] w1 K:=
  fun hs hg hv h=>Tv B4 hs hv (fun σ1 x cs w1 K le _ hs hr hl hK=>Q8H hs (hg.lift ⟨le⟩) hr fun w' σ' hk=>hK w' hk.bel) (W4 hs h)
 have e1:decide ((0:Int)<c.fields.length)= !decide (c.fields=[]):=by cases c.fields<;>simp
 have e2:decide (c.super=[79,98,106,101,99,116])=decide (c.super=Z7):=rfl
 (repeat' (first | (with_reducible intro _) | (with_reducible refine V9 ?_) | (simp only[↓M2,M2,Mb,reduceIte]) | (with_reducible first | refine ld aS aL aR ?_ | refine X7 aS aL aR ?_ | refine Z1 aS aL aR ?_ | refine Q8 aL ?_ | refine V4 aR ?_ | refine Z0 aS ?_ | refine L1 aS aL ?_ | refine J6 aS aR ?_ | refine Y4 aS aR aR (Rep.one (by assumption)) ?_ | refine U3 aS aR aR aR ?_ | refine hA au au ?_ | refine hB au au ?_ | refine hC au au ?_ | refine hD au au ?_ | refine hE au au ?_ | refine hF au au ?_ | refine hG au au ?_ | refine hH au au au ?_ | (refine Z3 (fun hh=>?_) (fun hh=>?_)<;>(try simp only[hh,Bool.not_true,Bool.not_false,↓M2,M2,Mb,reduceIte])) | (refine Q5 (fun hh=>?_) (fun hh=>?_)<;>(try simp only[hh,Bool.not_true,Bool.not_false,↓M2,M2,Mb,reduceIte])))))
 all_goals (simp only[←e1,←e2] at h;clear hA hB hC hD hE hF hG hH e1 e2;exact aF))
theorem X1e {cs:List Value} {c:Cla} (hs:X4 w σ) (hg:Glb σ) (hc:U8 σ c cs) (hl:c.like.length≤1000000) (h: ∀w' σ',Stp w σ w' σ'→K (I (M3 c)) w'):Q1 P F.cb [.agg cs.toArray] w K:=Q3v (by
 have hc0:=hc
 obtain ⟨lv,fv,mv,rfl,g1,g2,g3,g4,g5⟩:=hc
 unfold Ig
 unfold M3 at h
 (repeat' (first | (with_reducible intro _) | (with_reducible refine V9 ?_) | (simp only[↓M2,M2,Mb,reduceIte]) | (with_reducible first | refine ld aS aL aR ?_ | refine X7 aS aL aR ?_ | refine Z1 aS aL aR ?_ | refine Q8 aL ?_ | refine V4 aR ?_ | refine Z0 aS ?_ | refine L1 aS aL ?_ | refine J6 aS aR ?_ | refine Y4 aS aR aR (Rep.one (by assumption)) ?_ | refine U3 aS aR aR aR ?_ | refine X1w au au (W4 aS ?_) | refine X15 au au au au ?_ | (refine Z3 (fun hh=>?_) (fun hh=>?_)<;>(try simp only[hh,Bool.not_true,Bool.not_false,↓M2,M2,Mb,reduceIte])) | (refine Q5 (fun hh=>?_) (fun hh=>?_)<;>(try simp only[hh,Bool.not_true,Bool.not_false,↓M2,M2,Mb,reduceIte])))))
 all_goals exact aF)
end Go.Proofs.YtfppjenblllfaaaGreatDoor

namespace Go.Emb
open Go.RowKit Go.Hm
structure Tab (σ : Q4) (v : Value) (l : List Cla) : Prop where
  ex : ∃ a lv r m, v = .pointer (some a) ∧ Z2 σ a [lv, .map (some r)] ∧ Sl 8 U8 σ lv l ∧ I9 σ r m ∧ ∀ n, L9 m n = (Y5 l n).map (fun i : Nat => I (i : Int))
theorem Tab.lift {σ0 σ:Q4} {v:Value} {l:List Cla} (h:Tab σ0 v l) (k:SLe σ0 σ):Tab σ v l:=by
 obtain ⟨a,g,r,m,f,c,e,d,b⟩:=h.ex
 exact ⟨a,g,r,m,f,c.lift k,e.lift k,d.lift k,b⟩
end Go.Emb
namespace Go.Proofs.YtfppjenblllfaaaGreatDoor
open Go.Emb Go.RowKit Go.Kd Go.Hm
variable {w : World} {K : Value → World → Prop} {σ : Q4} {v : Value} {l : List Cla}
theorem Q72 {n:X0} (b:X4 w σ) (e:Tab σ v l) (h:K (.bool (Q12 l n)) w):Q1 P F.k [v,S n] w K:=Nx (by
 obtain ⟨a,j,r,m,rfl,g,i,f,d⟩:=e.ex
 unfold Zm
 rw[E8,fa]
 refine ld b g rfl ?_
 rw[Q15 X8 (f.is b) n,d n]
 unfold Q12 at h
 cases c:Y5 l n<;>rw[c] at h<;>((try simp only[Option.map_some,Option.map_none]);(try simp only[↓M1,M1,Mb,reduceIte]);exact h))
theorem Xy {n:X0} {c:Cla} (Z:X4 w σ) (U:Tab σ v l) (Y:lk l n=some c)
 (h: ∀q s mv w' o,Stp w σ w' o→Sl 1 Y1 o q c.like→Sl 3 E5 o s c.fields→Sl 7 M6 o mv c.methods→c.name.length≤J0→c.super.length≤J0→U8 o c [S c.name,S c.super,q, .bool c.iface, .bool c.abs, .bool c.fin,s,mv]→
  K (.agg [S c.name,S c.super,q, .bool c.iface, .bool c.abs, .bool c.fin,s,mv].toArray) w'):Q1 P F.h [v,S n] w K:=Bq (by
 obtain ⟨a,q,r,m,rfl,E,t2,X,t4⟩:=U.ex
 obtain ⟨_,_,i,hi,u⟩:=U7 Y
 obtain ⟨A,rfl⟩:=List.getElem?_eq_some_iff.1 u
 unfold Wk
 refine I2 Z fun b w1 σ1 f d y=>?_
 refine V3 d.sat ?_
 refine X2 (.pointer (some a)) (fun w f=>by rw[E8];exact X6 rfl) ?_
 refine X2 (.pointer (some (a.add 0))) (fun t w f e=>by rw[e,fa];exact X6 rfl) ?_
 refine X2 (.pointer (some a)) (fun w f=>by rw[E8];exact X6 rfl) ?_
 refine X2 (.pointer (some (a.add 1))) (fun t w f e=>by rw[e,fa];exact X6 rfl) ?_
 refine X2 q (fun t w f e=>by rw[e];exact ld f.sat (E.up d) rfl (X6 rfl)) ?_
 refine X2 (.map (some r)) (fun t w f e=>by rw[e];exact ld f.sat (E.up d) rfl (X6 rfl)) ?_
 refine X2 (I i) (fun t w f e=>by rw[e,Q34 X8 ((X.up d).is f.sat) n,t4 n,hi];exact X6 rfl) ?_
 rintro t6 t7 H af t8 L R w2 g rfl rfl rfl rfl O rfl rfl
 subst O
 have z:=y.step g.stp
 refine W6 (t2.up d) A fun p cs W k D=>?_
 refine Z1 g.sat W k ?_
 have j:=D
 obtain ⟨J,s,mv,rfl,V,M,g3,Q,N⟩:=D
 refine Qg z (d.trans g.stp) f rfl rfl (Rep.one j) fun w3 C B=>?_
 refine W2 B rfl ?_
 exact h _ _ _ w3 σ1 C.stp V M g3 Q N j)
theorem Tp {n:X0} (b:X4 w σ) (a:Tab σ v l) (c:lk l n=none) (h:K (.bool false) w):Q1 P F.k [v,S n] w K:=Q72 b a (by rw[Q29,c];exact h)
theorem Hs {n:X0} {d:Cla} (b:X4 w σ) (a:Tab σ v l) (c:lk l n=some d) (h:K (.bool true) w):Q1 P F.k [v,S n] w K:=Q72 b a (by rw[Q29,c];exact h)
theorem Q9f {c:Cla} {cs:List Value} (hs:X4 w σ) (ht:Tab σ v l) (hc:U8 σ c cs) (h: ∀w' σ',Stp w σ w' σ'→K (I (L5 l c)) w'):Q1 P F.aW [v, .agg cs.toArray] w K:=Cw (by
 obtain ⟨lv,fv,mv,rfl,g1,g2,g3,g4,g5⟩:=hc
 unfold Uw
 unfold L5 at h
 cases hd:lk l c.super with
 | none=>
  simp only[T3,hd,if_true] at h
  (repeat' (first | (with_reducible intro _) | (with_reducible refine V9 ?_) | (simp only[↓M2,M2,Mb,reduceIte]) | (with_reducible first | refine ld aS aL aR ?_ | refine X7 aS aL aR ?_ | refine Z1 aS aL aR ?_ | refine Q8 aL ?_ | refine V4 aR ?_ | refine Z0 aS ?_ | refine L1 aS aL ?_ | refine J6 aS aR ?_ | refine Y4 aS aR aR (Rep.one (by assumption)) ?_ | refine U3 aS aR aR aR ?_ | refine Tp au au au ?_ | (refine Z3 (fun hh=>?_) (fun hh=>?_)<;>(try simp only[hh,Bool.not_true,Bool.not_false,↓M2,M2,Mb,reduceIte])) | (refine Q5 (fun hh=>?_) (fun hh=>?_)<;>(try simp only[hh,Bool.not_true,Bool.not_false,↓M2,M2,Mb,reduceIte])))))
  all_goals exact aF
 | some d=>
  simp only[T3,hd] at h
  obtain ⟨dn,ds,dl,di,da,df,dfs,dms⟩:=d
  cases di<;>cases df
  ·simp only[Bool.or_self,Bool.false_eq_true,if_false] at h
   (repeat' (first | (with_reducible intro _) | (with_reducible refine V9 ?_) | (simp only[↓M2,M2,Mb,reduceIte]) | (with_reducible first | refine ld aS aL aR ?_ | refine X7 aS aL aR ?_ | refine Z1 aS aL aR ?_ | refine Q8 aL ?_ | refine V4 aR ?_ | refine Z0 aS ?_ | refine L1 aS aL ?_ | refine J6 aS aR ?_ | refine Y4 aS aR aR (Rep.one (by assumption)) ?_ | refine U3 aS aR aR aR ?_ | refine Hs au au au ?_ | refine Xy au au au ?_ | (refine Z3 (fun hh=>?_) (fun hh=>?_)<;>(try simp only[hh,Bool.not_true,Bool.not_false,↓M2,M2,Mb,reduceIte])) | (refine Q5 (fun hh=>?_) (fun hh=>?_)<;>(try simp only[hh,Bool.not_true,Bool.not_false,↓M2,M2,Mb,reduceIte])))))
   rename_i w3 σ3 hk3 _ _ _ _ _ _
   have hS:Stp w σ w3 σ3:=by (repeat (first | exact Stp.refl (by (first | assumption | exact Stp.sat (by assumption) | exact Hst.sat (by assumption))) | assumption | refine Stp.trans ?_ (by first | assumption | exact Hst.stp (by assumption))))
   refine J4 c.like.length (fun n w'=> ∃σ',Stp w σ w' σ'∧SLe σ3 σ'∧((c.like.take n).any (O8 l))=false) ⟨σ3,hS,SLe.refl _,by simp⟩ fun n w4 d hn hi=>?_
   obtain ⟨σ4,hS4,le4,hq⟩:=hi
   clear hk3
   refine Y8 ?_
   refine Q5 (fun hh=>?_) (fun hh=>?_)
   ·have hn':n<c.like.length:=by simpa using hh
    have hmax:c.like.length≤9223372036854775807:=g1.max
    refine Of (by (first | assumption | exact Sl.lift (by assumption) (by (repeat (first | exact SLe.refl _ | refine SLe.more ?_ (by assumption) | refine SLe.more ?_ (Nxt.le (by assumption)) | refine SLe.step ?_ (by assumption)))) | exact Z2.lift (by assumption) (by (repeat (first | exact SLe.refl _ | refine SLe.more ?_ (by assumption) | refine SLe.more ?_ (Nxt.le (by assumption)) | refine SLe.step ?_ (by assumption)))) | exact I9.lift (by assumption) (by (repeat (first | exact SLe.refl _ | refine SLe.more ?_ (by assumption) | refine SLe.more ?_ (Nxt.le (by assumption)) | refine SLe.step ?_ (by assumption)))) | exact RCl_lift (by assumption) (by (repeat (first | exact SLe.refl _ | refine SLe.more ?_ (by assumption) | refine SLe.more ?_ (Nxt.le (by assumption)) | refine SLe.step ?_ (by assumption)))) | exact RMe_lift (by assumption) (by (repeat (first | exact SLe.refl _ | refine SLe.more ?_ (by assumption) | refine SLe.more ?_ (Nxt.le (by assumption)) | refine SLe.step ?_ (by assumption)))) | exact Glb.lift (by assumption) (by (repeat (first | exact SLe.refl _ | refine SLe.more ?_ (by assumption) | refine SLe.more ?_ (Nxt.le (by assumption)) | refine SLe.step ?_ (by assumption)))) | exact Tab.lift (by assumption) (by (repeat (first | exact SLe.refl _ | refine SLe.more ?_ (by assumption) | refine SLe.more ?_ (Nxt.le (by assumption)) | refine SLe.step ?_ (by assumption)))) | exact RIn_any (by assumption) | exact RFd_any (by assumption) | exact RCa_any (by assumption))) hn' fun p hl hbig=>?_
    have hq':=M0 (p:=O8 l) hn'
    rw[hq] at hq'
    cases hx:lk l c.like[n] with
    | none=>
     simp only[C5 (p:=O8 l) hn' (by simp only[O8,hx]),if_true] at h
     (repeat' (first | (with_reducible intro _) | (with_reducible refine V9 ?_) | (simp only[↓M2,M2,Mb,reduceIte]) | (with_reducible first | refine ld aS aL aR ?_ | refine X7 aS aL aR ?_ | refine Z1 aS aL aR ?_ | refine Q8 aL ?_ | refine V4 aR ?_ | refine Z0 aS ?_ | refine L1 aS aL ?_ | refine J6 aS aR ?_ | refine Y4 aS aR aR (Rep.one (by assumption)) ?_ | refine U3 aS aR aR aR ?_ | refine Tp au au au ?_ | (refine Z3 (fun hh=>?_) (fun hh=>?_)<;>(try simp only[hh,Bool.not_true,Bool.not_false,↓M2,M2,Mb,reduceIte])) | (refine Q5 (fun hh=>?_) (fun hh=>?_)<;>(try simp only[hh,Bool.not_true,Bool.not_false,↓M2,M2,Mb,reduceIte])))))
     all_goals exact aF
    | some x=>
     obtain ⟨xn,xs,xl,xi,xa,xf,xfs,xms⟩:=x
     cases xi
     ·simp only[C5 (p:=O8 l) hn' (by simp only[O8,hx];rfl),if_true] at h
      (repeat' (first | (with_reducible intro _) | (with_reducible refine V9 ?_) | (simp only[↓M2,M2,Mb,reduceIte]) | (with_reducible first | refine ld aS aL aR ?_ | refine X7 aS aL aR ?_ | refine Z1 aS aL aR ?_ | refine Q8 aL ?_ | refine V4 aR ?_ | refine Z0 aS ?_ | refine L1 aS aL ?_ | refine J6 aS aR ?_ | refine Y4 aS aR aR (Rep.one (by assumption)) ?_ | refine U3 aS aR aR aR ?_ | refine Hs au au au ?_ | refine Xy au au au ?_ | (refine Z3 (fun hh=>?_) (fun hh=>?_)<;>(try simp only[hh,Bool.not_true,Bool.not_false,↓M2,M2,Mb,reduceIte])) | (refine Q5 (fun hh=>?_) (fun hh=>?_)<;>(try simp only[hh,Bool.not_true,Bool.not_false,↓M2,M2,Mb,reduceIte])))))
      all_goals exact aF
     ·(repeat' (first | (with_reducible intro _) | (with_reducible refine V9 ?_) | (simp only[↓M2,M2,Mb,reduceIte]) | (with_reducible first | refine ld aS aL aR ?_ | refine X7 aS aL aR ?_ | refine Z1 aS aL aR ?_ | refine Q8 aL ?_ | refine V4 aR ?_ | refine Z0 aS ?_ | refine L1 aS aL ?_ | refine J6 aS aR ?_ | refine Y4 aS aR aR (Rep.one (by assumption)) ?_ | refine U3 aS aR aR aR ?_ | refine Hs au au au ?_ | refine Xy au au au ?_ | (refine Z3 (fun hh=>?_) (fun hh=>?_)<;>(try simp only[hh,Bool.not_true,Bool.not_false,↓M2,M2,Mb,reduceIte])) | (refine Q5 (fun hh=>?_) (fun hh=>?_)<;>(try simp only[hh,Bool.not_true,Bool.not_false,↓M2,M2,Mb,reduceIte])))))
      refine Y3 hmax hn' ⟨_,by (repeat (first | exact Stp.refl (by (first | assumption | exact Stp.sat (by assumption) | exact Hst.sat (by assumption))) | assumption | refine Stp.trans ?_ (by first | assumption | exact Hst.stp (by assumption)))),by (repeat (first | exact SLe.refl _ | refine SLe.more ?_ (by assumption) | refine SLe.more ?_ (Nxt.le (by assumption)) | refine SLe.step ?_ (by assumption))),by rw[hq'];simp only[O8,hx];rfl⟩
   ·have hn': ¬n<c.like.length:=by simpa using hh
    rw[D3 hn'] at hq
    simp only[hq,Bool.false_eq_true,if_false] at h
    exact h _ _ hS4
  all_goals
   simp only[Bool.or_self,Bool.or_true,Bool.true_or,if_true] at h
   (repeat' (first | (with_reducible intro _) | (with_reducible refine V9 ?_) | (simp only[↓M2,M2,Mb,reduceIte]) | (with_reducible first | refine ld aS aL aR ?_ | refine X7 aS aL aR ?_ | refine Z1 aS aL aR ?_ | refine Q8 aL ?_ | refine V4 aR ?_ | refine Z0 aS ?_ | refine L1 aS aL ?_ | refine J6 aS aR ?_ | refine Y4 aS aR aR (Rep.one (by assumption)) ?_ | refine U3 aS aR aR aR ?_ | refine Hs au au au ?_ | refine Xy au au au ?_ | (refine Z3 (fun hh=>?_) (fun hh=>?_)<;>(try simp only[hh,Bool.not_true,Bool.not_false,↓M2,M2,Mb,reduceIte])) | (refine Q5 (fun hh=>?_) (fun hh=>?_)<;>(try simp only[hh,Bool.not_true,Bool.not_false,↓M2,M2,Mb,reduceIte])))))
   all_goals exact aF)
end Go.Proofs.YtfppjenblllfaaaGreatDoor

namespace Go.Emb
open Go.RowKit Go.Hm
variable {P : Program} {w w0 w1 w' w'' : World} {K : Value → World → Prop} {σ σ0 σ1 σ' : Q4}
theorem Q7n {a:Addr} {v:Value} (h:w.cell? a=some v) (b:Below w.heap.size w w'):w'.cell? a=some v:=by
 rw[←h];exact World.cell?_of_block (b.block a.block (World.block_lt_of_cell? _ _ h))
def Ptr {α:Type} (sz:Nat) (R:Q4→α→List Value→Prop) (σ:Q4) (x:α) (p:Value) (w:World):Prop:=
 ∃a cs,p= .pointer (some a)∧(∀j u,cs[j]? =some u→w.cell? (a.add j)=some u)∧cs.length=sz∧R σ x cs
theorem Ptr.below {α:Type} {sz:Nat} {R:Q4→α→List Value→Prop} {x:α} {p:Value} (h:Ptr sz R σ x p w) (f:Below w.heap.size w w'):Ptr sz R σ x p w':=by
 obtain ⟨a,cs,b,d,c⟩:=h
 exact ⟨a,cs,b,fun j u e=>Q7n (d j u e) f,c⟩
end Go.Emb
namespace Go.Proofs.YtfppjenblllfaaaGreatDoor
open Go.Emb Go.RowKit Go.Kd Go.Hm
variable {w : World} {K : Value → World → Prop} {σ : Q4} {v : Value} {l : List Cla}
theorem Q2S {w0:World} {σ0:Q4} {xs:List Cla} (hS:Stp w0 σ0 w σ) (C:U5 w0.heap.size T.a 8 U8 σ w v xs)
 (h: ∀w',Kpt (fun k=>v.ownBlock=some k) w w'→Stp w0 σ0 w' σ→U5 w0.heap.size T.a 8 U8 σ w' v xs.reverse→K (.tuple #[]) w'):Q1 P F.o [v] w K:=Ye (by
 unfold B1
 have N:xs.length≤9223372036854775807:=by
  obtain ⟨a,ab,_,g,b,_⟩:=C
  simp only[maxLen] at b;omega
 refine Gh C ?_
 refine Dx ⟨by omega,by omega⟩ ?_
 refine Jb (fun x w'=> ∃i:Nat,x=(I i,I ((xs.length:Int)-1-i))∧2*i≤xs.length∧Kpt (fun k=>v.ownBlock=some k) w w'∧Stp w0 σ0 w' σ∧U5 w0.heap.size T.a 8 U8 σ w' v (H3 i xs)) (fun x _=>match x.2 with | .int _ n=>(n+1).toNat | _=>0) ⟨0,by simp,by omega,Kpt.refl,hS,C⟩ ?_
 rintro _ d w1 ⟨i,rfl,R,U,m,c⟩
 obtain ⟨M,O⟩:=Ph xs i R
 refine Y8 ?_
 refine Q5 (fun hh=>?_) (fun hh=>?_)
 ·have X:(i:Int)<(xs.length:Int)-1-i:=by simpa using hh
  have Q:((xs.length:Int)-1-i)=((xs.length-1-i:Nat):Int):=by omega
  have r:i<(H3 i xs).length:=by omega
  have q:xs.length-1-i<(H3 i xs).length:=by omega
  refine V3 m.sat ?_
  refine W9 (Ptr 8 U8 σ (H3 i xs)[xs.length-1-i]) (fun _ _ _ h f=>h.below f) (fun w f=>?_) ?_
  ·simp only[Q]
   exact Q4E (c.step f.stp) q fun a cs g b o=>⟨Below.refl _ _,a,cs,rfl,g,b,o⟩
  refine W9 (Ptr 8 U8 σ (H3 i xs)[i]) (fun _ _ _ h f=>h.below f) (fun w f=>?_) ?_
  ·exact Q4E (c.step f.stp) r fun a cs g b o=>⟨Below.refl _ _,a,cs,rfl,g,b,o⟩
  refine W9 (fun v _=> ∃cs:List Value,v= .agg cs.toArray∧cs.length=8∧U8 σ (H3 i xs)[xs.length-1-i] cs) (fun _ _ _ h _=>h) (fun t w f e=>?_) ?_
  ·obtain ⟨a,cs,rfl,g,b,o⟩:=e
   exact Hl b g ⟨Below.refl _ _,cs,rfl,b,o⟩
  refine W9 (fun v _=> ∃cs:List Value,v= .agg cs.toArray∧cs.length=8∧U8 σ (H3 i xs)[i] cs) (fun _ _ _ h _=>h) (fun t w f e=>?_) ?_
  ·obtain ⟨a,cs,rfl,g,b,o⟩:=e
   exact Hl b g ⟨Below.refl _ _,cs,rfl,b,o⟩
  rintro Y ac V W w2 j _ _ ⟨cs,rfl,E,s⟩ ⟨ds,rfl,H,y⟩
  refine X0k (m.trans j.stp) (c.step j.stp) r E s (Rep.one s) fun p u w3 D J L=>?_
  simp only[Q]
  refine X0k J.stp L (by simpa using q) H y (Rep.one y) fun p u w4 A z B=>?_
  refine Cx ⟨by omega,by omega⟩ ?_
  refine Dx ⟨by omega,by omega⟩ ?_
  refine ⟨⟨i+1,by congr 1<;>congr 1<;>omega,by omega,?_,z.stp,?_⟩,?_⟩
  ·exact ((U.trans (Kpt.of_below j.stp.bel)).trans D).trans A
  ·have e1:(H3 i xs)[i]? =some (H3 i xs)[i]:=List.getElem?_eq_getElem r
   have e2:(H3 i xs)[xs.length-1-i]? =some (H3 i xs)[xs.length-1-i]:=List.getElem?_eq_getElem q
   have:H3 (i+1) xs=((H3 i xs).set i (H3 i xs)[xs.length-1-i]).set (xs.length-1-i) (H3 i xs)[i]:=by
    simp only[H3,e1,e2]
   rw[this];exact B
  ·simp only;omega
 ·have Z: ¬(i:Int)<(xs.length:Int)-1-i:=by simpa using hh
  rw[Q80 xs i R (by omega)] at c
  exact h w1 U m c)
def sOf:Value→X0 | .string b=>b.data.toList | _=>[]
theorem Q8l {n:X0} (M:X4 w σ) (B:Tab σ v l) (L:Yp l) (Y:l.length≤100000) (h: ∀r w' σ',Stp w σ w' σ'→U5 w.heap.size T.a 8 U8 σ' w' r (chain l n).reverse→K r w'):Q1 P F.aI [v,S n] w K:=Ku (by
 unfold Mq
 refine Jb (fun x w'=> ∃(s:X0) (m:List Cla) (σ':Q4),x.2=S s∧chain l n=m++chain l s∧Stp w σ w' σ'∧V8 w.heap.size T.a 8 U8 σ' w' x.1 m) (fun x _=>(chain l (sOf x.2)).length)
  ⟨n,[],σ,rfl,rfl,Stp.refl M,V8.nil⟩ ?_
 rintro ⟨x1,_⟩ d w1 ⟨s,m,σ1,rfl,o,a,g⟩
 have e:=B.lift ⟨a.le⟩
 have z:=Rh l n
 have p:sOf (S s)=s:=by simp[sOf]
 simp only[p]
 cases j:lk l s with
 | none=>
  refine Tp a.sat e j ?_
  refine J9 ?_
  rw[P6 j,List.append_nil] at o
  rw[←o] at g
  refine Q2S a (U5.of_acc g) fun U f q t=>?_
  exact h _ _ _ q t
 | some c=>
  refine Hs a.sat e j ?_
  refine U1 ?_
  refine Xy a.sat e j fun N O mv U W f Q R E V J A=>?_
  have b:=G2 L s
  rw[j] at b
  simp only at b
  have H:m.length+1≤l.length+1:=by
   have:=congrArg List.length o
   rw[List.length_append,b,List.length_cons] at this;omega
  refine Un (a.trans f) (g.up f) A rfl rfl rfl (by omega) (by omega) fun u r w3 Z C i y _=>?_
  refine Xy i.sat (B.lift ⟨i.le⟩) j fun N O mv X D k Q R E V J A=>?_
  refine V4 (v:=S c.super) rfl ?_
  refine ⟨⟨c.super,m++[c],D,rfl,?_,i.trans k,y.up k⟩,?_⟩
  ·rw[o,b];simp
  ·have:sOf (S c.super)=c.super:=by simp[sOf]
   simp only[this,b,List.length_cons];omega)
theorem Q9w {n:X0} (Z:X4 w σ) (U:Tab σ v l) (W:Yp l) (Y:l.length≤100000) (E: ∀c∈l,T7 c) (h: ∀D w' σ',Stp w σ w' σ'→Sl 3 E5 σ' D (M7 l n)→K D w'):Q1 P F.b0 [v,S n] w K:=Cp (by
 unfold Vl
 refine Q8l Z U W Y fun v1 w1 σ1 y J=>?_
 obtain ⟨O,z,s,ac,_⟩:=J.keep y
 generalize g:(chain l n).reverse=cs at*
 have Q:cs.length≤l.length+1:=by rw[←g,List.length_reverse];exact Rh l n
 have k: ∀c∈cs,c.fields.length≤1000000:=fun c t=>(E c (Tu (by rw[←g] at t;simpa using t))).2.1
 refine Q8 s ?_
 refine D5 cs.length (fun i a w'=> ∃σ',Stp w σ w' σ'∧SLe O σ'∧V8 w.heap.size T.m 3 E5 σ' w' a ((cs.take i).flatMap (·.fields))) ⟨O,z,SLe.refl _,V8.nil⟩ fun i a w3 d hi r=>?_
 obtain ⟨σ3,f,m,j⟩:=r
 refine Y8 ?_
 refine Q5 (fun hh=>?_) (fun hh=>?_)
 ·have e:i<cs.length:=by simpa using hh
  refine W6 (s.lift m) e fun p cells H o R=>?_
  refine Z1 f.sat H o ?_
  refine Y4 f.sat (by rfl) o (Rep.one R) fun q w4 M b hq=>?_
  obtain ⟨lv,fv,mv,rfl,f1,f2,f3,f4,f5⟩:=R
  rw[fa]
  refine ld b.sat hq rfl ?_
  have C:=Ui (fun c:Cla=>c.fields) 1000000 (cs.take i) fun c t=>k c (List.mem_of_mem_take t)
  rw[List.length_take] at C
  have ad:=k cs[i] (List.getElem_mem e)
  have N:min i cs.length*1000000≤100000*1000000:=Nat.mul_le_mul_right _ (by omega)
  refine Dl (f.trans b) (j.up b) (f2.up b) rfl (by omega) (by omega) fun D w5 V L B _=>?_
  refine O3 ?_
  refine Z6 (by omega) e ⟨M,L,m.more ⟨b.le⟩,?_⟩
  rw[List.take_add_one,List.getElem?_eq_getElem e,List.flatMap_append]
  simpa using B
 ·have e: ¬i<cs.length:=by simpa using hh
  rw[List.take_of_length_le (by omega)] at j
  obtain ⟨M,u,A,X,_⟩:=j.keep f
  refine h _ _ _ u ?_
  unfold M7
  rw[g];exact A)
theorem X19 {n f:X0} (hs:X4 w σ) (ht:Tab σ v l) (ha:Yp l) (hl:l.length≤100000) (hsm: ∀c∈l,T7 c) (h: ∀w' σ',Stp w σ w' σ'→K (I (W8 (Xv l n f))) w'):Q1 P F.b9 [v,S n,S f] w K:=Bt (by
 unfold Wo
 refine J6 hs rfl fun q w1 σ1 hk1 hq=>?_
 refine Q9w hk1.sat (ht.lift ⟨hk1.le⟩) ha hl hsm fun v' w2 σ2 hk2 hv2=>?_
 rw[Qs]
 refine Cb (fun x=>decide (x.name=f)) hk2.sat hv2 (fun x cs w3 K _ hs3 hr hl hK=>Y7 (Se ?_)) fun w3 hb=>?_
 ·obtain ⟨rfl,_⟩:=hr
  unfold Jz
  have hq2:=hq.up hk2
  refine Z0 hs3 fun a w4 σ4 hk4 ha4=>?_
  (repeat' (first | (with_reducible intro _) | (with_reducible refine V9 ?_) | (simp only[↓M2,M2,Mb,reduceIte]) | (with_reducible first | refine ld aS aL aR ?_ | refine X7 aS aL aR ?_ | refine Z1 aS aL aR ?_ | refine Q8 aL ?_ | refine V4 aR ?_ | refine Z0 aS ?_ | refine L1 aS aL ?_ | refine J6 aS aR ?_ | refine Y4 aS aR aR (Rep.one (by assumption)) ?_ | refine U3 aS aR aR aR ?_ | (refine Z3 (fun hh=>?_) (fun hh=>?_)<;>(try simp only[hh,Bool.not_true,Bool.not_false,↓M2,M2,Mb,reduceIte])) | (refine Q5 (fun hh=>?_) (fun hh=>?_)<;>(try simp only[hh,Bool.not_true,Bool.not_false,↓M2,M2,Mb,reduceIte])))))
  exact hK _ hk4.bel
 ·exact h _ _ ((hk1.trans hk2).trans (Stp.of_below hk2.sat hb)))
end Go.Proofs.YtfppjenblllfaaaGreatDoor

namespace Go.Hm
open Go.Kd
theorem Q3T {α:Type} (p:α→Bool): ∀xs:List α,xs.find? p=(xs.findIdx? p).bind (xs[·]?)
 | []=>rfl
 | x::r=>by
  rw[List.find?_cons,List.findIdx?_cons]
  cases p x with
  | true=>rfl
  | false=>
   simp only[Bool.false_eq_true,if_false]
   rw[Q3T p r]
   cases r.findIdx? p<;>simp
def Q9t (l:List Cla):Prop:= ∀c∈l,∀u∈c.like,∃d,lk l u=some d
def Nm (c:Cla):Prop:=c.name.length≤100∧(∀f∈c.fields,f.name.length≤100∧f.kind.length≤100)∧ ∀m∈c.methods,m.result.length≤100∧ ∀p∈m.params,p.length≤100
structure Ok (l : List Cla) : Prop where
  acy : Yp l
  len : l.length ≤ 100000
  sm : ∀ c ∈ l, T7 c
  full : Q9t l
  nm : ∀ c ∈ l, Nm c
abbrev oM (o:Option Hm.Met):Hm.Met:=o.getD Hm.Met.zero
abbrev o1 (o:Option (X0×Hm.Met)):X0:=(o.map (·.1)).getD []
abbrev o2 (o:Option (X0×Hm.Met)):Hm.Met:=(o.map (·.2)).getD Hm.Met.zero
theorem Qi {α β:Type} {xs:List α} {f:α→Option β} {n:Nat} (h:n<xs.length) (a:(xs.take n).findSome? f=none):(xs.take (n+1)).findSome? f=f xs[n]:=by
 rw[List.take_add_one,List.getElem?_eq_getElem h,List.findSome?_append,a];simp
theorem Qj {α β:Type} {xs:List α} {f:α→Option β} {n:Nat} {y:β} (h:n<xs.length) (a:(xs.take n).findSome? f=none) (b:f xs[n]=some y):xs.findSome? f=some y:=by
 have:=Qi h a
 rw[b] at this
 rw[←List.take_append_drop (n+1) xs,List.findSome?_append,this];rfl
end Go.Hm
namespace Go.Proofs.YtfppjenblllfaaaGreatDoor
open Go.Emb Go.RowKit Go.Kd Go.Hm
variable {w : World} {K : Value → World → Prop} {σ : Q4} {v : Value} {l : List Cla}
theorem T6:M6 σ Hm.Met.zero [S [], .slice none 0 0,S [], .bool false,I 0, .slice none 0 0, .slice none 0 0]:=
 ⟨_,_,_,rfl,Sl.nil,Sl.nil,Sl.nil,by decide,by decide,by decide,by decide⟩
theorem Dw (h:K (.agg [S [], .slice none 0 0,S [], .bool false,I 0, .slice none 0 0, .slice none 0 0].toArray) w):O7 P T.c [] w K:=W1 (by kernel_rfl) h
theorem X0i {c:Cla} {cs:List Value} {n:X0} (hs:X4 w σ) (hc:U8 σ c cs) (hsm:T7 c)
 (h: ∀pv cv hv w' σ',Stp w σ w' σ'→M6 σ' (oM (R3 c n)) [S (oM (R3 c n)).name,pv,S (oM (R3 c n)).result, .bool (oM (R3 c n)).abs,I (oM (R3 c n)).locals,cv,hv]→
  K (.tuple #[.agg [S (oM (R3 c n)).name,pv,S (oM (R3 c n)).result, .bool (oM (R3 c n)).abs,I (oM (R3 c n)).locals,cv,hv].toArray, .bool (R3 c n).isSome]) w'):Q1 P F.cm [.agg cs.toArray,S n] w K:=Q6P (by
 obtain ⟨lv,fv,mv,rfl,g1,g2,g3,g4,g5⟩:=hc
 unfold Q1E
 refine Z0 hs fun a w1 σ1 hk1 ha1=>?_
 refine J6 hk1.sat rfl fun q w2 σ2 hk2 hq=>?_
 refine I2 hk2.sat fun b w3 σ3 hb hk3 hm=>?_
 rw[fa]
 have ha3:=(ha1.up hk2).up hk3
 have g3:=((g3.up hk1).up hk2).up hk3
 have hq3:=hq.up hk3
 refine ld hk3.sat ha3 rfl ?_
 rw[Qs]
 have hS3:=(hk1.trans hk2).trans hk3
 have hb0:w.heap.size≤b:=Zc hb (hk1.trans hk2)
 refine Sr (fun x=>decide (x.name=n)) hk3.sat g3 (fun x cs w4 K _ hs4 hr hl hK=>Y7 (Q4A ?_)) fun w4 hb4=>?_
 ·obtain ⟨pv,cv,hv,rfl,_⟩:=hr
  unfold Af
  refine Z0 hs4 fun a w5 σ5 hk5 ha5=>?_
  (repeat' (first | (with_reducible intro _) | (with_reducible refine V9 ?_) | (simp only[↓M2,M2,Mb,reduceIte]) | (with_reducible first | refine ld aS aL aR ?_ | refine X7 aS aL aR ?_ | refine Z1 aS aL aR ?_ | refine Q8 aL ?_ | refine V4 aR ?_ | refine Z0 aS ?_ | refine L1 aS aL ?_ | refine J6 aS aR ?_ | refine Y4 aS aR aR (Rep.one (by assumption)) ?_ | refine U3 aS aR aR aR ?_ | (refine Z3 (fun hh=>?_) (fun hh=>?_)<;>(try simp only[hh,Bool.not_true,Bool.not_false,↓M2,M2,Mb,reduceIte])) | (refine Q5 (fun hh=>?_) (fun hh=>?_)<;>(try simp only[hh,Bool.not_true,Bool.not_false,↓M2,M2,Mb,reduceIte])))))
  exact hK _ hk5.bel
 have hk4:Stp w3 σ3 w4 σ3:=Stp.of_below hk3.sat hb4
 have hm:=hm.step hk4
 have hS4:=hS3.trans hk4
 unfold R3 at h
 rw[Q3T] at h
 refine Y8 ?_
 cases hf:c.methods.findIdx? fun x=>decide (x.name=n) with
 | none=>
  rw[hf] at h
  simp only[W8]
  refine U1 ?_
  refine Dw ?_
  refine Qg hm hS4 hb0 rfl rfl (Rep.one (T6 (σ:=σ3))) fun w5 hS5 hm5=>?_
  refine W2 hm5 rfl ?_
  exact h _ _ _ w5 σ3 hS5.stp T6
 | some i=>
  rw[hf] at h
  have hi:i<c.methods.length:=(List.findIdx?_eq_some_iff_getElem.1 hf).1
  simp only[Option.bind_some,List.getElem?_eq_getElem hi] at h
  simp only[W8]
  refine Q5 (fun hh=>absurd (of_decide_eq_true hh) (by omega)) (fun _=>?_)
  rw[fa]
  refine ld hk4.sat ha3 rfl ?_
  refine W6 g3 hi fun p cells hl1 hl2 hr=>?_
  refine Z1 hk4.sat hl1 hl2 ?_
  refine Q31 hk4.sat hr (hsm.2.2.2 _ (List.getElem_mem hi)) fun pv cv hv w5 σ5 hk5 hr5=>?_
  refine Qg (hm.step hk5) (hS4.trans hk5) hb0 rfl rfl (Rep.one hr5) fun w6 hS6 hm6=>?_
  refine W2 hm6 rfl ?_
  exact h _ _ _ w6 σ5 hS6.stp hr5)
theorem X1k {n:X0} (ok:Ok l): ∀(k:Nat) {c:Cla} {cs:List Value} {w:World} {σ:Q4} {K:Value→World→Prop},G1 l c.name<k→lk l c.name=some c→X4 w σ→Tab σ v l→U8 σ c cs→
 (∀pv W X w' Z,Stp w σ w' Z→M6 Z (o2 (U4 l c n)) [S (o2 (U4 l c n)).name,pv,S (o2 (U4 l c n)).result, .bool (o2 (U4 l c n)).abs,I (o2 (U4 l c n)).locals,W,X]→
  K (.tuple #[S (o1 (U4 l c n)), .agg [S (o2 (U4 l c n)).name,pv,S (o2 (U4 l c n)).result, .bool (o2 (U4 l c n)).abs,I (o2 (U4 l c n)).locals,W,X].toArray, .bool (U4 l c n).isSome]) w')→
 Q1 P F.aJ [v, .agg cs.toArray,S n] w K:=by
 intro k
 induction k with
 | zero=>
  intro c cs w σ K hk
  omega
 | succ k ih=>
  intro c cs w σ K hk hc hs ht hr h
  refine Ki ?_
  obtain ⟨lv,fv,mv,rfl,g1,g2,g3,g4,g5⟩:=hr
  have B:=Q2Q ok.acy hc n
  generalize hf:(fun u=>match lk l u with | none=>none | some d=>match R3 d n with | some m=>some (u,m) | none=>U4 l d n)=f at B
  unfold Mz
  refine Z0 hs fun a w1 σ1 D a2=>?_
  refine I2 D.sat fun b w2 σ2 hb J av=>?_
  have U:w.heap.size≤b:=Zc hb D
  have bb:=a2.up J
  rw[fa]
  refine ld J.sat bb rfl ?_
  have g1:=(g1.up D).up J
  refine Q8 g1 ?_
  refine J4 c.like.length (fun i w'=> ∃Z,Stp w σ w' Z∧SLe σ2 Z∧Z5 Z w' b [S [], .slice none 0 0,S [], .bool false,I 0, .slice none 0 0, .slice none 0 0]∧(c.like.take i).findSome? f=none) ⟨σ2,D.trans J,SLe.refl _,av,rfl⟩ fun i w3 d hi ak=>?_
  obtain ⟨σ3,z,an,ag,y⟩:=ak
  have a5:=ht.lift ⟨z.le⟩
  refine Y8 ?_
  refine Q5 (fun hh=>?_) (fun hh=>?_)
  ·have g:i<c.like.length:=by simpa using hh
   refine Of (g1.lift an) g fun p a6 ai=>?_
   refine X7 z.sat a6 rfl ?_
   obtain ⟨d,Y⟩:=ok.full c (U7 hc).2.1 _ (List.getElem_mem g)
   obtain ⟨am,aw,_⟩:=U7 Y
   have j:f c.like[i]=match R3 d n with | some m=>some (c.like[i],m) | none=>U4 l d n:=by rw[←hf];simp only[Y]
   refine Xy z.sat a5 Y fun aq ax a0 w4 σ4 C f1 f2 f3 f4 f5 a7=>?_
   refine X0i C.sat a7 (ok.sm d aw) fun pv W X w5 σ5 H ah=>?_
   refine U9 (vs:=[_,_]) rfl ?_
   refine U9 (vs:=[_,_]) rfl ?_
   refine Y4 H.sat (by rfl) rfl (Rep.one ah) fun q w6 σ6 M al=>?_
   have t:=((z.trans C).trans H).trans M
   have aa:=((ag.step C).step H).step M
   have R:=RMe_lift ah ⟨M.le⟩
   cases ho:R3 d n with
   | some m=>
    rw[ho] at j R al
    (try simp only[ho])
    refine U1 ?_
    refine V3 t.sat ?_
    refine W9 (fun v _=>v= .agg [S m.name,pv,S m.result, .bool m.abs,I m.locals,W,X].toArray) (fun _ _ _ h _=>h) (fun w hb=>Z1 hb.sat al rfl ⟨Below.refl _ _,rfl⟩) ?_
    rintro _ w7 ac rfl
    refine Qg (aa.step ac.stp) (t.trans ac.stp) U rfl rfl (Rep.one R) fun w8 a4 ay=>?_
    refine W2 ay rfl ?_
    have V:=B.trans (Qj g y j)
    rw[V] at h
    exact h _ _ _ w8 σ6 a4.stp R
   | none=>
    rw[ho] at j
    (try simp only[Option.isSome_none])
    refine J9 ?_
    refine Xy t.sat (ht.lift ⟨t.le⟩) Y fun aq ax a0 w7 σ7 A f1 f2 f3 f4 f5 a9=>?_
    have bv:=Xx ok.acy hc (by simp[J3,List.getElem_mem g]:c.like[i]∈J3 c) Y
    refine ih (by rw[am];omega) (by rw[am];exact Y) A.sat (ht.lift ⟨(t.trans A).le⟩) a9 fun pv W X w8 σ8 E aj=>?_
    refine U9 (vs:=[_,_,_]) rfl ?_
    refine U9 (vs:=[_,_,_]) rfl ?_
    refine U9 (vs:=[_,_,_]) rfl ?_
    refine Y4 E.sat (by rfl) rfl (Rep.one aj) fun q w9 σ9 L ae=>?_
    have O:=((t.trans A).trans E).trans L
    have ap:=((aa.step A).step E).step L
    have Q:=RMe_lift aj ⟨L.le⟩
    cases V:U4 l d n with
    | some r=>
     obtain ⟨s,m⟩:=r
     rw[V] at j Q ae
     (try simp only[V])
     refine U1 ?_
     refine V3 O.sat ?_
     refine W9 (fun v _=>v= .agg [S m.name,pv,S m.result, .bool m.abs,I m.locals,W,X].toArray) (fun _ _ _ h _=>h) (fun w hb=>Z1 hb.sat ae rfl ⟨Below.refl _ _,rfl⟩) ?_
     rintro _ bu N rfl
     refine Qg (ap.step N.stp) (O.trans N.stp) U rfl rfl (Rep.one Q) fun a1 af ad=>?_
     refine W2 ad rfl ?_
     have ai:=B.trans (Qj g y j)
     rw[ai] at h
     exact h _ _ _ a1 σ9 af.stp Q
    | none=>
     rw[V] at j
     (try simp only[Option.isSome_none])
     refine J9 ?_
     refine O3 ?_
     refine Y3 (by have:=g1.max;omega) g ⟨σ9,O,?_,ap,?_⟩
     ·exact an.more ⟨fun b o e=>L.le _ _ (E.le _ _ (A.le _ _ (M.le _ _ (H.le _ _ (C.le _ _ e)))))⟩
     ·rw[Qi g y];exact j
  ·have g: ¬i<c.like.length:=by simpa using hh
   rw[List.take_of_length_le (by omega)] at y
   refine Dw ?_
   refine Qg ag z U rfl rfl (Rep.one (T6 (σ:=σ3))) fun w5 ba a3=>?_
   refine W2 a3 rfl ?_
   have V:=B.trans y
   rw[V] at h
   exact h _ _ _ w5 σ3 ba.stp T6
end Go.Proofs.YtfppjenblllfaaaGreatDoor

namespace Go.Hm
open Go.Kd
theorem Q9k {l:List Cla} {n:X0} {c:Cla} (h:c∈chain l n):lk l c.name=some c:=by
 have key: ∀(f:Nat) (n:X0),c∈B0 (lk l) f n→lk l c.name=some c:=by
  intro f
  induction f with
  | zero=>intro n h;simp[B0] at h
  | succ f b=>
   intro n h
   simp only[B0] at h
   split at h
   ·simp at h
   ·rename_i d a
    rcases List.mem_cons.1 h with rfl | h
    ·rw[(U7 a).1];exact a
    ·exact b _ h
 exact key _ _ h
end Go.Hm
namespace Go.Proofs.YtfppjenblllfaaaGreatDoor
open Go.Emb Go.RowKit Go.Kd Go.Hm
variable {w : World} {K : Value → World → Prop} {σ : Q4} {v : Value} {l : List Cla}
theorem Q9b {k n:X0} (hs:X4 w σ) (ht:Tab σ v l) (ok:Ok l)
 (h: ∀pv cv hv w' H,Stp w σ w' H→M6 H (o2 (U0 l k n)) [S (o2 (U0 l k n)).name,pv,S (o2 (U0 l k n)).result, .bool (o2 (U0 l k n)).abs,I (o2 (U0 l k n)).locals,cv,hv]→
  K (.tuple #[S (o1 (U0 l k n)), .agg [S (o2 (U0 l k n)).name,pv,S (o2 (U0 l k n)).result, .bool (o2 (U0 l k n)).abs,I (o2 (U0 l k n)).locals,cv,hv].toArray, .bool (U0 l k n).isSome]) w'):
 Q1 P F.aY [v,S k,S n] w K:=Ca (by
 unfold Vq
 refine I2 hs fun b w1 σ1 E J aw=>?_
 refine Q8l J.sat (ht.lift ⟨J.le⟩) ok.acy ok.len fun v1 w2 σ2 ar a0=>?_
 have a8:=aw.step ar
 have br:=aw.lt
 refine Q2S (J.trans ar) (a0.mono J.bel.size) fun w3 a7 a9 av=>?_
 rw[List.reverse_reverse] at av
 obtain ⟨σ3,an,N,bm,aq⟩:=av.keep a9
 have bk:=Rh l k
 have ak:v1.ownBlock≠some b:=fun e=>by have:=a0.own e;omega
 have am:Z5 σ3 w3 b [S [], .slice none 0 0,S [], .bool false,I 0, .slice none 0 0, .slice none 0 0]:=by
  have:=a8.kp a7 ak
  exact ⟨(aq b fun e=>ak e.symm).trans this.1,this.2⟩
 refine Q8 N ?_
 unfold U0 at h
 refine J4 (chain l k).length (fun i w'=> ∃H,Stp w σ w' H∧SLe σ3 H∧Z5 H w' b [S [], .slice none 0 0,S [], .bool false,I 0, .slice none 0 0, .slice none 0 0]∧((chain l k).take i).findSome? (fun c=>(R3 c n).map (c.name,·))=none) ⟨σ3,an,SLe.refl _,am,rfl⟩ fun i w5 d hi D=>?_
 obtain ⟨σ5,R,M,ae,u⟩:=D
 refine Y8 ?_
 refine Q5 (fun hh=>?_) (fun hh=>?_)
 ·have a:i<(chain l k).length:=by simpa using hh
  refine W6 (N.lift M) a fun p cells W z Z=>?_
  refine Z1 R.sat W z ?_
  refine Y4 R.sat (by rfl) z (Rep.one Z) fun q w6 σ6 B a2=>?_
  refine Z1 B.sat a2 z ?_
  have aj:=Tu (List.getElem_mem a)
  refine X0i B.sat (Rep.up B.le Z) (ok.sm _ aj) fun pv cv hv w7 σ7 j az=>?_
  refine U9 (vs:=[_,_]) rfl ?_
  refine U9 (vs:=[_,_]) rfl ?_
  refine Y4 j.sat (by rfl) rfl (Rep.one az) fun q8 w8 σ8 y ax=>?_
  have V:=((R.trans B).trans j).trans y
  have ao:=((ae.step B).step j).step y
  have A:=RMe_lift az ⟨y.le⟩
  cases C:R3 (chain l k)[i] n with
  | some m=>
   rw[C] at A ax
   (try simp only[C])
   refine U1 ?_
   obtain ⟨lv,fv,mv,rfl,g⟩:=Z
   refine V3 V.sat ?_
   refine X2 (.pointer (some (q.add 0))) (fun w E=>by rw[fa];exact X6 rfl) ?_
   refine X2 (S (chain l k)[i].name) (fun t w E e=>by rw[e];exact ld E.sat ((a2.up j).up y) rfl (X6 rfl)) ?_
   refine W9 (fun v _=>v= .agg [S m.name,pv,S m.result, .bool m.abs,I m.locals,cv,hv].toArray) (fun _ _ _ h _=>h) (fun w E=>Z1 E.sat ax rfl ⟨Below.refl _ _,rfl⟩) ?_
   rintro _ _ _ w9 ay rfl rfl rfl
   refine Qg (ao.step ay.stp) (V.trans ay.stp) E rfl rfl (Rep.one A) fun ag ap ad=>?_
   refine W2 ad rfl ?_
   rw[Qj (f:=fun c=>(R3 c n).map (c.name,·)) a u (by simp only[C];rfl)] at h
   exact h _ _ _ ag σ8 ap.stp A
  | none=>
   (try simp only[C])
   refine J9 ?_
   refine O3 ?_
   refine Y3 (by have:=ok.len;omega) a ⟨σ8,V,M.more ⟨fun b o e=>y.le _ _ (j.le _ _ (B.le _ _ e))⟩,ao,?_⟩
   rw[Qi a u];simp only[C];rfl
 ·have a: ¬i<(chain l k).length:=by simpa using hh
  rw[List.take_of_length_le (by omega)] at u
  rw[u] at h
  clear am an hh
  refine Q8 (N.lift M) ?_
  refine J4 (chain l k).length (fun i w'=> ∃H,Stp w σ w' H∧SLe σ3 H∧Z5 H w' b [S [], .slice none 0 0,S [], .bool false,I 0, .slice none 0 0, .slice none 0 0]∧((chain l k).take i).findSome? (fun c=>U4 l c n)=none) ⟨σ5,R,M,ae,rfl⟩ fun i w6 d hi D=>?_
  obtain ⟨σ6,O,ai,ac,u⟩:=D
  refine Y8 ?_
  refine Q5 (fun hh=>?_) (fun hh=>?_)
  ·have a:i<(chain l k).length:=by simpa using hh
   refine W6 (N.lift ai) a fun p cells W z Z=>?_
   refine Z1 O.sat W z ?_
   refine Y4 O.sat (by rfl) z (Rep.one Z) fun q w7 σ7 j bd=>?_
   refine Z1 j.sat bd z ?_
   have Q:=O.trans j
   have a4:=Q9k (List.getElem_mem a)
   refine X1k ok _ (Nat.lt_succ_self _) a4 j.sat (ht.lift ⟨Q.le⟩) (Rep.up j.le Z) fun pv cv hv w8 σ8 y A=>?_
   refine U9 (vs:=[_,_,_]) rfl ?_
   refine U9 (vs:=[_,_,_]) rfl ?_
   refine U9 (vs:=[_,_,_]) rfl ?_
   refine Y4 y.sat (by rfl) rfl (Rep.one A) fun q9 w9 σ9 L ah=>?_
   have X:=(Q.trans y).trans L
   have a1:=((ac.step j).step y).step L
   have Y:=RMe_lift A ⟨L.le⟩
   cases C:U4 l (chain l k)[i] n with
   | some r=>
    obtain ⟨s,m⟩:=r
    rw[C] at Y ah
    (try simp only[C])
    refine U1 ?_
    refine V3 X.sat ?_
    refine W9 (fun v _=>v= .agg [S m.name,pv,S m.result, .bool m.abs,I m.locals,cv,hv].toArray) (fun _ _ _ h _=>h) (fun w E=>Z1 E.sat ah rfl ⟨Below.refl _ _,rfl⟩) ?_
    rintro _ ag U rfl
    refine Qg (a1.step U.stp) (X.trans U.stp) E rfl rfl (Rep.one Y) fun bc al af=>?_
    refine W2 af rfl ?_
    have:=Qj (f:=fun c=>U4 l c n) a u C
    unfold U4 at this
    rw[this] at h
    exact h _ _ _ bc σ9 al.stp Y
   | none=>
    (try simp only[C])
    refine J9 ?_
    refine O3 ?_
    refine Y3 (by have:=ok.len;omega) a ⟨σ9,X,ai.more ⟨fun b o e=>L.le _ _ (y.le _ _ (j.le _ _ e))⟩,a1,?_⟩
    rw[Qi a u];exact C
  ·have a: ¬i<(chain l k).length:=by simpa using hh
   rw[List.take_of_length_le (by omega)] at u
   refine Dw ?_
   refine Qg ac O E rfl rfl (Rep.one (T6 (σ:=σ6))) fun w7 Q a6=>?_
   refine W2 a6 rfl ?_
   unfold U4 at u
   rw[u] at h
   exact h _ _ _ w7 σ6 Q.stp T6)
end Go.Proofs.YtfppjenblllfaaaGreatDoor

namespace Go.Kd
def brk (b:UInt8):Bool:=[(91:UInt8),93].contains b
def Q01:Nat→X0→X0
 | 0,s=>s
 | n+1,s=>match s.getLast? with
  | some b=>if brk b then Q01 n (s.take (s.length-1)) else s
  | none=>s
def Ov (s:X0):X0:=Q01 s.length s
theorem Q75: ∀(n m:Nat) (s:X0),s.length≤n→s.length≤m→Q01 n s=Q01 m s:=by
 intro n
 induction n with
 | zero=>
  intro m s h _
  have:s=[]:=List.eq_nil_of_length_eq_zero (by omega)
  subst this
  cases m<;>rfl
 | succ n a=>
  intro m s h c
  cases m with
  | zero=>
   have:s=[]:=List.eq_nil_of_length_eq_zero (by omega)
   subst this;rfl
  | succ m=>
   simp only[Q01]
   cases d:s.getLast? with
   | none=>rfl
   | some b=>
    simp only
    split
    ·exact a m _ (by rw[List.length_take];omega) (by rw[List.length_take];omega)
    ·rfl
theorem Q0j (s:X0):Ov s=match s.getLast? with | some b=>if brk b then Ov (s.take (s.length-1)) else s | none=>s:=by
 unfold Ov
 cases d:s with
 | nil=>rfl
 | cons c r=>
  rw[←d]
  obtain ⟨n,e⟩: ∃n,s.length=n+1:=⟨r.length,by rw[d];rfl⟩
  have a:s.length-1=n:=by omega
  rw[e]
  simp only[Q01,a]
  cases f:s.getLast? with
  | none=>rfl
  | some b=>
   simp only
   split
   ·rw[show n+1-1=n by omega];exact Q75 n (s.take n).length _ (by rw[List.length_take];omega) (Nat.le_refl _)
   ·rfl
theorem Q7R {s:X0} (h:name s=true): ∃b,s.getLast?=some b∧E3 b.toNat=true:=by
 cases s with
 | nil=>simp[name] at h
 | cons c r=>
  refine ⟨(c::r).getLast (by simp),List.getLast?_eq_some_getLast (by simp),?_⟩
  simp only[name,Bool.and_eq_true,List.all_eq_true] at h
  exact h.2 _ (List.getLast_mem _)
theorem Q8c {b:UInt8} (h:E3 b.toNat=true):brk b=false:=by
 have a:b≠91:=by rintro rfl;revert h;decide
 have c:b≠93:=by rintro rfl;revert h;decide
 simp[brk,a,c]
theorem Wd {s:X0} (h:(plain s||W3 s)=true):name s=true:=by
 simp only[Bool.or_eq_true] at h
 rcases h with h | h
 ·simp only[plain,Bool.or_eq_true,decide_eq_true_eq] at h
  rcases h with (h | h) | h<;>subst h<;>decide
 ·cases s with
  | nil=>simp[W3] at h
  | cons c r=>simp only[W3,Bool.and_eq_true] at h;exact h.1
end Go.Kd
namespace Go.Proofs.YtfppjenblllfaaaGreatDoor
open Go.Emb Go.RowKit Go.Kd Go.Hm
variable {w : World} {K : Value → World → Prop} {σ : Q4} {v : Value} {l : List Cla}
theorem Q9i {s:X0} (h:D7 s=true):Ov s=Ov (Kd.cutA s):=by
 have d:2≤s.length∧s.drop (s.length-2)=[91,93]:=by simpa [D7] using h
 obtain ⟨i,b⟩:=d
 have a:s=Kd.cutA s++[91,93]:=by unfold Kd.cutA;rw[←b,List.take_append_drop]
 have g:(Kd.cutA s).length+2=s.length:=by unfold Kd.cutA;rw[List.length_take];omega
 have f:s.getLast?=some 93:=by rw[a];simp
 have c:s.take (s.length-1)=Kd.cutA s++[91]:=by
  conv=>lhs;rw[a]
  rw[List.take_append,List.length_append]
  simp
  exact List.take_of_length_le (by omega)
 rw[Q0j s,f]
 simp only[show brk 93=true from rfl,if_true,c]
 rw[Q0j]
 have e:(Kd.cutA s++[91]).getLast?=some 91:=by simp
 rw[e]
 simp only[show brk 91=true from rfl,if_true]
 congr 1
 simp
theorem Q86 {s:X0}:(plain (base s).1||W3 (base s).1)=true→Ov s=(base s).1:=by
 have key: ∀(n:Nat) (s:X0),s.length≤n→(plain (base s).1||W3 (base s).1)=true→Ov s=(base s).1:=by
  intro n
  induction n with
  | zero=>
   intro s h a
   have:s=[]:=List.eq_nil_of_length_eq_zero (by omega)
   subst this;rfl
  | succ n e=>
   intro s h a
   by_cases c:D7 s=true
   ·have d:base s=((base (Kd.cutA s)).1,(base (Kd.cutA s)).2+1):=by rw[Zx s,c];simp
    rw[d] at a⊢
    rw[Q9i c]
    exact e _ (by have:=T4 c;omega) a
   ·have d:base s=(s,0):=by rw[Zx s,eq_false_of_ne_true c];simp
    rw[d] at a⊢
    obtain ⟨b,f,g⟩:=Q7R (Wd a)
    rw[Q0j,f]
    simp[Q8c g]
 exact key _ s (Nat.le_refl _)
instance z_asciiSet:TZ P T.a4 256 256 (.agg (Array.replicate 256 (.bool false))):=⟨by kernel_rfl⟩
theorem Q5W (h: ∀w',Below w.heap.size w w'→K (.tuple #[.agg (Lib.setCells [91,93]), .bool true]) w'):Q1 P F.bQ [S [91,93]] w K:=by
 refine Ur (fn:=Tryz.f88) Tryz.func88 (by kernel_rfl) (by kernel_rfl) (Calls.mono (Tryz.strings_makeASCIISet (fun w=>Yc z_asciiSet w) ⟨[91,93].toArray⟩ w (by decide) (by
  intro j b a
  have:b∈[(91:UInt8),93]:=List.mem_of_getElem? a
  simp at this;rcases this with rfl | rfl<;>decide)) ?_)
 rintro e w' ⟨rfl,rfl⟩
 exact h _ ((Below.refl _ _).alloc (Nat.le_refl _) _)
theorem Q1p {q:Addr} {b:UInt8} (c:X4 w σ) (a:Z2 σ q (Lib.setCells [91,93]).toList) (h:K (.bool (brk b)) w):Q1 P F.ar [.pointer (some q), .int .u8 b.toNat] w K:=Lz (by
 unfold T9
 rw[E8]
 have d:=b.toNat_lt
 rw[Q8r (by omega) (by omega)]
 refine ld c a ?_ h
 have:=Lib.setCells_at [91,93] b
 rw[←Array.getElem?_toList] at this
 simpa [brk] using this)
theorem Q1g {q:Addr} {s:X0} (m:X4 w σ) (k:s.length≤J0) (n:Z2 σ q (Lib.setCells [91,93]).toList) (h:K (S (Ov s)) w):Q1 P F.ae [S s, .pointer (some q)] w K:=Ea (by
 unfold Zd
 refine V9 ?_
 refine Jb (fun x w'=>w'=w∧ ∃u:X0,x=S u∧u.length≤J0∧Ov u=Ov s) (fun x _=>(sOf x).length) ⟨rfl,s,rfl,k,rfl⟩ ?_
 rintro _ d _ ⟨rfl,u,rfl,g,f⟩
 have e:sOf (S u)=u:=by simp[sOf]
 simp only[e]
 refine Q7D X8 ?_
 refine Q7s ?_
 refine Q5 (fun hh=>?_) (fun hh=>?_)
 ·have j:0<u.length:=by simpa using hh
  have o:u.length≤9223372036854775807:=Nat.le_trans g (by decide)
  refine Q7D X8 ?_
  refine Dx ⟨by omega,by omega⟩ ?_
  have i:((u.length:Int)-1).toNat=u.length-1:=by omega
  rw[Qv X8 (by omega) (by omega)]
  simp only[i]
  have b:u.getLast?=some (u[u.length-1]'(by omega)):=by rw[List.getLast?_eq_getElem?,List.getElem?_eq_getElem]
  have a:=Q0j u
  rw[b] at a
  simp only at a
  refine Q1p m n ?_
  cases c:brk (u[u.length-1]'(by omega)) with
  | true=>
   rw[c] at a
   simp only[↓M1,M1,Mb,reduceIte]
   rw[C4 (by omega) (by omega),P8 X8 (by omega) (by omega)]
   simp only[i]
   refine ⟨⟨trivial,_,rfl,by rw[List.length_take];omega,?_⟩,?_⟩
   ·rw[←f,a];simp
   ·have:sOf (S (u.take (u.length-1)))=u.take (u.length-1):=by simp[sOf]
    simp only[this,List.length_take];omega
  | false=>
   rw[c] at a
   simp only[↓M1,M1,Mb,reduceIte]
   intro _
   rw[←f,a] at h
   simpa using h
 ·have j: ¬0<u.length:=by simpa using hh
  have:u=[]:=List.eq_nil_of_length_eq_zero (by omega)
  subst this
  intro _
  rw[←f] at h
  exact h)
theorem Q5G {s:X0} (hs:X4 w σ) (hl:s.length≤J0) (h: ∀w' σ',Stp w σ w' σ'→K (S (Ov s)) w'):Q1 P F.bl [S s,S [91,93]] w K:=Ke (by
 unfold Nd
 by_cases hs0:s=[]
 ·subst hs0
  (repeat' (first | (with_reducible intro _) | (with_reducible refine V9 ?_) | (simp only[↓M2,M2,Mb,reduceIte]) | (with_reducible first | refine ld aS aL aR ?_ | refine X7 aS aL aR ?_ | refine Z1 aS aL aR ?_ | refine Q8 aL ?_ | refine V4 aR ?_ | refine Z0 aS ?_ | refine L1 aS aL ?_ | refine J6 aS aR ?_ | refine Y4 aS aR aR (Rep.one (by assumption)) ?_ | refine U3 aS aR aR aR ?_ | (refine Z3 (fun hh=>?_) (fun hh=>?_)<;>(try simp only[hh,Bool.not_true,Bool.not_false,↓M2,M2,Mb,reduceIte])) | (refine Q5 (fun hh=>?_) (fun hh=>?_)<;>(try simp only[hh,Bool.not_true,Bool.not_false,↓M2,M2,Mb,reduceIte])))))
  all_goals first | exact h _ _ (by (repeat (first | exact Stp.refl (by (first | assumption | exact Stp.sat (by assumption) | exact Hst.sat (by assumption))) | assumption | refine Stp.trans ?_ (by first | assumption | exact Hst.stp (by assumption))))) | (exfalso;simp_all)
 have d1:decide (s=[])=false:=decide_eq_false hs0
 simp only[d1,show decide (([91,93]:X0)=[])=false from rfl,show decide ((([91,93]:X0).length:Int)=1)=false from rfl,↓M1,M1,Mb,reduceIte]
 refine Q5W (W4 hs fun w1 σ1 hk1=>?_)
 simp only[↓M1,M1,Mb,reduceIte]
 have hsz:(Lib.setCells [91,93]).toList.length=256:=by rw[Array.length_toList];exact Lib.setCells_size _
 have hone: ∀u∈(Lib.setCells [91,93]).toList,u.oneCell'=true:=by
  have:=Lib.setCells_one [91,93]
  rw[Array.all_eq_true'] at this
  intro u hu;exact this u (by simpa using hu)
 have htr: ∀{w:World} {σ:Q4} {K:Value→World→Prop} {q:Addr},X4 w σ→Z2 σ q (Lib.setCells [91,93]).toList→K (S (Ov s)) w→Q1 P F.ae [S s, .pointer (some q)] w K:=fun hs hq h=>Q1g hs hl hq h
 have hta:Lib.setCells [91,93]=(Lib.setCells [91,93]).toList.toArray:=Array.toArray_toList.symm
 generalize (Lib.setCells [91,93]).toList=cs at*
 rw[hta]
 refine Y4 hk1.sat (by show (Array.replicate 256 (Value.bool false)).size=256;exact Array.size_replicate) hsz hone fun q w2 σ2 hk2 hq=>?_
 refine htr hk2.sat hq ?_
 exact h _ _ (hk1.trans hk2))
theorem Pl {s:X0} (hs:X4 w σ) (ht:Tab σ v l) (hl:s.length≤J0) (h: ∀w' σ',Stp w σ w' σ'→K (.bool (R9 l s)) w'):Q1 P F.v [v,S s] w K:=Is (by
 unfold Me
 unfold R9 at h
 refine F9 ?_
 refine Q5 (fun hh=>?_) (fun hh=>?_)
 ·have e:decide (s=C7)=true:=hh
  rw[e] at h
  exact h _ _ (Stp.refl hs)
 ·have e:decide (s=C7)=false:=hh
  rw[e] at h
  refine Q5G hs hl fun w1 σ1 hk1=>?_
  refine Jc s (Nat.le_trans hl (by decide)) (W4 hk1.sat fun w2 σ2 hk2=>?_)
  cases hr:right s with
  | false=>
   rw[hr] at h
   (repeat' (first | (with_reducible intro _) | (with_reducible refine V9 ?_) | (simp only[↓M2,M2,Mb,reduceIte]) | (with_reducible first | refine ld aS aL aR ?_ | refine X7 aS aL aR ?_ | refine Z1 aS aL aR ?_ | refine Q8 aL ?_ | refine V4 aR ?_ | refine Z0 aS ?_ | refine L1 aS aL ?_ | refine J6 aS aR ?_ | refine Y4 aS aR aR (Rep.one (by assumption)) ?_ | refine U3 aS aR aR aR ?_ | (refine Z3 (fun hh=>?_) (fun hh=>?_)<;>(try simp only[hh,Bool.not_true,Bool.not_false,↓M2,M2,Mb,reduceIte])) | (refine Q5 (fun hh=>?_) (fun hh=>?_)<;>(try simp only[hh,Bool.not_true,Bool.not_false,↓M2,M2,Mb,reduceIte])))))
   all_goals exact aF
  | true=>
   rw[hr] at h
   have hr2:(plain (base s).1||W3 (base s).1)=true:=by
    simp only[right,Bool.and_eq_true] at hr;exact hr.2
   rw[Q86 hr2]
   (repeat' (first | (with_reducible intro _) | (with_reducible refine V9 ?_) | (simp only[↓M2,M2,Mb,reduceIte]) | (with_reducible first | refine ld aS aL aR ?_ | refine X7 aS aL aR ?_ | refine Z1 aS aL aR ?_ | refine Q8 aL ?_ | refine V4 aR ?_ | refine Z0 aS ?_ | refine L1 aS aL ?_ | refine J6 aS aR ?_ | refine Y4 aS aR aR (Rep.one (by assumption)) ?_ | refine U3 aS aR aR aR ?_ | refine Vh _ ?_ | refine Q72 au au ?_ | (refine Z3 (fun hh=>?_) (fun hh=>?_)<;>(try simp only[hh,Bool.not_true,Bool.not_false,↓M2,M2,Mb,reduceIte])) | (refine Q5 (fun hh=>?_) (fun hh=>?_)<;>(try simp only[hh,Bool.not_true,Bool.not_false,↓M2,M2,Mb,reduceIte])))))
   all_goals exact aF)
end Go.Proofs.YtfppjenblllfaaaGreatDoor

namespace Go.Emb
open Go.RowKit Go.Hm
variable {P : Program} {w w0 w1 w' w'' : World} {K : Value → World → Prop} {σ σ0 σ1 σ' : Q4}
theorem Q36 (m:List (List UInt8×Value)) (k n:List UInt8) (v:Value):L9 (Xg m k v) n=if k=n then some v else L9 m n:=by
 induction m with
 | nil=>simp[Xg,L9]
 | cons p r b=>
  simp only[Xg]
  by_cases h:p.1=k
  ·rw[if_pos h]
   simp only[L9]
   by_cases a:k=n
   ·simp[a]
   ·rw[if_neg a,if_neg a,if_neg (by rw[h];exact a)]
  ·rw[if_neg h]
   simp only[L9]
   by_cases a:p.1=n
   ·rw[if_pos a,if_pos a,if_neg (by intro e;exact h (a.trans e.symm))]
   ·rw[if_neg a,if_neg a];exact b
theorem U5.shift {B sz:Nat} {e:TypeId} {v:Value} {xs:List (List UInt8)} (h:U5 B e sz Y1 σ w v xs) (m: ∀k,v.ownBlock=some k→σ' k=none):U5 B e sz Y1 σ' w v xs:=by
 obtain ⟨a,j,rfl,r,t,c,q⟩:=h
 refine ⟨a,j,rfl,r,t,fun b d=>⟨(c b d).1,(c b d).2.1,(c b d).2.2.1,m _ (by subst d;rfl)⟩,fun p=>?_⟩
 obtain ⟨g,f,i,rfl,o,y,n,s,u⟩:=q p
 exact ⟨g,f,i,rfl,o,m g rfl,n,s,u⟩
theorem Kpt.sat {D:Nat→Prop} (a:X4 w σ) (d:Kpt D w w') (c: ∀k,D k→σ k=none):X4 w' σ:=fun b o e=>by
 rw[d.block b (a.lt e) fun h=>by rw[c b h] at e;cases e];exact a b o e
theorem Nxt.kpt {D a:Nat→Prop} (h:Nxt D w σ w' σ') (b:Kpt a w' w'') (d: ∀k,a k→D k) (c: ∀k,a k→σ' k=none):Nxt D w σ w'' σ':=
 ⟨h.kp.trans (b.mono fun k _ h=>d k h),h.le,h.old,b.sat h.sat c⟩
theorem X1I {t Q:TypeId} {e:TypeId} {by_:Nat} {z:Value} {cs:List Bool} [ts:TS P t e] [tz:TZ P e 1 by_ z] {B:Nat} {y:World} {g σ':Q4} {d u:Value} {xs:List (List UInt8)} {s:List UInt8}
 (A:U5 B e 1 Y1 g y d xs) (hB:B≤y.heap.size) (V:U5 B e 1 Y1 g w1 d xs) (m:Nxt (fun k=>d.ownBlock=some k) y g w1 σ') (M:Sl 1 Y1 σ' u [s]) (R:(z.cells.size==1&&decide (0<1))=true)
 (j:(xs.length+1)*by_≤140737488355328) (N:xs.length+1≤1000000000000):
 X5 P .append [t,t] Q cs [d,u] w1 (dk (Cd B e 1 Y1 g d xs s) (VQa y.heap.size B e 1 Y1 g d xs s) w1):=by
 have n: ∀k,d.ownBlock=some k→σ' k=none:=fun k c=>(m.old k (A.mem c).2.1).trans (A.mem c).2.2
 refine Q1K m.sat (Nat.le_trans hB m.kp.size) (V.shift n) M R (by simpa using j) (by simpa using N) fun O U C L r i=>?_
 have b:U5 B e 1 Y1 g U O (xs++[s]):=r.shift fun k c=>by
  have:=(r.mem c).2.2
  cases hh:g k with
  | none=>rfl
  | some o=>rw[m.le.le _ _ hh] at this;cases this
 refine ⟨⟨C.mono fun k _ h=>h.1,fun h=>?_,fun a f E h=>?_⟩,b,?_⟩
 ·rcases i with ⟨a,f,p,q⟩ | ⟨j,_⟩
  ·rw[q] at b;rw[p];exact b.pre rfl
  ·exact h.below j
 ·rcases i with ⟨X,D,p,q⟩ | ⟨j,_⟩
  ·rw[p] at E;injection E with J q2 H
   subst J H
   rw[q] at b;exact b
  ·exact h.below j
 ·rcases i with ⟨a,f,p,q⟩ | ⟨j,W⟩
  ·exact .inl ⟨a,f,p,q⟩
  ·exact .inr ⟨fun k c=>Nat.le_trans m.kp.size (W k c),fun k c=>(A.mem c).2.1⟩
end Go.Emb
namespace Go.Hm
open Go.Kd
def Wr (l:List Cla) (n:X0):List Cla:=(R5 l n).filterMap (lk l)
theorem Q5O {l:List Cla} (h: ∀c∈l,T7 c) (a:List X0):weigh l a≤l.length*1000001:=by
 unfold weigh
 induction l with
 | nil=>simp
 | cons c r b=>
  have e:=b fun c d=>h c (by simp[d])
  have f:=(h c (by simp)).1
  simp only[List.map_cons,List.sum_cons,List.length_cons,Nat.add_mul]
  have g:(J3 c).length=c.like.length+1:=rfl
  split<;>omega
end Go.Hm
namespace Go.Proofs.YtfppjenblllfaaaGreatDoor
open Go.Emb Go.RowKit Go.Kd Go.Hm
variable {w : World} {K : Value → World → Prop} {σ : Q4} {v : Value} {l : List Cla}
theorem Q6s {β:Type} {n:X0} {f:Value} (H:β→Cla→Bool×β) (s0:β) (N:β→World→Prop) (D:Nat→Prop) (hs:X4 w σ) (ht:Tab σ v l) (hl:l.length≤100000) (bz: ∀c∈l,T7 c) (hn:n.length≤J0)
 (hD: ∀k,D k→k<w.heap.size∧σ k=none) (aj: ∀s w1 w2,N s w1→(∀k,D k→w2.heap[k]? =w1.heap[k]?)→N s w2) (h0:N s0 w)
 (hf: ∀s c cs (w1:World) (σ1:Q4) (K:Value→World→Prop),SLe σ σ1→X4 w1 σ1→(∀k,D k→σ1 k=none)→N s w1→U8 σ1 c cs→lk l c.name=some c→(∀w',Kpt D w1 w'→N (H s c).2 w'→K (.bool (H s c).1) w')→Y9 P f [.agg cs.toArray] w1 K)
 (h: ∀w' σ',Nxt D w σ w' σ'→N (Z8 H s0 (Wr l n) 0).2 w'→K (.bool (Z8 H s0 (Wr l n) 0).1.isSome) w'):Q1 P F.t [v,S n,f] w K:=Fb (by
 unfold Lf
 refine I6 (R:=Y1) (sz:=1) (xs:=[n]) (Stp.refl hs) [S n] rfl rfl (by simp;rfl) rfl ⟨⟨rfl,hn⟩,trivial⟩ fun x0 w1 aq bj _=>?_
 refine Tz aq.sat fun r w2 hr ac b9=>?_
 have cq:=U5.of_acc (bj.up ac)
 have bv:=aq.trans ac
 have bw:w.heap.size≤r:=Nat.le_trans aq.bel.size hr
 have bl: ∀b,weigh l b≤100001000000:=fun b=>by
  have:=Q5O bz b
  have h2:l.length*1000001≤100000*1000001:=Nat.mul_le_mul_right _ hl
  omega
 refine Gk (fun d x w1=> ∃(C b:List X0) (s:β) (σ1:Q4) (m:List (X0×Value)),d=C.length+weigh l b∧d≤1+weigh l []∧Nxt D w σ w1 σ1∧U5 w.heap.size T.b 1 Y1 σ1 w1 x C∧E2 σ1 w1 r m∧(∀k,(L9 m k).isSome=decide (k∈b))∧x.ownBlock≠some r∧N s w1∧
  R5 l n=Jj (lk l) d C b∧(∃i,Z8 H s0 (Wr l n) 0=Z8 H s (((R5 l n).drop b.length).filterMap (lk l)) i)) (1+weigh l []) ?_ ?_
 ·refine ⟨[n],[],s0,σ,[],by simp,Nat.le_refl _,Nxt.of_stp bv,cq,b9,by simp[L9],?_,aj _ _ _ h0 fun k o=>bv.bel.block k (hD k o).1,rfl,0,by simp[Wr]⟩
  intro e
  have:=bj.mem r e
  omega
 rintro a2 d x dd w3 ⟨C,b,s,σ3,m,hd,dg,A,a7,ab,O,co,aw,hv,i,y⟩ bq
 have cv:=bl []
 have ar:=A.sat
 obtain ⟨a0,B⟩:=Q02 (lk l) d C b
 rw[←hv] at B
 have ae:(R5 l n).drop b.length=a0:=by rw[B];simp
 rw[ae] at y
 refine Gh a7 ?_
 refine Q7s ?_
 cases X:C with
 | nil=>
  subst X
  refine Q5 (fun hh=>absurd (of_decide_eq_true hh) (by simp)) (fun _=>?_)
  have:R5 l n=b:=by rw[hv];cases d<;>rfl
  have hp:a0=[]:=by rw[this] at B;simpa using B
  rw[hp] at y
  rw[y] at h
  exact h _ _ A aw
 | cons t g=>
  subst X
  refine Q5 (fun _=>?_) (fun hh=>absurd (of_decide_eq_false hh) (by simp))
  simp only[List.length_cons] at hd
  refine Q4E (n:=0) a7 (by simp) fun a cs Z h2 h3=>?_
  obtain ⟨rfl,cn⟩:=h3
  simp only[List.getElem_cons_zero] at Z cn
  have ad:=Z 0 _ rfl
  rw[add_zero] at ad
  refine Qu ad ?_
  refine X00 a7 1 (by simp) fun x' af bp=>?_
  simp only[List.drop_succ_cons,List.drop_zero] at af
  have J:x'.ownBlock≠some r:=by
   rcases bp with e | e<;>rw[e]
   ·exact co
   ·simp
  rw[Q15 X8 ab.2 t]
  have ch:d=(g.length+weigh l b)+1:=by omega
  have p:=hv
  rw[ch] at p
  simp only[Jj] at p
  have skip:(lk l t=none∨t∈b)→R5 l n=Jj (lk l) (g.length+weigh l b) g b:=by
   rintro (e | e)
   ·rw[e] at p;exact p
   ·cases e2:lk l t with
    | none=>rw[e2] at p;exact p
    | some c=>rw[e2] at p;simp only[if_pos e] at p;exact p
  have ag:(lk l t=none∨t∈b)→a2 x' w3:=fun b3=>
   bq (g.length+weigh l b) x' w3 (by omega) ⟨g,b,s,σ3,m,rfl,by omega,A,af,ab,O,J,aw,skip b3,i,by rw[ae];exact y⟩
  have a6:=ht.lift A.le
  have U:=O t
  cases b0:L9 m t with
  | some u=>
   rw[b0] at U
   have an:t∈b:=by simpa using U
   simp only[↓M2,M2,Mb,reduceIte]
   exact ag (.inr an)
  | none=>
   rw[b0] at U
   have an:t∉b:=by simpa using U
   simp only[↓M2,M2,Mb,reduceIte]
   cases L:lk l t with
   | none=>
    refine Tp ar a6 L ?_
    simp only[↓M2,M2,Mb,reduceIte]
    exact ag (.inl L)
   | some c=>
    obtain ⟨a5,bm,_⟩:=U7 L
    refine Hs ar a6 L ?_
    simp only[↓M2,M2,Mb,reduceIte]
    refine Dh X8 ab t (I 1) fun w4 bi b8=>?_
    have Y:Kpt (fun k=>k=r) w3 w4:=Kpt.of_upd bi rfl
    have cg:X4 w4 σ3:=Y.sat ar fun k o=>by rw[o];exact ab.1
    have bh:=af.kp Y fun k o e=>J (e▸o)
    have b7:=aj _ _ _ aw fun k o=>bi.block k (by have:=(hD k o).1;omega)
    have dn:r<w3.heap.size:=ab.lt
    refine Xy cg a6 L fun lv fv mv w5 σ5 bc f1 f2 f3 f4 f5 bf=>?_
    refine Y4 bc.sat (by rfl) rfl (Rep.one bf) fun q w6 M W az=>?_
    refine Z1 W.sat az rfl ?_
    have z:=bc.trans W
    have b1: ∀k,D k→k<w4.heap.size:=fun k o=>by
     have Z:=(hD k o).1
     have h2:=A.kp.size
     have h3:=Y.size
     omega
    have cm:=aj _ _ _ b7 fun k o=>z.bel.block k (b1 k o)
    have a3:SLe σ M:=A.le.more ⟨z.le⟩
    have bn: ∀k,D k→M k=none:=fun k o=>by
     rw[z.old k (b1 k o),A.old k (hD k o).1];exact (hD k o).2
    refine hf s c _ w6 M _ a3 W.sat bn cm (RCl_lift bf ⟨W.le⟩) (by rw[a5];exact L) fun w7 am bx=>?_
    have bd:X4 w7 M:=am.sat W.sat bn
    have al:Nxt D w σ w7 M:=⟨((A.kp.more Y fun j e=>by rw[e];exact bw).trans (Kpt.of_below z.bel)).trans am,a3,fun k o=>by
     rw[z.old k (by have:=A.kp.size;have:=Y.size;omega)];exact A.old k o,bd⟩
    have ap: ∀k,w.heap.size≤k→ ¬D k:=fun k o e=>by have:=(hD k e).1;omega
    have V:=(bh.up z).kp am fun k o=>ap k ((bh.mem o).1)
    have bb:=(b8.up z).kp am (ap r bw)
    have be: ∀k,(L9 (Xg m t (I 1)) k).isSome=decide (k∈b++[t]):=fun k=>by
     rw[Q36]
     by_cases e:t=k
     ·subst e;simp
     ·rw[if_neg e,O k];simp[Ne.symm e]
    rw[L] at p
    simp only[if_neg an] at p
    obtain ⟨bs,a4⟩:=Q02 (lk l) (g.length+weigh l b) (g++J3 c) (b++[t])
    have bk:a0=t::bs:=by
     have:=B.symm.trans (p.trans a4)
     simpa using this
    rw[bk] at y
    simp only[List.filterMap_cons,L,Z8] at y
    cases E:(H s c).1 with
    | true=>
     rw[E] at y
     simp only[if_true] at y
     refine U1 ?_
     have:=h w7 M al
     rw[y] at this
     exact this bx
    | false=>
     rw[E] at y
     simp only[Bool.false_eq_true,if_false] at y
     refine J9 ?_
     have ao:w.heap.size≤w7.heap.size:=al.kp.size
     have aa: ∀k,x'.ownBlock=some k→M k=none:=fun k o=>(V.mem o).2.2
     have hw:=Gi l b c bm (by rw[a5];exact an)
     rw[a5] at hw
     have c5:=bl b
     have cp:g.length≤100001000001:=by omega
     have ck:=(bz c bm).1
     have cu:=bb.lt
     refine Q0b (Cd w.heap.size T.b 1 Y1 M x' g c.super) (fun w1=>Kpt (fun k=>x'.ownBlock=some k) w7 w1∧X4 w1 M∧U5 w.heap.size T.b 1 Y1 M w1 x' g)
      ⟨.of_below (Below.refl _ _).drew,bd.below (Below.refl _ _).drew,V.below (Below.refl _ _).drew⟩ (fun w1 w2 E ht=>⟨E.1.trans ht.1,ht.1.sat E.2.1 aa,ht.2.1 E.2.2⟩) ?_
     refine X2 (.pointer (some (q.add 1))) (fun w E=>by rw[fa];exact ⟨Cd.refl,rfl⟩) ?_
     refine X2 (.pointer (some (q.add 2))) (fun w E=>by rw[fa];exact ⟨Cd.refl,rfl⟩) ?_
     refine X2 (S c.super) (fun t w E e=>by rw[e];exact ld E.2.1 az rfl ⟨Cd.refl,rfl⟩) ?_
     refine W9 (fun u w1=> ∃σ',Nxt (fun k=>x'.ownBlock=some k) w7 M w1 σ'∧Sl 1 Y1 σ' u [c.super]) (fun u w1 w2 e ht=>by obtain ⟨σ',Z,h2⟩:=e;exact ⟨σ',Z.kpt ht.1 (fun _ o=>o) (fun k o=>(Z.old k (V.mem o).2.1).trans (aa k o)),h2⟩) (fun t w1 E e=>?_) ?_
     ·rw[e]
      refine N5 (R:=Y1) (sz:=1) E.2.1 [S c.super] [c.super] rfl rfl (by simp;rfl) rfl ⟨⟨rfl,f5⟩,trivial⟩ fun u w2 σ2 ac hu=>?_
      have cd:Nxt (fun k=>x'.ownBlock=some k) w7 M w1 M:=⟨E.1,SLe.refl _,fun _ _=>rfl,E.2.1⟩
      exact ⟨Cd.below ac.bel,σ2,cd.trans (Nxt.of_stp ac),hu⟩
     refine W9 (VQa w7.heap.size w.heap.size T.b 1 Y1 M x' g c.super) (fun _ _ _ Z ht=>Z.stable ht) (fun u w1 E e=>?_) ?_
     ·obtain ⟨σ',Z,h2⟩:=e
      exact X1I V ao E.2.2 Z h2 rfl (by omega) (by omega)
     refine X2 lv (fun t w E e=>by rw[e];exact ld E.2.1 az rfl ⟨Cd.refl,rfl⟩) ?_
     rintro c2 c4 da c7 cf c1 w8 Q _ _ _ _ ⟨ce,bo⟩ rfl
     have ax:cf.ownBlock≠some r:=by
      rcases bo with ⟨a,ci,e1,e2⟩ | ⟨e1,_⟩
      ·rw[e2];rw[e1] at J;cases a<;>exact J
      ·intro e;have:=e1 r e;omega
     refine Q1K Q.2.1 (Nat.le_trans ao Q.1.size) ce (f1.up W) rfl (by rw[List.length_append,List.length_cons,List.length_nil];omega) (by rw[List.length_append,List.length_cons,List.length_nil];omega) fun bu w9 a1 b4 cb bg=>?_
     have cc:bu.ownBlock≠some r:=by
      rcases bg with ⟨a,ci,e1,e2⟩ | ⟨_,e1⟩
      ·rw[e2];rw[e1] at ax;cases a<;>exact ax
      ·intro e;have:=e1 r e;have:=Q.1.size;omega
     have ca:Nxt D w σ w9 M:=⟨(al.kp.more Q.1 fun j e=>(V.mem e).1).more a1 fun j e=>e.2.1,a3,al.old,b4⟩
     have cr:=(bb.kp Q.1 J).kp a1 fun e=>ax e.1
     have cl:=aj _ w7 w9 bx fun k o=>by
      have Z:=(hD k o).1
      rw[a1.block k (by have:=Q.1.size;omega) fun e=>by have:=e.2.1;omega,Q.1.block k (by omega) fun e=>by have:=(V.mem e).1;omega]
     have db:(g++J3 c).length=g.length+1+c.like.length:=by simp[J3];omega
     have ct:(J3 c).length=c.like.length+1:=rfl
     have av:Jj (lk l) (g.length+weigh l b) (g++J3 c) (b++[t])=Jj (lk l) ((g++J3 c).length+weigh l (b++[t])) (g++J3 c) (b++[t]):=by
      have:=Q8V l ((g++J3 c).length+weigh l (b++[t])) (g++J3 c) (b++[t]) (Nat.le_refl _) (g.length+weigh l b-((g++J3 c).length+weigh l (b++[t])))
      rw[←this];congr 1;omega
     refine bq ((g++J3 c).length+weigh l (b++[t])) bu w9 (by omega) ⟨g++J3 c,b++[t],(H s c).2,M,_,rfl,by omega,ca,?_,cr,be,cc,cl,p.trans av,i+1,?_⟩
     ·have:g++J3 c=(g++[c.super])++c.like:=by simp[J3]
      rw[this];exact cb
     ·rw[y,B,bk];simp)
end Go.Proofs.YtfppjenblllfaaaGreatDoor

namespace Go.Emb
open Go.RowKit Go.Hm
theorem Nxt.stp {w w':World} {σ a:Q4} (h:Nxt (fun _=>False) w σ w' a):Stp w σ w' a:=⟨h.kp.below fun _=>id,h.sat,h.le.le,h.old⟩
end Go.Emb
namespace Go.Hm
open Go.Kd Go.Emb
theorem Q3l {α:Type} (p:α→Bool): ∀(xs:List α) (i:Nat),(Z8 (fun (_:Unit) x=>(p x,())) () xs i).1.isSome=xs.any p
 | [],_=>rfl
 | x::r,i=>by
  simp only[Z8,List.any_cons]
  cases p x with
  | true=>simp
  | false=>simpa using Q3l p r (i+1)
theorem Q44 {l:List Cla} (n b:X0):((Wr l n).any fun c=>decide (c.name=b))=(R5 l n).contains b:=by
 have key: ∀vs:List X0,(∀x∈vs,∃c,lk l x=some c)→((vs.filterMap (lk l)).any fun c=>decide (c.name=b))=vs.contains b:=by
  intro vs
  induction vs with
  | nil=>intro _;rfl
  | cons x r d=>
   intro h
   obtain ⟨c,a⟩:=h x (by simp)
   rw[List.filterMap_cons,a]
   simp only[List.any_cons,List.contains_cons]
   rw[d fun y e=>h y (by simp[e]),(U7 a).1]
   congr 1
   rw[Bool.eq_iff_iff,beq_iff_eq,decide_eq_true_eq];exact ⟨Eq.symm,Eq.symm⟩
 exact key _ fun x f=>(Zz.1 f).right
end Go.Hm
namespace Go.Proofs.YtfppjenblllfaaaGreatDoor
open Go.Emb Go.RowKit Go.Kd Go.Hm
variable {w : World} {K : Value → World → Prop} {σ : Q4} {v : Value} {l : List Cla}
theorem Q6j {n:X0} {f:Value} (p:Cla→Bool) (hs:X4 w σ) (ht:Tab σ v l) (hl:l.length≤100000) (hsm: ∀c∈l,T7 c) (hn:n.length≤J0)
 (hf: ∀c cs (w1:World) (σ1:Q4) (K:Value→World→Prop),SLe σ σ1→X4 w1 σ1→U8 σ1 c cs→(∀w' σ',Stp w1 σ1 w' σ'→K (.bool (p c)) w')→Y9 P f [.agg cs.toArray] w1 K)
 (h: ∀w' σ',Stp w σ w' σ'→K (.bool ((Wr l n).any p)) w'):Q1 P F.t [v,S n,f] w K:=by
 refine Q6s (fun (_:Unit) c=>(p c,())) () (fun _ _=>True) (fun _=>False) hs ht hl hsm hn (fun _ e=>e.elim) (fun _ _ _ _ _=>trivial) trivial (fun s c cs w1 σ1 K le hs1 _ _ hr _ hK=>hf c cs w1 σ1 K le hs1 hr fun w' σ' hk=>hK w' (.of_below hk.bel) trivial) fun w' σ' hn _=>?_
 rw[Q3l]
 exact h w' σ' hn.stp
theorem Q9C {n b:X0} {q:Addr} (hs:X4 w σ) (ht:Tab σ v l) (ok:Ok l) (hn:n.length≤J0) (hq:Z2 σ q [S b]) (h: ∀w' σ',Stp w σ w' σ'→K (.bool ((R5 l n).contains b)) w'):
 Q1 P F.t [v,S n, .func (.func F.bd) #[] #[.pointer (some q)]] w K:=by
 refine Q6j (fun c=>decide (c.name=b)) hs ht ok.len ok.sm hn (fun c cs w1 σ1 K le hs1 hr hK=>Y7 (Gq ?_)) (by rw[Q44];exact h)
 obtain ⟨lv,fv,mv,rfl,_⟩:=hr
 unfold Wz
 have hq1:=hq.lift le
 refine Z0 hs1 fun a w2 σ2 hk2 ha2=>?_
 (repeat' (first | (with_reducible intro _) | (with_reducible refine V9 ?_) | (simp only[↓M2,M2,Mb,reduceIte]) | (with_reducible first | refine ld aS aL aR ?_ | refine X7 aS aL aR ?_ | refine Z1 aS aL aR ?_ | refine Q8 aL ?_ | refine V4 aR ?_ | refine Z0 aS ?_ | refine L1 aS aL ?_ | refine J6 aS aR ?_ | refine Y4 aS aR aR (Rep.one (by assumption)) ?_ | refine U3 aS aR aR aR ?_ | (refine Z3 (fun hh=>?_) (fun hh=>?_)<;>(try simp only[hh,Bool.not_true,Bool.not_false,↓M2,M2,Mb,reduceIte])) | (refine Q5 (fun hh=>?_) (fun hh=>?_)<;>(try simp only[hh,Bool.not_true,Bool.not_false,↓M2,M2,Mb,reduceIte])))))
 exact hK _ _ hk2
theorem Q3M {a b:X0} (H:X4 w σ) (r:Tab σ v l) (ok:Ok l) (t:a.length≤J0) (D:b.length≤J0) (h: ∀w' E,Stp w σ w' E→K (.bool (H8 l a b)) w'):Q1 P F.a9 [v,S a,S b] w K:=Ab (by
 unfold Ou
 unfold H8 at h
 refine J6 H rfl fun q w1 σ1 j B=>?_
 refine Pl j.sat (r.lift ⟨j.le⟩) t fun Q M d=>?_
 have k:=j.trans d
 cases A:R9 l a with
 | false=>
  simp only[A,↓M2,M2,Mb,reduceIte,Bool.not_false,Bool.true_or,if_true] at h⊢
  exact h _ _ k
 | true=>
  simp only[A,↓M2,M2,Mb,reduceIte,Bool.not_true,Bool.false_or] at h⊢
  refine X7 d.sat (B.up d) rfl ?_
  refine Pl d.sat (r.lift ⟨k.le⟩) D fun U O e=>?_
  have c:=k.trans e
  cases C:R9 l b with
  | false=>
   simp only[C,↓M2,M2,Mb,reduceIte,Bool.not_false,if_true] at h⊢
   exact h _ _ c
  | true=>
   simp only[C,↓M2,M2,Mb,reduceIte,Bool.not_true,Bool.false_eq_true,if_false] at h⊢
   have m:=(B.up d).up e
   refine X7 e.sat m rfl ?_
   refine F9 ?_
   by_cases g:a=b
   ·rw[if_pos g] at h
    simp only[decide_eq_true g,↓M2,M2,Mb,reduceIte]
    exact h _ _ c
   rw[if_neg g] at h
   simp only[decide_eq_false g,↓M2,M2,Mb,reduceIte]
   refine Vh a ?_
   cases z:plain a with
   | true=>
    simp only[z,↓M2,M2,Mb,reduceIte,Bool.true_or,if_true] at h⊢
    exact h _ _ c
   | false=>
    simp only[z,↓M2,M2,Mb,reduceIte,Bool.false_or] at h⊢
    refine X7 e.sat m rfl ?_
    refine Vh b ?_
    cases y:plain b with
    | true=>
     simp only[y,↓M2,M2,Mb,reduceIte,if_true] at h⊢
     exact h _ _ c
    | false=>
     simp only[y,↓M2,M2,Mb,reduceIte,Bool.false_eq_true,if_false] at h⊢
     by_cases o:a=C7
     ·rw[if_pos o] at h
      have u:decide (a=[110,117,108,108])=true:=decide_eq_true o
      simp only[u,↓M2,M2,Mb,reduceIte]
      exact h _ _ c
     rw[if_neg o] at h
     have u:decide (a=[110,117,108,108])=false:=decide_eq_false o
     simp only[u,↓M2,M2,Mb,reduceIte]
     refine X1G a (Nat.le_trans t (by decide)) (W4 e.sat fun N J f=>?_)
     have i:=c.trans f
     have n:=m.up f
     refine Lu ?_
     by_cases p:elem a=[]
     ·rw[if_neg (by simpa using p)] at h
      simp only[decide_eq_true p,↓M2,M2,Mb,reduceIte]
      exact Q9C f.sat (r.lift ⟨i.le⟩) ok t n fun L R s=>h _ _ (i.trans s)
     ·rw[if_pos p] at h
      simp only[decide_eq_false p,↓M2,M2,Mb,reduceIte]
      refine X7 f.sat n rfl ?_
      refine F9 ?_
      exact h _ _ i)
theorem Q7L {a b:X0} (X:X4 w σ) (q:Tab σ v l) (ok:Ok l) (z:a.length≤J0) (y:b.length≤J0) (h: ∀w' D,Stp w σ w' D→K (S (F6 l a b)) w'):Q1 P F.aD [v,S a,S b] w K:=Kz (by
 unfold Mc
 unfold F6 at h
 refine Q3M X q ok z y fun w1 σ1 i=>?_
 cases R:H8 l a b with
 | true=>
  simp only[R,↓M2,M2,Mb,reduceIte,if_true] at h⊢
  exact h _ _ i
 | false=>
  simp only[R,↓M2,M2,Mb,reduceIte,Bool.false_eq_true,if_false] at h⊢
  refine Q3M i.sat (q.lift ⟨i.le⟩) ok y z fun w2 σ2 r=>?_
  have n:=i.trans r
  cases U:H8 l b a with
  | true=>
   simp only[U,↓M2,M2,Mb,reduceIte,if_true] at h⊢
   exact h _ _ n
  | false=>
   simp only[U,↓M2,M2,Mb,reduceIte,Bool.false_eq_true,if_false] at h⊢
   refine Pl r.sat (q.lift ⟨n.le⟩) z fun w3 σ3 t=>?_
   have o:=n.trans t
   cases Q:R9 l a with
   | false=>
    simp only[Q,↓M2,M2,Mb,reduceIte,Bool.not_false,Bool.true_or,if_true] at h⊢
    exact h _ _ o
   | true=>
    simp only[Q,↓M2,M2,Mb,reduceIte,Bool.not_true,Bool.false_or] at h⊢
    refine Pl t.sat (q.lift ⟨o.le⟩) y fun w4 V A=>?_
    have g:=o.trans A
    cases O:R9 l b with
    | false=>
     simp only[O,↓M2,M2,Mb,reduceIte,Bool.not_false,Bool.true_or,if_true] at h⊢
     exact h _ _ g
    | true=>
     simp only[O,↓M2,M2,Mb,reduceIte,Bool.not_true,Bool.false_or] at h⊢
     refine Vh a ?_
     cases N:plain a with
     | true=>
      simp only[N,↓M2,M2,Mb,reduceIte,Bool.true_or,if_true] at h⊢
      exact h _ _ g
     | false=>
      simp only[N,↓M2,M2,Mb,reduceIte,Bool.false_or] at h⊢
      refine Vh b ?_
      cases L:plain b with
      | true=>
       simp only[L,↓M2,M2,Mb,reduceIte,if_true] at h⊢
       exact h _ _ g
      | false=>
       simp only[L,↓M2,M2,Mb,reduceIte,Bool.false_eq_true,if_false] at h⊢
       refine Gk (fun d x w'=> ∃(s:X0) (D:Q4),x=S s∧s.length≤J0∧Stp w σ w' D∧d=(chain l s).length∧(chain l a).find? (fun c=>H8 l b c.name)=(chain l s).find? fun c=>H8 l b c.name) _ ⟨a,V,rfl,z,g,rfl,rfl⟩ ?_
       rintro B d x dd w5 ⟨s,σ5,rfl,E,f,rfl,e⟩ J
       have m:=q.lift ⟨f.le⟩
       cases p:lk l s with
       | none=>
        refine Tp f.sat m p ?_
        refine J9 ?_
        rw[P6 p] at e
        rw[e] at h
        exact h _ _ f
       | some c=>
        have u:=(U7 p).1
        have j:=G2 ok.acy s
        rw[p] at j
        simp only at j
        rw[j,List.find?_cons,u] at e
        refine Hs f.sat m p ?_
        refine U1 ?_
        refine Q3M f.sat m ok y E fun w6 σ6 H=>?_
        have k:=f.trans H
        cases M:H8 l b s with
        | true=>
         rw[M] at e
         simp only at e
         refine U1 ?_
         rw[e] at h
         have:=h _ _ k
         simp only[u] at this
         exact this
        | false=>
         rw[M] at e
         simp only at e
         refine J9 ?_
         refine Xy k.sat (q.lift ⟨k.le⟩) p fun lv fv mv w7 Y C f1 f2 Z f4 W hr=>?_
         refine V4 (v:=S c.super) rfl ?_
         exact J _ _ _ (by rw[j];simp) ⟨c.super,Y,rfl,W,k.trans C,rfl,e⟩)
theorem X0p {c:Cla} {cs:List Value} (hs:X4 w σ) (ht:Tab σ v l) (hl:l.length≤100000) (hsm: ∀c∈l,T7 c) (hc:U8 σ c cs) (h: ∀w' σ',Stp w σ w' σ'→K (.bool (I7 l c)) w'):Q1 P F.b4 [v, .agg cs.toArray] w K:=Gy (by
 obtain ⟨lv,fv,mv,rfl,g1,g2,g3,g4,g5⟩:=hc
 unfold Wq
 obtain ⟨a,_,_,_,rfl,_⟩:=ht.ex
 refine J6 hs rfl fun q w1 σ1 hk1 hq=>?_
 refine Z0 hk1.sat fun q2 w2 σ2 hk2 hq2=>?_
 rw[Qs,fa]
 have hS2:=hk1.trans hk2
 have back: ∀{n:X0} {w3:World} {σ3:Q4} {K:Value→World→Prop},SLe σ2 σ3→X4 w3 σ3→n.length≤J0→(∀w' σ',Stp w3 σ3 w' σ'→K (.bool ((R5 l n).contains c.name)) w')→
  Y9 P (.func (.func F.aS) #[] #[.pointer (some q), .pointer (some q2)]) [S n] w3 K:=by
  intro n w3 σ3 K le hs3 hn hK
  refine Y7 (Sm ?_)
  unfold Ud
  refine X7 hs3 ((hq.up hk2).lift le) rfl ?_
  rw[Qs]
  have le3:SLe σ σ3:=SLe.more ⟨hS2.le⟩ le
  refine Q6j (fun d=>decide (d.name=c.name)) hs3 (ht.lift le3) hl hsm hn (fun d ds w4 σ4 K le4 hs4 hr hK=>Y7 (Hj ?_)) (by rw[Q44];exact hK)
  obtain ⟨lv,fv,mv,rfl,_⟩:=hr
  unfold Yu
  have hq4:=(hq2.lift le).lift le4
  refine Z0 hs4 fun a w5 σ5 hk5 ha5=>?_
  (repeat' (first | (with_reducible intro _) | (with_reducible refine V9 ?_) | (simp only[↓M2,M2,Mb,reduceIte]) | (with_reducible first | refine ld aS aL aR ?_ | refine X7 aS aL aR ?_ | refine Z1 aS aL aR ?_ | refine Q8 aL ?_ | refine V4 aR ?_ | refine Z0 aS ?_ | refine L1 aS aL ?_ | refine J6 aS aR ?_ | refine Y4 aS aR aR (Rep.one (by assumption)) ?_ | refine U3 aS aR aR aR ?_ | (refine Z3 (fun hh=>?_) (fun hh=>?_)<;>(try simp only[hh,Bool.not_true,Bool.not_false,↓M2,M2,Mb,reduceIte])) | (refine Q5 (fun hh=>?_) (fun hh=>?_)<;>(try simp only[hh,Bool.not_true,Bool.not_false,↓M2,M2,Mb,reduceIte])))))
  exact hK _ _ hk5
 refine ld hk2.sat hq2 rfl ?_
 unfold I7 at h
 simp only[J3,List.any_cons] at h
 refine back (SLe.refl _) hk2.sat g5 fun w3 σ3 hk3=>?_
 cases e1:(R5 l c.super).contains c.name with
 | true=>
  rw[e1] at h
  simp only[↓M2,M2,Mb,reduceIte]
  exact h _ _ (hS2.trans hk3)
 | false=>
  rw[e1,Bool.false_or] at h
  simp only[↓M2,M2,Mb,reduceIte]
  refine ld hk3.sat (hq2.up hk3) rfl ?_
  refine G0 (fun n=>(R5 l n).contains c.name) hk3.sat (((g1.up hk1).up hk2).up hk3) (fun x w4 K _ hs4 hx hK=>back ⟨hk3.le⟩ hs4 hx fun w' σ' hk=>hK _ hk.bel) fun w4 hb=>?_
  (try simp only[↓M2,M2,Mb,reduceIte])
  exact h _ _ ((hS2.trans hk3).trans (Stp.of_below hk3.sat hb)))
end Go.Proofs.YtfppjenblllfaaaGreatDoor

namespace Go.Emb
open Go.RowKit Go.Hm
variable {P : Program} {w w0 w1 w' w'' : World} {K : Value → World → Prop} {σ σ0 σ1 σ' : Q4}
theorem Sl.at {α:Type} {R:Q4→α→List Value→Prop} {sz:Nat} {v:Value} {xs:List α} (h:Sl sz R σ v xs) {i:Nat} (n:i<xs.length):
 ∃p cs,Z2 σ p cs∧cs.length=sz∧R σ xs[i] cs∧ ∀{P:Program} {t e:TypeId} {by_:Nat} {z:Value} {w:World} {K:Value→World→Prop} [TS P t e] [TZ P e sz by_ z],K (.pointer (some p)) w→indexAddr P t v (I i) w K:=by
 obtain ⟨a,m,rfl,q,o,c,g⟩:=h
 cases a with
 | none=>have:=c rfl;omega
 | some b=>
  obtain ⟨cs,f,d,k⟩:=(g b rfl).2 i xs[i] (by simp[n])
  refine ⟨_,cs,f,d,k,?_⟩
  intro P t e by_ z w K _ _ j
  rw[Cm (by omega) (by omega)]
  simpa using j
abbrev ints (xs:List Nat):List Int:=xs.map fun n:Nat=>(n:Int)
theorem V8.grow {α:Type} {R:Q4→α→List Value→Prop} [hr:Rep R] {B sz:Nat} {e:TypeId} {v:Value} {xs:List α} (h:V8 B e sz R σ w v xs) (b:SLe σ σ') (f: ∀k,v.ownBlock=some k→σ' k=none):V8 B e sz R σ' w v xs:=by
 obtain ⟨cells,c,g,d⟩:=h
 exact ⟨cells,c,f,fun i x a=>hr.up b.le (d i x a)⟩
end Go.Emb
namespace Go.Proofs.YtfppjenblllfaaaGreatDoor
open Go.Emb Go.RowKit Go.Kd Go.Hm
variable {w : World} {K : Value → World → Prop} {σ : Q4} {v : Value} {l : List Cla}
theorem Q5s {B i:Nat} {xs:List Nat} {x:Value} (m:U5 B T.e 1 B5 σ w x (ints xs)) (h:K (.bool (decide (i∈xs))) w):Q1 P F.ax [x,I i] w K:=Oa (by
 unfold Qx
 have f:xs.length≤9223372036854775807:=by
  obtain ⟨a,s,_,o,q,_⟩:=m
  simp only[maxLen,ints,List.length_map] at q o;omega
 refine Hu ?_
 unfold Zn
 refine Gh m ?_
 have j:(ints xs).length=xs.length:=by simp
 refine J4 xs.length (fun n w'=>w'=w∧i∉xs.take n) ⟨rfl,by simp⟩ fun n w' d u k=>?_
 obtain ⟨rfl,k⟩:=k
 rw[j]
 refine Y8 ?_
 refine Q5 (fun hh=>?_) (fun hh=>?_)
 ·have b:n<xs.length:=by simpa using hh
  refine Q4E m (by rw[j];exact b) fun a cs o q r=>?_
  obtain ⟨rfl,_⟩:=r
  have p:=o 0 _ rfl
  rw[add_zero] at p
  refine Qu p ?_
  simp only[List.getElem_map]
  refine Sc ?_
  refine Q5 (fun c=>?_) (fun c=>?_)
  ·have e:(i:Int)=xs[n]:=by simpa using c
   have:i=xs[n]:=by omega
   have g:decide (i∈xs)=true:=decide_eq_true (by rw[this];exact List.getElem_mem b)
   rw[g] at h
   refine F0 ?_
   rw[decide_eq_true (by omega:(0:Int)≤n)]
   exact h
  ·have e: ¬(i:Int)=xs[n]:=by simpa using c
   refine O3 ?_
   refine Y3 f b ⟨rfl,?_⟩
   rw[List.take_add_one,List.getElem?_eq_getElem b]
   simp only[Option.toList_some,List.mem_append,List.mem_singleton,not_or]
   exact ⟨k,fun t=>e (by rw[t])⟩
 ·have b: ¬n<xs.length:=by simpa using hh
  rw[List.take_of_length_le (by omega)] at k
  rw[decide_eq_false k] at h
  refine F0 ?_
  exact h)
theorem X1Y {w0:World} {σ0 σb:Q4} {pf pt pw:Addr} {B frm:Nat} (ha:Yp l) (ho:I0 l) (hl:l.length≤100000) (cb: ∀c∈l,T7 c) (hf:0<frm) (ht:Tab σb v l) (bc:Z2 σb pf [I frm]) (b0:Z2 σb pt [v])
 (bg:Z2 σb pw [.func (.func F.u) #[] #[.pointer (some pf), .pointer (some ⟨B,0,none⟩), .pointer (some pt), .pointer (some pw)]]) (bs:w0.heap.size≤B):
 ∀(k:Nat) {i:Nat} {out:List Nat} {x:Value} {w1:World} {σ1:Q4} {K:Value→World→Prop},i<l.length→(i<frm∨G1 l (Y0 l i)<k)→SLe σb σ1→Stp w0 σ0 w1 σ1→Z5 σ1 w1 B [x]→V8 w0.heap.size T.e 1 B5 σ1 w1 x (ints out)→x.ownBlock≠some B→Am l out→
  (∀w2 σ2 x',SLe σ1 σ2→Stp w0 σ0 w2 σ2→Z5 σ2 w2 B [x']→V8 w0.heap.size T.e 1 B5 σ2 w2 x' (ints (Qp l frm out i))→x'.ownBlock≠some B→K (.tuple #[]) w2)→
  Y9 P (.func (.func F.u) #[] #[.pointer (some pf), .pointer (some ⟨B,0,none⟩), .pointer (some pt), .pointer (some pw)]) [I i] w1 K:=by
 obtain ⟨a,lv,r,m,rfl,t1,t2,t3,t4⟩:=ht.ex
 intro k
 induction k with
 | zero=>
  intro i out x w1 σ1 K hi hk O V hm f hx Y h
  have z:i<frm:=hk.resolve_right (by omega)
  refine Y7 (Um ?_)
  unfold T5
  refine X7 V.sat (bc.lift O) rfl ?_
  refine Y8 ?_
  rw[decide_eq_true (by omega:(i:Int)<frm)]
  simp only[↓M2,M2,Mb,reduceIte]
  have:Qp l frm out i=out:=Xi _ _ z
  rw[this] at h
  exact h _ _ _ (SLe.refl _) V hm f hx
 | succ k ih=>
  intro i out x w1 σ1 K hi hk O V hm f hx Y h
  refine Y7 (Um ?_)
  unfold T5
  refine X7 V.sat (bc.lift O) rfl ?_
  refine Y8 ?_
  have y:=Q6b ha ho hf out hi
  by_cases z:i<frm
  ·rw[decide_eq_true (by omega:(i:Int)<frm)]
   simp only[↓M2,M2,Mb,reduceIte]
   rw[if_pos z] at y
   rw[y] at h
   exact h _ _ _ (SLe.refl _) V hm f hx
  rw[if_neg z] at y
  rw[decide_eq_false (by omega: ¬(i:Int)<frm)]
  simp only[↓M2,M2,Mb,reduceIte]
  refine Q8P hm rfl ?_
  refine Q5s (U5.of_acc f) ?_
  by_cases W:i∈out
  ·rw[if_pos W] at y
   rw[y] at h
   simp only[decide_eq_true W,↓M2,M2,Mb,reduceIte]
   exact h _ _ _ (SLe.refl _) V hm f hx
  rw[if_neg W] at y
  simp only[decide_eq_false W,↓M2,M2,Mb,reduceIte]
  have c9:G1 l (Y0 l i)<k+1:=hk.resolve_left z
  have t1:=t1.lift O
  have t2:=t2.lift O
  have t3:=t3.lift O
  have H:=b0.lift O
  obtain ⟨p,cs,av,dd,bn,a8⟩:=t2.at hi
  obtain ⟨bh,fv,mv,rfl,f1,f2,f3,f4,f5⟩:=bn
  have a5:l.getD i Cla.zero=l[i]:=by rw[List.getD_eq_getElem?_getD,List.getElem?_eq_getElem hi];rfl
  have cz:=hm.lt
  refine V3 V.sat ?_
  refine X2 (.pointer (some a)) (fun w b=>X7 b.sat H rfl (X6 rfl)) ?_
  refine X2 (.pointer (some a)) (fun t w b e=>by rw[e,E8];exact X6 rfl) ?_
  refine X2 (.pointer (some (a.add 0))) (fun t w b e=>by rw[e,fa];exact X6 rfl) ?_
  refine X2 lv (fun t w b e=>by rw[e];exact ld b.sat t1 rfl (X6 rfl)) ?_
  refine X2 (.pointer (some p)) (fun t w b e=>by rw[e];exact a8 (X6 rfl)) ?_
  refine X2 (.pointer (some (p.add 1))) (fun t w b e=>by rw[e,fa];exact X6 rfl) ?_
  refine X2 (S l[i].super) (fun t w b e=>by rw[e];exact ld b.sat av rfl (X6 rfl)) ?_
  refine W9 (fun u w=>X4 w σ1∧V8 w0.heap.size T.b 1 Y1 σ1 w u [l[i].super]∧ ∀k,u.ownBlock=some k→w1.heap.size≤k) (fun u w2 w3 h b=>⟨h.1.below b,h.2.1.up (Stp.of_below h.1 b),h.2.2⟩) (fun t w b e=>?_) ?_
  ·rw[e]
   refine I6 (R:=Y1) (sz:=1) (xs:=[l[i].super]) (V.trans b.stp) [S l[i].super] rfl rfl (by simp;rfl) rfl ⟨⟨rfl,f5⟩,trivial⟩ fun u w2 a1 hu bk=>?_
   exact ⟨a1.bel,a1.sat,hu,fun k hk=>Nat.le_trans b.stp.bel.size (bk k hk)⟩
  refine X2 (.pointer (some a)) (fun w b=>X7 b.sat H rfl (X6 rfl)) ?_
  refine X2 (.pointer (some a)) (fun t w b e=>by rw[e,E8];exact X6 rfl) ?_
  refine X2 (.pointer (some (a.add 0))) (fun t w b e=>by rw[e,fa];exact X6 rfl) ?_
  refine X2 lv (fun t w b e=>by rw[e];exact ld b.sat t1 rfl (X6 rfl)) ?_
  refine X2 (.pointer (some p)) (fun t w b e=>by rw[e];exact a8 (X6 rfl)) ?_
  refine X2 (.pointer (some (p.add 2))) (fun t w b e=>by rw[e,fa];exact X6 rfl) ?_
  refine X2 bh (fun t w b e=>by rw[e];exact ld b.sat av rfl (X6 rfl)) ?_
  rintro cu ch cm c6 c3 da co dm df di dh c7 cl db dj w2 Q _ _ _ _ _ _ _ ⟨c1,ca,J⟩ _ _ _ _ _ _ bw
  subst bw
  have b7:=V.trans Q.stp
  have b1:=(cb _ (List.getElem_mem hi)).1
  have a4: ∀j,x.ownBlock=some j→j<w1.heap.size:=fun j C=>(f.mem j C).2.1
  have bm:=hm.step Q.stp
  have al:=f.step Q.stp
  refine Dl b7 ca f1 rfl (by simp only[List.length_cons,List.length_nil];omega) (by simp only[List.length_cons,List.length_nil];omega) fun ax w3 ap b5 bf a0=>?_
  have Z: ∀j,ax.ownBlock=some j→w1.heap.size≤j:=fun j C=>by
   rcases a0 with e | e
   ·exact J j (e▸C)
   ·exact Nat.le_trans Q.stp.bel.size (e j C)
  have ay:=bm.nx ap fun e=>by have:=J _ e;omega
  have M:=al.nx ap fun j C e=>by have:=J _ e;have:=a4 j C;omega
  obtain ⟨σ4,bq,N,a2,aa⟩:=bf.keep b5
  have N:Sl 1 Y1 σ4 ax (J3 l[i]):=N
  have bl:Z5 σ4 w3 B [x]:=⟨(aa B fun e=>by have:=Z B e.symm;omega).trans ay.1,ay.2⟩
  have aj:V8 w0.heap.size T.e 1 B5 σ4 w3 x (ints out):=M.grow ⟨a2⟩ fun j C=>(aa j fun e=>by have:=Z j e.symm;have:=a4 j C;omega).trans (M.mem j C).2.2
  have a9:SLe σ1 σ4:=⟨a2⟩
  refine Q8 N ?_
  refine J4 (J3 l[i]).length (fun n w'=> ∃σ' x',SLe σ4 σ'∧Stp w0 σ0 w' σ'∧Z5 σ' w' B [x']∧V8 w0.heap.size T.e 1 B5 σ' w' x' (ints (((J3 l[i]).take n).foldl (fun out u=>Qp l frm out ((Y5 l u).getD 0)) out))∧x'.ownBlock≠some B∧Am l (((J3 l[i]).take n).foldl (fun out u=>Qp l frm out ((Y5 l u).getD 0)) out))
   ⟨σ4,x,SLe.refl _,bq,bl,aj,hx,Y⟩ fun n w5 d hn a3=>?_
  obtain ⟨σ5,x5,ab,X,U,A,ai,o⟩:=a3
  refine Y8 ?_
  have s:=a9.more ab
  refine Q5 (fun hh=>?_) (fun hh=>?_)
  ·have E:n<(J3 l[i]).length:=by simpa using hh
   refine Of (N.lift ab) E fun q hq c2=>?_
   refine X7 X.sat hq rfl ?_
   have e1:((J3 l[i]).take (n+1)).foldl (fun out u=>Qp l frm out ((Y5 l u).getD 0)) out=Qp l frm (((J3 l[i]).take n).foldl (fun out u=>Qp l frm out ((Y5 l u).getD 0)) out) ((Y5 l (J3 l[i])[n]).getD 0):=by
    rw[List.take_add_one,List.getElem?_eq_getElem E,List.foldl_append];rfl
   refine V3 X.sat ?_
   refine X2 _ (fun w b=>X7 b.sat (bg.lift (O.more s)) rfl (X6 rfl)) ?_
   refine X2 (.pointer (some a)) (fun w b=>X7 b.sat (H.lift s) rfl (X6 rfl)) ?_
   refine X2 (.pointer (some a)) (fun t w b e=>by rw[e,E8];exact X6 rfl) ?_
   refine X2 (.pointer (some (a.add 1))) (fun t w b e=>by rw[e,fa];exact X6 rfl) ?_
   refine X2 (.map (some r)) (fun t w b e=>by rw[e];exact ld b.sat (t1.lift s) rfl (X6 rfl)) ?_
   refine X2 (I ((Y5 l (J3 l[i])[n]).getD 0:Nat)) (fun t w b e=>by
    rw[e,Q34 X8 ((t3.lift s).is b.sat) _,t4]
    cases Y5 l (J3 l[i])[n]<;>exact X6 rfl) ?_
   rintro dc c0 cv ct ci dg w6 ah rfl _ _ _ _ rfl
   have cr:l.length≤9223372036854775807:=by omega
   refine ih ?_ ?_ (O.more s) (X.trans ah.stp) (U.step ah.stp) (A.step ah.stp) ai o fun w7 σ7 x7 b8 bp bi ac bj=>?_
   ·cases C:Y5 l (J3 l[i])[n] with
    | none=>simp only[Option.getD_none];omega
    | some j=>exact (C2 C).1
   ·cases C:Y5 l (J3 l[i])[n] with
    | none=>exact .inl hf
    | some j=>
     right
     have:=Q0g ha ho hi (u:=(J3 l[i])[n]) (by rw[a5];exact List.getElem_mem E) C
     simp only[Option.getD_some];omega
   ·refine O3 ?_
    refine Y3 (by have:(J3 l[i]).length=l[i].like.length+1:=rfl;omega) E ⟨σ7,x7,ab.more b8,bp,bi,?_,bj,?_⟩
    ·rw[e1];exact ac
    ·rw[e1]
     cases C:Y5 l (J3 l[i])[n] with
     | none=>simp only[Option.getD_none];rw[show Qp l frm _ 0=_ from Xi _ _ hf];exact o
     | some j=>exact Gu ha ho hf _ _ _ (C2 C).1 o
  ·have E: ¬n<(J3 l[i]).length:=by simpa using hh
   rw[List.take_of_length_le (by omega)] at A o
   rw[a5] at y
   refine Q8P U rfl ?_
   have cn:=o.len
   refine Un (x:=(i:Int)) X A ⟨rfl,by omega,by omega⟩ rfl rfl rfl (by rw[List.length_map];omega) (by rw[List.length_map];omega) fun u x8 w8 σ8 ba b2 L a6=>?_
   have az:=U.nx ba ai
   have bb:x8.ownBlock≠some B:=fun e=>by
    rcases a6 with e2 | e2
    ·exact ai (e2▸e)
    ·have:=e2 B e;have:=U.lt;omega
   have ar:x8.cells= #[x8]∧x8.oneCell'=true:=by
    obtain ⟨cells,h1,_⟩:=L
    rcases h1.2 with ⟨rfl,_⟩ | ⟨g,cw,c4,rfl,_⟩<;>exact ⟨rfl,rfl⟩
   refine st0 az (by simp) ar.1 ar.2 fun w9 aq cc=>?_
   have br:=aq.stp b2 bs az.1
   have ak:V8 w0.heap.size T.e 1 B5 σ8 w9 x8 (ints (Qp l frm out i)):=by
    rw[y]
    have:=L.kp (Kpt.of_upd (D:=fun k=>k=B) aq rfl) fun k hk e=>bb (e▸hk)
    simpa [ints] using this
   exact h w9 σ8 x8 (s.more ba.le) br cc ak bb
theorem X0I {frm:Nat} (hs:X4 w σ) (ht:Tab σ v l) (ha:Yp l) (ho:I0 l) (hl:l.length≤100000) (al: ∀c∈l,T7 c) (hf:0<frm) (ac:frm≤l.length) (h: ∀v' w' σ',Stp w σ w' σ'→Sl 1 B5 σ' v' (ints (V5 l frm))→(V5 l frm).length≤l.length→(∀y∈V5 l frm,y<l.length)→K v' w'):Q1 P F.b5 [v,I frm] w K:=Gt (by
 unfold Ws
 have ab:=ht
 obtain ⟨a,lv,r,m,rfl,t1,t2,t3,t4⟩:=ht.ex
 refine J6 hs rfl fun pt w1 σ1 q W=>?_
 refine J6 q.sat rfl fun pf w2 σ2 o ap=>?_
 refine I2 o.sat fun C w3 σ3 ak j Q=>?_
 refine I2 j.sat fun bw w4 σ4 aq p O=>?_
 rw[Qs]
 have L:=Q.step p
 have a1:=Q.lt
 have U:=((q.trans o).trans j).trans p
 have N:w.heap.size≤C:=Zc ak (q.trans o)
 have u:w.heap.size≤bw:=Zc aq ((q.trans o).trans j)
 refine st0 O (by simp[Value.cells]) rfl rfl fun w5 V Y=>?_
 have ao:=V.stp U u O.1
 have A:=L.upd V (by omega)
 obtain ⟨E,R,M,k,H⟩:=Y.keep ao u
 have X:Z5 E w5 C [.slice none 0 0]:=⟨(H C (by omega)).trans A.1,A.2⟩
 have k:SLe σ4 E:=⟨k⟩
 have z:=((ap.up j).up p).lift k
 have t:=(((W.up o).up j).up p).lift k
 have e:SLe σ E:=SLe.more ⟨U.le⟩ k
 have t1:=t1.lift e
 have t2:=t2.lift e
 refine X7 R.sat z rfl ?_
 have a5:(List.range l.length).length=l.length:=List.length_range
 have hz:([Value.nilFunc].set 0 (Value.func (Fn.func F.u) #[] #[.pointer (some pf), .pointer (some ⟨C,0,none⟩), .pointer (some pt), .pointer (some ⟨bw,0,none⟩)]))=[Value.func (Fn.func F.u) #[] #[.pointer (some pf), .pointer (some ⟨C,0,none⟩), .pointer (some pt), .pointer (some ⟨bw,0,none⟩)]]:=rfl
 refine Gk (fun d x w'=> ∃(i:Nat) (σ':Q4) (x':Value),x=I i∧frm≤i∧i≤l.length∧d=l.length-i∧SLe E σ'∧Stp w σ w' σ'∧Z5 σ' w' C [x']∧V8 w.heap.size T.e 1 B5 σ' w' x' (ints (((List.range i).drop frm).foldl (fun out i=>Qp l frm out i) []))∧x'.ownBlock≠some C∧Am l (((List.range i).drop frm).foldl (fun out i=>Qp l frm out i) [])) _
  ⟨frm,E, .slice none 0 0,rfl,Nat.le_refl _,ac,rfl,SLe.refl _,R,X,by rw[List.drop_eq_nil_of_le (by simp)];exact V8.nil,by simp[Value.ownBlock],by rw[List.drop_eq_nil_of_le (by simp)];exact ⟨by simp,by simp⟩⟩ ?_
 rintro Z d x dd w7 ⟨i,σ7,x7,rfl,a9,ba,rfl,f,n,J,g,aa,b⟩ ah
 refine X7 n.sat (t.lift f) rfl ?_
 rw[E8,fa]
 refine ld n.sat (t1.lift f) rfl ?_
 refine Q8 (t2.lift f) ?_
 refine Y8 ?_
 refine Q5 (fun hh=>?_) (fun hh=>?_)
 ·have s:i<l.length:=by simpa using hh
  refine X7 n.sat (M.lift f) rfl ?_
  refine X1Y (w0:=w) (σ0:=σ) (σb:=E) ha ho hl al hf (ab.lift e) z t M N (G1 l (Y0 l i)+1) s (.inr (Nat.lt_succ_self _)) f n J g aa b fun w8 σ8 x8 ag B aj D an=>?_
  refine Cx ⟨by omega,by omega⟩ ?_
  have e1:((List.range (i+1)).drop frm).foldl (fun out i=>Qp l frm out i) []=Qp l frm (((List.range i).drop frm).foldl (fun out i=>Qp l frm out i) []) i:=by
   rw[List.range_succ,List.drop_append_of_le_length (by simp;omega),List.foldl_append];rfl
  refine ah _ _ _ (by omega:l.length-(i+1)<l.length-i) ⟨i+1,σ8,x8,by simp,by omega,by omega,rfl,f.more ag,B,aj,?_,an,?_⟩
  ·rw[e1];exact D
  ·rw[e1];exact Gu ha ho hf _ _ _ s b
 ·have s:i=l.length:=by
   have: ¬i<l.length:=by simpa using hh
   omega
  subst s
  refine Q8P J rfl ?_
  obtain ⟨σ8,B,ad,_,_⟩:=g.keep n
  exact h _ _ _ B ad b.len b.2)
end Go.Proofs.YtfppjenblllfaaaGreatDoor

namespace Go.Hm
open Go.Kd
theorem Q5p (x:X0) (r:List X0):O4 (x::r)=x++Lib.joinTail [44] r:=by
 induction r generalizing x with
 | nil=>simp[O4,Lib.joinTail]
 | cons y r a=>
  simp only[O4]
  rw[a y]
  simp[Lib.joinTail]
theorem Q0N (xs:List X0):Lib.join xs [44]=O4 xs:=by
 cases xs with
 | nil=>rfl
 | cons x r=>rw[Lib.join_cons,Q5p]
theorem Ds: ∀xs:List X0,(∀x∈xs,x.length≤100)→(O4 xs).length≤xs.length*101
 | [],_=>by simp[O4]
 | [a],h=>by have:=h a (by simp);simp[O4];omega
 | a::b::r,h=>by
  have d:=h a (by simp)
  have e:=Ds (b::r) fun x c=>h x (by simp[c])
  simp only[O4,List.length_append,List.length_cons,List.length_nil,Nat.add_mul] at*
  omega
def NmM (m:Hm.Met):Prop:=m.result.length≤100∧ ∀p∈m.params,p.length≤100
end Go.Hm
namespace Go.Proofs.YtfppjenblllfaaaGreatDoor
open Go.Emb Go.RowKit Go.Kd Go.Hm
variable {w : World} {K : Value → World → Prop} {σ : Q4} {v : Value} {l : List Cla}
theorem X0Z {xs:List X0} {pv:Value} (H:X4 w σ) (M:Sl 1 Y1 σ pv xs) (D:xs.length≤1000000) (N: ∀x∈xs,x.length≤100) (h: ∀w',Below w.heap.size w w'→K (S (O4 xs)) w'):Q1 P F.cM [pv,S [44]] w K:=by
 obtain ⟨a,k,rfl,L,R,A,E⟩:=M
 have q:=Ds xs N
 have u:xs.length*101≤1000000*101:=Nat.mul_le_mul_right _ D
 cases a with
 | none=>
  have Q:=A rfl
  have d:xs=[]:=List.eq_nil_of_length_eq_zero (by omega)
  subst d
  refine Ur (fn:=Tryz.f165) Tryz.func165 (by kernel_rfl) (by kernel_rfl) (Calls.mono (Tryz.strings_Join_none none k ⟨[44].toArray⟩ w) ?_)
  rintro e w' ⟨rfl,rfl⟩
  exact h _ (Below.refl _ _)
 | some b=>
  obtain ⟨f,t⟩:=E b rfl
  by_cases d:xs=[]
  ·subst d
   refine Ur (fn:=Tryz.f165) Tryz.func165 (by kernel_rfl) (by kernel_rfl) (Calls.mono (Tryz.strings_Join_none (some b) k ⟨[44].toArray⟩ w) ?_)
   rintro e w' ⟨rfl,rfl⟩
   exact h _ (Below.refl _ _)
  have f:=f (List.length_pos_iff.2 d)
  obtain ⟨n,o,U⟩:=b
  simp only at f
  subst f
  have c: ∀(j:Nat) (x:ByteArray),(xs.map fun s=>(⟨s.toArray⟩:ByteArray))[j]? =some x→w.cell? ⟨n,o+j,none⟩=some (.string x):=by
   intro j x m
   rw[List.getElem?_map] at m
   cases g:xs[j]? with
   | none=>rw[g] at m;cases m
   | some s=>
    rw[g] at m
    cases m
    obtain ⟨cs,C,O,J⟩:=t j s g
    obtain ⟨rfl,_⟩:=J
    have:=C.cell H (i:=0) (v:=S s) rfl
    rw[add_zero] at this
    have e:(⟨n,o,none⟩:Addr).add (j*1)=⟨n,o+j,none⟩:=by unfold Addr.add;split<;>simp_all
    rw[e] at this;exact this
  have p:n<w.heap.size:=by
   obtain ⟨x,r,rfl⟩: ∃x r,xs=x::r:=by cases xs with | nil=>exact absurd rfl d | cons x r=>exact ⟨x,r,rfl⟩
   have:=c 0 ⟨x.toArray⟩ (by simp)
   exact World.block_lt_of_cell? _ _ this
  have y:(xs.map fun s=>(⟨s.toArray⟩:ByteArray)).map (·.data.toList)=xs:=by rw[List.map_map];simp[Function.comp_def]
  have z:=Tryz.strings_Join n o k (xs.map fun s=>(⟨s.toArray⟩:ByteArray)) ⟨[44].toArray⟩ w c p (by rw[List.length_map];omega) (by rw[List.length_map];exact L) (by rw[y];show (Lib.join xs [44]).length≤_;rw[Q0N];omega)
  rw[y,List.length_map] at z
  refine Ur (fn:=Tryz.f165) Tryz.func165 (by kernel_rfl) (by kernel_rfl) (Calls.mono z ?_)
  rintro e w' ⟨rfl,B⟩
  have:=h w' B
  rw[←Q0N] at this
  exact this
theorem Q8n {m:Hm.Met} {cs:List Value} (r:X4 w σ) (q:M6 σ m cs) (d:SmM m) (f:NmM m) (h: ∀w' p,Stp w σ w' p→K (S (T1 m)) w'):Q1 P F.bR [.agg cs.toArray] w K:=Q48 (by
 obtain ⟨pv,O,N,rfl,o,u,D,A,y,C⟩:=q
 unfold Aa
 refine Z0 r fun a w1 σ1 c k=>?_
 have n:=Ds m.params f.2
 have j:m.params.length*101≤1000000*101:=Nat.mul_le_mul_right _ d.1
 refine V3 c.sat ?_
 refine X2 (.pointer (some (a.add 1))) (fun w b=>by rw[fa];exact X6 rfl) ?_
 refine X2 (.pointer (some (a.add 2))) (fun w b=>by rw[fa];exact X6 rfl) ?_
 refine X2 pv (fun t w b e=>by rw[e];exact ld b.sat k rfl (X6 rfl)) ?_
 refine X2 (S (O4 m.params)) (fun t w b e=>by rw[e];exact X0Z b.sat (o.up c) d.1 f.2 fun w' i=>Q1n i rfl) ?_
 refine X2 (S ([40]++O4 m.params)) (fun t w b e=>by rw[e];exact Ro (by simp only[List.length_cons,List.length_nil];omega) (X6 rfl)) ?_
 refine X2 (S ([40]++O4 m.params++[41])) (fun t w b e=>by rw[e];exact Ro (by simp only[List.length_append,List.length_cons,List.length_nil];omega) (X6 rfl)) ?_
 refine X2 (S m.result) (fun t w b e=>by rw[e];exact ld b.sat k rfl (X6 rfl)) ?_
 rintro B L H M E s z J g _ _ _ _ _ rfl rfl
 have:=f.1
 refine Ro (by simp only[List.length_append,List.length_cons,List.length_nil];omega) ?_
 exact h _ _ (c.trans g.stp))
end Go.Proofs.YtfppjenblllfaaaGreatDoor

namespace Go.Emb
open Go.RowKit Go.Hm
variable {P : Program} {w w0 w1 w' w'' : World} {K : Value → World → Prop} {σ σ0 σ1 σ' : Q4}
theorem Fk {α:Type} (f:α→α) (e:α): ∀l:List α,(l++[e]).modify l.length f=l++[f e]
 | []=>rfl
 | x::r=>by simp[Fk f e r]
theorem Tf (k:List UInt8) (e:MapEntry) (a:e.key=S k): ∀(es:List MapEntry) (i:Nat),Instr.findNow .string (S k) es i=some none→Instr.findNow .string (S k) (es++[e]) i=some (some (i+es.length,e.val))
 | [],i,_=>by
  simp[Instr.findNow,a,Instr.sameNow,Rm]
 | x::r,i,h=>by
  simp only[Instr.findNow,List.cons_append] at h⊢
  split at h
  ·cases h
  ·rename_i b
   rw[Tf k e a r (i+1) h]
   simp;omega
  ·cases h
theorem Q0V (k:List UInt8) (u:Value): ∀(es:List MapEntry) (i j:Nat) (v:Value),Instr.findNow .string (S k) es i=some (some (j,v))→i≤j∧j-i<es.length∧Instr.findNow .string (S k) (es.modify (j-i) fun e=>{e with val:=u}) i=some (some (j,u))
 | [],i,j,v,h=>by simp[Instr.findNow] at h
 | x::r,i,j,v,h=>by
  simp only[Instr.findNow] at h
  split at h
  ·rename_i a
   cases h
   refine ⟨Nat.le_refl _,by simp,?_⟩
   simp only[Nat.sub_self,List.modify_zero_cons,Instr.findNow,a]
  ·rename_i a
   obtain ⟨c,d,b⟩:=Q0V k u r (i+1) j v h
   refine ⟨by omega,by simp;omega,?_⟩
   rw[show j-i=(j-(i+1))+1 by omega]
   simp only[List.modify_succ_cons,Instr.findNow,a]
   exact b
  ·cases h
theorem Jt {t n q:TypeId} [tm:TM P t n q] (o:P.underlying n=some .string) {r:Nat} {es:Array MapEntry} {a:Nat} {k:List UInt8} {i:Nat} {v:Value} {e:MapEntry} (l:w.heap[r]? =some (.map es a))
 (s:Instr.findNow .string (S k) es.toList 0=some (some (i,v))) (m:es[i]? =some e) (c:e.key=S k):
 (Instr.mapEntry t (.map (some r)) (S k)).run P w= .ok (.tuple #[v,goInt e.born]) {w with heap:=w.heap.setIfInBounds r (.map es a)}:=by
 have p:(getObj r).run P w= .ok (.map es a) w:=by simp[getObj,Sem.run,l]
 have b:(Instr.keyThatStays (S k) (S k)).run P w= .ok (S k) w:=by
  simp[Instr.keyThatStays,Instr.sameBits,Rm]
 have g:(es.modify i fun e=>{e with key:=S k})=es:=by
  apply Array.ext'
  apply List.ext_getElem?
  intro j
  simp only[Array.toList_modify,List.getElem?_modify]
  by_cases f:i=j
  ·subst f
   rw[Array.getElem?_toList,m]
   simp[←c]
  ·cases es.toList[j]? <;>simp[f]
 have d:(setObj r (.map es a)).run P w= .ok () {w with heap:=w.heap.setIfInBounds r (.map es a)}:=by
  simp[setObj,Sem.run,l]
 simp only[Instr.mapEntry,Sem.run_bind,run_underlying tm.h,Result.andThen_ok,Instr.findKey,run_underlying o,s,B3 o,p,Sem.run_pure]
 simp only[m,Option.map_some,Option.getD_some,c,b,Result.andThen_ok,g,d]
theorem Q14 {r:Nat} {o:Obj} (h:w.heap[r]? =some o):({w with heap:=w.heap.setIfInBounds r o}:World)=w:=by
 have:w.heap.setIfInBounds r o=w.heap:=by
  apply Array.ext'
  apply List.ext_getElem?
  intro j
  simp only[Array.toList_setIfInBounds,List.getElem?_set]
  by_cases a:r=j
  ·subst a
   rw[if_pos rfl]
   have:=h
   rw[←Array.getElem?_toList] at this
   rw[this,if_pos (by have:=(Array.getElem?_eq_some_iff.1 h).1;simpa using this)]
  ·rw[if_neg a]
 rw[this]
theorem Q2C {r:Nat} {o a:Obj} (h:w.heap[r]? =some a):Upd w r {w with heap:=w.heap.setIfInBounds r o}∧({w with heap:=w.heap.setIfInBounds r o}:World).heap[r]? =some o:=by
 have b:=(Array.getElem?_eq_some_iff.1 h).1
 exact ⟨⟨rfl,rfl,rfl,by simp,fun k c=>by simp only[Array.getElem?_setIfInBounds];rw[if_neg (by omega)]⟩,by simp[Array.getElem?_setIfInBounds,b]⟩
structure Ent3 (P : Program) (t : TypeId) (r : Nat) (k : List UInt8) (u : Value) (m : List (List UInt8 × Value)) (O0 O1 O2 : Obj) (stamp : Nat) : Prop where
  same : O0 = O2 → O1 = O0
  put : N0 (some O2) (Xg m k u)
  entry : ∀ {w : World} {K : Value → World → Prop}, (w.heap[r]? = some O0 ∨ w.heap[r]? = some O1 ∨ w.heap[r]? = some O2) → (∀ x w', Upd w r w' → (w.heap[r]? = some O0 → w'.heap[r]? = some O1) → (w.heap[r]? ≠ some O0 → w'.heap[r]? = w.heap[r]?) → K (.tuple #[x, I stamp]) w') → mapEntry P t (.map (some r)) (S k) w K
  store : ∀ {w : World} {K : Value → World → Prop}, (w.heap[r]? = some O1 ∨ w.heap[r]? = some O2) → (∀ w', Upd w r w' → w'.heap[r]? = some O2 → K undef w') → entryStore P t (.map (some r)) (I stamp) u w K
theorem X2D {t kt et:TypeId} {by_:Nat} {z:Value} [tm:TM P t kt et] [tz:TZ P et 1 by_ z] (W:P.underlying kt=some .string) {r:Nat} {m:List (List UInt8×Value)} (hm:N0 (w.heap[r]?) m) (k:List UInt8) (u:Value):
 ∃Q O1 O2 s,w.heap[r]? =some Q∧Ent3 P t r k u m Q O1 O2 s:=by
 obtain ⟨es,g,h1,h2,Y,Z⟩:=hm
 obtain ⟨r',q1,q2,q3,q4⟩:=Rl k es.toList m 0 h2
 -- the array behind it, the place, the stamp
 have O: ∀(f:Array MapEntry) (d i:Nat) (q:MapEntry) (v1:Value),Instr.findNow .string (S k) f.toList 0=some (some (i,v1))→f[i]? =some q→q.key=S k→(f.toList.map (·.born)).Pairwise (· < ·)→
  (Obj.map es g= .map (f.modify i fun e=>{e with val:=u}) d→Obj.map f d=Obj.map es g)→N0 (some (.map (f.modify i fun e=>{e with val:=u}) d)) (Xg m k u)→
  (∀{w:World},w.heap[r]? =some (.map es g)→ ∃x,(Instr.mapEntry t (.map (some r)) (S k)).run P w= .ok (.tuple #[x,I q.born]) {w with heap:=w.heap.setIfInBounds r (.map f d)})→
  ∃Q O1 O2 s,w.heap[r]? =some Q∧Ent3 P t r k u m Q O1 O2 s:=by
  intro f d i q v1 f1 f2 f3 f4 f5 f6 f7
  obtain ⟨_,H,f8⟩:=Q0V k u f.toList 0 i v1 f1
  simp only[Nat.sub_zero] at H f8
  have a4:i<f.size:=by simpa using H
  have f9:(f.modify i fun e=>{e with val:=u})[i]? =some {q with val:=u}:=by
   rw[Array.getElem?_modify,if_pos rfl,f2];rfl
  have am:Instr.findNow .string (S k) (f.modify i fun e=>{e with val:=u}).toList 0=some (some (i,u)):=by
   rw[Array.toList_modify];exact f8
  have L: ∀(l:Array MapEntry),l.toList.map (·.born)=f.toList.map (·.born)→l.findIdx? (fun e=>(e.born:Int)==q.born)=some i:=by
   intro l C
   obtain ⟨X⟩:=l
   have e0:(Array.mk X).findIdx? (fun e=>(e.born:Int)==q.born)=X.findIdx? (fun e=>(e.born:Int)==q.born):=List.findIdx?_toArray ..
   rw[e0,List.findIdx?_eq_some_iff_getElem]
   generalize N:(Array.mk X)=l at*
   have ae:X=l.toList:=by rw[←N]
   subst ae
   have ay:l.toList.length=f.toList.length:=by have:=congrArg List.length C;simpa using this
   have R: ∀j (hj:j<l.toList.length),(l.toList[j]).born=(f.toList[j]'(by omega)).born:=fun j hj=>by
    have h5:(l.toList.map (·.born))[j]? =(f.toList.map (·.born))[j]? :=by rw[C]
    rw[List.getElem?_map,List.getElem?_map,List.getElem?_eq_getElem hj,List.getElem?_eq_getElem (by omega)] at h5
    simpa using h5
   have U:f.toList[i]=q:=by
    have:=f2
    rw[←Array.getElem?_toList,List.getElem?_eq_getElem H] at this
    simpa using this
   refine ⟨by omega,by rw[R i (by omega),U];simp,fun j hj=>?_⟩
   have ai:j<f.toList.length:=by omega
   have:=(List.pairwise_iff_getElem.1 f4) j i (by simpa using ai) (by simpa using H) hj
   simp only[List.getElem_map] at this
   rw[R j (by omega)]
   rw[U] at this
   simp only[beq_iff_eq];omega
  have E:(f.modify i fun e=>{e with val:=u}).toList.map (·.born)=f.toList.map (·.born):=by
   apply List.ext_getElem?
   intro j
   simp only[Array.toList_modify,List.getElem?_map,List.getElem?_modify]
   by_cases J:i=j<;>cases f.toList[j]? <;>simp[J]
  have aj:(f.modify i fun e=>{e with val:=u}).modify i (fun e=>{e with val:=u})=f.modify i fun e=>{e with val:=u}:=by
   apply Array.ext'
   apply List.ext_getElem?
   intro j
   simp only[Array.toList_modify,List.getElem?_modify]
   by_cases J:i=j<;>cases f.toList[j]? <;>simp[J]
  have A: ∀(l:Array MapEntry) {w:World},l.toList.map (·.born)=f.toList.map (·.born)→w.heap[r]? =some (.map l d)→(Instr.entryStore t (.map (some r)) (I q.born) u).run P w= .ok () {w with heap:=w.heap.setIfInBounds r (.map (l.modify i fun e=>{e with val:=u}) d)}:=by
   intro l w C hw
   have hg:(getObj r).run P w= .ok (.map l d) w:=by simp[getObj,Sem.run,hw]
   have D: ∀o,(setObj r (.map o d)).run P w= .ok () {w with heap:=w.heap.setIfInBounds r (.map o d)}:=by
    intro o;simp[setObj,Sem.run,hw]
   simp only[Instr.entryStore,Sem.run_bind,hg,Result.andThen_ok,asInt,Sem.run_pure,asIntOf,L l C,D]
  refine ⟨.map es g, .map f d, .map (f.modify i fun e=>{e with val:=u}) d,q.born,h1,f5,f6,?_,?_⟩
  ·intro w K hw M
   unfold mapEntry
   rcases hw with hw | hw | hw
   ·obtain ⟨x,hx⟩:=f7 hw
    rw[X9 hx]
    obtain ⟨u1,u2⟩:=Q2C (o:= .map f d) hw
    exact M x _ u1 (fun _=>u2) fun h=>absurd hw h
   ·have:=Jt (P:=P) (t:=t) W hw f1 f2 f3
    rw[Q14 hw] at this
    rw[X9 this]
    refine M _ w ⟨rfl,rfl,rfl,rfl,fun _ _=>rfl⟩ (fun h0=>?_) fun _=>rfl
    exact hw
   ·have:=Jt (P:=P) (t:=t) W hw am f9 f3
    rw[Q14 hw] at this
    rw[X9 this]
    refine M _ w ⟨rfl,rfl,rfl,rfl,fun _ _=>rfl⟩ (fun h0=>?_) fun _=>rfl
    rw[h0] at hw
    cases hw
    rw[h0,f5 rfl]
  ·intro w K hw M
   unfold entryStore
   rcases hw with hw | hw
   ·rw[Ng (A f rfl hw)]
    obtain ⟨u1,u2⟩:=Q2C (o:= .map (f.modify i fun e=>{e with val:=u}) d) hw
    exact M _ u1 u2
   ·have:=A _ E hw
    rw[aj,Q14 hw] at this
    rw[Ng this]
    exact M _ ⟨rfl,rfl,rfl,rfl,fun _ _=>rfl⟩ hw
 cases r' with
 | none=>
  obtain ⟨i,hi,bk,a8,ak⟩:=tz.info
  have hz: ∀w:World,(zeroValue et).run P w= .ok z w:=fun w=>Yc tz w
  refine O (es.push {key:=S k,val:=z,born:=g}) (g+1) es.size {key:=S k,val:=z,born:=g} z ?_ (by simp) rfl ?_ ?_ ?_ ?_
  ·have:=Tf k {key:=S k,val:=z,born:=g} rfl es.toList 0 q1
   simpa using this
  ·simp only[Array.toList_push,List.map_append,List.map_cons,List.map_nil]
   rw[List.pairwise_append]
   refine ⟨Y,by simp,?_⟩
   intro a ha b C
   simp at C;subst C
   obtain ⟨e,he,rfl⟩:=List.mem_map.1 ha
   exact Z e he
  ·intro e
   injection e with q e2
   omega
  ·refine ⟨_,_,rfl,?_,?_,?_⟩
   ·rw[q4 rfl]
    simp only[Array.toList_modify,Array.toList_push]
    rw[←Array.length_toList,Fk]
    simp[h2]
   ·have:((es.push {key:=S k,val:=z,born:=g}).modify es.size fun e=>{e with val:=u}).toList.map (·.born)=es.toList.map (·.born)++[g]:=by
     simp only[Array.toList_modify,Array.toList_push]
     rw[←Array.length_toList,Fk]
     simp
    rw[this,List.pairwise_append]
    refine ⟨Y,by simp,?_⟩
    intro a ha b C
    simp at C;subst C
    obtain ⟨e,he,rfl⟩:=List.mem_map.1 ha
    exact Z e he
   ·intro e he
    simp only[Array.toList_modify,Array.toList_push] at he
    rw[←Array.length_toList,Fk] at he
    rcases List.mem_append.1 he with he | he
    ·have:=Z e he;omega
    ·simp at he;subst he;simp
  ·intro w hw
   have hg:(getObj r).run P w= .ok (.map es g) w:=by simp[getObj,Sem.run,hw]
   have D: ∀o c,(setObj r (.map o c)).run P w= .ok () {w with heap:=w.heap.setIfInBounds r (.map o c)}:=by
    intro o c;simp[setObj,Sem.run,hw]
   refine ⟨z,?_⟩
   simp only[Instr.mapEntry,Sem.run_bind,run_underlying tm.h,Result.andThen_ok,Instr.findKey,run_underlying W,q1,B3 W,hg,Sem.run_pure,hz,D]
   rfl
 | some p=>
  obtain ⟨j,v⟩:=p
  obtain ⟨z1,z2,z3⟩:=q3 j v rfl
  obtain ⟨e,q,e2⟩:=z2
  simp only[Nat.sub_zero] at q z3
  have V:es[j]? =some e:=by rw[←Array.getElem?_toList];exact q
  refine O es g j e v q1 V e2 Y (fun _=>rfl) ?_ fun hw=>⟨v,Jt W hw q1 V e2⟩
  refine ⟨_,_,rfl,?_,?_,?_⟩
  ·have:=z3 u
   rw[←this,Array.toList_modify]
   congr 1
   apply List.ext_getElem?
   intro n
   simp only[List.getElem?_modify]
   by_cases B:j=n
   ·subst B;rw[q];simp[e2]
   ·simp[B]
  ·have:(es.modify j fun e=>{e with val:=u}).toList.map (·.born)=es.toList.map (·.born):=by
    apply List.ext_getElem?
    intro n
    simp only[Array.toList_modify,List.getElem?_map,List.getElem?_modify]
    by_cases B:j=n<;>cases es.toList[n]? <;>simp[B]
   rw[this];exact Y
  ·intro x hx
   have:x.born∈(es.modify j fun e=>{e with val:=u}).toList.map (·.born):=List.mem_map.2 ⟨x,hx,rfl⟩
   have C:(es.modify j fun e=>{e with val:=u}).toList.map (·.born)=es.toList.map (·.born):=by
    apply List.ext_getElem?
    intro n
    simp only[Array.toList_modify,List.getElem?_map,List.getElem?_modify]
    by_cases B:j=n<;>cases es.toList[n]? <;>simp[B]
   rw[C] at this
   obtain ⟨y,hy,e⟩:=List.mem_map.1 this
   rw[←e];exact Z y hy
end Go.Emb

namespace Go.Hm
open Go.Kd Go.Emb
abbrev H7:=List (X0×X0)
def H1:H7→X0→Option X0
 | [],_=>none
 | p::r,k=>if p.1=k then some p.2 else H1 r k
def Ew:H7→X0→X0→H7
 | [],k,v=>[(k,v)]
 | p::r,k,v=>if p.1=k then (k,v)::r else p::Ew r k v
def G3 (m:H7):List (List UInt8×Value):=m.map fun p=>(p.1,S p.2)
theorem Q7K (m:H7) (k:X0):L9 (G3 m) k=(H1 m k).map S:=by
 induction m with
 | nil=>rfl
 | cons p r a=>
  simp only[G3,List.map_cons,L9,H1]
  split
  ·rfl
  ·exact a
theorem Q3X (m:H7) (k v:X0):Xg (G3 m) k (S v)=G3 (Ew m k v):=by
 induction m with
 | nil=>rfl
 | cons p r a=>
  simp only[G3,List.map_cons,Xg,Ew]
  split
  ·rfl
  ·rw[List.map_cons];congr 1
theorem Tw (m:H7) (k v n:X0):H1 (Ew m k v) n=if k=n then some v else H1 m n:=by
 induction m with
 | nil=>simp[Ew,H1]
 | cons p r b=>
  simp only[Ew]
  by_cases h:p.1=k
  ·rw[if_pos h]
   simp only[H1]
   by_cases a:k=n
   ·simp[a]
   ·rw[if_neg a,if_neg a,if_neg (by rw[h];exact a)]
  ·rw[if_neg h]
   simp only[H1]
   by_cases a:p.1=n
   ·rw[if_pos a,if_pos a,if_neg (by intro e;exact h (a.trans e.symm))]
   ·rw[if_neg a,if_neg a];exact b
def Js (d:X0) (s:H7×H7) (m:Hm.Met):Bool×(H7×H7):=
 ((match H1 s.1 m.name with | some x=> !decide (x=T1 m) | none=>false),(Ew s.1 m.name (T1 m),Ew s.2 m.name d))
end Go.Hm
namespace Go.Emb
open Go.RowKit Go.Hm
theorem N0.of_below {w w':World} {r:Nat} {m:List (List UInt8×Value)} (h:N0 (w.heap[r]?) m) (d:Below w.heap.size w w'):N0 (w'.heap[r]?) m:=by
 obtain ⟨es,a,b,c⟩:=h
 rw[d.block r (Array.getElem?_eq_some_iff.1 b).1]
 exact ⟨es,a,b,c⟩
theorem Q4V {P:Program} {w:World} {K:Value→World→Prop} {t a b:TypeId} {sz by_:Nat} {z:Value} [tm:TM P t a b] [tz:TZ P b sz by_ z] (c:P.underlying a=some .string) {r:Nat} {m:List (List UInt8×Value)} (d:N0 (w.heap[r]?) m) (k:List UInt8)
 (h:K (.tuple #[(L9 m k).getD z, .bool (L9 m k).isSome]) w):lookup P t (.map (some r)) (S k) true w K:=by
 rw[Q15 c d k];cases e:L9 m k<;>rw[e] at h<;>exact h
theorem N0.lt {w:World} {r:Nat} {m:List (List UInt8×Value)} (h:N0 (w.heap[r]?) m):r<w.heap.size:=by
 obtain ⟨es,a,b,c⟩:=h
 exact (Array.getElem?_eq_some_iff.1 b).1
end Go.Emb
namespace Go.Proofs.YtfppjenblllfaaaGreatDoor
open Go.Emb Go.RowKit Go.Kd Go.Hm
variable {w : World} {K : Value → World → Prop} {σ : Q4} {v : Value} {l : List Cla}
theorem X2q {m:Hm.Met} {cs ds:List Value} {pa pb q:Addr} {b o:Nat} {s:H7×H7} {d:X0} (hs:X4 w σ) (hm:M6 σ m cs) (ab:SmM m) (hn:NmM m) (Y:Z2 σ pa [.map (some b)]) (aw:Z2 σ pb [.map (some o)]) (hq:Z2 σ q (S d::ds))
 (ag:σ b=none) (ax:σ o=none) (W:b≠o) (p:N0 (w.heap[b]?) (G3 s.1)) (z:N0 (w.heap[o]?) (G3 s.2))
 (h: ∀w',Kpt (fun k=>k=b∨k=o) w w'→N0 (w'.heap[b]?) (G3 (Js d s m).2.1)→N0 (w'.heap[o]?) (G3 (Js d s m).2.2)→K (.bool (Js d s m).1) w'):
 Q1 P F.aA [.agg cs.toArray, .pointer (some pa), .pointer (some q), .pointer (some pb)] w K:=Ow (by
 have V:=hm
 obtain ⟨pv,cv,hv,rfl,g1,g2,g3,g4,g5,g6⟩:=hm
 unfold Xs
 refine Z0 hs fun a w1 σ1 f Z=>?_
 have ak:=p.lt
 have ap:=z.lt
 have p:=p.of_below f.bel
 have z:=z.of_below f.bel
 have R:σ1 b=none:=(f.old b ak).trans ag
 have H:σ1 o=none:=(f.old o ap).trans ax
 refine X7 f.sat (Y.up f) rfl ?_
 rw[fa]
 refine ld f.sat Z rfl ?_
 refine Q4V X8 p m.name ?_
 have af:(.tuple #[(L9 (G3 s.1) m.name).getD (.string ⟨#[]⟩), .bool (L9 (G3 s.1) m.name).isSome]:Value)= .tuple #[S ((H1 s.1 m.name).getD []), .bool (H1 s.1 m.name).isSome]:=by
  rw[Q7K];cases H1 s.1 m.name<;>rfl
 rw[af]
 refine U9 (vs:=[_,_]) rfl ?_
 refine U9 (vs:=[_,_]) rfl ?_
 obtain ⟨M,O,r,A,ao,E⟩:=X2D (P:=P) (t:=T.q) X8 p m.name (S (T1 m))
 have ac:=p.lt
 refine Q0b (fun c i=>Kpt (fun k=>k=b) c i∧(i.heap[b]? =c.heap[b]? ∨(c.heap[b]? =some M∧M≠r∧i.heap[b]? =some O)∨i.heap[b]? =some r))
  (fun c=>Kpt (fun k=>k=b) w1 c∧X4 c σ1∧(c.heap[b]? =some M∨c.heap[b]? =some O∨c.heap[b]? =some r))
  ⟨.of_below (Below.refl _ _).drew,f.sat.below (Below.refl _ _).drew, .inl ao⟩ (fun c i g B=>⟨g.1.trans B.1,B.1.sat g.2.1 (fun k hk=>hk▸R),by
   rcases B.2 with e | ⟨_,_,e⟩ | e
   ·rw[e];exact g.2.2
   ·exact .inr (.inl e)
   ·exact .inr (.inr e)⟩) ?_
 refine X2 (.pointer (some (a.add 0))) (fun w g=>by rw[fa];exact ⟨⟨Kpt.refl, .inl rfl⟩,rfl⟩) ?_
 refine X2 (.pointer (some (a.add 0))) (fun w g=>by rw[fa];exact ⟨⟨Kpt.refl, .inl rfl⟩,rfl⟩) ?_
 refine X2 (.pointer (some (q.add 0))) (fun w g=>by rw[fa];exact ⟨⟨Kpt.refl, .inl rfl⟩,rfl⟩) ?_
 refine X2 (.map (some b)) (fun w g=>X7 g.2.1 (Y.up f) rfl ⟨⟨Kpt.refl, .inl rfl⟩,rfl⟩) ?_
 refine X2 (S m.name) (fun t w g e=>by rw[e];exact ld g.2.1 Z rfl ⟨⟨Kpt.refl, .inl rfl⟩,rfl⟩) ?_
 refine X2 (.map (some o)) (fun w g=>X7 g.2.1 (aw.up f) rfl ⟨⟨Kpt.refl, .inl rfl⟩,rfl⟩) ?_
 refine X2 (S m.name) (fun t w g e=>by rw[e];exact ld g.2.1 Z rfl ⟨⟨Kpt.refl, .inl rfl⟩,rfl⟩) ?_
 refine X2 (.agg [S m.name,pv,S m.result, .bool m.abs,I m.locals,cv,hv].toArray) (fun w g=>Z1 g.2.1 Z rfl ⟨⟨Kpt.refl, .inl rfl⟩,rfl⟩) ?_
 refine X2 (S (T1 m)) (fun t c g e=>by
  rw[e]
  exact Q8n g.2.1 (RMe_lift V ⟨f.le⟩) ab hn fun i σ3 y=>⟨⟨.of_below y.bel, .inl (y.bel.block b (Nat.lt_of_lt_of_le ac g.1.size))⟩,rfl⟩) ?_
 refine X2 (S d) (fun t w g e=>by rw[e];exact ld g.2.1 (hq.up f) rfl ⟨⟨Kpt.refl, .inl rfl⟩,rfl⟩) ?_
 have st: ∀{c i:World},(c.heap[b]? =some O∨c.heap[b]? =some r)→(i.heap[b]? =c.heap[b]? ∨(c.heap[b]? =some M∧M≠r∧i.heap[b]? =some O)∨i.heap[b]? =some r)→(i.heap[b]? =some O∨i.heap[b]? =some r):=by
  intro c i j h2
  rcases h2 with e | ⟨_,_,e⟩ | e
  ·rw[e];exact j
  ·exact .inl e
  ·exact .inr e
 refine W9 (fun u c=>(∃x,u= .tuple #[x,I A])∧(c.heap[b]? =some O∨c.heap[b]? =some r)) (fun u c i j B=>⟨j.1,st j.2 B.2⟩) (fun X ah c g e1 e2=>?_) ?_
 ·rw[e1,e2]
  refine E.entry g.2.2 fun x i n ae ar=>?_
  by_cases U:c.heap[b]? =some M
  ·have j:=ae U
   refine ⟨⟨Kpt.of_upd n rfl,?_⟩,⟨x,rfl⟩, .inl j⟩
   by_cases C:M=r
   ·left;rw[j,U,E.same C]
   ·exact .inr (.inl ⟨U,C,j⟩)
  ·have j:=ar U
   refine ⟨⟨Kpt.of_upd n rfl, .inl j⟩,⟨x,rfl⟩,?_⟩
   rw[j];exact g.2.2.resolve_left U
 refine W9 (fun u c=>u=I A∧(c.heap[b]? =some O∨c.heap[b]? =some r)) (fun u c i j B=>⟨j.1,st j.2 B.2⟩) (fun t c g e=>?_) ?_
 ·obtain ⟨⟨x,rfl⟩,j⟩:=e
  exact U9 (vs:=[_,_]) rfl ⟨⟨Kpt.refl, .inl rfl⟩,rfl,j⟩
 refine W9 (fun _ c=>c.heap[b]? =some r) (fun u c i j B=>?_) (fun X aq al c g e1 e2 e3=>?_) ?_
 ·rcases B.2 with e | ⟨e,C,_⟩ | e
  ·exact e.trans j
  ·rw[j] at e;cases e;exact absurd rfl C
  ·exact e
 ·rw[e1,e3,e2.1]
  refine E.store e2.2 fun i n h3=>⟨⟨Kpt.of_upd n rfl, .inr (.inr h3)⟩,h3⟩
 rintro bf a7 ba X ah a8 bh a6 al bi be aq bd c N _ _ _ _ _ rfl rfl _ _ rfl _ _ an
 have ai:N0 (c.heap[b]?) (G3 (Ew s.1 m.name (T1 m))):=by
  rw[an,←Q3X];exact E.put
 have am:N0 (c.heap[o]?) (G3 s.2):=by
  rw[N.1.block o z.lt fun e=>W e.symm];exact z
 refine Dh X8 ⟨H,am⟩ m.name (S d) fun i n aj=>?_
 have aa:N0 (i.heap[o]?) (G3 (Ew s.2 m.name d)):=by rw[←Q3X];exact aj.2
 have J:N0 (i.heap[b]?) (G3 (Ew s.1 m.name (T1 m))):=by rw[n.block b W];exact ai
 have y:Kpt (fun k=>k=b∨k=o) w i:=((Kpt.of_below f.bel).trans (N.1.mono fun k _ h=> .inl h)).trans (Kpt.of_upd n (.inr rfl))
 have Q:X4 i σ1:=(Kpt.of_upd (D:=fun k=>k=o) n rfl).sat N.2.1 fun k hk=>hk▸H
 unfold Js at h
 cases ho:H1 s.1 m.name with
 | none=>
  rw[ho] at h
  simp only[Option.isSome_none,↓M2,M2,Mb,reduceIte]
  exact h i y J aa
 | some x=>
  rw[ho] at h
  simp only[Option.isSome_some,Option.getD_some,↓M2,M2,Mb,reduceIte]
  refine Z1 Q Z rfl ?_
  refine Q8n Q (RMe_lift V ⟨f.le⟩) ab hn fun w4 σ4 L=>?_
  simp only[↓M2,M2,Mb,reduceIte]
  exact h w4 (y.trans (Kpt.of_below L.bel)) (J.of_below L.bel) (aa.of_below L.bel))
end Go.Proofs.YtfppjenblllfaaaGreatDoor

namespace Go.Hm
open Go.Kd Go.Emb
def Ev (s:H7×H7) (c:Cla):Bool×(H7×H7):=((Z8 (Js c.name) s c.methods 0).1.isSome,(Z8 (Js c.name) s c.methods 0).2)
def Dq (a:List Hm.Met):Prop:= ∃x∈a,∃y∈a,x.name=y.name∧T1 x≠T1 y
theorem Q3e (a:List Hm.Met):Vy a=true↔Dq a:=by
 simp[Vy,Dq]
structure Gd (pre : List Hm.Met) (s : H7 × H7) : Prop where
  a : ∀ m ∈ pre, H1 s.1 m.name = some (T1 m)
  b : ∀ k x, H1 s.1 k = some x → ∃ m ∈ pre, m.name = k ∧ T1 m = x
  c : ∀ k, (H1 s.2 k).isSome = true ↔ ∃ m ∈ pre, m.name = k
theorem Gd.no {b:List Hm.Met} {s:H7×H7} (h:Gd b s): ¬Dq b:=by
 rintro ⟨x,i,y,f,g,e⟩
 have c:=h.a x i
 have d:=h.a y f
 rw[g,d] at c
 exact e (Option.some.inj c).symm
theorem Gd.step {j:List Hm.Met} {s:H7×H7} (h:Gd j s) (d:X0) (m:Hm.Met):((Js d s m).1=true→Dq (j++[m]))∧((Js d s m).1=false→Gd (j++[m]) (Js d s m).2):=by
 unfold Js
 constructor
 ·intro g
  cases o:H1 s.1 m.name with
  | none=>rw[o] at g;cases g
  | some x=>
   rw[o] at g
   obtain ⟨y,hy,f,p⟩:=h.b _ _ o
   exact ⟨y,by simp[hy],m,by simp,f,by rw[p];simpa using g⟩
 ·intro g
  have i: ∀x,H1 s.1 m.name=some x→x=T1 m:=fun x n=>by rw[n] at g;simpa using g
  refine ⟨fun y hy=>?_,fun k x n=>?_,fun k=>?_⟩
  ·simp only[Tw]
   rcases List.mem_append.1 hy with hy | hy
   ·have:=h.a y hy
    by_cases e:m.name=y.name
    ·rw[if_pos e];congr 1;exact (i _ (by rw[e];exact this)).symm
    ·rw[if_neg e];exact this
   ·simp at hy;subst hy;simp
  ·simp only[Tw] at n
   by_cases e:m.name=k
   ·rw[if_pos e] at n;cases n;exact ⟨m,by simp,e,rfl⟩
   ·rw[if_neg e] at n
    obtain ⟨y,hy,f⟩:=h.b _ _ n
    exact ⟨y,by simp[hy],f⟩
  ·simp only[Tw]
   by_cases e:m.name=k
   ·rw[if_pos e];exact ⟨fun _=>⟨m,by simp,e⟩,fun _=>rfl⟩
   ·rw[if_neg e,h.c k]
    constructor
    ·rintro ⟨y,hy,f⟩;exact ⟨y,by simp[hy],f⟩
    ·rintro ⟨y,hy,f⟩
     rcases List.mem_append.1 hy with hy | hy
     ·exact ⟨y,hy,f⟩
     ·simp at hy;subst hy;exact absurd f e
theorem Dq.mono {a b:List Hm.Met} (h:Dq a) (c: ∀x∈a,x∈b):Dq b:=by
 obtain ⟨x,f,y,d,e⟩:=h
 exact ⟨x,c x f,y,c y d,e⟩
theorem Q1y (d:X0): ∀(b a:List Hm.Met) (s:H7×H7) (i:Nat),Gd a s→((Z8 (Js d) s b i).1.isSome=true→Dq (a++b))∧((Z8 (Js d) s b i).1.isSome=false→Gd (a++b) (Z8 (Js d) s b i).2)
 | [],a,s,i,h=>by simpa [Z8] using h
 | m::r,a,s,i,h=>by
  obtain ⟨g,j⟩:=h.step d m
  simp only[Z8]
  cases c:(Js d s m).1 with
  | true=>
   simp only[if_true,Option.isSome_some]
   exact ⟨fun _=>(g c).mono fun x f=>by simp at f⊢;rcases f with h | h<;>simp[h],fun e=>by cases e⟩
  | false=>
   simp only[Bool.false_eq_true,if_false]
   have:=Q1y d r (a++[m]) (Js d s m).2 (i+1) (j c)
   rw[show a++m::r=(a++[m])++r by simp]
   exact this
theorem Q1L: ∀(cs:List Cla) (a:List Hm.Met) (s:H7×H7) (i:Nat),Gd a s→((Z8 Ev s cs i).1.isSome=true→Dq (a++cs.flatMap (·.methods)))∧((Z8 Ev s cs i).1.isSome=false→Gd (a++cs.flatMap (·.methods)) (Z8 Ev s cs i).2)
 | [],a,s,i,h=>by simpa [Z8] using h
 | c::r,a,s,i,h=>by
  obtain ⟨d,f⟩:=Q1y c.name c.methods a s 0 h
  simp only[Z8]
  cases b:(Ev s c).1 with
  | true=>
   simp only[if_true,Option.isSome_some]
   exact ⟨fun _=>(d b).mono (by simp;intro x hx;rcases hx with hx | hx;exact .inl hx;exact .inr (.inl hx)),fun e=>by cases e⟩
  | false=>
   simp only[Bool.false_eq_true,if_false]
   have:=Q1L r (a++c.methods) (Ev s c).2 (i+1) (f b)
   rw[List.flatMap_cons,←List.append_assoc]
   exact this
theorem X1W:Gd [] ([],[]):=⟨by simp,by simp[H1],by simp[H1]⟩
theorem Q7a (l:List Cla) (n:X0):Vi l n=(Wr l n).flatMap (·.methods):=by
 unfold Vi Wr
 induction R5 l n with
 | nil=>rfl
 | cons u r a=>
  rw[List.flatMap_cons,List.filterMap_cons]
  cases b:lk l u with
  | none=>simpa [b] using a
  | some c=>simp only[Option.map_some,Option.getD_some,List.flatMap_cons];rw[a]
end Go.Hm
namespace Go.Emb
open Go.RowKit Go.Hm
variable {P : Program} {w w0 w1 w' w'' : World} {K : Value → World → Prop} {σ σ0 σ1 σ' : Q4}
def It (σ:Q4) (w:World) (b r:Nat) (es:Array MapEntry) (a:Nat) (c:Array Nat):Prop:=σ b=none∧ ∃d,a≤d∧w.heap[b]? =some (.mapIter (some r) a c d)
theorem It.step {b r:Nat} {es:Array MapEntry} {a:Nat} {c:Array Nat} (h:It σ w b r es a c) (k:Stp w σ w' σ'):It σ' w' b r es a c:=by
 obtain ⟨f,i,g,d⟩:=h
 have e:=(Array.getElem?_eq_some_iff.1 d).1
 exact ⟨(k.old b e).trans f,i,g,(k.bel.block b e).trans d⟩
theorem X2a {t d f:TypeId} [tm:TM P t d f] {r:Nat} {es:Array MapEntry} {a:Nat} (c:X4 w σ) (g:w.heap[r]? =some (.map es a))
 (h: ∀b w' σ',w.heap.size≤b→Stp w σ w' σ'→It σ' w' b r es a #[]→K (.pointer (some ⟨b,0,none⟩)) w'):rng P t (.map (some r)) w K:=by
 unfold rng
 have e:(getObj r).run P w= .ok (.map es a) w:=by simp[getObj,Sem.run,g]
 rw[X9 (v:= .pointer (some ⟨w.heap.size,0,none⟩)) (w':=w.alloc (.mapIter (some r) a #[] a)) (by
  simp only[Instr.range,Sem.run_bind,run_underlying tm.h,Result.andThen_ok,e,Sem.run_pure]
  simp)]
 exact h _ _ _ (Nat.le_refl _) (Stp.own c _) ⟨c.none (Nat.le_refl _),a,Nat.le_refl _,heap_alloc_new w _⟩
theorem X2r {t:TypeId} {b r:Nat} {es:Array MapEntry} {clock:Nat} {seen:Array Nat} (hi:It σ w b r es clock seen) (hm:w.heap[r]? =some (.map es clock)) (hold: ∀x∈es.toList,x.born<clock)
 (h0:(∀e∈es.toList,e.born∈seen)→K (.tuple #[.bool false]) w)
 (h1: ∀e w',e∈es.toList→e.born∉seen→Kpt (fun k=>k=b) w w'→It σ w' b r es clock (seen.push e.born)→w'.heap[b]? =some (.mapIter (some r) clock (seen.push e.born) clock)→K (.tuple #[.bool true,e.key,e.val]) w'):J1 P (.pointer (some ⟨b,0,none⟩)) false t w K:=by
 obtain ⟨hb,c0,hc,hh⟩:=hi
 unfold J1
 rcases run_next_at (P:=P) w t b r clock c0 seen es clock hh hm hold hc with ⟨hz,hrun⟩ | ⟨e,he,w1,hw1,hrun⟩
 ·rw[X9 hrun]
  refine h0 fun e he=>Classical.byContradiction fun hn=>?_
  have:e∈(leftOf es seen).toList:=by
   unfold leftOf
   simp only[Array.toList_filter,List.mem_filter]
   exact ⟨he,by simpa using hn⟩
  have hl:(leftOf es seen).toList.length=0:=by simpa using hz
  rw[List.eq_nil_of_length_eq_zero hl] at this
  cases this
 ·rw[X9 hrun]
  have he':e∈es.toList∧e.born∉seen:=by
   unfold leftOf at he
   simp only[Array.toList_filter,List.mem_filter] at he
   exact ⟨he.1,by simpa using he.2⟩
  have hh1:w1.heap[b]? =some (.mapIter (some r) clock seen c0):=by rcases hw1 with rfl | rfl<;>exact hh
  obtain ⟨u1,u2⟩:=Q2C (w:=w1) (o:= .mapIter (some r) clock (seen.push e.born) clock) hh1
  refine h1 e _ he'.1 he'.2 ?_ ⟨hb,clock,Nat.le_refl _,u2⟩ u2
  have k1:Kpt (fun k=>k=b) w w1:=by
   rcases hw1 with rfl | rfl
   ·exact Kpt.refl
   ·exact .of_below (Below.refl _ _).drew
  exact k1.trans (Kpt.of_upd u1 rfl)
theorem X1y {b r:Nat} {es:Array MapEntry} {a:Nat} {c:Array Nat} {e:MapEntry} (hh:w.heap[b]? =some (.mapIter (some r) a (c.push e.born) a)) (g:w.heap[r]? =some (.map es a)) (d:e∈es.toList) (f:(es.toList.map (·.born)).Nodup)
 (h:K (.tuple #[e.key,e.val]) w):Q6H P (.pointer (some ⟨b,0,none⟩)) w K:=by
 unfold Q6H
 rw[X9 (run_entry_at w b r a c es a e hh g d f)]
 exact h
end Go.Emb
namespace Go.Proofs.YtfppjenblllfaaaGreatDoor
open Go.Emb Go.RowKit Go.Kd Go.Hm
variable {w : World} {K : Value → World → Prop} {σ : Q4} {v : Value} {l : List Cla}
theorem Ja (o:Option Nat):decide ((0:Int)≤W8 o)=o.isSome:=by
 cases o with
 | none=>rfl
 | some i=>simp[W8]
theorem Q26 {q:Addr} {s:X0} (b:X4 w σ) (f:Tab σ v l) (d:Z2 σ q [v]) (g:s.length≤J0) (h: ∀w' σ',Stp w σ w' σ'→K (.bool (D9 l s)) w'):Y9 P (.func (.func F.af) #[] #[.pointer (some q)]) [S s] w K:=Y7 (Ek (by
 unfold Zg
 unfold D9 at h
 refine Lu ?_
 by_cases a:s=C7
 ·have e:decide (s=[110,117,108,108])=true:=decide_eq_true a
  simp only[e,decide_eq_true a,↓M2,M2,Mb,reduceIte] at h⊢
  exact h _ _ (Stp.refl b)
 ·have e:decide (s=[110,117,108,108])=false:=decide_eq_false a
  simp only[e,decide_eq_false a,↓M2,M2,Mb,reduceIte] at h⊢
  refine X7 b d rfl ?_
  refine Pl b f g fun w1 σ1 c=>?_
  (try simp only[↓M2,M2,Mb,reduceIte])
  exact h _ _ c))
theorem Q77 {q p:Addr} {s:X0} (b:X4 w σ) (e:Tab σ v l) (c:Z2 σ q [v]) (d:Z2 σ p [.func (.func F.af) #[] #[.pointer (some q)]]) (f:s.length≤J0) (h: ∀w' σ',Stp w σ w' σ'→K (.bool (!D9 l s)) w'):Y9 P (.func (.func F.ag) #[] #[.pointer (some p)]) [S s] w K:=Y7 (Em (by
 unfold Zq
 refine X7 b d rfl ?_
 refine Q26 b e c f fun w1 σ1 a=>?_
 refine Nw ?_
 exact h _ _ a))
theorem Q5v {c:Cla} {cs:List Value} {pa E:Addr} {e b:Nat} {s:H7×H7} (Q:X4 w σ) (N:U8 σ c cs) (y:T7 c) (L:Nm c) (r:Z2 σ pa [.map (some e)]) (z:Z2 σ E [.map (some b)])
 (p:σ e=none) (B:σ b=none) (u:e≠b) (n:N0 (w.heap[e]?) (G3 s.1)) (o:N0 (w.heap[b]?) (G3 s.2))
 (h: ∀w',Kpt (fun k=>k=e∨k=b) w w'→N0 (w'.heap[e]?) (G3 (Ev s c).2.1)∧N0 (w'.heap[b]?) (G3 (Ev s c).2.2)→K (.bool (Ev s c).1) w'):
 Y9 P (.func (.func F.aL) #[] #[.pointer (some pa), .pointer (some E)]) [.agg cs.toArray] w K:=Y7 (Ey (by
 obtain ⟨lv,fv,mv,rfl,g1,Y,R,g4,Z⟩:=N
 unfold Zj
 refine Z0 Q fun q w1 σ1 a H=>?_
 rw[fa]
 refine ld a.sat H rfl ?_
 rw[Qs]
 have A:=n.lt
 have t:=o.lt
 have j:σ1 e=none:=(a.old e A).trans p
 have i:σ1 b=none:=(a.old b t).trans B
 refine Yg (Js c.name) s (fun s w'=>X4 w' σ1∧N0 (w'.heap[e]?) (G3 s.1)∧N0 (w'.heap[b]?) (G3 s.2)) (fun k=>k=e∨k=b) (fun _ _ h=>h.1) ⟨a.sat,n.of_below a.bel,o.of_below a.bel⟩ (R.up a)
  (fun s x cs J K D f g M C O=>Y7 ?_) fun J f g=>?_
 ·refine X2q (s:=s) (d:=c.name) g.1 M (y.2.2.2 x D) (L.2.2 x D) (r.up a) (z.up a) H j i u g.2.1 g.2.2 fun W m V X=>?_
  exact O W (f.trans m) ⟨m.sat g.1 fun k U=>by rcases U with rfl | rfl<;>assumption,V,X⟩
 ·exact h J ((Kpt.of_below a.bel).trans f) g.2))
end Go.Proofs.YtfppjenblllfaaaGreatDoor

namespace Go.Emb
open Go.RowKit Go.Hm
theorem Stp.nx {D:Nat→Prop} {w w1 f:World} {σ σ1 g:Q4} (a:Stp w σ w1 σ1) (c:Nxt D w1 σ1 f g) (hD: ∀k,D k→w.heap.size≤k):Stp w σ f g:=
 ⟨⟨c.kp.os.trans a.bel.os,c.kp.tape.trans a.bel.tape,c.kp.output.trans a.bel.output,Nat.le_trans a.bel.size c.kp.size,fun k d=>(c.kp.block k (Nat.lt_of_lt_of_le d a.bel.size) fun e=>by have:=hD k e;omega).trans (a.bel.block k d)⟩,
  c.sat,fun b o e=>c.le.le b o (a.le b o e),fun k d=>(c.old k (Nat.lt_of_lt_of_le d a.bel.size)).trans (a.old k d)⟩
end Go.Emb
namespace Go.Hm
open Go.Kd Go.Emb
theorem X0v {es:Array MapEntry} {m:H7} (h:es.toList.map (fun e=>(e.key,e.val))=(G3 m).map (fun p=>(S p.1,p.2))):
 (∀e∈es.toList,∃k,e.key=S k∧(H1 m k).isSome=true)∧ ∀k,(H1 m k).isSome=true→ ∃e∈es.toList,e.key=S k:=by
 have a: ∀(m:H7) k,(H1 m k).isSome=true↔k∈m.map (·.1):=by
  intro m
  induction m with
  | nil=>intro k;simp[H1]
  | cons p r j=>
   intro k
   simp only[H1,List.map_cons,List.mem_cons]
   by_cases e:p.1=k
   ·simp[e]
   ·rw[if_neg e,j k]
    constructor
    ·exact .inr
    ·rintro (h | h)
     ·exact absurd h.symm e
     ·exact h
 constructor
 ·intro e d
  have c:(e.key,e.val)∈es.toList.map (fun e=>(e.key,e.val)):=List.mem_map.2 ⟨e,d,rfl⟩
  rw[h] at c
  obtain ⟨p,i,b⟩:=List.mem_map.1 c
  obtain ⟨q,f,rfl⟩:=List.mem_map.1 i
  simp only[Prod.mk.injEq] at b
  exact ⟨q.1,b.1.symm,(a m _).2 (List.mem_map.2 ⟨q,f,rfl⟩)⟩
 ·intro k g
  obtain ⟨q,f,rfl⟩:=List.mem_map.1 ((a m k).1 g)
  have c:(S q.1,S q.2)∈(G3 m).map (fun p=>(S p.1,p.2)):=List.mem_map.2 ⟨(q.1,S q.2),List.mem_map.2 ⟨q,f,rfl⟩,rfl⟩
  rw[←h] at c
  obtain ⟨e,d,b⟩:=List.mem_map.1 c
  simp only[Prod.mk.injEq] at b
  exact ⟨e,d,b.1⟩
def Od (l:List Cla) (m:Hm.Met):Bool:=(!D9 l m.result&& !decide (m.result=[]))||m.params.any fun s=> !D9 l s
end Go.Hm
namespace Go.Proofs.YtfppjenblllfaaaGreatDoor
open Go.Emb Go.RowKit Go.Kd Go.Hm
variable {w : World} {K : Value → World → Prop} {σ : Q4} {v : Value} {l : List Cla}
set_option maxHeartbeats 1000000 in
theorem Q7N {c:Cla} {cs:List Value} (hs:X4 w σ) (ht:Tab σ v l) (ok:Ok l) (hc:U8 σ c cs) (fy:T7 c) (hn:Nm c) (h: ∀w' W,Stp w σ w' W→K (I (V2 l c)) w'):Q1 P F.aQ [v, .agg cs.toArray] w K:=Si (by
 obtain ⟨lv,fv,mv,rfl,g1,g2,g3,g4,g5⟩:=hc
 unfold Ue
 obtain ⟨a,_,_,_,hv,_⟩:=ht.ex
 unfold V2 at h
 refine J6 hs (by rw[hv];rfl) fun q2 w1 σ1 a3 y=>?_
 refine Z0 a3.sat fun q3 w2 σ2 aq z=>?_
 have d9:=a3.trans aq
 have y:=y.up aq
 have g1:=(g1.up a3).up aq
 have g2:=(g2.up a3).up aq
 have g3:=(g3.up a3).up aq
 have bb:=g2.max
 have ca:=g3.max
 rw[fa]
 refine ld aq.sat z rfl ?_
 refine Q8 g2 ?_
 refine J4 c.fields.length (fun n w'=> ∃W,Stp w σ w' W∧SLe σ2 W∧((c.fields.take n).any fun f=>(Xv l c.super f.name).isSome)=false) ⟨σ2,d9,SLe.refl _,by simp⟩ fun n w3 d a4 af=>?_
 obtain ⟨σ3,a2,ci,H⟩:=af
 refine Y8 ?_
 refine Q5 (fun hh=>?_) (fun hh=>?_)
 ·have g:n<c.fields.length:=by simpa using hh
  refine Q8t (g2.lift ci) g fun p aw Z=>?_
  refine Z1 a2.sat aw rfl ?_
  refine Y4 a2.sat (by rfl) rfl (Rep.one Z) fun q4 w4 σ4 V eb=>?_
  have ab:SLe σ2 σ4:=ci.more ⟨V.le⟩
  have a7:=a2.trans V
  refine X7 V.sat (y.lift ab) rfl ?_
  rw[fa]
  refine ld V.sat (z.lift ab) rfl ?_
  rw[fa]
  refine ld V.sat eb rfl ?_
  refine X19 V.sat (ht.lift ⟨a7.le⟩) ok.acy ok.len ok.sm fun w5 σ5 cb=>?_
  refine F0 ?_
  rw[Ja]
  refine Q5 (fun ak=>?_) (fun ak=>?_)
  ·have:Xk l c=true:=C5 g ak
   rw[if_pos this] at h
   exact h _ _ (a7.trans cb)
  ·refine O3 ?_
   refine Y3 bb g ⟨σ5,a7.trans cb,ab.more ⟨cb.le⟩,?_⟩
   rw[M0 g,H,ak];rfl
 have g: ¬n<c.fields.length:=by simpa using hh
 rw[D3 g] at H
 have d2:Xk l c=false:=H
 rw[if_neg (by rw[d2];simp)] at h
 rw[Qs]
 clear H hh g a4
 refine U3 a2.sat (by rfl) rfl rfl fun q7 w4 σ4 V bd=>?_
 have ab:SLe σ2 σ4:=ci.more ⟨V.le⟩
 have a7:=a2.trans V
 have y:=y.lift ab
 have z:=z.lift ab
 have g1:=g1.lift ab
 have g2:=g2.lift ab
 have g3:=g3.lift ab
 rw[fa]
 refine ld V.sat z rfl ?_
 refine Q8 g2 ?_
 refine J4 c.fields.length (fun n w'=> ∃W,Stp w σ w' W∧SLe σ4 W∧((c.fields.take n).any fun f=> !D9 l f.kind)=false) ⟨σ4,a7,SLe.refl _,by simp⟩ fun n w5 d a4 af=>?_
 obtain ⟨σ5,be,ar,H⟩:=af
 refine Y8 ?_
 refine Q5 (fun hh=>?_) (fun hh=>?_)
 ·have g:n<c.fields.length:=by simpa using hh
  refine Q8t (g2.lift ar) g fun p aw Z=>?_
  refine Z1 be.sat aw rfl ?_
  refine Y4 be.sat (by rfl) rfl (Rep.one Z) fun q9 w6 σ6 bc dx=>?_
  have aj:SLe σ4 σ6:=ar.more ⟨bc.le⟩
  have U:=be.trans bc
  refine X7 bc.sat (bd.lift aj) rfl ?_
  rw[fa]
  refine ld bc.sat dx rfl ?_
  refine Q26 bc.sat (ht.lift ⟨U.le⟩) (y.lift aj) Z.2.2 fun w7 σ7 E=>?_
  refine Nw ?_
  refine Q5 (fun ak=>?_) (fun ak=>?_)
  ·have:B6 l c=true:=by
    unfold B6
    rw[C5 (p:=fun f:Fld=> !D9 l f.kind) g ak];rfl
   rw[if_pos this] at h
   exact h _ _ (U.trans E)
  ·refine O3 ?_
   refine Y3 bb g ⟨σ7,U.trans E,aj.more ⟨E.le⟩,?_⟩
   rw[M0 g,H,ak];rfl
 have g: ¬n<c.fields.length:=by simpa using hh
 rw[D3 g] at H
 have ei:=H
 clear H hh g a4
 have y:=y.lift ar
 have z:=z.lift ar
 have bd:=bd.lift ar
 have g3:=g3.lift ar
 rw[fa]
 refine ld be.sat z rfl ?_
 refine Q8 g3 ?_
 refine J4 c.methods.length (fun n w'=> ∃W,Stp w σ w' W∧SLe σ5 W∧((c.methods.take n).any (Od l))=false) ⟨σ5,be,SLe.refl _,by simp⟩ fun n w6 d a4 af=>?_
 obtain ⟨σ6,U,aj,H⟩:=af
 refine Y8 ?_
 refine Q5 (fun hh=>?_) (fun hh=>?_)
 ·have g:n<c.methods.length:=by simpa using hh
  refine W6 (g3.lift aj) g fun p cells aw cu Z=>?_
  refine Z1 U.sat aw cu ?_
  refine Y4 U.sat (by rfl) cu (Rep.one Z) fun fs w7 σ7 E Y=>?_
  obtain ⟨pv,cv,fb,rfl,m1,m2,m3,m4,m5,m6⟩:=Z
  have ck:SLe σ5 σ7:=aj.more ⟨E.le⟩
  have cr:=U.trans E
  have D:Od l c.methods[n]=true→ ∀{w8:World} {σ8:Q4},Stp w σ w8 σ8→K (.int .i64 65) w8:=fun hb w8 σ8 q=>by
   have:B6 l c=true:=by
    unfold B6
    have:=C5 (p:=Od l) g hb
    unfold Od at this
    rw[this,Bool.or_true]
   rw[if_pos this] at h
   exact h _ _ q
  have A:Od l c.methods[n]=false→ ∀{w8:World} {σ8:Q4},Stp w σ w8 σ8→SLe σ5 σ8→UpI c.methods.length (fun n w'=> ∃W,Stp w σ w' W∧SLe σ5 W∧((c.methods.take n).any (Od l))=false) (.int .i64 (IntKind.i64.wrap (n+1))) w8∧UpM c.methods.length (.int .i64 (IntKind.i64.wrap (n+1)))<UpM c.methods.length (I n):=fun hb w8 σ8 q ac=>
   Y3 ca g ⟨σ8,q,ac,by rw[M0 g,H,hb];rfl⟩
  unfold Od at D A
  refine X7 E.sat (bd.lift ck) rfl ?_
  rw[fa]
  refine ld E.sat Y rfl ?_
  refine Q26 E.sat (ht.lift ⟨cr.le⟩) (y.lift ck) m5 fun w8 σ8 M=>?_
  have q:=cr.trans M
  have ac:SLe σ5 σ8:=ck.more ⟨M.le⟩
  have Y:=Y.up M
  have m1:=(m1.up E).up M
  -- what the parameters come to
  have bu: ∀{w8:World} {σ8:Q4} {K:Value→World→Prop},Stp w σ w8 σ8→SLe σ5 σ8→Sl 1 Y1 σ8 pv c.methods[n].params→(∀w' W,Stp w8 σ8 w' W→K (.bool (c.methods[n].params.any fun s=> !D9 l s)) w')→Q1 P F.d [pv, .func (.func F.ag) #[] #[.pointer (some q7)]] w8 K:=by
   intro w8 σ8 K q ac m1 hK
   refine G0 (fun s=> !D9 l s) q.sat m1 (fun x w9 K _ dw hx eg=>Q77 dw (ht.lift ⟨q.le⟩) (y.lift ac) (bd.lift ac) hx fun w' W hk=>eg w' hk.bel) fun w9 hb=>hK w9 σ8 (Stp.of_below q.sat hb)
  cases e1:D9 l c.methods[n].result with
  | true=>
   rw[e1] at D A
   simp only[↓M2,M2,Mb,reduceIte]
   refine ld M.sat Y rfl ?_
   (try simp only[↓M2,M2,Mb,reduceIte])
   refine bu q ac m1 fun w9 σ9 J=>?_
   cases e2:c.methods[n].params.any fun s=> !D9 l s with
   | true=>
    rw[e2] at D
    simp only[↓M2,M2,Mb,reduceIte]
    exact D rfl (q.trans J)
   | false=>
    rw[e2] at A
    simp only[↓M2,M2,Mb,reduceIte]
    exact A rfl (q.trans J) (ac.more ⟨J.le⟩)
  | false=>
   rw[e1] at D A
   simp only[↓M2,M2,Mb,reduceIte]
   refine ld M.sat Y rfl ?_
   simp only[↓M2,M2,Mb,reduceIte]
   by_cases e3:c.methods[n].result=[]
   ·rw[decide_eq_true e3] at D A
    simp only[decide_eq_true e3,↓M2,M2,Mb,reduceIte]
    refine ld M.sat Y rfl ?_
    (try simp only[↓M2,M2,Mb,reduceIte])
    refine bu q ac m1 fun w9 σ9 J=>?_
    cases e2:c.methods[n].params.any fun s=> !D9 l s with
    | true=>
     rw[e2] at D
     simp only[↓M2,M2,Mb,reduceIte]
     exact D rfl (q.trans J)
    | false=>
     rw[e2] at A
     simp only[↓M2,M2,Mb,reduceIte]
     exact A rfl (q.trans J) (ac.more ⟨J.le⟩)
   ·rw[decide_eq_false e3] at D
    simp only[decide_eq_false e3,↓M2,M2,Mb,reduceIte]
    exact D rfl q
 have g: ¬n<c.methods.length:=by simpa using hh
 rw[D3 g] at H
 have b6:B6 l c=false:=by
  unfold B6
  unfold Od at H
  rw[ei,H];rfl
 rw[if_neg (by rw[b6];simp)] at h
 clear H hh g a4
 have y:=y.lift aj
 have z:=z.lift aj
 refine Tz U.sat fun r1 w7 Z E t=>?_
 refine Tz E.sat fun N w8 ed M u=>?_
 have aw:=t.lt
 have t:=t.up M
 have dy:r1≠N:=by omega
 have q:=(U.trans E).trans M
 have er:w.heap.size≤r1:=Nat.le_trans U.bel.size Z
 have ez:w.heap.size≤N:=Zc ed (U.trans E)
 refine I2 M.sat fun b1 w9 σ9 em J B=>?_
 refine I2 J.sat fun b2 d7 fw dz ah C=>?_
 have eo:=B.lt
 have e0:=t.lt
 have ep:=u.lt
 have t:=(t.up J).up ah
 have u:=(u.up J).up ah
 have B:=B.up ah
 have ct:=(q.trans J).trans ah
 have bx:w.heap.size≤b1:=Zc em q
 have bv:w.heap.size≤b2:=Zc dz (q.trans J)
 refine st0 B (by simp[Value.cells]) rfl rfl fun df ch B=>?_
 have c9:=ch.stp ct bx B.1
 have C:=C.upd ch (by omega)
 have c3:Kpt (fun k=>k=b1) d7 df:=Kpt.of_upd ch rfl
 have t:=t.kp c3 (by omega)
 have u:=u.kp c3 (by omega)
 refine st0 C (by simp[Value.cells]) rfl rfl fun av cj C=>?_
 have cq:=cj.stp c9 bv C.1
 have B:=B.upd cj (by omega)
 have dm:Kpt (fun k=>k=b2) df av:=Kpt.of_upd cj rfl
 have t:=t.kp dm (by omega)
 have u:=u.kp dm (by omega)
 obtain ⟨b5,cy,ba,c1,am⟩:=B.keep cq bx
 have C:Z5 b5 av b2 _:=⟨(am b2 (by omega)).trans C.1,C.2⟩
 have t:E2 b5 av r1 []:=⟨(am r1 (by omega)).trans t.1,t.2⟩
 have u:E2 b5 av N []:=⟨(am N (by omega)).trans u.1,u.2⟩
 obtain ⟨az,ai,bk,bz,a5⟩:=C.keep cy bv
 have t:E2 az av r1 []:=⟨(a5 r1 (by omega)).trans t.1,t.2⟩
 have u:E2 az av N []:=⟨(a5 N (by omega)).trans u.1,u.2⟩
 have ba:=ba.le bz
 have ba:Z2 az ⟨b1,0,none⟩ [.map (some r1)]:=ba
 have bk:Z2 az ⟨b2,0,none⟩ [.map (some N)]:=bk
 have db:SLe σ6 az:=⟨fun b o e=>bz b o (c1 b o (ah.le b o (J.le b o (M.le b o (E.le b o e)))))⟩
 clear B C
 have y:=y.lift db
 have z:=z.lift db
 refine X7 ai.sat y rfl ?_
 rw[fa]
 refine ld ai.sat z rfl ?_
 rw[Qs]
 refine Q6s Ev ([],[]) (fun s w'=>N0 (w'.heap[r1]?) (G3 s.1)∧N0 (w'.heap[N]?) (G3 s.2)) (fun k=>k=r1∨k=N) ai.sat (ht.lift ⟨ai.le⟩) ok.len ok.sm g4
  (fun k hk=>by rcases hk with rfl | rfl;exact ⟨t.lt,t.1⟩;exact ⟨u.lt,u.1⟩) (fun s wa wb hi hk=>by rw[hk r1 (.inl rfl),hk N (.inr rfl)];exact hi) ⟨t.2,u.2⟩
  (fun s d ds wa σa K le d0 c2 hi hr ec hK=>?_) fun fm cc ag b0=>?_
 ·have da:=(U7 ec).2.1
  exact Q5v d0 hr (ok.sm d da) (ok.nm d da) (ba.lift le) (bk.lift le) (c2 r1 (.inl rfl)) (c2 N (.inr rfl)) dy hi.1 hi.2 hK
 have R:=ai.nx ag fun k hk=>by rcases hk with rfl | rfl<;>assumption
 obtain ⟨dn,c8⟩:=Q1L (Wr l c.name) [] ([],[]) 0 X1W
 rw[List.nil_append,←Q7a] at dn c8
 cases c4:(Z8 Ev ([],[]) (Wr l c.name) 0).1.isSome with
 | true=>
  have:Xz l c=true:=(Q3e _).2 (dn c4)
  rw[if_pos this] at h
  refine U1 ?_
  exact h _ _ R
 | false=>
  have bi:=c8 c4
  have:Xz l c=false:=by
   cases e:Xz l c with
   | false=>rfl
   | true=>exact absurd ((Q3e _).1 e) bi.no
  rw[if_neg (by rw[this];simp)] at h
  refine J9 ?_
  have y:=y.lift ag.le
  have z:=z.lift ag.le
  rw[fa]
  refine ld R.sat z rfl ?_
  unfold Ni at h
  cases cw:c.abs with
  | true=>
   rw[cw] at h
   refine U1 ?_
   exact h _ _ R
  | false=>
   rw[cw] at h
   simp only[Bool.not_false,Bool.true_and] at h
   refine J9 ?_
   refine X7 R.sat (bk.lift ag.le) rfl ?_
   generalize fl:(Z8 Ev ([],[]) (Wr l c.name) 0).2=st at bi b0
   obtain ⟨es,al,e1,e2,e3,e4⟩:=b0.2
   have cz:cc N=none:=(ag.old N u.lt).trans u.1
   obtain ⟨c5,de⟩:=X0v e2
   refine X2a (tm:=inferInstance) R.sat e1 fun ib fe d5 d8 ao d3=>?_
   have bw:=(Array.getElem?_eq_some_iff.1 e1).1
   refine Gk (fun d _ w'=> ∃(W:Q4) (O:Array Nat),d=es.toList.countP (fun e=> !O.contains e.born)∧Stp w σ w' W∧SLe cc W∧W N=none∧w'.heap[N]? =some (.map es al)∧It W w' ib N es al O∧ ∀e∈es.toList,e.born∈O→ ∀k,e.key=S k→Xt l c.name k=false) _
    ⟨d5, #[],rfl,R.trans ao,⟨ao.le⟩,(ao.old N bw).trans cz,(ao.bel.block N bw).trans e1,d3,by simp⟩ ?_
   rintro b7 d x dd fp ⟨c6,O,rfl,bs,an,cx,ax,a0,a8⟩ eh
   have c0:w.heap.size≤ib:=Nat.le_trans R.bel.size d8
   refine X2r a0 ax e4 (fun dj=>?_) fun e dp bn a1 bq b8 dc=>?_
   ·refine U9 (vs:=[_]) rfl ?_
    refine J9 ?_
    have:((Vi l c.name).any fun m=>Xt l c.name m.name)=false:=by
     rw[List.any_eq_false]
     intro m hm
     obtain ⟨e,he,bg⟩:=de m.name ((bi.c m.name).2 ⟨m,hm,rfl⟩)
     rw[a8 e he (dj e he) _ bg];simp
    rw[this] at h
    exact h _ _ bs
   ·refine U9 (vs:=[_,_,_]) rfl ?_
    refine U1 ?_
    have ap:dp.heap[N]? =some (.map es al):=by
     rw[bq.block N (Array.getElem?_eq_some_iff.1 ax).1 (by omega)];exact ax
    have ce:=a0.1
    have ae:Stp w σ dp c6:=bs.kp bq fun k hk=>by rw[hk];exact ⟨c0,ce⟩
    refine X1y dc ap bn (e3.imp fun cd=>Nat.ne_of_lt cd) ?_
    refine U9 (vs:=[_,_]) rfl ?_
    obtain ⟨k,bg,dv⟩:=c5 e bn
    have e6:SLe cc c6:=an
    refine X7 ae.sat (y.lift an) rfl ?_
    rw[fa]
    refine ld ae.sat (z.lift an) rfl ?_
    rw[bg]
    refine Q9b ae.sat (ht.lift ⟨ae.le⟩) ok fun pv cv hv ft ff L c7=>?_
    refine U9 (vs:=[_,_,_]) rfl ?_
    refine U9 (vs:=[_,_,_]) rfl ?_
    refine U9 (vs:=[_,_,_]) rfl ?_
    refine Y4 L.sat (by rfl) rfl (Rep.one c7) fun fc ek ej X bp=>?_
    have a9:=(ae.trans L).trans X
    have Q:Xt l c.name k=true→ ∀{w8:World} {σ8:Q4},Stp w σ w8 σ8→K (.int .i64 67) w8:=fun hb w8 σ8 q=>by
     obtain ⟨m,hm,b6⟩:=(bi.c k).1 dv
     have:((Vi l c.name).any fun m=>Xt l c.name m.name)=true:=List.any_eq_true.2 ⟨m,hm,by rw[b6];exact hb⟩
     rw[this] at h
     exact h _ _ q
    have cg:Xt l c.name k=false→b7 () ek:=fun hb=>by
     have dh: ∀e':MapEntry,e'.born∈O.push e.born↔e'.born∈O∨e'.born=e.born:=fun e'=>by simp
     refine eh _ _ _ ?_ ⟨ej,O.push e.born,rfl,a9,an.more ⟨fun b o h=>X.le _ _ (L.le _ _ h)⟩,?_,?_,(b8.step L).step X,fun e' dg ef k' b9=>?_⟩
     ·refine Q32 (fun x _ hx=>?_) ⟨e,bn,?_,?_⟩
      ·simp only[Bool.not_eq_true',Array.contains_push,Bool.or_eq_false_iff] at hx⊢
       exact hx.1
      ·simpa using a1
      ·simp
     ·have a6:=(Array.getElem?_eq_some_iff.1 ap).1
      rw[X.old N (Nat.lt_of_lt_of_le a6 L.bel.size),L.old N a6];exact cx
     ·have a6:=(Array.getElem?_eq_some_iff.1 ap).1
      rw[X.bel.block N (Nat.lt_of_lt_of_le a6 L.bel.size),L.bel.block N a6];exact ap
     ·rcases (dh e').1 ef with h1 | h1
      ·exact a8 e' dg h1 k' b9
      ·have:e'=e:=by
        have d6:(es.toList.map (·.born)).Nodup:=e3.imp fun cd=>Nat.ne_of_lt cd
        obtain ⟨i,hi,rfl⟩:=List.getElem_of_mem dg
        obtain ⟨j,hj,rfl⟩:=List.getElem_of_mem bn
        have h5:(es.toList.map (·.born))[i]'(by simpa using hi)=(es.toList.map (·.born))[j]'(by simpa using hj):=by simpa using h1
        have:=(List.getElem_inj d6).1 h5
        subst this;rfl
       subst this
       rw[bg] at b9
       have:k=k':=by
        have:=b9
        simp at this
        exact this
       rw[←this];exact hb
    unfold Xt at Q cg
    cases di:U0 l c.name k with
    | none=>
     rw[di] at Q
     simp only[↓M2,M2,Mb,reduceIte,Option.isSome_none]
     exact Q rfl a9
    | some r=>
     rw[di] at Q cg bp
     simp only[↓M2,M2,Mb,reduceIte,Option.isSome_some]
     refine ld X.sat bp rfl ?_
     (try simp only[↓M2,M2,Mb,reduceIte])
     cases bo:r.2.abs with
     | true=>
      exact Q5 (fun _=>Q bo a9) (fun e=>absurd (bo.symm.trans e) (by simp))
     | false=>
      exact Q5 (fun e=>absurd (bo.symm.trans e) (by simp)) (fun _=>cg bo))
end Go.Proofs.YtfppjenblllfaaaGreatDoor

namespace Go.Emb
open Go.RowKit Go.Hm
variable {P : Program} {w w0 w1 w' w'' : World} {K : Value → World → Prop} {σ σ0 σ1 σ' : Q4}
theorem X0a {t e:TypeId} {n by_:Nat} {z:Value} [ta:TA P t n e] [tz:TZ P e 1 by_ z] [tg:TG P e false] {cs:List Value} {i:Nat} {v:Value} (c:i<n) (b:cs[i]? =some v) (h:K v w):E1 P t (.agg cs.toArray) (I i) w K:=by
 unfold E1
 have a:(0:Int)≤i∧(i:Int)<n:=⟨by omega,by omega⟩
 rw[X9 (v:=v) (w':=w) (by
  simp only[Instr.index,asIntOf,Sem.run_bind,Sem.run_pure,Result.andThen_ok,run_underlying ta.h,a,and_self,if_true,W5 tz,part,Yx tg]
  simp[b])]
 exact h
theorem Q7u {α:Type} {R:Q4→α→List Value→Prop} {B sz:Nat} {e:TypeId} {v:Value} {xs:List α} {a t:TypeId} {cs:List Bool} [ts:TS P a e] (h:V8 B e sz R σ w v xs) (b:K (I xs.length) w):X5 P .len [a] t cs [v] w K:=Gh (U5.of_acc h) b
theorem Q38 {α:Type} {R:Q4→α→List Value→Prop} {B sz:Nat} {e:TypeId} {v:Value} {xs:List α} (h:V8 B e sz R σ w v xs):v.cells= #[v]∧v.oneCell'=true:=by
 obtain ⟨cells,b,_⟩:=h
 rcases b.2 with ⟨rfl,_⟩ | ⟨g,a,c,rfl,_⟩<;>exact ⟨rfl,rfl⟩
end Go.Emb
namespace Go.Proofs.YtfppjenblllfaaaGreatDoor
open Go.Emb Go.RowKit Go.Kd Go.Hm
variable {w : World} {K : Value → World → Prop} {σ : Q4} {v : Value} {l : List Cla}
theorem X0y (C:X4 w σ) (A:Glb σ) (h: ∀u w' σ',Stp w σ w' σ'→V8 w.heap.size T.a 8 U8 σ' w' u F8→K u w'):Q1 P F.cr [] w K:=Q4W (by
 unfold Th
 refine W1 (cells:= #[S Z7,S [], .slice none 0 0, .bool false, .bool false, .bool false, .slice none 0 0, .slice none 0 0]) (by kernel_rfl) ?_
 refine W1 (cells:= #[S K7,S N7, .bool false]) (by kernel_rfl) ?_
 refine N5 (R:=E5) (sz:=3) C [.agg #[S K7,S N7, .bool false]] [⟨K7,N7,false⟩] rfl rfl (by simp;rfl) rfl ⟨⟨rfl,by decide,by decide⟩,trivial⟩ fun J w1 σ1 c g=>?_
 have p:=g
 obtain ⟨y,b,rfl,_⟩:=p
 refine W1 (cells:= #[S W0,S Z7, .slice none 0 0, .bool false, .bool false, .bool false, .slice y 1 b, .slice none 0 0]) (by kernel_rfl) ?_
 refine I6 (R:=U8) (sz:=8) c [.agg #[S Z7,S [], .slice none 0 0, .bool false, .bool false, .bool false, .slice none 0 0, .slice none 0 0], .agg #[S W0,S Z7, .slice none 0 0, .bool false, .bool false, .bool false, .slice y 1 b, .slice none 0 0]]
  [⟨Z7,[],[],false,false,false,[],[]⟩,⟨W0,Z7,[],false,false,false,[⟨K7,N7,false⟩],[]⟩] rfl rfl (by simp;exact ⟨rfl,rfl⟩) rfl
  ⟨⟨_,_,_,rfl,Sl.nil,Sl.nil,Sl.nil,by decide,by decide⟩,⟨_,_,_,rfl,Sl.nil,g,Sl.nil,by decide,by decide⟩,trivial⟩ fun H N j m _=>?_
 have r:=A.lift ⟨c.le⟩
 refine Z1 (cs:=Z9.map S) j.sat r.flt rfl ?_
 refine D5 6 (fun n a w'=> ∃σ',Stp w σ w' σ'∧V8 w.heap.size T.a 8 U8 σ' w' a ([⟨Z7,[],[],false,false,false,[],[]⟩,⟨W0,Z7,[],false,false,false,[⟨K7,N7,false⟩],[]⟩]++(Z9.take n).map fun n=>⟨n,W0,[],false,false,true,[],[]⟩)) ⟨σ1,c.trans j,m⟩ fun n a O d E k=>?_
 obtain ⟨M,o,f⟩:=k
 have B:Z9.length=6:=rfl
 refine Y8 ?_
 refine Q5 (fun hh=>?_) (fun hh=>?_)
 ·have e:n<6:=by have:=of_decide_eq_true hh;omega
  refine X0a (v:=S (Z9[n]'(by omega))) e (by rw[List.getElem?_map,List.getElem?_eq_getElem (by omega)];rfl) ?_
  refine W1 (cells:= #[S (Z9[n]'(by omega)),S W0, .slice none 0 0, .bool false, .bool false, .bool true, .slice none 0 0, .slice none 0 0]) (by kernel_rfl) ?_
  have i:(Z9[n]'(by omega)).length≤10:=by
   have: ∀x∈Z9,x.length≤10:=by decide
   exact this _ (List.getElem_mem _)
  refine Un (x:=⟨Z9[n]'(by omega),W0,[],false,false,true,[],[]⟩) o f ⟨_,_,_,rfl,Sl.nil,Sl.nil,Sl.nil,Nat.le_trans i (by decide),(by decide:W0.length≤J0)⟩ rfl rfl rfl (by simp;omega) (by simp;omega) fun s u L z D q t _=>?_
  refine O3 ?_
  refine Z6 (by omega) e ⟨z,q,?_⟩
  rw[List.take_add_one,List.getElem?_eq_getElem (by omega),List.map_append,←List.append_assoc]
  exact t
 ·have e: ¬n<6:=by have:=of_decide_eq_false hh;omega
  rw[List.take_of_length_le (by omega)] at f
  exact h _ _ _ o f)
end Go.Proofs.YtfppjenblllfaaaGreatDoor

namespace Go.Hm
open Go.Kd
def L4 {α:Type} (f:α→Int):List α→Nat→Option (Nat×Int)
 | [],_=>none
 | x::r,i=>if f x=0 then L4 f r (i+1) else some (i,f x)
theorem Xq {α:Type} {f:α→Int}: ∀{l:List α} {i:Nat},L4 f l i=none→ ∀x∈l,f x=0
 | [],_,_=>by simp
 | x::r,i,h=>by
  simp only[L4] at h
  split at h
  ·rename_i a
   intro y hy
   rcases List.mem_cons.1 hy with rfl | hy
   ·exact a
   ·exact Xq h y hy
  ·cases h
def Eh (a:List Cla):Option Nat:=(List.range a.length).find? fun i=>(Y5 (a.take i) (Y0 a i)).isSome
def Q6 (l:List Cla):List Cla:=F8++l
def Ia (a:Cla→Int) (l:List Cla):Option (Int×Int):=match L4 a l 0 with
 | some (i,e)=>some (i,e)
 | none=>match Eh (Q6 l) with
  | some i=>some ((i:Int)-8,60)
  | none=>match L4 (fun c=>(L5 (Q6 l) c:Int)) l 0 with
   | some (i,e)=>some (i,e)
   | none=>match l.findIdx? (I7 (Q6 l)) with
    | some i=>some (i,63)
    | none=>match (V5 (Q6 l) 8).find? fun j=> !decide (V2 (Q6 l) ((Q6 l).getD j Cla.zero)=0) with
     | some j=>some ((j:Int)-8,V2 (Q6 l) ((Q6 l).getD j Cla.zero))
     | none=>none
theorem Q4s {s:X0} (h:name s=true):s.length≤32:=by
 cases s with
 | nil=>simp
 | cons c r=>simp only[name,Bool.and_eq_true,decide_eq_true_eq] at h;exact h.1.1
theorem Q8X {s:X0} (h:W3 s=true):s.length≤32:=Q4s (Wd (by rw[h,Bool.or_true]))
theorem Q6V {s:X0} (h:L7 s=true):s.length≤32:=by
 cases s with
 | nil=>simp
 | cons c r=>simp only[L7,Bool.and_eq_true] at h;exact Q4s h.1
theorem Q1u {a:List Cla} (h:Eh a=none):I0 a:=by
 unfold Eh at h
 rw[List.find?_eq_none] at h
 unfold I0
 rw[List.nodup_iff_pairwise_ne,List.pairwise_iff_getElem]
 intro i j k b g e
 simp only[List.length_map] at k b
 have:=h j (by simp;exact b)
 apply this
 simp only[List.getElem_map] at e
 cases d:Y5 (a.take j) (Y0 a j) with
 | some _=>rfl
 | none=>
  have c:=List.findIdx?_eq_none_iff.1 d a[i] (List.mem_take_iff_getElem.2 ⟨i,by omega,rfl⟩)
  have f:Y0 a j=a[j].name:=by unfold Y0;rw[List.getD_eq_getElem?_getD,List.getElem?_eq_getElem b];rfl
  rw[f] at c
  simp[e] at c
theorem Zr: ∀c∈F8,T7 c∧Nm c∧c.like=[]:=by
 have h: ∀c∈F8,(c.like=[]∧c.methods=[]∧c.fields.length≤1∧c.name.length≤100∧ ∀f∈c.fields,f.name.length≤100∧f.kind.length≤100):=by decide
 intro c e
 obtain ⟨b,a,i,d,g⟩:=h c e
 refine ⟨⟨by rw[b];simp,by omega,by rw[a];simp,by rw[a];simp⟩,⟨d,g,by rw[a];simp⟩,b⟩
theorem Q8U: ∀c∈F8,(c.name=Z7∧J3 c=[[]])∨(c.name=W0∧J3 c=[Z7])∨(c.name∈Z9∧J3 c=[W0]):=by decide
theorem Q83 {l:List Cla} (q:I0 (Q6 l)) (r: ∀c∈l,c.name≠[]) (v: ∀c∈l,I7 (Q6 l) c=false):Yp (Q6 l):=by
 have k:lk (Q6 l) []=none:=by
  cases h:lk (Q6 l) [] with
  | none=>rfl
  | some c=>
   obtain ⟨e,hm,_⟩:=U7 h
   rcases List.mem_append.1 hm with hm | hm
   ·have: ∀c∈F8,c.name≠[]:=by decide
    exact absurd e (this c hm)
   ·exact absurd e (r c hm)
 have j:lk (Q6 l) Z7=some ⟨Z7,[],[],false,false,false,[],[]⟩:=q.lk (c:=⟨Z7,[],[],false,false,false,[],[]⟩) (List.mem_append_left _ (by decide))
 have i:lk (Q6 l) W0=some ⟨W0,Z7,[],false,false,false,[⟨K7,N7,false⟩],[]⟩:=q.lk (c:=⟨W0,Z7,[],false,false,false,[⟨K7,N7,false⟩],[]⟩) (List.mem_append_left _ (by decide))
 have o: ∀b,¬Reach (lk (Q6 l)) [] b:=fun b h=>by obtain ⟨c,f⟩:=h.left;rw[k] at f;cases f
 have p: ∀b,Reach (lk (Q6 l)) Z7 b→b=Z7:=by
  intro b h
  cases h with
  | refl=>rfl
  | step f d g=>
   rw[j] at f;cases f
   simp[J3] at d;subst d
   exact absurd g (o b)
 have t: ∀b,Reach (lk (Q6 l)) W0 b→b=W0∨b=Z7:=by
  intro b h
  cases h with
  | refl=>exact .inl rfl
  | step f d g=>
   rw[i] at f;cases f
   simp[J3] at d;subst d
   exact .inr (p b g)
 rintro a ⟨c,f,u,d,g⟩
 obtain ⟨e,hm,_⟩:=U7 f
 rcases List.mem_append.1 hm with hm | hm
 ·rcases Q8U c hm with ⟨m,n⟩ | ⟨m,n⟩ | ⟨m,n⟩<;>rw[n] at d<;>simp at d<;>subst d
  ·exact o _ g
  ·have:=p _ g
   rw[←e,m] at this
   exact absurd this (by decide)
  ·have y: ∀x∈Z9,x≠W0∧x≠Z7:=by decide
   obtain ⟨s,w⟩:=y _ m
   rw[←e] at g
   rcases t _ g with h | h
   ·exact s h
   ·exact w h
 ·have:=v c hm
  unfold I7 at this
  have z:=List.any_eq_false.1 this u d
  apply z
  rw[List.contains_iff_mem,Zz,e];exact g
end Go.Hm
namespace Go.Proofs.YtfppjenblllfaaaGreatDoor
open Go.Emb Go.RowKit Go.Kd Go.Hm
theorem Q2d {s:X0} (h:right s=true):s.length≤38:=by
 simp only[right,Bool.and_eq_true,decide_eq_true_eq] at h
 have e:=Q0e s
 have:(base s).1.length≤32:=by
  have d:=h.2
  have a:=Wd d
  cases b:(base s).1 with
  | nil=>simp
  | cons c r=>
   rw[b] at a
   simp only[name,Bool.and_eq_true,decide_eq_true_eq] at a
   exact a.1.1
 omega
theorem Q0I {c:Cla} (h:M3 c=0):T7 c∧Nm c∧c.name≠[]:=by
 unfold M3 at h
 split at h
 ·cases h
 ·rename_i b
  split at h
  ·rename_i g
   simp only[Yd,Bool.or_eq_true,decide_eq_true_eq,not_or,List.any_eq_true,not_exists,not_and] at b
   obtain ⟨⟨⟨r,A⟩,w⟩,t⟩:=b
   simp only[Wm,Bool.and_eq_true] at g
   obtain ⟨⟨⟨⟨⟨⟨⟨⟨l,y⟩,u⟩,z⟩,B⟩,s⟩,v⟩,k⟩,q⟩:=g
   have a:W3 c.name=true:=List.all_eq_true.1 l c.name (by simp)
   have d: ∀m∈c.methods,m.params.length≤32∧m.catches.length≤32∧m.code.length≤200:=fun m b=>by
    have:=r m b
    simp only[Uo,Bool.or_eq_true,decide_eq_true_eq,not_or] at this
    omega
   refine ⟨⟨by omega,by omega,by omega,fun m b=>by have:=d m b;unfold SmM;omega⟩,⟨by have:=Q8X a;omega,fun f n=>?_,fun m b=>?_⟩,fun e=>by rw[e] at a;simp[W3] at a⟩
   ·have:=List.all_eq_true.1 k f n
    simp only[Oi,Bool.and_eq_true] at this
    have j:=Q6V this.1
    have i:=Q2d this.2
    omega
   ·have:=List.all_eq_true.1 q m b
    simp only[B4,Bool.and_eq_true,Bool.or_eq_true,decide_eq_true_eq,List.all_eq_true] at this
    obtain ⟨⟨⟨_,j⟩,i⟩,_⟩:=this
    refine ⟨?_,fun p o=>by have:=Q2d (j p o);omega⟩
    rcases i with e | e
    ·rw[e];simp
    ·have:=Q2d e;omega
  ·cases h
end Go.Proofs.YtfppjenblllfaaaGreatDoor

namespace Go.Hm
open Go.Kd
theorem Up {α:Type} {f:α→Int} {xs:List α} {n:Nat} (h:n<xs.length) (a:L4 f xs 0=L4 f (xs.drop n) n):L4 f xs 0=if f xs[n]=0 then L4 f (xs.drop (n+1)) (n+1) else some (n,f xs[n]):=by
 rw[a,List.drop_eq_getElem_cons h];rfl
theorem Q73 {a:List Cla} {n:Nat} (h:n<a.length) (k:X0):Y5 (a.take (n+1)) k=match Y5 (a.take n) k with
 | some i=>some i
 | none=>if a[n].name=k then some n else none:=by
 unfold Y5
 rw[List.take_add_one,List.getElem?_eq_getElem h]
 simp only[Option.toList_some,List.findIdx?_append]
 cases (a.take n).findIdx? fun c=>decide (c.name=k) with
 | some i=>rfl
 | none=>
  simp only[Option.none_or,List.findIdx?_cons,List.findIdx?_nil,List.length_take]
  by_cases e:a[n].name=k
  ·simp[e];omega
  ·simp[e]
end Go.Hm
namespace Go.Proofs.YtfppjenblllfaaaGreatDoor
open Go.Emb Go.RowKit Go.Kd Go.Hm
variable {w : World} {K : Value → World → Prop} {σ : Q4} {v : Value} {l : List Cla}
theorem Bu {a:List Cla} {n:Nat} (h:n<a.length):Y0 a n=a[n].name:=by unfold Y0;rw[List.getD_eq_getElem?_getD,List.getElem?_eq_getElem h];rfl
set_option maxHeartbeats 1000000 in
theorem X2c {lv:Value} (hs:X4 w σ) (hg:Glb σ) (hl:Sl 8 U8 σ lv l) (hlen:l.length≤1000) (hsm: ∀c∈l,T7 c)
 (h1: ∀i e w' σ',Ia M3 l=some (i,e)→Stp w σ w' σ'→K (.tuple #[.pointer none,I i,I e]) w')
 (h0: ∀v w' σ',Ia M3 l=none→Stp w σ w' σ'→Tab σ' v (Q6 l)→Ok (Q6 l)→I0 (Q6 l)→K (.tuple #[v,I 0,I 0]) w'):Q1 P F.cI [lv] w K:=Q7o (by
 unfold Q24
 have hgl:F8.length=8:=rfl
 have hal:(Q6 l).length=8+l.length:=by simp[Q6,hgl]
 refine X0y hs hg fun x0 w1 σ1 hk1 ha1=>?_
 refine Tz hk1.sat fun r w2 hr hk2 hm2=>?_
 have ha2:=ha1.up hk2
 have hx0:x0.cells= #[x0]∧x0.oneCell'=true:=Q38 ha1
 have hx0s: ∃a n c,x0= .slice a n c:=by
  obtain ⟨cells,q1,_⟩:=ha1
  rcases q1.2 with ⟨rfl,_⟩ | ⟨g,cap,cur,rfl,_⟩<;>exact ⟨_,_,_,rfl⟩
 have hx0r:x0.ownBlock≠some r:=fun e=>by have:=(ha1.mem r e).2.1;omega
 obtain ⟨a0,n0,c0,hx0e⟩:=hx0s
 rw[hx0e]
 refine W1 (cells:= #[.slice a0 n0 c0, .map (some r)]) (by kernel_rfl) ?_
 rw[←hx0e]
 refine Po (cs:=[x0, .map (some r)]) hk2.sat fun bt w3 σ3 hbt hk3 hbm=>?_
 have hS3:=(hk1.trans hk2).trans hk3
 have ha3:=ha2.up hk3
 have hm3:=hm2.up hk3
 have hrw:w.heap.size≤r:=Nat.le_trans hk1.bel.size hr
 have hrl:r<w2.heap.size:=hm2.lt
 have hbtw:w.heap.size≤bt:=Zc hbt (hk1.trans hk2)
 have hrbt:r≠bt:=by omega
 have hx0b:x0.ownBlock≠some bt:=fun e=>by have:=(ha2.mem bt e).2.1;omega
 rw[E8,fa]
 refine Uh hbm rfl ?_
 refine Q7u ha3 ?_
 rw[hgl]
 have hl3:=hl.up hS3
 refine Q8 hl3 ?_
 -- classes, each by itself
 refine J4 l.length (fun n w'=> ∃σ' x,Stp w σ w' σ'∧SLe σ3 σ'∧Z5 σ' w' bt [x, .map (some r)]∧V8 w.heap.size T.a 8 U8 σ' w' x (F8++l.take n)∧E2 σ' w' r []∧x.ownBlock≠some bt∧x.ownBlock≠some r∧L4 M3 l 0=L4 M3 (l.drop n) n)
  ⟨σ3,x0,hS3,SLe.refl _,hbm,by simpa using ha3,hm3,hx0b,hx0r,rfl⟩ fun n w4 d hn hinv=>?_
 obtain ⟨σ4,x,hS4,le4,hb4,ha4,hm4,hxb,hxr,hfb⟩:=hinv
 refine Y8 ?_
 refine Q5 (fun hh=>?_) (fun hh=>?_)
 ·have hn':n<l.length:=by simpa using hh
  refine W6 (hl3.lift le4) hn' fun p cells hl1 hl2 hr1=>?_
  refine Z1 hS4.sat hl1 hl2 ?_
  refine Y4 hS4.sat (by rfl) hl2 (Rep.one hr1) fun q w5 σ5 hk5 hq5=>?_
  have hS5:=hS4.trans hk5
  have hr5:=RCl_lift hr1 ⟨hk5.le⟩
  refine Z1 hk5.sat hq5 hl2 ?_
  have hsmn:=hsm _ (List.getElem_mem hn')
  refine X1e hk5.sat (hg.lift ⟨hS5.le⟩) hr5 hsmn.1 fun w6 σ6 hk6=>?_
  have hS6:=hS5.trans hk6
  have hfb2:=Up hn' hfb
  refine P4 ?_
  refine Q5 (fun hh2=>?_) (fun hh2=>?_)
  ·have hne: ¬M3 l[n]=0:=by simpa using hh2
   rw[if_neg hne] at hfb2
   refine h1 _ _ _ _ ?_ hS6
   unfold Ia
   rw[hfb2]
  ·have hz:M3 l[n]=0:=by simpa using hh2
   rw[if_pos hz] at hfb2
   have hk56:=hk5.trans hk6
   have hb6:=hb4.up hk56
   have ha6:=ha4.up hk56
   have hm6:=hm4.up hk56
   have hq6:=hq5.up hk6
   have hr6:=RCl_lift hr5 ⟨hk6.le⟩
   have hxs: ∀k,x.ownBlock=some k→k<w6.heap.size:=fun k hk=>(ha6.mem k hk).2.1
   refine V3 hk6.sat ?_
   refine X2 (.pointer (some ⟨bt,0,none⟩)) (fun w hb=>by rw[E8];exact X6 rfl) ?_
   refine X2 (.pointer (some ((⟨bt,0,none⟩:Addr).add 0))) (fun t w hb e=>by rw[e,fa];exact X6 rfl) ?_
   refine X2 x (fun t w hb e=>by rw[e];exact Uh (hb6.step hb.stp) rfl (X6 rfl)) ?_
   refine X2 (.agg cells.toArray) (fun w hb=>Z1 hb.sat hq6 hl2 (X6 rfl)) ?_
   refine Rx (Φ:=fun σ' v=> ∃ds:List Value,v= .agg ds.toArray∧ds.length=8∧U8 σ' l[n] ds) (fun t w hb e=>by
    rw[e];exact Q9s hb.sat hr6 hsmn fun lv fv mv w' σ' hk hrc=>Q19 hb hk ⟨_,rfl,rfl,hrc⟩) ?_
   refine Rx (w:=w6) (σ:=σ6) (Φ:=fun σ' v=>Sl 8 U8 σ' v [l[n]]) (fun t w hb e=>by
    obtain ⟨σ',hk,ds,rfl,hd1,hd2⟩:=e
    refine N5 (R:=U8) (sz:=8) hk.sat [.agg ds.toArray] [l[n]] rfl rfl (by simpa [Value.cells] using hd1) rfl ⟨by simpa [Value.cells] using hd2,trivial⟩ fun u w2 σ2 hk2 hu=>?_
    exact ⟨hk2.bel,σ2,hk.trans hk2,hu⟩) ?_
   rintro t43 t44 t45 t46 t47 t48 w7 hb7 _ _ e45 _ _ ⟨σ8,hk8,hu8⟩
   subst e45
   have hS8:=hS6.trans hk8
   have hb8:=hb6.up hk8
   have ha8:=ha6.up hk8
   have hm8:=hm6.up hk8
   have hbl:=hb6.lt
   have hml:=hm6.lt
   refine Dl hS8 ha8 hu8 rfl (by simp[hgl];omega) (by simp[hgl];omega) fun x' w9 hn9 hS9 ha9 hat9=>?_
   have hb9:=hb8.nx hn9 hxb
   have hm9:=hm8.nx hn9 hxr
   have hxb':x'.ownBlock≠some bt:=fun e=>by
    rcases hat9 with e2 | e2
    ·exact hxb (e2▸e)
    ·have:=e2 bt e;have:=hk8.bel.size;omega
   have hxr':x'.ownBlock≠some r:=fun e=>by
    rcases hat9 with e2 | e2
    ·exact hxr (e2▸e)
    ·have:=e2 r e;have:=hk8.bel.size;omega
   obtain ⟨hxc1,hxc2⟩:=Q38 ha9
   rw[E8,fa]
   refine Nb hb9 (by simp) hxc1 hxc2 fun w10 u10 hb10=>?_
   have hS10:=u10.stp hS9 hbtw hb9.1
   have k10:Kpt (fun k=>k=bt) w9 w10:=Kpt.of_upd u10 rfl
   refine O3 ?_
   refine Y3 hl3.max hn' ⟨σ8,x',hS10,le4.more ⟨fun b o e=>hk8.le _ _ (hk56.le _ _ e)⟩,hb10,?_,hm9.kp k10 hrbt,hxb',hxr',hfb2⟩
   have:=ha9.kp k10 fun k hk e=>hxb' (e▸hk)
   rw[List.take_add_one,List.getElem?_eq_getElem hn',←List.append_assoc]
   exact this
 have hn': ¬n<l.length:=by simpa using hh
 rw[List.take_of_length_le (by omega)] at ha4
 rw[List.drop_eq_nil_of_le (by omega)] at hfb
 have hfb:L4 M3 l 0=none:=hfb
 have hck:=Xq hfb
 have hcf: ∀c∈l,T7 c∧Nm c∧c.name≠[]:=fun c hc=>Q0I (hck c hc)
 have hsmall: ∀c∈Q6 l,T7 c:=fun c hc=>by
  rcases List.mem_append.1 hc with hc | hc
  ·exact (Zr c hc).1
  ·exact (hcf c hc).1
 have hnmall: ∀c∈Q6 l,Nm c:=fun c hc=>by
  rcases List.mem_append.1 hc with hc | hc
  ·exact (Zr c hc).2.1
  ·exact (hcf c hc).2.1
 have hlenall:(Q6 l).length≤100000:=by omega
 unfold Ia at h1 h0
 rw[hfb] at h1 h0
 simp only at h1 h0
 -- from now on the classes stay
 obtain ⟨σ5,hS5,hv5,le5,old5⟩:=ha4.keep hS4
 have hb5:Z5 σ5 w4 bt _:=⟨(old5 bt fun e=>hxb e.symm).trans hb4.1,hb4.2⟩
 have hm5:E2 σ5 w4 r []:=⟨(old5 r fun e=>hxr e.symm).trans hm4.1,hm4.2⟩
 obtain ⟨σ6,hS6,hb6,le6,old6⟩:=hb5.keep hS5 hbtw
 have hm6:E2 σ6 w4 r []:=⟨(old6 r hrbt).trans hm5.1,hm5.2⟩
 have hv6:Sl 8 U8 σ6 x (Q6 l):=hv5.le le6
 clear hb5 hb4 ha4
 rw[E8,fa]
 refine ld hS6.sat hb6 rfl ?_
 refine Q8 hv6 ?_
 refine J4 (Q6 l).length (fun n w'=> ∃σ' m,Stp w σ w' σ'∧SLe σ6 σ'∧E2 σ' w' r m∧(∀k,L9 m k=(Y5 ((Q6 l).take n) k).map (fun i:Nat=>I (i:Int)))∧ ∀j,j<n→(Y5 ((Q6 l).take j) (Y0 (Q6 l) j)).isSome=false)
  ⟨σ6,[],hS6,SLe.refl _,hm6,by simp[L9,Y5],by intro j hj;omega⟩ fun n w5 d hn2 hinv=>?_
 obtain ⟨σ7,m,hS7,le7,hm7,hlm,hnd⟩:=hinv
 refine Y8 ?_
 refine Q5 (fun hh2=>?_) (fun hh2=>?_)
 ·have hn3:n<(Q6 l).length:=by simpa using hh2
  refine W6 (hv6.lift le7) hn3 fun p cells hl1 hl2 hr1=>?_
  refine Z1 hS7.sat hl1 hl2 ?_
  refine Y4 hS7.sat (by rfl) hl2 (Rep.one hr1) fun q w6 σ8 hk8 hq8=>?_
  obtain ⟨lv',fv,mv,rfl,f1,f2,f3,f4,f5⟩:=hr1
  have hS8:=hS7.trans hk8
  have le8:SLe σ6 σ8:=le7.more ⟨hk8.le⟩
  have hm8:=hm7.up hk8
  have hb8:=hb6.lift le8
  rw[fa]
  refine ld hk8.sat hq8 rfl ?_
  refine Nx ?_
  unfold Zm
  rw[E8,fa]
  refine ld hk8.sat hb8 rfl ?_
  refine Q4V X8 hm8.2 _ ?_
  refine U9 (vs:=[_,_]) rfl ?_
  refine U9 (vs:=[_,_]) rfl ?_
  have hna:=Bu hn3
  have hfd:=hlm (Q6 l)[n].name
  cases hfc:Y5 ((Q6 l).take n) (Q6 l)[n].name with
  | some i=>
   rw[hfc] at hfd
   rw[hfd]
   refine U1 ?_
   have hdup:Eh (Q6 l)=some n:=by
    unfold Eh
    rw[List.find?_range_eq_some]
    refine ⟨by rw[hna,hfc];rfl,by simpa using hn3,fun j hj=>by rw[hnd j hj];rfl⟩
   refine Dx ⟨by omega,by omega⟩ ?_
   refine h1 _ _ _ _ ?_ hS8
   rw[hdup]
   rfl
  | none=>
   rw[hfc] at hfd
   rw[hfd]
   refine J9 ?_
   refine V3 hk8.sat ?_
   refine X2 (.pointer (some ⟨bt,0,none⟩)) (fun w hb=>by rw[E8];exact X6 rfl) ?_
   refine X2 (.pointer (some ((⟨bt,0,none⟩:Addr).add 1))) (fun t w hb e=>by rw[e,fa];exact X6 rfl) ?_
   refine X2 (.pointer (some (q.add 0))) (fun w hb=>by rw[fa];exact X6 rfl) ?_
   refine X2 (.map (some r)) (fun t w hb e=>by rw[e];exact ld hb.sat hb8 rfl (X6 rfl)) ?_
   refine X2 (S (Q6 l)[n].name) (fun t w hb e=>by rw[e];exact ld hb.sat hq8 rfl (X6 rfl)) ?_
   rintro t71 t72 t74 t73 t75 w9 hb9 _ _ _ rfl rfl
   refine Dh X8 (hm8.up hb9.stp) _ (I n) fun w10 u10 hm10=>?_
   have hS9:=hS8.trans hb9.stp
   have hS10:=u10.stp hS9 hrw hm10.1
   refine O3 ?_
   refine Y3 (by omega) hn3 ⟨σ8,_,hS10,le8,hm10,fun k=>?_,fun j hj=>?_⟩
   ·rw[Q36,Q73 hn3 k]
    by_cases e:(Q6 l)[n].name=k
    ·subst e
     rw[if_pos rfl,hfc];simp
    ·rw[if_neg e,hlm k]
     cases Y5 ((Q6 l).take n) k with
     | some i=>rfl
     | none=>simp[e]
   ·by_cases e:j=n
    ·subst e;rw[hna,hfc];rfl
    ·exact hnd j (by omega)
 have hn3: ¬n<(Q6 l).length:=by simpa using hh2
 have hne:n=(Q6 l).length:=by omega
 subst hne
 rw[List.take_of_length_le (Nat.le_refl _)] at hlm
 have hdup:Eh (Q6 l)=none:=by
  unfold Eh
  rw[List.find?_eq_none]
  intro j hj
  rw[hnd j (by simpa using hj)];simp
 rw[hdup] at h1 h0
 simp only at h1 h0
 have hown:=Q1u hdup
 obtain ⟨σ8,hS8,hm8,le8,_⟩:=hm7.keep hS7 hrw
 have le68:SLe σ6 σ8:=le7.more ⟨le8⟩
 have ht8:Tab σ8 (.pointer (some ⟨bt,0,none⟩)) (Q6 l):=⟨⟨bt,0,none⟩,x,r,m,rfl,hb6.lift le68,hv6.lift le68,hm8,hlm⟩
 have hb8:=hb6.lift le68
 have hv8:=hv6.lift le68
 clear hm7 hm8 hh2 hn3 hn2 hh hn' hn hnd
 have hdr:(Q6 l).drop 8=l:=by simp[Q6,hgl]
 rw[E8,fa]
 refine ld hS8.sat hb8 rfl ?_
 refine Hn hv8 (some (I (8:Nat))) none 8 (Q6 l).length (.inr rfl) (.inl ⟨rfl,rfl⟩) (by omega) (Nat.le_refl _) fun v9 hv9=>?_
 rw[hdr,List.take_of_length_le (by omega)] at hv9
 refine Q8 hv9 ?_
 refine J4 l.length (fun n w'=> ∃σ',Stp w σ w' σ'∧SLe σ8 σ'∧L4 (fun c=>(L5 (Q6 l) c:Int)) l 0=L4 (fun c=>(L5 (Q6 l) c:Int)) (l.drop n) n) ⟨σ8,hS8,SLe.refl _,rfl⟩ fun n w6 d hn hinv=>?_
 obtain ⟨σ9,hS9,le9,hfu⟩:=hinv
 refine Y8 ?_
 refine Q5 (fun hh=>?_) (fun hh=>?_)
 ·have hn':n<l.length:=by simpa using hh
  refine W6 (hv9.lift le9) hn' fun p cells hl1 hl2 hr1=>?_
  refine Z1 hS9.sat hl1 hl2 ?_
  refine Y4 hS9.sat (by rfl) hl2 (Rep.one hr1) fun q w7 σ10 hk10 hq10=>?_
  have hS10:=hS9.trans hk10
  refine Z1 hk10.sat hq10 hl2 ?_
  have hfu2:=Up hn' hfu
  refine Q9f hk10.sat (ht8.lift (le9.more ⟨hk10.le⟩)) (RCl_lift hr1 ⟨hk10.le⟩) fun w8 σ11 hk11=>?_
  refine P4 ?_
  refine Q5 (fun hh2=>?_) (fun hh2=>?_)
  ·have hne: ¬(L5 (Q6 l) l[n]:Int)=0:=by simpa using hh2
   rw[if_neg hne] at hfu2
   refine h1 _ _ _ _ ?_ (hS10.trans hk11)
   rw[hfu2]
  ·have hz:(L5 (Q6 l) l[n]:Int)=0:=by simpa using hh2
   rw[if_pos hz] at hfu2
   refine O3 ?_
   exact Y3 hl3.max hn' ⟨σ11,hS10.trans hk11,le9.more ⟨fun b o e=>hk11.le _ _ (hk10.le _ _ e)⟩,hfu2⟩
 have hn': ¬n<l.length:=by simpa using hh
 rw[List.drop_eq_nil_of_le (by omega)] at hfu
 have hfu:L4 (fun c=>(L5 (Q6 l) c:Int)) l 0=none:=hfu
 rw[hfu] at h1 h0
 simp only at h1 h0
 have hup:=Xq hfu
 have ht9:=ht8.lift le9
 clear hh hn' hn
 rw[E8,fa]
 refine ld hS9.sat (hb8.lift le9) rfl ?_
 refine Hn (hv8.lift le9) (some (I (8:Nat))) none 8 (Q6 l).length (.inr rfl) (.inl ⟨rfl,rfl⟩) (by omega) (Nat.le_refl _) fun v10 hv10=>?_
 rw[hdr,List.take_of_length_le (by omega)] at hv10
 rw[Qs]
 refine Ce (I7 (Q6 l)) hS9.sat hv10 (fun c cs w7 K hc hs7 hr hlen hK=>Y7 (first:=[.pointer (some ⟨bt,0,none⟩)]) (caps:=[]) ?_) fun w7 hb7=>?_
 ·exact X0p hs7 ht9 hlenall hsmall hr fun w' σ' hk=>hK w' hk.bel
 have hS10:=hS9.trans (Stp.of_below hS9.sat hb7)
 refine F0 ?_
 rw[Ja]
 cases hlo:l.findIdx? (I7 (Q6 l)) with
 | some i=>
  refine U1 ?_
  refine h1 _ _ _ _ ?_ hS10
  rw[hlo];rfl
 | none=>
  rw[hlo] at h1 h0
  simp only at h1 h0
  refine J9 ?_
  have hlo': ∀c∈l,I7 (Q6 l) c=false:=fun c hc=>List.findIdx?_eq_none_iff.1 hlo c hc
  have hacy:=Q83 hown (fun c hc=>(hcf c hc).2.2) hlo'
  have hfull:Q9t (Q6 l):=fun c hc u hu=>by
   rcases List.mem_append.1 hc with hc | hc
   ·rw[(Zr c hc).2.2] at hu;simp at hu
   ·have:=hup c hc
    unfold L5 at this
    split at this
    ·simp at this
    ·split at this
     ·simp at this
     ·rename_i hnb
      have hnb:c.like.any (O8 (Q6 l))=false:=eq_false_of_ne_true hnb
      have:=List.any_eq_false.1 hnb u hu
      unfold O8 at this
      cases hd:lk (Q6 l) u with
      | none=>rw[hd] at this;simp at this
      | some d=>exact ⟨d,rfl⟩
  have hok:Ok (Q6 l):=⟨hacy,hlenall,hsmall,hfull,hnmall⟩
  refine X0I (frm:=8) hS10.sat (ht9.lift ⟨(Stp.of_below hS9.sat hb7).le⟩) hacy hown hlenall hsmall (by omega) (by omega) fun v11 w8 σ11 hk11 hv11 hol hoi=>?_
  have hS11:=hS10.trans hk11
  have ht11:=ht9.lift ⟨fun b o e=>hk11.le _ _ e⟩
  refine Q8 hv11 ?_
  have hil:(ints (V5 (Q6 l) 8)).length=(V5 (Q6 l) 8).length:=by simp
  rw[hil]
  refine J4 (V5 (Q6 l) 8).length (fun n w'=> ∃σ',Stp w σ w' σ'∧SLe σ11 σ'∧ ∀j∈(V5 (Q6 l) 8).take n,V2 (Q6 l) ((Q6 l).getD j Cla.zero)=0) ⟨σ11,hS11,SLe.refl _,by simp⟩ fun n w9 d hn hinv=>?_
  obtain ⟨σ12,hS12,le12,hno⟩:=hinv
  refine Y8 ?_
  refine Q5 (fun hh=>?_) (fun hh=>?_)
  ·have hn':n<(V5 (Q6 l) 8).length:=by simpa using hh
   refine W6 (hv11.lift le12) (by rw[hil];exact hn') fun p cells hl1 hl2 hr1=>?_
   obtain ⟨rfl,_⟩:=hr1
   refine X7 hS12.sat hl1 rfl ?_
   simp only[List.getElem_map]
   rw[E8,fa]
   have le8x:SLe σ8 σ12:=le9.more (SLe.more ⟨hk11.le⟩ le12)
   refine ld hS12.sat (hb8.lift le8x) rfl ?_
   have hji:=hoi _ (List.getElem_mem hn')
   refine W6 (hv8.lift le8x) hji fun p2 cells hl1 hl2 hr1=>?_
   refine Z1 hS12.sat hl1 hl2 ?_
   have hat:(Q6 l).getD (V5 (Q6 l) 8)[n] Cla.zero=(Q6 l)[(V5 (Q6 l) 8)[n]]:=by rw[List.getD_eq_getElem?_getD,List.getElem?_eq_getElem hji];rfl
   have hmem:=List.getElem_mem hji
   refine Q7N hS12.sat (ht11.lift le12) hok hr1 (hsmall _ hmem) (hnmall _ hmem) fun w10 σ13 hk13=>?_
   have hS13:=hS12.trans hk13
   refine P4 ?_
   refine Q5 (fun hh2=>?_) (fun hh2=>?_)
   ·have hne: ¬V2 (Q6 l) (Q6 l)[(V5 (Q6 l) 8)[n]]=0:=by simpa using hh2
    refine Dx ⟨by omega,by omega⟩ ?_
    have hfind:(V5 (Q6 l) 8).find? (fun j=> !decide (V2 (Q6 l) ((Q6 l).getD j Cla.zero)=0))=some (V5 (Q6 l) 8)[n]:=by
     rw[List.find?_eq_some_iff_getElem]
     refine ⟨by rw[hat];simpa using hne,n,hn',rfl,fun j hj=>?_⟩
     have:=hno _ (List.mem_take_iff_getElem.2 ⟨j,by omega,rfl⟩)
     rw[this];simp
    have:=h1 (((V5 (Q6 l) 8)[n]:Int)-8) (V2 (Q6 l) (Q6 l)[(V5 (Q6 l) 8)[n]]) w10 σ13 (by rw[hfind];simp only[hat]) hS13
    exact this
   ·have hz:V2 (Q6 l) (Q6 l)[(V5 (Q6 l) 8)[n]]=0:=by simpa using hh2
    refine O3 ?_
    refine Y3 (by omega) hn' ⟨σ13,hS13,le12.more ⟨hk13.le⟩,fun j hj=>?_⟩
    rw[List.take_add_one,List.getElem?_eq_getElem hn'] at hj
    rcases List.mem_append.1 hj with hj | hj
    ·exact hno j hj
    ·simp at hj;subst hj;rw[hat];exact hz
  ·have hn': ¬n<(V5 (Q6 l) 8).length:=by simpa using hh
   rw[List.take_of_length_le (by omega)] at hno
   have hfind:(V5 (Q6 l) 8).find? (fun j=> !decide (V2 (Q6 l) ((Q6 l).getD j Cla.zero)=0))=none:=by
    rw[List.find?_eq_none]
    intro j hj
    rw[hno j hj];simp
   rw[hfind] at h0
   exact h0 _ _ _ rfl hS12 (ht11.lift le12) hok hown)
end Go.Proofs.YtfppjenblllfaaaGreatDoor

namespace Go.Hm
open Go.Kd
def Q8z (m:Hm.Met):Bool:= !(decide (50<m.code.length)||decide (8<m.params.length)||decide (8<m.catches.length))
def Q9n (c:Cla):Bool:= !(decide (6<c.like.length)||decide (6<c.fields.length)||decide (6<c.methods.length))&&c.methods.all Q8z
def Q9v (l:List Cla):Bool:= !decide (12<l.length)&&l.all Q9n
theorem Q7Z {l:List Cla} (h:Q9v l=true):l.length≤12∧ ∀c∈l,Q9n c=true:=by
 simp only[Q9v,Bool.and_eq_true,Bool.not_eq_true',decide_eq_false_iff_not,List.all_eq_true] at h
 exact ⟨by omega,h.2⟩
theorem X1n {l:List Cla} (h:Q9v l=true): ∀c∈l,T7 c:=by
 intro c f
 have:=(Q7Z h).2 c f
 simp only[Q9n,Q8z,Bool.and_eq_true,Bool.not_eq_true',Bool.or_eq_false_iff,decide_eq_false_iff_not,List.all_eq_true] at this
 obtain ⟨⟨⟨a,b⟩,g⟩,d⟩:=this
 refine ⟨by omega,by omega,by omega,fun m e=>?_⟩
 obtain ⟨⟨p,q⟩,r⟩:=d m e
 exact ⟨by omega,by omega,by omega⟩
end Go.Hm
namespace Go.Proofs.YtfppjenblllfaaaGreatDoor
open Go.Emb Go.RowKit Go.Kd Go.Hm
variable {w : World} {K : Value → World → Prop} {σ : Q4} {v : Value} {l : List Cla}
end Go.Proofs.YtfppjenblllfaaaGreatDoor

namespace Go.Proofs.YtfppjenblllfaaaGreatDoor
open Go.Emb Go.RowKit Go.Kd Go.Hm
variable {w : World} {K : Value → World → Prop} {σ : Q4} {v : Value} {l : List Cla}
theorem X2p:P.underlying T.r=some (.pointer T.v):=by kernel_rfl
theorem Q8W (d:Nat) (o:Option Addr):(Op.equalIn (d+1) T.r (.pointer o) (.pointer none)).run P w= .ok o.isNone w:=by
 cases o<;>simp[Op.equalIn,run_underlying X2p]
theorem Q8M {a:Addr} {c b:Operand} (h:K (.bool false) w):Q3 P .eql T.r c b (.pointer (some a)) (.pointer none) w K:=by
 have e:(Op.equal T.r (.pointer (some a)) (.pointer none)).run P w= .ok false w:=Q8W 9999 _
 unfold Q3
 rw[X9 (v:= .bool false) (w':=w) (by simp[eqGuard,Go.binOp,e])]
 exact h
end Go.Proofs.YtfppjenblllfaaaGreatDoor

namespace Go.Hm
open Go.Kd
theorem clas_name {s:X0} (h:W3 s=true):name s=true:=Wd (by rw[h,Bool.or_true])
theorem Q46 {a:X0} (h:name a=true):D7 a=false:=by
 cases d:D7 a with
 | false=>rfl
 | true=>
  exfalso
  have e:2≤a.length∧a.drop (a.length-2)=[91,93]:=by simpa [D7] using d
  have b:(93:UInt8)∈a:=List.mem_of_mem_drop (i:=a.length-2) (by rw[e.2];simp)
  cases a with
  | nil=>simp at b
  | cons c r=>
   simp only[name,Bool.and_eq_true,List.all_eq_true] at h
   have:=h.2 _ b
   revert this;decide
end Go.Hm
namespace Go.Proofs.YtfppjenblllfaaaGreatDoor
open Go.Emb Go.RowKit Go.Kd Go.Hm
theorem Q8I {a:X0} (h:name a=true):base a=(a,0):=by rw[Zx,Q46 h];simp
theorem De {s:X0} (h:W3 s=true):D7 s=false∧base s=(s,0)∧right s=true∧plain s=false∧elem s=[]∧s≠C7∧s≠[]:=by
 have a:=Hm.clas_name h
 have d:=Q46 a
 have c:=Q8I a
 refine ⟨d,c,?_,?_,by simp[elem,d],?_,?_⟩
 ·simp[right,c,h]
 ·cases b:plain s with
  | false=>rfl
  | true=>
   simp only[plain,Bool.or_eq_true,decide_eq_true_eq] at b
   rcases b with (e | e) | e<;>subst e<;>revert h<;>decide
 ·rintro rfl;revert h;decide
 ·rintro rfl;revert h;decide
structure Wf (l : List Cla) : Prop where
  ck : ∀ c ∈ l, M3 c = 0
  own : I0 (Q6 l)
  acy : Yp (Q6 l)
  up : ∀ c ∈ l, L5 (Q6 l) c = 0
  mem : ∀ c ∈ l, V2 (Q6 l) c = 0
section
variable {l : List Cla} (wf : Wf l)
include wf
theorem Wf.names {c:Cla} (hc:c∈Q6 l):W3 c.name=true:=by
 rcases List.mem_append.1 hc with hc | hc
 ·have: ∀c∈F8,W3 c.name=true:=by decide+kernel
  exact this c hc
 ·have:=wf.ck c hc
  unfold M3 at this
  split at this
  ·cases this
  ·split at this
   ·rename_i a
    simp only[Wm,Bool.and_eq_true] at a
    obtain ⟨⟨⟨⟨⟨⟨⟨⟨b,_⟩,_⟩,_⟩,_⟩,_⟩,_⟩,_⟩,_⟩:=a
    exact List.all_eq_true.1 b c.name (by simp)
   ·cases this
theorem Wf.lkn {n:X0} {c:Cla} (h:lk (Q6 l) n=some c):W3 n=true:=by
 obtain ⟨e,a,_⟩:=U7 h
 rw[←e];exact wf.names a
theorem Wf.root:lk (Q6 l) Z7=some ⟨Z7,[],[],false,false,false,[],[]⟩:=wf.own.lk (c:=⟨Z7,[],[],false,false,false,[],[]⟩) (List.mem_append_left _ (by decide))
theorem Wf.fault:lk (Q6 l) W0=some ⟨W0,Z7,[],false,false,false,[⟨K7,N7,false⟩],[]⟩:=wf.own.lk (c:=⟨W0,Z7,[],false,false,false,[⟨K7,N7,false⟩],[]⟩) (List.mem_append_left _ (by decide))
theorem Wf.super {c:Cla} (hc:c∈Q6 l):c.name=Z7∨ ∃d,lk (Q6 l) c.super=some d:=by
 rcases List.mem_append.1 hc with hc | hc
 ·have: ∀c∈F8,c.name=Z7∨c.super=Z7∨c.super=W0:=by decide
  rcases this c hc with h | h | h
  ·exact .inl h
  ·exact .inr ⟨_,h▸wf.root⟩
  ·exact .inr ⟨_,h▸wf.fault⟩
 ·right
  have:=wf.up c hc
  unfold L5 at this
  split at this
  ·cases this
  ·rename_i h
   unfold T3 at h
   cases a:lk (Q6 l) c.super with
   | none=>rw[a] at h;simp at h
   | some d=>exact ⟨d,rfl⟩
theorem Wf.atRoot {b:X0} (h:Hm.Reach (lk (Q6 l)) Z7 b):b=Z7:=by
 cases h with
 | refl=>rfl
 | step c a f=>
  rw[wf.root] at c;cases c
  simp[J3] at a;subst a
  obtain ⟨d,e⟩:=f.left
  exact absurd (wf.lkn e) (by decide)
theorem Wf.kind {n:X0} {c:Cla} (h:lk (Q6 l) n=some c):R9 (Q6 l) n=true:=by
 obtain ⟨f,b,a,e,i,g,d⟩:=De (wf.lkn h)
 have:Q12 (Q6 l) n=true:=by rw[Q29,h];rfl
 simp[R9,a,b,this]
theorem Wf.sub_iff {a b:X0}:H8 (Q6 l) a b=true↔R9 (Q6 l) a=true∧R9 (Q6 l) b=true∧(a=b∨(plain a=false∧plain b=false∧(a=C7∨(elem a≠[]∧b=Z7)∨(lk (Q6 l) a≠none∧Hm.Reach (lk (Q6 l)) a b)))):=by
 unfold H8
 cases m:R9 (Q6 l) a<;>cases j:R9 (Q6 l) b<;>simp
 by_cases e:a=b
 ·simp[e]
 cases pa:plain a<;>cases k:plain b<;>simp[e]
 by_cases f:a=C7
 ·simp[f]
 simp only[f,false_or]
 by_cases d:elem a=[]
 ·simp only[d,if_true,not_true_eq_false,false_and,false_or,Zz]
  constructor
  ·intro h;obtain ⟨c,i⟩:=h.left;exact ⟨by rw[i];simp,h⟩
  ·intro h;exact h.2
 ·simp only[d,if_false,not_false_eq_true,true_and]
  constructor
  ·exact .inl
  ·rintro (h | ⟨h,_⟩)
   ·exact h
   ·cases g:lk (Q6 l) a with
    | none=>exact absurd g h
    | some c=>exact absurd (De (wf.lkn g)).2.2.2.2.1 d
theorem Wf.sub_class {a b:X0} {c:Cla} (e:lk (Q6 l) a=some c):H8 (Q6 l) a b=true↔Hm.Reach (lk (Q6 l)) a b:=by
 obtain ⟨m,o,n,g,j,i,k⟩:=De (wf.lkn e)
 rw[wf.sub_iff]
 constructor
 ·rintro ⟨_,_,rfl | ⟨_,_,h | ⟨h,_⟩ | ⟨_,h⟩⟩⟩
  ·exact .refl e
  ·exact absurd h i
  ·exact absurd j h
  ·exact h
 ·intro h
  obtain ⟨d,f⟩:=h.right
  exact ⟨wf.kind e,wf.kind f, .inr ⟨g,(De (wf.lkn f)).2.2.2.1, .inr (.inr ⟨by rw[e];simp,h⟩)⟩⟩
end
end Go.Proofs.YtfppjenblllfaaaGreatDoor

namespace Go.Proofs.YtfppjenblllfaaaGreatDoor
open Go.Emb Go.RowKit Go.Kd Go.Hm
theorem Q5x {L:List Cla} (i:Yp L): ∀(k:Nat) {n:X0} {c:Cla},G1 L n<k→c∈chain L n→Hm.Reach (lk L) n c.name∧lk L c.name=some c:=by
 intro k
 induction k with
 | zero=>intro n c h;omega
 | succ k j=>
  intro n c p hc
  rw[G2 i] at hc
  cases a:lk L n with
  | none=>rw[a] at hc;simp at hc
  | some d=>
   rw[a] at hc
   have b:=(U7 a).1
   rcases List.mem_cons.1 hc with rfl | hc
   ·rw[b];exact ⟨.refl a,a⟩
   ·cases f:lk L d.super with
    | none=>rw[P6 f] at hc;simp at hc
    | some e=>
     have g:d.super∈J3 d:=by simp[J3]
     obtain ⟨m,o⟩:=j (by have:=Xx i a g f;omega) hc
     exact ⟨.step a g m,o⟩
section
variable {l : List Cla} (wf : Wf l)
include wf
end
end Go.Proofs.YtfppjenblllfaaaGreatDoor

namespace Go.Hm
open Go.Kd
structure Shp where
  seen : Bool
  stack : List X0
  locals : List X0
deriving DecidableEq
def Shp.zero:Shp:=⟨false,[],[]⟩
def Yo (l:List Cla) (a b:X0):X0:=if a=[]∨b=[] then [] else F6 l a b
def Ww (l:List Cla) (a b:Shp):Shp×Int:=
 if a.seen=false then (b,0) else if b.seen=false then (a,0)
 else if a.stack.length≠b.stack.length∨a.locals.length≠b.locals.length then (Shp.zero,75)
 else if (List.zipWith (F6 l) a.stack b.stack).any (fun s=>decide (s=[])) then (Shp.zero,75)
 else (⟨true,List.zipWith (F6 l) a.stack b.stack,List.zipWith (Yo l) a.locals b.locals⟩,0)
def M5:X0:=[106,117,109,112]
def H9:X0:=[98,114,97,110,99,104]
def D0:X0:=[114,101,116,117,114,110]
def B2:X0:=[116,104,114,111,119]
def P0 (a:List Ins) (b:Int):List Int×Bool:=
 if b<0∨(a.length:Int)≤b then ([],false) else
 let i:=a.getD b.toNat ⟨[],0,[]⟩
 if (i.op≠M5∧i.op≠D0∧i.op≠B2∧(a.length:Int)≤b+1)∨((i.op=M5∨i.op=H9)∧(i.n<0∨(a.length:Int)≤i.n)) then ([],false)
 else ((if i.op=M5∨i.op=D0∨i.op=B2 then [] else [b+1])++(if i.op=M5∨i.op=H9 then [i.n] else []),true)
theorem Ri (l:List Cla):R9 l []=false:=by
 have:right []=false:=by decide
 simp[R9,this,C7]
theorem Q6r (l:List Cla) (a:X0):H8 l a []=false:=by
 unfold H8;rw[Ri];simp
theorem Q6p (l:List Cla) (a:X0):H8 l [] a=false:=by
 unfold H8;rw[Ri];simp
theorem Q9A (l:List Cla) (a b:X0):Yo l a b=F6 l a b:=by
 unfold Yo
 split
 ·rename_i h
  unfold F6
  rcases h with rfl | rfl
  ·rw[Q6p,Q6r,Ri];simp
  ·rw[Q6p,Q6r,Ri];simp
 ·rfl
end Go.Hm
namespace Go.Proofs.YtfppjenblllfaaaGreatDoor
open Go.Emb Go.RowKit Go.Kd Go.Hm
section
variable {l : List Cla} (wf : Wf l)
include wf
end
end Go.Proofs.YtfppjenblllfaaaGreatDoor

namespace Go.Emb
open Go.RowKit Go.Hm
def E0 (σ:Q4) (s:Shp) (cs:List Value):Prop:= ∃sv a,cs=[.bool s.seen,sv,a]∧Sl 1 Y1 σ sv s.stack∧Sl 1 Y1 σ a s.locals
instance:Rep E0:=⟨fun hk ⟨sv,lv,h1,h2,h3⟩=>⟨sv,lv,h1,h2.le hk,h3.le hk⟩,fun ⟨sv,lv,h1,h2,h3⟩ u hu=>by
 rw[h1] at hu;simp at hu;rcases hu with rfl | rfl | rfl
 ·rfl
 ·exact G5 h2
 ·exact G5 h3⟩
end Go.Emb
namespace Go.Proofs.YtfppjenblllfaaaGreatDoor
open Go.Emb Go.RowKit Go.Kd Go.Hm Go.ChangeShapes Go.WideShapes
section
variable {H : Type} {enc : TypeId × Value → H} {W : World} {cs : List Value} {fuel : Nat} {x : DataW H × List MemPlace} {v : Value} {d : DataW H} {p : List MemPlace}
set_option maxRecDepth 100000 in
theorem X0G {base:Nat} (f:Value.okWide P W .any base T.k v) (h:DataW.Trod enc P W 0 (fun _=>true) true T.k v d p) (b:Wt P T.k d): ∃l,Sl 3 C9 (Lj W) v l:=by
 obtain ⟨a,n,c,rfl⟩:=WideShapes.okWide_slice Q8D f
 unfold DataW.Trod at h
 obtain ⟨fuel,h⟩:=h
 obtain ⟨u,l,e,g⟩:=X2m (R:=C9) (sz:=3) Q8D (by kernel_rfl) (by decide) (fun _ _ _ h b=>X23 h b) h b
 simp[Value.cells] at e
 subst e
 exact ⟨l,g⟩
end
end Go.Proofs.YtfppjenblllfaaaGreatDoor

namespace Go.Proofs.YtfppjenblllfaaaGreatDoor
open Go.Emb Go.RowKit Go.Kd Go.Hm
variable {w : World} {K : Value → World → Prop} {σ : Q4}
end Go.Proofs.YtfppjenblllfaaaGreatDoor

namespace Go.Proofs.YtfppjenblllfaaaGreatDoor
open Go.Emb Go.RowKit Go.Kd Go.Hm
variable {w : World} {K : Value → World → Prop} {σ : Q4} {l : List Cla} {v : Value}
theorem T2 {n:X0} (s:X4 w σ) (m:Sl 8 U8 σ v l) (h:K (I (W8 (Y5 l n))) w):Q1 P F.c [v,S n] w K:=Kj (by
 unfold Mo
 refine J4 l.length (fun k w'=>w'=w∧ ∀j (g:j<l.length),j<k→ ¬l[j].name=n) ⟨rfl,fun j _ h=>by omega⟩ fun k w1 d H u=>?_
 obtain ⟨rfl,b⟩:=u
 refine Q8 m ?_
 refine Y8 ?_
 refine Q5 (fun i=>?_) (fun i=>?_)
 ·have a:k<l.length:=by simpa using i
  refine W6 m a fun p cells o r q=>?_
  obtain ⟨A,B,mv,rfl,C,D,y,E,z⟩:=q
  rw[fa]
  refine ld s o rfl ?_
  refine F9 ?_
  refine Q5 (fun f=>?_) (fun f=>?_)
  ·have f:l[k].name=n:=by simpa using f
   have:Y5 l n=some k:=by
    unfold Y5
    rw[List.findIdx?_eq_some_iff_getElem]
    exact ⟨a,by simpa using f,fun j g=>by simpa using b j (by omega) g⟩
   rw[this] at h
   exact h
  ·have f: ¬l[k].name=n:=by simpa using f
   refine O3 ?_
   refine Y3 m.max a ⟨rfl,fun j g t=>?_⟩
   by_cases e:j=k
   ·subst e;exact f
   ·exact b j g (by omega)
 ·have a: ¬k<l.length:=by simpa using i
  have:Y5 l n=none:=by
   unfold Y5
   rw[List.findIdx?_eq_none_iff]
   intro c i
   obtain ⟨j,g,rfl⟩:=List.getElem_of_mem i
   simpa using b j g (by omega)
  rw[this] at h
  exact h)
end Go.Proofs.YtfppjenblllfaaaGreatDoor

namespace Go.Proofs.YtfppjenblllfaaaGreatDoor
open Go.Emb Go.RowKit Go.Kd Go.Hm
variable {w : World} {K : Value → World → Prop} {σ : Q4} {l : List Cla} {v : Value}
theorem Q54 {a:X0} (d:a.length≤J0) (h:K (S (base a).1) w):Q1 P F.aG [S a] w K:=Pf (by
 unfold Nc
 have c:=Q0e a
 have b:a.length≤140737488355328:=by simp only[J0] at d;omega
 rw[D6 X8]
 refine Q1i a b ?_
 (try simp only[↓Mr,Mr,Mb,reduceIte])
 rw[C4 (n:=2*((base a).2:Int)) (by omega) (by omega),C4 (by omega) (by omega),P8 X8 (by omega) (by omega)]
 rw[show ((a.length:Int)-2*((base a).2:Int)).toNat=a.length-2*(base a).2 from by omega,Q2J]
 exact h)
theorem Q92 {s:X0} (f:X4 w σ) (g:Sl 8 U8 σ v l) (b:s.length≤J0) (h:K (.bool (R9 l s)) w):Q1 P F.bm [v,S s] w K:=Ks (by
 unfold Mu
 have c:s.length≤140737488355328:=by simp only[J0] at b;omega
 unfold R9 at h
 refine F9 ?_
 by_cases a:s=C7
 ·have:decide (s=[110,117,108,108])=true:=by rw[decide_eq_true_eq];exact a
  simp only[this,↓M1,M1,Mb,reduceIte]
  simp only[a,decide_true,Bool.true_or] at h
  exact h
 ·have:decide (s=[110,117,108,108])=false:=by rw[decide_eq_false_iff_not];exact a
  simp only[this,↓M1,M1,Mb,reduceIte]
  simp only[a,decide_false,Bool.false_or] at h
  refine Va s c ?_
  cases e:right s with
  | false=>(try simp only[↓M1,M1,Mb,reduceIte]);simpa [e] using h
  | true=>
   (try simp only[↓M1,M1,Mb,reduceIte])
   refine Q54 b ?_
   (try simp only[↓M1,M1,Mb,reduceIte])
   refine Pn _ ?_
   simp only[e,Bool.true_and] at h
   cases d:plain (base s).1 with
   | true=>(try simp only[↓M1,M1,Mb,reduceIte]);simpa [d] using h
   | false=>
    (try simp only[↓M1,M1,Mb,reduceIte])
    refine Q54 b ?_
    (try simp only[↓M1,M1,Mb,reduceIte])
    refine T2 f g ?_
    refine F0 ?_
    rw[Ja]
    (try simp only[↓M1,M1,Mb,reduceIte])
    simpa [d,Q12] using h)
end Go.Proofs.YtfppjenblllfaaaGreatDoor

namespace Go.Proofs.YtfppjenblllfaaaGreatDoor
open Go.Emb Go.RowKit Go.Kd Go.Hm
variable {w : World} {K : Value → World → Prop} {σ : Q4} {l : List Cla} {v : Value}
theorem Q8L {s:X0} (b:X4 w σ) (c:Sl 8 U8 σ v l) (d:s.length≤J0) (h:K (.bool (D9 l s)) w):Q1 P F.bc [v,S s] w K:=Ge (by
 unfold Lk
 unfold D9 at h
 refine Lu ?_
 have e:decide (s=[110,117,108,108])=decide (s=C7):=rfl
 rw[e]
 cases a:decide (s=C7) with
 | true=>
  rw[a] at h
  (try simp only[↓M1,M1,Mb,reduceIte])
  exact h
 | false=>
  rw[a] at h
  (try simp only[↓M1,M1,Mb,reduceIte])
  refine Q92 b c d ?_
  (try simp only[↓M1,M1,Mb,reduceIte])
  simpa using h)
end Go.Proofs.YtfppjenblllfaaaGreatDoor

namespace Go.Proofs.YtfppjenblllfaaaGreatDoor
open Go.Emb Go.RowKit Go.Kd Go.Hm
variable {w : World} {K : Value → World → Prop} {σ : Q4} {l : List Cla} {v : Value}
def Eb (c:Cla) (n:X0):Option Nat:=c.methods.findIdx? fun m=>decide (m.name=n)
theorem Q65 {c:Cla} {cs:List Value} {n:X0} (B:X4 w σ) (r:U8 σ c cs) (h: ∀w' y,Stp w σ w' y→K (I (W8 (Eb c n))) w'):Q1 P F.aN [.agg cs.toArray,S n] w K:=Tt (by
 unfold Oc
 obtain ⟨O,Q,mv,rfl,R,U,o,X,M⟩:=r
 refine Z0 B fun q w0 σ0 a t=>?_
 have o:=o.up a
 refine J4 c.methods.length (fun k w'=>w'=w0∧ ∀j (i:j<c.methods.length),j<k→ ¬c.methods[j].name=n) ⟨rfl,fun j _ h=>by omega⟩ fun k w1 d V D=>?_
 obtain ⟨rfl,f⟩:=D
 rw[fa]
 refine ld a.sat t rfl ?_
 refine Q8 o ?_
 refine Y8 ?_
 refine Q5 (fun r=>?_) (fun r=>?_)
 ·have b:k<c.methods.length:=by simpa using r
  rw[fa]
  refine ld a.sat t rfl ?_
  refine W6 o b fun p cells s A u=>?_
  obtain ⟨pv,Y,W,rfl,L,E,N,J,H⟩:=u
  rw[fa]
  refine ld a.sat s rfl ?_
  refine F9 ?_
  refine Q5 (fun g=>?_) (fun g=>?_)
  ·have g:c.methods[k].name=n:=by simpa using g
   have:Eb c n=some k:=by
    unfold Eb
    rw[List.findIdx?_eq_some_iff_getElem]
    exact ⟨b,by simpa using g,fun j i=>by simpa using f j (by omega) i⟩
   rw[this] at h
   exact h _ _ a
  ·have g: ¬c.methods[k].name=n:=by simpa using g
   refine O3 ?_
   refine Y3 o.max b ⟨rfl,fun j i C=>?_⟩
   by_cases e:j=k
   ·subst e;exact g
   ·exact f j i (by omega)
 ·have b: ¬k<c.methods.length:=by simpa using r
  have:Eb c n=none:=by
   unfold Eb
   rw[List.findIdx?_eq_none_iff]
   intro m z
   obtain ⟨j,i,rfl⟩:=List.getElem_of_mem z
   simpa using f j i (by omega)
  rw[this] at h
  exact h _ _ a)
end Go.Proofs.YtfppjenblllfaaaGreatDoor

namespace Go.Proofs.YtfppjenblllfaaaGreatDoor
open Go.Emb Go.RowKit Go.Kd Go.Hm
variable {w : World} {K : Value → World → Prop} {σ : Q4} {l : List Cla} {v : Value}
theorem Rf {n:X0} {d:Cla} (c:X4 w σ) (e:Sl 8 U8 σ v l) (f:lk l n=some d) (h: ∀i:Nat,l[i]? =some d→Y5 l n=some i→K (I i) w):Q1 P F.c [v,S n] w K:=by
 obtain ⟨_,_,i,a,b⟩:=U7 f
 refine T2 c e ?_
 rw[a];exact h i b a
theorem Ax {n:X0} (d:X4 w σ) (e:Sl 8 U8 σ v l) (f:lk l n=none) (h:K (I (-1)) w):Q1 P F.c [v,S n] w K:=by
 refine T2 d e ?_
 cases b:Y5 l n with
 | none=>exact h
 | some i=>obtain ⟨c,a,_⟩:=Ji b;rw[f] at a;cases a
end Go.Proofs.YtfppjenblllfaaaGreatDoor

namespace Go.Proofs.YtfppjenblllfaaaGreatDoor
open Go.Emb Go.RowKit Go.Kd Go.Hm
variable {w : World} {K : Value → World → Prop} {σ : Q4} {l : List Cla} {v : Value}
theorem Q8Y:decide ((-1:Int)<0)=true:=by decide
theorem Q4P (i:Nat):decide ((i:Int)<0)=false:=by rw[decide_eq_false_iff_not];omega
theorem Q7x {c:Cla} {cs:List Value} (hs:X4 w σ) (hl:Sl 8 U8 σ v l) (B:U8 σ c cs) (h: ∀w' σ',Stp w σ w' σ'→K (I (L5 l c)) w'):Q1 P F.aX [v, .agg cs.toArray] w K:=Ck (by
 unfold Ux
 obtain ⟨lv,fv,mv,rfl,z,f2,f3,f4,f5⟩:=B
 refine Z0 hs fun q w0 σ0 o R=>?_
 have z:=z.up o
 have b:=hl.up o
 have a:=o.sat
 have u: ∀n:Nat,L5 l c=n→K (I n) w0:=fun n e=>by rw[←e];exact h _ _ o
 clear h
 (try simp only[↓M1,M1,Mb,reduceIte])
 refine ld a R rfl ?_
 have m:T3 l c.super=true→K (I (61:Nat)) w0:=fun e=>u 61 (by unfold L5;rw[if_pos e])
 cases J:lk l c.super with
 | none=>
  refine Ax a b J ?_
  simp only[Q8Y,↓M1,M1,Mb,reduceIte]
  exact m (by unfold T3;rw[J])
 | some d=>
  refine Rf a b J fun i hi hf=>?_
  obtain ⟨y,Q⟩:=List.getElem?_eq_some_iff.1 hi
  simp only[Q4P,↓M1,M1,Mb,reduceIte]
  refine U2 b y ?_
  obtain ⟨W,ah,ab,M,r1⟩:=b.elC y
  rw[Q] at M
  (try simp only[↓M1,M1,Mb,reduceIte])
  refine ld a M rfl ?_
  have g:T3 l c.super=(d.iface||d.fin):=by unfold T3;rw[J]
  cases C:d.iface with
  | true=>
   rw[C] at g
   (try simp only[↓M1,M1,Mb,reduceIte])
   exact m (by rw[g];rfl)
  | false=>
   rw[C] at g
   (try simp only[↓M1,M1,Mb,reduceIte])
   refine U2 b y ?_
   (try simp only[↓M1,M1,Mb,reduceIte])
   refine ld a M rfl ?_
   cases A:d.fin with
   | true=>
    rw[A] at g
    (try simp only[↓M1,M1,Mb,reduceIte])
    exact m (by rw[g];rfl)
   | false=>
    rw[A] at g
    have E:T3 l c.super=false:=g
    (try simp only[↓M1,M1,Mb,reduceIte])
    refine J4 c.like.length (fun k w'=>w'=w0∧(c.like.take k).any (O8 l)=false) ⟨rfl,rfl⟩ fun k w1 d1 hk O=>?_
    obtain ⟨Z,s⟩:=O
    subst Z
    (try simp only[↓M1,M1,Mb,reduceIte])
    refine ld a R rfl ?_
    refine Q8 z ?_
    refine Y8 ?_
    refine Q5 (fun B=>?_) (fun B=>?_)
    ·have f:k<c.like.length:=by simpa using B
     have r:O8 l c.like[k]=true→K (I (62:Nat)) w1:=fun e=>u 62 (by
      unfold L5;rw[E,C5 f e];rfl)
     have t:O8 l c.like[k]=false→(c.like.take (k+1)).any (O8 l)=false:=fun e=>by rw[M0 f,s,e];rfl
     (try simp only[↓M1,M1,Mb,reduceIte])
     refine ld a R rfl ?_
     refine U2 z f ?_
     obtain ⟨Y,_⟩:=z.elS f
     refine X7 a Y rfl ?_
     cases L:lk l c.like[k] with
     | none=>
      refine Ax a b L ?_
      simp only[Q8Y,↓M1,M1,Mb,reduceIte]
      exact r (by unfold O8;rw[L])
     | some e=>
      refine Rf a b L fun j hj af=>?_
      obtain ⟨D,N⟩:=List.getElem?_eq_some_iff.1 hj
      simp only[Q4P,↓M1,M1,Mb,reduceIte]
      refine U2 b D ?_
      obtain ⟨V,ai,X,U,r3⟩:=b.elC D
      rw[N] at U
      (try simp only[↓M1,M1,Mb,reduceIte])
      refine ld a U rfl ?_
      have p:O8 l c.like[k]= !e.iface:=by unfold O8;rw[L]
      cases H:e.iface with
      | true=>
       rw[H] at p
       (try simp only[↓M1,M1,Mb,reduceIte])
       exact Y3 z.max f ⟨rfl,t p⟩
      | false=>
       rw[H] at p
       (try simp only[↓M1,M1,Mb,reduceIte])
       exact r p
    ·have f: ¬k<c.like.length:=by simpa using B
     rw[D3 f] at s
     exact u 0 (by unfold L5;rw[E,s];rfl))
end Go.Proofs.YtfppjenblllfaaaGreatDoor

namespace Go.Proofs.YtfppjenblllfaaaGreatDoor
open Go.Emb Go.RowKit Go.Kd Go.Hm
variable {w : World} {K : Value → World → Prop} {σ : Q4} {l : List Cla} {v : Value}
theorem Q5q {n:X0} (h:lk l n=none):M7 l n=[]:=by unfold M7;rw[P6 h];rfl
theorem Q5J (a:Yp l) {n:X0} {c:Cla} (h:lk l n=some c):M7 l n=M7 l c.super++c.fields:=by
 unfold M7
 rw[G2 a,h]
 simp
theorem Q7i (a: ∀c∈l,T7 c) (n:X0):(M7 l n).length≤(l.length+1)*1000000:=by
 unfold M7
 have b:=Ui (fun c:Cla=>c.fields) 1000000 (chain l n).reverse fun c e=>(a c (Tu (by simpa using e))).2.1
 have d:=Rh l n
 rw[List.length_reverse] at b
 exact Nat.le_trans b (Nat.mul_le_mul_right _ d)
theorem Q0J {n:X0} (d:lk l n=none) (c:X4 w σ) (e:Sl 8 U8 σ v l) (h: ∀a w' b,Stp w σ w' b→Sl 3 E5 b a (M7 l n)→K a w'):Q1 P F.x [v,S n] w K:=Vg (by
 unfold Qo
 refine Ax c e d ?_
 simp only[Q8Y,↓M1,M1,Mb,reduceIte]
 exact h _ _ _ (Stp.refl c) (by rw[Q5q d];exact Sl.nil))
theorem Q5T (p:Yp l) (hl:l.length≤1000) (m: ∀c∈l,T7 c): ∀(k:Nat) {n:X0} {w:World} {σ:Q4} {K:Value→World→Prop},(lk l n=none∨G1 l n<k)→X4 w σ→Sl 8 U8 σ v l→
 (∀g w' f,Stp w σ w' f→Sl 3 E5 f g (M7 l n)→K g w')→Q1 P F.x [v,S n] w K:=by
 intro k
 induction k with
 | zero=>
  intro n w σ K hk j b h
  rcases hk with hk | hk
  ·exact Q0J hk j b h
  ·omega
 | succ k ih=>
  intro n w σ K hk j b h
  cases a:lk l n with
  | none=>exact Q0J a j b h
  | some c=>
   have hk:G1 l n<k+1:=by
    rcases hk with hk | hk
    ·rw[a] at hk;cases hk
    ·exact hk
   refine Vg ?_
   unfold Qo
   refine Rf j b a fun i hi hf=>?_
   obtain ⟨D,E⟩:=List.getElem?_eq_some_iff.1 hi
   simp only[Q4P,↓M1,M1,Mb,reduceIte]
   obtain ⟨lv,fv,mv,Z,O⟩:=b.elC D
   rw[E] at Z O
   obtain ⟨_,X,_,_,_⟩:=O.parts
   have C:lk l c.super=none∨G1 l c.super<k:=by
    cases hu:lk l c.super with
    | none=>exact .inl rfl
    | some d=>
     have:=Xx p a (u:=c.super) (by simp[J3]) hu
     right;omega
   have af:=Q7i m c.super
   have W:=(m c (U7 a).2.1).2.1
   have N:(l.length+1)*1000000≤1001*1000000:=Nat.mul_le_mul_right _ (by omega)
   refine V3 j ?_
   (repeat refine U6 Qt ?_)
   refine Q71 (R:=E5) (by decide) ?_
   (repeat refine U6 Qt ?_)
   refine Rx (w:=w) (σ:=σ) (Φ:=fun f v=>Sl 3 E5 f v (M7 l c.super)) (fun t w o e=>?_) ?_
   ·subst e;exact ih C o.sat b fun g w' f hk r=>Q19 o hk r
   refine Q2i (w:=w) (σ:=σ) (R:=E5) (sz:=3) (e:=T.m) (M7 l c.super) (fun J A w o y s=>?_) ?_
   ·obtain ⟨k1,a1,e1⟩:=y
    obtain ⟨σ2,V,U⟩:=s
    exact X0H k1 a1 e1 V.sat U (fun _ _ h=>h) rfl (by omega) (by omega) fun g w' hk p=>Q4S o hk p
   (repeat refine U6 Qt ?_)
   rintro Y ae an ag J aa A ad aj w2 ab rfl rfl rfl rfl _ rfl _ ⟨B,L⟩ rfl
   refine Dl B L X rfl (by omega) (by omega) fun g w3 Q H M _=>?_
   obtain ⟨σ4,q,z,_⟩:=M.keep H
   exact h _ _ _ q (by rw[Q5J p a];exact z)
theorem Q7v {n:X0} (e:X4 w σ) (f:Sl 8 U8 σ v l) (i:Yp l) (g:l.length≤1000) (a: ∀c∈l,T7 c) (h: ∀b w' d,Stp w σ w' d→Sl 3 E5 d b (M7 l n)→K b w'):Q1 P F.x [v,S n] w K:=
 Q5T i g a _ (.inr (Nat.lt_succ_self _)) e f h
theorem Q8N {n f:X0} (E:X4 w σ) (L:Sl 8 U8 σ v l) (D:Yp l) (C:l.length≤1000) (u: ∀c∈l,T7 c) (h: ∀w' A,Stp w σ w' A→K (I (W8 (Xv l n f))) w'):Q1 P F.bb [v,S n,S f] w K:=Fg (by
 unfold Lc
 refine Q7v E L D C u fun N w1 σ1 r a=>?_
 have s: ∀o,Xv l n f=o→K (I (W8 o)) w1:=fun o e=>by rw[←e];exact h _ _ r
 unfold Xv at s
 generalize M7 l n=i at a s
 refine J4 i.length (fun k w'=>w'=w1∧ ∀j (q:j<i.length),j<k→ ¬i[j].name=f) ⟨rfl,fun j _ h=>by omega⟩ fun k M d O J=>?_
 obtain ⟨z,g⟩:=J
 subst z
 refine Q8 a ?_
 refine Y8 ?_
 refine Q5 (fun t=>?_) (fun t=>?_)
 ·have b:k<i.length:=by simpa using t
  refine U2 a b ?_
  obtain ⟨y,_⟩:=a.elF b
  (try simp only[↓M1,M1,Mb,reduceIte])
  refine ld r.sat y rfl ?_
  refine F9 ?_
  refine Q5 (fun p=>?_) (fun p=>?_)
  ·have p:i[k].name=f:=by simpa using p
   exact s (some k) (by
    rw[List.findIdx?_eq_some_iff_getElem]
    exact ⟨b,by simpa using p,fun j q=>by simpa using g j (by omega) q⟩)
  ·have p: ¬i[k].name=f:=by simpa using p
   (try simp only[↓M1,M1,Mb,reduceIte])
   refine Y3 a.max b ⟨rfl,fun j q H=>?_⟩
   by_cases e:j=k
   ·subst e;exact p
   ·exact g j q (by omega)
 ·have b: ¬k<i.length:=by simpa using t
  exact s none (by
   rw[List.findIdx?_eq_none_iff]
   intro m B
   obtain ⟨j,q,rfl⟩:=List.getElem_of_mem B
   simpa using g j q (by omega)))
end Go.Proofs.YtfppjenblllfaaaGreatDoor

namespace Go.Proofs.YtfppjenblllfaaaGreatDoor
open Go.Emb Go.RowKit Go.Kd Go.Hm
variable {w : World} {K : Value → World → Prop} {σ : Q4} {l : List Cla} {v : Value}
theorem Q30 {c:Cla} {n:X0} (h:Eb c n=none):R3 c n=none:=by
 unfold R3 Eb at*
 rw[List.findIdx?_eq_none_iff] at h
 rw[List.find?_eq_none]
 intro m a
 have:=h m a
 simpa using this
theorem Q61 {c:Cla} {n:X0} {i:Nat} (h:Eb c n=some i): ∃b:i<c.methods.length,R3 c n=some c.methods[i]:=by
 unfold R3 Eb at*
 obtain ⟨b,d,e⟩:=List.findIdx?_eq_some_iff_getElem.1 h
 refine ⟨b,List.find?_eq_some_iff_getElem.2 ⟨d,i,b,rfl,fun j a=>?_⟩⟩
 have:=e j a
 simpa using this
theorem Q2G {n:X0} (h:lk l n=none):Y5 l n=none:=by
 cases b:Y5 l n with
 | none=>rfl
 | some i=>obtain ⟨c,a,_⟩:=Ji b;rw[h] at a;cases a
set_option maxHeartbeats 1000000 in
theorem Q8K {n:X0} (ok:Ok l): ∀(k:Nat) {c:Cla} {cs:List Value} {w:World} {σ:Q4} {K:Value→World→Prop},G1 l c.name<k→lk l c.name=some c→X4 w σ→Sl 8 U8 σ v l→U8 σ c cs→
 (∀pv cv hv w' Z,Stp w σ w' Z→M6 Z (o2 (U4 l c n)) [S (o2 (U4 l c n)).name,pv,S (o2 (U4 l c n)).result, .bool (o2 (U4 l c n)).abs,I (o2 (U4 l c n)).locals,cv,hv]→
  K (.tuple #[S (o1 (U4 l c n)), .agg [S (o2 (U4 l c n)).name,pv,S (o2 (U4 l c n)).result, .bool (o2 (U4 l c n)).abs,I (o2 (U4 l c n)).locals,cv,hv].toArray, .bool (U4 l c n).isSome]) w')→
 Q1 P F.aB [v, .agg cs.toArray,S n] w K:=by
 intro k
 induction k with
 | zero=>
  intro c cs w σ K hk
  omega
 | succ k ih=>
  intro c cs w σ K hk hc hs hv hr h
  refine Fq ?_
  obtain ⟨lv,fv,mv,rfl,g1,g2,g3,g4,g5⟩:=hr
  have C:=Q2Q ok.acy hc n
  generalize hf:(fun u=>match lk l u with | none=>none | some d=>match R3 d n with | some m=>some (u,m) | none=>U4 l d n)=f at C
  unfold Lh
  refine Z0 hs fun a w1 σ1 D a2=>?_
  refine I2 D.sat fun b w2 σ2 hb M aw=>?_
  have R:w.heap.size≤b:=Zc hb D
  have ba:=a2.up M
  have g1:=(g1.up D).up M
  refine J4 c.like.length (fun i w'=> ∃Z,Stp w σ w' Z∧SLe σ2 Z∧Z5 Z w' b [S [], .slice none 0 0,S [], .bool false,I 0, .slice none 0 0, .slice none 0 0]∧(c.like.take i).findSome? f=none) ⟨σ2,D.trans M,SLe.refl _,aw,rfl⟩ fun i w3 d hi ag=>?_
  obtain ⟨σ3,g,U,ad,A⟩:=ag
  have L:=hv.up g
  have Y:=ba.lift U
  have E:=g1.lift U
  (try simp only[↓M1,M1,Mb,reduceIte])
  refine ld g.sat Y rfl ?_
  refine Q8 E ?_
  refine Y8 ?_
  refine Q5 (fun hh=>?_) (fun hh=>?_)
  ·have e:i<c.like.length:=by simpa using hh
   (try simp only[↓M1,M1,Mb,reduceIte])
   refine ld g.sat Y rfl ?_
   refine U2 E e ?_
   obtain ⟨p0,_⟩:=E.elS e
   refine X7 g.sat p0 rfl ?_
   obtain ⟨d,hd⟩:=ok.full c (U7 hc).2.1 _ (List.getElem_mem e)
   obtain ⟨Q,bm,_⟩:=U7 hd
   have t:f c.like[i]=match R3 d n with | some m=>some (c.like[i],m) | none=>U4 l d n:=by rw[←hf];simp only[hd]
   refine Rf g.sat L hd fun j hj bw=>?_
   obtain ⟨ab,a4⟩:=List.getElem?_eq_some_iff.1 hj
   refine U2 L ab ?_
   obtain ⟨bj,bn,bo,p1,r1⟩:=L.elC ab
   rw[a4] at p1 r1
   refine Z1 g.sat p1 rfl ?_
   refine Y4 g.sat (by rfl) rfl (Rep.one r1) fun q w4 σ4 o X=>?_
   refine Z1 o.sat X rfl ?_
   refine Q65 o.sat (RCl_lift r1 ⟨o.le⟩) fun w5 σ5 p=>?_
   refine F0 ?_
   rw[Ja]
   have B:=(g.trans o).trans p
   have H:=(ad.step o).step p
   have av:=X.up p
   have r5:=RCl_lift r1 ⟨(o.trans p).le⟩
   have W:=p.sat
   have ap:SLe σ2 σ5:=U.more ⟨(o.trans p).le⟩
   clear X p1 r1 p0 Y E o p
   cases ho:Eb d n with
   | some i2=>
    obtain ⟨aq,a7⟩:=Q61 ho
    rw[a7] at t
    simp only[Option.isSome_some,W8,↓M1,M1,Mb,reduceIte]
    obtain ⟨_,_,a9,_,_⟩:=r5.parts
    obtain ⟨pv,cv,b0,p2,r2⟩:=a9.elM aq
    refine V3 W ?_
    (repeat refine U6 Qt ?_)
    (intros;(repeat (rename_i hx;subst hx));(try simp only[↓M2,M2,Mb,reduceIte]))
    rename_i w6 ai
    refine Qg (H.step ai.stp) (B.trans ai.stp) R rfl rfl (Rep.one r2) fun w8 a5 ax=>?_
    refine W2 ax rfl ?_
    have V:=C.trans (Qj e A t)
    rw[V] at h
    rw[Q]
    exact h _ _ _ w8 σ5 a5.stp r2
   | none=>
    rw[Q30 ho] at t
    simp only[Option.isSome_none,↓M1,M1,Mb,reduceIte]
    refine Z1 W av rfl ?_
    have bx:=Xx ok.acy hc (by simp[J3,List.getElem_mem e]:c.like[i]∈J3 c) hd
    refine ih (by rw[Q];omega) (by rw[Q];exact hd) W (hv.up B) r5 fun pv cv bv w8 σ8 z O=>?_
    refine U9 (vs:=[_,_,_]) rfl ?_
    refine U9 (vs:=[_,_,_]) rfl ?_
    refine U9 (vs:=[_,_,_]) rfl ?_
    refine Y4 z.sat (by rfl) rfl (Rep.one O) fun q w9 σ9 y ar=>?_
    have ae:=(B.trans z).trans y
    have ak:=(H.step z).step y
    have N:=RMe_lift O ⟨y.le⟩
    have az:SLe σ2 σ9:=ap.more ⟨(z.trans y).le⟩
    have ao:=y.sat
    cases V:U4 l d n with
    | some r=>
     obtain ⟨s,m⟩:=r
     rw[V] at t N ar
     clear O z y
     simp only[V,Option.isSome_some,↓M1,M1,Mb,reduceIte]
     refine V3 ao ?_
     (repeat refine U6 Qt ?_)
     (intros;(repeat (rename_i hx;subst hx));(try simp only[↓M2,M2,Mb,reduceIte]))
     rename_i bu J
     refine Qg (ak.step J.stp) (ae.trans J.stp) R rfl rfl (Rep.one N) fun a1 ac aa=>?_
     refine W2 aa rfl ?_
     have a0:=C.trans (Qj e A t)
     rw[a0] at h
     exact h _ _ _ a1 σ9 ac.stp N
    | none=>
     rw[V] at t
     simp only[Option.isSome_none,↓M1,M1,Mb,reduceIte]
     refine Y3 (by have:=g1.max;omega) e ⟨σ9,ae,az,ak,?_⟩
     rw[Qi e A];exact t
  ·have e: ¬i<c.like.length:=by simpa using hh
   rw[List.take_of_length_le (by omega)] at A
   refine Dw ?_
   refine Qg ad g R rfl rfl (Rep.one (T6 (σ:=σ3))) fun w5 B H=>?_
   refine W2 H rfl ?_
   have V:=C.trans A
   rw[V] at h
   exact h _ _ _ w5 σ3 B.stp T6
set_option maxHeartbeats 1000000 in
theorem Q76 {k n:X0} (hs:X4 w σ) (hv:Sl 8 U8 σ v l) (ok:Ok l)
 (h: ∀pv cv hv w' N,Stp w σ w' N→M6 N (o2 (U0 l k n)) [S (o2 (U0 l k n)).name,pv,S (o2 (U0 l k n)).result, .bool (o2 (U0 l k n)).abs,I (o2 (U0 l k n)).locals,cv,hv]→
  K (.tuple #[S (o1 (U0 l k n)), .agg [S (o2 (U0 l k n)).name,pv,S (o2 (U0 l k n)).result, .bool (o2 (U0 l k n)).abs,I (o2 (U0 l k n)).locals,cv,hv].toArray, .bool (U0 l k n).isSome]) w'):
 Q1 P F.aZ [v,S k,S n] w K:=Ba (by
 unfold Vk
 refine I2 hs fun b w1 σ1 hb Q a5=>?_
 refine T2 Q.sat (hv.up Q) ?_
 unfold U0 at h
 generalize hF:(fun c:Cla=>(R3 c n).map (c.name,·))=F1 at h
 have al: ∀c,F1 c=(R3 c n).map (c.name,·):=fun c=>by rw[←hF]
 refine Gk (fun m x w'=> ∃s H N,m=(chain l s).length∧x=I (W8 (Y5 l s))∧chain l k=H++chain l s∧Stp w σ w' N∧Z5 N w' b [S [], .slice none 0 0,S [], .bool false,I 0, .slice none 0 0, .slice none 0 0]∧H.findSome? F1=none)
  (chain l k).length ⟨k,[],σ1,rfl,rfl,rfl,Q,a5,rfl⟩ ?_
 rintro V m x d w2 ⟨s,H,σ2,rfl,rfl,e,D,af,a⟩ C
 have J:=hv.up D
 have U:=D.sat
 refine F0 ?_
 rw[Ja]
 cases A:lk l s with
 | some c=>
  obtain ⟨aj,ar,i,aa,X⟩:=U7 A
  obtain ⟨t,ac⟩:=List.getElem?_eq_some_iff.1 X
  simp only[aa,Option.isSome_some,W8,↓M1,M1,Mb,reduceIte]
  refine U2 J t ?_
  obtain ⟨lv,fv,mv,z,O⟩:=J.elC t
  rw[ac] at z O
  refine Z1 U z rfl ?_
  refine Q65 U O fun w3 σ3 g=>?_
  refine F0 ?_
  rw[Ja]
  have o:=D.trans g
  have p:=J.up g
  have y:=af.step g
  have u:=g.sat
  replace z:=z.up g
  replace O:=RCl_lift O ⟨g.le⟩
  have j:chain l s=c::chain l c.super:=by rw[G2 ok.acy s,A]
  cases Y:Eb c n with
  | some i2=>
   obtain ⟨ax,a3⟩:=Q61 Y
   simp only[Option.isSome_some,W8,↓M1,M1,Mb,reduceIte]
   obtain ⟨_,_,a4,_,_⟩:=O.parts
   obtain ⟨pv,cv,ba,p2,r2⟩:=a4.elM ax
   clear g
   refine V3 u ?_
   (repeat refine U6 Qt ?_)
   (intros;(repeat (rename_i hx;subst hx));(try simp only[↓M2,M2,Mb,reduceIte]))
   rename_i w4 ak
   refine Qg (y.step ak.stp) (o.trans ak.stp) hb rfl rfl (Rep.one r2) fun w8 az a2=>?_
   refine W2 a2 rfl ?_
   have E:(chain l k).findSome? F1=some (c.name,c.methods[i2]):=by
    rw[e,List.findSome?_append,a,j,List.findSome?_cons,al,a3];rfl
   rw[E] at h
   exact h _ _ _ w8 σ3 az.stp r2
  | none=>
   simp only[Option.isSome_none,↓M1,M1,Mb,reduceIte]
   refine U2 p t ?_
   (try simp only[↓M1,M1,Mb,reduceIte])
   refine ld u z rfl ?_
   refine T2 u p ?_
   refine C (chain l c.super).length _ _ (by rw[j,List.length_cons];omega) ⟨c.super,H++[c],σ3,rfl,rfl,by rw[e,j];simp,o,y,?_⟩
   rw[List.findSome?_append,a]
   simp[al,Q30 Y]
 | none=>
  rw[Q2G A]
  simp only[Option.isSome_none,↓M1,M1,Mb,reduceIte]
  have ag:(chain l k).findSome? F1=none:=by rw[e,P6 A,List.append_nil];exact a
  rw[ag] at h
  clear C a e
  refine T2 U J ?_
  refine Gk (fun m x w'=> ∃s H N,m=(chain l s).length∧x=I (W8 (Y5 l s))∧chain l k=H++chain l s∧Stp w σ w' N∧Z5 N w' b [S [], .slice none 0 0,S [], .bool false,I 0, .slice none 0 0, .slice none 0 0]∧H.findSome? (fun c=>U4 l c n)=none)
   (chain l k).length ⟨k,[],σ2,rfl,rfl,rfl,D,af,rfl⟩ ?_
  rintro V m x d w3 ⟨s,H,σ3,rfl,rfl,e,o,y,a⟩ C
  have p:=hv.up o
  have u:=o.sat
  refine F0 ?_
  rw[Ja]
  cases A:lk l s with
  | some c=>
   obtain ⟨aj,ar,i,aa,X⟩:=U7 A
   obtain ⟨t,ac⟩:=List.getElem?_eq_some_iff.1 X
   simp only[aa,Option.isSome_some,W8,↓M1,M1,Mb,reduceIte]
   refine U2 p t ?_
   obtain ⟨lv,fv,mv,z,O⟩:=p.elC t
   rw[ac] at z O
   refine Z1 u z rfl ?_
   have j:chain l s=c::chain l c.super:=by rw[G2 ok.acy s,A]
   refine Q8K ok _ (Nat.lt_succ_self _) (by rw[aj];exact A) u p O fun pv cv bc w8 σ8 W ab=>?_
   refine U9 (vs:=[_,_,_]) rfl ?_
   refine U9 (vs:=[_,_,_]) rfl ?_
   refine U9 (vs:=[_,_,_]) rfl ?_
   refine Y4 W.sat (by rfl) rfl (Rep.one ab) fun q w9 σ9 B ay=>?_
   have f:=W.trans B
   have an:=o.trans f
   have ao:=y.step f
   have Z:=RMe_lift ab ⟨B.le⟩
   have R:=B.sat
   have am:=p.up f
   replace z:=z.up f
   cases Y:U4 l c n with
   | some r=>
    obtain ⟨s,m⟩:=r
    rw[Y] at Z ay
    clear ab W B f
    simp only[Y,Option.isSome_some,↓M1,M1,Mb,reduceIte]
    refine V3 R ?_
    (repeat refine U6 Qt ?_)
    (intros;(repeat (rename_i hx;subst hx));(try simp only[↓M2,M2,Mb,reduceIte]))
    rename_i bb M
    refine Qg (ao.step M.stp) (an.trans M.stp) hb rfl rfl (Rep.one Z) fun a6 ai ae=>?_
    refine W2 ae rfl ?_
    have E:(chain l k).findSome? (fun c=>U4 l c n)=some (s,m):=by
     rw[e,List.findSome?_append,a,j,List.findSome?_cons,Y];rfl
    unfold U4 at E
    rw[E] at h
    exact h _ _ _ a6 σ9 ai.stp Z
   | none=>
    simp only[Option.isSome_none,↓M1,M1,Mb,reduceIte]
    refine U2 am t ?_
    (try simp only[↓M1,M1,Mb,reduceIte])
    refine ld R z rfl ?_
    refine T2 R am ?_
    refine C (chain l c.super).length _ _ (by rw[j,List.length_cons];omega) ⟨c.super,H++[c],σ9,rfl,rfl,by rw[e,j];simp,an,ao,?_⟩
    rw[List.findSome?_append,a]
    simp[Y]
  | none=>
   rw[Q2G A]
   simp only[Option.isSome_none,↓M1,M1,Mb,reduceIte]
   have L:(chain l k).findSome? (fun c=>U4 l c n)=none:=by rw[e,P6 A,List.append_nil];exact a
   refine Dw ?_
   refine Qg y o hb rfl rfl (Rep.one (T6 (σ:=σ3))) fun w7 a0 aw=>?_
   refine W2 aw rfl ?_
   unfold U4 at L
   rw[L] at h
   exact h _ _ _ w7 σ3 a0.stp T6)
end Go.Proofs.YtfppjenblllfaaaGreatDoor

namespace Go.Hm
open Go.Kd
theorem Q0H: ∀(xs:List X0) (x:X0),xs≠[]→O4 (xs++[x])=O4 xs++[44]++x
 | [],_,h=>absurd rfl h
 | [a],x,_=>by simp[O4]
 | a::b::r,x,_=>by
  have:=Q0H (b::r) x (by simp)
  simp only[List.cons_append] at this⊢
  simp only[O4,this]
  simp
theorem Q0O {xs:List X0} {n:Nat} (h:n<xs.length):O4 (xs.take (n+1))=O4 (xs.take n)++(if 0<n then [44] else [])++xs[n]:=by
 rw[List.take_add_one,List.getElem?_eq_getElem h]
 simp only[Option.toList_some]
 cases n with
 | zero=>simp[O4]
 | succ n=>
  rw[Q0H _ _ (by intro e;have:=congrArg List.length e;simp only[List.length_take,List.length_nil] at this;omega)]
  simp
end Go.Hm
namespace Go.Proofs.YtfppjenblllfaaaGreatDoor
open Go.Emb Go.RowKit Go.Kd Go.Hm
variable {w : World} {K : Value → World → Prop} {σ : Q4} {l : List Cla} {v : Value}
theorem Q56 {m:Hm.Met} {cs:List Value} (D:X4 w σ) (C:M6 σ m cs) (s:SmM m) (k:NmM m) (h: ∀w' B,Stp w σ w' B→K (S (T1 m)) w'):Q1 P F.aF [.agg cs.toArray] w K:=Kr (by
 obtain ⟨pv,U,R,rfl,f,H,O,L,J,N⟩:=C
 unfold Mi
 refine Z0 D fun q w1 σ1 g j=>?_
 have f:=f.up g
 have y: ∀n,(O4 (m.params.take n)).length≤101000000:=fun n=>by
  have:=Ds (m.params.take n) fun x u=>k.2 x (List.mem_of_mem_take u)
  have E:(m.params.take n).length≤1000000:=by rw[List.length_take];have:=s.1;omega
  have M:(m.params.take n).length*101≤1000000*101:=Nat.mul_le_mul_right _ E
  omega
 have c:=g.sat
 refine D5 m.params.length (fun n a w'=>w'=w1∧a=S ([40]++O4 (m.params.take n))) ⟨rfl,by simp[O4]⟩ fun n a Q d z i=>?_
 obtain ⟨A,rfl⟩:=i
 subst A
 have r:=y n
 (try simp only[↓M1,M1,Mb,reduceIte])
 refine ld c j rfl ?_
 refine Q8 f ?_
 refine Y8 ?_
 refine Q5 (fun p=>?_) (fun p=>?_)
 ·have b:n<m.params.length:=by simpa using p
  have u:=k.2 _ (List.getElem_mem b)
  refine V9 ?_
  obtain ⟨t,_⟩:=f.elS b
  refine Q5 (fun o=>?_) (fun o=>?_)
  ·have e:0<n:=by have:=of_decide_eq_true o;omega
   refine Ro (by simp only[List.length_append,List.length_cons,List.length_nil];omega) ?_
   intro d
   (try simp only[↓M1,M1,Mb,reduceIte])
   refine ld c j rfl ?_
   refine U2 f b ?_
   refine X7 c t rfl ?_
   refine Ro (by simp only[List.length_append,List.length_cons,List.length_nil];omega) ?_
   (try simp only[↓M1,M1,Mb,reduceIte])
   refine Z6 f.max b ⟨rfl,?_⟩
   rw[Q0O b,if_pos e];simp
  ·have e: ¬0<n:=by have:=of_decide_eq_false o;omega
   intro d
   (try simp only[↓M1,M1,Mb,reduceIte])
   refine ld c j rfl ?_
   refine U2 f b ?_
   refine X7 c t rfl ?_
   refine Ro (by simp only[List.length_append,List.length_cons,List.length_nil];omega) ?_
   (try simp only[↓M1,M1,Mb,reduceIte])
   refine Z6 f.max b ⟨rfl,?_⟩
   rw[Q0O b,if_neg e];simp
 ·have b: ¬n<m.params.length:=by simpa using p
  rw[List.take_of_length_le (by omega)] at r⊢
  refine Ro (by simp only[List.length_append,List.length_cons,List.length_nil];omega) ?_
  (try simp only[↓M1,M1,Mb,reduceIte])
  refine ld c j rfl ?_
  refine Ro (by simp only[List.length_append,List.length_cons,List.length_nil];have:=k.1;omega) ?_
  exact h _ _ g)
end Go.Proofs.YtfppjenblllfaaaGreatDoor

namespace Go.Hm
open Go.Kd
def Edge (l:List Cla) (i j:Nat):Prop:= ∃c,l[i]? =some c∧ ∃u∈J3 c,Y5 l u=some j
inductive Thr (E : Nat → Nat → Prop) (n : Nat) : Nat → Nat → Prop
  | one {i j : Nat} : E i j → Thr E n i j
  | more {i m j : Nat} : E i m → m < n → Thr E n m j → Thr E n i j
theorem Thr.cut {E:Nat→Nat→Prop} {n i j:Nat} (h:Thr E (n+1) i j):Thr E n i j∨(Thr E n i n∧Thr E n n j):=by
 induction h with
 | one h=>exact .inl (.one h)
 | @more i m j d f _ c=>
  by_cases e:m<n
  ·rcases c with c | ⟨a,b⟩
   ·exact .inl (.more d e c)
   ·exact .inr ⟨.more d e a,b⟩
  ·obtain rfl:m=n:=by omega
   rcases c with c | ⟨a,b⟩
   ·exact .inr ⟨.one d,c⟩
   ·exact .inr ⟨.one d,b⟩
theorem Thr.join {E:Nat→Nat→Prop} {n i k j:Nat} (h:Thr E n i k) (a:k<n) (g:Thr E n k j):Thr E n i j:=by
 induction h with
 | one h=>exact .more h a g
 | more c d _ b=>exact .more c d (b a g)
theorem Q2R {l:List Cla} (f:I0 l) {i j:Nat} (d:i<l.length):Edge l i j↔j<l.length∧ ∃u∈J3 l[i],u=Y0 l j∧Y5 l u=some j:=by
 unfold Edge
 rw[List.getElem?_eq_getElem d]
 constructor
 ·rintro ⟨c,e,u,b,a⟩
  cases e
  exact ⟨(C2 a).1,u,b,(C2 a).2.symm,a⟩
 ·rintro ⟨_,u,b,_,a⟩
  exact ⟨_,rfl,u,b,a⟩
theorem Q97 {l:List Cla} (b:I0 l) {i:Nat} (a:i<l.length):lk l (Y0 l i)=some l[i]:=by
 have:=Qy b a
 rwa [List.getD_eq_getElem?_getD,List.getElem?_eq_getElem a] at this
theorem Q95 {l:List Cla} (a:I0 l) {i j:Nat} (b:i<l.length) (h:Thr (Edge l) l.length i j):j<l.length∧Us (lk l) (Y0 l i) (Y0 l j):=by
 induction h with
 | one h=>
  obtain ⟨e,u,f,d,g⟩:=(Q2R a b).1 h
  obtain ⟨c,p,_⟩:=Ji g
  refine ⟨e,_,Q97 a b,u,f,?_⟩
  subst d;exact .refl p
 | more e m _ k=>
  obtain ⟨o,n⟩:=k m
  obtain ⟨_,u,f,d,g⟩:=(Q2R a b).1 e
  refine ⟨o,_,Q97 a b,u,f,?_⟩
  subst d;exact n.reach
theorem Q84 {l:List Cla} (y:I0 l) {a b:X0} (h:Hm.Reach (lk l) a b): ∀i j,Y5 l a=some i→Y5 l b=some j→i=j∨Thr (Edge l) l.length i j:=by
 induction h with
 | refl _=>
  intro i j m f;rw[m] at f;cases f;exact .inl rfl
 | step t r q v=>
  rename_i a u b c
  intro i j m f
  obtain ⟨d,p⟩:=q.left
  obtain ⟨_,_,k,n,s⟩:=U7 p
  obtain ⟨w,e,g,_⟩:=Ji m
  rw[t] at e;cases e
  have o:Edge l i k:=⟨c,g,u,r,n⟩
  rcases v k j n f with rfl | hT
  ·exact .inr (.one o)
  ·exact .inr (.more o (C2 n).1 hT)
theorem Q9u {l:List Cla} (a:I0 l) {i j:Nat} (o:i<l.length) (m:j<l.length) (h:Us (lk l) (Y0 l i) (Y0 l j)):Thr (Edge l) l.length i j:=by
 obtain ⟨c,g,u,q,f⟩:=h
 rw[Q97 a o] at g;cases g
 obtain ⟨d,p⟩:=f.left
 obtain ⟨_,_,k,e,r⟩:=U7 p
 have n:Edge l i k:=⟨_,List.getElem?_eq_getElem o,u,q,e⟩
 have b:Y5 l (Y0 l j)=some j:=by
  have:=a.find (List.getElem?_eq_getElem m)
  unfold Y0
  rw[List.getD_eq_getElem?_getD,List.getElem?_eq_getElem m];exact this
 rcases Q84 a f k j e b with rfl | hT
 ·exact .one n
 ·exact .more n (C2 e).1 hT
theorem X0Y {l:List Cla} (b:I0 l) {i j:Nat} (a:i<l.length) (c:j<l.length):Thr (Edge l) l.length i j↔Jg l (Y0 l i) (Y0 l j)=true:=by
 rw[Vm]
 exact ⟨fun h=>(Q95 b a h).2,Q9u b a c⟩
def Xr (l:List Cla):List (List Bool):=(List.range l.length).map fun i=>(List.range l.length).map fun j=>Jg l (Y0 l i) (Y0 l j)
def Sn (m:Nat→Nat→Bool) (i j:Nat) (b:Bool):Nat→Nat→Bool:=fun x y=>if x=i∧y=j then b else m x y
structure Clos (E : Nat → Nat → Prop) (n k i j : Nat) (m : Nat → Nat → Bool) : Prop where
  sound : ∀ a b, m a b = true → Thr E n a b
  full : ∀ a b, a < n → b < n → Thr E k a b → m a b = true
  done : ∀ a b, a < n → b < n → (a < i ∨ (a = i ∧ b < j)) → Thr E (k + 1) a b → m a b = true
theorem Clos.next {E:Nat→Nat→Prop} {n k i j:Nat} {m:Nat→Nat→Bool} (h:Clos E n k i j m) (r:k<n) (t:i<n) (s:j<n):Clos E n k i (j+1) (Sn m i j (m i j||(m i k&&m k j))):=by
 have f: ∀a b,m a b=true→Sn m i j (m i j||(m i k&&m k j)) a b=true:=by
  intro a b c
  unfold Sn
  split
  ·rename_i e;rw[←e.1,←e.2,c];rfl
  ·exact c
 refine ⟨fun a b c=>?_,fun a b p o g=>f a b (h.full a b p o g),fun a b p o q g=>?_⟩
 ·unfold Sn at c
  split at c
  ·rename_i e
   obtain ⟨rfl,rfl⟩:=e
   simp only[Bool.or_eq_true,Bool.and_eq_true] at c
   rcases c with d | ⟨d,l⟩
   ·exact h.sound _ _ d
   ·exact (h.sound _ _ d).join r (h.sound _ _ l)
  ·exact h.sound _ _ c
 ·by_cases e:a=i∧b=j
  ·obtain ⟨rfl,rfl⟩:=e
   unfold Sn
   rw[if_pos ⟨rfl,rfl⟩]
   rcases g.cut with d | ⟨d,l⟩
   ·rw[h.full _ _ t s d];rfl
   ·rw[h.full _ _ t r d,h.full _ _ r s l];simp
  ·refine f a b (h.done a b p o ?_ g)
   rcases q with d | ⟨d,l⟩
   ·exact .inl d
   ·right;refine ⟨d,?_⟩
    have:b≠j:=fun u=>e ⟨d,u⟩
    omega
theorem Clos.row {E:Nat→Nat→Prop} {n k i:Nat} {m:Nat→Nat→Bool} (h:Clos E n k i n m):Clos E n k (i+1) 0 m:=
 ⟨h.sound,h.full,fun a b f e c d=>h.done a b f e (by omega) d⟩
theorem Clos.round {E:Nat→Nat→Prop} {n k:Nat} {m:Nat→Nat→Bool} (h:Clos E n k n 0 m):Clos E n (k+1) 0 0 m:=
 ⟨h.sound,fun a b c e d=>h.done a b c e (.inl c) d,fun a b c e f d=>by omega⟩
theorem Clos.start {E:Nat→Nat→Prop} {n:Nat} {m:Nat→Nat→Bool} (h: ∀a b,a<n→(m a b=true↔E a b)) (i: ∀a b,n≤a→m a b=false):Clos E n 0 0 0 m:=by
 refine ⟨fun a b c=>?_,fun a b d j f=>?_,fun a b d j g f=>by omega⟩
 ·by_cases d:a<n
  ·exact .one ((h a b d).1 c)
  ·rw[i a b (by omega)] at c;cases c
 ·cases f with
  | one e=>exact (h a b d).2 e
  | more _ k _=>omega
theorem Clos.all {l:List Cla} (c:I0 l) {m:Nat→Nat→Bool} (h:Clos (Edge l) l.length l.length 0 0 m) {i j:Nat} (a:i<l.length) (b:j<l.length):m i j=Jg l (Y0 l i) (Y0 l j):=by
 rw[Bool.eq_iff_iff,←X0Y c a b]
 exact ⟨h.sound i j,h.full i j a b⟩
end Go.Hm

namespace Go.Emb
open Go.RowKit Go.Hm
variable {P : Program} {w w0 w1 w' w'' : World} {K : Value → World → Prop} {σ σ0 σ1 σ' : Q4}
theorem X1h {t e:TypeId} {by_ n:Nat} {z:Value} [ts:TS P t e] [tz:TZ P e 1 by_ z] (g:X4 w σ) (k:z.cells= #[z]) (m:n≤1000000) (o:by_*n≤281474976710656)
 (h: ∀b w',w.heap.size≤b→Stp w σ w' σ→Z5 σ w' b (List.replicate n z)→K (.slice (some ⟨b,0,none⟩) n n) w'):Nn P t (I n) (I n) w K:=by
 obtain ⟨i,l,c,f,a⟩:=tz.info
 have d:(i.bytes:Int)*(n:Int)≤281474976710656:=by
  rw[f]
  have:((by_*n:Nat):Int)≤281474976710656:=by omega
  rwa [Int.natCast_mul] at this
 have j:=run_makeSlice (P:=P) w t e i z ts.h l a .i64 .i64 (n:Int) (n:Int) (by omega) (Int.le_refl _) (by rw[c];simp only[Int.toNat_natCast];omega) d (by omega)
 unfold Nn
 rw[X9 j]
 simp only[Int.toNat_natCast,c,Nat.mul_one]
 refine h _ _ (Nat.le_refl _) (Stp.own g _) ⟨g.none (Nat.le_refl _),e,?_⟩
 rw[heap_alloc_new,k]
 have:madeCells #[z] n=(List.replicate n z).toArray:=by rw[←toList_madeCells_one,Array.toArray_toList]
 rw[this]
def Q4D (n:Nat) (_:Q4) (b:Nat) (cs:List Value):Prop:=cs=[.slice (some ⟨b,0,none⟩) n n]
instance (n:Nat):Rep (Q4D n):=⟨fun _ h=>h,fun h u hu=>by rw[h] at hu;simp at hu;subst hu;rfl⟩
def Q7V (σ:Q4) (xs:List Bool) (cs:List Value):Prop:= ∃v,cs=[v]∧Sl 1 Q6S σ v xs
instance:Rep Q7V:=⟨fun k h=>by obtain ⟨v,h1,h2⟩:=h;exact ⟨v,h1,h2.le k⟩,fun h u hu=>by
 obtain ⟨v,rfl,a,cap,rfl,_⟩:=h
 simp at hu;subst hu;rfl⟩
def bools (n:Nat) (f:Nat→Bool):List Value:=(List.range n).map fun j=> .bool (f j)
theorem Aq {n:Nat} {f:Nat→Bool}:(bools n f).length=n:=by simp[bools]
theorem Q3m {n j:Nat} {f:Nat→Bool} (h:j<n):(bools n f)[j]? =some (.bool (f j)):=by simp[bools,h]
theorem Q3c {n j:Nat} {f:Nat→Bool} {b:Bool}:(bools n f).set j (.bool b)=bools n (fun x=>if x=j then b else f x):=by
 apply List.ext_getElem?
 intro k
 rw[List.getElem?_set]
 by_cases a:k<n
 ·by_cases e:j=k
  ·subst e;simp[bools,a]
  ·have c: ¬k=j:=fun h=>e h.symm
   simp[bools,a,e,c]
 ·simp[bools,a]
  intro e;omega
theorem Q5K {n:Nat}:List.replicate n (Value.bool false)=bools n fun _=>false:=by
 apply List.ext_getElem?
 intro k
 by_cases a:k<n<;>simp[bools,a]
def T8 (σ:Q4) (w:World) (a:List Nat) (n:Nat) (m:Nat→Nat→Bool):Prop:=a.Nodup∧ ∀i (h:i<a.length),Z5 σ w a[i] (bools n (m i))
theorem T8.up {a:List Nat} {n:Nat} {m:Nat→Nat→Bool} (h:T8 σ w a n m) (k:Stp w σ w' σ'):T8 σ' w' a n m:=⟨h.1,fun i b=>(h.2 i b).up k⟩
theorem T8.kp {a:List Nat} {n:Nat} {m:Nat→Nat→Bool} {D:Nat→Prop} (h:T8 σ w a n m) (k:Kpt D w w') (d: ∀b∈a,¬D b):T8 σ w' a n m:=⟨h.1,fun i c=>(h.2 i c).kp k (d _ (List.getElem_mem c))⟩
theorem T8.lt {a:List Nat} {n:Nat} {m:Nat→Nat→Bool} (h:T8 σ w a n m) {b:Nat} (d:b∈a):b<w.heap.size∧σ b=none:=by
 obtain ⟨i,c,rfl⟩:=List.getElem_of_mem d
 exact ⟨(h.2 i c).lt,(h.2 i c).1⟩
theorem T8.snoc {d:List Nat} {n b:Nat} {m:Nat→Nat→Bool} {f:Nat→Bool} (h:T8 σ w d n m) (o:b∉d) (l:Z5 σ w b (bools n f)):T8 σ w (d++[b]) n (fun x=>if x=d.length then f else m x):=by
 refine ⟨by rw[List.nodup_append];exact ⟨h.1,by simp,fun a p c j e=>by simp at j;subst j;subst e;exact o p⟩,fun i k=>?_⟩
 rw[List.length_append,List.length_singleton] at k
 by_cases g:i<d.length
 ·rw[List.getElem_append_left g]
  simp only[if_neg (show¬i=d.length by omega)]
  exact h.2 i g
 ·obtain rfl:i=d.length:=by omega
  simp only[List.getElem_concat_length,if_true]
  exact l
theorem T8.congr {a:List Nat} {n:Nat} {m m':Nat→Nat→Bool} (h:T8 σ w a n m) (c: ∀i,i<a.length→m i=m' i):T8 σ w a n m':=⟨h.1,fun i b=>c i b▸h.2 i b⟩
theorem T8.keep {a:List Nat} {n:Nat} {m:Nat→Nat→Bool} (R:0<n) (s:n≤1000000): ∀{σ:Q4},T8 σ w a n m→Stp w0 σ0 w σ→(∀b∈a,w0.heap.size≤b)→ ∃σ',Stp w0 σ0 w σ'∧SLe σ σ'∧ ∀i (h:i<a.length),Sl 1 Q6S σ' (.slice (some ⟨a[i],0,none⟩) n n) ((List.range n).map (m i)):=by
 intro σ h Q A
 have key: ∀k,k≤a.length→ ∃σ',Stp w0 σ0 w σ'∧SLe σ σ'∧(∀i (h:i<a.length),i<k→Z2 σ' ⟨a[i],0,none⟩ (bools n (m i)))∧ ∀i (h:i<a.length),k≤i→σ' a[i]=none:=by
  intro k
  induction k with
  | zero=>intro _;exact ⟨σ,Q,SLe.refl _,fun i _ h=>by omega,fun i d _=>(h.2 i d).1⟩
  | succ k O=>
   intro U
   obtain ⟨σ1,l,o,f,r⟩:=O (by omega)
   have c:k<a.length:=by omega
   have H:Z5 σ1 w a[k] (bools n (m k)):=⟨r k c (Nat.le_refl _),(h.2 k c).2⟩
   obtain ⟨B,D,y,u,C⟩:=H.keep l (A _ (List.getElem_mem c))
   refine ⟨B,D,o.more ⟨u⟩,fun i d J=>?_,fun i d N=>?_⟩
   ·by_cases e:i=k
    ·subst e;exact y
    ·exact (f i d (by omega)).le u
   ·rw[C]
    ·exact r i d (by omega)
    ·intro e
     have:=List.nodup_iff_pairwise_ne.1 h.1
     rw[List.pairwise_iff_getElem] at this
     exact this k i c d (by omega) e.symm
 obtain ⟨σ1,l,o,f,_⟩:=key a.length (Nat.le_refl _)
 refine ⟨σ1,l,o,fun i d=>⟨some ⟨a[i],0,none⟩,n,by simp,by simp,by simp only[maxLen];omega,fun e=>(by cases e),?_⟩⟩
 intro b M
 obtain rfl:=Option.some.inj M
 refine ⟨fun _=>rfl,fun j x q=>?_⟩
 have t:j<n:=by have:=(List.getElem?_eq_some_iff.1 q).1;simpa using this
 obtain ⟨q0,D7,e,E,z,L⟩:=f i d d
 have g:x=m i j:=by simp[t] at q;exact q.symm
 refine ⟨[.bool x],⟨I4 rfl _,D7,e,E,by rw[C6];exact z,fun k v p=>?_⟩,rfl,rfl⟩
 obtain rfl:k=0:=by cases k with
  | zero=>rfl
  | succ k=>simp at p
 simp at p
 rw[Ya,←p,g]
 have:=L j _ (Q3m t)
 simpa using this
end Go.Emb

namespace Go.Emb
open Go.RowKit Go.Hm
variable {P : Program} {w w0 w1 w' w'' : World} {K : Value → World → Prop} {σ σ0 σ1 σ' : Q4}
theorem Q00 {t e:TypeId} {sz by_:Nat} {z:Value} [ts:TS P t e] [tz:TZ P e sz by_ z] {a:Addr} {n b i:Nat} (d:i<n) (c:K (.pointer (some (a.add (i*sz)))) w):indexAddr P t (.slice (some a) n b) (I i) w K:=by
 rw[Cm (by omega) (by omega)]
 simpa using c
theorem T8.nx {D:Nat→Prop} {a:List Nat} {n:Nat} {m:Nat→Nat→Bool} (h:T8 σ w a n m) (k:Nxt D w σ w' σ') (d: ∀b∈a,¬D b):T8 σ' w' a n m:=
 ⟨h.1,fun i c=>(h.2 i c).nx k (d _ (List.getElem_mem c))⟩
theorem T8.set {a:List Nat} {n i j:Nat} {b:Bool} {m:Nat→Nat→Bool} (h:T8 σ w a n m) (d:i<a.length) (o:Upd w a[i] w') (f:Z5 σ w' a[i] ((bools n (m i)).set j (.bool b))):T8 σ w' a n (Sn m i j b):=by
 refine ⟨h.1,fun k c=>?_⟩
 by_cases e:k=i
 ·subst e
  rw[Q3c] at f
  have:Sn m k j b k=fun x=>if x=j then b else m k x:=by funext x;simp[Sn]
  rw[this];exact f
 ·have:Sn m i j b k=m k:=by funext x;simp[Sn,e]
  rw[this]
  refine (h.2 k c).upd o fun g=>e ?_
  rcases Nat.lt_trichotomy k i with hlt | hlt | hlt
  ·have:=List.nodup_iff_pairwise_ne.1 h.1
   rw[List.pairwise_iff_getElem] at this
   exact absurd g (this k i c d hlt)
  ·exact hlt
  ·have:=List.nodup_iff_pairwise_ne.1 h.1
   rw[List.pairwise_iff_getElem] at this
   exact absurd g.symm (this i k d c hlt)
end Go.Emb
namespace Go.Proofs.YtfppjenblllfaaaGreatDoor
open Go.Emb Go.RowKit Go.Kd Go.Hm
variable {w : World} {K : Value → World → Prop} {σ : Q4} {l : List Cla} {v : Value}
def Lm (l:List Cla) (i j:Nat):Bool:=match l[i]? with
 | none=>false
 | some c=>(J3 c).any fun u=>decide (Y5 l u=some j)
theorem Q8x (l:List Cla) (i j:Nat):Lm l i j=true↔Hm.Edge l i j:=by
 unfold Lm Hm.Edge
 cases h:l[i]? with
 | none=>simp
 | some c=>simp[List.any_eq_true]
theorem Q8G {l:List Cla} {i j:Nat} (h:l.length≤i):Lm l i j=false:=by
 unfold Lm
 rw[List.getElem?_eq_none h]
set_option maxHeartbeats 4000000 in
theorem Q2X (hs:X4 w σ) (hl:Sl 8 U8 σ v l) (ho:I0 l) (hpos:0<l.length) (hlen:l.length≤1000) (hsm: ∀c∈l,T7 c)
 (h: ∀v' w' σ',Stp w σ w' σ'→Sl 1 Q7V σ' v' (Xr l)→K v' w'):Q1 P F.az [v] w K:=Fu (by
 unfold Wp
 refine Tm (R:=Q4D l.length) (e:=T.a0) (Stp.refl hs) (by decide) fun x0 w1 hk1 ha1 _=>?_
 refine D5 l.length (fun n x w'=> ∃σ' bs,Stp w σ w' σ'∧V8 w.heap.size T.a0 1 (Q4D l.length) σ' w' x bs∧T8 σ' w' bs l.length (Lm l)∧bs.length=n∧ ∀b∈bs,w.heap.size≤b∧x.ownBlock≠some b) ⟨σ,[],hk1,ha1,⟨List.nodup_nil,by simp⟩,rfl,by simp⟩ fun n x w2 d hn hinv=>?_
 obtain ⟨σ2,bs,hS2,ha2,hM2,hbl,hb2⟩:=hinv
 refine Q8 (hl.up hS2) ?_
 refine Y8 ?_
 refine Q5 (fun hc=>?_) (fun hc=>?_)
 ·have hn':n<l.length:=by simpa using hc
  have hl2:=hl.up hS2
  refine Q8 hl2 ?_
  refine X1h hS2.sat rfl (by omega) (by omega) fun b w3 hb3 hk3 hm3=>?_
  rw[Q5K] at hm3
  obtain ⟨lv,fv,mv,p1,r1⟩:=hl2.elC hn'
  obtain ⟨g1,_,_,g4,g5⟩:=r1.parts
  have hsmc:=hsm _ (List.getElem_mem hn')
  have hs3:=hk3.sat
  refine V3 hs3 ?_
  (repeat refine U6 Qt ?_)
  refine Q2i (w:=w3) (σ:=σ2) (R:=Y1) (sz:=1) (e:=T.b) [l[n].super] (fun t w hb e=>?_) ?_
  ·subst e;exact I6 hb.stp [_] [l[n].super] rfl rfl (by simp;rfl) rfl ⟨⟨rfl,g5⟩,trivial⟩ fun v' w' hk ha _=>Q4S hb hk ha
  (repeat refine U6 Qt ?_)
  rintro t24 t25 t30 t31 t26 t27 t32 w4 hb4 rfl rfl rfl rfl rfl ⟨f27,a27⟩ rfl
  refine Dl f27 a27 g1 rfl (by simp;have:=hsmc.1;omega) (by simp;have:=hsmc.1;omega) fun v5 w5 hn5 hS5 ha5 hat5=>?_
  obtain ⟨σ6,hS6,hv6,le6,_⟩:=ha5.keep hS5
  have hv6:Sl 1 Y1 σ6 v5 (J3 l[n]):=hv6
  have hb3w:w.heap.size≤b:=Nat.le_trans hS2.bel.size hb3
  have hm6:=hm3.up hS6
  have ha6:=(ha2.up hk3).up hS6
  have hM6:=(hM2.up hk3).up hS6
  have hS26:=(hS2.trans hk3).trans hS6
  have hxb: ∀k,x.ownBlock=some k→k≠b:=fun k e=>by have:=(ha2.mem k e).2.1;omega
  have hbbs:b∉bs:=fun e=>by have:=(hM2.lt e).1;omega
  clear hm3 ha2 hM2 hS6 hS5 ha5 a27 f27 hn5 hat5
  refine J4 (J3 l[n]).length (fun k w'=>Stp w σ w' σ6∧V8 w.heap.size T.a0 1 (Q4D l.length) σ6 w' x bs∧T8 σ6 w' bs l.length (Lm l)∧Z5 σ6 w' b (bools l.length fun j=>((J3 l[n]).take k).any fun u=>decide (Y5 l u=some j)))
   ⟨hS26,ha6,hM6,hm6⟩ fun k w7 d7 hk hinv=>?_
  obtain ⟨hS7,ha7,hM7,hm7⟩:=hinv
  refine Q8 hv6 ?_
  refine Y8 ?_
  refine Q5 (fun hc=>?_) (fun hc=>?_)
  ·have hk':k<(J3 l[n]).length:=by simpa using hc
   refine V9 ?_
   refine U2 hv6 hk' ?_
   obtain ⟨p2,p3⟩:=hv6.elS hk'
   refine X7 hS7.sat p2 rfl ?_
   refine T2 hS7.sat (hl.up hS7) ?_
   refine F0 ?_
   rw[Ja]
   have hnx: ∀f:Nat→Bool,(∀j,f j=(((J3 l[n]).take k).any (fun u=>decide (Y5 l u=some j))||decide (Y5 l (J3 l[n])[k]=some j)))→f=fun j=>((J3 l[n]).take (k+1)).any fun u=>decide (Y5 l u=some j):=by
    intro f hf;funext j;rw[hf,M0 hk']
   cases hfc:Y5 l (J3 l[n])[k] with
   | none=>
    simp only[Option.isSome_none,↓M1,M1,Mb,reduceIte]
    intro d
    refine Y3 hv6.max hk' ⟨hS7,ha7,hM7,?_⟩
    rw[←hnx (fun j=>((J3 l[n]).take k).any fun u=>decide (Y5 l u=some j)) (fun j=>by rw[hfc];simp)]
    exact hm7
   | some j=>
    have hj:=(C2 hfc).1
    simp only[Option.isSome_some,W8,↓M1,M1,Mb,reduceIte]
    refine Q00 hj ?_
    rw[Nat.mul_one]
    refine Nb hm7 (by rw[Aq];exact hj) (by rfl) (by rfl) fun w8 u8 hm8=>?_
    intro d
    rw[Q3c] at hm8
    refine Y3 hv6.max hk' ⟨u8.stp hS7 hb3w hm7.1,ha7.kp (D:=(· =b)) (.of_upd u8 rfl) hxb,hM7.kp (D:=(· =b)) (.of_upd u8 rfl) (fun c hc e=>hbbs (e▸hc)),?_⟩
    rw[←hnx (fun x=>if x=j then true else _) (fun i=>?_)]
    ·exact hm8
    ·rw[hfc]
     by_cases e:i=j
     ·subst e;simp
     ·have: ¬j=i:=fun e'=>e e'.symm
      simp[e,this]
  ·have hk': ¬k<(J3 l[n]).length:=by simpa using hc
   have hk0:k=(J3 l[n]).length:=by omega
   subst hk0
   rw[List.take_of_length_le (Nat.le_refl _)] at hm7
   have hef:(fun j=>(J3 l[n]).any fun u=>decide (Y5 l u=some j))=Lm l n:=by
    funext j;unfold Lm;rw[List.getElem?_eq_getElem hn']
   rw[hef] at hm7
   have hM8:=(hM7.snoc hbbs hm7).congr (m':=Lm l) (fun i _=>by
    by_cases e:i=bs.length
    ·rw[if_pos e,e,hbl]
    ·rw[if_neg e])
   refine Un (R:=Q4D l.length) (x:=b) hS7 ha7 rfl rfl rfl rfl (by omega) (by omega) fun s v' w9 σ9 hnx hS9 ha9 hat=>?_
   have hdis: ∀c∈bs++[b],w.heap.size≤c∧x.ownBlock≠some c:=by
    intro c hc
    rcases List.mem_append.1 hc with hc | hc
    ·exact hb2 c hc
    ·simp at hc;subst hc;exact ⟨hb3w,fun e=>hxb _ e rfl⟩
   have hlt9: ∀c∈bs++[b],c<w7.heap.size:=fun c hc=>(hM8.lt hc).1
   refine O3 ?_
   refine Z6 (by omega) hn' ⟨σ9,bs++[b],hS9,ha9,hM8.nx hnx (fun c hc=>(hdis c hc).2),by rw[List.length_append,hbl];rfl,fun c hc=>⟨(hdis c hc).1,fun e=>?_⟩⟩
   rcases hat with hat | hat
   ·exact (hdis c hc).2 (hat▸e)
   ·have:=hat c e;have:=hlt9 c hc;omega
 ·have hn0:n=l.length:=by
   have: ¬n<l.length:=by simpa using hc
   omega
  obtain ⟨σ8,hS8,hv8,le8,old8⟩:=ha2.keep hS2
  have hlb:bs.length=l.length:=by omega
  have hM8:T8 σ8 w2 bs l.length (Lm l):=⟨hM2.1,fun i hi=>⟨(old8 _ (fun e=>(hb2 _ (List.getElem_mem hi)).2 e.symm)).trans (hM2.2 i hi).1,(hM2.2 i hi).2⟩⟩
  have hpx: ∀i (hi:i<bs.length),Z2 σ8 (elA 1 x i) [.slice (some ⟨bs[i],0,none⟩) l.length l.length]:=fun i hi=>by
   obtain ⟨cs,h1,_,h2⟩:=hv8.el hi
   have h2:cs=_:=h2
   subst h2;exact h1
  clear ha2 hM2 hS2 le8 old8
  refine J4 l.length (fun k w'=> ∃m,Stp w σ w' σ8∧T8 σ8 w' bs l.length m∧Clos (Hm.Edge l) l.length k 0 0 m) ⟨Lm l,hS8,hM8,Clos.start (fun a b _=>Q8x l a b) (fun a b h=>Q8G h)⟩ fun k w3 d3 hk3 hinv=>?_
  obtain ⟨m3,hS3,hM3,hC3⟩:=hinv
  refine Q8 (hl.up hS3) ?_
  refine Y8 ?_
  refine Q5 (fun hc=>?_) (fun hc=>?_)
  ·have hk':k<l.length:=by simpa using hc
   refine J4 l.length (fun i w'=> ∃m,Stp w σ w' σ8∧T8 σ8 w' bs l.length m∧Clos (Hm.Edge l) l.length k i 0 m) ⟨m3,hS3,hM3,hC3⟩ fun i w4 d4 hi4 hinv=>?_
   obtain ⟨m4,hS4,hM4,hC4⟩:=hinv
   refine Q8 (hl.up hS4) ?_
   refine Y8 ?_
   refine Q5 (fun hc=>?_) (fun hc=>?_)
   ·have hi':i<l.length:=by simpa using hc
    refine J4 l.length (fun j w'=> ∃m,Stp w σ w' σ8∧T8 σ8 w' bs l.length m∧Clos (Hm.Edge l) l.length k i j m) ⟨m4,hS4,hM4,hC4⟩ fun j w5 d5 hj5 hinv=>?_
    obtain ⟨m5,hS5,hM5,hC5⟩:=hinv
    refine Q8 (hl.up hS5) ?_
    refine Y8 ?_
    refine Q5 (fun hc=>?_) (fun hc=>?_)
    ·have hj':j<l.length:=by simpa using hc
     have hi6:i<bs.length:=by omega
     have hk6:k<bs.length:=by omega
     have px_i:=hpx i hi6
     have px_k:=hpx k hk6
     have hrd: ∀{w':World} {K:Value→World→Prop} {a b:Nat} {ha:a<bs.length},Hst w5 σ8 w' σ8→b<l.length→K (.bool (m5 a b)) w'→Q2 P T.n (.pointer (some ((⟨bs[a],0,none⟩:Addr).add (b*1)))) w' K:=fun hst hb hK=>by
      rw[Nat.mul_one]
      exact Qu (((hM5.up hst.stp).2 _ _).cell (Q3m hb)) hK
     refine V3 hS5.sat ?_
     (repeat (apply U6;(· intros;(repeat (rename_i hx;subst hx));(repeat' (first | (with_reducible exact N4 rfl) | (with_reducible exact Zw (Stp.bel (by (repeat (first | exact Stp.refl (by (first | assumption | exact Stp.sat (by assumption) | exact Hst.sat (by assumption))) | assumption | refine Stp.trans ?_ (by first | assumption | exact Hst.stp (by assumption)))))) rfl) | (with_reducible intro _) | (simp only[↓M2,M2,Mb,reduceIte]) | (with_reducible refine Q00 au ?_) | (with_reducible refine hrd au au ?_) | (with_reducible show Q2 _ _ _ _ _;first | refine X7 aS aL aR ?_ | refine Z1 aS aL aR ?_ | refine ld aS aL aR ?_) | (with_reducible show indexAddr _ _ _ _ _ _;refine U2 aL au ?_) | (with_reducible show X5 _ _ _ _ _ _ _ _;refine Q8 aL ?_) | (with_reducible show We _ _ _ _ _ _;refine V4 aR ?_) | (with_reducible show pick _ _ _ _ _ _;refine Jw ?_) | (apply Vz;intro hh;(try simp only[hh,reduceIte,↓M2,M2,Mb,reduceIte]))));done)))
     cases h1:m5 i j
     ·simp only[reduceIte]
      (repeat (apply U6;(· intros;(repeat (rename_i hx;subst hx));(repeat' (first | (with_reducible exact N4 rfl) | (with_reducible exact Zw (Stp.bel (by (repeat (first | exact Stp.refl (by (first | assumption | exact Stp.sat (by assumption) | exact Hst.sat (by assumption))) | assumption | refine Stp.trans ?_ (by first | assumption | exact Hst.stp (by assumption)))))) rfl) | (with_reducible intro _) | (simp only[↓M2,M2,Mb,reduceIte]) | (with_reducible refine Q00 au ?_) | (with_reducible refine hrd au au ?_) | (with_reducible show Q2 _ _ _ _ _;first | refine X7 aS aL aR ?_ | refine Z1 aS aL aR ?_ | refine ld aS aL aR ?_) | (with_reducible show indexAddr _ _ _ _ _ _;refine U2 aL au ?_) | (with_reducible show X5 _ _ _ _ _ _ _ _;refine Q8 aL ?_) | (with_reducible show We _ _ _ _ _ _;refine V4 aR ?_) | (with_reducible show pick _ _ _ _ _ _;refine Jw ?_) | (apply Vz;intro hh;(try simp only[hh,reduceIte,↓M2,M2,Mb,reduceIte]))));done)))
      (intros;(repeat (rename_i hx;subst hx));(try simp only[↓M2,M2,Mb,reduceIte]))
      rename_i w6 hb6
      refine Q00 hj' ?_
      rw[Nat.mul_one]
      refine Eq.subst (motive:=fun V=>Z4 P T.n (.pointer (some ((⟨bs[i],0,none⟩:Addr).add j))) V w6 _) (show Value.bool (m5 i j||(m5 i k&&m5 k j))=_ from by cases h2:m5 i k<;>simp[h1,h2]) ?_
      refine Nb ((hM5.up hb6.stp).2 i hi6) (by rw[Aq];exact hj') (by rfl) (by rfl) fun w7 u7 hm7=>?_
      (try simp only[↓M1,M1,Mb,reduceIte])
      exact Y3 (by omega) hj' ⟨_,u7.stp (hS5.trans hb6.stp) (hb2 _ (List.getElem_mem hi6)).1 hm7.1,(hM5.up hb6.stp).set hi6 u7 hm7,hC5.next hk' hi' hj'⟩
     ·simp only[Bool.true_eq_false,reduceIte]
      (repeat (apply U6;(· intros;(repeat (rename_i hx;subst hx));(repeat' (first | (with_reducible exact N4 rfl) | (with_reducible exact Zw (Stp.bel (by (repeat (first | exact Stp.refl (by (first | assumption | exact Stp.sat (by assumption) | exact Hst.sat (by assumption))) | assumption | refine Stp.trans ?_ (by first | assumption | exact Hst.stp (by assumption)))))) rfl) | (with_reducible intro _) | (simp only[↓M2,M2,Mb,reduceIte]) | (with_reducible refine Q00 au ?_) | (with_reducible refine hrd au au ?_) | (with_reducible show Q2 _ _ _ _ _;first | refine X7 aS aL aR ?_ | refine Z1 aS aL aR ?_ | refine ld aS aL aR ?_) | (with_reducible show indexAddr _ _ _ _ _ _;refine U2 aL au ?_) | (with_reducible show X5 _ _ _ _ _ _ _ _;refine Q8 aL ?_) | (with_reducible show We _ _ _ _ _ _;refine V4 aR ?_) | (with_reducible show pick _ _ _ _ _ _;refine Jw ?_) | (apply Vz;intro hh;(try simp only[hh,reduceIte,↓M2,M2,Mb,reduceIte]))));done)))
      (intros;(repeat (rename_i hx;subst hx));(try simp only[↓M2,M2,Mb,reduceIte]))
      rename_i w6 hb6
      refine Q00 hj' ?_
      rw[Nat.mul_one]
      refine Eq.subst (motive:=fun V=>Z4 P T.n (.pointer (some ((⟨bs[i],0,none⟩:Addr).add j))) V w6 _) (show Value.bool (m5 i j||(m5 i k&&m5 k j))=_ from by simp[h1]) ?_
      refine Nb ((hM5.up hb6.stp).2 i hi6) (by rw[Aq];exact hj') (by rfl) (by rfl) fun w7 u7 hm7=>?_
      (try simp only[↓M1,M1,Mb,reduceIte])
      exact Y3 (by omega) hj' ⟨_,u7.stp (hS5.trans hb6.stp) (hb2 _ (List.getElem_mem hi6)).1 hm7.1,(hM5.up hb6.stp).set hi6 u7 hm7,hC5.next hk' hi' hj'⟩
    ·have hj0:j=l.length:=by
      have: ¬j<l.length:=by simpa using hc
      omega
     subst hj0
     refine O3 ?_
     exact Y3 (by omega) hi' ⟨m5,hS5,hM5,hC5.row⟩
   ·have hi0:i=l.length:=by
     have: ¬i<l.length:=by simpa using hc
     omega
    subst hi0
    refine O3 ?_
    exact Y3 (by omega) hk' ⟨m4,hS4,hM4,hC4.round⟩
  ·have hk0:k=l.length:=by
    have: ¬k<l.length:=by simpa using hc
    omega
   subst hk0
   obtain ⟨σ9,hS9,le9,hrows⟩:=hM3.keep hpos (by omega) hS3 (fun b hb=>(hb2 b hb).1)
   refine h _ _ _ hS9 ((hv8.lift le9).conv (by simp[Xr,hlb]) fun i hi hj cs hcs=>?_)
   have hcs:cs=_:=hcs
   subst hcs
   refine ⟨_,rfl,?_⟩
   have:=hrows i hi
   have he:(Xr l)[i]=(List.range l.length).map (m3 i):=by
    have hi':i<l.length:=by omega
    simp only[Xr,List.getElem_map,List.getElem_range]
    apply List.map_congr_left
    intro j hj
    exact (Clos.all ho hC3 hi' (by simpa using hj)).symm
   rw[he];exact this)
end Go.Proofs.YtfppjenblllfaaaGreatDoor
