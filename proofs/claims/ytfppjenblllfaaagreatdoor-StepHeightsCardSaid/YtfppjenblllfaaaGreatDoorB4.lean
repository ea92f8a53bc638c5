/- Parts of a proof about the given program: its functions as texts of their own, what each computes, plain laws of that. The conditions of each stand in its statement. -/
import Derived.Test.YtfppjenblllfaaaGreatDoorB3
import Derived.Shelf.Strings.Builder1
import Derived.Shelf.Strings.Builder2
import Derived.Shelf.Strings.OnBuilder
import Derived.Shelf.Strings.Trim
import Derived.Shelf.Small.Utf8
import Derived.Shelf.Small.Strs
import Derived.Shelf.Small.Wraps
import Derived.Shelf.Strings.BuilderF
import Derived.Shelf.Strings.BuilderK
import Derived.Shelf.Strings.Builder2Cap
import Derived.Shelf.Strings.Search1
import Derived.Shelf.Strings.Search2
import Derived.Shelf.Strings.Search3
import Derived.Shelf.Strings.Cut
import Derived.Shelf.LaysM
import Derived.Shelf.Strings.Shaped
import Derived.Shelf.Strings.Prefix
import Derived.Shelf.Unicode.Decode
import Derived.Shelf.Strings.Runes
import Derived.Shelf.Strings.AsciiSet
import Derived.Shelf.Unicode.DecodeSlow
import Derived.Shelf.Unicode.DecodeAny
import Derived.Shelf.Unicode.DecodeLast
import Derived.Shelf.Slices.Turned
import Derived.Ground.Names2Prog
import Derived.Shelf.Slices.Clone
import Derived.Ground.SlgnProg
import Derived.Shelf.SlicesE.Clone
import Derived.Shelf.Unicode.ValidAny
import Derived.Test.YtfppjenblllfaaaGreatDoorProg
import Derived.Test.YtfppjenblllfaaaGreatDoorRows
import Derived.Lib.LaidU8T
import Derived.OpenShut
import Derived.MakeChecks
import Derived.WideShapes
import Derived.Lib.AsciiSet
import Derived.Lib.Join
import Derived.Maps.RangeRun
import Derived.Laws.OwnMore
set_option linter.unnecessarySimpa false
set_option linter.defProp false
set_option linter.unusedSectionVars false
set_option linter.unusedVariables false
set_option linter.unusedSimpArgs false
namespace Go.Proofs
open Go.Shelf
def Tryz.lays156_ren : Go.Shelf.Ren := ⟨fun | 156 => 165 | 165 => 200 | 166 => 201 | 169 => 202 | 240 => 219 | 241 => 220 | 276 => 230 | 277 => 231 | n => n, fun | 31 => 22 | 9 => 9 | 3 => 3 | 4 => 4 | 0 => 0 | 20 => 20 | 72 => 188 | 76 => 191 | 70 => 185 | 37 => 186 | 75 => 190 | 127 => 199 | 164 => 209 | 5 => 5 | 80 => 141 | n => n, fun | n => n⟩
theorem Tryz.lays156 : Go.Proofs.Lays.n156 Tryz.prog Tryz.lays156_ren := {
  mixed := by kernel_rfl
  f156 := Tryz.func165.trans (congrArg some (by kernel_rfl))
  f165 := Tryz.func200.trans (congrArg some (by kernel_rfl))
  f166 := Tryz.func201.trans (congrArg some (by kernel_rfl))
  f169 := Tryz.func202.trans (congrArg some (by kernel_rfl))
  f240 := Tryz.func219.trans (congrArg some (by kernel_rfl))
  f241 := Tryz.func220.trans (congrArg some (by kernel_rfl))
  f276 := Tryz.func230.trans (congrArg some (by kernel_rfl))
  f277 := Tryz.func231.trans (congrArg some (by kernel_rfl))
  t0 := Tryz.underlying0
  a0 := Tryz.isAgg0
  z0 := Tryz.sizeOf0
  v0 := Tryz.zeroValue0
  t3 := Tryz.underlying3
  a3 := Tryz.isAgg3
  z3 := Tryz.sizeOf3
  v3 := Tryz.zeroValue3
  t4 := Tryz.underlying4
  a4 := Tryz.isAgg4
  z4 := Tryz.sizeOf4
  v4 := Tryz.zeroValue4
  t9 := Tryz.underlying9
  a9 := Tryz.isAgg9
  z9 := Tryz.sizeOf9
  v9 := Tryz.zeroValue9
  t20 := Tryz.underlying20
  a20 := Tryz.isAgg20
  z20 := Tryz.sizeOf20
  v20 := Tryz.zeroValue20
  t31 := Tryz.underlying22
  a31 := Tryz.isAgg22
  z31 := Tryz.sizeOf22
  v31 := Tryz.zeroValue22
  t37 := Tryz.underlying186
  a37 := Tryz.isAgg186
  z37 := Tryz.sizeOf186
  v37 := Tryz.zeroValue186
  t70 := Tryz.underlying185
  a70 := Tryz.isAgg185
  z70 := Tryz.sizeOf185
  v70 := Tryz.zeroValue185
  t72 := Tryz.underlying188
  a72 := Tryz.isAgg188
  z72 := Tryz.sizeOf188
  v72 := Tryz.zeroValue188
  t75 := Tryz.underlying190
  a75 := Tryz.isAgg190
  z75 := Tryz.sizeOf190
  v75 := Tryz.zeroValue190
  t76 := Tryz.underlying191
  a76 := Tryz.isAgg191
  z76 := Tryz.sizeOf191
  v76 := Tryz.zeroValue191
  t127 := Tryz.underlying199
  a127 := Tryz.isAgg199
  z127 := Tryz.sizeOf199
  v127 := Tryz.zeroValue199
  t164 := Tryz.underlying209
  a164 := Tryz.isAgg209
  z164 := Tryz.sizeOf209
  v164 := Tryz.zeroValue209 }
theorem Tryz.Builder_Extra_156 : Builder.Extra Tryz.prog Tryz.lays156_ren := {
  sizeBuilder := by kernel_rfl
  liesBuilder := by kernel_rfl
  t5 := Tryz.underlying5
  a5 := Tryz.isAgg5
  z5 := Tryz.sizeOf5
  v5 := Tryz.zeroValue5
  infoByte := by kernel_rfl
  cellsByte := by kernel_rfl
  sizeByte := by kernel_rfl
  neB5 := by decide }
open Go.RowKit in
theorem Tryz.strings_Join_none (a : Option Addr) (c : Nat) (sep : ByteArray) (w : World) :
    Calls Tryz.prog 165 #[.slice a 0 c, .string sep] w fun e w' => e = .returned (.string ⟨#[]⟩) ∧ w' = w := Any.strings_Join_none Tryz.lays156 Tryz.Builder_Extra_156 a c sep w
open Go.RowKit in
theorem Tryz.strings_Join (bk o c : Nat) (xs : List ByteArray) (sep : ByteArray) (w : World) (hcells : ∀ (j : Nat) x, xs[j]? = some x → w.cell? ⟨bk, o + j, none⟩ = some (.string x)) (hbk : bk < w.heap.size) (hN : xs.length ≤ 140737488355328) (hcap : xs.length ≤ c) (hlen : (Lib.join (xs.map (·.data.toList)) sep.data.toList).length ≤ 140737488355328) :
    Calls Tryz.prog 165 #[.slice (some ⟨bk, o, none⟩) xs.length c, .string sep] w fun e w' => e = .returned (.string ⟨(Lib.join (xs.map (·.data.toList)) sep.data.toList).toArray⟩) ∧ Below w.heap.size w w' := Any.strings_Join Tryz.lays156 Tryz.Builder_Extra_156 bk o c xs sep w hcells hbk hN hcap hlen
open Go.RowKit in
def Tryz.lays144_ren : Go.Shelf.Ren := ⟨fun | 144 => 227 | 143 => 239 | 219 => 222 | 217 => 223 | 225 => 212 | 224 => 211 | 267 => 234 | 266 => 235 | 314 => 241 | n => n, fun | 9 => 9 | 4 => 4 | 3 => 3 | 5 => 5 | 46 => 196 | 146 => 218 | 51 => 217 | n => n, fun | 1 => 3 | n => n⟩
theorem Tryz.lays144 : Go.Proofs.Lays.n144 Tryz.prog Tryz.lays144_ren := {
  mixed := by kernel_rfl
  f143 := Tryz.func239.trans (congrArg some (by kernel_rfl))
  f144 := Tryz.func227.trans (congrArg some (by kernel_rfl))
  f217 := Tryz.func223.trans (congrArg some (by kernel_rfl))
  f219 := Tryz.func222.trans (congrArg some (by kernel_rfl))
  f224 := Tryz.func211.trans (congrArg some (by kernel_rfl))
  f225 := Tryz.func212.trans (congrArg some (by kernel_rfl))
  f266 := Tryz.func235.trans (congrArg some (by kernel_rfl))
  f267 := Tryz.func234.trans (congrArg some (by kernel_rfl))
  f314 := Tryz.func241.trans (congrArg some (by kernel_rfl))
  t3 := Tryz.underlying3
  a3 := Tryz.isAgg3
  z3 := Tryz.sizeOf3
  v3 := Tryz.zeroValue3
  t4 := Tryz.underlying4
  a4 := Tryz.isAgg4
  z4 := Tryz.sizeOf4
  v4 := Tryz.zeroValue4
  t5 := Tryz.underlying5
  a5 := Tryz.isAgg5
  z5 := Tryz.sizeOf5
  v5 := Tryz.zeroValue5
  t9 := Tryz.underlying9
  a9 := Tryz.isAgg9
  z9 := Tryz.sizeOf9
  v9 := Tryz.zeroValue9
  t46 := Tryz.underlying196
  a46 := Tryz.isAgg196
  z46 := Tryz.sizeOf196
  v46 := Tryz.zeroValue196
  t51 := Tryz.underlying217
  a51 := Tryz.isAgg217
  z51 := Tryz.sizeOf217
  v51 := Tryz.zeroValue217
  t146 := Tryz.underlying218
  a146 := Tryz.isAgg218
  z146 := Tryz.sizeOf218
  v146 := Tryz.zeroValue218
  g1 := by kernel_rfl }
open Go.RowKit Go.Lib in
theorem Tryz.strings_Contains_one (s : ByteArray) (c : UInt8) (w : World) :
    Calls Tryz.prog 227 #[.string s, .string ⟨#[c]⟩] w fun e w' => e = .returned (.bool (decide (0 ≤ Lib.indexByte s.data.toList c))) ∧ w' = w := Any.strings_Contains_one Tryz.lays144 s c w
def Tryz.lays227_ren : Go.Shelf.Ren := ⟨fun | 227 => 88 | n => n, fun | 9 => 9 | 116 => 107 | 4 => 4 | 0 => 0 | 3 => 3 | 5 => 5 | n => n, fun | n => n⟩
theorem Tryz.lays227 : Go.Proofs.Lays.n227 Tryz.prog Tryz.lays227_ren := {
  mixed := by kernel_rfl
  f227 := Tryz.func88.trans (congrArg some (by kernel_rfl))
  t0 := Tryz.underlying0
  a0 := Tryz.isAgg0
  z0 := Tryz.sizeOf0
  v0 := Tryz.zeroValue0
  t3 := Tryz.underlying3
  a3 := Tryz.isAgg3
  z3 := Tryz.sizeOf3
  v3 := Tryz.zeroValue3
  t4 := Tryz.underlying4
  a4 := Tryz.isAgg4
  z4 := Tryz.sizeOf4
  v4 := Tryz.zeroValue4
  t5 := Tryz.underlying5
  a5 := Tryz.isAgg5
  z5 := Tryz.sizeOf5
  v5 := Tryz.zeroValue5
  t9 := Tryz.underlying9
  a9 := Tryz.isAgg9
  z9 := Tryz.sizeOf9
  v9 := Tryz.zeroValue9
  t116 := Tryz.underlying107
  a116 := Tryz.isAgg107
  z116 := Tryz.sizeOf107 }
open Go.RowKit Go.Lib in
theorem Tryz.strings_makeASCIISet (hv116 : ∀ w, (zeroValue 107).run Tryz.prog w = .ok (.agg (Array.replicate 256 (.bool false))) w) (chars : ByteArray) (w : World) (hs : chars.size < 4294967281) (hascii : ∀ (j : Nat) b, chars.data.toList[j]? = some b → b.toNat < 128) :
    Calls Tryz.prog 88 #[.string chars] w fun e w' => e = .returned (.tuple #[.agg (Lib.setCells chars.data.toList), .bool true]) ∧ w' = w.alloc (.cells (Lib.setCells chars.data.toList) 107) := Any.strings_makeASCIISet Tryz.lays227 hv116 (by kernel_rfl) chars w hs hascii
open Go.RowKit Go.Lib in
def Tryz.lays196_ren : Go.Shelf.Ren := ⟨fun | 196 => 226 | 259 => 238 | n => n, fun | 9 => 9 | 4 => 4 | 3 => 3 | 5 => 5 | 12 => 12 | 119 => 200 | 0 => 0 | 46 => 196 | 139 => 203 | 138 => 202 | 53 => 220 | n => n, fun | 3 => 1 | 4 => 2 | n => n⟩
theorem Tryz.lays196 : Go.Proofs.Lays.n196 Tryz.prog Tryz.lays196_ren := {
  mixed := by kernel_rfl
  f196 := Tryz.func226.trans (congrArg some (by kernel_rfl))
  f259 := Tryz.func238.trans (congrArg some (by kernel_rfl))
  t0 := Tryz.underlying0
  a0 := Tryz.isAgg0
  z0 := Tryz.sizeOf0
  v0 := Tryz.zeroValue0
  t3 := Tryz.underlying3
  a3 := Tryz.isAgg3
  z3 := Tryz.sizeOf3
  v3 := Tryz.zeroValue3
  t4 := Tryz.underlying4
  a4 := Tryz.isAgg4
  z4 := Tryz.sizeOf4
  v4 := Tryz.zeroValue4
  t5 := Tryz.underlying5
  a5 := Tryz.isAgg5
  z5 := Tryz.sizeOf5
  v5 := Tryz.zeroValue5
  t9 := Tryz.underlying9
  a9 := Tryz.isAgg9
  z9 := Tryz.sizeOf9
  v9 := Tryz.zeroValue9
  t12 := Tryz.underlying12
  a12 := Tryz.isAgg12
  z12 := Tryz.sizeOf12
  v12 := Tryz.zeroValue12
  t46 := Tryz.underlying196
  a46 := Tryz.isAgg196
  z46 := Tryz.sizeOf196
  v46 := Tryz.zeroValue196
  t53 := Tryz.underlying220
  a53 := Tryz.isAgg220
  z53 := Tryz.sizeOf220
  v53 := Tryz.zeroValue220
  t119 := Tryz.underlying200
  a119 := Tryz.isAgg200
  z119 := Tryz.sizeOf200
  t138 := Tryz.underlying202
  a138 := Tryz.isAgg202
  z138 := Tryz.sizeOf202
  v138 := Tryz.zeroValue202
  t139 := Tryz.underlying203
  a139 := Tryz.isAgg203
  z139 := Tryz.sizeOf203
  v139 := Tryz.zeroValue203
  g3 := by kernel_rfl
  g4 := by kernel_rfl }
end Go.Proofs

namespace Go.Proofs.YtfppjenblllfaaaGreatDoor
open Go.Emb Go.RowKit Go.Kd Go.Hm
variable {w : World} {K : Value → World → Prop} {σ : Q4}
theorem X1z {f:FuncId} {fn:Func} {a:List Value} {V:Value} (d:P.funcs[f]? =some fn) (b:fn.body.isSome=true) (c:(fn.name== "runtime.NumGoroutine")=false)
 (h:Calls P f a.toArray w fun e w'=>e= .returned V∧Below w.heap.size w w') (g: ∀w',Below w.heap.size w w'→K V w'):Q0 P f a w K:=by
 refine Vn d b c (Calls.mono h ?_)
 rintro e w' ⟨rfl,b⟩
 exact g w' b
theorem Q4W {a:Q9} (c:a.length≤Y9) (b:Lib.Utf8Tabs G.e G.d w) (h: ∀w',Below w.heap.size w w'→K (.bool (Lib.validD a)) w'):Q0 P F.bZ [S a] w K:=
 X1z Tryz.func226 (by kernel_rfl) (by kernel_rfl) (by
  have:=Any.utf8_ValidString Tryz.lays196 ⟨a.toArray⟩ w (by rw[F5];simp only[Y9] at c;omega) b
  simp only[List.toList_toArray] at this
  exact this) h
theorem Q7j {a:Q9} {c:UInt8} (h:K (.bool (decide (0≤Lib.indexByte a c))) w):Q0 P F.cD [S a,S [c]] w K:=by
 refine Vn (fn:=Tryz.f227) Tryz.func227 (by kernel_rfl) (by kernel_rfl) (Calls.mono (Tryz.strings_Contains_one ⟨a.toArray⟩ c w) ?_)
 rintro e w' ⟨rfl,rfl⟩
 exact h
structure Glb (σ : Q4) : Prop where
  ops : Q2v σ
  tabs : ∀ w, X4 w σ → Lib.Utf8Tabs G.e G.d w
  flt : Z0 σ ⟨G.b, 0, none⟩ (U2.map S)
theorem Glb.lift {σ0:Q4} (h:Glb σ0) (k:SLe σ0 σ):Glb σ:=⟨h.ops.le k.le,fun w a=>h.tabs w fun b o e=>a b o (k.le b o e),h.flt.le k.le⟩
def txt (n s:Q9):Bool:=
 if n=[119,111,114,100] then decide (s.length≤64)&&Lib.validD s&& !decide (0≤Lib.indexByte s 10)
 else if n=[110,101,119] then W7 s
 else if n=[105,115]∨n=[99,97,115,116] then right s&& !plain s
 else if n=[97,114,114,97,121] then right s&&decide (Q2h s<3)
 else P9 s
theorem X3e {n a:Q9} (ha:a.length≤Y9) (hs:X4 w σ) (hg:Glb σ) (h: ∀w' σ',Stp w σ w' σ'→K (.bool (txt n a)) w'):Q0 P F.cM [S n,S a] w K:=Q76 (by
 unfold Q1G
 have ha':a.length≤140737488355320:=by simp only[Y9] at ha;omega
 have ha2:a.length≤140737488355328:=by simp only[Y9] at ha;omega
 have hv: ∀{w1:World} {K:Value→World→Prop},X4 w1 σ→(∀w',Below w1.heap.size w1 w'→K (.bool (Lib.validD a)) w')→Q0 P F.bZ [S a] w1 K:=fun hk h=>Q4W ha (hg.tabs _ hk) h
 unfold txt at h
 have e:decide ((a.length:Int)≤64)=decide (a.length≤64):=by rw[Bool.eq_iff_iff];simp only[decide_eq_true_eq];omega
 have e3:decide ((Q2h a:Int)<3)=decide (Q2h a<3):=by rw[Bool.eq_iff_iff];simp only[decide_eq_true_eq];omega
 by_cases h1:n=[119,111,114,100]
 ·rw[if_pos h1] at h
  simp only[decide_eq_true h1,↓M1,M1,Mb,reduceIte,e]
  by_cases h2:a.length≤64
  ·simp only[decide_eq_true h2,↓M1,M1,Mb,reduceIte] at h⊢
   refine hv hs (L1 hs ?_)
   intro w1 σ1 hk
   by_cases h3:Lib.validD a=true
   ·simp only[h3,↓M1,M1,Mb,reduceIte] at h⊢
    refine Q7j ?_
    (repeat' (first | (with_reducible intro _) | (with_reducible refine W0 ?_) | (simp only[↓M2,M2,Mb,reduceIte]) | (with_reducible first | refine ld aS aL aR ?_ | refine Y0 aS aL aR ?_ | refine Z2 aS aL aR ?_ | refine X0 aL ?_ | refine V6 aR ?_ | refine Z1 aS ?_ | refine L5 aS aL ?_ | refine U0 aS aR ?_ | refine Y5 aS aR aR (Rep.one (by assumption)) ?_ | refine U6 aS aR aR aR ?_ | (refine Z5 (fun hh=>?_) (fun hh=>?_)<;>(try simp only[hh,Bool.not_true,Bool.not_false,↓M2,M2,Mb,reduceIte])) | (refine Q6 (fun hh=>?_) (fun hh=>?_)<;>(try simp only[hh,Bool.not_true,Bool.not_false,↓M2,M2,Mb,reduceIte])))))
    all_goals exact aF
   ·simp only[eq_false_of_ne_true h3,↓M1,M1,Mb,reduceIte] at h⊢
    (repeat' (first | (with_reducible intro _) | (with_reducible refine W0 ?_) | (simp only[↓M2,M2,Mb,reduceIte]) | (with_reducible first | refine ld aS aL aR ?_ | refine Y0 aS aL aR ?_ | refine Z2 aS aL aR ?_ | refine X0 aL ?_ | refine V6 aR ?_ | refine Z1 aS ?_ | refine L5 aS aL ?_ | refine U0 aS aR ?_ | refine Y5 aS aR aR (Rep.one (by assumption)) ?_ | refine U6 aS aR aR aR ?_ | (refine Z5 (fun hh=>?_) (fun hh=>?_)<;>(try simp only[hh,Bool.not_true,Bool.not_false,↓M2,M2,Mb,reduceIte])) | (refine Q6 (fun hh=>?_) (fun hh=>?_)<;>(try simp only[hh,Bool.not_true,Bool.not_false,↓M2,M2,Mb,reduceIte])))))
    all_goals exact aF
  ·simp only[decide_eq_false h2,↓M1,M1,Mb,reduceIte] at h⊢
   (repeat' (first | (with_reducible intro _) | (with_reducible refine W0 ?_) | (simp only[↓M2,M2,Mb,reduceIte]) | (with_reducible first | refine ld aS aL aR ?_ | refine Y0 aS aL aR ?_ | refine Z2 aS aL aR ?_ | refine X0 aL ?_ | refine V6 aR ?_ | refine Z1 aS ?_ | refine L5 aS aL ?_ | refine U0 aS aR ?_ | refine Y5 aS aR aR (Rep.one (by assumption)) ?_ | refine U6 aS aR aR aR ?_ | (refine Z5 (fun hh=>?_) (fun hh=>?_)<;>(try simp only[hh,Bool.not_true,Bool.not_false,↓M2,M2,Mb,reduceIte])) | (refine Q6 (fun hh=>?_) (fun hh=>?_)<;>(try simp only[hh,Bool.not_true,Bool.not_false,↓M2,M2,Mb,reduceIte])))))
   all_goals exact aF
 rw[if_neg h1] at h
 simp only[decide_eq_false h1,↓M1,M1,Mb,reduceIte]
 by_cases h2:n=[110,101,119]
 ·rw[if_pos h2] at h
  simp only[decide_eq_true h2,↓M1,M1,Mb,reduceIte]
  (repeat' (first | (with_reducible intro _) | (with_reducible refine W0 ?_) | (simp only[↓M2,M2,Mb,reduceIte]) | (with_reducible first | refine ld aS aL aR ?_ | refine Y0 aS aL aR ?_ | refine Z2 aS aL aR ?_ | refine X0 aL ?_ | refine V6 aR ?_ | refine Z1 aS ?_ | refine L5 aS aL ?_ | refine U0 aS aR ?_ | refine Y5 aS aR aR (Rep.one (by assumption)) ?_ | refine U6 aS aR aR aR ?_ | refine Hv _ au (L1 aS ?_) | (refine Z5 (fun hh=>?_) (fun hh=>?_)<;>(try simp only[hh,Bool.not_true,Bool.not_false,↓M2,M2,Mb,reduceIte])) | (refine Q6 (fun hh=>?_) (fun hh=>?_)<;>(try simp only[hh,Bool.not_true,Bool.not_false,↓M2,M2,Mb,reduceIte])))))
  all_goals exact aF
 rw[if_neg h2] at h
 simp only[decide_eq_false h2,↓M1,M1,Mb,reduceIte]
 by_cases h3:n=[105,115]∨n=[99,97,115,116]
 ·rw[if_pos h3] at h
  have e4:(decide (n=[105,115])||decide (n=[99,97,115,116]))=true:=by simpa using h3
  refine W0 ?_
  refine Q6 (fun h4=>?_) (fun h4=>?_)
  ·simp only[h4,↓M1,M1,Mb,reduceIte]
   (repeat' (first | (with_reducible intro _) | (with_reducible refine W0 ?_) | (simp only[↓M2,M2,Mb,reduceIte]) | (with_reducible first | refine ld aS aL aR ?_ | refine Y0 aS aL aR ?_ | refine Z2 aS aL aR ?_ | refine X0 aL ?_ | refine V6 aR ?_ | refine Z1 aS ?_ | refine L5 aS aL ?_ | refine U0 aS aR ?_ | refine Y5 aS aR aR (Rep.one (by assumption)) ?_ | refine U6 aS aR aR aR ?_ | refine Yu _ au (L1 aS ?_) | refine Jv _ ?_ | (refine Z5 (fun hh=>?_) (fun hh=>?_)<;>(try simp only[hh,Bool.not_true,Bool.not_false,↓M2,M2,Mb,reduceIte])) | (refine Q6 (fun hh=>?_) (fun hh=>?_)<;>(try simp only[hh,Bool.not_true,Bool.not_false,↓M2,M2,Mb,reduceIte])))))
   all_goals exact aF
  ·rw[h4,Bool.false_or] at e4
   simp only[e4,↓M1,M1,Mb,reduceIte]
   (repeat' (first | (with_reducible intro _) | (with_reducible refine W0 ?_) | (simp only[↓M2,M2,Mb,reduceIte]) | (with_reducible first | refine ld aS aL aR ?_ | refine Y0 aS aL aR ?_ | refine Z2 aS aL aR ?_ | refine X0 aL ?_ | refine V6 aR ?_ | refine Z1 aS ?_ | refine L5 aS aL ?_ | refine U0 aS aR ?_ | refine Y5 aS aR aR (Rep.one (by assumption)) ?_ | refine U6 aS aR aR aR ?_ | refine Yu _ au (L1 aS ?_) | refine Jv _ ?_ | (refine Z5 (fun hh=>?_) (fun hh=>?_)<;>(try simp only[hh,Bool.not_true,Bool.not_false,↓M2,M2,Mb,reduceIte])) | (refine Q6 (fun hh=>?_) (fun hh=>?_)<;>(try simp only[hh,Bool.not_true,Bool.not_false,↓M2,M2,Mb,reduceIte])))))
   all_goals exact aF
 rw[if_neg h3] at h
 obtain ⟨h3,h4⟩:=not_or.1 h3
 refine W0 ?_
 simp only[decide_eq_false h3,decide_eq_false h4,↓M1,M1,Mb,reduceIte]
 by_cases h5:n=[97,114,114,97,121]
 ·rw[if_pos h5] at h
  simp only[decide_eq_true h5,↓M1,M1,Mb,reduceIte]
  (repeat' (first | (with_reducible intro _) | (with_reducible refine W0 ?_) | (simp only[↓M2,M2,Mb,reduceIte]) | (with_reducible first | refine ld aS aL aR ?_ | refine Y0 aS aL aR ?_ | refine Z2 aS aL aR ?_ | refine X0 aL ?_ | refine V6 aR ?_ | refine Z1 aS ?_ | refine L5 aS aL ?_ | refine U0 aS aR ?_ | refine Y5 aS aR aR (Rep.one (by assumption)) ?_ | refine U6 aS aR aR aR ?_ | refine Yu _ au (L1 aS ?_) | refine X3f _ au (L1 aS ?_) | (refine Z5 (fun hh=>?_) (fun hh=>?_)<;>(try simp only[hh,Bool.not_true,Bool.not_false,↓M2,M2,Mb,reduceIte])) | (refine Q6 (fun hh=>?_) (fun hh=>?_)<;>(try simp only[hh,Bool.not_true,Bool.not_false,↓M2,M2,Mb,reduceIte])))))
  all_goals (try rw[e3])
  all_goals exact aF
 rw[if_neg h5] at h
 simp only[decide_eq_false h5,↓M1,M1,Mb,reduceIte]
 intro _
 refine Q7Q a ha2 (L1 hs fun w1 σ1 hk=>?_)
 by_cases hp:P9 a=true
 ·simp only[hp,if_true] at h⊢
  (repeat' (first | (with_reducible intro _) | (with_reducible refine W0 ?_) | (simp only[↓M2,M2,Mb,reduceIte]) | (with_reducible first | refine ld aS aL aR ?_ | refine Y0 aS aL aR ?_ | refine Z2 aS aL aR ?_ | refine X0 aL ?_ | refine V6 aR ?_ | refine Z1 aS ?_ | refine L5 aS aL ?_ | refine U0 aS aR ?_ | refine Y5 aS aR aR (Rep.one (by assumption)) ?_ | refine U6 aS aR aR aR ?_ | (refine Z5 (fun hh=>?_) (fun hh=>?_)<;>(try simp only[hh,Bool.not_true,Bool.not_false,↓M2,M2,Mb,reduceIte])) | (refine Q6 (fun hh=>?_) (fun hh=>?_)<;>(try simp only[hh,Bool.not_true,Bool.not_false,↓M2,M2,Mb,reduceIte])))))
  all_goals exact aF
 ·simp only[eq_false_of_ne_true hp,Bool.false_eq_true,if_false] at h⊢
  (repeat' (first | (with_reducible intro _) | (with_reducible refine W0 ?_) | (simp only[↓M2,M2,Mb,reduceIte]) | (with_reducible first | refine ld aS aL aR ?_ | refine Y0 aS aL aR ?_ | refine Z2 aS aL aR ?_ | refine X0 aL ?_ | refine V6 aR ?_ | refine Z1 aS ?_ | refine L5 aS aL ?_ | refine U0 aS aR ?_ | refine Y5 aS aR aR (Rep.one (by assumption)) ?_ | refine U6 aS aR aR aR ?_ | (refine Z5 (fun hh=>?_) (fun hh=>?_)<;>(try simp only[hh,Bool.not_true,Bool.not_false,↓M2,M2,Mb,reduceIte])) | (refine Q6 (fun hh=>?_) (fun hh=>?_)<;>(try simp only[hh,Bool.not_true,Bool.not_false,↓M2,M2,Mb,reduceIte])))))
  all_goals exact aF)
def O6 (i:Ins):Int:=if !(takes i.op).2.2 then 40 else if (!(takes i.op).1&&decide (i.n≠0))||(!(takes i.op).2.1&&decide (i.s≠[]))||((takes i.op).2.1&& !txt i.op i.s) then 41 else 0
theorem X14 {a:Q9} (b:X4 w σ) (c:Glb σ) (h: ∀w',Below w.heap.size w w'→K (.tuple #[.bool (takes a).1, .bool (takes a).2.1, .bool (takes a).2.2]) w'):Q0 P F.cm [S a] w K:=X2z b c.ops h
theorem Q7t {i:Ins} {cs:List Value} (hs:X4 w σ) (hg:Glb σ) (hi:I0 σ i cs) (h: ∀w' σ',Stp w σ w' σ'→K (I (O6 i)) w'):Q0 P F.cI [.agg cs.toArray] w K:=Q6v (by
 obtain ⟨rfl,h1,h2,h3⟩:=hi
 unfold Q0J
 unfold O6 at h
 (repeat' (first | (with_reducible intro _) | (with_reducible refine W0 ?_) | (simp only[↓M2,M2,Mb,reduceIte]) | (with_reducible first | refine ld aS aL aR ?_ | refine Y0 aS aL aR ?_ | refine Z2 aS aL aR ?_ | refine X0 aL ?_ | refine V6 aR ?_ | refine Z1 aS ?_ | refine L5 aS aL ?_ | refine U0 aS aR ?_ | refine Y5 aS aR aR (Rep.one (by assumption)) ?_ | refine U6 aS aR aR aR ?_ | refine X14 au au (L1 aS ?_) | refine X3e au au au ?_ | (refine Z5 (fun hh=>?_) (fun hh=>?_)<;>(try simp only[hh,Bool.not_true,Bool.not_false,↓M2,M2,Mb,reduceIte])) | (refine Q6 (fun hh=>?_) (fun hh=>?_)<;>(try simp only[hh,Bool.not_true,Bool.not_false,↓M2,M2,Mb,reduceIte])))))
 all_goals exact aF)
end Go.Proofs.YtfppjenblllfaaaGreatDoor

namespace Go.Emb
open Go.RowKit Go.Hm
variable {P : Program} {W : World}
theorem Q2g {w:World} (c:X4 w (P4 W)) {a:Addr} {v:Value} (h:W.cell? a=some v):w.cell? a=some v:=by
 unfold World.cell? at h⊢
 cases b:W.heap[a.block]? with
 | none=>rw[b] at h;cases h
 | some o=>rw[b] at h;rw[c _ o b];exact h
theorem X3U {α:Type} {f:α→List Value} {sz:Nat} (k: ∀a,(f a).length=sz): ∀(l:List α) (cs:List Value),cs.length=l.length*sz→(∀i a,l[i]? =some a→(cs.drop (i*sz)).take sz=f a)→cs=l.flatMap f:=by
 intro l
 induction l with
 | nil=>intro cs h _;simp at h;simp[h]
 | cons a r g=>
  intro cs h hh
  have e:=hh 0 a rfl
  have j:=g (cs.drop sz) (by rw[List.length_drop,h,List.length_cons,Nat.succ_mul];omega) (fun i b c=>by
   have:=hh (i+1) b (by simpa using c)
   rw[List.drop_drop]
   rwa [Nat.succ_mul,Nat.add_comm] at this)
  rw[List.flatMap_cons,←j,←e]
  simp
theorem Q4i {α H:Type} {enc:TypeId×Value→H} {base:Nat} {s:Nat→Bool} {b:Bool} {f:α→List Value} {o:α→DataW H} {n sz:Nat} {t e:TypeId} {c:Nat} {cs:List Value} {p:List MemPlace} (z:P.underlying t=some (.array n e)) (C:P.cellsOf e=sz) (j:P.cellsOf t=n*sz)
 (l:List α) (E: ∀a,(f a).length=sz) (k: ∀m cs a q,DataW.trod enc P W base s b m e cs=some (o a,q)→cs=f a)
 (h:DataW.trod enc P W base s b c t cs=some (.agg (l.map o),p)):cs=l.flatMap f:=by
 obtain ⟨xs,m,_,g,B,L,y⟩:=DataW.trod_array z h
 simp only[Prod.mk.injEq,DataW.agg.injEq] at g
 have A:l.length=n:=by have:=congrArg List.length g.1;simp at this;omega
 refine X3U E l cs (by rw[B,j,A]) fun i a u=>?_
 have J:i<l.length:=(List.getElem?_eq_some_iff.1 u).1
 have w:=y i (by omega)
 have r:i<xs.length:=by omega
 rw[List.getElem?_eq_getElem r,C] at w
 have D:(xs[i]).1=o a:=by
  have:=congrArg (·[i]?) g.1
  simp only[List.getElem?_map,u,List.getElem?_eq_getElem r,Option.map_some,Option.some.injEq] at this
  exact this.symm
 exact k m _ a _ (by rw[w];congr 1;exact Prod.ext D rfl)
theorem Q5Q {n:String} {g:Nat} {cs:Array Value} {l:List Value} (j:P.globalNamed n=some g) (a:W.var? P n=some cs) (h:cs.toList=l):Z0 (P4 W) ⟨g,0,none⟩ l:=by
 unfold World.var? at a
 rw[j] at a
 simp only[Option.bind_some] at a
 cases b:W.heap[g]? with
 | none=>rw[b] at a;cases a
 | some o=>
  rw[b] at a
  cases o with
  | cells E1 e c=>
   cases a
   refine ⟨rfl,cs,e,c,b,fun i v f=>?_⟩
   subst h
   simpa using f
  | _=>cases a
end Go.Emb
namespace Go.Proofs.YtfppjenblllfaaaGreatDoor
open Go.Emb Go.RowKit Go.Kd Go.Hm
variable {W : World}
def laidAll:List (String×DataW Unit):=[("unicode/utf8.acceptRanges",Rows.laid_unicode_utf8_acceptRanges),("squinch/code.ops",Rows.laid_squinch_code_ops),("squinch/hier.faults",Rows.laid_squinch_hier_faults),("unicode/utf8.first",Rows.laid_unicode_utf8_first)]
theorem X4j:Rows.laid_squinch_code_ops=(.agg (Zt.map fun o=> .agg [.lit (.string o.name), .lit (.bool o.number), .lit (.bool o.text)]):DataW Unit):=by rfl
theorem X1v:Rows.laid_squinch_hier_faults=(.agg (U2.map fun s=> .lit (.string s)):DataW Unit):=by rfl
theorem X4n:(Rows.laid_unicode_utf8_acceptRanges:DataW Unit)=Lib.acceptData:=by rfl
theorem X2G:Rows.laid_unicode_utf8_first=Lib.firstData:=by kernel_rfl
def X4O:Array Field:= #[⟨"name",T.a,0,false, "", "squinch/code",0⟩,⟨"number",T.o,1,false, "", "squinch/code",16⟩,⟨"text",T.o,2,false, "", "squinch/code",17⟩]
theorem X4L:P.underlying T.a7=some (.struct X4O):=by kernel_rfl
theorem X3H (h:laidMetH P laidAll W):Glb (P4 W):=by
 rw[Go.MakeChecks.laidMetH_plain _ _ _ (by kernel_rfl)] at h
 refine ⟨?_,fun w B=>?_,?_⟩
 ·obtain ⟨g,t,cs,r,p,o,k,b,u⟩:=Lib.laidMet.reads h (.tail _ (.head _))
  obtain rfl:=Option.some.inj ((show P.globalNamed "squinch/code.ops"=some G.a by kernel_rfl).symm.trans o)
  obtain rfl:=Option.some.inj ((show (P.globals[G.a]?).map (·.type)=some T.a9 by kernel_rfl).symm.trans k)
  rw[X4j] at u
  refine Q5Q o b (Q4i (f:=cOp) (sz:=3) (n:=42) (e:=T.a7) (by kernel_rfl) (by kernel_rfl) (by kernel_rfl) Zt (fun _=>rfl) (fun m cs a q h=>by
  obtain ⟨xs,n,_,j,Z,Y,z⟩:=DataW.trod_struct X4L h
  simp only[Prod.mk.injEq,DataW.agg.injEq] at j
  have l:cs.length=3:=by rw[Z];kernel_rfl
  obtain ⟨A,y,C,rfl⟩:=Q5c l
  obtain ⟨V,x1,x2,rfl⟩:=Q5c (show xs.length=3 by rw[Y];rfl)
  have j:=j.1
  simp only[List.map_cons,List.map_nil,List.cons.injEq,and_true] at j
  obtain ⟨O,J,E⟩:=j
  have R:DataW.trod (fun _=>()) P W 0 (fun _=>true) false n T.a (List.take (P.cellsOf T.a) (List.drop 0 [A,y,C]))=some V:=z 0 _ rfl
  have Q:DataW.trod (fun _=>()) P W 0 (fun _=>true) false n T.o (List.take (P.cellsOf T.o) (List.drop 1 [A,y,C]))=some x1:=z 1 _ rfl
  have N:DataW.trod (fun _=>()) P W 0 (fun _=>true) false n T.o (List.take (P.cellsOf T.o) (List.drop 2 [A,y,C]))=some x2:=z 2 _ rfl
  rw[Qi] at R
  rw[Q6a] at Q N
  obtain ⟨⟨⟨s0⟩⟩,q0,X,_⟩:=DataW.trod_string X7 R
  obtain ⟨b1,L,U⟩:=DataW.trod_bool Fo Q
  obtain ⟨b2,M,r2⟩:=DataW.trod_bool Fo N
  simp at q0 L M
  subst q0 L M X U r2
  simp at O J E
  simp[cOp,←O,←J,←E]) u)
 ·have:=utf8Tabs_of_readsT (U8Types.of196 Tryz.lays196) ⟨by kernel_rfl,by kernel_rfl,by kernel_rfl,by kernel_rfl,by kernel_rfl,by kernel_rfl,by kernel_rfl⟩ (X2G▸Lib.laidMet.reads h (.tail _ (.tail _ (.tail _ (.head _))))) (X4n▸Lib.laidMet.reads h (.head _))
  exact ⟨fun c hc=>Q2g B (this.1 c hc),fun i D=>⟨Q2g B (this.2 i D).1,Q2g B (this.2 i D).2⟩⟩
 ·obtain ⟨g,t,cs,r,p,o,k,b,u⟩:=Lib.laidMet.reads h (.tail _ (.tail _ (.head _)))
  obtain rfl:=Option.some.inj ((show P.globalNamed "squinch/hier.faults"=some G.b by kernel_rfl).symm.trans o)
  obtain rfl:=Option.some.inj ((show (P.globals[G.b]?).map (·.type)=some T.ai by kernel_rfl).symm.trans k)
  rw[X1v] at u
  have:=Q4i (f:=fun s=>[S s]) (sz:=1) (n:=6) (e:=T.a) (by kernel_rfl) Qi (by kernel_rfl) U2 (fun _=>rfl) (fun m cs a q h=>by
   obtain ⟨⟨⟨s⟩⟩,rfl,j,_⟩:=DataW.trod_string X7 h
   cases j;rfl) u
  exact Q5Q o b (this.trans (by rfl))
end Go.Proofs.YtfppjenblllfaaaGreatDoor
namespace Go.Emb
open Go.RowKit Go.Hm
theorem Q6y {H:Type} {P:Program} {a:List TypeId} {ds:List (DataW H)} (h:(DataW.weightsEach P a ds).all (· ≤reachBytes)=true) {j:Nat} {t:TypeId} {d:DataW H} (c:a[j]? =some t) (e:ds[j]? =some d):Wt P t d:=fun n b=>by
 have:=List.all_eq_true.1 h _ (DataW.weights_mem_each c e n b)
 simpa using this
end Go.Emb
namespace Go.Proofs.YtfppjenblllfaaaGreatDoor
open Go.Emb Go.RowKit Go.Kd Go.Hm
section
variable {H : Type} {enc : TypeId × Value → H} {W : World} {v : Value} {d : DataW H} {p : List MemPlace}
end
end Go.Proofs.YtfppjenblllfaaaGreatDoor

namespace Go.Proofs.YtfppjenblllfaaaGreatDoor
open Go.Emb Go.RowKit Go.Kd Go.Hm
variable {w : World} {K : Value → World → Prop} {σ : Q4}
def B8 (n:Int) (x:Cat):Bool:=decide (0≤x.frm)&&decide (x.frm<x.to)&&decide (x.to≤n)&&decide (0≤x.at_)&&decide (x.at_<n)&&W7 x.cls
theorem Q8K {cs:List Value} {c:Cat} {q:Addr} {n:Int} (hs:X4 w σ) (hc:Yk σ c cs) (hq:Z0 σ q [I n]) (h: ∀w' σ',Stp w σ w' σ'→K (.bool (B8 n c)) w'):Q0 P F.bu [.agg cs.toArray, .pointer (some q)] w K:=Q2b (by
 obtain ⟨rfl,h1,h2,h3,h4⟩:=hc
 unfold Sq
 unfold B8 at h
 (repeat' (first | (with_reducible intro _) | (with_reducible refine W0 ?_) | (simp only[↓M2,M2,Mb,reduceIte]) | (with_reducible first | refine ld aS aL aR ?_ | refine Y0 aS aL aR ?_ | refine Z2 aS aL aR ?_ | refine X0 aL ?_ | refine V6 aR ?_ | refine Z1 aS ?_ | refine L5 aS aL ?_ | refine U0 aS aR ?_ | refine Y5 aS aR aR (Rep.one (by assumption)) ?_ | refine U6 aS aR aR aR ?_ | refine Hv _ au (L1 aS ?_) | (refine Z5 (fun hh=>?_) (fun hh=>?_)<;>(try simp only[hh,Bool.not_true,Bool.not_false,↓M2,M2,Mb,reduceIte])) | (refine Q6 (fun hh=>?_) (fun hh=>?_)<;>(try simp only[hh,Bool.not_true,Bool.not_false,↓M2,M2,Mb,reduceIte])))))
 all_goals exact aF)
theorem Q9e {cs:List Value} {i:Ins} (hs:X4 w σ) (hg:Glb σ) (hc:I0 σ i cs) (h: ∀w' σ',Stp w σ w' σ'→K (.bool (decide (O6 i=0))) w'):Q0 P F.bv [.agg cs.toArray] w K:=Q2m (by
 obtain ⟨rfl,h1,h2,h3⟩:=hc
 have hc:I0 σ i [S i.op,I i.n,S i.s]:=⟨rfl,h1,h2,h3⟩
 unfold Rv
 (repeat' (first | (with_reducible intro _) | (with_reducible refine W0 ?_) | (simp only[↓M2,M2,Mb,reduceIte]) | (with_reducible first | refine ld aS aL aR ?_ | refine Y0 aS aL aR ?_ | refine Z2 aS aL aR ?_ | refine X0 aL ?_ | refine V6 aR ?_ | refine Z1 aS ?_ | refine L5 aS aL ?_ | refine U0 aS aR ?_ | refine Y5 aS aR aR (Rep.one (by assumption)) ?_ | refine U6 aS aR aR aR ?_ | refine Q7t au au au ?_ | (refine Z5 (fun hh=>?_) (fun hh=>?_)<;>(try simp only[hh,Bool.not_true,Bool.not_false,↓M2,M2,Mb,reduceIte])) | (refine Q6 (fun hh=>?_) (fun hh=>?_)<;>(try simp only[hh,Bool.not_true,Bool.not_false,↓M2,M2,Mb,reduceIte])))))
 all_goals exact aF)
def F7 (m:Hm.Met):Bool:=M5 m.name&&m.params.all right&&(decide (m.result=[])||right m.result)&&
 if m.abs then decide (m.locals=0)&&decide (m.code=[])&&decide (m.catches=[])
 else decide (m.code≠[])&&decide ((m.params.length:Int)<m.locals)&&m.code.all (fun i=>decide (O6 i=0))&&m.catches.all (B8 m.code.length)
theorem X0R {cs:List Value} {m:Hm.Met} (hs:X4 w σ) (hg:Glb σ) (hm:L9 σ m cs) (h: ∀w' σ',Stp w σ w' σ'→K (.bool (F7 m)) w'):Q0 P F.bn [.agg cs.toArray] w K:=Q3D (by
 obtain ⟨pv,cv,hv,rfl,g1,g2,g3,g4,g5,g6⟩:=hm
 unfold Fs
 unfold F7 at h
 have e1:decide ((0:Int)<m.code.length)=decide (m.code≠[]):=by cases m.code<;>simp
 have e2:decide ((m.code.length:Int)=0)=decide (m.code=[]):=by cases m.code<;>simp;omega
 have e3:decide ((m.catches.length:Int)=0)=decide (m.catches=[]):=by cases m.catches<;>simp;omega
 have hA: ∀{w1:World} {σ1:Q4} {K:Value→World→Prop},X4 w1 σ1→Sl 1 X9 σ1 pv m.params→(∀w' σ',Stp w1 σ1 w' σ'→K (.bool (m.params.all right)) w')→Q0 P F.a8 [pv, .func (.func F.z) #[] #[]] w1 K:=
  fun hs hv h=>Fi right hs hv (fun σ1 x w1 K _ _ hs hl hK=>X8 (Yu x (Nat.le_trans hl (by decide)) hK)) (L1 hs h)
 have hB: ∀{w1:World} {σ1:Q4} {K:Value→World→Prop},X4 w1 σ1→Glb σ1→Sl 3 I0 σ1 cv m.code→(∀w' σ',Stp w1 σ1 w' σ'→K (.bool (m.code.all fun i=>decide (O6 i=0))) w')→Q0 P F.aw [cv, .func (.func F.bv) #[] #[]] w1 K:=
  fun hs hg hv h=>Q1z (fun i=>decide (O6 i=0)) hs hv (fun σ1 x cs w1 K le _ hs hr hl hK=>X8 (Q9e hs (hg.lift ⟨le⟩) hr fun w' σ' hk=>hK w' hk.bel)) (L1 hs h)
 have hC: ∀{w1:World} {σ1:Q4} {K:Value→World→Prop} {q:Addr},X4 w1 σ1→Sl 4 Yk σ1 hv m.catches→Z0 σ1 q [I m.code.length]→(∀w' σ',Stp w1 σ1 w' σ'→K (.bool (m.catches.all (B8 m.code.length))) w')→Q0 P F.ax [hv, .func (.func F.bu) #[] #[.pointer (some q)]] w1 K:=
  fun hs hv hq h=>Q1D (B8 m.code.length) hs hv (fun σ1 x cs w1 K le _ hs hr hl hK=>X8 (Q8K hs hr (hq.le le) fun w' σ' hk=>hK w' hk.bel)) (L1 hs h)
 refine Z1 hs fun a w1 σ1 hk1 ha1=>?_
 (repeat' (first | (with_reducible intro _) | (with_reducible refine W0 ?_) | (simp only[↓M2,M2,Mb,reduceIte]) | (with_reducible first | refine ld aS aL aR ?_ | refine Y0 aS aL aR ?_ | refine Z2 aS aL aR ?_ | refine X0 aL ?_ | refine V6 aR ?_ | refine Z1 aS ?_ | refine L5 aS aL ?_ | refine U0 aS aR ?_ | refine Y5 aS aR aR (Rep.one (by assumption)) ?_ | refine U6 aS aR aR aR ?_ | refine Q5D au (L1 aS ?_) | refine Yu _ au (L1 aS ?_) | refine hA au au ?_ | refine hB au au au ?_ | refine hC au au au ?_ | (refine Z5 (fun hh=>?_) (fun hh=>?_)<;>(try simp only[hh,Bool.not_true,Bool.not_false,↓M2,M2,Mb,reduceIte])) | (refine Q6 (fun hh=>?_) (fun hh=>?_)<;>(try simp only[hh,Bool.not_true,Bool.not_false,↓M2,M2,Mb,reduceIte])))))
 all_goals (simp only[←e1,←e2,←e3] at h;clear e1 e2 e3;exact aF))
theorem X0k {cs:List Value} {m:Hm.Met} (a:X4 w σ) (d:Glb σ) (b:L9 σ m cs) (h: ∀w' c,Stp w σ w' c→K (.bool (F7 m)) w'):Z3 P (.func (.func F.bn) #[] #[]) [.agg cs.toArray] w K:=X8 (X0R a d b h)
def Dt (f:Fld):Bool:=M5 f.name&&right f.kind
def Lj (c:Cla):Bool:=(c.name::c.super::c.like).all W7&& !((c.super::c.like).any fun y=>decide (c.name=y))&&R1 id [] c.like&&
 !(c.iface&&(!c.abs|| !decide (c.super=J4)|| !decide (c.fields=[])||c.methods.any (fun m=> !m.abs)))&&
 !((c.abs&&c.fin)||(c.methods.any (·.abs)&& !c.abs))&&R1 Fld.name [] c.fields&&R1 Hm.Met.name [] c.methods&&c.fields.all Dt&&c.methods.all F7
def M7 (c:Cla):Int:=if Yv c then 51 else if Lj c then 0 else 50
theorem Q9N {cs:List Value} {f:Fld} (hs:X4 w σ) (hf:E5 σ f cs) (h: ∀w' σ',Stp w σ w' σ'→K (.bool (Dt f)) w'):Q0 P F.bK [.agg cs.toArray] w K:=Q2C (by
 obtain ⟨rfl,h1,h2⟩:=hf
 unfold Cg
 unfold Dt at h
 (repeat' (first | (with_reducible intro _) | (with_reducible refine W0 ?_) | (simp only[↓M2,M2,Mb,reduceIte]) | (with_reducible first | refine ld aS aL aR ?_ | refine Y0 aS aL aR ?_ | refine Z2 aS aL aR ?_ | refine X0 aL ?_ | refine V6 aR ?_ | refine Z1 aS ?_ | refine L5 aS aL ?_ | refine U0 aS aR ?_ | refine Y5 aS aR aR (Rep.one (by assumption)) ?_ | refine U6 aS aR aR aR ?_ | refine Q5D au (L1 aS ?_) | refine Yu _ au (L1 aS ?_) | (refine Z5 (fun hh=>?_) (fun hh=>?_)<;>(try simp only[hh,Bool.not_true,Bool.not_false,↓M2,M2,Mb,reduceIte])) | (refine Q6 (fun hh=>?_) (fun hh=>?_)<;>(try simp only[hh,Bool.not_true,Bool.not_false,↓M2,M2,Mb,reduceIte])))))
 all_goals exact aF)
set_option maxHeartbeats 1600000 in
theorem X38 {cs:List Value} {c:Cla} (hs:X4 w σ) (hg:Glb σ) (hc:V4 σ c cs) (hl:c.like.length≤1000000) (h: ∀w' σ',Stp w σ w' σ'→K (.bool (Lj c)) w'):Q0 P F.cy [.agg cs.toArray] w K:=Q54 (by
 obtain ⟨lv,fv,mv,rfl,g1,g2,g3,g4,g5⟩:=hc
 unfold Pn
 unfold Lj at h
 refine Z1 hs fun a w1 σ1 hk1 ha1=>?_
 rw[fa]
 refine ld hk1.sat ha1 rfl ?_
 rw[fa]
 refine ld hk1.sat ha1 rfl ?_
 refine Xj (R:=X9) (sz:=1) (xs:=[c.name,c.super]) hk1 [_,_] rfl rfl (by simp;exact ⟨rfl,rfl⟩) rfl ⟨⟨rfl,g4⟩,⟨rfl,g5⟩,trivial⟩ fun v w2 hk2 hacc _=>?_
 rw[fa]
 refine ld hk2.sat ha1 rfl ?_
 refine Hp (hk1.trans hk2) hacc (g1.up hk1) rfl (by simp;omega) (by simp;omega) fun v' w3 hn3 hS3 hacc3 _=>?_
 obtain ⟨σ3,hS3,hv3,le3,_⟩:=hacc3.keep hS3
 have hv3:Sl 1 X9 σ3 v' (c.name::c.super::c.like):=hv3
 have ha3:=ha1.le le3
 have le13:SLe σ σ3:=⟨hS3.le⟩
 have g1:=g1.lift le13
 have g2:=g2.lift le13
 have g3:=g3.lift le13
 have hg:=hg.lift le13
 refine U8 hS3.sat ?_
 refine W9 (fun v _=>Sl 1 X9 σ3 v (c.super::c.like)) (fun _ _ _ h _=>h) (fun w hb=>?_) ?_
 ·refine Bw hv3 (some (I 1)) none 1 (c.like.length+2) (.inr rfl) (.inl ⟨rfl,by simp⟩) (by omega) (by simp) fun v' hv'=>⟨Below.refl _ _,?_⟩
  simpa using hv'
 refine X2 (.pointer (some (a.add 0))) (fun w hb=>by rw[fa];exact X6 rfl) ?_
 refine X2 (S c.name) (fun t w hb e=>by rw[e];exact ld hb.sat ha3 rfl (X6 rfl)) ?_
 rintro t16 t17 t18 w4 hb4 f16 rfl rfl
 have hS4:=hS3.trans hb4.stp
 clear hb4 hk1 hk2 hn3
 have hs4:=hS4.sat
 refine Q1r hs4 f16 ?_
 have hA: ∀{w1:World} {σ1:Q4} {K:Value→World→Prop},X4 w1 σ1→Sl 7 L9 σ1 mv c.methods→(∀w' σ',Stp w1 σ1 w' σ'→K (.bool (c.methods.any (·.abs))) w')→Q0 P F.a [mv, .func (.func F.cn) #[] #[]] w1 K:=
  fun hs hv h=>C3 (·.abs) hs hv (fun x cs w1 K _ hs hr hl hK=>X8 (Q3j (by
   obtain ⟨pv,cv,hv,rfl,_⟩:=hr
   unfold Ct
   refine Z1 hs fun a w1 σ1 hk1 ha1=>?_
   (repeat' (first | (with_reducible intro _) | (with_reducible refine W0 ?_) | (simp only[↓M2,M2,Mb,reduceIte]) | (with_reducible first | refine ld aS aL aR ?_ | refine Y0 aS aL aR ?_ | refine Z2 aS aL aR ?_ | refine X0 aL ?_ | refine V6 aR ?_ | refine Z1 aS ?_ | refine L5 aS aL ?_ | refine U0 aS aR ?_ | refine Y5 aS aR aR (Rep.one (by assumption)) ?_ | refine U6 aS aR aR aR ?_ | (refine Z5 (fun hh=>?_) (fun hh=>?_)<;>(try simp only[hh,Bool.not_true,Bool.not_false,↓M2,M2,Mb,reduceIte])) | (refine Q6 (fun hh=>?_) (fun hh=>?_)<;>(try simp only[hh,Bool.not_true,Bool.not_false,↓M2,M2,Mb,reduceIte])))))
   exact hK _ hk1.bel))) (L1 hs h)
 have hB: ∀{w1:World} {σ1:Q4} {K:Value→World→Prop},X4 w1 σ1→Sl 7 L9 σ1 mv c.methods→(∀w' σ',Stp w1 σ1 w' σ'→K (.bool (c.methods.any fun m=> !m.abs)) w')→Q0 P F.a [mv, .func (.func F.co) #[] #[]] w1 K:=
  fun hs hv h=>C3 (fun m=> !m.abs) hs hv (fun x cs w1 K _ hs hr hl hK=>X8 (Q2Y (by
   obtain ⟨pv,cv,hv,rfl,_⟩:=hr
   unfold Cl
   refine Z1 hs fun a w1 σ1 hk1 ha1=>?_
   (repeat' (first | (with_reducible intro _) | (with_reducible refine W0 ?_) | (simp only[↓M2,M2,Mb,reduceIte]) | (with_reducible first | refine ld aS aL aR ?_ | refine Y0 aS aL aR ?_ | refine Z2 aS aL aR ?_ | refine X0 aL ?_ | refine V6 aR ?_ | refine Z1 aS ?_ | refine L5 aS aL ?_ | refine U0 aS aR ?_ | refine Y5 aS aR aR (Rep.one (by assumption)) ?_ | refine U6 aS aR aR aR ?_ | (refine Z5 (fun hh=>?_) (fun hh=>?_)<;>(try simp only[hh,Bool.not_true,Bool.not_false,↓M2,M2,Mb,reduceIte])) | (refine Q6 (fun hh=>?_) (fun hh=>?_)<;>(try simp only[hh,Bool.not_true,Bool.not_false,↓M2,M2,Mb,reduceIte])))))
   exact hK _ hk1.bel))) (L1 hs h)
 have hC: ∀{w1:World} {σ1:Q4} {K:Value→World→Prop},X4 w1 σ1→Sl 1 X9 σ1 v' (c.name::c.super::c.like)→(∀w' σ',Stp w1 σ1 w' σ'→K (.bool ((c.name::c.super::c.like).all W7)) w')→Q0 P F.a8 [v', .func (.func F.aj) #[] #[]] w1 K:=
  fun hs hv h=>Fi W7 hs hv (fun σ1 x w1 K _ _ hs hl hK=>X8 (Hv x (Nat.le_trans hl (by decide)) hK)) (L1 hs h)
 have hD: ∀{w1:World} {σ1:Q4} {K:Value→World→Prop},X4 w1 σ1→Sl 1 X9 σ1 lv c.like→(∀w' σ',Stp w1 σ1 w' σ'→K (.bool (R1 id [] c.like)) w')→Q0 P F.aW [lv, .func (.func F.cp) #[] #[]] w1 K:=
  fun hs hv h=>Q4R id hs hv (fun σ1 x w1 K _ hs hl hK=>X8 (Q3g (hK _ (Below.refl _ _)))) (L1 hs h)
 have hE: ∀{w1:World} {σ1:Q4} {K:Value→World→Prop},X4 w1 σ1→Sl 3 E5 σ1 fv c.fields→(∀w' σ',Stp w1 σ1 w' σ'→K (.bool (R1 Fld.name [] c.fields)) w')→Q0 P F.aB [fv, .func (.func F.cq) #[] #[]] w1 K:=
  fun hs hv h=>Q2f Fld.name hs hv (fun σ1 x cs w1 K _ hs hr hl hK=>X8 (Q2Z (by
   obtain ⟨rfl,_⟩:=hr
   unfold Cq
   refine Z1 hs fun a w1 σ1 hk1 ha1=>?_
   (repeat' (first | (with_reducible intro _) | (with_reducible refine W0 ?_) | (simp only[↓M2,M2,Mb,reduceIte]) | (with_reducible first | refine ld aS aL aR ?_ | refine Y0 aS aL aR ?_ | refine Z2 aS aL aR ?_ | refine X0 aL ?_ | refine V6 aR ?_ | refine Z1 aS ?_ | refine L5 aS aL ?_ | refine U0 aS aR ?_ | refine Y5 aS aR aR (Rep.one (by assumption)) ?_ | refine U6 aS aR aR aR ?_ | (refine Z5 (fun hh=>?_) (fun hh=>?_)<;>(try simp only[hh,Bool.not_true,Bool.not_false,↓M2,M2,Mb,reduceIte])) | (refine Q6 (fun hh=>?_) (fun hh=>?_)<;>(try simp only[hh,Bool.not_true,Bool.not_false,↓M2,M2,Mb,reduceIte])))))
   exact hK _ hk1.bel))) (L1 hs h)
 have hF: ∀{w1:World} {σ1:Q4} {K:Value→World→Prop},X4 w1 σ1→Sl 7 L9 σ1 mv c.methods→(∀w' σ',Stp w1 σ1 w' σ'→K (.bool (R1 Hm.Met.name [] c.methods)) w')→Q0 P F.ar [mv, .func (.func F.cr) #[] #[]] w1 K:=
  fun hs hv h=>Q1A Hm.Met.name hs hv (fun σ1 x cs w1 K _ hs hr hl hK=>X8 (Q3h (by
   obtain ⟨pv,cv,hv,rfl,_⟩:=hr
   unfold Cx
   refine Z1 hs fun a w1 σ1 hk1 ha1=>?_
   (repeat' (first | (with_reducible intro _) | (with_reducible refine W0 ?_) | (simp only[↓M2,M2,Mb,reduceIte]) | (with_reducible first | refine ld aS aL aR ?_ | refine Y0 aS aL aR ?_ | refine Z2 aS aL aR ?_ | refine X0 aL ?_ | refine V6 aR ?_ | refine Z1 aS ?_ | refine L5 aS aL ?_ | refine U0 aS aR ?_ | refine Y5 aS aR aR (Rep.one (by assumption)) ?_ | refine U6 aS aR aR aR ?_ | (refine Z5 (fun hh=>?_) (fun hh=>?_)<;>(try simp only[hh,Bool.not_true,Bool.not_false,↓M2,M2,Mb,reduceIte])) | (refine Q6 (fun hh=>?_) (fun hh=>?_)<;>(try simp only[hh,Bool.not_true,Bool.not_false,↓M2,M2,Mb,reduceIte])))))
   exact hK _ hk1.bel))) (L1 hs h)
 have hG: ∀{w1:World} {σ1:Q4} {K:Value→World→Prop},X4 w1 σ1→Sl 3 E5 σ1 fv c.fields→(∀w' σ',Stp w1 σ1 w' σ'→K (.bool (c.fields.all Dt)) w')→Q0 P F.au [fv, .func (.func F.bK) #[] #[]] w1 K:=
  fun hs hv h=>Q1u Dt hs hv (fun σ1 x cs w1 K _ _ hs hr hl hK=>X8 (Q9N hs hr fun w' σ' hk=>hK w' hk.bel)) (L1 hs h)
 have hH: ∀{w1:World} {σ1:Q4} {K:Value→World→Prop},X4 w1 σ1→Glb σ1→Sl 7 L9 σ1 mv c.methods→(∀w' σ',Stp w1 σ1 w' σ'→K (.bool (c.methods.all F7)) w')→Q0 P F.ao [mv, .func (.func F.bn) #[] #[]] w1 K:=
  fun hs hg hv h=>Q0T F7 hs hv (fun σ1 x cs w1 K le _ hs hr hl hK=>X0k hs (hg.lift ⟨le⟩) hr fun w' σ' hk=>hK w' hk.bel) (L1 hs h)
 have e1:decide ((0:Int)<c.fields.length)= !decide (c.fields=[]):=by cases c.fields<;>simp
 have e2:decide (c.super=[79,98,106,101,99,116])=decide (c.super=J4):=rfl
 (repeat' (first | (with_reducible intro _) | (with_reducible refine W0 ?_) | (simp only[↓M2,M2,Mb,reduceIte]) | (with_reducible first | refine ld aS aL aR ?_ | refine Y0 aS aL aR ?_ | refine Z2 aS aL aR ?_ | refine X0 aL ?_ | refine V6 aR ?_ | refine Z1 aS ?_ | refine L5 aS aL ?_ | refine U0 aS aR ?_ | refine Y5 aS aR aR (Rep.one (by assumption)) ?_ | refine U6 aS aR aR aR ?_ | refine hA au au ?_ | refine hB au au ?_ | refine hC au au ?_ | refine hD au au ?_ | refine hE au au ?_ | refine hF au au ?_ | refine hG au au ?_ | refine hH au au au ?_ | (refine Z5 (fun hh=>?_) (fun hh=>?_)<;>(try simp only[hh,Bool.not_true,Bool.not_false,↓M2,M2,Mb,reduceIte])) | (refine Q6 (fun hh=>?_) (fun hh=>?_)<;>(try simp only[hh,Bool.not_true,Bool.not_false,↓M2,M2,Mb,reduceIte])))))
 all_goals (simp only[←e1,←e2] at h;clear hA hB hC hD hE hF hG hH e1 e2;exact aF))
theorem X34 {cs:List Value} {c:Cla} (hs:X4 w σ) (hg:Glb σ) (hc:V4 σ c cs) (hl:c.like.length≤1000000) (h: ∀w' σ',Stp w σ w' σ'→K (I (M7 c)) w'):Q0 P F.cw [.agg cs.toArray] w K:=Q4U (by
 have hc0:=hc
 obtain ⟨lv,fv,mv,rfl,g1,g2,g3,g4,g5⟩:=hc
 unfold Ps
 unfold M7 at h
 (repeat' (first | (with_reducible intro _) | (with_reducible refine W0 ?_) | (simp only[↓M2,M2,Mb,reduceIte]) | (with_reducible first | refine ld aS aL aR ?_ | refine Y0 aS aL aR ?_ | refine Z2 aS aL aR ?_ | refine X0 aL ?_ | refine V6 aR ?_ | refine Z1 aS ?_ | refine L5 aS aL ?_ | refine U0 aS aR ?_ | refine Y5 aS aR aR (Rep.one (by assumption)) ?_ | refine U6 aS aR aR aR ?_ | refine X42 au au (L1 aS ?_) | refine X38 au au au au ?_ | (refine Z5 (fun hh=>?_) (fun hh=>?_)<;>(try simp only[hh,Bool.not_true,Bool.not_false,↓M2,M2,Mb,reduceIte])) | (refine Q6 (fun hh=>?_) (fun hh=>?_)<;>(try simp only[hh,Bool.not_true,Bool.not_false,↓M2,M2,Mb,reduceIte])))))
 all_goals exact aF)
end Go.Proofs.YtfppjenblllfaaaGreatDoor

namespace Go.Emb
open Go.RowKit Go.Hm
structure Tab (σ : Q4) (v : Value) (l : List Cla) : Prop where
  ex : ∃ a lv r m, v = .pointer (some a) ∧ Z0 σ a [lv, .map (some r)] ∧ Sl 8 V4 σ lv l ∧ P6 σ r m ∧ ∀ n, M9 m n = (Y7 l n).map (fun i : Nat => I (i : Int))
theorem Tab.lift {σ0 σ:Q4} {v:Value} {l:List Cla} (h:Tab σ0 v l) (k:SLe σ0 σ):Tab σ v l:=by
 obtain ⟨a,b,r,m,e,g,d,c,f⟩:=h.ex
 exact ⟨a,b,r,m,e,g.lift k,d.lift k,c.lift k,f⟩
end Go.Emb
namespace Go.Proofs.YtfppjenblllfaaaGreatDoor
open Go.Emb Go.RowKit Go.Kd Go.Hm
variable {w : World} {K : Value → World → Prop} {σ : Q4} {v : Value} {l : List Cla}
theorem Q9n {n:Q9} (b:X4 w σ) (c:Tab σ v l) (h:K (.bool (Q2d l n)) w):Q0 P F.n [v,S n] w K:=Eb (by
 obtain ⟨a,j,r,m,rfl,e,i,f,g⟩:=c.ex
 unfold Zr
 rw[H7,fa]
 refine ld b e rfl ?_
 rw[Q2j X7 (f.is b) n,g n]
 unfold Q2d at h
 cases d:Y7 l n<;>rw[d] at h<;>((try simp only[Option.map_some,Option.map_none]);(try simp only[↓M1,M1,Mb,reduceIte]);exact h))
theorem Xg {n:Q9} {c:Cla} (hs:X4 w σ) (Q:Tab σ v l) (hc:lk l n=some c)
 (h: ∀o s mv w' k,Stp w σ w' k→Sl 1 X9 k o c.like→Sl 3 E5 k s c.fields→Sl 7 L9 k mv c.methods→c.name.length≤Y9→c.super.length≤Y9→V4 k c [S c.name,S c.super,o, .bool c.iface, .bool c.abs, .bool c.fin,s,mv]→
  K (.agg [S c.name,S c.super,o, .bool c.iface, .bool c.abs, .bool c.fin,s,mv].toArray) w'):Q0 P F.h [v,S n] w K:=Gx (by
 obtain ⟨a,o,r,m,rfl,D,t2,R,W⟩:=Q.ex
 obtain ⟨_,_,i,J,B⟩:=V1 hc
 obtain ⟨u,rfl⟩:=List.getElem?_eq_some_iff.1 B
 unfold Ws
 refine P3 hs fun b w1 σ1 f d A=>?_
 refine U8 d.sat ?_
 refine X2 (.pointer (some a)) (fun w f=>by rw[H7];exact X6 rfl) ?_
 refine X2 (.pointer (some (a.add 0))) (fun t w f e=>by rw[e,fa];exact X6 rfl) ?_
 refine X2 (.pointer (some a)) (fun w f=>by rw[H7];exact X6 rfl) ?_
 refine X2 (.pointer (some (a.add 1))) (fun t w f e=>by rw[e,fa];exact X6 rfl) ?_
 refine X2 o (fun t w f e=>by rw[e];exact ld f.sat (D.up d) rfl (X6 rfl)) ?_
 refine X2 (.map (some r)) (fun t w f e=>by rw[e];exact ld f.sat (D.up d) rfl (X6 rfl)) ?_
 refine X2 (I i) (fun t w f e=>by rw[e,Q4x X7 ((R.up d).is f.sat) n,W n,J];exact X6 rfl) ?_
 rintro t6 t7 X N t8 M ad w2 g rfl rfl rfl rfl e8 rfl rfl
 subst e8
 have y:=A.step g.stp
 refine M6 (t2.up d) u fun p cs U j E=>?_
 refine Z2 g.sat U j ?_
 have q:=E
 obtain ⟨Y,s,mv,rfl,V,Z,L,g4,H⟩:=E
 refine Qv y (d.trans g.stp) f rfl rfl (Rep.one q) fun O z C=>?_
 refine W6 C rfl ?_
 exact h _ _ _ O σ1 z.stp V Z L g4 H q)
theorem Fa {n:Q9} (a:X4 w σ) (b:Tab σ v l) (c:lk l n=none) (h:K (.bool false) w):Q0 P F.n [v,S n] w K:=Q9n a b (by rw[Q3z,c];exact h)
theorem Ek {n:Q9} {d:Cla} (a:X4 w σ) (b:Tab σ v l) (c:lk l n=some d) (h:K (.bool true) w):Q0 P F.n [v,S n] w K:=Q9n a b (by rw[Q3z,c];exact h)
theorem X0K {c:Cla} {cs:List Value} (hs:X4 w σ) (ht:Tab σ v l) (hc:V4 σ c cs) (h: ∀w' σ',Stp w σ w' σ'→K (I (M4 l c)) w'):Q0 P F.bp [v, .agg cs.toArray] w K:=Fw (by
 obtain ⟨lv,fv,mv,rfl,g1,g2,g3,g4,g5⟩:=hc
 unfold Vs
 unfold M4 at h
 cases hd:lk l c.super with
 | none=>
  simp only[Ql,hd,if_true] at h
  (repeat' (first | (with_reducible intro _) | (with_reducible refine W0 ?_) | (simp only[↓M2,M2,Mb,reduceIte]) | (with_reducible first | refine ld aS aL aR ?_ | refine Y0 aS aL aR ?_ | refine Z2 aS aL aR ?_ | refine X0 aL ?_ | refine V6 aR ?_ | refine Z1 aS ?_ | refine L5 aS aL ?_ | refine U0 aS aR ?_ | refine Y5 aS aR aR (Rep.one (by assumption)) ?_ | refine U6 aS aR aR aR ?_ | refine Fa au au au ?_ | (refine Z5 (fun hh=>?_) (fun hh=>?_)<;>(try simp only[hh,Bool.not_true,Bool.not_false,↓M2,M2,Mb,reduceIte])) | (refine Q6 (fun hh=>?_) (fun hh=>?_)<;>(try simp only[hh,Bool.not_true,Bool.not_false,↓M2,M2,Mb,reduceIte])))))
  all_goals exact aF
 | some d=>
  simp only[Ql,hd] at h
  obtain ⟨dn,ds,dl,di,da,df,dfs,dms⟩:=d
  cases di<;>cases df
  ·simp only[Bool.or_self,Bool.false_eq_true,if_false] at h
   (repeat' (first | (with_reducible intro _) | (with_reducible refine W0 ?_) | (simp only[↓M2,M2,Mb,reduceIte]) | (with_reducible first | refine ld aS aL aR ?_ | refine Y0 aS aL aR ?_ | refine Z2 aS aL aR ?_ | refine X0 aL ?_ | refine V6 aR ?_ | refine Z1 aS ?_ | refine L5 aS aL ?_ | refine U0 aS aR ?_ | refine Y5 aS aR aR (Rep.one (by assumption)) ?_ | refine U6 aS aR aR aR ?_ | refine Ek au au au ?_ | refine Xg au au au ?_ | (refine Z5 (fun hh=>?_) (fun hh=>?_)<;>(try simp only[hh,Bool.not_true,Bool.not_false,↓M2,M2,Mb,reduceIte])) | (refine Q6 (fun hh=>?_) (fun hh=>?_)<;>(try simp only[hh,Bool.not_true,Bool.not_false,↓M2,M2,Mb,reduceIte])))))
   rename_i w3 σ3 hk3 _ _ _ _ _ _
   have hS:Stp w σ w3 σ3:=by (repeat (first | exact Stp.refl (by (first | assumption | exact Stp.sat (by assumption) | exact Hst.sat (by assumption))) | assumption | refine Stp.trans ?_ (by first | assumption | exact Hst.stp (by assumption))))
   refine U4 c.like.length (fun n w'=> ∃σ',Stp w σ w' σ'∧SLe σ3 σ'∧((c.like.take n).any (D6 l))=false) ⟨σ3,hS,SLe.refl _,by simp⟩ fun n w4 d hn hi=>?_
   obtain ⟨σ4,hS4,le4,hq⟩:=hi
   clear hk3
   refine Z4 ?_
   refine Q6 (fun hh=>?_) (fun hh=>?_)
   ·have hn':n<c.like.length:=by simpa using hh
    have hmax:c.like.length≤9223372036854775807:=g1.max
    refine Zw (by (first | assumption | exact Sl.lift (by assumption) (by (repeat (first | exact SLe.refl _ | refine SLe.more ?_ (by assumption) | refine SLe.more ?_ (Nxt.le (by assumption)) | refine SLe.step ?_ (by assumption)))) | exact Z0.lift (by assumption) (by (repeat (first | exact SLe.refl _ | refine SLe.more ?_ (by assumption) | refine SLe.more ?_ (Nxt.le (by assumption)) | refine SLe.step ?_ (by assumption)))) | exact P6.lift (by assumption) (by (repeat (first | exact SLe.refl _ | refine SLe.more ?_ (by assumption) | refine SLe.more ?_ (Nxt.le (by assumption)) | refine SLe.step ?_ (by assumption)))) | exact RCl_lift (by assumption) (by (repeat (first | exact SLe.refl _ | refine SLe.more ?_ (by assumption) | refine SLe.more ?_ (Nxt.le (by assumption)) | refine SLe.step ?_ (by assumption)))) | exact RMe_lift (by assumption) (by (repeat (first | exact SLe.refl _ | refine SLe.more ?_ (by assumption) | refine SLe.more ?_ (Nxt.le (by assumption)) | refine SLe.step ?_ (by assumption)))) | exact Glb.lift (by assumption) (by (repeat (first | exact SLe.refl _ | refine SLe.more ?_ (by assumption) | refine SLe.more ?_ (Nxt.le (by assumption)) | refine SLe.step ?_ (by assumption)))) | exact Tab.lift (by assumption) (by (repeat (first | exact SLe.refl _ | refine SLe.more ?_ (by assumption) | refine SLe.more ?_ (Nxt.le (by assumption)) | refine SLe.step ?_ (by assumption)))) | exact RIn_any (by assumption) | exact RFd_any (by assumption) | exact RCa_any (by assumption))) hn' fun p hl hbig=>?_
    have hq':=N0 (p:=D6 l) hn'
    rw[hq] at hq'
    cases hx:lk l c.like[n] with
    | none=>
     simp only[B6 (p:=D6 l) hn' (by simp only[D6,hx]),if_true] at h
     (repeat' (first | (with_reducible intro _) | (with_reducible refine W0 ?_) | (simp only[↓M2,M2,Mb,reduceIte]) | (with_reducible first | refine ld aS aL aR ?_ | refine Y0 aS aL aR ?_ | refine Z2 aS aL aR ?_ | refine X0 aL ?_ | refine V6 aR ?_ | refine Z1 aS ?_ | refine L5 aS aL ?_ | refine U0 aS aR ?_ | refine Y5 aS aR aR (Rep.one (by assumption)) ?_ | refine U6 aS aR aR aR ?_ | refine Fa au au au ?_ | (refine Z5 (fun hh=>?_) (fun hh=>?_)<;>(try simp only[hh,Bool.not_true,Bool.not_false,↓M2,M2,Mb,reduceIte])) | (refine Q6 (fun hh=>?_) (fun hh=>?_)<;>(try simp only[hh,Bool.not_true,Bool.not_false,↓M2,M2,Mb,reduceIte])))))
     all_goals exact aF
    | some x=>
     obtain ⟨xn,xs,xl,xi,xa,xf,xfs,xms⟩:=x
     cases xi
     ·simp only[B6 (p:=D6 l) hn' (by simp only[D6,hx];rfl),if_true] at h
      (repeat' (first | (with_reducible intro _) | (with_reducible refine W0 ?_) | (simp only[↓M2,M2,Mb,reduceIte]) | (with_reducible first | refine ld aS aL aR ?_ | refine Y0 aS aL aR ?_ | refine Z2 aS aL aR ?_ | refine X0 aL ?_ | refine V6 aR ?_ | refine Z1 aS ?_ | refine L5 aS aL ?_ | refine U0 aS aR ?_ | refine Y5 aS aR aR (Rep.one (by assumption)) ?_ | refine U6 aS aR aR aR ?_ | refine Ek au au au ?_ | refine Xg au au au ?_ | (refine Z5 (fun hh=>?_) (fun hh=>?_)<;>(try simp only[hh,Bool.not_true,Bool.not_false,↓M2,M2,Mb,reduceIte])) | (refine Q6 (fun hh=>?_) (fun hh=>?_)<;>(try simp only[hh,Bool.not_true,Bool.not_false,↓M2,M2,Mb,reduceIte])))))
      all_goals exact aF
     ·(repeat' (first | (with_reducible intro _) | (with_reducible refine W0 ?_) | (simp only[↓M2,M2,Mb,reduceIte]) | (with_reducible first | refine ld aS aL aR ?_ | refine Y0 aS aL aR ?_ | refine Z2 aS aL aR ?_ | refine X0 aL ?_ | refine V6 aR ?_ | refine Z1 aS ?_ | refine L5 aS aL ?_ | refine U0 aS aR ?_ | refine Y5 aS aR aR (Rep.one (by assumption)) ?_ | refine U6 aS aR aR aR ?_ | refine Ek au au au ?_ | refine Xg au au au ?_ | (refine Z5 (fun hh=>?_) (fun hh=>?_)<;>(try simp only[hh,Bool.not_true,Bool.not_false,↓M2,M2,Mb,reduceIte])) | (refine Q6 (fun hh=>?_) (fun hh=>?_)<;>(try simp only[hh,Bool.not_true,Bool.not_false,↓M2,M2,Mb,reduceIte])))))
      refine Y6 hmax hn' ⟨_,by (repeat (first | exact Stp.refl (by (first | assumption | exact Stp.sat (by assumption) | exact Hst.sat (by assumption))) | assumption | refine Stp.trans ?_ (by first | assumption | exact Hst.stp (by assumption)))),by (repeat (first | exact SLe.refl _ | refine SLe.more ?_ (by assumption) | refine SLe.more ?_ (Nxt.le (by assumption)) | refine SLe.step ?_ (by assumption))),by rw[hq'];simp only[D6,hx];rfl⟩
   ·have hn': ¬n<c.like.length:=by simpa using hh
    rw[E0 hn'] at hq
    simp only[hq,Bool.false_eq_true,if_false] at h
    exact h _ _ hS4
  all_goals
   simp only[Bool.or_self,Bool.or_true,Bool.true_or,if_true] at h
   (repeat' (first | (with_reducible intro _) | (with_reducible refine W0 ?_) | (simp only[↓M2,M2,Mb,reduceIte]) | (with_reducible first | refine ld aS aL aR ?_ | refine Y0 aS aL aR ?_ | refine Z2 aS aL aR ?_ | refine X0 aL ?_ | refine V6 aR ?_ | refine Z1 aS ?_ | refine L5 aS aL ?_ | refine U0 aS aR ?_ | refine Y5 aS aR aR (Rep.one (by assumption)) ?_ | refine U6 aS aR aR aR ?_ | refine Ek au au au ?_ | refine Xg au au au ?_ | (refine Z5 (fun hh=>?_) (fun hh=>?_)<;>(try simp only[hh,Bool.not_true,Bool.not_false,↓M2,M2,Mb,reduceIte])) | (refine Q6 (fun hh=>?_) (fun hh=>?_)<;>(try simp only[hh,Bool.not_true,Bool.not_false,↓M2,M2,Mb,reduceIte])))))
   all_goals exact aF)
end Go.Proofs.YtfppjenblllfaaaGreatDoor

namespace Go.Emb
open Go.RowKit Go.Hm
variable {P : Program} {w w0 w1 w' w'' : World} {K : Value → World → Prop} {σ σ0 σ1 σ' : Q4}
theorem Q8s {a:Addr} {v:Value} (h:w.cell? a=some v) (b:Below w.heap.size w w'):w'.cell? a=some v:=by
 rw[←h];exact World.cell?_of_block (b.block a.block (World.block_lt_of_cell? _ _ h))
def Ptr {α:Type} (sz:Nat) (R:Q4→α→List Value→Prop) (σ:Q4) (x:α) (p:Value) (w:World):Prop:=
 ∃a cs,p= .pointer (some a)∧(∀j u,cs[j]? =some u→w.cell? (a.add j)=some u)∧cs.length=sz∧R σ x cs
theorem Ptr.below {α:Type} {sz:Nat} {R:Q4→α→List Value→Prop} {x:α} {p:Value} (h:Ptr sz R σ x p w) (e:Below w.heap.size w w'):Ptr sz R σ x p w':=by
 obtain ⟨a,cs,f,d,b⟩:=h
 exact ⟨a,cs,f,fun j u c=>Q8s (d j u c) e,b⟩
end Go.Emb
namespace Go.Proofs.YtfppjenblllfaaaGreatDoor
open Go.Emb Go.RowKit Go.Kd Go.Hm
variable {w : World} {K : Value → World → Prop} {σ : Q4} {v : Value} {l : List Cla}
theorem Q4a {w0:World} {σ0:Q4} {xs:List Cla} (Z:Stp w0 σ0 w σ) (A:J6 w0.heap.size T.b 8 V4 σ w v xs)
 (h: ∀w',Kpt (fun k=>v.ownBlock=some k) w w'→Stp w0 σ0 w' σ→J6 w0.heap.size T.b 8 V4 σ w' v xs.reverse→K (.tuple #[]) w'):Q0 P F.t [v] w K:=Yx (by
 unfold F4
 have R:xs.length≤9223372036854775807:=by
  obtain ⟨a,ab,_,g,b,_⟩:=A
  simp only[maxLen] at b;omega
 refine Vi A ?_
 refine Hu ⟨by omega,by omega⟩ ?_
 refine Jo (fun x w'=> ∃i:Nat,x=(I i,I ((xs.length:Int)-1-i))∧2*i≤xs.length∧Kpt (fun k=>v.ownBlock=some k) w w'∧Stp w0 σ0 w' σ∧J6 w0.heap.size T.b 8 V4 σ w' v (R2 i xs)) (fun x _=>match x.2 with | .int _ n=>(n+1).toNat | _=>0) ⟨0,by simp,by omega,Kpt.refl,Z,A⟩ ?_
 rintro _ d w1 ⟨i,rfl,N,Q,o,c⟩
 obtain ⟨O,U⟩:=Q0U xs i N
 refine Z4 ?_
 refine Q6 (fun hh=>?_) (fun hh=>?_)
 ·have ae:(i:Int)<(xs.length:Int)-1-i:=by simpa using hh
  have M:((xs.length:Int)-1-i)=((xs.length-1-i:Nat):Int):=by omega
  have j:i<(R2 i xs).length:=by omega
  have q:xs.length-1-i<(R2 i xs).length:=by omega
  refine U8 o.sat ?_
  refine W9 (Ptr 8 V4 σ (R2 i xs)[xs.length-1-i]) (fun _ _ _ h f=>h.below f) (fun w f=>?_) ?_
  ·simp only[M]
   exact Q3S (c.step f.stp) q fun a cs g b m=>⟨Below.refl _ _,a,cs,rfl,g,b,m⟩
  refine W9 (Ptr 8 V4 σ (R2 i xs)[i]) (fun _ _ _ h f=>h.below f) (fun w f=>?_) ?_
  ·exact Q3S (c.step f.stp) j fun a cs g b m=>⟨Below.refl _ _,a,cs,rfl,g,b,m⟩
  refine W9 (fun v _=> ∃cs:List Value,v= .agg cs.toArray∧cs.length=8∧V4 σ (R2 i xs)[xs.length-1-i] cs) (fun _ _ _ h _=>h) (fun t w f e=>?_) ?_
  ·obtain ⟨a,cs,rfl,g,b,m⟩:=e
   exact So b g ⟨Below.refl _ _,cs,rfl,b,m⟩
  refine W9 (fun v _=> ∃cs:List Value,v= .agg cs.toArray∧cs.length=8∧V4 σ (R2 i xs)[i] cs) (fun _ _ _ h _=>h) (fun t w f e=>?_) ?_
  ·obtain ⟨a,cs,rfl,g,b,m⟩:=e
   exact So b g ⟨Below.refl _ _,cs,rfl,b,m⟩
  rintro Y aa ad V w2 r _ _ ⟨cs,rfl,L,y⟩ ⟨ds,rfl,C,s⟩
  refine X2a (o.trans r.stp) (c.step r.stp) j L y (Rep.one y) fun p u w3 H B J=>?_
  simp only[M]
  refine X2a B.stp J (by simpa using q) C s (Rep.one s) fun p u w4 D z E=>?_
  refine Gh ⟨by omega,by omega⟩ ?_
  refine Hu ⟨by omega,by omega⟩ ?_
  refine ⟨⟨i+1,by congr 1<;>congr 1<;>omega,by omega,?_,z.stp,?_⟩,?_⟩
  ·exact ((Q.trans (Kpt.of_below r.stp.bel)).trans H).trans D
  ·have X:(R2 i xs)[i]? =some (R2 i xs)[i]:=List.getElem?_eq_getElem j
   have W:(R2 i xs)[xs.length-1-i]? =some (R2 i xs)[xs.length-1-i]:=List.getElem?_eq_getElem q
   have:R2 (i+1) xs=((R2 i xs).set i (R2 i xs)[xs.length-1-i]).set (xs.length-1-i) (R2 i xs)[i]:=by
    simp only[R2,X,W]
   rw[this];exact E
  ·simp only;omega
 ·have ac: ¬(i:Int)<(xs.length:Int)-1-i:=by simpa using hh
  rw[Q9u xs i N (by omega)] at c
  exact h w1 Q o c)
def sOf:Value→Q9 | .string b=>b.data.toList | _=>[]
theorem X0B {n:Q9} (R:X4 w σ) (A:Tab σ v l) (V:Yz l) (Y:l.length≤100000) (h: ∀p w' σ',Stp w σ w' σ'→J6 w.heap.size T.b 8 V4 σ' w' p (chain l n).reverse→K p w'):Q0 P F.aX [v,S n] w K:=Tu (by
 unfold Nw
 refine Jo (fun x w'=> ∃(s:Q9) (k:List Cla) (σ':Q4),x.2=S s∧chain l n=k++chain l s∧Stp w σ w' σ'∧V3 w.heap.size T.b 8 V4 σ' w' x.1 k) (fun x _=>(chain l (sOf x.2)).length)
  ⟨n,[],σ,rfl,rfl,Stp.refl R,V3.nil⟩ ?_
 rintro ⟨x1,_⟩ d w1 ⟨s,k,σ1,rfl,o,a,i⟩
 have g:=A.lift ⟨a.le⟩
 have z:=Cf l n
 have q:sOf (S s)=s:=by simp[sOf]
 simp only[q]
 cases j:lk l s with
 | none=>
  refine Fa a.sat g j ?_
  refine V0 ?_
  rw[T7 j,List.append_nil] at o
  rw[←o] at i
  refine Q4a a (J6.of_acc i) fun M f y r=>?_
  exact h _ _ _ y r
 | some c=>
  refine Ek a.sat g j ?_
  refine J5 ?_
  refine Xg a.sat g j fun N U mv M W f O L J C E B=>?_
  have b:=I6 V s
  rw[j] at b
  simp only at b
  have Q:k.length+1≤l.length+1:=by
   have:=congrArg List.length o
   rw[List.length_append,b,List.length_cons] at this;omega
  refine Us (a.trans f) (i.up f) B rfl rfl rfl (by omega) (by omega) fun u p X Z H e t _=>?_
  refine Xg e.sat (A.lift ⟨e.le⟩) j fun N U mv w4 D m O L J C E B=>?_
  refine V6 (v:=S c.super) rfl ?_
  refine ⟨⟨c.super,k++[c],D,rfl,?_,e.trans m,t.up m⟩,?_⟩
  ·rw[o,b];simp
  ·have:sOf (S c.super)=c.super:=by simp[sOf]
   simp only[this,b,List.length_cons];omega)
theorem Q6I {n:Q9} (hs:X4 w σ) (V:Tab σ v l) (ha:Yz l) (X:l.length≤100000) (A: ∀c∈l,Qn c) (h: ∀z w' σ',Stp w σ w' σ'→Sl 3 E5 σ' z (U1 l n)→K z w'):Q0 P F.af [v,S n] w K:=Fu (by
 unfold Wj
 refine X0B hs V ha X fun v1 w1 σ1 H E=>?_
 obtain ⟨N,J,k,Y,_⟩:=E.keep H
 generalize j:(chain l n).reverse=cs at*
 have O:cs.length≤l.length+1:=by rw[←j,List.length_reverse];exact Cf l n
 have s: ∀c∈cs,c.fields.length≤1000000:=fun c t=>(A c (Cd (by rw[←j] at t;simpa using t))).2.1
 refine X0 k ?_
 refine E3 cs.length (fun i a w'=> ∃σ',Stp w σ w' σ'∧SLe N σ'∧V3 w.heap.size T.l 3 E5 σ' w' a ((cs.take i).flatMap (·.fields))) ⟨N,J,SLe.refl _,V3.nil⟩ fun i a w3 d hi o=>?_
 obtain ⟨σ3,f,m,g⟩:=o
 refine Z4 ?_
 refine Q6 (fun hh=>?_) (fun hh=>?_)
 ·have b:i<cs.length:=by simpa using hh
  refine M6 (k.lift m) b fun p cells C r R=>?_
  refine Z2 f.sat C r ?_
  refine Y5 f.sat (by rfl) r (Rep.one R) fun q w4 M e hq=>?_
  obtain ⟨lv,fv,mv,rfl,f1,Z,f3,f4,f5⟩:=R
  rw[fa]
  refine ld e.sat hq rfl ?_
  have u:=Uq (fun c:Cla=>c.fields) 1000000 (cs.take i) fun c t=>s c (List.mem_of_mem_take t)
  rw[List.length_take] at u
  have U:=s cs[i] (List.getElem_mem b)
  have Q:min i cs.length*1000000≤100000*1000000:=Nat.mul_le_mul_right _ (by omega)
  refine Hp (f.trans e) (g.up e) (Z.up e) rfl (by omega) (by omega) fun z w5 ab D B _=>?_
  refine H3 ?_
  refine J1 (by omega) b ⟨M,D,m.more ⟨e.le⟩,?_⟩
  rw[List.take_add_one,List.getElem?_eq_getElem b,List.flatMap_append]
  simpa using B
 ·have b: ¬i<cs.length:=by simpa using hh
  rw[List.take_of_length_le (by omega)] at g
  obtain ⟨M,y,L,W,_⟩:=g.keep f
  refine h _ _ _ y ?_
  unfold U1
  rw[j];exact L)
theorem Q7G {n f:Q9} (hs:X4 w σ) (ht:Tab σ v l) (ha:Yz l) (hl:l.length≤100000) (hsm: ∀c∈l,Qn c) (h: ∀w' σ',Stp w σ w' σ'→K (I (L2 (F2 l n f))) w'):Q0 P F.aJ [v,S n,S f] w K:=Iq (by
 unfold Ma
 refine U0 hs rfl fun q w1 σ1 hk1 hq=>?_
 refine Q6I hk1.sat (ht.lift ⟨hk1.le⟩) ha hl hsm fun v' w2 σ2 hk2 hv2=>?_
 rw[Xd]
 refine Gb (fun x=>decide (x.name=f)) hk2.sat hv2 (fun x cs w3 K _ hs3 hr hl hK=>X8 (Bm ?_)) fun w3 hb=>?_
 ·obtain ⟨rfl,_⟩:=hr
  unfold Ux
  have hq2:=hq.up hk2
  refine Z1 hs3 fun a w4 σ4 hk4 ha4=>?_
  (repeat' (first | (with_reducible intro _) | (with_reducible refine W0 ?_) | (simp only[↓M2,M2,Mb,reduceIte]) | (with_reducible first | refine ld aS aL aR ?_ | refine Y0 aS aL aR ?_ | refine Z2 aS aL aR ?_ | refine X0 aL ?_ | refine V6 aR ?_ | refine Z1 aS ?_ | refine L5 aS aL ?_ | refine U0 aS aR ?_ | refine Y5 aS aR aR (Rep.one (by assumption)) ?_ | refine U6 aS aR aR aR ?_ | (refine Z5 (fun hh=>?_) (fun hh=>?_)<;>(try simp only[hh,Bool.not_true,Bool.not_false,↓M2,M2,Mb,reduceIte])) | (refine Q6 (fun hh=>?_) (fun hh=>?_)<;>(try simp only[hh,Bool.not_true,Bool.not_false,↓M2,M2,Mb,reduceIte])))))
  exact hK _ hk4.bel
 ·exact h _ _ ((hk1.trans hk2).trans (Stp.of_below hk2.sat hb)))
end Go.Proofs.YtfppjenblllfaaaGreatDoor

namespace Go.Hm
open Go.Kd
theorem Q5T {α:Type} (p:α→Bool): ∀xs:List α,xs.find? p=(xs.findIdx? p).bind (xs[·]?)
 | []=>rfl
 | x::r=>by
  rw[List.find?_cons,List.findIdx?_cons]
  cases p x with
  | true=>rfl
  | false=>
   simp only[Bool.false_eq_true,if_false]
   rw[Q5T p r]
   cases r.findIdx? p<;>simp
def Full (l:List Cla):Prop:= ∀c∈l,∀u∈c.like,∃d,lk l u=some d
def Nm (c:Cla):Prop:=c.name.length≤100∧(∀f∈c.fields,f.name.length≤100∧f.kind.length≤100)∧ ∀m∈c.methods,m.result.length≤100∧ ∀p∈m.params,p.length≤100
structure Ok (l : List Cla) : Prop where
  acy : Yz l
  len : l.length ≤ 100000
  sm : ∀ c ∈ l, Qn c
  full : Full l
  nm : ∀ c ∈ l, Nm c
abbrev oM (o:Option Hm.Met):Hm.Met:=o.getD Hm.Met.zero
abbrev o1 (o:Option (Q9×Hm.Met)):Q9:=(o.map (·.1)).getD []
abbrev o2 (o:Option (Q9×Hm.Met)):Hm.Met:=(o.map (·.2)).getD Hm.Met.zero
theorem Xe {α β:Type} {xs:List α} {f:α→Option β} {n:Nat} (h:n<xs.length) (a:(xs.take n).findSome? f=none):(xs.take (n+1)).findSome? f=f xs[n]:=by
 rw[List.take_add_one,List.getElem?_eq_getElem h,List.findSome?_append,a];simp
theorem Xm {α β:Type} {xs:List α} {f:α→Option β} {n:Nat} {y:β} (h:n<xs.length) (a:(xs.take n).findSome? f=none) (b:f xs[n]=some y):xs.findSome? f=some y:=by
 have:=Xe h a
 rw[b] at this
 rw[←List.take_append_drop (n+1) xs,List.findSome?_append,this];rfl
end Go.Hm
namespace Go.Proofs.YtfppjenblllfaaaGreatDoor
open Go.Emb Go.RowKit Go.Kd Go.Hm
variable {w : World} {K : Value → World → Prop} {σ : Q4} {v : Value} {l : List Cla}
theorem Qm:L9 σ Hm.Met.zero [S [], .slice none 0 0,S [], .bool false,I 0, .slice none 0 0, .slice none 0 0]:=
 ⟨_,_,_,rfl,Sl.nil,Sl.nil,Sl.nil,by decide,by decide,by decide,by decide⟩
theorem Hs (h:K (.agg [S [], .slice none 0 0,S [], .bool false,I 0, .slice none 0 0, .slice none 0 0].toArray) w):D7 P T.d [] w K:=W4 (by kernel_rfl) h
theorem X1H {c:Cla} {cs:List Value} {n:Q9} (hs:X4 w σ) (hc:V4 σ c cs) (hsm:Qn c)
 (h: ∀pv cv hv w' σ',Stp w σ w' σ'→L9 σ' (oM (E8 c n)) [S (oM (E8 c n)).name,pv,S (oM (E8 c n)).result, .bool (oM (E8 c n)).abs,I (oM (E8 c n)).locals,cv,hv]→
  K (.tuple #[.agg [S (oM (E8 c n)).name,pv,S (oM (E8 c n)).result, .bool (oM (E8 c n)).abs,I (oM (E8 c n)).locals,cv,hv].toArray, .bool (E8 c n).isSome]) w'):Q0 P F.cB [.agg cs.toArray,S n] w K:=Q94 (by
 obtain ⟨lv,fv,mv,rfl,g1,g2,g3,g4,g5⟩:=hc
 unfold Q2W
 refine Z1 hs fun a w1 σ1 hk1 ha1=>?_
 refine U0 hk1.sat rfl fun q w2 σ2 hk2 hq=>?_
 refine P3 hk2.sat fun b w3 σ3 hb hk3 hm=>?_
 rw[fa]
 have ha3:=(ha1.up hk2).up hk3
 have g3:=((g3.up hk1).up hk2).up hk3
 have hq3:=hq.up hk3
 refine ld hk3.sat ha3 rfl ?_
 rw[Xd]
 have hS3:=(hk1.trans hk2).trans hk3
 have hb0:w.heap.size≤b:=Zq hb (hk1.trans hk2)
 refine Bb (fun x=>decide (x.name=n)) hk3.sat g3 (fun x cs w4 K _ hs4 hr hl hK=>X8 (Q5O ?_)) fun w4 hb4=>?_
 ·obtain ⟨pv,cv,hv,rfl,_⟩:=hr
  unfold Q0M
  refine Z1 hs4 fun a w5 σ5 hk5 ha5=>?_
  (repeat' (first | (with_reducible intro _) | (with_reducible refine W0 ?_) | (simp only[↓M2,M2,Mb,reduceIte]) | (with_reducible first | refine ld aS aL aR ?_ | refine Y0 aS aL aR ?_ | refine Z2 aS aL aR ?_ | refine X0 aL ?_ | refine V6 aR ?_ | refine Z1 aS ?_ | refine L5 aS aL ?_ | refine U0 aS aR ?_ | refine Y5 aS aR aR (Rep.one (by assumption)) ?_ | refine U6 aS aR aR aR ?_ | (refine Z5 (fun hh=>?_) (fun hh=>?_)<;>(try simp only[hh,Bool.not_true,Bool.not_false,↓M2,M2,Mb,reduceIte])) | (refine Q6 (fun hh=>?_) (fun hh=>?_)<;>(try simp only[hh,Bool.not_true,Bool.not_false,↓M2,M2,Mb,reduceIte])))))
  exact hK _ hk5.bel
 have hk4:Stp w3 σ3 w4 σ3:=Stp.of_below hk3.sat hb4
 have hm:=hm.step hk4
 have hS4:=hS3.trans hk4
 unfold E8 at h
 rw[Q5T] at h
 refine Z4 ?_
 cases hf:c.methods.findIdx? fun x=>decide (x.name=n) with
 | none=>
  rw[hf] at h
  simp only[L2]
  refine J5 ?_
  refine Hs ?_
  refine Qv hm hS4 hb0 rfl rfl (Rep.one (Qm (σ:=σ3))) fun w5 hS5 hm5=>?_
  refine W6 hm5 rfl ?_
  exact h _ _ _ w5 σ3 hS5.stp Qm
 | some i=>
  rw[hf] at h
  have hi:i<c.methods.length:=(List.findIdx?_eq_some_iff_getElem.1 hf).1
  simp only[Option.bind_some,List.getElem?_eq_getElem hi] at h
  simp only[L2]
  refine Q6 (fun hh=>absurd (of_decide_eq_true hh) (by omega)) (fun _=>?_)
  rw[fa]
  refine ld hk4.sat ha3 rfl ?_
  refine M6 g3 hi fun p cells hl1 hl2 hr=>?_
  refine Z2 hk4.sat hl1 hl2 ?_
  refine Q4N hk4.sat hr (hsm.2.2.2 _ (List.getElem_mem hi)) fun pv cv hv w5 σ5 hk5 hr5=>?_
  refine Qv (hm.step hk5) (hS4.trans hk5) hb0 rfl rfl (Rep.one hr5) fun w6 hS6 hm6=>?_
  refine W6 hm6 rfl ?_
  exact h _ _ _ w6 σ5 hS6.stp hr5)
theorem X3x {n:Q9} (ok:Ok l): ∀(k:Nat) {c:Cla} {cs:List Value} {w:World} {σ:Q4} {K:Value→World→Prop},I5 l c.name<k→lk l c.name=some c→X4 w σ→Tab σ v l→V4 σ c cs→
 (∀pv Y W w' Z,Stp w σ w' Z→L9 Z (o2 (V2 l c n)) [S (o2 (V2 l c n)).name,pv,S (o2 (V2 l c n)).result, .bool (o2 (V2 l c n)).abs,I (o2 (V2 l c n)).locals,Y,W]→
  K (.tuple #[S (o1 (V2 l c n)), .agg [S (o2 (V2 l c n)).name,pv,S (o2 (V2 l c n)).result, .bool (o2 (V2 l c n)).abs,I (o2 (V2 l c n)).locals,Y,W].toArray, .bool (V2 l c n).isSome]) w')→
 Q0 P F.aY [v, .agg cs.toArray,S n] w K:=by
 intro k
 induction k with
 | zero=>
  intro c cs w σ K hk
  omega
 | succ k ih=>
  intro c cs w σ K hk hc hs ht hr h
  refine Ts ?_
  obtain ⟨lv,fv,mv,rfl,g1,g2,g3,g4,g5⟩:=hr
  have D:=Q4C ok.acy hc n
  generalize hf:(fun u=>match lk l u with | none=>none | some d=>match E8 d n with | some m=>some (u,m) | none=>V2 l d n)=f at D
  unfold Nv
  refine Z1 hs fun a w1 σ1 L ax=>?_
  refine P3 L.sat fun b w2 σ2 hb E a4=>?_
  have V:w.heap.size≤b:=Zq hb L
  have ar:=ax.up E
  rw[fa]
  refine ld E.sat ar rfl ?_
  have g1:=(g1.up L).up E
  refine X0 g1 ?_
  refine U4 c.like.length (fun i w'=> ∃Z,Stp w σ w' Z∧SLe σ2 Z∧Z9 Z w' b [S [], .slice none 0 0,S [], .bool false,I 0, .slice none 0 0, .slice none 0 0]∧(c.like.take i).findSome? f=none) ⟨σ2,L.trans E,SLe.refl _,a4,rfl⟩ fun i w3 d hi ai=>?_
  obtain ⟨σ3,z,an,ap,A⟩:=ai
  have a7:=ht.lift ⟨z.le⟩
  refine Z4 ?_
  refine Q6 (fun hh=>?_) (fun hh=>?_)
  ·have g:i<c.like.length:=by simpa using hh
   refine Zw (g1.lift an) g fun p a6 ao=>?_
   refine Y0 z.sat a6 rfl ?_
   obtain ⟨d,X⟩:=ok.full c (V1 hc).2.1 _ (List.getElem_mem g)
   obtain ⟨ab,a5,_⟩:=V1 X
   have j:f c.like[i]=match E8 d n with | some m=>some (c.like[i],m) | none=>V2 l d n:=by rw[←hf];simp only[X]
   refine Xg z.sat a7 X fun a3 a8 bb w4 σ4 H f1 f2 f3 f4 f5 az=>?_
   refine X1H H.sat az (ok.sm d a5) fun pv Y W w5 σ5 C aj=>?_
   refine Z7 (vs:=[_,_]) rfl ?_
   refine Z7 (vs:=[_,_]) rfl ?_
   refine Y5 C.sat (by rfl) rfl (Rep.one aj) fun q w6 σ6 M ae=>?_
   have t:=((z.trans H).trans C).trans M
   have ah:=((ap.step H).step C).step M
   have U:=RMe_lift aj ⟨M.le⟩
   cases ho:E8 d n with
   | some m=>
    rw[ho] at j U ae
    (try simp only[ho])
    refine J5 ?_
    refine U8 t.sat ?_
    refine W9 (fun v _=>v= .agg [S m.name,pv,S m.result, .bool m.abs,I m.locals,Y,W].toArray) (fun _ _ _ h _=>h) (fun w hb=>Z2 hb.sat ae rfl ⟨Below.refl _ _,rfl⟩) ?_
    rintro _ w7 ad rfl
    refine Qv (ah.step ad.stp) (t.trans ad.stp) V rfl rfl (Rep.one U) fun w8 a1 ay=>?_
    refine W6 ay rfl ?_
    have Q:=D.trans (Xm g A j)
    rw[Q] at h
    exact h _ _ _ w8 σ6 a1.stp U
   | none=>
    rw[ho] at j
    (try simp only[Option.isSome_none])
    refine V0 ?_
    refine Xg t.sat (ht.lift ⟨t.le⟩) X fun a3 a8 bb w7 σ7 y f1 f2 f3 f4 f5 aq=>?_
    have bn:=Yp ok.acy hc (by simp[J9,List.getElem_mem g]:c.like[i]∈J9 c) X
    refine ih (by rw[ab];omega) (by rw[ab];exact X) y.sat (ht.lift ⟨(t.trans y).le⟩) aq fun pv Y W w8 σ8 J aa=>?_
    refine Z7 (vs:=[_,_,_]) rfl ?_
    refine Z7 (vs:=[_,_,_]) rfl ?_
    refine Z7 (vs:=[_,_,_]) rfl ?_
    refine Y5 J.sat (by rfl) rfl (Rep.one aa) fun q w9 σ9 B ag=>?_
    have R:=((t.trans y).trans J).trans B
    have ac:=((ah.step y).step J).step B
    have O:=RMe_lift aa ⟨B.le⟩
    cases Q:V2 l d n with
    | some r=>
     obtain ⟨s,m⟩:=r
     rw[Q] at j O ag
     (try simp only[Q])
     refine J5 ?_
     refine U8 R.sat ?_
     refine W9 (fun v _=>v= .agg [S m.name,pv,S m.result, .bool m.abs,I m.locals,Y,W].toArray) (fun _ _ _ h _=>h) (fun w hb=>Z2 hb.sat ag rfl ⟨Below.refl _ _,rfl⟩) ?_
     rintro _ bp N rfl
     refine Qv (ac.step N.stp) (R.trans N.stp) V rfl rfl (Rep.one O) fun a9 al am=>?_
     refine W6 am rfl ?_
     have ao:=D.trans (Xm g A j)
     rw[ao] at h
     exact h _ _ _ a9 σ9 al.stp O
    | none=>
     rw[Q] at j
     (try simp only[Option.isSome_none])
     refine V0 ?_
     refine H3 ?_
     refine Y6 (by have:=g1.max;omega) g ⟨σ9,R,?_,ac,?_⟩
     ·exact an.more ⟨fun b o e=>B.le _ _ (J.le _ _ (y.le _ _ (M.le _ _ (C.le _ _ (H.le _ _ e)))))⟩
     ·rw[Xe g A];exact j
  ·have g: ¬i<c.like.length:=by simpa using hh
   rw[List.take_of_length_le (by omega)] at A
   refine Hs ?_
   refine Qv ap z V rfl rfl (Rep.one (Qm (σ:=σ3))) fun w5 a2 av=>?_
   refine W6 av rfl ?_
   have Q:=D.trans A
   rw[Q] at h
   exact h _ _ _ w5 σ3 a2.stp Qm
end Go.Proofs.YtfppjenblllfaaaGreatDoor

namespace Go.Hm
open Go.Kd
theorem X1y {l:List Cla} {n:Q9} {c:Cla} (h:c∈chain l n):lk l c.name=some c:=by
 have key: ∀(f:Nat) (n:Q9),c∈B9 (lk l) f n→lk l c.name=some c:=by
  intro f
  induction f with
  | zero=>intro n h;simp[B9] at h
  | succ f b=>
   intro n h
   simp only[B9] at h
   split at h
   ·simp at h
   ·rename_i d a
    rcases List.mem_cons.1 h with rfl | h
    ·rw[(V1 a).1];exact a
    ·exact b _ h
 exact key _ _ h
end Go.Hm
namespace Go.Proofs.YtfppjenblllfaaaGreatDoor
open Go.Emb Go.RowKit Go.Kd Go.Hm
variable {w : World} {K : Value → World → Prop} {σ : Q4} {v : Value} {l : List Cla}
theorem Q6i {k n:Q9} (hs:X4 w σ) (ht:Tab σ v l) (ok:Ok l)
 (h: ∀pv cv Z w' H,Stp w σ w' H→L9 H (o2 (J0 l k n)) [S (o2 (J0 l k n)).name,pv,S (o2 (J0 l k n)).result, .bool (o2 (J0 l k n)).abs,I (o2 (J0 l k n)).locals,cv,Z]→
  K (.tuple #[S (o1 (J0 l k n)), .agg [S (o2 (J0 l k n)).name,pv,S (o2 (J0 l k n)).result, .bool (o2 (J0 l k n)).abs,I (o2 (J0 l k n)).locals,cv,Z].toArray, .bool (J0 l k n).isSome]) w'):
 Q0 P F.aE [v,S k,S n] w K:=Gc (by
 unfold Wd
 refine P3 hs fun b w1 σ1 E R a1=>?_
 refine X0B R.sat (ht.lift ⟨R.le⟩) ok.acy ok.len fun v1 w2 σ2 ax am=>?_
 have a5:=a1.step ax
 have bq:=a1.lt
 refine Q4a (R.trans ax) (am.mono R.bel.size) fun w3 ba a7 a0=>?_
 rw[List.reverse_reverse] at a0
 obtain ⟨σ3,ae,M,bi,ao⟩:=a0.keep a7
 have bk:=Cf l k
 have ay:v1.ownBlock≠some b:=fun e=>by have:=am.own e;omega
 have a2:Z9 σ3 w3 b [S [], .slice none 0 0,S [], .bool false,I 0, .slice none 0 0, .slice none 0 0]:=by
  have:=a5.kp ba ay
  exact ⟨(ao b fun e=>ay e.symm).trans this.1,this.2⟩
 refine X0 M ?_
 unfold J0 at h
 refine U4 (chain l k).length (fun i w'=> ∃H,Stp w σ w' H∧SLe σ3 H∧Z9 H w' b [S [], .slice none 0 0,S [], .bool false,I 0, .slice none 0 0, .slice none 0 0]∧((chain l k).take i).findSome? (fun c=>(E8 c n).map (c.name,·))=none) ⟨σ3,ae,SLe.refl _,a2,rfl⟩ fun i w5 d hi D=>?_
 obtain ⟨σ5,O,L,ap,y⟩:=D
 refine Z4 ?_
 refine Q6 (fun hh=>?_) (fun hh=>?_)
 ·have a:i<(chain l k).length:=by simpa using hh
  refine M6 (M.lift L) a fun p cells V z hr=>?_
  refine Z2 O.sat V z ?_
  refine Y5 O.sat (by rfl) z (Rep.one hr) fun q w6 σ6 B al=>?_
  refine Z2 B.sat al z ?_
  have az:=Cd (List.getElem_mem a)
  refine X1H B.sat (Rep.up B.le hr) (ok.sm _ az) fun pv cv Z w7 σ7 j ai=>?_
  refine Z7 (vs:=[_,_]) rfl ?_
  refine Z7 (vs:=[_,_]) rfl ?_
  refine Y5 j.sat (by rfl) rfl (Rep.one ai) fun q8 w8 σ8 u af=>?_
  have X:=((O.trans B).trans j).trans u
  have ar:=((ap.step B).step j).step u
  have A:=RMe_lift ai ⟨u.le⟩
  cases C:E8 (chain l k)[i] n with
  | some m=>
   rw[C] at A af
   (try simp only[C])
   refine J5 ?_
   obtain ⟨lv,fv,mv,rfl,g⟩:=hr
   refine U8 X.sat ?_
   refine X2 (.pointer (some (q.add 0))) (fun w E=>by rw[fa];exact X6 rfl) ?_
   refine X2 (S (chain l k)[i].name) (fun t w E e=>by rw[e];exact ld E.sat ((al.up j).up u) rfl (X6 rfl)) ?_
   refine W9 (fun v _=>v= .agg [S m.name,pv,S m.result, .bool m.abs,I m.locals,cv,Z].toArray) (fun _ _ _ h _=>h) (fun w E=>Z2 E.sat af rfl ⟨Below.refl _ _,rfl⟩) ?_
   rintro _ _ _ w9 aj rfl rfl rfl
   refine Qv (ar.step aj.stp) (X.trans aj.stp) E rfl rfl (Rep.one A) fun ac aw ah=>?_
   refine W6 ah rfl ?_
   rw[Xm (f:=fun c=>(E8 c n).map (c.name,·)) a y (by simp only[C];rfl)] at h
   exact h _ _ _ ac σ8 aw.stp A
  | none=>
   (try simp only[C])
   refine V0 ?_
   refine H3 ?_
   refine Y6 (by have:=ok.len;omega) a ⟨σ8,X,L.more ⟨fun b o e=>u.le _ _ (j.le _ _ (B.le _ _ e))⟩,ar,?_⟩
   rw[Xe a y];simp only[C];rfl
 ·have a: ¬i<(chain l k).length:=by simpa using hh
  rw[List.take_of_length_le (by omega)] at y
  rw[y] at h
  clear a2 ae hh
  refine X0 (M.lift L) ?_
  refine U4 (chain l k).length (fun i w'=> ∃H,Stp w σ w' H∧SLe σ3 H∧Z9 H w' b [S [], .slice none 0 0,S [], .bool false,I 0, .slice none 0 0, .slice none 0 0]∧((chain l k).take i).findSome? (fun c=>V2 l c n)=none) ⟨σ5,O,L,ap,rfl⟩ fun i w6 d hi D=>?_
  obtain ⟨σ6,Q,ad,av,y⟩:=D
  refine Z4 ?_
  refine Q6 (fun hh=>?_) (fun hh=>?_)
  ·have a:i<(chain l k).length:=by simpa using hh
   refine M6 (M.lift ad) a fun p cells V z hr=>?_
   refine Z2 Q.sat V z ?_
   refine Y5 Q.sat (by rfl) z (Rep.one hr) fun q w7 σ7 j a8=>?_
   refine Z2 j.sat a8 z ?_
   have N:=Q.trans j
   have a9:=X1y (List.getElem_mem a)
   refine X3x ok _ (Nat.lt_succ_self _) a9 j.sat (ht.lift ⟨N.le⟩) (Rep.up j.le hr) fun pv cv Z w8 σ8 u A=>?_
   refine Z7 (vs:=[_,_,_]) rfl ?_
   refine Z7 (vs:=[_,_,_]) rfl ?_
   refine Z7 (vs:=[_,_,_]) rfl ?_
   refine Y5 u.sat (by rfl) rfl (Rep.one A) fun q9 w9 σ9 J aq=>?_
   have Y:=(N.trans u).trans J
   have ag:=((av.step j).step u).step J
   have W:=RMe_lift A ⟨J.le⟩
   cases C:V2 l (chain l k)[i] n with
   | some r=>
    obtain ⟨s,m⟩:=r
    rw[C] at W aq
    (try simp only[C])
    refine J5 ?_
    refine U8 Y.sat ?_
    refine W9 (fun v _=>v= .agg [S m.name,pv,S m.result, .bool m.abs,I m.locals,cv,Z].toArray) (fun _ _ _ h _=>h) (fun w E=>Z2 E.sat aq rfl ⟨Below.refl _ _,rfl⟩) ?_
    rintro _ ac U rfl
    refine Qv (ag.step U.stp) (Y.trans U.stp) E rfl rfl (Rep.one W) fun bb ak an=>?_
    refine W6 an rfl ?_
    have:=Xm (f:=fun c=>V2 l c n) a y C
    unfold V2 at this
    rw[this] at h
    exact h _ _ _ bb σ9 ak.stp W
   | none=>
    (try simp only[C])
    refine V0 ?_
    refine H3 ?_
    refine Y6 (by have:=ok.len;omega) a ⟨σ9,Y,ad.more ⟨fun b o e=>J.le _ _ (u.le _ _ (j.le _ _ e))⟩,ag,?_⟩
    rw[Xe a y];exact C
  ·have a: ¬i<(chain l k).length:=by simpa using hh
   rw[List.take_of_length_le (by omega)] at y
   refine Hs ?_
   refine Qv av Q E rfl rfl (Rep.one (Qm (σ:=σ6))) fun w7 N a4=>?_
   refine W6 a4 rfl ?_
   unfold V2 at y
   rw[y] at h
   exact h _ _ _ w7 σ6 N.stp Qm)
theorem Q9Z {n:Q9} (hs:X4 w σ) (ht:Tab σ v l) (h: ∀w' σ',Stp w σ w' σ'→K (.bool (Zv l n)) w'):Q0 P F.bk [v,S n] w K:=Bn (by
 unfold Ur
 unfold Zv at h
 cases hd:lk l n with
 | none=>
  rw[hd] at h
  (repeat' (first | (with_reducible intro _) | (with_reducible refine W0 ?_) | (simp only[↓M2,M2,Mb,reduceIte]) | (with_reducible first | refine ld aS aL aR ?_ | refine Y0 aS aL aR ?_ | refine Z2 aS aL aR ?_ | refine X0 aL ?_ | refine V6 aR ?_ | refine Z1 aS ?_ | refine L5 aS aL ?_ | refine U0 aS aR ?_ | refine Y5 aS aR aR (Rep.one (by assumption)) ?_ | refine U6 aS aR aR aR ?_ | refine Fa au au au ?_ | (refine Z5 (fun hh=>?_) (fun hh=>?_)<;>(try simp only[hh,Bool.not_true,Bool.not_false,↓M2,M2,Mb,reduceIte])) | (refine Q6 (fun hh=>?_) (fun hh=>?_)<;>(try simp only[hh,Bool.not_true,Bool.not_false,↓M2,M2,Mb,reduceIte])))))
  all_goals exact aF
 | some d=>
  rw[hd] at h
  (repeat' (first | (with_reducible intro _) | (with_reducible refine W0 ?_) | (simp only[↓M2,M2,Mb,reduceIte]) | (with_reducible first | refine ld aS aL aR ?_ | refine Y0 aS aL aR ?_ | refine Z2 aS aL aR ?_ | refine X0 aL ?_ | refine V6 aR ?_ | refine Z1 aS ?_ | refine L5 aS aL ?_ | refine U0 aS aR ?_ | refine Y5 aS aR aR (Rep.one (by assumption)) ?_ | refine U6 aS aR aR aR ?_ | refine Ek au au au ?_ | refine Xg au au au ?_ | (refine Z5 (fun hh=>?_) (fun hh=>?_)<;>(try simp only[hh,Bool.not_true,Bool.not_false,↓M2,M2,Mb,reduceIte])) | (refine Q6 (fun hh=>?_) (fun hh=>?_)<;>(try simp only[hh,Bool.not_true,Bool.not_false,↓M2,M2,Mb,reduceIte])))))
  all_goals exact aF)
end Go.Proofs.YtfppjenblllfaaaGreatDoor

namespace Go.Kd
def brk (b:UInt8):Bool:=[(91:UInt8),93].contains b
def Q1n:Nat→Q9→Q9
 | 0,s=>s
 | n+1,s=>match s.getLast? with
  | some b=>if brk b then Q1n n (s.take (s.length-1)) else s
  | none=>s
def En (s:Q9):Q9:=Q1n s.length s
theorem Q8n: ∀(n m:Nat) (s:Q9),s.length≤n→s.length≤m→Q1n n s=Q1n m s:=by
 intro n
 induction n with
 | zero=>
  intro m s h _
  have:s=[]:=List.eq_nil_of_length_eq_zero (by omega)
  subst this
  cases m<;>rfl
 | succ n a=>
  intro m s h c
  cases m with
  | zero=>
   have:s=[]:=List.eq_nil_of_length_eq_zero (by omega)
   subst this;rfl
  | succ m=>
   simp only[Q1n]
   cases d:s.getLast? with
   | none=>rfl
   | some b=>
    simp only
    split
    ·exact a m _ (by rw[List.length_take];omega) (by rw[List.length_take];omega)
    ·rfl
theorem Q16 (s:Q9):En s=match s.getLast? with | some b=>if brk b then En (s.take (s.length-1)) else s | none=>s:=by
 unfold En
 cases d:s with
 | nil=>rfl
 | cons c r=>
  rw[←d]
  obtain ⟨n,e⟩: ∃n,s.length=n+1:=⟨r.length,by rw[d];rfl⟩
  have a:s.length-1=n:=by omega
  rw[e]
  simp only[Q1n,a]
  cases f:s.getLast? with
  | none=>rfl
  | some b=>
   simp only
   split
   ·rw[show n+1-1=n by omega];exact Q8n n (s.take n).length _ (by rw[List.length_take];omega) (Nat.le_refl _)
   ·rfl
theorem X0F {s:Q9} (h:name s=true): ∃b,s.getLast?=some b∧E9 b.toNat=true:=by
 cases s with
 | nil=>simp[name] at h
 | cons c r=>
  refine ⟨(c::r).getLast (by simp),List.getLast?_eq_some_getLast (by simp),?_⟩
  simp only[name,Bool.and_eq_true,List.all_eq_true] at h
  exact h.2 _ (List.getLast_mem _)
theorem X0w {b:UInt8} (h:E9 b.toNat=true):brk b=false:=by
 have c:b≠91:=by rintro rfl;revert h;decide
 have a:b≠93:=by rintro rfl;revert h;decide
 simp[brk,c,a]
theorem Mv {s:Q9} (h:(plain s||W7 s)=true):name s=true:=by
 simp only[Bool.or_eq_true] at h
 rcases h with h | h
 ·simp only[plain,Bool.or_eq_true,decide_eq_true_eq] at h
  rcases h with (h | h) | h<;>subst h<;>decide
 ·cases s with
  | nil=>simp[W7] at h
  | cons c r=>simp only[W7,Bool.and_eq_true] at h;exact h.1
end Go.Kd
namespace Go.Proofs.YtfppjenblllfaaaGreatDoor
open Go.Emb Go.RowKit Go.Kd Go.Hm
variable {w : World} {K : Value → World → Prop} {σ : Q4} {v : Value} {l : List Cla}
theorem X1f {s:Q9} (h:E1 s=true):En s=En (Kd.cutA s):=by
 have e:2≤s.length∧s.drop (s.length-2)=[91,93]:=by simpa [E1] using h
 obtain ⟨i,d⟩:=e
 have a:s=Kd.cutA s++[91,93]:=by unfold Kd.cutA;rw[←d,List.take_append_drop]
 have g:(Kd.cutA s).length+2=s.length:=by unfold Kd.cutA;rw[List.length_take];omega
 have b:s.getLast?=some 93:=by rw[a];simp
 have f:s.take (s.length-1)=Kd.cutA s++[91]:=by
  conv=>lhs;rw[a]
  rw[List.take_append,List.length_append]
  simp
  exact List.take_of_length_le (by omega)
 rw[Q16 s,b]
 simp only[show brk 93=true from rfl,if_true,f]
 rw[Q16]
 have c:(Kd.cutA s++[91]).getLast?=some 91:=by simp
 rw[c]
 simp only[show brk 91=true from rfl,if_true]
 congr 1
 simp
theorem Q9F {s:Q9}:(plain (base s).1||W7 (base s).1)=true→En s=(base s).1:=by
 have key: ∀(n:Nat) (s:Q9),s.length≤n→(plain (base s).1||W7 (base s).1)=true→En s=(base s).1:=by
  intro n
  induction n with
  | zero=>
   intro s h a
   have:s=[]:=List.eq_nil_of_length_eq_zero (by omega)
   subst this;rfl
  | succ n f=>
   intro s h a
   by_cases c:E1 s=true
   ·have d:base s=((base (Kd.cutA s)).1,(base (Kd.cutA s)).2+1):=by rw[Jr s,c];simp
    rw[d] at a⊢
    rw[X1f c]
    exact f _ (by have:=Qj c;omega) a
   ·have d:base s=(s,0):=by rw[Jr s,eq_false_of_ne_true c];simp
    rw[d] at a⊢
    obtain ⟨b,g,e⟩:=X0F (Mv a)
    rw[Q16,g]
    simp[X0w e]
 exact key _ s (Nat.le_refl _)
instance z_asciiSet:TZ P T.a5 256 256 (.agg (Array.replicate 256 (.bool false))):=⟨by kernel_rfl⟩
theorem Q6U (h: ∀w',Below w.heap.size w w'→K (.tuple #[.agg (Lib.setCells [91,93]), .bool true]) w'):Q0 P F.cg [S [91,93]] w K:=by
 refine Vn (fn:=Tryz.f88) Tryz.func88 (by kernel_rfl) (by kernel_rfl) (Calls.mono (Tryz.strings_makeASCIISet (fun w=>Yq z_asciiSet w) ⟨[91,93].toArray⟩ w (by decide) (by
  intro j b a
  have:b∈[(91:UInt8),93]:=List.mem_of_getElem? a
  simp at this;rcases this with rfl | rfl<;>decide)) ?_)
 rintro e w' ⟨rfl,rfl⟩
 exact h _ ((Below.refl _ _).alloc (Nat.le_refl _) _)
theorem Q2B {q:Addr} {b:UInt8} (a:X4 w σ) (c:Z0 σ q (Lib.setCells [91,93]).toList) (h:K (.bool (brk b)) w):Q0 P F.az [.pointer (some q), .int .u8 b.toNat] w K:=Nd (by
 unfold Qo
 rw[H7]
 have d:=b.toNat_lt
 rw[Q5G (by omega) (by omega)]
 refine ld a c ?_ h
 have:=Lib.setCells_at [91,93] b
 rw[←Array.getElem?_toList] at this
 simpa [brk] using this)
theorem Q2o {q:Addr} {s:Q9} (k:X4 w σ) (j:s.length≤Y9) (m:Z0 σ q (Lib.setCells [91,93]).toList) (h:K (S (En s)) w):Q0 P F.al [S s, .pointer (some q)] w K:=Ra (by
 unfold Ja
 refine W0 ?_
 refine Jo (fun x w'=>w'=w∧ ∃u:Q9,x=S u∧u.length≤Y9∧En u=En s) (fun x _=>(sOf x).length) ⟨rfl,s,rfl,j,rfl⟩ ?_
 rintro _ d _ ⟨rfl,u,rfl,e,g⟩
 have f:sOf (S u)=u:=by simp[sOf]
 simp only[f]
 refine Gm X7 ?_
 refine Ci ?_
 refine Q6 (fun hh=>?_) (fun hh=>?_)
 ·have n:0<u.length:=by simpa using hh
  have o:u.length≤9223372036854775807:=Nat.le_trans e (by decide)
  refine Gm X7 ?_
  refine Hu ⟨by omega,by omega⟩ ?_
  have i:((u.length:Int)-1).toNat=u.length-1:=by omega
  rw[Xk X7 (by omega) (by omega)]
  simp only[i]
  have b:u.getLast?=some (u[u.length-1]'(by omega)):=by rw[List.getLast?_eq_getElem?,List.getElem?_eq_getElem]
  have a:=Q16 u
  rw[b] at a
  simp only at a
  refine Q2B k m ?_
  cases c:brk (u[u.length-1]'(by omega)) with
  | true=>
   rw[c] at a
   simp only[↓M1,M1,Mb,reduceIte]
   rw[F3 (by omega) (by omega),T9 X7 (by omega) (by omega)]
   simp only[i]
   refine ⟨⟨trivial,_,rfl,by rw[List.length_take];omega,?_⟩,?_⟩
   ·rw[←g,a];simp
   ·have:sOf (S (u.take (u.length-1)))=u.take (u.length-1):=by simp[sOf]
    simp only[this,List.length_take];omega
  | false=>
   rw[c] at a
   simp only[↓M1,M1,Mb,reduceIte]
   intro _
   rw[←g,a] at h
   simpa using h
 ·have n: ¬0<u.length:=by simpa using hh
  have:u=[]:=List.eq_nil_of_length_eq_zero (by omega)
  subst this
  intro _
  rw[←g] at h
  exact h)
theorem Q7m {s:Q9} (hs:X4 w σ) (hl:s.length≤Y9) (h: ∀w' σ',Stp w σ w' σ'→K (S (En s)) w'):Q0 P F.bL [S s,S [91,93]] w K:=Ah (by
 unfold Ns
 by_cases hs0:s=[]
 ·subst hs0
  (repeat' (first | (with_reducible intro _) | (with_reducible refine W0 ?_) | (simp only[↓M2,M2,Mb,reduceIte]) | (with_reducible first | refine ld aS aL aR ?_ | refine Y0 aS aL aR ?_ | refine Z2 aS aL aR ?_ | refine X0 aL ?_ | refine V6 aR ?_ | refine Z1 aS ?_ | refine L5 aS aL ?_ | refine U0 aS aR ?_ | refine Y5 aS aR aR (Rep.one (by assumption)) ?_ | refine U6 aS aR aR aR ?_ | (refine Z5 (fun hh=>?_) (fun hh=>?_)<;>(try simp only[hh,Bool.not_true,Bool.not_false,↓M2,M2,Mb,reduceIte])) | (refine Q6 (fun hh=>?_) (fun hh=>?_)<;>(try simp only[hh,Bool.not_true,Bool.not_false,↓M2,M2,Mb,reduceIte])))))
  all_goals first | exact h _ _ (by (repeat (first | exact Stp.refl (by (first | assumption | exact Stp.sat (by assumption) | exact Hst.sat (by assumption))) | assumption | refine Stp.trans ?_ (by first | assumption | exact Hst.stp (by assumption))))) | (exfalso;simp_all)
 have d1:decide (s=[])=false:=decide_eq_false hs0
 simp only[d1,show decide (([91,93]:Q9)=[])=false from rfl,show decide ((([91,93]:Q9).length:Int)=1)=false from rfl,↓M1,M1,Mb,reduceIte]
 refine Q6U (L1 hs fun w1 σ1 hk1=>?_)
 simp only[↓M1,M1,Mb,reduceIte]
 have hsz:(Lib.setCells [91,93]).toList.length=256:=by rw[Array.length_toList];exact Lib.setCells_size _
 have hone: ∀u∈(Lib.setCells [91,93]).toList,u.oneCell'=true:=by
  have:=Lib.setCells_one [91,93]
  rw[Array.all_eq_true'] at this
  intro u hu;exact this u (by simpa using hu)
 have htr: ∀{w:World} {σ:Q4} {K:Value→World→Prop} {q:Addr},X4 w σ→Z0 σ q (Lib.setCells [91,93]).toList→K (S (En s)) w→Q0 P F.al [S s, .pointer (some q)] w K:=fun hs hq h=>Q2o hs hl hq h
 have hta:Lib.setCells [91,93]=(Lib.setCells [91,93]).toList.toArray:=Array.toArray_toList.symm
 generalize (Lib.setCells [91,93]).toList=cs at*
 rw[hta]
 refine Y5 hk1.sat (by show (Array.replicate 256 (Value.bool false)).size=256;exact Array.size_replicate) hsz hone fun q w2 σ2 hk2 hq=>?_
 refine htr hk2.sat hq ?_
 exact h _ _ (hk1.trans hk2))
theorem Sp {s:Q9} (hs:X4 w σ) (ht:Tab σ v l) (hl:s.length≤Y9) (h: ∀w' σ',Stp w σ w' σ'→K (.bool (R0 l s)) w'):Q0 P F.r [v,S s] w K:=Pz (by
 unfold Np
 unfold R0 at h
 refine Dg ?_
 refine Q6 (fun hh=>?_) (fun hh=>?_)
 ·have e:decide (s=C2)=true:=hh
  rw[e] at h
  exact h _ _ (Stp.refl hs)
 ·have e:decide (s=C2)=false:=hh
  rw[e] at h
  refine Q7m hs hl fun w1 σ1 hk1=>?_
  refine Yu s (Nat.le_trans hl (by decide)) (L1 hk1.sat fun w2 σ2 hk2=>?_)
  cases hr:right s with
  | false=>
   rw[hr] at h
   (repeat' (first | (with_reducible intro _) | (with_reducible refine W0 ?_) | (simp only[↓M2,M2,Mb,reduceIte]) | (with_reducible first | refine ld aS aL aR ?_ | refine Y0 aS aL aR ?_ | refine Z2 aS aL aR ?_ | refine X0 aL ?_ | refine V6 aR ?_ | refine Z1 aS ?_ | refine L5 aS aL ?_ | refine U0 aS aR ?_ | refine Y5 aS aR aR (Rep.one (by assumption)) ?_ | refine U6 aS aR aR aR ?_ | (refine Z5 (fun hh=>?_) (fun hh=>?_)<;>(try simp only[hh,Bool.not_true,Bool.not_false,↓M2,M2,Mb,reduceIte])) | (refine Q6 (fun hh=>?_) (fun hh=>?_)<;>(try simp only[hh,Bool.not_true,Bool.not_false,↓M2,M2,Mb,reduceIte])))))
   all_goals exact aF
  | true=>
   rw[hr] at h
   have hr2:(plain (base s).1||W7 (base s).1)=true:=by
    simp only[right,Bool.and_eq_true] at hr;exact hr.2
   rw[Q9F hr2]
   (repeat' (first | (with_reducible intro _) | (with_reducible refine W0 ?_) | (simp only[↓M2,M2,Mb,reduceIte]) | (with_reducible first | refine ld aS aL aR ?_ | refine Y0 aS aL aR ?_ | refine Z2 aS aL aR ?_ | refine X0 aL ?_ | refine V6 aR ?_ | refine Z1 aS ?_ | refine L5 aS aL ?_ | refine U0 aS aR ?_ | refine Y5 aS aR aR (Rep.one (by assumption)) ?_ | refine U6 aS aR aR aR ?_ | refine Jv _ ?_ | refine Q9n au au ?_ | (refine Z5 (fun hh=>?_) (fun hh=>?_)<;>(try simp only[hh,Bool.not_true,Bool.not_false,↓M2,M2,Mb,reduceIte])) | (refine Q6 (fun hh=>?_) (fun hh=>?_)<;>(try simp only[hh,Bool.not_true,Bool.not_false,↓M2,M2,Mb,reduceIte])))))
   all_goals exact aF)
end Go.Proofs.YtfppjenblllfaaaGreatDoor

namespace Go.Emb
open Go.RowKit Go.Hm
variable {P : Program} {w w0 w1 w' w'' : World} {K : Value → World → Prop} {σ σ0 σ1 σ' : Q4}
theorem Q4I (m:List (List UInt8×Value)) (k n:List UInt8) (v:Value):M9 (Yb m k v) n=if k=n then some v else M9 m n:=by
 induction m with
 | nil=>simp[Yb,M9]
 | cons p r b=>
  simp only[Yb]
  by_cases h:p.1=k
  ·rw[if_pos h]
   simp only[M9]
   by_cases a:k=n
   ·simp[a]
   ·rw[if_neg a,if_neg a,if_neg (by rw[h];exact a)]
  ·rw[if_neg h]
   simp only[M9]
   by_cases a:p.1=n
   ·rw[if_pos a,if_pos a,if_neg (by intro e;exact h (a.trans e.symm))]
   ·rw[if_neg a,if_neg a];exact b
theorem J6.shift {B sz:Nat} {e:TypeId} {v:Value} {xs:List (List UInt8)} (h:J6 B e sz X9 σ w v xs) (m: ∀k,v.ownBlock=some k→σ' k=none):J6 B e sz X9 σ' w v xs:=by
 obtain ⟨a,j,rfl,r,q,c,n⟩:=h
 refine ⟨a,j,rfl,r,q,fun b d=>⟨(c b d).1,(c b d).2.1,(c b d).2.2.1,m _ (by subst d;rfl)⟩,fun u=>?_⟩
 obtain ⟨g,i,f,rfl,t,y,o,s,p⟩:=n u
 exact ⟨g,i,f,rfl,t,m g rfl,o,s,p⟩
theorem Kpt.sat {D:Nat→Prop} (a:X4 w σ) (d:Kpt D w w') (c: ∀k,D k→σ k=none):X4 w' σ:=fun b o e=>by
 rw[d.block b (a.lt e) fun h=>by rw[c b h] at e;cases e];exact a b o e
theorem Nxt.kpt {D a:Nat→Prop} (h:Nxt D w σ w' σ') (b:Kpt a w' w'') (d: ∀k,a k→D k) (c: ∀k,a k→σ' k=none):Nxt D w σ w'' σ':=
 ⟨h.kp.trans (b.mono fun k _ h=>d k h),h.le,h.old,b.sat h.sat c⟩
theorem X3A {t H:TypeId} {e:TypeId} {by_:Nat} {z:Value} {cs:List Bool} [ts:TS P t e] [tz:TZ P e 1 by_ z] {B:Nat} {y:World} {d σ':Q4} {f u:Value} {xs:List (List UInt8)} {s:List UInt8}
 (C:J6 B e 1 X9 d y f xs) (hB:B≤y.heap.size) (O:J6 B e 1 X9 d w1 f xs) (q:Nxt (fun k=>f.ownBlock=some k) y d w1 σ') (W:Sl 1 X9 σ' u [s]) (V:(z.cells.size==1&&decide (0<1))=true)
 (j:(xs.length+1)*by_≤140737488355328) (M:xs.length+1≤1000000000000):
 X5 P .append [t,t] H cs [f,u] w1 (dk (Fh B e 1 X9 d f xs s) (VQa y.heap.size B e 1 X9 d f xs s) w1):=by
 have p: ∀k,f.ownBlock=some k→σ' k=none:=fun k c=>(q.old k (C.mem c).2.1).trans (C.mem c).2.2
 refine Q2N q.sat (Nat.le_trans hB q.kp.size) (O.shift p) W V (by simpa using j) (by simpa using M) fun J U A R r g=>?_
 have b:J6 B e 1 X9 d U J (xs++[s]):=r.shift fun k c=>by
  have:=(r.mem c).2.2
  cases hh:d k with
  | none=>rfl
  | some o=>rw[q.le.le _ _ hh] at this;cases this
 refine ⟨⟨A.mono fun k _ h=>h.1,fun h=>?_,fun a i D h=>?_⟩,b,?_⟩
 ·rcases g with ⟨a,i,n,m⟩ | ⟨j,_⟩
  ·rw[m] at b;rw[n];exact b.pre rfl
  ·exact h.below j
 ·rcases g with ⟨X,E,n,m⟩ | ⟨j,_⟩
  ·rw[n] at D;injection D with Q q2 L
   subst Q L
   rw[m] at b;exact b
  ·exact h.below j
 ·rcases g with ⟨a,i,n,m⟩ | ⟨j,N⟩
  ·exact .inl ⟨a,i,n,m⟩
  ·exact .inr ⟨fun k c=>Nat.le_trans q.kp.size (N k c),fun k c=>(C.mem c).2.1⟩
end Go.Emb
namespace Go.Hm
open Go.Kd
def Mc (l:List Cla) (n:Q9):List Cla:=(C4 l n).filterMap (lk l)
theorem Q6X {l:List Cla} (h: ∀c∈l,Qn c) (a:List Q9):weigh l a≤l.length*1000001:=by
 unfold weigh
 induction l with
 | nil=>simp
 | cons c r d=>
  have g:=d fun c b=>h c (by simp[b])
  have f:=(h c (by simp)).1
  simp only[List.map_cons,List.sum_cons,List.length_cons,Nat.add_mul]
  have e:(J9 c).length=c.like.length+1:=rfl
  split<;>omega
end Go.Hm
namespace Go.Proofs.YtfppjenblllfaaaGreatDoor
open Go.Emb Go.RowKit Go.Kd Go.Hm
variable {w : World} {K : Value → World → Prop} {σ : Q4} {v : Value} {l : List Cla}
theorem Q8h {β:Type} {n:Q9} {f:Value} (H:β→Cla→Bool×β) (s0:β) (Q:β→World→Prop) (D:Nat→Prop) (hs:X4 w σ) (ht:Tab σ v l) (hl:l.length≤100000) (bj: ∀c∈l,Qn c) (hn:n.length≤Y9)
 (hD: ∀k,D k→k<w.heap.size∧σ k=none) (an: ∀s w1 w2,Q s w1→(∀k,D k→w2.heap[k]? =w1.heap[k]?)→Q s w2) (h0:Q s0 w)
 (hf: ∀s c cs (w1:World) (σ1:Q4) (K:Value→World→Prop),SLe σ σ1→X4 w1 σ1→(∀k,D k→σ1 k=none)→Q s w1→V4 σ1 c cs→lk l c.name=some c→(∀w',Kpt D w1 w'→Q (H s c).2 w'→K (.bool (H s c).1) w')→Z3 P f [.agg cs.toArray] w1 K)
 (h: ∀w' σ',Nxt D w σ w' σ'→Q (J8 H s0 (Mc l n) 0).2 w'→K (.bool (J8 H s0 (Mc l n) 0).1.isSome) w'):Q0 P F.y [v,S n,f] w K:=Ku (by
 unfold Mq
 refine Xj (R:=X9) (sz:=1) (xs:=[n]) (Stp.refl hs) [S n] rfl rfl (by simp;rfl) rfl ⟨⟨rfl,hn⟩,trivial⟩ fun x0 w1 a7 bh _=>?_
 refine Q0f a7.sat fun r w2 hr Z ck=>?_
 have ca:=J6.of_acc (bh.up Z)
 have bs:=a7.trans Z
 have bk:w.heap.size≤r:=Nat.le_trans a7.bel.size hr
 have bq: ∀b,weigh l b≤100001000000:=fun b=>by
  have:=Q6X bj b
  have h2:l.length*1000001≤100000*1000001:=Nat.mul_le_mul_right _ hl
  omega
 refine Iy (fun d x w1=> ∃(C b:List Q9) (s:β) (σ1:Q4) (m:List (Q9×Value)),d=C.length+weigh l b∧d≤1+weigh l []∧Nxt D w σ w1 σ1∧J6 w.heap.size T.a 1 X9 σ1 w1 x C∧H0 σ1 w1 r m∧(∀k,(M9 m k).isSome=decide (k∈b))∧x.ownBlock≠some r∧Q s w1∧
  C4 l n=Ub (lk l) d C b∧(∃i,J8 H s0 (Mc l n) 0=J8 H s (((C4 l n).drop b.length).filterMap (lk l)) i)) (1+weigh l []) ?_ ?_
 ·refine ⟨[n],[],s0,σ,[],by simp,Nat.le_refl _,Nxt.of_stp bs,ca,ck,by simp[M9],?_,an _ _ _ h0 fun k o=>bs.bel.block k (hD k o).1,rfl,0,by simp[Mc]⟩
  intro e
  have:=bh.mem r e
  omega
 rintro a3 d x dd w3 ⟨C,b,s,σ3,m,hd,da,A,a2,ag,O,b7,aw,hv,i,y⟩ bf
 have cu:=bq []
 have ay:=A.sat
 obtain ⟨ax,B⟩:=Q1h (lk l) d C b
 rw[←hv] at B
 have ad:(C4 l n).drop b.length=ax:=by rw[B];simp
 rw[ad] at y
 refine Vi a2 ?_
 refine Ci ?_
 cases ae:C with
 | nil=>
  subst ae
  refine Q6 (fun hh=>absurd (of_decide_eq_true hh) (by simp)) (fun _=>?_)
  have:C4 l n=b:=by rw[hv];cases d<;>rfl
  have hp:ax=[]:=by rw[this] at B;simpa using B
  rw[hp] at y
  rw[y] at h
  exact h _ _ A aw
 | cons t g=>
  subst ae
  refine Q6 (fun _=>?_) (fun hh=>absurd (of_decide_eq_false hh) (by simp))
  simp only[List.length_cons] at hd
  refine Q3S (n:=0) a2 (by simp) fun a cs h1 h2 h3=>?_
  obtain ⟨rfl,cm⟩:=h3
  simp only[List.getElem_cons_zero] at h1 cm
  have af:=h1 0 _ rfl
  rw[add_zero] at af
  refine P8 af ?_
  refine X24 a2 1 (by simp) fun x' Y be=>?_
  simp only[List.drop_succ_cons,List.drop_zero] at Y
  have L:x'.ownBlock≠some r:=by
   rcases be with e | e<;>rw[e]
   ·exact b7
   ·simp
  rw[Q2j X7 ag.2 t]
  have b6:d=(g.length+weigh l b)+1:=by omega
  have p:=hv
  rw[b6] at p
  simp only[Ub] at p
  have skip:(lk l t=none∨t∈b)→C4 l n=Ub (lk l) (g.length+weigh l b) g b:=by
   rintro (e | e)
   ·rw[e] at p;exact p
   ·cases e2:lk l t with
    | none=>rw[e2] at p;exact p
    | some c=>rw[e2] at p;simp only[if_pos e] at p;exact p
  have ab:(lk l t=none∨t∈b)→a3 x' w3:=fun cd=>
   bf (g.length+weigh l b) x' w3 (by omega) ⟨g,b,s,σ3,m,rfl,by omega,A,Y,ag,O,L,aw,skip cd,i,by rw[ad];exact y⟩
  have a5:=ht.lift A.le
  have U:=O t
  cases b0:M9 m t with
  | some u=>
   rw[b0] at U
   have am:t∈b:=by simpa using U
   simp only[↓M2,M2,Mb,reduceIte]
   exact ab (.inr am)
  | none=>
   rw[b0] at U
   have am:t∉b:=by simpa using U
   simp only[↓M2,M2,Mb,reduceIte]
   cases J:lk l t with
   | none=>
    refine Fa ay a5 J ?_
    simp only[↓M2,M2,Mb,reduceIte]
    exact ab (.inl J)
   | some c=>
    obtain ⟨a1,bb,_⟩:=V1 J
    refine Ek ay a5 J ?_
    simp only[↓M2,M2,Mb,reduceIte]
    refine He X7 ag t (I 1) fun w4 bv cc=>?_
    have aa:Kpt (fun k=>k=r) w3 w4:=Kpt.of_upd bv rfl
    have cf:X4 w4 σ3:=aa.sat ay fun k o=>by rw[o];exact ag.1
    have bg:=Y.kp aa fun k o e=>L (e▸o)
    have ce:=an _ _ _ aw fun k o=>bv.block k (by have:=(hD k o).1;omega)
    have c5:r<w3.heap.size:=ag.lt
    refine Xg cf a5 J fun lv fv mv w5 σ5 bi f1 f2 f3 f4 f5 bm=>?_
    refine Y5 bi.sat (by rfl) rfl (Rep.one bm) fun q w6 M W av=>?_
    refine Z2 W.sat av rfl ?_
    have z:=bi.trans W
    have bx: ∀k,D k→k<w4.heap.size:=fun k o=>by
     have h1:=(hD k o).1
     have h2:=A.kp.size
     have h3:=aa.size
     omega
    have cg:=an _ _ _ ce fun k o=>z.bel.block k (bx k o)
    have a4:SLe σ M:=A.le.more ⟨z.le⟩
    have bc: ∀k,D k→M k=none:=fun k o=>by
     rw[z.old k (bx k o),A.old k (hD k o).1];exact (hD k o).2
    refine hf s c _ w6 M _ a4 W.sat bc cg (RCl_lift bm ⟨W.le⟩) (by rw[a1];exact J) fun w7 al bp=>?_
    have bz:X4 w7 M:=al.sat W.sat bc
    have aj:Nxt D w σ w7 M:=⟨((A.kp.more aa fun j e=>by rw[e];exact bk).trans (Kpt.of_below z.bel)).trans al,a4,fun k o=>by
     rw[z.old k (by have:=A.kp.size;have:=aa.size;omega)];exact A.old k o,bz⟩
    have ap: ∀k,w.heap.size≤k→ ¬D k:=fun k o e=>by have:=(hD k e).1;omega
    have V:=(bg.up z).kp al fun k o=>ap k ((bg.mem o).1)
    have bo:=(cc.up z).kp al (ap r bk)
    have bn: ∀k,(M9 (Yb m t (I 1)) k).isSome=decide (k∈b++[t]):=fun k=>by
     rw[Q4I]
     by_cases e:t=k
     ·subst e;simp
     ·rw[if_neg e,O k];simp[Ne.symm e]
    rw[J] at p
    simp only[if_neg am] at p
    obtain ⟨bl,a6⟩:=Q1h (lk l) (g.length+weigh l b) (g++J9 c) (b++[t])
    have br:ax=t::bl:=by
     have:=B.symm.trans (p.trans a6)
     simpa using this
    rw[br] at y
    simp only[List.filterMap_cons,J,J8] at y
    cases E:(H s c).1 with
    | true=>
     rw[E] at y
     simp only[if_true] at y
     refine J5 ?_
     have:=h w7 M aj
     rw[y] at this
     exact this bp
    | false=>
     rw[E] at y
     simp only[Bool.false_eq_true,if_false] at y
     refine V0 ?_
     have ao:w.heap.size≤w7.heap.size:=aj.kp.size
     have X: ∀k,x'.ownBlock=some k→M k=none:=fun k o=>(V.mem o).2.2
     have hw:=Ih l b c bb (by rw[a1];exact am)
     rw[a1] at hw
     have c8:=bq b
     have cr:g.length≤100001000001:=by omega
     have cq:=(bj c bb).1
     have cx:=bo.lt
     refine Q15 (Fh w.heap.size T.a 1 X9 M x' g c.super) (fun w1=>Kpt (fun k=>x'.ownBlock=some k) w7 w1∧X4 w1 M∧J6 w.heap.size T.a 1 X9 M w1 x' g)
      ⟨.of_below (Below.refl _ _).drew,bz.below (Below.refl _ _).drew,V.below (Below.refl _ _).drew⟩ (fun w1 w2 E ht=>⟨E.1.trans ht.1,ht.1.sat E.2.1 X,ht.2.1 E.2.2⟩) ?_
     refine X2 (.pointer (some (q.add 1))) (fun w E=>by rw[fa];exact ⟨Fh.refl,rfl⟩) ?_
     refine X2 (.pointer (some (q.add 2))) (fun w E=>by rw[fa];exact ⟨Fh.refl,rfl⟩) ?_
     refine X2 (S c.super) (fun t w E e=>by rw[e];exact ld E.2.1 av rfl ⟨Fh.refl,rfl⟩) ?_
     refine W9 (fun u w1=> ∃σ',Nxt (fun k=>x'.ownBlock=some k) w7 M w1 σ'∧Sl 1 X9 σ' u [c.super]) (fun u w1 w2 e ht=>by obtain ⟨σ',h1,h2⟩:=e;exact ⟨σ',h1.kpt ht.1 (fun _ o=>o) (fun k o=>(h1.old k (V.mem o).2.1).trans (X k o)),h2⟩) (fun t w1 E e=>?_) ?_
     ·rw[e]
      refine O4 (R:=X9) (sz:=1) E.2.1 [S c.super] [c.super] rfl rfl (by simp;rfl) rfl ⟨⟨rfl,f5⟩,trivial⟩ fun u w2 σ2 Z hu=>?_
      have b5:Nxt (fun k=>x'.ownBlock=some k) w7 M w1 M:=⟨E.1,SLe.refl _,fun _ _=>rfl,E.2.1⟩
      exact ⟨Fh.below Z.bel,σ2,b5.trans (Nxt.of_stp Z),hu⟩
     refine W9 (VQa w7.heap.size w.heap.size T.a 1 X9 M x' g c.super) (fun _ _ _ h1 ht=>h1.stable ht) (fun u w1 E e=>?_) ?_
     ·obtain ⟨σ',h1,h2⟩:=e
      exact X3A V ao E.2.2 h1 h2 rfl (by omega) (by omega)
     refine X2 lv (fun t w E e=>by rw[e];exact ld E.2.1 av rfl ⟨Fh.refl,rfl⟩) ?_
     rintro dc c3 dl dg cp c6 w8 N _ _ _ _ ⟨cb,bw⟩ rfl
     have ar:cp.ownBlock≠some r:=by
      rcases bw with ⟨a,b9,e1,e2⟩ | ⟨e1,_⟩
      ·rw[e2];rw[e1] at L;cases a<;>exact L
      ·intro e;have:=e1 r e;omega
     refine Q2N N.2.1 (Nat.le_trans ao N.1.size) cb (f1.up W) rfl (by rw[List.length_append,List.length_cons,List.length_nil];omega) (by rw[List.length_append,List.length_cons,List.length_nil];omega) fun bd w9 aq ch cj bu=>?_
     have b3:bd.ownBlock≠some r:=by
      rcases bu with ⟨a,b9,e1,e2⟩ | ⟨_,e1⟩
      ·rw[e2];rw[e1] at ar;cases a<;>exact ar
      ·intro e;have:=e1 r e;have:=N.1.size;omega
     have co:Nxt D w σ w9 M:=⟨(aj.kp.more N.1 fun j e=>(V.mem e).1).more aq fun j e=>e.2.1,a4,aj.old,ch⟩
     have b4:=(bo.kp N.1 L).kp aq fun e=>ar e.1
     have cl:=an _ w7 w9 bp fun k o=>by
      have h1:=(hD k o).1
      rw[aq.block k (by have:=N.1.size;omega) fun e=>by have:=e.2.1;omega,N.1.block k (by omega) fun e=>by have:=(V.mem e).1;omega]
     have cy:(g++J9 c).length=g.length+1+c.like.length:=by simp[J9];omega
     have cw:(J9 c).length=c.like.length+1:=rfl
     have az:Ub (lk l) (g.length+weigh l b) (g++J9 c) (b++[t])=Ub (lk l) ((g++J9 c).length+weigh l (b++[t])) (g++J9 c) (b++[t]):=by
      have:=X1b l ((g++J9 c).length+weigh l (b++[t])) (g++J9 c) (b++[t]) (Nat.le_refl _) (g.length+weigh l b-((g++J9 c).length+weigh l (b++[t])))
      rw[←this];congr 1;omega
     refine bf ((g++J9 c).length+weigh l (b++[t])) bd w9 (by omega) ⟨g++J9 c,b++[t],(H s c).2,M,_,rfl,by omega,co,?_,b4,bn,b3,cl,p.trans az,i+1,?_⟩
     ·have:g++J9 c=(g++[c.super])++c.like:=by simp[J9]
      rw[this];exact cj
     ·rw[y,B,br];simp)
end Go.Proofs.YtfppjenblllfaaaGreatDoor

namespace Go.Emb
open Go.RowKit Go.Hm
theorem Nxt.stp {w w':World} {σ a:Q4} (h:Nxt (fun _=>False) w σ w' a):Stp w σ w' a:=⟨h.kp.below fun _=>id,h.sat,h.le.le,h.old⟩
end Go.Emb
namespace Go.Hm
open Go.Kd Go.Emb
theorem Q4o {α:Type} (p:α→Bool): ∀(xs:List α) (i:Nat),(J8 (fun (_:Unit) x=>(p x,())) () xs i).1.isSome=xs.any p
 | [],_=>rfl
 | x::r,i=>by
  simp only[J8,List.any_cons]
  cases p x with
  | true=>simp
  | false=>simpa using Q4o p r (i+1)
theorem Q6P {l:List Cla} (n b:Q9):((Mc l n).any fun c=>decide (c.name=b))=(C4 l n).contains b:=by
 have key: ∀vs:List Q9,(∀x∈vs,∃c,lk l x=some c)→((vs.filterMap (lk l)).any fun c=>decide (c.name=b))=vs.contains b:=by
  intro vs
  induction vs with
  | nil=>intro _;rfl
  | cons x r f=>
   intro h
   obtain ⟨c,a⟩:=h x (by simp)
   rw[List.filterMap_cons,a]
   simp only[List.any_cons,List.contains_cons]
   rw[f fun y e=>h y (by simp[e]),(V1 a).1]
   congr 1
   rw[Bool.eq_iff_iff,beq_iff_eq,decide_eq_true_eq];exact ⟨Eq.symm,Eq.symm⟩
 exact key _ fun x d=>(Js.1 d).right
end Go.Hm
namespace Go.Proofs.YtfppjenblllfaaaGreatDoor
open Go.Emb Go.RowKit Go.Kd Go.Hm
variable {w : World} {K : Value → World → Prop} {σ : Q4} {v : Value} {l : List Cla}
theorem Q89 {n:Q9} {f:Value} (p:Cla→Bool) (hs:X4 w σ) (ht:Tab σ v l) (hl:l.length≤100000) (hsm: ∀c∈l,Qn c) (hn:n.length≤Y9)
 (hf: ∀c cs (w1:World) (σ1:Q4) (K:Value→World→Prop),SLe σ σ1→X4 w1 σ1→V4 σ1 c cs→(∀w' σ',Stp w1 σ1 w' σ'→K (.bool (p c)) w')→Z3 P f [.agg cs.toArray] w1 K)
 (h: ∀w' σ',Stp w σ w' σ'→K (.bool ((Mc l n).any p)) w'):Q0 P F.y [v,S n,f] w K:=by
 refine Q8h (fun (_:Unit) c=>(p c,())) () (fun _ _=>True) (fun _=>False) hs ht hl hsm hn (fun _ e=>e.elim) (fun _ _ _ _ _=>trivial) trivial (fun s c cs w1 σ1 K le hs1 _ _ hr _ hK=>hf c cs w1 σ1 K le hs1 hr fun w' σ' hk=>hK w' (.of_below hk.bel) trivial) fun w' σ' hn _=>?_
 rw[Q4o]
 exact h w' σ' hn.stp
theorem X1p {n b:Q9} {q:Addr} (hs:X4 w σ) (ht:Tab σ v l) (ok:Ok l) (hn:n.length≤Y9) (hq:Z0 σ q [S b]) (h: ∀w' σ',Stp w σ w' σ'→K (.bool ((C4 l n).contains b)) w'):
 Q0 P F.y [v,S n, .func (.func F.bF) #[] #[.pointer (some q)]] w K:=by
 refine Q89 (fun c=>decide (c.name=b)) hs ht ok.len ok.sm hn (fun c cs w1 σ1 K le hs1 hr hK=>X8 (Ko ?_)) (by rw[Q6P];exact h)
 obtain ⟨lv,fv,mv,rfl,_⟩:=hr
 unfold Ms
 have hq1:=hq.lift le
 refine Z1 hs1 fun a w2 σ2 hk2 ha2=>?_
 (repeat' (first | (with_reducible intro _) | (with_reducible refine W0 ?_) | (simp only[↓M2,M2,Mb,reduceIte]) | (with_reducible first | refine ld aS aL aR ?_ | refine Y0 aS aL aR ?_ | refine Z2 aS aL aR ?_ | refine X0 aL ?_ | refine V6 aR ?_ | refine Z1 aS ?_ | refine L5 aS aL ?_ | refine U0 aS aR ?_ | refine Y5 aS aR aR (Rep.one (by assumption)) ?_ | refine U6 aS aR aR aR ?_ | (refine Z5 (fun hh=>?_) (fun hh=>?_)<;>(try simp only[hh,Bool.not_true,Bool.not_false,↓M2,M2,Mb,reduceIte])) | (refine Q6 (fun hh=>?_) (fun hh=>?_)<;>(try simp only[hh,Bool.not_true,Bool.not_false,↓M2,M2,Mb,reduceIte])))))
 exact hK _ _ hk2
theorem Q5e {a b:Q9} (H:X4 w σ) (s:Tab σ v l) (ok:Ok l) (u:a.length≤Y9) (E:b.length≤Y9) (h: ∀w' D,Stp w σ w' D→K (.bool (O3 l a b)) w'):Q0 P F.ae [v,S a,S b] w K:=Q00 (by
 unfold Ej
 unfold O3 at h
 refine U0 H rfl fun q w1 σ1 k B=>?_
 refine Sp k.sat (s.lift ⟨k.le⟩) u fun O L d=>?_
 have m:=k.trans d
 cases A:R0 l a with
 | false=>
  simp only[A,↓M2,M2,Mb,reduceIte,Bool.not_false,Bool.true_or,if_true] at h⊢
  exact h _ _ m
 | true=>
  simp only[A,↓M2,M2,Mb,reduceIte,Bool.not_true,Bool.false_or] at h⊢
  refine Y0 d.sat (B.up d) rfl ?_
  refine Sp d.sat (s.lift ⟨m.le⟩) E fun M N e=>?_
  have c:=m.trans e
  cases z:R0 l b with
  | false=>
   simp only[z,↓M2,M2,Mb,reduceIte,Bool.not_false,if_true] at h⊢
   exact h _ _ c
  | true=>
   simp only[z,↓M2,M2,Mb,reduceIte,Bool.not_true,Bool.false_eq_true,if_false] at h⊢
   have j:=(B.up d).up e
   refine Y0 e.sat j rfl ?_
   refine Dg ?_
   by_cases g:a=b
   ·rw[if_pos g] at h
    simp only[decide_eq_true g,↓M2,M2,Mb,reduceIte]
    exact h _ _ c
   rw[if_neg g] at h
   simp only[decide_eq_false g,↓M2,M2,Mb,reduceIte]
   refine Jv a ?_
   cases C:plain a with
   | true=>
    simp only[C,↓M2,M2,Mb,reduceIte,Bool.true_or,if_true] at h⊢
    exact h _ _ c
   | false=>
    simp only[C,↓M2,M2,Mb,reduceIte,Bool.false_or] at h⊢
    refine Y0 e.sat j rfl ?_
    refine Jv b ?_
    cases y:plain b with
    | true=>
     simp only[y,↓M2,M2,Mb,reduceIte,if_true] at h⊢
     exact h _ _ c
    | false=>
     simp only[y,↓M2,M2,Mb,reduceIte,Bool.false_eq_true,if_false] at h⊢
     by_cases p:a=C2
     ·rw[if_pos p] at h
      have r:decide (a=[110,117,108,108])=true:=decide_eq_true p
      simp only[r,↓M2,M2,Mb,reduceIte]
      exact h _ _ c
     rw[if_neg p] at h
     have r:decide (a=[110,117,108,108])=false:=decide_eq_false p
     simp only[r,↓M2,M2,Mb,reduceIte]
     refine Q5w a (Nat.le_trans u (by decide)) (L1 e.sat fun Q J f=>?_)
     have i:=c.trans f
     have n:=j.up f
     refine I4 ?_
     by_cases o:elem a=[]
     ·rw[if_neg (by simpa using o)] at h
      simp only[decide_eq_true o,↓M2,M2,Mb,reduceIte]
      exact X1p f.sat (s.lift ⟨i.le⟩) ok u n fun U R t=>h _ _ (i.trans t)
     ·rw[if_pos o] at h
      simp only[decide_eq_false o,↓M2,M2,Mb,reduceIte]
      refine Y0 f.sat n rfl ?_
      refine Dg ?_
      exact h _ _ i)
theorem Q9I {a b:Q9} (Y:X4 w σ) (p:Tab σ v l) (ok:Ok l) (z:a.length≤Y9) (y:b.length≤Y9) (h: ∀w' C,Stp w σ w' C→K (S (I3 l a b)) w'):Q0 P F.aN [v,S a,S b] w K:=Tl (by
 unfold Nu
 unfold I3 at h
 refine Q5e Y p ok z y fun w1 σ1 k=>?_
 cases Q:O3 l a b with
 | true=>
  simp only[Q,↓M2,M2,Mb,reduceIte,if_true] at h⊢
  exact h _ _ k
 | false=>
  simp only[Q,↓M2,M2,Mb,reduceIte,Bool.false_eq_true,if_false] at h⊢
  refine Q5e k.sat (p.lift ⟨k.le⟩) ok y z fun w2 σ2 r=>?_
  have o:=k.trans r
  cases O:O3 l b a with
  | true=>
   simp only[O,↓M2,M2,Mb,reduceIte,if_true] at h⊢
   exact h _ _ o
  | false=>
   simp only[O,↓M2,M2,Mb,reduceIte,Bool.false_eq_true,if_false] at h⊢
   refine Sp r.sat (p.lift ⟨o.le⟩) z fun w3 σ3 u=>?_
   have n:=o.trans u
   cases U:R0 l a with
   | false=>
    simp only[U,↓M2,M2,Mb,reduceIte,Bool.not_false,Bool.true_or,if_true] at h⊢
    exact h _ _ n
   | true=>
    simp only[U,↓M2,M2,Mb,reduceIte,Bool.not_true,Bool.false_or] at h⊢
    refine Sp u.sat (p.lift ⟨n.le⟩) y fun w4 W A=>?_
    have g:=n.trans A
    cases N:R0 l b with
    | false=>
     simp only[N,↓M2,M2,Mb,reduceIte,Bool.not_false,Bool.true_or,if_true] at h⊢
     exact h _ _ g
    | true=>
     simp only[N,↓M2,M2,Mb,reduceIte,Bool.not_true,Bool.false_or] at h⊢
     refine Jv a ?_
     cases L:plain a with
     | true=>
      simp only[L,↓M2,M2,Mb,reduceIte,Bool.true_or,if_true] at h⊢
      exact h _ _ g
     | false=>
      simp only[L,↓M2,M2,Mb,reduceIte,Bool.false_or] at h⊢
      refine Jv b ?_
      cases M:plain b with
      | true=>
       simp only[M,↓M2,M2,Mb,reduceIte,if_true] at h⊢
       exact h _ _ g
      | false=>
       simp only[M,↓M2,M2,Mb,reduceIte,Bool.false_eq_true,if_false] at h⊢
       refine Iy (fun d x w'=> ∃(s:Q9) (C:Q4),x=S s∧s.length≤Y9∧Stp w σ w' C∧d=(chain l s).length∧(chain l a).find? (fun c=>O3 l b c.name)=(chain l s).find? fun c=>O3 l b c.name) _ ⟨a,W,rfl,z,g,rfl,rfl⟩ ?_
       rintro E d x dd w5 ⟨s,σ5,rfl,B,f,rfl,e⟩ D
       have m:=p.lift ⟨f.le⟩
       cases q:lk l s with
       | none=>
        refine Fa f.sat m q ?_
        refine V0 ?_
        rw[T7 q] at e
        rw[e] at h
        exact h _ _ f
       | some c=>
        have t:=(V1 q).1
        have i:=I6 ok.acy s
        rw[q] at i
        simp only at i
        rw[i,List.find?_cons,t] at e
        refine Ek f.sat m q ?_
        refine J5 ?_
        refine Q5e f.sat m ok y B fun w6 σ6 J=>?_
        have j:=f.trans J
        cases R:O3 l b s with
        | true=>
         rw[R] at e
         simp only at e
         refine J5 ?_
         rw[e] at h
         have:=h _ _ j
         simp only[t] at this
         exact this
        | false=>
         rw[R] at e
         simp only at e
         refine V0 ?_
         refine Xg j.sat (p.lift ⟨j.le⟩) q fun lv fv mv w7 V H f1 f2 f3 Z X hr=>?_
         refine V6 (v:=S c.super) rfl ?_
         exact D _ _ _ (by rw[i];simp) ⟨c.super,V,rfl,X,j.trans H,rfl,e⟩)
theorem X2c {c:Cla} {cs:List Value} (hs:X4 w σ) (ht:Tab σ v l) (hl:l.length≤100000) (hsm: ∀c∈l,Qn c) (hc:V4 σ c cs) (h: ∀w' σ',Stp w σ w' σ'→K (.bool (K0 l c)) w'):Q0 P F.bw [v, .agg cs.toArray] w K:=Km (by
 obtain ⟨lv,fv,mv,rfl,g1,g2,g3,g4,g5⟩:=hc
 unfold La
 obtain ⟨a,_,_,_,rfl,_⟩:=ht.ex
 refine U0 hs rfl fun q w1 σ1 hk1 hq=>?_
 refine Z1 hk1.sat fun q2 w2 σ2 hk2 hq2=>?_
 rw[Xd,fa]
 have hS2:=hk1.trans hk2
 have back: ∀{n:Q9} {w3:World} {σ3:Q4} {K:Value→World→Prop},SLe σ2 σ3→X4 w3 σ3→n.length≤Y9→(∀w' σ',Stp w3 σ3 w' σ'→K (.bool ((C4 l n).contains c.name)) w')→
  Z3 P (.func (.func F.bj) #[] #[.pointer (some q), .pointer (some q2)]) [S n] w3 K:=by
  intro n w3 σ3 K le hs3 hn hK
  refine X8 (Be ?_)
  unfold Vd
  refine Y0 hs3 ((hq.up hk2).lift le) rfl ?_
  rw[Xd]
  have le3:SLe σ σ3:=SLe.more ⟨hS2.le⟩ le
  refine Q89 (fun d=>decide (d.name=c.name)) hs3 (ht.lift le3) hl hsm hn (fun d ds w4 σ4 K le4 hs4 hr hK=>X8 (Rq ?_)) (by rw[Q6P];exact hK)
  obtain ⟨lv,fv,mv,rfl,_⟩:=hr
  unfold Zn
  have hq4:=(hq2.lift le).lift le4
  refine Z1 hs4 fun a w5 σ5 hk5 ha5=>?_
  (repeat' (first | (with_reducible intro _) | (with_reducible refine W0 ?_) | (simp only[↓M2,M2,Mb,reduceIte]) | (with_reducible first | refine ld aS aL aR ?_ | refine Y0 aS aL aR ?_ | refine Z2 aS aL aR ?_ | refine X0 aL ?_ | refine V6 aR ?_ | refine Z1 aS ?_ | refine L5 aS aL ?_ | refine U0 aS aR ?_ | refine Y5 aS aR aR (Rep.one (by assumption)) ?_ | refine U6 aS aR aR aR ?_ | (refine Z5 (fun hh=>?_) (fun hh=>?_)<;>(try simp only[hh,Bool.not_true,Bool.not_false,↓M2,M2,Mb,reduceIte])) | (refine Q6 (fun hh=>?_) (fun hh=>?_)<;>(try simp only[hh,Bool.not_true,Bool.not_false,↓M2,M2,Mb,reduceIte])))))
  exact hK _ _ hk5
 refine ld hk2.sat hq2 rfl ?_
 unfold K0 at h
 simp only[J9,List.any_cons] at h
 refine back (SLe.refl _) hk2.sat g5 fun w3 σ3 hk3=>?_
 cases e1:(C4 l c.super).contains c.name with
 | true=>
  rw[e1] at h
  simp only[↓M2,M2,Mb,reduceIte]
  exact h _ _ (hS2.trans hk3)
 | false=>
  rw[e1,Bool.false_or] at h
  simp only[↓M2,M2,Mb,reduceIte]
  refine ld hk3.sat (hq2.up hk3) rfl ?_
  refine I2 (fun n=>(C4 l n).contains c.name) hk3.sat (((g1.up hk1).up hk2).up hk3) (fun x w4 K _ hs4 hx hK=>back ⟨hk3.le⟩ hs4 hx fun w' σ' hk=>hK _ hk.bel) fun w4 hb=>?_
  (try simp only[↓M2,M2,Mb,reduceIte])
  exact h _ _ ((hS2.trans hk3).trans (Stp.of_below hk3.sat hb)))
end Go.Proofs.YtfppjenblllfaaaGreatDoor

namespace Go.Emb
open Go.RowKit Go.Hm
variable {P : Program} {w w0 w1 w' w'' : World} {K : Value → World → Prop} {σ σ0 σ1 σ' : Q4}
theorem Sl.at {α:Type} {R:Q4→α→List Value→Prop} {sz:Nat} {v:Value} {xs:List α} (h:Sl sz R σ v xs) {i:Nat} (d:i<xs.length):
 ∃p cs,Z0 σ p cs∧cs.length=sz∧R σ xs[i] cs∧ ∀{P:Program} {t e:TypeId} {by_:Nat} {z:Value} {w:World} {K:Value→World→Prop} [TS P t e] [TZ P e sz by_ z],K (.pointer (some p)) w→indexAddr P t v (I i) w K:=by
 obtain ⟨a,j,rfl,q,o,n,m⟩:=h
 cases a with
 | none=>have:=n rfl;omega
 | some b=>
  obtain ⟨cs,g,k,f⟩:=(m b rfl).2 i xs[i] (by simp[d])
  refine ⟨_,cs,g,k,f,?_⟩
  intro P t e by_ z w K _ _ c
  rw[Rf (by omega) (by omega)]
  simpa using c
abbrev ints (xs:List Nat):List Int:=xs.map fun n:Nat=>(n:Int)
theorem V3.grow {α:Type} {R:Q4→α→List Value→Prop} [hr:Rep R] {B sz:Nat} {e:TypeId} {v:Value} {xs:List α} (h:V3 B e sz R σ w v xs) (c:SLe σ σ') (d: ∀k,v.ownBlock=some k→σ' k=none):V3 B e sz R σ' w v xs:=by
 obtain ⟨cells,f,g,a⟩:=h
 exact ⟨cells,f,d,fun i x b=>hr.up c.le (a i x b)⟩
end Go.Emb
namespace Go.Proofs.YtfppjenblllfaaaGreatDoor
open Go.Emb Go.RowKit Go.Kd Go.Hm
variable {w : World} {K : Value → World → Prop} {σ : Q4} {v : Value} {l : List Cla}
theorem Q7n {B i:Nat} {xs:List Nat} {x:Value} (m:J6 B T.e 1 Vp σ w x (ints xs)) (h:K (.bool (decide (i∈xs))) w):Q0 P F.aF [x,I i] w K:=Di (by
 unfold Xr
 have j:xs.length≤9223372036854775807:=by
  obtain ⟨a,t,_,o,p,_⟩:=m
  simp only[maxLen,ints,List.length_map] at p o;omega
 refine Ru ?_
 unfold Zp
 refine Vi m ?_
 have g:(ints xs).length=xs.length:=by simp
 refine U4 xs.length (fun n w'=>w'=w∧i∉xs.take n) ⟨rfl,by simp⟩ fun n w' d u f=>?_
 obtain ⟨rfl,f⟩:=f
 rw[g]
 refine Z4 ?_
 refine Q6 (fun hh=>?_) (fun hh=>?_)
 ·have b:n<xs.length:=by simpa using hh
  refine Q3S m (by rw[g];exact b) fun a cs o p s=>?_
  obtain ⟨rfl,_⟩:=s
  have q:=o 0 _ rfl
  rw[add_zero] at q
  refine P8 q ?_
  simp only[List.getElem_map]
  refine Jz ?_
  refine Q6 (fun c=>?_) (fun c=>?_)
  ·have e:(i:Int)=xs[n]:=by simpa using c
   have:i=xs[n]:=by omega
   have k:decide (i∈xs)=true:=decide_eq_true (by rw[this];exact List.getElem_mem b)
   rw[k] at h
   refine G1 ?_
   rw[decide_eq_true (by omega:(0:Int)≤n)]
   exact h
  ·have e: ¬(i:Int)=xs[n]:=by simpa using c
   refine H3 ?_
   refine Y6 j b ⟨rfl,?_⟩
   rw[List.take_add_one,List.getElem?_eq_getElem b]
   simp only[Option.toList_some,List.mem_append,List.mem_singleton,not_or]
   exact ⟨f,fun r=>e (by rw[r])⟩
 ·have b: ¬n<xs.length:=by simpa using hh
  rw[List.take_of_length_le (by omega)] at f
  rw[decide_eq_false f] at h
  refine G1 ?_
  exact h)
theorem X3s {w0:World} {σ0 σb:Q4} {pf pt pw:Addr} {C frm:Nat} (ha:Yz l) (ho:K4 l) (hl:l.length≤100000) (br: ∀c∈l,Qn c) (hf:0<frm) (ht:Tab σb v l) (a1:Z0 σb pf [I frm]) (b7:Z0 σb pt [v])
 (bg:Z0 σb pw [.func (.func F.a0) #[] #[.pointer (some pf), .pointer (some ⟨C,0,none⟩), .pointer (some pt), .pointer (some pw)]]) (b6:w0.heap.size≤C):
 ∀(k:Nat) {i:Nat} {out:List Nat} {x:Value} {w1:World} {σ1:Q4} {K:Value→World→Prop},i<l.length→(i<frm∨I5 l (Y3 l i)<k)→SLe σb σ1→Stp w0 σ0 w1 σ1→Z9 σ1 w1 C [x]→V3 w0.heap.size T.e 1 Vp σ1 w1 x (ints out)→x.ownBlock≠some C→Few l out→
  (∀w2 σ2 x',SLe σ1 σ2→Stp w0 σ0 w2 σ2→Z9 σ2 w2 C [x']→V3 w0.heap.size T.e 1 Vp σ2 w2 x' (ints (Xl l frm out i))→x'.ownBlock≠some C→K (.tuple #[]) w2)→
  Z3 P (.func (.func F.a0) #[] #[.pointer (some pf), .pointer (some ⟨C,0,none⟩), .pointer (some pt), .pointer (some pw)]) [I i] w1 K:=by
 obtain ⟨a,lv,r,m,rfl,t1,t2,t3,t4⟩:=ht.ex
 intro k
 induction k with
 | zero=>
  intro i out x w1 σ1 K hi hk W N hm f hx Y h
  have z:i<frm:=hk.resolve_right (by omega)
  refine X8 (Uz ?_)
  unfold Qk
  refine Y0 N.sat (a1.lift W) rfl ?_
  refine Z4 ?_
  rw[decide_eq_true (by omega:(i:Int)<frm)]
  simp only[↓M2,M2,Mb,reduceIte]
  have:Xl l frm out i=out:=Xw _ _ z
  rw[this] at h
  exact h _ _ _ (SLe.refl _) N hm f hx
 | succ k ih=>
  intro i out x w1 σ1 K hi hk W N hm f hx Y h
  refine X8 (Uz ?_)
  unfold Qk
  refine Y0 N.sat (a1.lift W) rfl ?_
  refine Z4 ?_
  have y:=Q85 ha ho hf out hi
  by_cases z:i<frm
  ·rw[decide_eq_true (by omega:(i:Int)<frm)]
   simp only[↓M2,M2,Mb,reduceIte]
   rw[if_pos z] at y
   rw[y] at h
   exact h _ _ _ (SLe.refl _) N hm f hx
  rw[if_neg z] at y
  rw[decide_eq_false (by omega: ¬(i:Int)<frm)]
  simp only[↓M2,M2,Mb,reduceIte]
  refine X0I hm rfl ?_
  refine Q7n (J6.of_acc f) ?_
  by_cases X:i∈out
  ·rw[if_pos X] at y
   rw[y] at h
   simp only[decide_eq_true X,↓M2,M2,Mb,reduceIte]
   exact h _ _ _ (SLe.refl _) N hm f hx
  rw[if_neg X] at y
  simp only[decide_eq_false X,↓M2,M2,Mb,reduceIte]
  have cx:I5 l (Y3 l i)<k+1:=hk.resolve_left z
  have t1:=t1.lift W
  have t2:=t2.lift W
  have t3:=t3.lift W
  have L:=b7.lift W
  obtain ⟨p,cs,aq,ci,bm,a8⟩:=t2.at hi
  obtain ⟨bv,fv,mv,rfl,f1,f2,f3,f4,f5⟩:=bm
  have ap:l.getD i Cla.zero=l[i]:=by rw[List.getD_eq_getElem?_getD,List.getElem?_eq_getElem hi];rfl
  have c8:=hm.lt
  refine U8 N.sat ?_
  refine X2 (.pointer (some a)) (fun w b=>Y0 b.sat L rfl (X6 rfl)) ?_
  refine X2 (.pointer (some a)) (fun t w b e=>by rw[e,H7];exact X6 rfl) ?_
  refine X2 (.pointer (some (a.add 0))) (fun t w b e=>by rw[e,fa];exact X6 rfl) ?_
  refine X2 lv (fun t w b e=>by rw[e];exact ld b.sat t1 rfl (X6 rfl)) ?_
  refine X2 (.pointer (some p)) (fun t w b e=>by rw[e];exact a8 (X6 rfl)) ?_
  refine X2 (.pointer (some (p.add 1))) (fun t w b e=>by rw[e,fa];exact X6 rfl) ?_
  refine X2 (S l[i].super) (fun t w b e=>by rw[e];exact ld b.sat aq rfl (X6 rfl)) ?_
  refine W9 (fun u w=>X4 w σ1∧V3 w0.heap.size T.a 1 X9 σ1 w u [l[i].super]∧ ∀k,u.ownBlock=some k→w1.heap.size≤k) (fun u w2 w3 h b=>⟨h.1.below b,h.2.1.up (Stp.of_below h.1 b),h.2.2⟩) (fun t w b e=>?_) ?_
  ·rw[e]
   refine Xj (R:=X9) (sz:=1) (xs:=[l[i].super]) (N.trans b.stp) [S l[i].super] rfl rfl (by simp;rfl) rfl ⟨⟨rfl,f5⟩,trivial⟩ fun u w2 a0 hu bl=>?_
   exact ⟨a0.bel,a0.sat,hu,fun k hk=>Nat.le_trans b.stp.bel.size (bl k hk)⟩
  refine X2 (.pointer (some a)) (fun w b=>Y0 b.sat L rfl (X6 rfl)) ?_
  refine X2 (.pointer (some a)) (fun t w b e=>by rw[e,H7];exact X6 rfl) ?_
  refine X2 (.pointer (some (a.add 0))) (fun t w b e=>by rw[e,fa];exact X6 rfl) ?_
  refine X2 lv (fun t w b e=>by rw[e];exact ld b.sat t1 rfl (X6 rfl)) ?_
  refine X2 (.pointer (some p)) (fun t w b e=>by rw[e];exact a8 (X6 rfl)) ?_
  refine X2 (.pointer (some (p.add 2))) (fun t w b e=>by rw[e,fa];exact X6 rfl) ?_
  refine X2 bv (fun t w b e=>by rw[e];exact ld b.sat aq rfl (X6 rfl)) ?_
  rintro ct dj cp cu dc dm cw dg c3 c5 c4 ch cn da cz w2 U _ _ _ _ _ _ _ ⟨co,b8,M⟩ _ _ _ _ _ _ bp
  subst bp
  have b9:=N.trans U.stp
  have cb:=(br _ (List.getElem_mem hi)).1
  have a7: ∀j,x.ownBlock=some j→j<w1.heap.size:=fun j A=>(f.mem j A).2.1
  have b4:=hm.step U.stp
  have ac:=f.step U.stp
  refine Hp b9 b8 f1 rfl (by simp only[List.length_cons,List.length_nil];omega) (by simp only[List.length_cons,List.length_nil];omega) fun ax w3 a5 b5 bk bb=>?_
  have Z: ∀j,ax.ownBlock=some j→w1.heap.size≤j:=fun j A=>by
   rcases bb with e | e
   ·exact M j (e▸A)
   ·exact Nat.le_trans U.stp.bel.size (e j A)
  have bc:=b4.nx a5 fun e=>by have:=M _ e;omega
  have E:=ac.nx a5 fun j A e=>by have:=M _ e;have:=a7 j A;omega
  obtain ⟨σ4,b3,Q,a4,aa⟩:=bk.keep b5
  have Q:Sl 1 X9 σ4 ax (J9 l[i]):=Q
  have bj:Z9 σ4 w3 C [x]:=⟨(aa C fun e=>by have:=Z C e.symm;omega).trans bc.1,bc.2⟩
  have al:V3 w0.heap.size T.e 1 Vp σ4 w3 x (ints out):=E.grow ⟨a4⟩ fun j A=>(aa j fun e=>by have:=Z j e.symm;have:=a7 j A;omega).trans (E.mem j A).2.2
  have ar:SLe σ1 σ4:=⟨a4⟩
  refine X0 Q ?_
  refine U4 (J9 l[i]).length (fun n w'=> ∃σ' x',SLe σ4 σ'∧Stp w0 σ0 w' σ'∧Z9 σ' w' C [x']∧V3 w0.heap.size T.e 1 Vp σ' w' x' (ints (((J9 l[i]).take n).foldl (fun out u=>Xl l frm out ((Y7 l u).getD 0)) out))∧x'.ownBlock≠some C∧Few l (((J9 l[i]).take n).foldl (fun out u=>Xl l frm out ((Y7 l u).getD 0)) out))
   ⟨σ4,x,SLe.refl _,b3,bj,al,hx,Y⟩ fun n w5 d hn az=>?_
  obtain ⟨σ5,x5,ab,V,O,B,ah,o⟩:=az
  refine Z4 ?_
  have s:=ar.more ab
  refine Q6 (fun hh=>?_) (fun hh=>?_)
  ·have J:n<(J9 l[i]).length:=by simpa using hh
   refine Zw (Q.lift ab) J fun q hq c0=>?_
   refine Y0 V.sat hq rfl ?_
   have e1:((J9 l[i]).take (n+1)).foldl (fun out u=>Xl l frm out ((Y7 l u).getD 0)) out=Xl l frm (((J9 l[i]).take n).foldl (fun out u=>Xl l frm out ((Y7 l u).getD 0)) out) ((Y7 l (J9 l[i])[n]).getD 0):=by
    rw[List.take_add_one,List.getElem?_eq_getElem J,List.foldl_append];rfl
   refine U8 V.sat ?_
   refine X2 _ (fun w b=>Y0 b.sat (bg.lift (W.more s)) rfl (X6 rfl)) ?_
   refine X2 (.pointer (some a)) (fun w b=>Y0 b.sat (L.lift s) rfl (X6 rfl)) ?_
   refine X2 (.pointer (some a)) (fun t w b e=>by rw[e,H7];exact X6 rfl) ?_
   refine X2 (.pointer (some (a.add 1))) (fun t w b e=>by rw[e,fa];exact X6 rfl) ?_
   refine X2 (.map (some r)) (fun t w b e=>by rw[e];exact ld b.sat (t1.lift s) rfl (X6 rfl)) ?_
   refine X2 (I ((Y7 l (J9 l[i])[n]).getD 0:Nat)) (fun t w b e=>by
    rw[e,Q4x X7 ((t3.lift s).is b.sat) _,t4]
    cases Y7 l (J9 l[i])[n]<;>exact X6 rfl) ?_
   rintro c1 dh di de dd cq w6 ae rfl _ _ _ _ rfl
   have cl:l.length≤9223372036854775807:=by omega
   refine ih ?_ ?_ (W.more s) (V.trans ae.stp) (O.step ae.stp) (B.step ae.stp) ah o fun w7 σ7 x7 bx bq b1 ai cc=>?_
   ·cases A:Y7 l (J9 l[i])[n] with
    | none=>simp only[Option.getD_none];omega
    | some j=>exact (B1 A).1
   ·cases A:Y7 l (J9 l[i])[n] with
    | none=>exact .inl hf
    | some j=>
     right
     have:=Q1d ha ho hi (u:=(J9 l[i])[n]) (by rw[ap];exact List.getElem_mem J) A
     simp only[Option.getD_some];omega
   ·refine H3 ?_
    refine Y6 (by have:(J9 l[i]).length=l[i].like.length+1:=rfl;omega) J ⟨σ7,x7,ab.more bx,bq,b1,?_,cc,?_⟩
    ·rw[e1];exact ai
    ·rw[e1]
     cases A:Y7 l (J9 l[i])[n] with
     | none=>simp only[Option.getD_none];rw[show Xl l frm _ 0=_ from Xw _ _ hf];exact o
     | some j=>exact Pc ha ho hf _ _ _ (B1 A).1 o
  ·have J: ¬n<(J9 l[i]).length:=by simpa using hh
   rw[List.take_of_length_le (by omega)] at B o
   rw[ap] at y
   refine X0I O rfl ?_
   have cv:=o.len
   refine Us (x:=(i:Int)) V B ⟨rfl,by omega,by omega⟩ rfl rfl rfl (by rw[List.length_map];omega) (by rw[List.length_map];omega) fun u x8 w8 σ8 a3 bu H a9=>?_
   have ay:=O.nx a3 ah
   have a6:x8.ownBlock≠some C:=fun e=>by
    rcases a9 with e2 | e2
    ·exact ah (e2▸e)
    ·have:=e2 C e;have:=O.lt;omega
   have a2:x8.cells= #[x8]∧x8.oneCell'=true:=by
    obtain ⟨cells,h1,_⟩:=H
    rcases h1.2 with ⟨rfl,_⟩ | ⟨g,cm,c9,rfl,_⟩<;>exact ⟨rfl,rfl⟩
   refine st0 ay (by simp) a2.1 a2.2 fun w9 aw bf=>?_
   have b0:=aw.stp bu b6 ay.1
   have ag:V3 w0.heap.size T.e 1 Vp σ8 w9 x8 (ints (Xl l frm out i)):=by
    rw[y]
    have:=H.kp (Kpt.of_upd (D:=fun k=>k=C) aw rfl) fun k hk e=>a6 (e▸hk)
    simpa [ints] using this
   exact h w9 σ8 x8 (s.more a3.le) b0 bf ag a6
theorem X2H {frm:Nat} (hs:X4 w σ) (ht:Tab σ v l) (ha:Yz l) (ho:K4 l) (hl:l.length≤100000) (al: ∀c∈l,Qn c) (hf:0<frm) (af:frm≤l.length) (h: ∀v' w' σ',Stp w σ w' σ'→Sl 1 Vp σ' v' (ints (V5 l frm))→(V5 l frm).length≤l.length→(∀y∈V5 l frm,y<l.length)→K v' w'):Q0 P F.bx [v,I frm] w K:=Ix (by
 unfold Lz
 have W:=ht
 obtain ⟨a,lv,r,m,rfl,X,t2,t3,t4⟩:=ht.ex
 refine U0 hs rfl fun pt w1 σ1 s ac=>?_
 refine U0 s.sat rfl fun pf w2 σ2 o ap=>?_
 refine P3 o.sat fun C w3 σ3 ab j V=>?_
 refine P3 j.sat fun bw w4 σ4 ai q L=>?_
 rw[Xd]
 have Q:=V.step q
 have a3:=V.lt
 have J:=((s.trans o).trans j).trans q
 have O:w.heap.size≤C:=Zq ab (s.trans o)
 have z:w.heap.size≤bw:=Zq ai ((s.trans o).trans j)
 refine st0 L (by simp[Value.cells]) rfl rfl fun w5 M aa=>?_
 have an:=M.stp J z L.1
 have A:=Q.upd M (by omega)
 obtain ⟨E,R,U,g,N⟩:=aa.keep an z
 have ah:Z9 E w5 C [.slice none 0 0]:=⟨(N C (by omega)).trans A.1,A.2⟩
 have g:SLe σ4 E:=⟨g⟩
 have t:=((ap.up j).up q).lift g
 have u:=(((ac.up o).up j).up q).lift g
 have e:SLe σ E:=SLe.more ⟨J.le⟩ g
 have X:=X.lift e
 have t2:=t2.lift e
 refine Y0 R.sat t rfl ?_
 have ba:(List.range l.length).length=l.length:=List.length_range
 have hz:([Value.nilFunc].set 0 (Value.func (Fn.func F.a0) #[] #[.pointer (some pf), .pointer (some ⟨C,0,none⟩), .pointer (some pt), .pointer (some ⟨bw,0,none⟩)]))=[Value.func (Fn.func F.a0) #[] #[.pointer (some pf), .pointer (some ⟨C,0,none⟩), .pointer (some pt), .pointer (some ⟨bw,0,none⟩)]]:=rfl
 refine Iy (fun d x w'=> ∃(i:Nat) (σ':Q4) (x':Value),x=I i∧frm≤i∧i≤l.length∧d=l.length-i∧SLe E σ'∧Stp w σ w' σ'∧Z9 σ' w' C [x']∧V3 w.heap.size T.e 1 Vp σ' w' x' (ints (((List.range i).drop frm).foldl (fun out i=>Xl l frm out i) []))∧x'.ownBlock≠some C∧Few l (((List.range i).drop frm).foldl (fun out i=>Xl l frm out i) [])) _
  ⟨frm,E, .slice none 0 0,rfl,Nat.le_refl _,af,rfl,SLe.refl _,R,ah,by rw[List.drop_eq_nil_of_le (by simp)];exact V3.nil,by simp[Value.ownBlock],by rw[List.drop_eq_nil_of_le (by simp)];exact ⟨by simp,by simp⟩⟩ ?_
 rintro ao d x dd w7 ⟨i,σ7,x7,rfl,a7,a8,rfl,f,n,H,k,am,b⟩ Z
 refine Y0 n.sat (u.lift f) rfl ?_
 rw[H7,fa]
 refine ld n.sat (X.lift f) rfl ?_
 refine X0 (t2.lift f) ?_
 refine Z4 ?_
 refine Q6 (fun hh=>?_) (fun hh=>?_)
 ·have p:i<l.length:=by simpa using hh
  refine Y0 n.sat (U.lift f) rfl ?_
  refine X3s (w0:=w) (σ0:=σ) (σb:=E) ha ho hl al hf (W.lift e) t u U O (I5 l (Y3 l i)+1) p (.inr (Nat.lt_succ_self _)) f n H k am b fun w8 σ8 x8 ak D ad B ae=>?_
  refine Gh ⟨by omega,by omega⟩ ?_
  have e1:((List.range (i+1)).drop frm).foldl (fun out i=>Xl l frm out i) []=Xl l frm (((List.range i).drop frm).foldl (fun out i=>Xl l frm out i) []) i:=by
   rw[List.range_succ,List.drop_append_of_le_length (by simp;omega),List.foldl_append];rfl
  refine Z _ _ _ (by omega:l.length-(i+1)<l.length-i) ⟨i+1,σ8,x8,by simp,by omega,by omega,rfl,f.more ak,D,ad,?_,ae,?_⟩
  ·rw[e1];exact B
  ·rw[e1];exact Pc ha ho hf _ _ _ p b
 ·have p:i=l.length:=by
   have: ¬i<l.length:=by simpa using hh
   omega
  subst p
  refine X0I H rfl ?_
  obtain ⟨σ8,D,Y,_,_⟩:=k.keep n
  exact h _ _ _ D Y b.len b.2)
end Go.Proofs.YtfppjenblllfaaaGreatDoor

namespace Go.Hm
open Go.Kd
theorem Q6Z (x:Q9) (r:List Q9):D0 (x::r)=x++Lib.joinTail [44] r:=by
 induction r generalizing x with
 | nil=>simp[D0,Lib.joinTail]
 | cons y r a=>
  simp only[D0]
  rw[a y]
  simp[Lib.joinTail]
theorem Q22 (xs:List Q9):Lib.join xs [44]=D0 xs:=by
 cases xs with
 | nil=>rfl
 | cons x r=>rw[Lib.join_cons,Q6Z]
theorem Hj: ∀xs:List Q9,(∀x∈xs,x.length≤100)→(D0 xs).length≤xs.length*101
 | [],_=>by simp[D0]
 | [a],h=>by have:=h a (by simp);simp[D0];omega
 | a::b::r,h=>by
  have e:=h a (by simp)
  have d:=Hj (b::r) fun x c=>h x (by simp[c])
  simp only[D0,List.length_append,List.length_cons,List.length_nil,Nat.add_mul] at*
  omega
def NmM (m:Hm.Met):Prop:=m.result.length≤100∧ ∀p∈m.params,p.length≤100
end Go.Hm
namespace Go.Proofs.YtfppjenblllfaaaGreatDoor
open Go.Emb Go.RowKit Go.Kd Go.Hm
variable {w : World} {K : Value → World → Prop} {σ : Q4} {v : Value} {l : List Cla}
theorem X2h {xs:List Q9} {pv:Value} (M:X4 w σ) (H:Sl 1 X9 σ pv xs) (D:xs.length≤1000000) (B: ∀x∈xs,x.length≤100) (h: ∀w',Below w.heap.size w w'→K (S (D0 xs)) w'):Q0 P F.cR [pv,S [44]] w K:=by
 obtain ⟨a,k,rfl,C,O,N,L⟩:=H
 have t:=Hj xs B
 have u:xs.length*101≤1000000*101:=Nat.mul_le_mul_right _ D
 cases a with
 | none=>
  have U:=N rfl
  have d:xs=[]:=List.eq_nil_of_length_eq_zero (by omega)
  subst d
  refine Vn (fn:=Tryz.f165) Tryz.func165 (by kernel_rfl) (by kernel_rfl) (Calls.mono (Tryz.strings_Join_none none k ⟨[44].toArray⟩ w) ?_)
  rintro e w' ⟨rfl,rfl⟩
  exact h _ (Below.refl _ _)
 | some b=>
  obtain ⟨f,p⟩:=L b rfl
  by_cases d:xs=[]
  ·subst d
   refine Vn (fn:=Tryz.f165) Tryz.func165 (by kernel_rfl) (by kernel_rfl) (Calls.mono (Tryz.strings_Join_none (some b) k ⟨[44].toArray⟩ w) ?_)
   rintro e w' ⟨rfl,rfl⟩
   exact h _ (Below.refl _ _)
  have f:=f (List.length_pos_iff.2 d)
  obtain ⟨m,o,Q⟩:=b
  simp only at f
  subst f
  have c: ∀(j:Nat) (x:ByteArray),(xs.map fun s=>(⟨s.toArray⟩:ByteArray))[j]? =some x→w.cell? ⟨m,o+j,none⟩=some (.string x):=by
   intro j x n
   rw[List.getElem?_map] at n
   cases g:xs[j]? with
   | none=>rw[g] at n;cases n
   | some s=>
    rw[g] at n
    cases n
    obtain ⟨cs,E,R,A⟩:=p j s g
    obtain ⟨rfl,_⟩:=A
    have:=E.cell M (i:=0) (v:=S s) rfl
    rw[add_zero] at this
    have e:(⟨m,o,none⟩:Addr).add (j*1)=⟨m,o+j,none⟩:=by unfold Addr.add;split<;>simp_all
    rw[e] at this;exact this
  have q:m<w.heap.size:=by
   obtain ⟨x,r,rfl⟩: ∃x r,xs=x::r:=by cases xs with | nil=>exact absurd rfl d | cons x r=>exact ⟨x,r,rfl⟩
   have:=c 0 ⟨x.toArray⟩ (by simp)
   exact World.block_lt_of_cell? _ _ this
  have y:(xs.map fun s=>(⟨s.toArray⟩:ByteArray)).map (·.data.toList)=xs:=by rw[List.map_map];simp[Function.comp_def]
  have z:=Tryz.strings_Join m o k (xs.map fun s=>(⟨s.toArray⟩:ByteArray)) ⟨[44].toArray⟩ w c q (by rw[List.length_map];omega) (by rw[List.length_map];exact C) (by rw[y];show (Lib.join xs [44]).length≤_;rw[Q22];omega)
  rw[y,List.length_map] at z
  refine Vn (fn:=Tryz.f165) Tryz.func165 (by kernel_rfl) (by kernel_rfl) (Calls.mono z ?_)
  rintro e w' ⟨rfl,J⟩
  have:=h w' J
  rw[←Q22] at this
  exact this
theorem X08 {m:Hm.Met} {cs:List Value} (r:X4 w σ) (n:L9 σ m cs) (d:SmM m) (g:NmM m) (h: ∀w' p,Stp w σ w' p→K (S (Qh m)) w'):Q0 P F.ch [.agg cs.toArray] w K:=Q5o (by
 obtain ⟨pv,M,H,rfl,o,J,y,N,u,z⟩:=n
 unfold Q0F
 refine Z1 r fun a w1 σ1 c k=>?_
 have q:=Hj m.params g.2
 have j:m.params.length*101≤1000000*101:=Nat.mul_le_mul_right _ d.1
 refine U8 c.sat ?_
 refine X2 (.pointer (some (a.add 1))) (fun w b=>by rw[fa];exact X6 rfl) ?_
 refine X2 (.pointer (some (a.add 2))) (fun w b=>by rw[fa];exact X6 rfl) ?_
 refine X2 pv (fun t w b e=>by rw[e];exact ld b.sat k rfl (X6 rfl)) ?_
 refine X2 (S (D0 m.params)) (fun t w b e=>by rw[e];exact X2h b.sat (o.up c) d.1 g.2 fun w' f=>Q2O f rfl) ?_
 refine X2 (S ([40]++D0 m.params)) (fun t w b e=>by rw[e];exact Df (by simp only[List.length_cons,List.length_nil];omega) (X6 rfl)) ?_
 refine X2 (S ([40]++D0 m.params++[41])) (fun t w b e=>by rw[e];exact Df (by simp only[List.length_append,List.length_cons,List.length_nil];omega) (X6 rfl)) ?_
 refine X2 (S m.result) (fun t w b e=>by rw[e];exact ld b.sat k rfl (X6 rfl)) ?_
 rintro C O E B s A D L i _ _ _ _ _ rfl rfl
 have:=g.1
 refine Df (by simp only[List.length_append,List.length_cons,List.length_nil];omega) ?_
 exact h _ _ (c.trans i.stp))
end Go.Proofs.YtfppjenblllfaaaGreatDoor

namespace Go.Emb
open Go.RowKit Go.Hm
variable {P : Program} {w w0 w1 w' w'' : World} {K : Value → World → Prop} {σ σ0 σ1 σ' : Q4}
theorem Ii {α:Type} (f:α→α) (e:α): ∀l:List α,(l++[e]).modify l.length f=l++[f e]
 | []=>rfl
 | x::r=>by simp[Ii f e r]
theorem Q0z (k:List UInt8) (e:MapEntry) (a:e.key=S k): ∀(es:List MapEntry) (i:Nat),Instr.findNow .string (S k) es i=some none→Instr.findNow .string (S k) (es++[e]) i=some (some (i+es.length,e.val))
 | [],i,_=>by
  simp[Instr.findNow,a,Instr.sameNow,Co]
 | x::r,i,h=>by
  simp only[Instr.findNow,List.cons_append] at h⊢
  split at h
  ·cases h
  ·rename_i b
   rw[Q0z k e a r (i+1) h]
   simp;omega
  ·cases h
theorem Q1I (k:List UInt8) (u:Value): ∀(es:List MapEntry) (i j:Nat) (v:Value),Instr.findNow .string (S k) es i=some (some (j,v))→i≤j∧j-i<es.length∧Instr.findNow .string (S k) (es.modify (j-i) fun e=>{e with val:=u}) i=some (some (j,u))
 | [],i,j,v,h=>by simp[Instr.findNow] at h
 | x::r,i,j,v,h=>by
  simp only[Instr.findNow] at h
  split at h
  ·rename_i a
   cases h
   refine ⟨Nat.le_refl _,by simp,?_⟩
   simp only[Nat.sub_self,List.modify_zero_cons,Instr.findNow,a]
  ·rename_i a
   obtain ⟨d,c,b⟩:=Q1I k u r (i+1) j v h
   refine ⟨by omega,by simp;omega,?_⟩
   rw[show j-i=(j-(i+1))+1 by omega]
   simp only[List.modify_succ_cons,Instr.findNow,a]
   exact b
  ·cases h
theorem Uo {t o q:TypeId} [tm:TM P t o q] (n:P.underlying o=some .string) {r:Nat} {es:Array MapEntry} {a:Nat} {k:List UInt8} {i:Nat} {v:Value} {e:MapEntry} (l:w.heap[r]? =some (.map es a))
 (s:Instr.findNow .string (S k) es.toList 0=some (some (i,v))) (m:es[i]? =some e) (f:e.key=S k):
 (Instr.mapEntry t (.map (some r)) (S k)).run P w= .ok (.tuple #[v,goInt e.born]) {w with heap:=w.heap.setIfInBounds r (.map es a)}:=by
 have p:(getObj r).run P w= .ok (.map es a) w:=by simp[getObj,Sem.run,l]
 have b:(Instr.keyThatStays (S k) (S k)).run P w= .ok (S k) w:=by
  simp[Instr.keyThatStays,Instr.sameBits,Co]
 have d:(es.modify i fun e=>{e with key:=S k})=es:=by
  apply Array.ext'
  apply List.ext_getElem?
  intro j
  simp only[Array.toList_modify,List.getElem?_modify]
  by_cases g:i=j
  ·subst g
   rw[Array.getElem?_toList,m]
   simp[←f]
  ·cases es.toList[j]? <;>simp[g]
 have c:(setObj r (.map es a)).run P w= .ok () {w with heap:=w.heap.setIfInBounds r (.map es a)}:=by
  simp[setObj,Sem.run,l]
 simp only[Instr.mapEntry,Sem.run_bind,run_underlying tm.h,Result.andThen_ok,Instr.findKey,run_underlying n,s,F6 n,p,Sem.run_pure]
 simp only[m,Option.map_some,Option.getD_some,f,b,Result.andThen_ok,d,c]
theorem Q26 {r:Nat} {o:Obj} (h:w.heap[r]? =some o):({w with heap:=w.heap.setIfInBounds r o}:World)=w:=by
 have:w.heap.setIfInBounds r o=w.heap:=by
  apply Array.ext'
  apply List.ext_getElem?
  intro j
  simp only[Array.toList_setIfInBounds,List.getElem?_set]
  by_cases a:r=j
  ·subst a
   rw[if_pos rfl]
   have:=h
   rw[←Array.getElem?_toList] at this
   rw[this,if_pos (by have:=(Array.getElem?_eq_some_iff.1 h).1;simpa using this)]
  ·rw[if_neg a]
 rw[this]
theorem Q3I {r:Nat} {o b:Obj} (h:w.heap[r]? =some b):Upd w r {w with heap:=w.heap.setIfInBounds r o}∧({w with heap:=w.heap.setIfInBounds r o}:World).heap[r]? =some o:=by
 have a:=(Array.getElem?_eq_some_iff.1 h).1
 exact ⟨⟨rfl,rfl,rfl,by simp,fun k c=>by simp only[Array.getElem?_setIfInBounds];rw[if_neg (by omega)]⟩,by simp[Array.getElem?_setIfInBounds,a]⟩
structure Ent3 (P : Program) (t : TypeId) (r : Nat) (k : List UInt8) (u : Value) (m : List (List UInt8 × Value)) (O0 O1 O2 : Obj) (stamp : Nat) : Prop where
  same : O0 = O2 → O1 = O0
  put : O5 (some O2) (Yb m k u)
  entry : ∀ {w : World} {K : Value → World → Prop}, (w.heap[r]? = some O0 ∨ w.heap[r]? = some O1 ∨ w.heap[r]? = some O2) → (∀ x w', Upd w r w' → (w.heap[r]? = some O0 → w'.heap[r]? = some O1) → (w.heap[r]? ≠ some O0 → w'.heap[r]? = w.heap[r]?) → K (.tuple #[x, I stamp]) w') → mapEntry P t (.map (some r)) (S k) w K
  store : ∀ {w : World} {K : Value → World → Prop}, (w.heap[r]? = some O1 ∨ w.heap[r]? = some O2) → (∀ w', Upd w r w' → w'.heap[r]? = some O2 → K undef w') → entryStore P t (.map (some r)) (I stamp) u w K
theorem X4K {t kt et:TypeId} {by_:Nat} {z:Value} [tm:TM P t kt et] [tz:TZ P et 1 by_ z] (O:P.underlying kt=some .string) {r:Nat} {m:List (List UInt8×Value)} (hm:O5 (w.heap[r]?) m) (k:List UInt8) (u:Value):
 ∃Q O1 O2 s,w.heap[r]? =some Q∧Ent3 P t r k u m Q O1 O2 s:=by
 obtain ⟨es,g,h1,h2,Z,h4⟩:=hm
 obtain ⟨r',q1,q2,q3,q4⟩:=Ce k es.toList m 0 h2
 -- the array behind it, the place, the stamp
 have U: ∀(f:Array MapEntry) (d i:Nat) (q:MapEntry) (v1:Value),Instr.findNow .string (S k) f.toList 0=some (some (i,v1))→f[i]? =some q→q.key=S k→(f.toList.map (·.born)).Pairwise (· < ·)→
  (Obj.map es g= .map (f.modify i fun e=>{e with val:=u}) d→Obj.map f d=Obj.map es g)→O5 (some (.map (f.modify i fun e=>{e with val:=u}) d)) (Yb m k u)→
  (∀{w:World},w.heap[r]? =some (.map es g)→ ∃x,(Instr.mapEntry t (.map (some r)) (S k)).run P w= .ok (.tuple #[x,I q.born]) {w with heap:=w.heap.setIfInBounds r (.map f d)})→
  ∃Q O1 O2 s,w.heap[r]? =some Q∧Ent3 P t r k u m Q O1 O2 s:=by
  intro f d i q v1 f1 f2 f3 f4 f5 f6 f7
  obtain ⟨_,H,f8⟩:=Q1I k u f.toList 0 i v1 f1
  simp only[Nat.sub_zero] at H f8
  have a4:i<f.size:=by simpa using H
  have f9:(f.modify i fun e=>{e with val:=u})[i]? =some {q with val:=u}:=by
   rw[Array.getElem?_modify,if_pos rfl,f2];rfl
  have ai:Instr.findNow .string (S k) (f.modify i fun e=>{e with val:=u}).toList 0=some (some (i,u)):=by
   rw[Array.toList_modify];exact f8
  have L: ∀(l:Array MapEntry),l.toList.map (·.born)=f.toList.map (·.born)→l.findIdx? (fun e=>(e.born:Int)==q.born)=some i:=by
   intro l C
   obtain ⟨X⟩:=l
   have e0:(Array.mk X).findIdx? (fun e=>(e.born:Int)==q.born)=X.findIdx? (fun e=>(e.born:Int)==q.born):=List.findIdx?_toArray ..
   rw[e0,List.findIdx?_eq_some_iff_getElem]
   generalize V:(Array.mk X)=l at*
   have ap:X=l.toList:=by rw[←V]
   subst ap
   have ax:l.toList.length=f.toList.length:=by have:=congrArg List.length C;simpa using this
   have W: ∀j (Y:j<l.toList.length),(l.toList[j]).born=(f.toList[j]'(by omega)).born:=fun j Y=>by
    have h5:(l.toList.map (·.born))[j]? =(f.toList.map (·.born))[j]? :=by rw[C]
    rw[List.getElem?_map,List.getElem?_map,List.getElem?_eq_getElem Y,List.getElem?_eq_getElem (by omega)] at h5
    simpa using h5
   have N:f.toList[i]=q:=by
    have:=f2
    rw[←Array.getElem?_toList,List.getElem?_eq_getElem H] at this
    simpa using this
   refine ⟨by omega,by rw[W i (by omega),N];simp,fun j Y=>?_⟩
   have ag:j<f.toList.length:=by omega
   have:=(List.pairwise_iff_getElem.1 f4) j i (by simpa using ag) (by simpa using H) Y
   simp only[List.getElem_map] at this
   rw[W j (by omega)]
   rw[N] at this
   simp only[beq_iff_eq];omega
  have E:(f.modify i fun e=>{e with val:=u}).toList.map (·.born)=f.toList.map (·.born):=by
   apply List.ext_getElem?
   intro j
   simp only[Array.toList_modify,List.getElem?_map,List.getElem?_modify]
   by_cases J:i=j<;>cases f.toList[j]? <;>simp[J]
  have ad:(f.modify i fun e=>{e with val:=u}).modify i (fun e=>{e with val:=u})=f.modify i fun e=>{e with val:=u}:=by
   apply Array.ext'
   apply List.ext_getElem?
   intro j
   simp only[Array.toList_modify,List.getElem?_modify]
   by_cases J:i=j<;>cases f.toList[j]? <;>simp[J]
  have A: ∀(l:Array MapEntry) {w:World},l.toList.map (·.born)=f.toList.map (·.born)→w.heap[r]? =some (.map l d)→(Instr.entryStore t (.map (some r)) (I q.born) u).run P w= .ok () {w with heap:=w.heap.setIfInBounds r (.map (l.modify i fun e=>{e with val:=u}) d)}:=by
   intro l w C hw
   have hg:(getObj r).run P w= .ok (.map l d) w:=by simp[getObj,Sem.run,hw]
   have D: ∀o,(setObj r (.map o d)).run P w= .ok () {w with heap:=w.heap.setIfInBounds r (.map o d)}:=by
    intro o;simp[setObj,Sem.run,hw]
   simp only[Instr.entryStore,Sem.run_bind,hg,Result.andThen_ok,asInt,Sem.run_pure,asIntOf,L l C,D]
  refine ⟨.map es g, .map f d, .map (f.modify i fun e=>{e with val:=u}) d,q.born,h1,f5,f6,?_,?_⟩
  ·intro w K hw M
   unfold mapEntry
   rcases hw with hw | hw | hw
   ·obtain ⟨x,hx⟩:=f7 hw
    rw[Y2 hx]
    obtain ⟨u1,u2⟩:=Q3I (o:= .map f d) hw
    exact M x _ u1 (fun _=>u2) fun h=>absurd hw h
   ·have:=Uo (P:=P) (t:=t) O hw f1 f2 f3
    rw[Q26 hw] at this
    rw[Y2 this]
    refine M _ w ⟨rfl,rfl,rfl,rfl,fun _ _=>rfl⟩ (fun h0=>?_) fun _=>rfl
    exact hw
   ·have:=Uo (P:=P) (t:=t) O hw ai f9 f3
    rw[Q26 hw] at this
    rw[Y2 this]
    refine M _ w ⟨rfl,rfl,rfl,rfl,fun _ _=>rfl⟩ (fun h0=>?_) fun _=>rfl
    rw[h0] at hw
    cases hw
    rw[h0,f5 rfl]
  ·intro w K hw M
   unfold entryStore
   rcases hw with hw | hw
   ·rw[Wk (A f rfl hw)]
    obtain ⟨u1,u2⟩:=Q3I (o:= .map (f.modify i fun e=>{e with val:=u}) d) hw
    exact M _ u1 u2
   ·have:=A _ E hw
    rw[ad,Q26 hw] at this
    rw[Wk this]
    exact M _ ⟨rfl,rfl,rfl,rfl,fun _ _=>rfl⟩ hw
 cases r' with
 | none=>
  obtain ⟨i,hi,bd,be,am⟩:=tz.info
  have hz: ∀w:World,(zeroValue et).run P w= .ok z w:=fun w=>Yq tz w
  refine U (es.push {key:=S k,val:=z,born:=g}) (g+1) es.size {key:=S k,val:=z,born:=g} z ?_ (by simp) rfl ?_ ?_ ?_ ?_
  ·have:=Q0z k {key:=S k,val:=z,born:=g} rfl es.toList 0 q1
   simpa using this
  ·simp only[Array.toList_push,List.map_append,List.map_cons,List.map_nil]
   rw[List.pairwise_append]
   refine ⟨Z,by simp,?_⟩
   intro a ha b C
   simp at C;subst C
   obtain ⟨e,he,rfl⟩:=List.mem_map.1 ha
   exact h4 e he
  ·intro e
   injection e with q e2
   omega
  ·refine ⟨_,_,rfl,?_,?_,?_⟩
   ·rw[q4 rfl]
    simp only[Array.toList_modify,Array.toList_push]
    rw[←Array.length_toList,Ii]
    simp[h2]
   ·have:((es.push {key:=S k,val:=z,born:=g}).modify es.size fun e=>{e with val:=u}).toList.map (·.born)=es.toList.map (·.born)++[g]:=by
     simp only[Array.toList_modify,Array.toList_push]
     rw[←Array.length_toList,Ii]
     simp
    rw[this,List.pairwise_append]
    refine ⟨Z,by simp,?_⟩
    intro a ha b C
    simp at C;subst C
    obtain ⟨e,he,rfl⟩:=List.mem_map.1 ha
    exact h4 e he
   ·intro e he
    simp only[Array.toList_modify,Array.toList_push] at he
    rw[←Array.length_toList,Ii] at he
    rcases List.mem_append.1 he with he | he
    ·have:=h4 e he;omega
    ·simp at he;subst he;simp
  ·intro w hw
   have hg:(getObj r).run P w= .ok (.map es g) w:=by simp[getObj,Sem.run,hw]
   have D: ∀o c,(setObj r (.map o c)).run P w= .ok () {w with heap:=w.heap.setIfInBounds r (.map o c)}:=by
    intro o c;simp[setObj,Sem.run,hw]
   refine ⟨z,?_⟩
   simp only[Instr.mapEntry,Sem.run_bind,run_underlying tm.h,Result.andThen_ok,Instr.findKey,run_underlying O,q1,F6 O,hg,Sem.run_pure,hz,D]
   rfl
 | some p=>
  obtain ⟨j,v⟩:=p
  obtain ⟨z1,z2,z3⟩:=q3 j v rfl
  obtain ⟨e,q,e2⟩:=z2
  simp only[Nat.sub_zero] at q z3
  have R:es[j]? =some e:=by rw[←Array.getElem?_toList];exact q
  refine U es g j e v q1 R e2 Z (fun _=>rfl) ?_ fun hw=>⟨v,Uo O hw q1 R e2⟩
  refine ⟨_,_,rfl,?_,?_,?_⟩
  ·have:=z3 u
   rw[←this,Array.toList_modify]
   congr 1
   apply List.ext_getElem?
   intro n
   simp only[List.getElem?_modify]
   by_cases B:j=n
   ·subst B;rw[q];simp[e2]
   ·simp[B]
  ·have:(es.modify j fun e=>{e with val:=u}).toList.map (·.born)=es.toList.map (·.born):=by
    apply List.ext_getElem?
    intro n
    simp only[Array.toList_modify,List.getElem?_map,List.getElem?_modify]
    by_cases B:j=n<;>cases es.toList[n]? <;>simp[B]
   rw[this];exact Z
  ·intro x hx
   have:x.born∈(es.modify j fun e=>{e with val:=u}).toList.map (·.born):=List.mem_map.2 ⟨x,hx,rfl⟩
   have C:(es.modify j fun e=>{e with val:=u}).toList.map (·.born)=es.toList.map (·.born):=by
    apply List.ext_getElem?
    intro n
    simp only[Array.toList_modify,List.getElem?_map,List.getElem?_modify]
    by_cases B:j=n<;>cases es.toList[n]? <;>simp[B]
   rw[C] at this
   obtain ⟨y,hy,e⟩:=List.mem_map.1 this
   rw[←e];exact h4 y hy
end Go.Emb

namespace Go.Hm
open Go.Kd Go.Emb
abbrev R7:=List (Q9×Q9)
def H8:R7→Q9→Option Q9
 | [],_=>none
 | p::r,k=>if p.1=k then some p.2 else H8 r k
def Ri:R7→Q9→Q9→R7
 | [],k,v=>[(k,v)]
 | p::r,k,v=>if p.1=k then (k,v)::r else p::Ri r k v
def I8 (m:R7):List (List UInt8×Value):=m.map fun p=>(p.1,S p.2)
theorem X0i (m:R7) (k:Q9):M9 (I8 m) k=(H8 m k).map S:=by
 induction m with
 | nil=>rfl
 | cons p r a=>
  simp only[I8,List.map_cons,M9,H8]
  split
  ·rfl
  ·exact a
theorem Q6C (m:R7) (k v:Q9):Yb (I8 m) k (S v)=I8 (Ri m k v):=by
 induction m with
 | nil=>rfl
 | cons p r a=>
  simp only[I8,List.map_cons,Yb,Ri]
  split
  ·rfl
  ·rw[List.map_cons];congr 1
theorem Q0t (m:R7) (k v n:Q9):H8 (Ri m k v) n=if k=n then some v else H8 m n:=by
 induction m with
 | nil=>simp[Ri,H8]
 | cons p r b=>
  simp only[Ri]
  by_cases h:p.1=k
  ·rw[if_pos h]
   simp only[H8]
   by_cases a:k=n
   ·simp[a]
   ·rw[if_neg a,if_neg a,if_neg (by rw[h];exact a)]
  ·rw[if_neg h]
   simp only[H8]
   by_cases a:p.1=n
   ·rw[if_pos a,if_pos a,if_neg (by intro e;exact h (a.trans e.symm))]
   ·rw[if_neg a,if_neg a];exact b
def Un (d:Q9) (s:R7×R7) (m:Hm.Met):Bool×(R7×R7):=
 ((match H8 s.1 m.name with | some x=> !decide (x=Qh m) | none=>false),(Ri s.1 m.name (Qh m),Ri s.2 m.name d))
end Go.Hm
namespace Go.Emb
open Go.RowKit Go.Hm
theorem O5.of_below {w w':World} {r:Nat} {m:List (List UInt8×Value)} (h:O5 (w.heap[r]?) m) (d:Below w.heap.size w w'):O5 (w'.heap[r]?) m:=by
 obtain ⟨es,a,b,c⟩:=h
 rw[d.block r (Array.getElem?_eq_some_iff.1 b).1]
 exact ⟨es,a,b,c⟩
theorem Q5Y {P:Program} {w:World} {K:Value→World→Prop} {t b a:TypeId} {sz by_:Nat} {z:Value} [tm:TM P t b a] [tz:TZ P a sz by_ z] (c:P.underlying b=some .string) {r:Nat} {m:List (List UInt8×Value)} (d:O5 (w.heap[r]?) m) (k:List UInt8)
 (h:K (.tuple #[(M9 m k).getD z, .bool (M9 m k).isSome]) w):lookup P t (.map (some r)) (S k) true w K:=by
 rw[Q2j c d k];cases e:M9 m k<;>rw[e] at h<;>exact h
theorem O5.lt {w:World} {r:Nat} {m:List (List UInt8×Value)} (h:O5 (w.heap[r]?) m):r<w.heap.size:=by
 obtain ⟨es,a,b,c⟩:=h
 exact (Array.getElem?_eq_some_iff.1 b).1
end Go.Emb
namespace Go.Proofs.YtfppjenblllfaaaGreatDoor
open Go.Emb Go.RowKit Go.Kd Go.Hm
variable {w : World} {K : Value → World → Prop} {σ : Q4} {v : Value} {l : List Cla}
theorem X4p {m:Hm.Met} {cs ds:List Value} {pa pb q:Addr} {b o:Nat} {s:R7×R7} {d:Q9} (hs:X4 w σ) (hm:L9 σ m cs) (Z:SmM m) (hn:NmM m) (U:Z0 σ pa [.map (some b)]) (ax:Z0 σ pb [.map (some o)]) (hq:Z0 σ q (S d::ds))
 (am:σ b=none) (an:σ o=none) (aa:b≠o) (p:O5 (w.heap[b]?) (I8 s.1)) (y:O5 (w.heap[o]?) (I8 s.2))
 (h: ∀w',Kpt (fun k=>k=b∨k=o) w w'→O5 (w'.heap[b]?) (I8 (Un d s m).2.1)→O5 (w'.heap[o]?) (I8 (Un d s m).2.2)→K (.bool (Un d s m).1) w'):
 Q0 P F.aK [.agg cs.toArray, .pointer (some pa), .pointer (some q), .pointer (some pb)] w K:=Eo (by
 have R:=hm
 obtain ⟨pv,cv,hv,rfl,g1,g2,g3,g4,g5,g6⟩:=hm
 unfold Yl
 refine Z1 hs fun a w1 σ1 f W=>?_
 have al:=p.lt
 have ar:=y.lt
 have p:=p.of_below f.bel
 have y:=y.of_below f.bel
 have V:σ1 b=none:=(f.old b al).trans am
 have J:σ1 o=none:=(f.old o ar).trans an
 refine Y0 f.sat (U.up f) rfl ?_
 rw[fa]
 refine ld f.sat W rfl ?_
 refine Q5Y X7 p m.name ?_
 have aj:(.tuple #[(M9 (I8 s.1) m.name).getD (.string ⟨#[]⟩), .bool (M9 (I8 s.1) m.name).isSome]:Value)= .tuple #[S ((H8 s.1 m.name).getD []), .bool (H8 s.1 m.name).isSome]:=by
  rw[X0i];cases H8 s.1 m.name<;>rfl
 rw[aj]
 refine Z7 (vs:=[_,_]) rfl ?_
 refine Z7 (vs:=[_,_]) rfl ?_
 obtain ⟨L,M,r,z,ao,E⟩:=X4K (P:=P) (t:=T.t) X7 p m.name (S (Qh m))
 have ab:=p.lt
 refine Q15 (fun c i=>Kpt (fun k=>k=b) c i∧(i.heap[b]? =c.heap[b]? ∨(c.heap[b]? =some L∧L≠r∧i.heap[b]? =some M)∨i.heap[b]? =some r))
  (fun c=>Kpt (fun k=>k=b) w1 c∧X4 c σ1∧(c.heap[b]? =some L∨c.heap[b]? =some M∨c.heap[b]? =some r))
  ⟨.of_below (Below.refl _ _).drew,f.sat.below (Below.refl _ _).drew, .inl ao⟩ (fun c i g B=>⟨g.1.trans B.1,B.1.sat g.2.1 (fun k hk=>hk▸V),by
   rcases B.2 with e | ⟨_,_,e⟩ | e
   ·rw[e];exact g.2.2
   ·exact .inr (.inl e)
   ·exact .inr (.inr e)⟩) ?_
 refine X2 (.pointer (some (a.add 0))) (fun w g=>by rw[fa];exact ⟨⟨Kpt.refl, .inl rfl⟩,rfl⟩) ?_
 refine X2 (.pointer (some (a.add 0))) (fun w g=>by rw[fa];exact ⟨⟨Kpt.refl, .inl rfl⟩,rfl⟩) ?_
 refine X2 (.pointer (some (q.add 0))) (fun w g=>by rw[fa];exact ⟨⟨Kpt.refl, .inl rfl⟩,rfl⟩) ?_
 refine X2 (.map (some b)) (fun w g=>Y0 g.2.1 (U.up f) rfl ⟨⟨Kpt.refl, .inl rfl⟩,rfl⟩) ?_
 refine X2 (S m.name) (fun t w g e=>by rw[e];exact ld g.2.1 W rfl ⟨⟨Kpt.refl, .inl rfl⟩,rfl⟩) ?_
 refine X2 (.map (some o)) (fun w g=>Y0 g.2.1 (ax.up f) rfl ⟨⟨Kpt.refl, .inl rfl⟩,rfl⟩) ?_
 refine X2 (S m.name) (fun t w g e=>by rw[e];exact ld g.2.1 W rfl ⟨⟨Kpt.refl, .inl rfl⟩,rfl⟩) ?_
 refine X2 (.agg [S m.name,pv,S m.result, .bool m.abs,I m.locals,cv,hv].toArray) (fun w g=>Z2 g.2.1 W rfl ⟨⟨Kpt.refl, .inl rfl⟩,rfl⟩) ?_
 refine X2 (S (Qh m)) (fun t c g e=>by
  rw[e]
  exact X08 g.2.1 (RMe_lift R ⟨f.le⟩) Z hn fun i σ3 A=>⟨⟨.of_below A.bel, .inl (A.bel.block b (Nat.lt_of_lt_of_le ab g.1.size))⟩,rfl⟩) ?_
 refine X2 (S d) (fun t w g e=>by rw[e];exact ld g.2.1 (hq.up f) rfl ⟨⟨Kpt.refl, .inl rfl⟩,rfl⟩) ?_
 have st: ∀{c i:World},(c.heap[b]? =some M∨c.heap[b]? =some r)→(i.heap[b]? =c.heap[b]? ∨(c.heap[b]? =some L∧L≠r∧i.heap[b]? =some M)∨i.heap[b]? =some r)→(i.heap[b]? =some M∨i.heap[b]? =some r):=by
  intro c i j h2
  rcases h2 with e | ⟨_,_,e⟩ | e
  ·rw[e];exact j
  ·exact .inl e
  ·exact .inr e
 refine W9 (fun u c=>(∃x,u= .tuple #[x,I z])∧(c.heap[b]? =some M∨c.heap[b]? =some r)) (fun u c i j B=>⟨j.1,st j.2 B.2⟩) (fun ac aw c g e1 e2=>?_) ?_
 ·rw[e1,e2]
  refine E.entry g.2.2 fun x i n af ag=>?_
  by_cases X:c.heap[b]? =some L
  ·have j:=af X
   refine ⟨⟨Kpt.of_upd n rfl,?_⟩,⟨x,rfl⟩, .inl j⟩
   by_cases C:L=r
   ·left;rw[j,X,E.same C]
   ·exact .inr (.inl ⟨X,C,j⟩)
  ·have j:=ag X
   refine ⟨⟨Kpt.of_upd n rfl, .inl j⟩,⟨x,rfl⟩,?_⟩
   rw[j];exact g.2.2.resolve_left X
 refine W9 (fun u c=>u=I z∧(c.heap[b]? =some M∨c.heap[b]? =some r)) (fun u c i j B=>⟨j.1,st j.2 B.2⟩) (fun t c g e=>?_) ?_
 ·obtain ⟨⟨x,rfl⟩,j⟩:=e
  exact Z7 (vs:=[_,_]) rfl ⟨⟨Kpt.refl, .inl rfl⟩,rfl,j⟩
 refine W9 (fun _ c=>c.heap[b]? =some r) (fun u c i j B=>?_) (fun ac ah ay c g e1 e2 e3=>?_) ?_
 ·rcases B.2 with e | ⟨e,C,_⟩ | e
  ·exact e.trans j
  ·rw[j] at e;cases e;exact absurd rfl C
  ·exact e
 ·rw[e1,e3,e2.1]
  refine E.store e2.2 fun i n h3=>⟨⟨Kpt.of_upd n rfl, .inr (.inr h3)⟩,h3⟩
 rintro bb bc bg ac aw a9 a7 be ay bj a6 ah a5 c N _ _ _ _ _ rfl rfl _ _ rfl _ _ ae
 have ap:O5 (c.heap[b]?) (I8 (Ri s.1 m.name (Qh m))):=by
  rw[ae,←Q6C];exact E.put
 have ak:O5 (c.heap[o]?) (I8 s.2):=by
  rw[N.1.block o y.lt fun e=>aa e.symm];exact y
 refine He X7 ⟨J,ak⟩ m.name (S d) fun i n av=>?_
 have Q:O5 (i.heap[o]?) (I8 (Ri s.2 m.name d)):=by rw[←Q6C];exact av.2
 have H:O5 (i.heap[b]?) (I8 (Ri s.1 m.name (Qh m))):=by rw[n.block b aa];exact ap
 have A:Kpt (fun k=>k=b∨k=o) w i:=((Kpt.of_below f.bel).trans (N.1.mono fun k _ h=> .inl h)).trans (Kpt.of_upd n (.inr rfl))
 have Y:X4 i σ1:=(Kpt.of_upd (D:=fun k=>k=o) n rfl).sat N.2.1 fun k hk=>hk▸J
 unfold Un at h
 cases ho:H8 s.1 m.name with
 | none=>
  rw[ho] at h
  simp only[Option.isSome_none,↓M2,M2,Mb,reduceIte]
  exact h i A H Q
 | some x=>
  rw[ho] at h
  simp only[Option.isSome_some,Option.getD_some,↓M2,M2,Mb,reduceIte]
  refine Z2 Y W rfl ?_
  refine X08 Y (RMe_lift R ⟨f.le⟩) Z hn fun w4 σ4 O=>?_
  simp only[↓M2,M2,Mb,reduceIte]
  exact h w4 (A.trans (Kpt.of_below O.bel)) (H.of_below O.bel) (Q.of_below O.bel))
end Go.Proofs.YtfppjenblllfaaaGreatDoor

namespace Go.Hm
open Go.Kd Go.Emb
def Se (s:R7×R7) (c:Cla):Bool×(R7×R7):=((J8 (Un c.name) s c.methods 0).1.isSome,(J8 (Un c.name) s c.methods 0).2)
def Hh (a:List Hm.Met):Prop:= ∃x∈a,∃y∈a,x.name=y.name∧Qh x≠Qh y
theorem Q4q (a:List Hm.Met):Lv a=true↔Hh a:=by
 simp[Lv,Hh]
structure Gd (pre : List Hm.Met) (s : R7 × R7) : Prop where
  a : ∀ m ∈ pre, H8 s.1 m.name = some (Qh m)
  b : ∀ k x, H8 s.1 k = some x → ∃ m ∈ pre, m.name = k ∧ Qh m = x
  c : ∀ k, (H8 s.2 k).isSome = true ↔ ∃ m ∈ pre, m.name = k
theorem Gd.no {b:List Hm.Met} {s:R7×R7} (h:Gd b s): ¬Hh b:=by
 rintro ⟨x,d,y,f,e,i⟩
 have c:=h.a x d
 have g:=h.a y f
 rw[e,g] at c
 exact i (Option.some.inj c).symm
theorem Gd.step {n:List Hm.Met} {s:R7×R7} (h:Gd n s) (d:Q9) (m:Hm.Met):((Un d s m).1=true→Hh (n++[m]))∧((Un d s m).1=false→Gd (n++[m]) (Un d s m).2):=by
 unfold Un
 constructor
 ·intro i
  cases o:H8 s.1 m.name with
  | none=>rw[o] at i;cases i
  | some x=>
   rw[o] at i
   obtain ⟨y,hy,f,p⟩:=h.b _ _ o
   exact ⟨y,by simp[hy],m,by simp,f,by rw[p];simpa using i⟩
 ·intro i
  have j: ∀x,H8 s.1 m.name=some x→x=Qh m:=fun x g=>by rw[g] at i;simpa using i
  refine ⟨fun y hy=>?_,fun k x g=>?_,fun k=>?_⟩
  ·simp only[Q0t]
   rcases List.mem_append.1 hy with hy | hy
   ·have:=h.a y hy
    by_cases e:m.name=y.name
    ·rw[if_pos e];congr 1;exact (j _ (by rw[e];exact this)).symm
    ·rw[if_neg e];exact this
   ·simp at hy;subst hy;simp
  ·simp only[Q0t] at g
   by_cases e:m.name=k
   ·rw[if_pos e] at g;cases g;exact ⟨m,by simp,e,rfl⟩
   ·rw[if_neg e] at g
    obtain ⟨y,hy,f⟩:=h.b _ _ g
    exact ⟨y,by simp[hy],f⟩
  ·simp only[Q0t]
   by_cases e:m.name=k
   ·rw[if_pos e];exact ⟨fun _=>⟨m,by simp,e⟩,fun _=>rfl⟩
   ·rw[if_neg e,h.c k]
    constructor
    ·rintro ⟨y,hy,f⟩;exact ⟨y,by simp[hy],f⟩
    ·rintro ⟨y,hy,f⟩
     rcases List.mem_append.1 hy with hy | hy
     ·exact ⟨y,hy,f⟩
     ·simp at hy;subst hy;exact absurd f e
theorem Hh.mono {a b:List Hm.Met} (h:Hh a) (c: ∀x∈a,x∈b):Hh b:=by
 obtain ⟨x,d,y,f,e⟩:=h
 exact ⟨x,c x d,y,c y f,e⟩
theorem Q3k (d:Q9): ∀(b a:List Hm.Met) (s:R7×R7) (i:Nat),Gd a s→((J8 (Un d) s b i).1.isSome=true→Hh (a++b))∧((J8 (Un d) s b i).1.isSome=false→Gd (a++b) (J8 (Un d) s b i).2)
 | [],a,s,i,h=>by simpa [J8] using h
 | m::r,a,s,i,h=>by
  obtain ⟨j,g⟩:=h.step d m
  simp only[J8]
  cases f:(Un d s m).1 with
  | true=>
   simp only[if_true,Option.isSome_some]
   exact ⟨fun _=>(j f).mono fun x c=>by simp at c⊢;rcases c with h | h<;>simp[h],fun e=>by cases e⟩
  | false=>
   simp only[Bool.false_eq_true,if_false]
   have:=Q3k d r (a++[m]) (Un d s m).2 (i+1) (g f)
   rw[show a++m::r=(a++[m])++r by simp]
   exact this
theorem Q33: ∀(cs:List Cla) (a:List Hm.Met) (s:R7×R7) (i:Nat),Gd a s→((J8 Se s cs i).1.isSome=true→Hh (a++cs.flatMap (·.methods)))∧((J8 Se s cs i).1.isSome=false→Gd (a++cs.flatMap (·.methods)) (J8 Se s cs i).2)
 | [],a,s,i,h=>by simpa [J8] using h
 | c::r,a,s,i,h=>by
  obtain ⟨f,d⟩:=Q3k c.name c.methods a s 0 h
  simp only[J8]
  cases b:(Se s c).1 with
  | true=>
   simp only[if_true,Option.isSome_some]
   exact ⟨fun _=>(f b).mono (by simp;intro x hx;rcases hx with hx | hx;exact .inl hx;exact .inr (.inl hx)),fun e=>by cases e⟩
  | false=>
   simp only[Bool.false_eq_true,if_false]
   have:=Q33 r (a++c.methods) (Se s c).2 (i+1) (d b)
   rw[List.flatMap_cons,←List.append_assoc]
   exact this
theorem X3N:Gd [] ([],[]):=⟨by simp,by simp[H8],by simp[H8]⟩
theorem Q9a (l:List Cla) (n:Q9):Vu l n=(Mc l n).flatMap (·.methods):=by
 unfold Vu Mc
 induction C4 l n with
 | nil=>rfl
 | cons u r a=>
  rw[List.flatMap_cons,List.filterMap_cons]
  cases b:lk l u with
  | none=>simpa [b] using a
  | some c=>simp only[Option.map_some,Option.getD_some,List.flatMap_cons];rw[a]
end Go.Hm
namespace Go.Emb
open Go.RowKit Go.Hm
variable {P : Program} {w w0 w1 w' w'' : World} {K : Value → World → Prop} {σ σ0 σ1 σ' : Q4}
def It (σ:Q4) (w:World) (b r:Nat) (es:Array MapEntry) (a:Nat) (c:Array Nat):Prop:=σ b=none∧ ∃d,a≤d∧w.heap[b]? =some (.mapIter (some r) a c d)
theorem It.step {b r:Nat} {es:Array MapEntry} {a:Nat} {c:Array Nat} (h:It σ w b r es a c) (k:Stp w σ w' σ'):It σ' w' b r es a c:=by
 obtain ⟨i,f,g,d⟩:=h
 have e:=(Array.getElem?_eq_some_iff.1 d).1
 exact ⟨(k.old b e).trans i,f,g,(k.bel.block b e).trans d⟩
theorem X4r {t f d:TypeId} [tm:TM P t f d] {r:Nat} {es:Array MapEntry} {a:Nat} (c:X4 w σ) (e:w.heap[r]? =some (.map es a))
 (h: ∀b w' σ',w.heap.size≤b→Stp w σ w' σ'→It σ' w' b r es a #[]→K (.pointer (some ⟨b,0,none⟩)) w'):rng P t (.map (some r)) w K:=by
 unfold rng
 have g:(getObj r).run P w= .ok (.map es a) w:=by simp[getObj,Sem.run,e]
 rw[Y2 (v:= .pointer (some ⟨w.heap.size,0,none⟩)) (w':=w.alloc (.mapIter (some r) a #[] a)) (by
  simp only[Instr.range,Sem.run_bind,run_underlying tm.h,Result.andThen_ok,g,Sem.run_pure]
  simp)]
 exact h _ _ _ (Nat.le_refl _) (Stp.own c _) ⟨c.none (Nat.le_refl _),a,Nat.le_refl _,heap_alloc_new w _⟩
theorem X4k {t:TypeId} {b r:Nat} {es:Array MapEntry} {clock:Nat} {seen:Array Nat} (hi:It σ w b r es clock seen) (hm:w.heap[r]? =some (.map es clock)) (hold: ∀x∈es.toList,x.born<clock)
 (h0:(∀e∈es.toList,e.born∈seen)→K (.tuple #[.bool false]) w)
 (h1: ∀e w',e∈es.toList→e.born∉seen→Kpt (fun k=>k=b) w w'→It σ w' b r es clock (seen.push e.born)→w'.heap[b]? =some (.mapIter (some r) clock (seen.push e.born) clock)→K (.tuple #[.bool true,e.key,e.val]) w'):U3 P (.pointer (some ⟨b,0,none⟩)) false t w K:=by
 obtain ⟨hb,c0,hc,hh⟩:=hi
 unfold U3
 rcases run_next_at (P:=P) w t b r clock c0 seen es clock hh hm hold hc with ⟨hz,hrun⟩ | ⟨e,he,w1,hw1,hrun⟩
 ·rw[Y2 hrun]
  refine h0 fun e he=>Classical.byContradiction fun hn=>?_
  have:e∈(leftOf es seen).toList:=by
   unfold leftOf
   simp only[Array.toList_filter,List.mem_filter]
   exact ⟨he,by simpa using hn⟩
  have hl:(leftOf es seen).toList.length=0:=by simpa using hz
  rw[List.eq_nil_of_length_eq_zero hl] at this
  cases this
 ·rw[Y2 hrun]
  have he':e∈es.toList∧e.born∉seen:=by
   unfold leftOf at he
   simp only[Array.toList_filter,List.mem_filter] at he
   exact ⟨he.1,by simpa using he.2⟩
  have hh1:w1.heap[b]? =some (.mapIter (some r) clock seen c0):=by rcases hw1 with rfl | rfl<;>exact hh
  obtain ⟨u1,u2⟩:=Q3I (w:=w1) (o:= .mapIter (some r) clock (seen.push e.born) clock) hh1
  refine h1 e _ he'.1 he'.2 ?_ ⟨hb,clock,Nat.le_refl _,u2⟩ u2
  have k1:Kpt (fun k=>k=b) w w1:=by
   rcases hw1 with rfl | rfl
   ·exact Kpt.refl
   ·exact .of_below (Below.refl _ _).drew
  exact k1.trans (Kpt.of_upd u1 rfl)
theorem X3q {b r:Nat} {es:Array MapEntry} {a:Nat} {c:Array Nat} {e:MapEntry} (hh:w.heap[b]? =some (.mapIter (some r) a (c.push e.born) a)) (f:w.heap[r]? =some (.map es a)) (g:e∈es.toList) (d:(es.toList.map (·.born)).Nodup)
 (h:K (.tuple #[e.key,e.val]) w):Q8C P (.pointer (some ⟨b,0,none⟩)) w K:=by
 unfold Q8C
 rw[Y2 (run_entry_at w b r a c es a e hh f g d)]
 exact h
end Go.Emb
namespace Go.Proofs.YtfppjenblllfaaaGreatDoor
open Go.Emb Go.RowKit Go.Kd Go.Hm
variable {w : World} {K : Value → World → Prop} {σ : Q4} {v : Value} {l : List Cla}
theorem Jp (o:Option Nat):decide ((0:Int)≤L2 o)=o.isSome:=by
 cases o with
 | none=>rfl
 | some i=>simp[L2]
theorem Q3v {q:Addr} {s:Q9} (b:X4 w σ) (d:Tab σ v l) (g:Z0 σ q [v]) (f:s.length≤Y9) (h: ∀w' σ',Stp w σ w' σ'→K (.bool (E6 l s)) w'):Z3 P (.func (.func F.am) #[] #[.pointer (some q)]) [S s] w K:=X8 (Rd (by
 unfold Jj
 unfold E6 at h
 refine I4 ?_
 by_cases a:s=C2
 ·have e:decide (s=[110,117,108,108])=true:=decide_eq_true a
  simp only[e,decide_eq_true a,↓M2,M2,Mb,reduceIte] at h⊢
  exact h _ _ (Stp.refl b)
 ·have e:decide (s=[110,117,108,108])=false:=decide_eq_false a
  simp only[e,decide_eq_false a,↓M2,M2,Mb,reduceIte] at h⊢
  refine Y0 b g rfl ?_
  refine Sp b d f fun w1 σ1 c=>?_
  (try simp only[↓M2,M2,Mb,reduceIte])
  exact h _ _ c))
theorem Q8A {q p:Addr} {s:Q9} (b:X4 w σ) (c:Tab σ v l) (f:Z0 σ q [v]) (e:Z0 σ p [.func (.func F.am) #[] #[.pointer (some q)]]) (d:s.length≤Y9) (h: ∀w' σ',Stp w σ w' σ'→K (.bool (!E6 l s)) w'):Z3 P (.func (.func F.an) #[] #[.pointer (some p)]) [S s] w K:=X8 (Rx (by
 unfold Zx
 refine Y0 b e rfl ?_
 refine Q3v b c f d fun w1 σ1 a=>?_
 refine Li ?_
 exact h _ _ a))
theorem Q7d {c:Cla} {cs:List Value} {pa H:Addr} {b e:Nat} {s:R7×R7} (X:X4 w σ) (W:V4 σ c cs) (p:Qn c) (V:Nm c) (r:Z0 σ pa [.map (some b)]) (B:Z0 σ H [.map (some e)])
 (y:σ b=none) (z:σ e=none) (u:b≠e) (i:O5 (w.heap[b]?) (I8 s.1)) (j:O5 (w.heap[e]?) (I8 s.2))
 (h: ∀w',Kpt (fun k=>k=b∨k=e) w w'→O5 (w'.heap[b]?) (I8 (Se s c).2.1)∧O5 (w'.heap[e]?) (I8 (Se s c).2.2)→K (.bool (Se s c).1) w'):
 Z3 P (.func (.func F.b0) #[] #[.pointer (some pa), .pointer (some H)]) [.agg cs.toArray] w K:=X8 (Sg (by
 obtain ⟨lv,fv,mv,rfl,Z,g2,M,g4,Y⟩:=W
 unfold Jk
 refine Z1 X fun q w1 σ1 a J=>?_
 rw[fa]
 refine ld a.sat J rfl ?_
 rw[Xd]
 have t:=i.lt
 have A:=j.lt
 have n:σ1 b=none:=(a.old b t).trans y
 have m:σ1 e=none:=(a.old e A).trans z
 refine Zb (Un c.name) s (fun s w'=>X4 w' σ1∧O5 (w'.heap[b]?) (I8 s.1)∧O5 (w'.heap[e]?) (I8 s.2)) (fun k=>k=b∨k=e) (fun _ _ h=>h.1) ⟨a.sat,i.of_below a.bel,j.of_below a.bel⟩ (M.up a)
  (fun s x cs E K D f g U C L=>X8 ?_) fun E f g=>?_
 ·refine X4p (s:=s) (d:=c.name) g.1 U (p.2.2.2 x D) (V.2.2 x D) (r.up a) (B.up a) J n m u g.2.1 g.2.2 fun N o R Q=>?_
  exact L N (f.trans o) ⟨o.sat g.1 fun k O=>by rcases O with rfl | rfl<;>assumption,R,Q⟩
 ·exact h E ((Kpt.of_below a.bel).trans f) g.2))
end Go.Proofs.YtfppjenblllfaaaGreatDoor

namespace Go.Emb
open Go.RowKit Go.Hm
theorem Stp.nx {D:Nat→Prop} {w w1 g:World} {σ σ1 f:Q4} (a:Stp w σ w1 σ1) (c:Nxt D w1 σ1 g f) (hD: ∀k,D k→w.heap.size≤k):Stp w σ g f:=
 ⟨⟨c.kp.os.trans a.bel.os,c.kp.tape.trans a.bel.tape,c.kp.output.trans a.bel.output,Nat.le_trans a.bel.size c.kp.size,fun k d=>(c.kp.block k (Nat.lt_of_lt_of_le d a.bel.size) fun e=>by have:=hD k e;omega).trans (a.bel.block k d)⟩,
  c.sat,fun b o e=>c.le.le b o (a.le b o e),fun k d=>(c.old k (Nat.lt_of_lt_of_le d a.bel.size)).trans (a.old k d)⟩
end Go.Emb
namespace Go.Hm
open Go.Kd Go.Emb
theorem X2e {es:Array MapEntry} {m:R7} (h:es.toList.map (fun e=>(e.key,e.val))=(I8 m).map (fun p=>(S p.1,p.2))):
 (∀e∈es.toList,∃k,e.key=S k∧(H8 m k).isSome=true)∧ ∀k,(H8 m k).isSome=true→ ∃e∈es.toList,e.key=S k:=by
 have a: ∀(m:R7) k,(H8 m k).isSome=true↔k∈m.map (·.1):=by
  intro m
  induction m with
  | nil=>intro k;simp[H8]
  | cons p r j=>
   intro k
   simp only[H8,List.map_cons,List.mem_cons]
   by_cases e:p.1=k
   ·simp[e]
   ·rw[if_neg e,j k]
    constructor
    ·exact .inr
    ·rintro (h | h)
     ·exact absurd h.symm e
     ·exact h
 constructor
 ·intro e f
  have c:(e.key,e.val)∈es.toList.map (fun e=>(e.key,e.val)):=List.mem_map.2 ⟨e,f,rfl⟩
  rw[h] at c
  obtain ⟨p,i,b⟩:=List.mem_map.1 c
  obtain ⟨q,d,rfl⟩:=List.mem_map.1 i
  simp only[Prod.mk.injEq] at b
  exact ⟨q.1,b.1.symm,(a m _).2 (List.mem_map.2 ⟨q,d,rfl⟩)⟩
 ·intro k g
  obtain ⟨q,d,rfl⟩:=List.mem_map.1 ((a m k).1 g)
  have c:(S q.1,S q.2)∈(I8 m).map (fun p=>(S p.1,p.2)):=List.mem_map.2 ⟨(q.1,S q.2),List.mem_map.2 ⟨q,d,rfl⟩,rfl⟩
  rw[←h] at c
  obtain ⟨e,f,b⟩:=List.mem_map.1 c
  simp only[Prod.mk.injEq] at b
  exact ⟨e,f,b.1⟩
def Em (l:List Cla) (m:Hm.Met):Bool:=(!E6 l m.result&& !decide (m.result=[]))||m.params.any fun s=> !E6 l s
end Go.Hm
namespace Go.Proofs.YtfppjenblllfaaaGreatDoor
open Go.Emb Go.RowKit Go.Kd Go.Hm
variable {w : World} {K : Value → World → Prop} {σ : Q4} {v : Value} {l : List Cla}
set_option maxHeartbeats 1000000 in
theorem X0H {c:Cla} {cs:List Value} (hs:X4 w σ) (ht:Tab σ v l) (ok:Ok l) (hc:V4 σ c cs) (fn:Qn c) (hn:Nm c) (h: ∀w' W,Stp w σ w' W→K (I (V7 l c)) w'):Q0 P F.be [v, .agg cs.toArray] w K:=Bc (by
 obtain ⟨lv,fv,mv,rfl,g1,g2,g3,g4,g5⟩:=hc
 unfold Ut
 obtain ⟨a,_,_,_,hv,_⟩:=ht.ex
 unfold V7 at h
 refine U0 hs (by rw[hv];rfl) fun q2 w1 σ1 bd y=>?_
 refine Z1 bd.sat fun q3 w2 σ2 aq A=>?_
 have ej:=bd.trans aq
 have y:=y.up aq
 have g1:=(g1.up bd).up aq
 have g2:=(g2.up bd).up aq
 have g3:=(g3.up bd).up aq
 have ay:=g2.max
 have b4:=g3.max
 rw[fa]
 refine ld aq.sat A rfl ?_
 refine X0 g2 ?_
 refine U4 c.fields.length (fun n w'=> ∃W,Stp w σ w' W∧SLe σ2 W∧((c.fields.take n).any fun f=>(F2 l c.super f.name).isSome)=false) ⟨σ2,ej,SLe.refl _,by simp⟩ fun n w3 d bb af=>?_
 obtain ⟨σ3,a8,ci,H⟩:=af
 refine Z4 ?_
 refine Q6 (fun hh=>?_) (fun hh=>?_)
 ·have g:n<c.fields.length:=by simpa using hh
  refine Q5B (g2.lift ci) g fun p ar ac=>?_
  refine Z2 a8.sat ar rfl ?_
  refine Y5 a8.sat (by rfl) rfl (Rep.one ac) fun q4 w4 σ4 V dy=>?_
  have ab:SLe σ2 σ4:=ci.more ⟨V.le⟩
  have a1:=a8.trans V
  refine Y0 V.sat (y.lift ab) rfl ?_
  rw[fa]
  refine ld V.sat (A.lift ab) rfl ?_
  rw[fa]
  refine ld V.sat dy rfl ?_
  refine Q7G V.sat (ht.lift ⟨a1.le⟩) ok.acy ok.len ok.sm fun w5 σ5 cb=>?_
  refine G1 ?_
  rw[Jp]
  refine Q6 (fun am=>?_) (fun am=>?_)
  ·have:Ya l c=true:=B6 g am
   rw[if_pos this] at h
   exact h _ _ (a1.trans cb)
  ·refine H3 ?_
   refine Y6 ay g ⟨σ5,a1.trans cb,ab.more ⟨cb.le⟩,?_⟩
   rw[N0 g,H,am];rfl
 have g: ¬n<c.fields.length:=by simpa using hh
 rw[E0 g] at H
 have eg:Ya l c=false:=H
 rw[if_neg (by rw[eg];simp)] at h
 rw[Xd]
 clear H hh g bb
 refine U6 a8.sat (by rfl) rfl rfl fun q7 w4 σ4 V ax=>?_
 have ab:SLe σ2 σ4:=ci.more ⟨V.le⟩
 have a1:=a8.trans V
 have y:=y.lift ab
 have A:=A.lift ab
 have g1:=g1.lift ab
 have g2:=g2.lift ab
 have g3:=g3.lift ab
 rw[fa]
 refine ld V.sat A rfl ?_
 refine X0 g2 ?_
 refine U4 c.fields.length (fun n w'=> ∃W,Stp w σ w' W∧SLe σ4 W∧((c.fields.take n).any fun f=> !E6 l f.kind)=false) ⟨σ4,a1,SLe.refl _,by simp⟩ fun n w5 d bb af=>?_
 obtain ⟨σ5,a6,av,H⟩:=af
 refine Z4 ?_
 refine Q6 (fun hh=>?_) (fun hh=>?_)
 ·have g:n<c.fields.length:=by simpa using hh
  refine Q5B (g2.lift av) g fun p ar ac=>?_
  refine Z2 a6.sat ar rfl ?_
  refine Y5 a6.sat (by rfl) rfl (Rep.one ac) fun q9 w6 σ6 be dx=>?_
  have aj:SLe σ4 σ6:=av.more ⟨be.le⟩
  have U:=a6.trans be
  refine Y0 be.sat (ax.lift aj) rfl ?_
  rw[fa]
  refine ld be.sat dx rfl ?_
  refine Q3v be.sat (ht.lift ⟨U.le⟩) (y.lift aj) ac.2.2 fun w7 σ7 E=>?_
  refine Li ?_
  refine Q6 (fun am=>?_) (fun am=>?_)
  ·have:F8 l c=true:=by
    unfold F8
    rw[B6 (p:=fun f:Fld=> !E6 l f.kind) g am];rfl
   rw[if_pos this] at h
   exact h _ _ (U.trans E)
  ·refine H3 ?_
   refine Y6 ay g ⟨σ7,U.trans E,aj.more ⟨E.le⟩,?_⟩
   rw[N0 g,H,am];rfl
 have g: ¬n<c.fields.length:=by simpa using hh
 rw[E0 g] at H
 have ek:=H
 clear H hh g bb
 have y:=y.lift av
 have A:=A.lift av
 have ax:=ax.lift av
 have g3:=g3.lift av
 rw[fa]
 refine ld a6.sat A rfl ?_
 refine X0 g3 ?_
 refine U4 c.methods.length (fun n w'=> ∃W,Stp w σ w' W∧SLe σ5 W∧((c.methods.take n).any (Em l))=false) ⟨σ5,a6,SLe.refl _,by simp⟩ fun n w6 d bb af=>?_
 obtain ⟨σ6,U,aj,H⟩:=af
 refine Z4 ?_
 refine Q6 (fun hh=>?_) (fun hh=>?_)
 ·have g:n<c.methods.length:=by simpa using hh
  refine M6 (g3.lift aj) g fun p cells ar dn ac=>?_
  refine Z2 U.sat ar dn ?_
  refine Y5 U.sat (by rfl) dn (Rep.one ac) fun fu w7 σ7 E X=>?_
  obtain ⟨pv,cv,fp,rfl,m1,m2,m3,m4,m5,m6⟩:=ac
  have b5:SLe σ5 σ7:=aj.more ⟨E.le⟩
  have c9:=U.trans E
  have B:Em l c.methods[n]=true→ ∀{w8:World} {σ8:Q4},Stp w σ w8 σ8→K (.int .i64 65) w8:=fun hb w8 σ8 q=>by
   have:F8 l c=true:=by
    unfold F8
    have:=B6 (p:=Em l) g hb
    unfold Em at this
    rw[this,Bool.or_true]
   rw[if_pos this] at h
   exact h _ _ q
  have z:Em l c.methods[n]=false→ ∀{w8:World} {σ8:Q4},Stp w σ w8 σ8→SLe σ5 σ8→UpI c.methods.length (fun n w'=> ∃W,Stp w σ w' W∧SLe σ5 W∧((c.methods.take n).any (Em l))=false) (.int .i64 (IntKind.i64.wrap (n+1))) w8∧UpM c.methods.length (.int .i64 (IntKind.i64.wrap (n+1)))<UpM c.methods.length (I n):=fun hb w8 σ8 q Z=>
   Y6 b4 g ⟨σ8,q,Z,by rw[N0 g,H,hb];rfl⟩
  unfold Em at B z
  refine Y0 E.sat (ax.lift b5) rfl ?_
  rw[fa]
  refine ld E.sat X rfl ?_
  refine Q3v E.sat (ht.lift ⟨c9.le⟩) (y.lift b5) m5 fun w8 σ8 M=>?_
  have q:=c9.trans M
  have Z:SLe σ5 σ8:=b5.more ⟨M.le⟩
  have X:=X.up M
  have m1:=(m1.up E).up M
  -- what the parameters come to
  have bu: ∀{w8:World} {σ8:Q4} {K:Value→World→Prop},Stp w σ w8 σ8→SLe σ5 σ8→Sl 1 X9 σ8 pv c.methods[n].params→(∀w' W,Stp w8 σ8 w' W→K (.bool (c.methods[n].params.any fun s=> !E6 l s)) w')→Q0 P F.e [pv, .func (.func F.an) #[] #[.pointer (some q7)]] w8 K:=by
   intro w8 σ8 K q Z m1 hK
   refine I2 (fun s=> !E6 l s) q.sat m1 (fun x w9 K _ d0 hx d9=>Q8A d0 (ht.lift ⟨q.le⟩) (y.lift Z) (ax.lift Z) hx fun w' W hk=>d9 w' hk.bel) fun w9 hb=>hK w9 σ8 (Stp.of_below q.sat hb)
  cases e1:E6 l c.methods[n].result with
  | true=>
   rw[e1] at B z
   simp only[↓M2,M2,Mb,reduceIte]
   refine ld M.sat X rfl ?_
   (try simp only[↓M2,M2,Mb,reduceIte])
   refine bu q Z m1 fun w9 σ9 J=>?_
   cases e2:c.methods[n].params.any fun s=> !E6 l s with
   | true=>
    rw[e2] at B
    simp only[↓M2,M2,Mb,reduceIte]
    exact B rfl (q.trans J)
   | false=>
    rw[e2] at z
    simp only[↓M2,M2,Mb,reduceIte]
    exact z rfl (q.trans J) (Z.more ⟨J.le⟩)
  | false=>
   rw[e1] at B z
   simp only[↓M2,M2,Mb,reduceIte]
   refine ld M.sat X rfl ?_
   simp only[↓M2,M2,Mb,reduceIte]
   by_cases e3:c.methods[n].result=[]
   ·rw[decide_eq_true e3] at B z
    simp only[decide_eq_true e3,↓M2,M2,Mb,reduceIte]
    refine ld M.sat X rfl ?_
    (try simp only[↓M2,M2,Mb,reduceIte])
    refine bu q Z m1 fun w9 σ9 J=>?_
    cases e2:c.methods[n].params.any fun s=> !E6 l s with
    | true=>
     rw[e2] at B
     simp only[↓M2,M2,Mb,reduceIte]
     exact B rfl (q.trans J)
    | false=>
     rw[e2] at z
     simp only[↓M2,M2,Mb,reduceIte]
     exact z rfl (q.trans J) (Z.more ⟨J.le⟩)
   ·rw[decide_eq_false e3] at B
    simp only[decide_eq_false e3,↓M2,M2,Mb,reduceIte]
    exact B rfl q
 have g: ¬n<c.methods.length:=by simpa using hh
 rw[E0 g] at H
 have b7:F8 l c=false:=by
  unfold F8
  unfold Em at H
  rw[ek,H];rfl
 rw[if_neg (by rw[b7];simp)] at h
 clear H hh g bb
 have y:=y.lift aj
 have A:=A.lift aj
 refine Q0f U.sat fun r1 w7 ac E t=>?_
 refine Q0f E.sat fun N w8 ei M u=>?_
 have ar:=t.lt
 have t:=t.up M
 have ed:r1≠N:=by omega
 have q:=(U.trans E).trans M
 have e0:w.heap.size≤r1:=Nat.le_trans U.bel.size ac
 have e6:w.heap.size≤N:=Zq ei (U.trans E)
 refine P3 M.sat fun b1 w9 σ9 d8 J C=>?_
 refine P3 J.sat fun b2 d2 fb ea ag D=>?_
 have er:=C.lt
 have eq:=t.lt
 have ey:=u.lt
 have t:=(t.up J).up ag
 have u:=(u.up J).up ag
 have C:=C.up ag
 have c5:=(q.trans J).trans ag
 have bv:w.heap.size≤b1:=Zq d8 q
 have bq:w.heap.size≤b2:=Zq ea (q.trans J)
 refine st0 C (by simp[Value.cells]) rfl rfl fun c2 ce C=>?_
 have di:=ce.stp c5 bv C.1
 have D:=D.upd ce (by omega)
 have c8:Kpt (fun k=>k=b1) d2 c2:=Kpt.of_upd ce rfl
 have t:=t.kp c8 (by omega)
 have u:=u.kp c8 (by omega)
 refine st0 D (by simp[Value.cells]) rfl rfl fun aw ca D=>?_
 have ct:=ca.stp di bq D.1
 have C:=C.upd ca (by omega)
 have da:Kpt (fun k=>k=b2) c2 aw:=Kpt.of_upd ca rfl
 have t:=t.kp da (by omega)
 have u:=u.kp da (by omega)
 obtain ⟨cj,cp,az,de,al⟩:=C.keep ct bv
 have D:Z9 cj aw b2 _:=⟨(al b2 (by omega)).trans D.1,D.2⟩
 have t:H0 cj aw r1 []:=⟨(al r1 (by omega)).trans t.1,t.2⟩
 have u:H0 cj aw N []:=⟨(al N (by omega)).trans u.1,u.2⟩
 obtain ⟨a3,ah,bl,bw,a7⟩:=D.keep cp bq
 have t:H0 a3 aw r1 []:=⟨(a7 r1 (by omega)).trans t.1,t.2⟩
 have u:H0 a3 aw N []:=⟨(a7 N (by omega)).trans u.1,u.2⟩
 have az:=az.le bw
 have az:Z0 a3 ⟨b1,0,none⟩ [.map (some r1)]:=az
 have bl:Z0 a3 ⟨b2,0,none⟩ [.map (some N)]:=bl
 have cr:SLe σ6 a3:=⟨fun b o e=>bw b o (de b o (ag.le b o (J.le b o (M.le b o (E.le b o e)))))⟩
 clear C D
 have y:=y.lift cr
 have A:=A.lift cr
 refine Y0 ah.sat y rfl ?_
 rw[fa]
 refine ld ah.sat A rfl ?_
 rw[Xd]
 refine Q8h Se ([],[]) (fun s w'=>O5 (w'.heap[r1]?) (I8 s.1)∧O5 (w'.heap[N]?) (I8 s.2)) (fun k=>k=r1∨k=N) ah.sat (ht.lift ⟨ah.le⟩) ok.len ok.sm g4
  (fun k hk=>by rcases hk with rfl | rfl;exact ⟨t.lt,t.1⟩;exact ⟨u.lt,u.1⟩) (fun s wa wb hi hk=>by rw[hk r1 (.inl rfl),hk N (.inr rfl)];exact hi) ⟨t.2,u.2⟩
  (fun s d ds wa σa K le dv dp hi hr d1 hK=>?_) fun fs ck ae bp=>?_
 ·have c0:=(V1 d1).2.1
  exact Q7d dv hr (ok.sm d c0) (ok.nm d c0) (az.lift le) (bl.lift le) (dp r1 (.inl rfl)) (dp N (.inr rfl)) ed hi.1 hi.2 hK
 have R:=ah.nx ae fun k hk=>by rcases hk with rfl | rfl<;>assumption
 obtain ⟨c6,dm⟩:=Q33 (Mc l c.name) [] ([],[]) 0 X3N
 rw[List.nil_append,←Q9a] at c6 dm
 cases dj:(J8 Se ([],[]) (Mc l c.name) 0).1.isSome with
 | true=>
  have:Yt l c=true:=(Q4q _).2 (c6 dj)
  rw[if_pos this] at h
  refine J5 ?_
  exact h _ _ R
 | false=>
  have bn:=dm dj
  have:Yt l c=false:=by
   cases e:Yt l c with
   | false=>rfl
   | true=>exact absurd ((Q4q _).1 e) bn.no
  rw[if_neg (by rw[this];simp)] at h
  refine V0 ?_
  have y:=y.lift ae.le
  have A:=A.lift ae.le
  rw[fa]
  refine ld R.sat A rfl ?_
  unfold Oz at h
  cases dc:c.abs with
  | true=>
   rw[dc] at h
   refine J5 ?_
   exact h _ _ R
  | false=>
   rw[dc] at h
   simp only[Bool.not_false,Bool.true_and] at h
   refine V0 ?_
   refine Y0 R.sat (bl.lift ae.le) rfl ?_
   generalize fh:(J8 Se ([],[]) (Mc l c.name) 0).2=st at bn bp
   obtain ⟨es,ak,e1,e2,e3,e4⟩:=bp.2
   have df:ck N=none:=(ae.old N u.lt).trans u.1
   obtain ⟨cz,cq⟩:=X2e e2
   refine X4r (tm:=inferInstance) R.sat e1 fun ib fe eh d6 an d4=>?_
   have bz:=(Array.getElem?_eq_some_iff.1 e1).1
   refine Iy (fun d _ w'=> ∃(W:Q4) (O:Array Nat),d=es.toList.countP (fun e=> !O.contains e.born)∧Stp w σ w' W∧SLe ck W∧W N=none∧w'.heap[N]? =some (.map es ak)∧It W w' ib N es ak O∧ ∀e∈es.toList,e.born∈O→ ∀k,e.key=S k→Yh l c.name k=false) _
    ⟨eh, #[],rfl,R.trans an,⟨an.le⟩,(an.old N bz).trans df,(an.bel.block N bz).trans e1,d4,by simp⟩ ?_
   rintro cd d x dd fl ⟨cx,O,rfl,bx,ao,c3,a4,bc,a5⟩ dw
   have c7:w.heap.size≤ib:=Nat.le_trans R.bel.size d6
   refine X4k bc a4 e4 (fun cu=>?_) fun e db bo a2 bs b8 c1=>?_
   ·refine Z7 (vs:=[_]) rfl ?_
    refine V0 ?_
    have:((Vu l c.name).any fun m=>Yh l c.name m.name)=false:=by
     rw[List.any_eq_false]
     intro m hm
     obtain ⟨e,he,bi⟩:=cq m.name ((bn.c m.name).2 ⟨m,hm,rfl⟩)
     rw[a5 e he (cu e he) _ bi];simp
    rw[this] at h
    exact h _ _ bx
   ·refine Z7 (vs:=[_,_,_]) rfl ?_
    refine J5 ?_
    have ap:db.heap[N]? =some (.map es ak):=by
     rw[bs.block N (Array.getElem?_eq_some_iff.1 a4).1 (by omega)];exact a4
    have ch:=bc.1
    have ai:Stp w σ db cx:=bx.kp bs fun k hk=>by rw[hk];exact ⟨c7,ch⟩
    refine X3q c1 ap bo (e3.imp fun cf=>Nat.ne_of_lt cf) ?_
    refine Z7 (vs:=[_,_]) rfl ?_
    obtain ⟨k,bi,ee⟩:=cz e bo
    have eo:SLe ck cx:=ao
    refine Y0 ai.sat (y.lift ao) rfl ?_
    rw[fa]
    refine ld ai.sat (A.lift ao) rfl ?_
    rw[bi]
    refine Q6i ai.sat (ht.lift ⟨ai.le⟩) ok fun pv cv hv fj e8 L dg=>?_
    refine Z7 (vs:=[_,_,_]) rfl ?_
    refine Z7 (vs:=[_,_,_]) rfl ?_
    refine Z7 (vs:=[_,_,_]) rfl ?_
    refine Y5 L.sat (by rfl) rfl (Rep.one dg) fun e9 el d3 Y b0=>?_
    have ba:=(ai.trans L).trans Y
    have Q:Yh l c.name k=true→ ∀{w8:World} {σ8:Q4},Stp w σ w8 σ8→K (.int .i64 67) w8:=fun hb w8 σ8 q=>by
     obtain ⟨m,hm,b7⟩:=(bn.c k).1 ee
     have:((Vu l c.name).any fun m=>Yh l c.name m.name)=true:=List.any_eq_true.2 ⟨m,hm,by rw[b7];exact hb⟩
     rw[this] at h
     exact h _ _ q
    have b6:Yh l c.name k=false→cd () el:=fun hb=>by
     have cy: ∀e':MapEntry,e'.born∈O.push e.born↔e'.born∈O∨e'.born=e.born:=fun e'=>by simp
     refine dw _ _ _ ?_ ⟨d3,O.push e.born,rfl,ba,ao.more ⟨fun b o h=>Y.le _ _ (L.le _ _ h)⟩,?_,?_,(b8.step L).step Y,fun e' c4 d5 k' b9=>?_⟩
     ·refine Q45 (fun x _ hx=>?_) ⟨e,bo,?_,?_⟩
      ·simp only[Bool.not_eq_true',Array.contains_push,Bool.or_eq_false_iff] at hx⊢
       exact hx.1
      ·simpa using a2
      ·simp
     ·have a9:=(Array.getElem?_eq_some_iff.1 ap).1
      rw[Y.old N (Nat.lt_of_lt_of_le a9 L.bel.size),L.old N a9];exact c3
     ·have a9:=(Array.getElem?_eq_some_iff.1 ap).1
      rw[Y.bel.block N (Nat.lt_of_lt_of_le a9 L.bel.size),L.bel.block N a9];exact ap
     ·rcases (cy e').1 d5 with h1 | h1
      ·exact a5 e' c4 h1 k' b9
      ·have:e'=e:=by
        have em:(es.toList.map (·.born)).Nodup:=e3.imp fun cf=>Nat.ne_of_lt cf
        obtain ⟨i,hi,rfl⟩:=List.getElem_of_mem c4
        obtain ⟨j,hj,rfl⟩:=List.getElem_of_mem bo
        have h5:(es.toList.map (·.born))[i]'(by simpa using hi)=(es.toList.map (·.born))[j]'(by simpa using hj):=by simpa using h1
        have:=(List.getElem_inj em).1 h5
        subst this;rfl
       subst this
       rw[bi] at b9
       have:k=k':=by
        have:=b9
        simp at this
        exact this
       rw[←this];exact hb
    unfold Yh at Q b6
    cases dh:J0 l c.name k with
    | none=>
     rw[dh] at Q
     simp only[↓M2,M2,Mb,reduceIte,Option.isSome_none]
     exact Q rfl ba
    | some r=>
     rw[dh] at Q b6 b0
     simp only[↓M2,M2,Mb,reduceIte,Option.isSome_some]
     refine ld Y.sat b0 rfl ?_
     (try simp only[↓M2,M2,Mb,reduceIte])
     cases bj:r.2.abs with
     | true=>
      exact Q6 (fun _=>Q bj ba) (fun e=>absurd (bj.symm.trans e) (by simp))
     | false=>
      exact Q6 (fun e=>absurd (bj.symm.trans e) (by simp)) (fun _=>b6 bj))
end Go.Proofs.YtfppjenblllfaaaGreatDoor

namespace Go.Emb
open Go.RowKit Go.Hm
variable {P : Program} {w w0 w1 w' w'' : World} {K : Value → World → Prop} {σ σ0 σ1 σ' : Q4}
theorem X28 {t e:TypeId} {n by_:Nat} {z:Value} [ta:TA P t n e] [tz:TZ P e 1 by_ z] [tg:TG P e false] {cs:List Value} {i:Nat} {v:Value} (c:i<n) (b:cs[i]? =some v) (h:K v w):H2 P t (.agg cs.toArray) (I i) w K:=by
 unfold H2
 have a:(0:Int)≤i∧(i:Int)<n:=⟨by omega,by omega⟩
 rw[Y2 (v:=v) (w':=w) (by
  simp only[Instr.index,asIntOf,Sem.run_bind,Sem.run_pure,Result.andThen_ok,run_underlying ta.h,a,and_self,if_true,W5 tz,part,Je tg]
  simp[b])]
 exact h
theorem Q92 {α:Type} {R:Q4→α→List Value→Prop} {B sz:Nat} {e:TypeId} {v:Value} {xs:List α} {a t:TypeId} {cs:List Bool} [ts:TS P a e] (h:V3 B e sz R σ w v xs) (b:K (I xs.length) w):X5 P .len [a] t cs [v] w K:=Vi (J6.of_acc h) b
theorem Q4d {α:Type} {R:Q4→α→List Value→Prop} {B sz:Nat} {e:TypeId} {v:Value} {xs:List α} (h:V3 B e sz R σ w v xs):v.cells= #[v]∧v.oneCell'=true:=by
 obtain ⟨cells,c,_⟩:=h
 rcases c.2 with ⟨rfl,_⟩ | ⟨g,b,a,rfl,_⟩<;>exact ⟨rfl,rfl⟩
end Go.Emb
namespace Go.Proofs.YtfppjenblllfaaaGreatDoor
open Go.Emb Go.RowKit Go.Kd Go.Hm
variable {w : World} {K : Value → World → Prop} {σ : Q4} {v : Value} {l : List Cla}
theorem X2g (C:X4 w σ) (B:Glb σ) (h: ∀r w' σ',Stp w σ w' σ'→V3 w.heap.size T.b 8 V4 σ' w' r G3→K r w'):Q0 P F.cG [] w K:=Q5v (by
 unfold Q0e
 refine W4 (cells:= #[S J4,S [], .slice none 0 0, .bool false, .bool false, .bool false, .slice none 0 0, .slice none 0 0]) (by kernel_rfl) ?_
 refine W4 (cells:= #[S T1,S O9, .bool false]) (by kernel_rfl) ?_
 refine O4 (R:=E5) (sz:=3) C [.agg #[S T1,S O9, .bool false]] [⟨T1,O9,false⟩] rfl rfl (by simp;rfl) rfl ⟨⟨rfl,by decide,by decide⟩,trivial⟩ fun N w1 σ1 f p=>?_
 have o:=p
 obtain ⟨y,b,rfl,_⟩:=o
 refine W4 (cells:= #[S W3,S J4, .slice none 0 0, .bool false, .bool false, .bool false, .slice y 1 b, .slice none 0 0]) (by kernel_rfl) ?_
 refine Xj (R:=V4) (sz:=8) f [.agg #[S J4,S [], .slice none 0 0, .bool false, .bool false, .bool false, .slice none 0 0, .slice none 0 0], .agg #[S W3,S J4, .slice none 0 0, .bool false, .bool false, .bool false, .slice y 1 b, .slice none 0 0]]
  [⟨J4,[],[],false,false,false,[],[]⟩,⟨W3,J4,[],false,false,false,[⟨T1,O9,false⟩],[]⟩] rfl rfl (by simp;exact ⟨rfl,rfl⟩) rfl
  ⟨⟨_,_,_,rfl,Sl.nil,Sl.nil,Sl.nil,by decide,by decide⟩,⟨_,_,_,rfl,Sl.nil,p,Sl.nil,by decide,by decide⟩,trivial⟩ fun M L m g _=>?_
 have u:=B.lift ⟨f.le⟩
 refine Z2 (cs:=U2.map S) m.sat u.flt rfl ?_
 refine E3 6 (fun n a w'=> ∃σ',Stp w σ w' σ'∧V3 w.heap.size T.b 8 V4 σ' w' a ([⟨J4,[],[],false,false,false,[],[]⟩,⟨W3,J4,[],false,false,false,[⟨T1,O9,false⟩],[]⟩]++(U2.take n).map fun n=>⟨n,W3,[],false,false,true,[],[]⟩)) ⟨σ1,f.trans m,g⟩ fun n a E d J k=>?_
 obtain ⟨H,j,e⟩:=k
 have z:U2.length=6:=rfl
 refine Z4 ?_
 refine Q6 (fun hh=>?_) (fun hh=>?_)
 ·have c:n<6:=by have:=of_decide_eq_true hh;omega
  refine X28 (v:=S (U2[n]'(by omega))) c (by rw[List.getElem?_map,List.getElem?_eq_getElem (by omega)];rfl) ?_
  refine W4 (cells:= #[S (U2[n]'(by omega)),S W3, .slice none 0 0, .bool false, .bool false, .bool true, .slice none 0 0, .slice none 0 0]) (by kernel_rfl) ?_
  have i:(U2[n]'(by omega)).length≤10:=by
   have: ∀x∈U2,x.length≤10:=by decide
   exact this _ (List.getElem_mem _)
  refine Us (x:=⟨U2[n]'(by omega),W3,[],false,false,true,[],[]⟩) j e ⟨_,_,_,rfl,Sl.nil,Sl.nil,Sl.nil,Nat.le_trans i (by decide),(by decide:W3.length≤Y9)⟩ rfl rfl rfl (by simp;omega) (by simp;omega) fun s r O A D q t _=>?_
  refine H3 ?_
  refine J1 (by omega) c ⟨A,q,?_⟩
  rw[List.take_add_one,List.getElem?_eq_getElem (by omega),List.map_append,←List.append_assoc]
  exact t
 ·have c: ¬n<6:=by have:=of_decide_eq_false hh;omega
  rw[List.take_of_length_le (by omega)] at e
  exact h _ _ _ j e)
end Go.Proofs.YtfppjenblllfaaaGreatDoor

namespace Go.Hm
open Go.Kd
def M0 {α:Type} (f:α→Int):List α→Nat→Option (Nat×Int)
 | [],_=>none
 | x::r,i=>if f x=0 then M0 f r (i+1) else some (i,f x)
theorem I7 {α:Type} {f:α→Int}: ∀{l:List α} {i:Nat},M0 f l i=none→ ∀x∈l,f x=0
 | [],_,_=>by simp
 | x::r,i,h=>by
  simp only[M0] at h
  split at h
  ·rename_i a
   intro y hy
   rcases List.mem_cons.1 hy with rfl | hy
   ·exact a
   ·exact I7 h y hy
  ·cases h
def Rp (a:List Cla):Option Nat:=(List.range a.length).find? fun i=>(Y7 (a.take i) (Y3 a i)).isSome
def Q7 (l:List Cla):List Cla:=G3++l
def Hw (a:Cla→Int) (l:List Cla):Option (Int×Int):=match M0 a l 0 with
 | some (i,e)=>some (i,e)
 | none=>match Rp (Q7 l) with
  | some i=>some ((i:Int)-8,60)
  | none=>match M0 (fun c=>(M4 (Q7 l) c:Int)) l 0 with
   | some (i,e)=>some (i,e)
   | none=>match l.findIdx? (K0 (Q7 l)) with
    | some i=>some (i,63)
    | none=>match (V5 (Q7 l) 8).find? fun j=> !decide (V7 (Q7 l) ((Q7 l).getD j Cla.zero)=0) with
     | some j=>some ((j:Int)-8,V7 (Q7 l) ((Q7 l).getD j Cla.zero))
     | none=>none
theorem Q63 {s:Q9} (h:name s=true):s.length≤32:=by
 cases s with
 | nil=>simp
 | cons c r=>simp only[name,Bool.and_eq_true,decide_eq_true_eq] at h;exact h.1.1
theorem X1l {s:Q9} (h:W7 s=true):s.length≤32:=Q63 (Mv (by rw[h,Bool.or_true]))
theorem Q8r {s:Q9} (h:M5 s=true):s.length≤32:=by
 cases s with
 | nil=>simp
 | cons c r=>simp only[M5,Bool.and_eq_true] at h;exact Q63 h.1
theorem Ky {a:List Cla} (h:Rp a=none):K4 a:=by
 unfold Rp at h
 rw[List.find?_eq_none] at h
 unfold K4
 rw[List.nodup_iff_pairwise_ne,List.pairwise_iff_getElem]
 intro i j k b f e
 simp only[List.length_map] at k b
 have:=h j (by simp;exact b)
 apply this
 simp only[List.getElem_map] at e
 cases d:Y7 (a.take j) (Y3 a j) with
 | some _=>rfl
 | none=>
  have c:=List.findIdx?_eq_none_iff.1 d a[i] (List.mem_take_iff_getElem.2 ⟨i,by omega,rfl⟩)
  have g:Y3 a j=a[j].name:=by unfold Y3;rw[List.getD_eq_getElem?_getD,List.getElem?_eq_getElem b];rfl
  rw[g] at c
  simp[e] at c
theorem Jf: ∀c∈G3,Qn c∧Nm c∧c.like=[]:=by
 have h: ∀c∈G3,(c.like=[]∧c.methods=[]∧c.fields.length≤1∧c.name.length≤100∧ ∀f∈c.fields,f.name.length≤100∧f.kind.length≤100):=by decide
 intro c e
 obtain ⟨b,a,i,d,g⟩:=h c e
 refine ⟨⟨by rw[b];simp,by omega,by rw[a];simp,by rw[a];simp⟩,⟨d,g,by rw[a];simp⟩,b⟩
theorem X1u: ∀c∈G3,(c.name=J4∧J9 c=[[]])∨(c.name=W3∧J9 c=[J4])∨(c.name∈U2∧J9 c=[W3]):=by decide
theorem Q6g {l:List Cla} (q:K4 (Q7 l)) (v: ∀c∈l,c.name≠[]) (t: ∀c∈l,K0 (Q7 l) c=false):Yz (Q7 l):=by
 have k:lk (Q7 l) []=none:=by
  cases h:lk (Q7 l) [] with
  | none=>rfl
  | some c=>
   obtain ⟨e,hm,_⟩:=V1 h
   rcases List.mem_append.1 hm with hm | hm
   ·have: ∀c∈G3,c.name≠[]:=by decide
    exact absurd e (this c hm)
   ·exact absurd e (v c hm)
 have j:lk (Q7 l) J4=some ⟨J4,[],[],false,false,false,[],[]⟩:=q.lk (c:=⟨J4,[],[],false,false,false,[],[]⟩) (List.mem_append_left _ (by decide))
 have i:lk (Q7 l) W3=some ⟨W3,J4,[],false,false,false,[⟨T1,O9,false⟩],[]⟩:=q.lk (c:=⟨W3,J4,[],false,false,false,[⟨T1,O9,false⟩],[]⟩) (List.mem_append_left _ (by decide))
 have p: ∀b,¬Reach (lk (Q7 l)) [] b:=fun b h=>by obtain ⟨c,d⟩:=h.left;rw[k] at d;cases d
 have o: ∀b,Reach (lk (Q7 l)) J4 b→b=J4:=by
  intro b h
  cases h with
  | refl=>rfl
  | step d f g=>
   rw[j] at d;cases d
   simp[J9] at f;subst f
   exact absurd g (p b)
 have y: ∀b,Reach (lk (Q7 l)) W3 b→b=W3∨b=J4:=by
  intro b h
  cases h with
  | refl=>exact .inl rfl
  | step d f g=>
   rw[i] at d;cases d
   simp[J9] at f;subst f
   exact .inr (o b g)
 rintro a ⟨c,d,u,f,g⟩
 obtain ⟨e,hm,_⟩:=V1 d
 rcases List.mem_append.1 hm with hm | hm
 ·rcases X1u c hm with ⟨m,n⟩ | ⟨m,n⟩ | ⟨m,n⟩<;>rw[n] at f<;>simp at f<;>subst f
  ·exact p _ g
  ·have:=o _ g
   rw[←e,m] at this
   exact absurd this (by decide)
  ·have r: ∀x∈U2,x≠W3∧x≠J4:=by decide
   obtain ⟨z,w⟩:=r _ m
   rw[←e] at g
   rcases y _ g with h | h
   ·exact z h
   ·exact w h
 ·have:=t c hm
  unfold K0 at this
  have s:=List.any_eq_false.1 this u f
  apply s
  rw[List.contains_iff_mem,Js,e];exact g
end Go.Hm
namespace Go.Proofs.YtfppjenblllfaaaGreatDoor
open Go.Emb Go.RowKit Go.Kd Go.Hm
theorem Q3T {s:Q9} (h:right s=true):s.length≤38:=by
 simp only[right,Bool.and_eq_true,decide_eq_true_eq] at h
 have e:=Q1g s
 have:(base s).1.length≤32:=by
  have d:=h.2
  have a:=Mv d
  cases b:(base s).1 with
  | nil=>simp
  | cons c r=>
   rw[b] at a
   simp only[name,Bool.and_eq_true,decide_eq_true_eq] at a
   exact a.1.1
 omega
theorem Bo {c:Cla} (h:M7 c=0):Qn c∧Nm c∧c.name≠[]:=by
 unfold M7 at h
 split at h
 ·cases h
 ·rename_i b
  split at h
  ·rename_i j
   simp only[Yv,Bool.or_eq_true,decide_eq_true_eq,not_or,List.any_eq_true,not_exists,not_and] at b
   obtain ⟨⟨⟨n,v⟩,s⟩,B⟩:=b
   simp only[Lj,Bool.and_eq_true] at j
   obtain ⟨⟨⟨⟨⟨⟨⟨⟨o,z⟩,t⟩,w⟩,u⟩,A⟩,y⟩,k⟩,l⟩:=j
   have a:W7 c.name=true:=List.all_eq_true.1 o c.name (by simp)
   have d: ∀m∈c.methods,m.params.length≤32∧m.catches.length≤32∧m.code.length≤200:=fun m b=>by
    have:=n m b
    simp only[Vk,Bool.or_eq_true,decide_eq_true_eq,not_or] at this
    omega
   refine ⟨⟨by omega,by omega,by omega,fun m b=>by have:=d m b;unfold SmM;omega⟩,⟨by have:=X1l a;omega,fun f q=>?_,fun m b=>?_⟩,fun e=>by rw[e] at a;simp[W7] at a⟩
   ·have:=List.all_eq_true.1 k f q
    simp only[Dt,Bool.and_eq_true] at this
    have i:=Q8r this.1
    have g:=Q3T this.2
    omega
   ·have:=List.all_eq_true.1 l m b
    simp only[F7,Bool.and_eq_true,Bool.or_eq_true,decide_eq_true_eq,List.all_eq_true] at this
    obtain ⟨⟨⟨_,i⟩,g⟩,_⟩:=this
    refine ⟨?_,fun p r=>by have:=Q3T (i p r);omega⟩
    rcases g with e | e
    ·rw[e];simp
    ·have:=Q3T e;omega
  ·cases h
end Go.Proofs.YtfppjenblllfaaaGreatDoor

namespace Go.Hm
open Go.Kd
theorem Vh {α:Type} {f:α→Int} {xs:List α} {n:Nat} (h:n<xs.length) (a:M0 f xs 0=M0 f (xs.drop n) n):M0 f xs 0=if f xs[n]=0 then M0 f (xs.drop (n+1)) (n+1) else some (n,f xs[n]):=by
 rw[a,List.drop_eq_getElem_cons h];rfl
theorem Q9f {a:List Cla} {n:Nat} (h:n<a.length) (k:Q9):Y7 (a.take (n+1)) k=match Y7 (a.take n) k with
 | some i=>some i
 | none=>if a[n].name=k then some n else none:=by
 unfold Y7
 rw[List.take_add_one,List.getElem?_eq_getElem h]
 simp only[Option.toList_some,List.findIdx?_append]
 cases (a.take n).findIdx? fun c=>decide (c.name=k) with
 | some i=>rfl
 | none=>
  simp only[Option.none_or,List.findIdx?_cons,List.findIdx?_nil,List.length_take]
  by_cases e:a[n].name=k
  ·simp[e];omega
  ·simp[e]
end Go.Hm
namespace Go.Proofs.YtfppjenblllfaaaGreatDoor
open Go.Emb Go.RowKit Go.Kd Go.Hm
variable {w : World} {K : Value → World → Prop} {σ : Q4} {v : Value} {l : List Cla}
theorem Kr {a:List Cla} {n:Nat} (h:n<a.length):Y3 a n=a[n].name:=by unfold Y3;rw[List.getD_eq_getElem?_getD,List.getElem?_eq_getElem h];rfl
set_option maxHeartbeats 1000000 in
theorem X4c {lv:Value} (hs:X4 w σ) (hg:Glb σ) (hl:Sl 8 V4 σ lv l) (hlen:l.length≤1000) (hsm: ∀c∈l,Qn c)
 (h1: ∀i e w' σ',Hw M7 l=some (i,e)→Stp w σ w' σ'→K (.tuple #[.pointer none,I i,I e]) w')
 (h0: ∀v w' σ',Hw M7 l=none→Stp w σ w' σ'→Tab σ' v (Q7 l)→Ok (Q7 l)→K4 (Q7 l)→K (.tuple #[v,I 0,I 0]) w'):Q0 P F.cP [lv] w K:=Q8q (by
 unfold Q2z
 have hgl:G3.length=8:=rfl
 have hal:(Q7 l).length=8+l.length:=by simp[Q7,hgl]
 refine X2g hs hg fun x0 w1 σ1 hk1 ha1=>?_
 refine Q0f hk1.sat fun r w2 hr hk2 hm2=>?_
 have ha2:=ha1.up hk2
 have hx0:x0.cells= #[x0]∧x0.oneCell'=true:=Q4d ha1
 have hx0s: ∃a n c,x0= .slice a n c:=by
  obtain ⟨cells,q1,_⟩:=ha1
  rcases q1.2 with ⟨rfl,_⟩ | ⟨g,cap,cur,rfl,_⟩<;>exact ⟨_,_,_,rfl⟩
 have hx0r:x0.ownBlock≠some r:=fun e=>by have:=(ha1.mem r e).2.1;omega
 obtain ⟨a0,n0,c0,hx0e⟩:=hx0s
 rw[hx0e]
 refine W4 (cells:= #[.slice a0 n0 c0, .map (some r)]) (by kernel_rfl) ?_
 rw[←hx0e]
 refine Q0r (cs:=[x0, .map (some r)]) hk2.sat fun bt w3 σ3 hbt hk3 hbm=>?_
 have hS3:=(hk1.trans hk2).trans hk3
 have ha3:=ha2.up hk3
 have hm3:=hm2.up hk3
 have hrw:w.heap.size≤r:=Nat.le_trans hk1.bel.size hr
 have hrl:r<w2.heap.size:=hm2.lt
 have hbtw:w.heap.size≤bt:=Zq hbt (hk1.trans hk2)
 have hrbt:r≠bt:=by omega
 have hx0b:x0.ownBlock≠some bt:=fun e=>by have:=(ha2.mem bt e).2.1;omega
 rw[H7,fa]
 refine B4 hbm rfl ?_
 refine Q92 ha3 ?_
 rw[hgl]
 have hl3:=hl.up hS3
 refine X0 hl3 ?_
 -- classes, each by itself
 refine U4 l.length (fun n w'=> ∃σ' x,Stp w σ w' σ'∧SLe σ3 σ'∧Z9 σ' w' bt [x, .map (some r)]∧V3 w.heap.size T.b 8 V4 σ' w' x (G3++l.take n)∧H0 σ' w' r []∧x.ownBlock≠some bt∧x.ownBlock≠some r∧M0 M7 l 0=M0 M7 (l.drop n) n)
  ⟨σ3,x0,hS3,SLe.refl _,hbm,by simpa using ha3,hm3,hx0b,hx0r,rfl⟩ fun n w4 d hn hinv=>?_
 obtain ⟨σ4,x,hS4,le4,hb4,ha4,hm4,hxb,hxr,hfb⟩:=hinv
 refine Z4 ?_
 refine Q6 (fun hh=>?_) (fun hh=>?_)
 ·have hn':n<l.length:=by simpa using hh
  refine M6 (hl3.lift le4) hn' fun p cells hl1 hl2 hr1=>?_
  refine Z2 hS4.sat hl1 hl2 ?_
  refine Y5 hS4.sat (by rfl) hl2 (Rep.one hr1) fun q w5 σ5 hk5 hq5=>?_
  have hS5:=hS4.trans hk5
  have hr5:=RCl_lift hr1 ⟨hk5.le⟩
  refine Z2 hk5.sat hq5 hl2 ?_
  have hsmn:=hsm _ (List.getElem_mem hn')
  refine X34 hk5.sat (hg.lift ⟨hS5.le⟩) hr5 hsmn.1 fun w6 σ6 hk6=>?_
  have hS6:=hS5.trans hk6
  have hfb2:=Vh hn' hfb
  refine A0 ?_
  refine Q6 (fun hh2=>?_) (fun hh2=>?_)
  ·have hne: ¬M7 l[n]=0:=by simpa using hh2
   rw[if_neg hne] at hfb2
   refine h1 _ _ _ _ ?_ hS6
   unfold Hw
   rw[hfb2]
  ·have hz:M7 l[n]=0:=by simpa using hh2
   rw[if_pos hz] at hfb2
   have hk56:=hk5.trans hk6
   have hb6:=hb4.up hk56
   have ha6:=ha4.up hk56
   have hm6:=hm4.up hk56
   have hq6:=hq5.up hk6
   have hr6:=RCl_lift hr5 ⟨hk6.le⟩
   have hxs: ∀k,x.ownBlock=some k→k<w6.heap.size:=fun k hk=>(ha6.mem k hk).2.1
   refine U8 hk6.sat ?_
   refine X2 (.pointer (some ⟨bt,0,none⟩)) (fun w hb=>by rw[H7];exact X6 rfl) ?_
   refine X2 (.pointer (some ((⟨bt,0,none⟩:Addr).add 0))) (fun t w hb e=>by rw[e,fa];exact X6 rfl) ?_
   refine X2 x (fun t w hb e=>by rw[e];exact B4 (hb6.step hb.stp) rfl (X6 rfl)) ?_
   refine X2 (.agg cells.toArray) (fun w hb=>Z2 hb.sat hq6 hl2 (X6 rfl)) ?_
   refine Hc (Φ:=fun σ' v=> ∃ds:List Value,v= .agg ds.toArray∧ds.length=8∧V4 σ' l[n] ds) (fun t w hb e=>by
    rw[e];exact X0T hb.sat hr6 hsmn fun lv fv mv w' σ' hk hrc=>Ar hb hk ⟨_,rfl,rfl,hrc⟩) ?_
   refine Hc (w:=w6) (σ:=σ6) (Φ:=fun σ' v=>Sl 8 V4 σ' v [l[n]]) (fun t w hb e=>by
    obtain ⟨σ',hk,ds,rfl,hd1,hd2⟩:=e
    refine O4 (R:=V4) (sz:=8) hk.sat [.agg ds.toArray] [l[n]] rfl rfl (by simpa [Value.cells] using hd1) rfl ⟨by simpa [Value.cells] using hd2,trivial⟩ fun u w2 σ2 hk2 hu=>?_
    exact ⟨hk2.bel,σ2,hk.trans hk2,hu⟩) ?_
   rintro t43 t44 t45 t46 t47 t48 w7 hb7 _ _ e45 _ _ ⟨σ8,hk8,hu8⟩
   subst e45
   have hS8:=hS6.trans hk8
   have hb8:=hb6.up hk8
   have ha8:=ha6.up hk8
   have hm8:=hm6.up hk8
   have hbl:=hb6.lt
   have hml:=hm6.lt
   refine Hp hS8 ha8 hu8 rfl (by simp[hgl];omega) (by simp[hgl];omega) fun x' w9 hn9 hS9 ha9 hat9=>?_
   have hb9:=hb8.nx hn9 hxb
   have hm9:=hm8.nx hn9 hxr
   have hxb':x'.ownBlock≠some bt:=fun e=>by
    rcases hat9 with e2 | e2
    ·exact hxb (e2▸e)
    ·have:=e2 bt e;have:=hk8.bel.size;omega
   have hxr':x'.ownBlock≠some r:=fun e=>by
    rcases hat9 with e2 | e2
    ·exact hxr (e2▸e)
    ·have:=e2 r e;have:=hk8.bel.size;omega
   obtain ⟨hxc1,hxc2⟩:=Q4d ha9
   rw[H7,fa]
   refine Og hb9 (by simp) hxc1 hxc2 fun w10 u10 hb10=>?_
   have hS10:=u10.stp hS9 hbtw hb9.1
   have k10:Kpt (fun k=>k=bt) w9 w10:=Kpt.of_upd u10 rfl
   refine H3 ?_
   refine Y6 hl3.max hn' ⟨σ8,x',hS10,le4.more ⟨fun b o e=>hk8.le _ _ (hk56.le _ _ e)⟩,hb10,?_,hm9.kp k10 hrbt,hxb',hxr',hfb2⟩
   have:=ha9.kp k10 fun k hk e=>hxb' (e▸hk)
   rw[List.take_add_one,List.getElem?_eq_getElem hn',←List.append_assoc]
   exact this
 have hn': ¬n<l.length:=by simpa using hh
 rw[List.take_of_length_le (by omega)] at ha4
 rw[List.drop_eq_nil_of_le (by omega)] at hfb
 have hfb:M0 M7 l 0=none:=hfb
 have hck:=I7 hfb
 have hcf: ∀c∈l,Qn c∧Nm c∧c.name≠[]:=fun c hc=>Bo (hck c hc)
 have hsmall: ∀c∈Q7 l,Qn c:=fun c hc=>by
  rcases List.mem_append.1 hc with hc | hc
  ·exact (Jf c hc).1
  ·exact (hcf c hc).1
 have hnmall: ∀c∈Q7 l,Nm c:=fun c hc=>by
  rcases List.mem_append.1 hc with hc | hc
  ·exact (Jf c hc).2.1
  ·exact (hcf c hc).2.1
 have hlenall:(Q7 l).length≤100000:=by omega
 unfold Hw at h1 h0
 rw[hfb] at h1 h0
 simp only at h1 h0
 -- from now on the classes stay
 obtain ⟨σ5,hS5,hv5,le5,old5⟩:=ha4.keep hS4
 have hb5:Z9 σ5 w4 bt _:=⟨(old5 bt fun e=>hxb e.symm).trans hb4.1,hb4.2⟩
 have hm5:H0 σ5 w4 r []:=⟨(old5 r fun e=>hxr e.symm).trans hm4.1,hm4.2⟩
 obtain ⟨σ6,hS6,hb6,le6,old6⟩:=hb5.keep hS5 hbtw
 have hm6:H0 σ6 w4 r []:=⟨(old6 r hrbt).trans hm5.1,hm5.2⟩
 have hv6:Sl 8 V4 σ6 x (Q7 l):=hv5.le le6
 clear hb5 hb4 ha4
 rw[H7,fa]
 refine ld hS6.sat hb6 rfl ?_
 refine X0 hv6 ?_
 refine U4 (Q7 l).length (fun n w'=> ∃σ' m,Stp w σ w' σ'∧SLe σ6 σ'∧H0 σ' w' r m∧(∀k,M9 m k=(Y7 ((Q7 l).take n) k).map (fun i:Nat=>I (i:Int)))∧ ∀j,j<n→(Y7 ((Q7 l).take j) (Y3 (Q7 l) j)).isSome=false)
  ⟨σ6,[],hS6,SLe.refl _,hm6,by simp[M9,Y7],by intro j hj;omega⟩ fun n w5 d hn2 hinv=>?_
 obtain ⟨σ7,m,hS7,le7,hm7,hlm,hnd⟩:=hinv
 refine Z4 ?_
 refine Q6 (fun hh2=>?_) (fun hh2=>?_)
 ·have hn3:n<(Q7 l).length:=by simpa using hh2
  refine M6 (hv6.lift le7) hn3 fun p cells hl1 hl2 hr1=>?_
  refine Z2 hS7.sat hl1 hl2 ?_
  refine Y5 hS7.sat (by rfl) hl2 (Rep.one hr1) fun q w6 σ8 hk8 hq8=>?_
  obtain ⟨lv',fv,mv,rfl,f1,f2,f3,f4,f5⟩:=hr1
  have hS8:=hS7.trans hk8
  have le8:SLe σ6 σ8:=le7.more ⟨hk8.le⟩
  have hm8:=hm7.up hk8
  have hb8:=hb6.lift le8
  rw[fa]
  refine ld hk8.sat hq8 rfl ?_
  refine Eb ?_
  unfold Zr
  rw[H7,fa]
  refine ld hk8.sat hb8 rfl ?_
  refine Q5Y X7 hm8.2 _ ?_
  refine Z7 (vs:=[_,_]) rfl ?_
  refine Z7 (vs:=[_,_]) rfl ?_
  have hna:=Kr hn3
  have hfd:=hlm (Q7 l)[n].name
  cases hfc:Y7 ((Q7 l).take n) (Q7 l)[n].name with
  | some i=>
   rw[hfc] at hfd
   rw[hfd]
   refine J5 ?_
   have hdup:Rp (Q7 l)=some n:=by
    unfold Rp
    rw[List.find?_range_eq_some]
    refine ⟨by rw[hna,hfc];rfl,by simpa using hn3,fun j hj=>by rw[hnd j hj];rfl⟩
   refine Hu ⟨by omega,by omega⟩ ?_
   refine h1 _ _ _ _ ?_ hS8
   rw[hdup]
   rfl
  | none=>
   rw[hfc] at hfd
   rw[hfd]
   refine V0 ?_
   refine U8 hk8.sat ?_
   refine X2 (.pointer (some ⟨bt,0,none⟩)) (fun w hb=>by rw[H7];exact X6 rfl) ?_
   refine X2 (.pointer (some ((⟨bt,0,none⟩:Addr).add 1))) (fun t w hb e=>by rw[e,fa];exact X6 rfl) ?_
   refine X2 (.pointer (some (q.add 0))) (fun w hb=>by rw[fa];exact X6 rfl) ?_
   refine X2 (.map (some r)) (fun t w hb e=>by rw[e];exact ld hb.sat hb8 rfl (X6 rfl)) ?_
   refine X2 (S (Q7 l)[n].name) (fun t w hb e=>by rw[e];exact ld hb.sat hq8 rfl (X6 rfl)) ?_
   rintro t71 t72 t74 t73 t75 w9 hb9 _ _ _ rfl rfl
   refine He X7 (hm8.up hb9.stp) _ (I n) fun w10 u10 hm10=>?_
   have hS9:=hS8.trans hb9.stp
   have hS10:=u10.stp hS9 hrw hm10.1
   refine H3 ?_
   refine Y6 (by omega) hn3 ⟨σ8,_,hS10,le8,hm10,fun k=>?_,fun j hj=>?_⟩
   ·rw[Q4I,Q9f hn3 k]
    by_cases e:(Q7 l)[n].name=k
    ·subst e
     rw[if_pos rfl,hfc];simp
    ·rw[if_neg e,hlm k]
     cases Y7 ((Q7 l).take n) k with
     | some i=>rfl
     | none=>simp[e]
   ·by_cases e:j=n
    ·subst e;rw[hna,hfc];rfl
    ·exact hnd j (by omega)
 have hn3: ¬n<(Q7 l).length:=by simpa using hh2
 have hne:n=(Q7 l).length:=by omega
 subst hne
 rw[List.take_of_length_le (Nat.le_refl _)] at hlm
 have hdup:Rp (Q7 l)=none:=by
  unfold Rp
  rw[List.find?_eq_none]
  intro j hj
  rw[hnd j (by simpa using hj)];simp
 rw[hdup] at h1 h0
 simp only at h1 h0
 have hown:=Ky hdup
 obtain ⟨σ8,hS8,hm8,le8,_⟩:=hm7.keep hS7 hrw
 have le68:SLe σ6 σ8:=le7.more ⟨le8⟩
 have ht8:Tab σ8 (.pointer (some ⟨bt,0,none⟩)) (Q7 l):=⟨⟨bt,0,none⟩,x,r,m,rfl,hb6.lift le68,hv6.lift le68,hm8,hlm⟩
 have hb8:=hb6.lift le68
 have hv8:=hv6.lift le68
 clear hm7 hm8 hh2 hn3 hn2 hh hn' hn hnd
 have hdr:(Q7 l).drop 8=l:=by simp[Q7,hgl]
 rw[H7,fa]
 refine ld hS8.sat hb8 rfl ?_
 refine Bw hv8 (some (I (8:Nat))) none 8 (Q7 l).length (.inr rfl) (.inl ⟨rfl,rfl⟩) (by omega) (Nat.le_refl _) fun v9 hv9=>?_
 rw[hdr,List.take_of_length_le (by omega)] at hv9
 refine X0 hv9 ?_
 refine U4 l.length (fun n w'=> ∃σ',Stp w σ w' σ'∧SLe σ8 σ'∧M0 (fun c=>(M4 (Q7 l) c:Int)) l 0=M0 (fun c=>(M4 (Q7 l) c:Int)) (l.drop n) n) ⟨σ8,hS8,SLe.refl _,rfl⟩ fun n w6 d hn hinv=>?_
 obtain ⟨σ9,hS9,le9,hfu⟩:=hinv
 refine Z4 ?_
 refine Q6 (fun hh=>?_) (fun hh=>?_)
 ·have hn':n<l.length:=by simpa using hh
  refine M6 (hv9.lift le9) hn' fun p cells hl1 hl2 hr1=>?_
  refine Z2 hS9.sat hl1 hl2 ?_
  refine Y5 hS9.sat (by rfl) hl2 (Rep.one hr1) fun q w7 σ10 hk10 hq10=>?_
  have hS10:=hS9.trans hk10
  refine Z2 hk10.sat hq10 hl2 ?_
  have hfu2:=Vh hn' hfu
  refine X0K hk10.sat (ht8.lift (le9.more ⟨hk10.le⟩)) (RCl_lift hr1 ⟨hk10.le⟩) fun w8 σ11 hk11=>?_
  refine A0 ?_
  refine Q6 (fun hh2=>?_) (fun hh2=>?_)
  ·have hne: ¬(M4 (Q7 l) l[n]:Int)=0:=by simpa using hh2
   rw[if_neg hne] at hfu2
   refine h1 _ _ _ _ ?_ (hS10.trans hk11)
   rw[hfu2]
  ·have hz:(M4 (Q7 l) l[n]:Int)=0:=by simpa using hh2
   rw[if_pos hz] at hfu2
   refine H3 ?_
   exact Y6 hl3.max hn' ⟨σ11,hS10.trans hk11,le9.more ⟨fun b o e=>hk11.le _ _ (hk10.le _ _ e)⟩,hfu2⟩
 have hn': ¬n<l.length:=by simpa using hh
 rw[List.drop_eq_nil_of_le (by omega)] at hfu
 have hfu:M0 (fun c=>(M4 (Q7 l) c:Int)) l 0=none:=hfu
 rw[hfu] at h1 h0
 simp only at h1 h0
 have hup:=I7 hfu
 have ht9:=ht8.lift le9
 clear hh hn' hn
 rw[H7,fa]
 refine ld hS9.sat (hb8.lift le9) rfl ?_
 refine Bw (hv8.lift le9) (some (I (8:Nat))) none 8 (Q7 l).length (.inr rfl) (.inl ⟨rfl,rfl⟩) (by omega) (Nat.le_refl _) fun v10 hv10=>?_
 rw[hdr,List.take_of_length_le (by omega)] at hv10
 rw[Xd]
 refine Fk (K0 (Q7 l)) hS9.sat hv10 (fun c cs w7 K hc hs7 hr hlen hK=>X8 (first:=[.pointer (some ⟨bt,0,none⟩)]) (caps:=[]) ?_) fun w7 hb7=>?_
 ·exact X2c hs7 ht9 hlenall hsmall hr fun w' σ' hk=>hK w' hk.bel
 have hS10:=hS9.trans (Stp.of_below hS9.sat hb7)
 refine G1 ?_
 rw[Jp]
 cases hlo:l.findIdx? (K0 (Q7 l)) with
 | some i=>
  refine J5 ?_
  refine h1 _ _ _ _ ?_ hS10
  rw[hlo];rfl
 | none=>
  rw[hlo] at h1 h0
  simp only at h1 h0
  refine V0 ?_
  have hlo': ∀c∈l,K0 (Q7 l) c=false:=fun c hc=>List.findIdx?_eq_none_iff.1 hlo c hc
  have hacy:=Q6g hown (fun c hc=>(hcf c hc).2.2) hlo'
  have hfull:Full (Q7 l):=fun c hc u hu=>by
   rcases List.mem_append.1 hc with hc | hc
   ·rw[(Jf c hc).2.2] at hu;simp at hu
   ·have:=hup c hc
    unfold M4 at this
    split at this
    ·simp at this
    ·split at this
     ·simp at this
     ·rename_i hnb
      have hnb:c.like.any (D6 (Q7 l))=false:=eq_false_of_ne_true hnb
      have:=List.any_eq_false.1 hnb u hu
      unfold D6 at this
      cases hd:lk (Q7 l) u with
      | none=>rw[hd] at this;simp at this
      | some d=>exact ⟨d,rfl⟩
  have hok:Ok (Q7 l):=⟨hacy,hlenall,hsmall,hfull,hnmall⟩
  refine X2H (frm:=8) hS10.sat (ht9.lift ⟨(Stp.of_below hS9.sat hb7).le⟩) hacy hown hlenall hsmall (by omega) (by omega) fun v11 w8 σ11 hk11 hv11 hol hoi=>?_
  have hS11:=hS10.trans hk11
  have ht11:=ht9.lift ⟨fun b o e=>hk11.le _ _ e⟩
  refine X0 hv11 ?_
  have hil:(ints (V5 (Q7 l) 8)).length=(V5 (Q7 l) 8).length:=by simp
  rw[hil]
  refine U4 (V5 (Q7 l) 8).length (fun n w'=> ∃σ',Stp w σ w' σ'∧SLe σ11 σ'∧ ∀j∈(V5 (Q7 l) 8).take n,V7 (Q7 l) ((Q7 l).getD j Cla.zero)=0) ⟨σ11,hS11,SLe.refl _,by simp⟩ fun n w9 d hn hinv=>?_
  obtain ⟨σ12,hS12,le12,hno⟩:=hinv
  refine Z4 ?_
  refine Q6 (fun hh=>?_) (fun hh=>?_)
  ·have hn':n<(V5 (Q7 l) 8).length:=by simpa using hh
   refine M6 (hv11.lift le12) (by rw[hil];exact hn') fun p cells hl1 hl2 hr1=>?_
   obtain ⟨rfl,_⟩:=hr1
   refine Y0 hS12.sat hl1 rfl ?_
   simp only[List.getElem_map]
   rw[H7,fa]
   have le8x:SLe σ8 σ12:=le9.more (SLe.more ⟨hk11.le⟩ le12)
   refine ld hS12.sat (hb8.lift le8x) rfl ?_
   have hji:=hoi _ (List.getElem_mem hn')
   refine M6 (hv8.lift le8x) hji fun p2 cells hl1 hl2 hr1=>?_
   refine Z2 hS12.sat hl1 hl2 ?_
   have hat:(Q7 l).getD (V5 (Q7 l) 8)[n] Cla.zero=(Q7 l)[(V5 (Q7 l) 8)[n]]:=by rw[List.getD_eq_getElem?_getD,List.getElem?_eq_getElem hji];rfl
   have hmem:=List.getElem_mem hji
   refine X0H hS12.sat (ht11.lift le12) hok hr1 (hsmall _ hmem) (hnmall _ hmem) fun w10 σ13 hk13=>?_
   have hS13:=hS12.trans hk13
   refine A0 ?_
   refine Q6 (fun hh2=>?_) (fun hh2=>?_)
   ·have hne: ¬V7 (Q7 l) (Q7 l)[(V5 (Q7 l) 8)[n]]=0:=by simpa using hh2
    refine Hu ⟨by omega,by omega⟩ ?_
    have hfind:(V5 (Q7 l) 8).find? (fun j=> !decide (V7 (Q7 l) ((Q7 l).getD j Cla.zero)=0))=some (V5 (Q7 l) 8)[n]:=by
     rw[List.find?_eq_some_iff_getElem]
     refine ⟨by rw[hat];simpa using hne,n,hn',rfl,fun j hj=>?_⟩
     have:=hno _ (List.mem_take_iff_getElem.2 ⟨j,by omega,rfl⟩)
     rw[this];simp
    have:=h1 (((V5 (Q7 l) 8)[n]:Int)-8) (V7 (Q7 l) (Q7 l)[(V5 (Q7 l) 8)[n]]) w10 σ13 (by rw[hfind];simp only[hat]) hS13
    exact this
   ·have hz:V7 (Q7 l) (Q7 l)[(V5 (Q7 l) 8)[n]]=0:=by simpa using hh2
    refine H3 ?_
    refine Y6 (by omega) hn' ⟨σ13,hS13,le12.more ⟨hk13.le⟩,fun j hj=>?_⟩
    rw[List.take_add_one,List.getElem?_eq_getElem hn'] at hj
    rcases List.mem_append.1 hj with hj | hj
    ·exact hno j hj
    ·simp at hj;subst hj;rw[hat];exact hz
  ·have hn': ¬n<(V5 (Q7 l) 8).length:=by simpa using hh
   rw[List.take_of_length_le (by omega)] at hno
   have hfind:(V5 (Q7 l) 8).find? (fun j=> !decide (V7 (Q7 l) ((Q7 l).getD j Cla.zero)=0))=none:=by
    rw[List.find?_eq_none]
    intro j hj
    rw[hno j hj];simp
   rw[hfind] at h0
   exact h0 _ _ _ rfl hS12 (ht11.lift le12) hok hown)
end Go.Proofs.YtfppjenblllfaaaGreatDoor

namespace Go.Hm
open Go.Kd
def Q9W (m:Hm.Met):Bool:= !(decide (50<m.code.length)||decide (8<m.params.length)||decide (8<m.catches.length))
def X1m (c:Cla):Bool:= !(decide (6<c.like.length)||decide (6<c.fields.length)||decide (6<c.methods.length))&&c.methods.all Q9W
def X10 (l:List Cla):Bool:= !decide (12<l.length)&&l.all X1m
def sB:Q9:=[66]
theorem Q9y {l:List Cla} (h:X10 l=true):l.length≤12∧ ∀c∈l,X1m c=true:=by
 simp only[X10,Bool.and_eq_true,Bool.not_eq_true',decide_eq_false_iff_not,List.all_eq_true] at h
 exact ⟨by omega,h.2⟩
theorem X3T {l:List Cla} (h:X10 l=true): ∀c∈l,Qn c:=by
 intro c f
 have:=(Q9y h).2 c f
 simp only[X1m,Q9W,Bool.and_eq_true,Bool.not_eq_true',Bool.or_eq_false_iff,decide_eq_false_iff_not,List.all_eq_true] at this
 obtain ⟨⟨⟨a,b⟩,g⟩,d⟩:=this
 refine ⟨by omega,by omega,by omega,fun m e=>?_⟩
 obtain ⟨⟨p,q⟩,r⟩:=d m e
 exact ⟨by omega,by omega,by omega⟩
end Go.Hm
namespace Go.Proofs.YtfppjenblllfaaaGreatDoor
open Go.Emb Go.RowKit Go.Kd Go.Hm
variable {w : World} {K : Value → World → Prop} {σ : Q4} {v : Value} {l : List Cla}
end Go.Proofs.YtfppjenblllfaaaGreatDoor

namespace Go.Proofs.YtfppjenblllfaaaGreatDoor
open Go.Emb Go.RowKit Go.Kd Go.Hm
variable {w : World} {K : Value → World → Prop} {σ : Q4} {v : Value} {l : List Cla}
theorem X4l:P.underlying T.r=some (.pointer T.u):=by kernel_rfl
theorem X1C (d:Nat) (o:Option Addr):(Op.equalIn (d+1) T.r (.pointer o) (.pointer none)).run P w= .ok o.isNone w:=by
 cases o<;>simp[Op.equalIn,run_underlying X4l]
theorem X0x {a:Addr} {c b:Operand} (h:K (.bool false) w):Q3 P .eql T.r c b (.pointer (some a)) (.pointer none) w K:=by
 have e:(Op.equal T.r (.pointer (some a)) (.pointer none)).run P w= .ok false w:=X1C 9999 _
 unfold Q3
 rw[Y2 (v:= .bool false) (w':=w) (by simp[eqGuard,Go.binOp,e])]
 exact h
end Go.Proofs.YtfppjenblllfaaaGreatDoor

namespace Go.Hm
open Go.Kd
theorem Q6B {l:List Cla} {frm:Nat}: ∀(f:Nat) (out:List Nat) (i:Nat),(∀y∈out,y∈P1 l frm f out i)∧(0<f→frm≤i→i∈P1 l frm f out i):=by
 intro f
 induction f with
 | zero=>intro out i;exact ⟨fun y a=>a,fun h=>by omega⟩
 | succ f e=>
  intro out i
  have b: ∀(c:List Q9) (o:List Nat),∀y∈o,y∈c.foldl (fun out n=>P1 l frm f out ((Y7 l n).getD 0)) o:=by
   intro c
   induction c with
   | nil=>intro o y a;exact a
   | cons u r d=>intro o y a;exact d _ y ((e o _).1 y a)
  simp only[P1]
  split
  ·exact ⟨fun y a=>a,fun _ h=>by omega⟩
  ·split
   ·rename_i h;exact ⟨fun y a=>a,fun _ _=>h⟩
   ·exact ⟨fun y a=>List.mem_append_left _ (b _ _ y a),fun _ _=>by simp⟩
theorem X0D {l:List Cla} {frm i:Nat} (d:frm≤i) (e:i<l.length):i∈V5 l frm:=by
 unfold V5
 have key: ∀(is out:List Nat),(∀y∈out,y∈is.foldl (fun out i=>P1 l frm (l.length+1) out i) out)∧(i∈is→i∈is.foldl (fun out i=>P1 l frm (l.length+1) out i) out):=by
  intro is
  induction is with
  | nil=>intro out;exact ⟨fun y b=>b,fun h=>by simp at h⟩
  | cons a r c=>
   intro out
   refine ⟨fun y b=>(c _).1 y ((Q6B _ _ _).1 y b),fun h=>?_⟩
   rcases List.mem_cons.1 h with rfl | h
   ·exact (c _).1 _ ((Q6B _ _ _).2 (by omega) d)
   ·exact (c _).2 h
 refine (key _ _).2 ?_
 rw[List.mem_drop_iff_getElem]
 exact ⟨i-frm,by simp;omega,by simp;omega⟩
theorem clas_name {s:Q9} (h:W7 s=true):name s=true:=Mv (by rw[h,Bool.or_true])
theorem Q6T {a:Q9} (h:name a=true):E1 a=false:=by
 cases e:E1 a with
 | false=>rfl
 | true=>
  exfalso
  have d:2≤a.length∧a.drop (a.length-2)=[91,93]:=by simpa [E1] using e
  have b:(93:UInt8)∈a:=List.mem_of_mem_drop (i:=a.length-2) (by rw[d.2];simp)
  cases a with
  | nil=>simp at b
  | cons c r=>
   simp only[name,Bool.and_eq_true,List.all_eq_true] at h
   have:=h.2 _ b
   revert this;decide
end Go.Hm
namespace Go.Proofs.YtfppjenblllfaaaGreatDoor
open Go.Emb Go.RowKit Go.Kd Go.Hm
theorem X07 {a:Q9} (h:name a=true):base a=(a,0):=by rw[Jr,Q6T h];simp
theorem Hi {s:Q9} (h:W7 s=true):E1 s=false∧base s=(s,0)∧right s=true∧plain s=false∧elem s=[]∧s≠C2∧s≠[]:=by
 have a:=Hm.clas_name h
 have d:=Q6T a
 have b:=X07 a
 refine ⟨d,b,?_,?_,by simp[elem,d],?_,?_⟩
 ·simp[right,b,h]
 ·cases c:plain s with
  | false=>rfl
  | true=>
   simp only[plain,Bool.or_eq_true,decide_eq_true_eq] at c
   rcases c with (e | e) | e<;>subst e<;>revert h<;>decide
 ·rintro rfl;revert h;decide
 ·rintro rfl;revert h;decide
structure Wf (l : List Cla) : Prop where
  ck : ∀ c ∈ l, M7 c = 0
  own : K4 (Q7 l)
  acy : Yz (Q7 l)
  up : ∀ c ∈ l, M4 (Q7 l) c = 0
  mem : ∀ c ∈ l, V7 (Q7 l) c = 0
theorem X4C {l:List Cla} (h:Hw M7 l=none):Wf l:=by
 unfold Hw at h
 split at h
 ·cases h
 rename_i o
 split at h
 ·cases h
 rename_i m
 split at h
 ·cases h
 rename_i j
 split at h
 ·cases h
 rename_i k
 split at h
 ·cases h
 rename_i p
 have d:=I7 o
 have a:=Ky m
 have g: ∀c∈l,K0 (Q7 l) c=false:=fun c b=>List.findIdx?_eq_none_iff.1 k c b
 refine ⟨d,a,Q6g a (fun c b=>(Bo (d c b)).2.2) g,fun c b=>by have:=I7 j c b;omega,fun c b=>?_⟩
 obtain ⟨i,n,rfl⟩:=List.getElem_of_mem b
 have f:G3.length=8:=rfl
 have:=List.find?_eq_none.1 p (8+i) (X0D (by omega) (by simp[Q7,f];omega))
 have e:(Q7 l).getD (8+i) Cla.zero=l[i]:=by
  rw[List.getD_eq_getElem?_getD,Q7,List.getElem?_append_right (by omega),f,show 8+i-8=i by omega,List.getElem?_eq_getElem n];rfl
 rw[e] at this
 simpa using this
section
variable {l : List Cla} (wf : Wf l)
include wf
theorem Wf.names {c:Cla} (hc:c∈Q7 l):W7 c.name=true:=by
 rcases List.mem_append.1 hc with hc | hc
 ·have: ∀c∈G3,W7 c.name=true:=by decide+kernel
  exact this c hc
 ·have:=wf.ck c hc
  unfold M7 at this
  split at this
  ·cases this
  ·split at this
   ·rename_i a
    simp only[Lj,Bool.and_eq_true] at a
    obtain ⟨⟨⟨⟨⟨⟨⟨⟨b,_⟩,_⟩,_⟩,_⟩,_⟩,_⟩,_⟩,_⟩:=a
    exact List.all_eq_true.1 b c.name (by simp)
   ·cases this
theorem Wf.lkn {n:Q9} {c:Cla} (h:lk (Q7 l) n=some c):W7 n=true:=by
 obtain ⟨e,a,_⟩:=V1 h
 rw[←e];exact wf.names a
theorem Wf.root:lk (Q7 l) J4=some ⟨J4,[],[],false,false,false,[],[]⟩:=wf.own.lk (c:=⟨J4,[],[],false,false,false,[],[]⟩) (List.mem_append_left _ (by decide))
theorem Wf.fault:lk (Q7 l) W3=some ⟨W3,J4,[],false,false,false,[⟨T1,O9,false⟩],[]⟩:=wf.own.lk (c:=⟨W3,J4,[],false,false,false,[⟨T1,O9,false⟩],[]⟩) (List.mem_append_left _ (by decide))
theorem Wf.super {c:Cla} (hc:c∈Q7 l):c.name=J4∨ ∃d,lk (Q7 l) c.super=some d:=by
 rcases List.mem_append.1 hc with hc | hc
 ·have: ∀c∈G3,c.name=J4∨c.super=J4∨c.super=W3:=by decide
  rcases this c hc with h | h | h
  ·exact .inl h
  ·exact .inr ⟨_,h▸wf.root⟩
  ·exact .inr ⟨_,h▸wf.fault⟩
 ·right
  have:=wf.up c hc
  unfold M4 at this
  split at this
  ·cases this
  ·rename_i h
   unfold Ql at h
   cases a:lk (Q7 l) c.super with
   | none=>rw[a] at h;simp at h
   | some d=>exact ⟨d,rfl⟩
theorem Wf.atRoot {b:Q9} (h:Hm.Reach (lk (Q7 l)) J4 b):b=J4:=by
 cases h with
 | refl=>rfl
 | step c a e=>
  rw[wf.root] at c;cases c
  simp[J9] at a;subst a
  obtain ⟨d,f⟩:=e.left
  exact absurd (wf.lkn f) (by decide)
theorem Wf.kind {n:Q9} {c:Cla} (h:lk (Q7 l) n=some c):R0 (Q7 l) n=true:=by
 obtain ⟨i,b,a,g,f,d,e⟩:=Hi (wf.lkn h)
 have:Q2d (Q7 l) n=true:=by rw[Q3z,h];rfl
 simp[R0,a,b,this]
theorem Wf.sub_iff {a b:Q9}:O3 (Q7 l) a b=true↔R0 (Q7 l) a=true∧R0 (Q7 l) b=true∧(a=b∨(plain a=false∧plain b=false∧(a=C2∨(elem a≠[]∧b=J4)∨(lk (Q7 l) a≠none∧Hm.Reach (lk (Q7 l)) a b)))):=by
 unfold O3
 cases j:R0 (Q7 l) a<;>cases m:R0 (Q7 l) b<;>simp
 by_cases e:a=b
 ·simp[e]
 cases pa:plain a<;>cases k:plain b<;>simp[e]
 by_cases f:a=C2
 ·simp[f]
 simp only[f,false_or]
 by_cases d:elem a=[]
 ·simp only[d,if_true,not_true_eq_false,false_and,false_or,Js]
  constructor
  ·intro h;obtain ⟨c,i⟩:=h.left;exact ⟨by rw[i];simp,h⟩
  ·intro h;exact h.2
 ·simp only[d,if_false,not_false_eq_true,true_and]
  constructor
  ·exact .inl
  ·rintro (h | ⟨h,_⟩)
   ·exact h
   ·cases g:lk (Q7 l) a with
    | none=>exact absurd g h
    | some c=>exact absurd (Hi (wf.lkn g)).2.2.2.2.1 d
theorem Wf.sub_class {a b:Q9} {c:Cla} (e:lk (Q7 l) a=some c):O3 (Q7 l) a b=true↔Hm.Reach (lk (Q7 l)) a b:=by
 obtain ⟨o,m,k,j,i,g,n⟩:=Hi (wf.lkn e)
 rw[wf.sub_iff]
 constructor
 ·rintro ⟨_,_,rfl | ⟨_,_,h | ⟨h,_⟩ | ⟨_,h⟩⟩⟩
  ·exact .refl e
  ·exact absurd h g
  ·exact absurd i h
  ·exact h
 ·intro h
  obtain ⟨d,f⟩:=h.right
  exact ⟨wf.kind e,wf.kind f, .inr ⟨j,(Hi (wf.lkn f)).2.2.2.1, .inr (.inr ⟨by rw[e];simp,h⟩)⟩⟩
end
end Go.Proofs.YtfppjenblllfaaaGreatDoor

namespace Go.Proofs.YtfppjenblllfaaaGreatDoor
open Go.Emb Go.RowKit Go.Kd Go.Hm
theorem Bd {L:List Cla} (i:Yz L): ∀(k:Nat) {n:Q9} {c:Cla},I5 L n<k→c∈chain L n→Hm.Reach (lk L) n c.name∧lk L c.name=some c:=by
 intro k
 induction k with
 | zero=>intro n c h;omega
 | succ k m=>
  intro n c p hc
  rw[I6 i] at hc
  cases a:lk L n with
  | none=>rw[a] at hc;simp at hc
  | some d=>
   rw[a] at hc
   have b:=(V1 a).1
   rcases List.mem_cons.1 hc with rfl | hc
   ·rw[b];exact ⟨.refl a,a⟩
   ·cases g:lk L d.super with
    | none=>rw[T7 g] at hc;simp at hc
    | some e=>
     have f:d.super∈J9 d:=by simp[J9]
     obtain ⟨o,j⟩:=m (by have:=Yp i a f g;omega) hc
     exact ⟨.step a f o,j⟩
section
variable {l : List Cla} (wf : Wf l)
include wf
end
end Go.Proofs.YtfppjenblllfaaaGreatDoor

namespace Go.Hm
open Go.Kd
structure Shp where
  seen : Bool
  stack : List Q9
  locals : List Q9
deriving DecidableEq
def Shp.zero:Shp:=⟨false,[],[]⟩
def Za (l:List Cla) (a b:Q9):Q9:=if a=[]∨b=[] then [] else I3 l a b
def Mi (l:List Cla) (a b:Shp):Shp×Int:=
 if a.seen=false then (b,0) else if b.seen=false then (a,0)
 else if a.stack.length≠b.stack.length∨a.locals.length≠b.locals.length then (Shp.zero,75)
 else if (List.zipWith (I3 l) a.stack b.stack).any (fun s=>decide (s=[])) then (Shp.zero,75)
 else (⟨true,List.zipWith (I3 l) a.stack b.stack,List.zipWith (Za l) a.locals b.locals⟩,0)
theorem Cc (l:List Cla):R0 l []=false:=by
 have:right []=false:=by decide
 simp[R0,this,C2]
theorem Q7T (l:List Cla) (a:Q9):O3 l a []=false:=by
 unfold O3;rw[Cc];simp
theorem Q7V (l:List Cla) (a:Q9):O3 l [] a=false:=by
 unfold O3;rw[Cc];simp
theorem X1t (l:List Cla) (a b:Q9):Za l a b=I3 l a b:=by
 unfold Za
 split
 ·rename_i h
  unfold I3
  rcases h with rfl | rfl
  ·rw[Q7V,Q7T,Cc];simp
  ·rw[Q7V,Q7T,Cc];simp
 ·rfl
end Go.Hm
namespace Go.Proofs.YtfppjenblllfaaaGreatDoor
open Go.Emb Go.RowKit Go.Kd Go.Hm
section
variable {l : List Cla} (wf : Wf l)
include wf
end
end Go.Proofs.YtfppjenblllfaaaGreatDoor

namespace Go.Emb
open Go.RowKit Go.Hm
def W8 (σ:Q4) (s:Shp) (cs:List Value):Prop:= ∃sv a,cs=[.bool s.seen,sv,a]∧Sl 1 X9 σ sv s.stack∧Sl 1 X9 σ a s.locals
instance:Rep W8:=⟨fun hk ⟨sv,lv,h1,h2,h3⟩=>⟨sv,lv,h1,h2.le hk,h3.le hk⟩,fun ⟨sv,lv,h1,h2,h3⟩ u hu=>by
 rw[h1] at hu;simp at hu;rcases hu with rfl | rfl | rfl
 ·rfl
 ·exact I9 h2
 ·exact I9 h3⟩
end Go.Emb
namespace Go.Proofs.YtfppjenblllfaaaGreatDoor
open Go.Emb Go.RowKit Go.Kd Go.Hm Go.ChangeShapes Go.WideShapes
section
variable {H : Type} {enc : TypeId × Value → H} {W : World} {cs : List Value} {fuel : Nat} {x : DataW H × List MemPlace} {v : Value} {d : DataW H} {p : List MemPlace}
def X4f:Array Field:= #[⟨"Seen",T.o,0,false, "", "",0⟩,⟨"Stack",T.c,1,false, "", "",8⟩,⟨"Locals",T.c,2,false, "", "",32⟩]
theorem Q5f:P.underlying T.f=some (.struct X4f):=by kernel_rfl
theorem Q9P (h:DataW.trod enc P W 0 (fun _=>true) true fuel T.f cs=some x) (a:Wt P T.f x.1): ∃y,W8 (P4 W) y cs:=by
 obtain ⟨s,q,u,rfl⟩:=Q5c (Q36 Q5f (by kernel_rfl) h)
 obtain ⟨_,_,f,w0⟩:=C0 (o:=0) Q5f h a 0 rfl Q6a
 obtain ⟨_,_,m,w1⟩:=C0 (o:=1) Q5f h a 1 rfl (by kernel_rfl)
 obtain ⟨_,_,g,l⟩:=C0 (o:=2) Q5f h a 2 rfl (by kernel_rfl)
 obtain ⟨j,q0⟩:=Q7S Fo f
 obtain ⟨r,k,b,e⟩:=Q37 (R:=X9) Q62 Qi (by decide) (fun _ _ _ h a=>Q5C X7 h a) m w1
 obtain ⟨t,i,c,n⟩:=Q37 (R:=X9) Q62 Qi (by decide) (fun _ _ _ h a=>Q5C X7 h a) g l
 simp at q0 b c
 subst q0 b c
 exact ⟨⟨j,k,i⟩,_,_,rfl,e,n⟩
set_option maxRecDepth 100000 in
theorem X41 {base:Nat} (e:Value.okWide P W .any base T.d v) (h:DataW.Trod enc P W 0 (fun _=>true) true T.d v d p) (c:Wt P T.d d): ∃y cs,v= .agg (List.toArray cs)∧L9 (P4 W) y cs:=by
 have a:=e
 unfold Value.okWide at a
 rw[Hr] at a
 obtain ⟨cs,rfl,_⟩:=a
 unfold DataW.Trod at h
 obtain ⟨fuel,h⟩:=h
 obtain ⟨y,b⟩:=X3o h c
 obtain ⟨cs⟩:=cs
 exact ⟨y,cs,rfl,by simpa [Value.cells] using b⟩
set_option maxRecDepth 100000 in
theorem X3V {base:Nat} (e:Value.okWide P W .any base T.k v) (h:DataW.Trod enc P W 0 (fun _=>true) true T.k v d p) (c:Wt P T.k d): ∃y cs,v= .agg (List.toArray cs)∧I0 (P4 W) y cs:=by
 have a:=e
 unfold Value.okWide at a
 rw[Q3m] at a
 obtain ⟨cs,rfl,_⟩:=a
 unfold DataW.Trod at h
 obtain ⟨fuel,h⟩:=h
 obtain ⟨y,b⟩:=X0C h c
 obtain ⟨cs⟩:=cs
 exact ⟨y,cs,rfl,by simpa [Value.cells] using b⟩
theorem X4E {α:Type} {l:List α} (h:l.length=2): ∃a b,l=[a,b]:=by
 match l,h with
 | [a,b],_=>exact ⟨a,b,rfl⟩
set_option maxRecDepth 100000 in
theorem X2b {base:Nat} (B:Value.okWide P W .any base T.v v) (h:DataW.Trod enc P W 0 (fun _=>true) true T.v v d p) (t:Wt P T.v d): ∃y z cs ds,v= .agg (List.toArray (cs++ds))∧W8 (P4 W) y cs∧W8 (P4 W) z ds:=by
 have i:P.underlying T.v=some (.array 2 T.f):=by kernel_rfl
 have u:P.cellsOf T.f=3:=by kernel_rfl
 have b:=B
 unfold Value.okWide at b
 rw[i] at b
 obtain ⟨cs,rfl,_,_⟩:=b
 unfold DataW.Trod at h
 obtain ⟨fuel,h⟩:=h
 obtain ⟨xs,m,_,g,C,A,j⟩:=DataW.trod_array i h
 simp only[Prod.mk.injEq] at g
 obtain ⟨g,_⟩:=g
 subst g
 have c:cs.toList.length=6:=by
  have:P.cellsOf T.v=6:=by kernel_rfl
  rw[←this,←C];rfl
 obtain ⟨k,o,rfl⟩:=X4E A
 have f: ∀y,y∈[k,o]→Wt P T.f y.1:=fun y s n D=>t n (by
  simp only[DataW.weights,i]
  exact Q9S (List.mem_map.2 ⟨y,s,rfl⟩) n D)
 have l:=j 0 (by decide)
 have q:=j 1 (by decide)
 rw[u] at l q
 obtain ⟨E,w⟩:=Q9P (show _=some k from l) (f _ (by simp))
 obtain ⟨J,r⟩:=Q9P (show _=some o from q) (f _ (by simp))
 refine ⟨E,J,cs.toList.take 3,cs.toList.drop 3,by simp,?_,?_⟩
 ·simpa [Value.cells] using w
 ·have e:(cs.toList.drop 3).take 3=cs.toList.drop 3:=List.take_of_length_le (by simp;simp at c;omega)
  have a:=r
  simp only[Value.cells,Nat.one_mul] at a
  rw[e] at a
  exact a
end
end Go.Proofs.YtfppjenblllfaaaGreatDoor

namespace Go.Proofs.YtfppjenblllfaaaGreatDoor
open Go.Emb Go.RowKit Go.Kd Go.Hm
variable {w : World} {K : Value → World → Prop} {σ : Q4}
end Go.Proofs.YtfppjenblllfaaaGreatDoor

namespace Go.Proofs.YtfppjenblllfaaaGreatDoor
open Go.Emb Go.RowKit Go.Kd Go.Hm
variable {w : World} {K : Value → World → Prop} {σ : Q4} {l : List Cla} {v : Value}
theorem Qg {n:Q9} (t:X4 w σ) (m:Sl 8 V4 σ v l) (h:K (I (L2 (Y7 l n))) w):Q0 P F.d [v,S n] w K:=Tb (by
 unfold Of
 refine U4 l.length (fun k w'=>w'=w∧ ∀j (g:j<l.length),j<k→ ¬l[j].name=n) ⟨rfl,fun j _ h=>by omega⟩ fun k w1 d A q=>?_
 obtain ⟨rfl,b⟩:=q
 refine X0 m ?_
 refine Z4 ?_
 refine Q6 (fun i=>?_) (fun i=>?_)
 ·have a:k<l.length:=by simpa using i
  refine M6 m a fun p cells o u r=>?_
  obtain ⟨D,H,mv,rfl,E,C,B,y,z⟩:=r
  rw[fa]
  refine ld t o rfl ?_
  refine Dg ?_
  refine Q6 (fun f=>?_) (fun f=>?_)
  ·have f:l[k].name=n:=by simpa using f
   have:Y7 l n=some k:=by
    unfold Y7
    rw[List.findIdx?_eq_some_iff_getElem]
    exact ⟨a,by simpa using f,fun j g=>by simpa using b j (by omega) g⟩
   rw[this] at h
   exact h
  ·have f: ¬l[k].name=n:=by simpa using f
   refine H3 ?_
   refine Y6 m.max a ⟨rfl,fun j g s=>?_⟩
   by_cases e:j=k
   ·subst e;exact f
   ·exact b j g (by omega)
 ·have a: ¬k<l.length:=by simpa using i
  have:Y7 l n=none:=by
   unfold Y7
   rw[List.findIdx?_eq_none_iff]
   intro c i
   obtain ⟨j,g,rfl⟩:=List.getElem_of_mem i
   simpa using b j g (by omega)
  rw[this] at h
  exact h)
end Go.Proofs.YtfppjenblllfaaaGreatDoor

namespace Go.Proofs.YtfppjenblllfaaaGreatDoor
open Go.Emb Go.RowKit Go.Kd Go.Hm
variable {w : World} {K : Value → World → Prop} {σ : Q4} {l : List Cla} {v : Value}
theorem Q6c {a:Q9} (d:a.length≤Y9) (h:K (S (base a).1) w):Q0 P F.aT [S a] w K:=Tf (by
 unfold Oc
 have c:=Q1g a
 have b:a.length≤140737488355328:=by simp only[Y9] at d;omega
 rw[E4 X7]
 refine Q27 a b ?_
 (try simp only[↓Mr,Mr,Mb,reduceIte])
 rw[F3 (n:=2*((base a).2:Int)) (by omega) (by omega),F3 (by omega) (by omega),T9 X7 (by omega) (by omega)]
 rw[show ((a.length:Int)-2*((base a).2:Int)).toNat=a.length-2*(base a).2 from by omega,Q4t]
 exact h)
theorem X1w {s:Q9} (f:X4 w σ) (g:Sl 8 V4 σ v l) (c:s.length≤Y9) (h:K (.bool (R0 l s)) w):Q0 P F.bM [v,S s] w K:=Ak (by
 unfold Nk
 have b:s.length≤140737488355328:=by simp only[Y9] at c;omega
 unfold R0 at h
 refine Dg ?_
 by_cases a:s=C2
 ·have:decide (s=[110,117,108,108])=true:=by rw[decide_eq_true_eq];exact a
  simp only[this,↓M1,M1,Mb,reduceIte]
  simp only[a,decide_true,Bool.true_or] at h
  exact h
 ·have:decide (s=[110,117,108,108])=false:=by rw[decide_eq_false_iff_not];exact a
  simp only[this,↓M1,M1,Mb,reduceIte]
  simp only[a,decide_false,Bool.false_or] at h
  refine Vx s b ?_
  cases d:right s with
  | false=>(try simp only[↓M1,M1,Mb,reduceIte]);simpa [d] using h
  | true=>
   (try simp only[↓M1,M1,Mb,reduceIte])
   refine Q6c c ?_
   (try simp only[↓M1,M1,Mb,reduceIte])
   refine Q09 _ ?_
   simp only[d,Bool.true_and] at h
   cases e:plain (base s).1 with
   | true=>(try simp only[↓M1,M1,Mb,reduceIte]);simpa [e] using h
   | false=>
    (try simp only[↓M1,M1,Mb,reduceIte])
    refine Q6c c ?_
    (try simp only[↓M1,M1,Mb,reduceIte])
    refine Qg f g ?_
    refine G1 ?_
    rw[Jp]
    (try simp only[↓M1,M1,Mb,reduceIte])
    simpa [e,Q2d] using h)
end Go.Proofs.YtfppjenblllfaaaGreatDoor

namespace Go.Proofs.YtfppjenblllfaaaGreatDoor
open Go.Emb Go.RowKit Go.Kd Go.Hm
variable {w : World} {K : Value → World → Prop} {σ : Q4} {l : List Cla} {v : Value}
theorem X03 {s:Q9} (b:X4 w σ) (d:Sl 8 V4 σ v l) (c:s.length≤Y9) (h:K (.bool (E6 l s)) w):Q0 P F.bE [v,S s] w K:=Kt (by
 unfold Md
 unfold E6 at h
 refine I4 ?_
 have e:decide (s=[110,117,108,108])=decide (s=C2):=rfl
 rw[e]
 cases a:decide (s=C2) with
 | true=>
  rw[a] at h
  (try simp only[↓M1,M1,Mb,reduceIte])
  exact h
 | false=>
  rw[a] at h
  (try simp only[↓M1,M1,Mb,reduceIte])
  refine X1w b d c ?_
  (try simp only[↓M1,M1,Mb,reduceIte])
  simpa using h)
end Go.Proofs.YtfppjenblllfaaaGreatDoor

namespace Go.Proofs.YtfppjenblllfaaaGreatDoor
open Go.Emb Go.RowKit Go.Kd Go.Hm
variable {w : World} {K : Value → World → Prop} {σ : Q4} {l : List Cla} {v : Value}
def Ry (c:Cla) (n:Q9):Option Nat:=c.methods.findIdx? fun m=>decide (m.name=n)
theorem Q7L {c:Cla} {cs:List Value} {n:Q9} (C:X4 w σ) (r:V4 σ c cs) (h: ∀w' z,Stp w σ w' z→K (I (L2 (Ry c n))) w'):Q0 P F.bb [.agg cs.toArray,S n] w K:=Q08 (by
 unfold Dp
 obtain ⟨U,X,mv,rfl,W,R,o,E,J⟩:=r
 refine Z1 C fun q w0 σ0 a t=>?_
 have o:=o.up a
 refine U4 c.methods.length (fun k w'=>w'=w0∧ ∀j (i:j<c.methods.length),j<k→ ¬c.methods[j].name=n) ⟨rfl,fun j _ h=>by omega⟩ fun k w1 d M u=>?_
 obtain ⟨rfl,f⟩:=u
 rw[fa]
 refine ld a.sat t rfl ?_
 refine X0 o ?_
 refine Z4 ?_
 refine Q6 (fun r=>?_) (fun r=>?_)
 ·have b:k<c.methods.length:=by simpa using r
  rw[fa]
  refine ld a.sat t rfl ?_
  refine M6 o b fun p cells s D A=>?_
  obtain ⟨pv,V,O,rfl,N,Q,L,Y,H⟩:=A
  rw[fa]
  refine ld a.sat s rfl ?_
  refine Dg ?_
  refine Q6 (fun g=>?_) (fun g=>?_)
  ·have g:c.methods[k].name=n:=by simpa using g
   have:Ry c n=some k:=by
    unfold Ry
    rw[List.findIdx?_eq_some_iff_getElem]
    exact ⟨b,by simpa using g,fun j i=>by simpa using f j (by omega) i⟩
   rw[this] at h
   exact h _ _ a
  ·have g: ¬c.methods[k].name=n:=by simpa using g
   refine H3 ?_
   refine Y6 o.max b ⟨rfl,fun j i B=>?_⟩
   by_cases e:j=k
   ·subst e;exact g
   ·exact f j i (by omega)
 ·have b: ¬k<c.methods.length:=by simpa using r
  have:Ry c n=none:=by
   unfold Ry
   rw[List.findIdx?_eq_none_iff]
   intro m y
   obtain ⟨j,i,rfl⟩:=List.getElem_of_mem y
   simpa using f j i (by omega)
  rw[this] at h
  exact h _ _ a)
end Go.Proofs.YtfppjenblllfaaaGreatDoor

namespace Go.Proofs.YtfppjenblllfaaaGreatDoor
open Go.Emb Go.RowKit Go.Kd Go.Hm
variable {w : World} {K : Value → World → Prop} {σ : Q4} {l : List Cla} {v : Value}
theorem Cp {n:Q9} {d:Cla} (b:X4 w σ) (f:Sl 8 V4 σ v l) (c:lk l n=some d) (h: ∀i:Nat,l[i]? =some d→Y7 l n=some i→K (I i) w):Q0 P F.d [v,S n] w K:=by
 obtain ⟨_,_,i,a,e⟩:=V1 c
 refine Qg b f ?_
 rw[a];exact h i e a
theorem Q0v {n:Q9} (b:X4 w σ) (f:Sl 8 V4 σ v l) (e:lk l n=none) (h:K (I (-1)) w):Q0 P F.d [v,S n] w K:=by
 refine Qg b f ?_
 cases d:Y7 l n with
 | none=>exact h
 | some i=>obtain ⟨c,a,_⟩:=Jt d;rw[e] at a;cases a
end Go.Proofs.YtfppjenblllfaaaGreatDoor

namespace Go.Proofs.YtfppjenblllfaaaGreatDoor
open Go.Emb Go.RowKit Go.Kd Go.Hm
variable {w : World} {K : Value → World → Prop} {σ : Q4} {l : List Cla} {v : Value}
theorem X1B:decide ((-1:Int)<0)=true:=by decide
theorem Q5P (i:Nat):decide ((i:Int)<0)=false:=by rw[decide_eq_false_iff_not];omega
theorem Q8k {c:Cla} {cs:List Value} (hs:X4 w σ) (hl:Sl 8 V4 σ v l) (H:V4 σ c cs) (h: ∀w' σ',Stp w σ w' σ'→K (I (M4 l c)) w'):Q0 P F.bq [v, .agg cs.toArray] w K:=Bx (by
 unfold Wp
 obtain ⟨lv,fv,mv,rfl,z,f2,f3,f4,f5⟩:=H
 refine Z1 hs fun q w0 σ0 p R=>?_
 have z:=z.up p
 have b:=hl.up p
 have a:=p.sat
 have u: ∀n:Nat,M4 l c=n→K (I n) w0:=fun n e=>by rw[←e];exact h _ _ p
 clear h
 (try simp only[↓M1,M1,Mb,reduceIte])
 refine ld a R rfl ?_
 have m:Ql l c.super=true→K (I (61:Nat)) w0:=fun e=>u 61 (by unfold M4;rw[if_pos e])
 cases J:lk l c.super with
 | none=>
  refine Q0v a b J ?_
  simp only[X1B,↓M1,M1,Mb,reduceIte]
  exact m (by unfold Ql;rw[J])
 | some d=>
  refine Cp a b J fun i X hf=>?_
  obtain ⟨s,O⟩:=List.getElem?_eq_some_iff.1 X
  simp only[Q5P,↓M1,M1,Mb,reduceIte]
  refine U7 b s ?_
  obtain ⟨ad,ae,ag,M,r1⟩:=b.elC s
  rw[O] at M
  (try simp only[↓M1,M1,Mb,reduceIte])
  refine ld a M rfl ?_
  have g:Ql l c.super=(d.iface||d.fin):=by unfold Ql;rw[J]
  cases A:d.iface with
  | true=>
   rw[A] at g
   (try simp only[↓M1,M1,Mb,reduceIte])
   exact m (by rw[g];rfl)
  | false=>
   rw[A] at g
   (try simp only[↓M1,M1,Mb,reduceIte])
   refine U7 b s ?_
   (try simp only[↓M1,M1,Mb,reduceIte])
   refine ld a M rfl ?_
   cases E:d.fin with
   | true=>
    rw[E] at g
    (try simp only[↓M1,M1,Mb,reduceIte])
    exact m (by rw[g];rfl)
   | false=>
    rw[E] at g
    have D:Ql l c.super=false:=g
    (try simp only[↓M1,M1,Mb,reduceIte])
    refine U4 c.like.length (fun k w'=>w'=w0∧(c.like.take k).any (D6 l)=false) ⟨rfl,rfl⟩ fun k w1 d1 hk Q=>?_
    obtain ⟨W,t⟩:=Q
    subst W
    (try simp only[↓M1,M1,Mb,reduceIte])
    refine ld a R rfl ?_
    refine X0 z ?_
    refine Z4 ?_
    refine Q6 (fun H=>?_) (fun H=>?_)
    ·have f:k<c.like.length:=by simpa using H
     have r:D6 l c.like[k]=true→K (I (62:Nat)) w1:=fun e=>u 62 (by
      unfold M4;rw[D,B6 f e];rfl)
     have y:D6 l c.like[k]=false→(c.like.take (k+1)).any (D6 l)=false:=fun e=>by rw[N0 f,t,e];rfl
     (try simp only[↓M1,M1,Mb,reduceIte])
     refine ld a R rfl ?_
     refine U7 z f ?_
     obtain ⟨p2,_⟩:=z.elS f
     refine Y0 a p2 rfl ?_
     cases L:lk l c.like[k] with
     | none=>
      refine Q0v a b L ?_
      simp only[X1B,↓M1,M1,Mb,reduceIte]
      exact r (by unfold D6;rw[L])
     | some e=>
      refine Cp a b L fun j Z V=>?_
      obtain ⟨C,N⟩:=List.getElem?_eq_some_iff.1 Z
      simp only[Q5P,↓M1,M1,Mb,reduceIte]
      refine U7 b C ?_
      obtain ⟨ai,af,Y,U,r3⟩:=b.elC C
      rw[N] at U
      (try simp only[↓M1,M1,Mb,reduceIte])
      refine ld a U rfl ?_
      have o:D6 l c.like[k]= !e.iface:=by unfold D6;rw[L]
      cases B:e.iface with
      | true=>
       rw[B] at o
       (try simp only[↓M1,M1,Mb,reduceIte])
       exact Y6 z.max f ⟨rfl,y o⟩
      | false=>
       rw[B] at o
       (try simp only[↓M1,M1,Mb,reduceIte])
       exact r o
    ·have f: ¬k<c.like.length:=by simpa using H
     rw[E0 f] at t
     exact u 0 (by unfold M4;rw[D,t];rfl))
end Go.Proofs.YtfppjenblllfaaaGreatDoor

namespace Go.Proofs.YtfppjenblllfaaaGreatDoor
open Go.Emb Go.RowKit Go.Kd Go.Hm
variable {w : World} {K : Value → World → Prop} {σ : Q4} {l : List Cla} {v : Value}
theorem Q79 {n:Q9} (h:lk l n=none):U1 l n=[]:=by unfold U1;rw[T7 h];rfl
theorem Q7p (a:Yz l) {n:Q9} {c:Cla} (h:lk l n=some c):U1 l n=U1 l c.super++c.fields:=by
 unfold U1
 rw[I6 a,h]
 simp
theorem Q8t (a: ∀c∈l,Qn c) (n:Q9):(U1 l n).length≤(l.length+1)*1000000:=by
 unfold U1
 have b:=Uq (fun c:Cla=>c.fields) 1000000 (chain l n).reverse fun c e=>(a c (Cd (by simpa using e))).2.1
 have d:=Cf l n
 rw[List.length_reverse] at b
 exact Nat.le_trans b (Nat.mul_le_mul_right _ d)
theorem Q1X {n:Q9} (c:lk l n=none) (a:X4 w σ) (e:Sl 8 V4 σ v l) (h: ∀b w' d,Stp w σ w' d→Sl 3 E5 d b (U1 l n)→K b w'):Q0 P F.a3 [v,S n] w K:=Wa (by
 unfold Xa
 refine Q0v a e c ?_
 simp only[X1B,↓M1,M1,Mb,reduceIte]
 exact h _ _ _ (Stp.refl a) (by rw[Q79 c];exact Sl.nil))
theorem Q7z (o:Yz l) (hl:l.length≤1000) (g: ∀c∈l,Qn c): ∀(k:Nat) {n:Q9} {w:World} {σ:Q4} {K:Value→World→Prop},(lk l n=none∨I5 l n<k)→X4 w σ→Sl 8 V4 σ v l→
 (∀f w' j,Stp w σ w' j→Sl 3 E5 j f (U1 l n)→K f w')→Q0 P F.a3 [v,S n] w K:=by
 intro k
 induction k with
 | zero=>
  intro n w σ K hk m a h
  rcases hk with hk | hk
  ·exact Q1X hk m a h
  ·omega
 | succ k Y=>
  intro n w σ K hk m a h
  cases b:lk l n with
  | none=>exact Q1X b m a h
  | some c=>
   have hk:I5 l n<k+1:=by
    rcases hk with hk | hk
    ·rw[b] at hk;cases hk
    ·exact hk
   refine Wa ?_
   unfold Xa
   refine Cp m a b fun i V hf=>?_
   obtain ⟨q,A⟩:=List.getElem?_eq_some_iff.1 V
   simp only[Q5P,↓M1,M1,Mb,reduceIte]
   obtain ⟨lv,fv,mv,U,N⟩:=a.elC q
   rw[A] at U N
   obtain ⟨_,g2,_,_,_⟩:=N.parts
   have z:lk l c.super=none∨I5 l c.super<k:=by
    cases hu:lk l c.super with
    | none=>exact .inl rfl
    | some d=>
     have:=Yp o b (u:=c.super) (by simp[J9]) hu
     right;omega
   have Q:=Q8t g c.super
   have af:=(g c (V1 b).2.1).2.1
   have O:(l.length+1)*1000000≤1001*1000000:=Nat.mul_le_mul_right _ (by omega)
   refine U8 m ?_
   (repeat refine Z8 Xq ?_)
   refine Q8M (R:=E5) (by decide) ?_
   (repeat refine Z8 Xq ?_)
   refine Hc (w:=w) (σ:=σ) (Φ:=fun j v=>Sl 3 E5 j v (U1 l c.super)) (fun t w p e=>?_) ?_
   ·subst e;exact Y z p.sat a fun f w' j hk D=>Ar p hk D
   refine Q1k (w:=w) (σ:=σ) (R:=E5) (sz:=3) (e:=T.l) (U1 l c.super) (fun s C w p B H=>?_) ?_
   ·obtain ⟨k1,X,Z⟩:=B
    obtain ⟨σ2,k2,s2⟩:=H
    exact Q7Y k1 X Z k2.sat s2 (fun _ _ h=>h) rfl (by omega) (by omega) fun f w' hk o=>Q2P p hk o
   (repeat refine Z8 Xq ?_)
   rintro am ag an W s ak C ah ad w2 al rfl rfl rfl rfl _ rfl _ ⟨M,J⟩ rfl
   refine Hp M J g2 rfl (by omega) (by omega) fun f w3 ac y E _=>?_
   obtain ⟨σ4,r,L,_⟩:=E.keep y
   exact h _ _ _ r (by rw[Q7p o b];exact L)
theorem Q8Y {n:Q9} (f:X4 w σ) (i:Sl 8 V4 σ v l) (e:Yz l) (g:l.length≤1000) (a: ∀c∈l,Qn c) (h: ∀b w' d,Stp w σ w' d→Sl 3 E5 d b (U1 l n)→K b w'):Q0 P F.a3 [v,S n] w K:=
 Q7z e g a _ (.inr (Nat.lt_succ_self _)) f i h
theorem X04 {n f:Q9} (J:X4 w σ) (E:Sl 8 V4 σ v l) (L:Yz l) (C:l.length≤1000) (t: ∀c∈l,Qn c) (h: ∀w' D,Stp w σ w' D→K (I (L2 (F2 l n f))) w'):Q0 P F.bD [v,S n,S f] w K:=Kz (by
 unfold Wv
 refine Q8Y J E L C t fun N w1 σ1 r b=>?_
 have s: ∀o,F2 l n f=o→K (I (L2 o)) w1:=fun o e=>by rw[←e];exact h _ _ r
 unfold F2 at s
 generalize U1 l n=p at b s
 refine U4 p.length (fun k w'=>w'=w1∧ ∀j (q:j<p.length),j<k→ ¬p[j].name=f) ⟨rfl,fun j _ h=>by omega⟩ fun k O d M A=>?_
 obtain ⟨z,g⟩:=A
 subst z
 refine X0 b ?_
 refine Z4 ?_
 refine Q6 (fun u=>?_) (fun u=>?_)
 ·have a:k<p.length:=by simpa using u
  refine U7 b a ?_
  obtain ⟨y,_⟩:=b.elF a
  (try simp only[↓M1,M1,Mb,reduceIte])
  refine ld r.sat y rfl ?_
  refine Dg ?_
  refine Q6 (fun i=>?_) (fun i=>?_)
  ·have i:p[k].name=f:=by simpa using i
   exact s (some k) (by
    rw[List.findIdx?_eq_some_iff_getElem]
    exact ⟨a,by simpa using i,fun j q=>by simpa using g j (by omega) q⟩)
  ·have i: ¬p[k].name=f:=by simpa using i
   (try simp only[↓M1,M1,Mb,reduceIte])
   refine Y6 b.max a ⟨rfl,fun j q H=>?_⟩
   by_cases e:j=k
   ·subst e;exact i
   ·exact g j q (by omega)
 ·have a: ¬k<p.length:=by simpa using u
  exact s none (by
   rw[List.findIdx?_eq_none_iff]
   intro m B
   obtain ⟨j,q,rfl⟩:=List.getElem_of_mem B
   simpa using g j q (by omega)))
end Go.Proofs.YtfppjenblllfaaaGreatDoor

namespace Go.Proofs.YtfppjenblllfaaaGreatDoor
open Go.Emb Go.RowKit Go.Kd Go.Hm
variable {w : World} {K : Value → World → Prop} {σ : Q4} {l : List Cla} {v : Value}
theorem Q4h {c:Cla} {n:Q9} (h:Ry c n=none):E8 c n=none:=by
 unfold E8 Ry at*
 rw[List.findIdx?_eq_none_iff] at h
 rw[List.find?_eq_none]
 intro m a
 have:=h m a
 simpa using this
theorem Q7K {c:Cla} {n:Q9} {i:Nat} (h:Ry c n=some i): ∃a:i<c.methods.length,E8 c n=some c.methods[i]:=by
 unfold E8 Ry at*
 obtain ⟨a,e,d⟩:=List.findIdx?_eq_some_iff_getElem.1 h
 refine ⟨a,List.find?_eq_some_iff_getElem.2 ⟨e,i,a,rfl,fun j b=>?_⟩⟩
 have:=d j b
 simpa using this
theorem Q4n {n:Q9} (h:lk l n=none):Y7 l n=none:=by
 cases b:Y7 l n with
 | none=>rfl
 | some i=>obtain ⟨c,a,_⟩:=Jt b;rw[h] at a;cases a
set_option maxHeartbeats 1000000 in
theorem X0d {n:Q9} (ok:Ok l): ∀(k:Nat) {c:Cla} {cs:List Value} {w:World} {σ:Q4} {K:Value→World→Prop},I5 l c.name<k→lk l c.name=some c→X4 w σ→Sl 8 V4 σ v l→V4 σ c cs→
 (∀pv cv hv w' Z,Stp w σ w' Z→L9 Z (o2 (V2 l c n)) [S (o2 (V2 l c n)).name,pv,S (o2 (V2 l c n)).result, .bool (o2 (V2 l c n)).abs,I (o2 (V2 l c n)).locals,cv,hv]→
  K (.tuple #[S (o1 (V2 l c n)), .agg [S (o2 (V2 l c n)).name,pv,S (o2 (V2 l c n)).result, .bool (o2 (V2 l c n)).abs,I (o2 (V2 l c n)).locals,cv,hv].toArray, .bool (V2 l c n).isSome]) w')→
 Q0 P F.aL [v, .agg cs.toArray,S n] w K:=by
 intro k
 induction k with
 | zero=>
  intro c cs w σ K hk
  omega
 | succ k ih=>
  intro c cs w σ K hk hc hs hv hr h
  refine Pa ?_
  obtain ⟨lv,fv,mv,rfl,g1,g2,g3,g4,g5⟩:=hr
  have E:=Q4C ok.acy hc n
  generalize hf:(fun u=>match lk l u with | none=>none | some d=>match E8 d n with | some m=>some (u,m) | none=>V2 l d n)=f at E
  unfold Ls
  refine Z1 hs fun a w1 σ1 H ar=>?_
  refine P3 H.sat fun b w2 σ2 hb Q a2=>?_
  have Y:w.heap.size≤b:=Zq hb H
  have ap:=ar.up Q
  have g1:=(g1.up H).up Q
  refine U4 c.like.length (fun i w'=> ∃Z,Stp w σ w' Z∧SLe σ2 Z∧Z9 Z w' b [S [], .slice none 0 0,S [], .bool false,I 0, .slice none 0 0, .slice none 0 0]∧(c.like.take i).findSome? f=none) ⟨σ2,H.trans Q,SLe.refl _,a2,rfl⟩ fun i w3 d hi ad=>?_
  obtain ⟨σ3,e,X,ak,B⟩:=ad
  have R:=hv.up e
  have V:=ap.lift X
  have C:=g1.lift X
  (try simp only[↓M1,M1,Mb,reduceIte])
  refine ld e.sat V rfl ?_
  refine X0 C ?_
  refine Z4 ?_
  refine Q6 (fun hh=>?_) (fun hh=>?_)
  ·have g:i<c.like.length:=by simpa using hh
   (try simp only[↓M1,M1,Mb,reduceIte])
   refine ld e.sat V rfl ?_
   refine U7 C g ?_
   obtain ⟨p0,_⟩:=C.elS g
   refine Y0 e.sat p0 rfl ?_
   obtain ⟨d,hd⟩:=ok.full c (V1 hc).2.1 _ (List.getElem_mem g)
   obtain ⟨M,bs,_⟩:=V1 hd
   have t:f c.like[i]=match E8 d n with | some m=>some (c.like[i],m) | none=>V2 l d n:=by rw[←hf];simp only[hd]
   refine Cp e.sat R hd fun j hj bw=>?_
   obtain ⟨ab,a6⟩:=List.getElem?_eq_some_iff.1 hj
   refine U7 R ab ?_
   obtain ⟨bp,bu,b0,p1,r1⟩:=R.elC ab
   rw[a6] at p1 r1
   refine Z2 e.sat p1 rfl ?_
   refine Y5 e.sat (by rfl) rfl (Rep.one r1) fun q w4 σ4 o N=>?_
   refine Z2 o.sat N rfl ?_
   refine Q7L o.sat (RCl_lift r1 ⟨o.le⟩) fun w5 σ5 p=>?_
   refine G1 ?_
   rw[Jp]
   have z:=(e.trans o).trans p
   have D:=(ak.step o).step p
   have ax:=N.up p
   have r5:=RCl_lift r1 ⟨(o.trans p).le⟩
   have W:=p.sat
   have av:SLe σ2 σ5:=X.more ⟨(o.trans p).le⟩
   clear N p1 r1 p0 V C o p
   cases ho:Ry d n with
   | some i2=>
    obtain ⟨a5,aq⟩:=Q7K ho
    rw[aq] at t
    simp only[Option.isSome_some,L2,↓M1,M1,Mb,reduceIte]
    obtain ⟨_,_,a1,_,_⟩:=r5.parts
    obtain ⟨pv,cv,bn,p2,r2⟩:=a1.elM a5
    refine U8 W ?_
    (repeat refine Z8 Xq ?_)
    (intros;(repeat (rename_i hx;subst hx));(try simp only[↓M2,M2,Mb,reduceIte]))
    rename_i w6 ae
    refine Qv (D.step ae.stp) (z.trans ae.stp) Y rfl rfl (Rep.one r2) fun w8 az ay=>?_
    refine W6 ay rfl ?_
    have U:=E.trans (Xm g B t)
    rw[U] at h
    rw[M]
    exact h _ _ _ w8 σ5 az.stp r2
   | none=>
    rw[Q4h ho] at t
    simp only[Option.isSome_none,↓M1,M1,Mb,reduceIte]
    refine Z2 W ax rfl ?_
    have bo:=Yp ok.acy hc (by simp[J9,List.getElem_mem g]:c.like[i]∈J9 c) hd
    refine ih (by rw[M];omega) (by rw[M];exact hd) W (hv.up z) r5 fun pv cv bl w8 σ8 A L=>?_
    refine Z7 (vs:=[_,_,_]) rfl ?_
    refine Z7 (vs:=[_,_,_]) rfl ?_
    refine Z7 (vs:=[_,_,_]) rfl ?_
    refine Y5 A.sat (by rfl) rfl (Rep.one L) fun q w9 σ9 y aw=>?_
    have af:=(z.trans A).trans y
    have aa:=(D.step A).step y
    have O:=RMe_lift L ⟨y.le⟩
    have a3:SLe σ2 σ9:=av.more ⟨(A.trans y).le⟩
    have a0:=y.sat
    cases U:V2 l d n with
    | some r=>
     obtain ⟨s,m⟩:=r
     rw[U] at t O aw
     clear L A y
     simp only[U,Option.isSome_some,↓M1,M1,Mb,reduceIte]
     refine U8 a0 ?_
     (repeat refine Z8 Xq ?_)
     (intros;(repeat (rename_i hx;subst hx));(try simp only[↓M2,M2,Mb,reduceIte]))
     rename_i bq J
     refine Qv (aa.step J.stp) (af.trans J.stp) Y rfl rfl (Rep.one O) fun a4 ai aj=>?_
     refine W6 aj rfl ?_
     have ba:=E.trans (Xm g B t)
     rw[ba] at h
     exact h _ _ _ a4 σ9 ai.stp O
    | none=>
     rw[U] at t
     simp only[Option.isSome_none,↓M1,M1,Mb,reduceIte]
     refine Y6 (by have:=g1.max;omega) g ⟨σ9,af,a3,aa,?_⟩
     rw[Xe g B];exact t
  ·have g: ¬i<c.like.length:=by simpa using hh
   rw[List.take_of_length_le (by omega)] at B
   refine Hs ?_
   refine Qv ak e Y rfl rfl (Rep.one (Qm (σ:=σ3))) fun w5 z D=>?_
   refine W6 D rfl ?_
   have U:=E.trans B
   rw[U] at h
   exact h _ _ _ w5 σ3 z.stp Qm
set_option maxHeartbeats 1000000 in
theorem Q8u {k n:Q9} (hs:X4 w σ) (hv:Sl 8 V4 σ v l) (ok:Ok l)
 (h: ∀pv cv hv w' O,Stp w σ w' O→L9 O (o2 (J0 l k n)) [S (o2 (J0 l k n)).name,pv,S (o2 (J0 l k n)).result, .bool (o2 (J0 l k n)).abs,I (o2 (J0 l k n)).locals,cv,hv]→
  K (.tuple #[S (o1 (J0 l k n)), .agg [S (o2 (J0 l k n)).name,pv,S (o2 (J0 l k n)).result, .bool (o2 (J0 l k n)).abs,I (o2 (J0 l k n)).locals,cv,hv].toArray, .bool (J0 l k n).isSome]) w'):
 Q0 P F.br [v,S k,S n] w K:=Fy (by
 unfold Wm
 refine P3 hs fun b w1 σ1 hb ab a6=>?_
 refine Qg ab.sat (hv.up ab) ?_
 unfold J0 at h
 generalize hF:(fun c:Cla=>(E8 c n).map (c.name,·))=F1 at h
 have al: ∀c,F1 c=(E8 c n).map (c.name,·):=fun c=>by rw[←hF]
 refine Iy (fun m x w'=> ∃s H O,m=(chain l s).length∧x=I (L2 (Y7 l s))∧chain l k=H++chain l s∧Stp w σ w' O∧Z9 O w' b [S [], .slice none 0 0,S [], .bool false,I 0, .slice none 0 0, .slice none 0 0]∧H.findSome? F1=none)
  (chain l k).length ⟨k,[],σ1,rfl,rfl,rfl,ab,a6,rfl⟩ ?_
 rintro aa m x d w2 ⟨s,H,σ2,rfl,rfl,a,D,af,f⟩ C
 have E:=hv.up D
 have U:=D.sat
 refine G1 ?_
 rw[Jp]
 cases A:lk l s with
 | some c=>
  obtain ⟨an,ar,i,X,ac⟩:=V1 A
  obtain ⟨p,R⟩:=List.getElem?_eq_some_iff.1 ac
  simp only[X,Option.isSome_some,L2,↓M1,M1,Mb,reduceIte]
  refine U7 E p ?_
  obtain ⟨lv,fv,mv,y,L⟩:=E.elC p
  rw[R] at y L
  refine Z2 U y rfl ?_
  refine Q7L U L fun w3 σ3 j=>?_
  refine G1 ?_
  rw[Jp]
  have g:=D.trans j
  have t:=E.up j
  have z:=af.step j
  have u:=j.sat
  replace y:=y.up j
  replace L:=RCl_lift L ⟨j.le⟩
  have o:chain l s=c::chain l c.super:=by rw[I6 ok.acy s,A]
  cases V:Ry c n with
  | some i2=>
   obtain ⟨a2,ay⟩:=Q7K V
   simp only[Option.isSome_some,L2,↓M1,M1,Mb,reduceIte]
   obtain ⟨_,_,aw,_,_⟩:=L.parts
   obtain ⟨pv,cv,bj,p2,r2⟩:=aw.elM a2
   clear j
   refine U8 u ?_
   (repeat refine Z8 Xq ?_)
   (intros;(repeat (rename_i hx;subst hx));(try simp only[↓M2,M2,Mb,reduceIte]))
   rename_i w4 ae
   refine Qv (z.step ae.stp) (g.trans ae.stp) hb rfl rfl (Rep.one r2) fun w8 a5 a0=>?_
   refine W6 a0 rfl ?_
   have J:(chain l k).findSome? F1=some (c.name,c.methods[i2]):=by
    rw[a,List.findSome?_append,f,o,List.findSome?_cons,al,ay];rfl
   rw[J] at h
   exact h _ _ _ w8 σ3 a5.stp r2
  | none=>
   simp only[Option.isSome_none,↓M1,M1,Mb,reduceIte]
   refine U7 t p ?_
   (try simp only[↓M1,M1,Mb,reduceIte])
   refine ld u y rfl ?_
   refine Qg u t ?_
   refine C (chain l c.super).length _ _ (by rw[o,List.length_cons];omega) ⟨c.super,H++[c],σ3,rfl,rfl,by rw[a,o];simp,g,z,?_⟩
   rw[List.findSome?_append,f]
   simp[al,Q4h V]
 | none=>
  rw[Q4n A]
  simp only[Option.isSome_none,↓M1,M1,Mb,reduceIte]
  have ak:(chain l k).findSome? F1=none:=by rw[a,T7 A,List.append_nil];exact f
  rw[ak] at h
  clear C f a
  refine Qg U E ?_
  refine Iy (fun m x w'=> ∃s H O,m=(chain l s).length∧x=I (L2 (Y7 l s))∧chain l k=H++chain l s∧Stp w σ w' O∧Z9 O w' b [S [], .slice none 0 0,S [], .bool false,I 0, .slice none 0 0, .slice none 0 0]∧H.findSome? (fun c=>V2 l c n)=none)
   (chain l k).length ⟨k,[],σ2,rfl,rfl,rfl,D,af,rfl⟩ ?_
  rintro aa m x d w3 ⟨s,H,σ3,rfl,rfl,a,g,z,f⟩ C
  have t:=hv.up g
  have u:=g.sat
  refine G1 ?_
  rw[Jp]
  cases A:lk l s with
  | some c=>
   obtain ⟨an,ar,i,X,ac⟩:=V1 A
   obtain ⟨p,R⟩:=List.getElem?_eq_some_iff.1 ac
   simp only[X,Option.isSome_some,L2,↓M1,M1,Mb,reduceIte]
   refine U7 t p ?_
   obtain ⟨lv,fv,mv,y,L⟩:=t.elC p
   rw[R] at y L
   refine Z2 u y rfl ?_
   have o:chain l s=c::chain l c.super:=by rw[I6 ok.acy s,A]
   refine X0d ok _ (Nat.lt_succ_self _) (by rw[an];exact A) u t L fun pv cv bc w8 σ8 W Q=>?_
   refine Z7 (vs:=[_,_,_]) rfl ?_
   refine Z7 (vs:=[_,_,_]) rfl ?_
   refine Z7 (vs:=[_,_,_]) rfl ?_
   refine Y5 W.sat (by rfl) rfl (Rep.one Q) fun q w9 σ9 B az=>?_
   have e:=W.trans B
   have ao:=g.trans e
   have ag:=z.step e
   have Y:=RMe_lift Q ⟨B.le⟩
   have Z:=B.sat
   have am:=t.up e
   replace y:=y.up e
   cases V:V2 l c n with
   | some r=>
    obtain ⟨s,m⟩:=r
    rw[V] at Y az
    clear Q W B e
    simp only[V,Option.isSome_some,↓M1,M1,Mb,reduceIte]
    refine U8 Z ?_
    (repeat refine Z8 Xq ?_)
    (intros;(repeat (rename_i hx;subst hx));(try simp only[↓M2,M2,Mb,reduceIte]))
    rename_i ba N
    refine Qv (ag.step N.stp) (ao.trans N.stp) hb rfl rfl (Rep.one Y) fun a1 ai aj=>?_
    refine W6 aj rfl ?_
    have J:(chain l k).findSome? (fun c=>V2 l c n)=some (s,m):=by
     rw[a,List.findSome?_append,f,o,List.findSome?_cons,V];rfl
    unfold V2 at J
    rw[J] at h
    exact h _ _ _ a1 σ9 ai.stp Y
   | none=>
    simp only[Option.isSome_none,↓M1,M1,Mb,reduceIte]
    refine U7 am p ?_
    (try simp only[↓M1,M1,Mb,reduceIte])
    refine ld Z y rfl ?_
    refine Qg Z am ?_
    refine C (chain l c.super).length _ _ (by rw[o,List.length_cons];omega) ⟨c.super,H++[c],σ9,rfl,rfl,by rw[a,o];simp,ao,ag,?_⟩
    rw[List.findSome?_append,f]
    simp[V]
  | none=>
   rw[Q4n A]
   simp only[Option.isSome_none,↓M1,M1,Mb,reduceIte]
   have M:(chain l k).findSome? (fun c=>V2 l c n)=none:=by rw[a,T7 A,List.append_nil];exact f
   refine Hs ?_
   refine Qv z g hb rfl rfl (Rep.one (Qm (σ:=σ3))) fun w7 a3 av=>?_
   refine W6 av rfl ?_
   unfold V2 at M
   rw[M] at h
   exact h _ _ _ w7 σ3 a3.stp Qm)
end Go.Proofs.YtfppjenblllfaaaGreatDoor

namespace Go.Hm
open Go.Kd
theorem Q1N: ∀(xs:List Q9) (x:Q9),xs≠[]→D0 (xs++[x])=D0 xs++[44]++x
 | [],_,h=>absurd rfl h
 | [a],x,_=>by simp[D0]
 | a::b::r,x,_=>by
  have:=Q1N (b::r) x (by simp)
  simp only[List.cons_append] at this⊢
  simp only[D0,this]
  simp
theorem Q24 {xs:List Q9} {n:Nat} (h:n<xs.length):D0 (xs.take (n+1))=D0 (xs.take n)++(if 0<n then [44] else [])++xs[n]:=by
 rw[List.take_add_one,List.getElem?_eq_getElem h]
 simp only[Option.toList_some]
 cases n with
 | zero=>simp[D0]
 | succ n=>
  rw[Q1N _ _ (by intro e;have:=congrArg List.length e;simp only[List.length_take,List.length_nil] at this;omega)]
  simp
end Go.Hm
namespace Go.Proofs.YtfppjenblllfaaaGreatDoor
open Go.Emb Go.RowKit Go.Kd Go.Hm
variable {w : World} {K : Value → World → Prop} {σ : Q4} {l : List Cla} {v : Value}
theorem Q6A {m:Hm.Met} {cs:List Value} (D:X4 w σ) (z:L9 σ m cs) (k:SmM m) (o:NmM m) (h: ∀w' B,Stp w σ w' B→K (S (Qh m)) w'):Q0 P F.aS [.agg cs.toArray] w K:=Al (by
 obtain ⟨pv,R,N,rfl,f,O,J,U,H,L⟩:=z
 unfold Oa
 refine Z1 D fun q w1 σ1 g j=>?_
 have f:=f.up g
 have C: ∀n,(D0 (m.params.take n)).length≤101000000:=fun n=>by
  have:=Hj (m.params.take n) fun x u=>o.2 x (List.mem_of_mem_take u)
  have A:(m.params.take n).length≤1000000:=by rw[List.length_take];have:=k.1;omega
  have M:(m.params.take n).length*101≤1000000*101:=Nat.mul_le_mul_right _ A
  omega
 have c:=g.sat
 refine E3 m.params.length (fun n a w'=>w'=w1∧a=S ([40]++D0 (m.params.take n))) ⟨rfl,by simp[D0]⟩ fun n a Q d E i=>?_
 obtain ⟨y,rfl⟩:=i
 subst y
 have r:=C n
 (try simp only[↓M1,M1,Mb,reduceIte])
 refine ld c j rfl ?_
 refine X0 f ?_
 refine Z4 ?_
 refine Q6 (fun p=>?_) (fun p=>?_)
 ·have b:n<m.params.length:=by simpa using p
  have u:=o.2 _ (List.getElem_mem b)
  refine W0 ?_
  obtain ⟨t,_⟩:=f.elS b
  refine Q6 (fun s=>?_) (fun s=>?_)
  ·have e:0<n:=by have:=of_decide_eq_true s;omega
   refine Df (by simp only[List.length_append,List.length_cons,List.length_nil];omega) ?_
   intro d
   (try simp only[↓M1,M1,Mb,reduceIte])
   refine ld c j rfl ?_
   refine U7 f b ?_
   refine Y0 c t rfl ?_
   refine Df (by simp only[List.length_append,List.length_cons,List.length_nil];omega) ?_
   (try simp only[↓M1,M1,Mb,reduceIte])
   refine J1 f.max b ⟨rfl,?_⟩
   rw[Q24 b,if_pos e];simp
  ·have e: ¬0<n:=by have:=of_decide_eq_false s;omega
   intro d
   (try simp only[↓M1,M1,Mb,reduceIte])
   refine ld c j rfl ?_
   refine U7 f b ?_
   refine Y0 c t rfl ?_
   refine Df (by simp only[List.length_append,List.length_cons,List.length_nil];omega) ?_
   (try simp only[↓M1,M1,Mb,reduceIte])
   refine J1 f.max b ⟨rfl,?_⟩
   rw[Q24 b,if_neg e];simp
 ·have b: ¬n<m.params.length:=by simpa using p
  rw[List.take_of_length_le (by omega)] at r⊢
  refine Df (by simp only[List.length_append,List.length_cons,List.length_nil];omega) ?_
  (try simp only[↓M1,M1,Mb,reduceIte])
  refine ld c j rfl ?_
  refine Df (by simp only[List.length_append,List.length_cons,List.length_nil];have:=o.1;omega) ?_
  exact h _ _ g)
end Go.Proofs.YtfppjenblllfaaaGreatDoor

namespace Go.Hm
open Go.Kd
def Edge (l:List Cla) (i j:Nat):Prop:= ∃c,l[i]? =some c∧ ∃u∈J9 c,Y7 l u=some j
inductive Thr (E : Nat → Nat → Prop) (n : Nat) : Nat → Nat → Prop
  | one {i j : Nat} : E i j → Thr E n i j
  | more {i m j : Nat} : E i m → m < n → Thr E n m j → Thr E n i j
theorem Thr.cut {E:Nat→Nat→Prop} {n i j:Nat} (h:Thr E (n+1) i j):Thr E n i j∨(Thr E n i n∧Thr E n n j):=by
 induction h with
 | one h=>exact .inl (.one h)
 | @more i m j d f _ c=>
  by_cases e:m<n
  ·rcases c with c | ⟨a,b⟩
   ·exact .inl (.more d e c)
   ·exact .inr ⟨.more d e a,b⟩
  ·obtain rfl:m=n:=by omega
   rcases c with c | ⟨a,b⟩
   ·exact .inr ⟨.one d,c⟩
   ·exact .inr ⟨.one d,b⟩
theorem Thr.join {E:Nat→Nat→Prop} {n i k j:Nat} (h:Thr E n i k) (a:k<n) (g:Thr E n k j):Thr E n i j:=by
 induction h with
 | one h=>exact .more h a g
 | more d b _ c=>exact .more d b (c a g)
theorem Q4O {l:List Cla} (f:K4 l) {i j:Nat} (d:i<l.length):Edge l i j↔j<l.length∧ ∃u∈J9 l[i],u=Y3 l j∧Y7 l u=some j:=by
 unfold Edge
 rw[List.getElem?_eq_getElem d]
 constructor
 ·rintro ⟨c,e,u,b,a⟩
  cases e
  exact ⟨(B1 a).1,u,b,(B1 a).2.symm,a⟩
 ·rintro ⟨_,u,b,_,a⟩
  exact ⟨_,rfl,u,b,a⟩
theorem X1s {l:List Cla} (b:K4 l) {i:Nat} (a:i<l.length):lk l (Y3 l i)=some l[i]:=by
 have:=Xp b a
 rwa [List.getD_eq_getElem?_getD,List.getElem?_eq_getElem a] at this
theorem X13 {l:List Cla} (b:K4 l) {i j:Nat} (a:i<l.length) (h:Thr (Edge l) l.length i j):j<l.length∧Vo (lk l) (Y3 l i) (Y3 l j):=by
 induction h with
 | one h=>
  obtain ⟨f,u,d,e,g⟩:=(Q4O b a).1 h
  obtain ⟨c,o,_⟩:=Jt g
  refine ⟨f,_,X1s b a,u,d,?_⟩
  subst e;exact .refl o
 | more f n _ p=>
  obtain ⟨k,m⟩:=p n
  obtain ⟨_,u,d,e,g⟩:=(Q4O b a).1 f
  refine ⟨k,_,X1s b a,u,d,?_⟩
  subst e;exact m.reach
theorem Q9v {l:List Cla} (w:K4 l) {a b:Q9} (h:Hm.Reach (lk l) a b): ∀i j,Y7 l a=some i→Y7 l b=some j→i=j∨Thr (Edge l) l.length i j:=by
 induction h with
 | refl _=>
  intro i j m f;rw[m] at f;cases f;exact .inl rfl
 | step t v r p=>
  rename_i a u b c
  intro i j m f
  obtain ⟨d,s⟩:=r.left
  obtain ⟨_,_,k,g,q⟩:=V1 s
  obtain ⟨y,e,n,_⟩:=Jt m
  rw[t] at e;cases e
  have o:Edge l i k:=⟨c,n,u,v,g⟩
  rcases p k j g f with rfl | hT
  ·exact .inr (.one o)
  ·exact .inr (.more o (B1 g).1 hT)
theorem X0P {l:List Cla} (e:K4 l) {i j:Nat} (f:i<l.length) (m:j<l.length) (h:Vo (lk l) (Y3 l i) (Y3 l j)):Thr (Edge l) l.length i j:=by
 obtain ⟨c,o,u,r,n⟩:=h
 rw[X1s e f] at o;cases o
 obtain ⟨d,q⟩:=n.left
 obtain ⟨_,_,k,b,p⟩:=V1 q
 have g:Edge l i k:=⟨_,List.getElem?_eq_getElem f,u,r,b⟩
 have a:Y7 l (Y3 l j)=some j:=by
  have:=e.find (List.getElem?_eq_getElem m)
  unfold Y3
  rw[List.getD_eq_getElem?_getD,List.getElem?_eq_getElem m];exact this
 rcases Q9v e n k j b a with rfl | hT
 ·exact .one g
 ·exact .more g (B1 b).1 hT
theorem X2j {l:List Cla} (b:K4 l) {i j:Nat} (a:i<l.length) (c:j<l.length):Thr (Edge l) l.length i j↔Jq l (Y3 l i) (Y3 l j)=true:=by
 rw[Wh]
 exact ⟨fun h=>(X13 b a h).2,X0P b a c⟩
def Yn (l:List Cla):List (List Bool):=(List.range l.length).map fun i=>(List.range l.length).map fun j=>Jq l (Y3 l i) (Y3 l j)
def Bl (m:Nat→Nat→Bool) (i j:Nat) (b:Bool):Nat→Nat→Bool:=fun x y=>if x=i∧y=j then b else m x y
structure Clos (E : Nat → Nat → Prop) (n k i j : Nat) (m : Nat → Nat → Bool) : Prop where
  sound : ∀ a b, m a b = true → Thr E n a b
  full : ∀ a b, a < n → b < n → Thr E k a b → m a b = true
  done : ∀ a b, a < n → b < n → (a < i ∨ (a = i ∧ b < j)) → Thr E (k + 1) a b → m a b = true
theorem Clos.next {E:Nat→Nat→Prop} {n k i j:Nat} {m:Nat→Nat→Bool} (h:Clos E n k i j m) (o:k<n) (s:i<n) (t:j<n):Clos E n k i (j+1) (Bl m i j (m i j||(m i k&&m k j))):=by
 have f: ∀a b,m a b=true→Bl m i j (m i j||(m i k&&m k j)) a b=true:=by
  intro a b c
  unfold Bl
  split
  ·rename_i e;rw[←e.1,←e.2,c];rfl
  ·exact c
 refine ⟨fun a b c=>?_,fun a b r p l=>f a b (h.full a b r p l),fun a b r p q l=>?_⟩
 ·unfold Bl at c
  split at c
  ·rename_i e
   obtain ⟨rfl,rfl⟩:=e
   simp only[Bool.or_eq_true,Bool.and_eq_true] at c
   rcases c with d | ⟨d,g⟩
   ·exact h.sound _ _ d
   ·exact (h.sound _ _ d).join o (h.sound _ _ g)
  ·exact h.sound _ _ c
 ·by_cases e:a=i∧b=j
  ·obtain ⟨rfl,rfl⟩:=e
   unfold Bl
   rw[if_pos ⟨rfl,rfl⟩]
   rcases l.cut with d | ⟨d,g⟩
   ·rw[h.full _ _ s t d];rfl
   ·rw[h.full _ _ s o d,h.full _ _ o t g];simp
  ·refine f a b (h.done a b r p ?_ l)
   rcases q with d | ⟨d,g⟩
   ·exact .inl d
   ·right;refine ⟨d,?_⟩
    have:b≠j:=fun u=>e ⟨d,u⟩
    omega
theorem Clos.row {E:Nat→Nat→Prop} {n k i:Nat} {m:Nat→Nat→Bool} (h:Clos E n k i n m):Clos E n k (i+1) 0 m:=
 ⟨h.sound,h.full,fun a b f e d c=>h.done a b f e (by omega) c⟩
theorem Clos.round {E:Nat→Nat→Prop} {n k:Nat} {m:Nat→Nat→Bool} (h:Clos E n k n 0 m):Clos E n (k+1) 0 0 m:=
 ⟨h.sound,fun a b c e d=>h.done a b c e (.inl c) d,fun a b c e f d=>by omega⟩
theorem Clos.start {E:Nat→Nat→Prop} {n:Nat} {m:Nat→Nat→Bool} (h: ∀a b,a<n→(m a b=true↔E a b)) (j: ∀a b,n≤a→m a b=false):Clos E n 0 0 0 m:=by
 refine ⟨fun a b c=>?_,fun a b d i f=>?_,fun a b d i g f=>by omega⟩
 ·by_cases d:a<n
  ·exact .one ((h a b d).1 c)
  ·rw[j a b (by omega)] at c;cases c
 ·cases f with
  | one e=>exact (h a b d).2 e
  | more _ k _=>omega
theorem Clos.all {l:List Cla} (c:K4 l) {m:Nat→Nat→Bool} (h:Clos (Edge l) l.length l.length 0 0 m) {i j:Nat} (b:i<l.length) (a:j<l.length):m i j=Jq l (Y3 l i) (Y3 l j):=by
 rw[Bool.eq_iff_iff,←X2j c b a]
 exact ⟨h.sound i j,h.full i j b a⟩
end Go.Hm

namespace Go.Emb
open Go.RowKit Go.Hm
variable {P : Program} {w w0 w1 w' w'' : World} {K : Value → World → Prop} {σ σ0 σ1 σ' : Q4}
theorem X3M {t e:TypeId} {by_ n:Nat} {z:Value} [ts:TS P t e] [tz:TZ P e 1 by_ z] (g:X4 w σ) (l:z.cells= #[z]) (m:n≤1000000) (o:by_*n≤281474976710656)
 (h: ∀b w',w.heap.size≤b→Stp w σ w' σ→Z9 σ w' b (List.replicate n z)→K (.slice (some ⟨b,0,none⟩) n n) w'):Ow P t (I n) (I n) w K:=by
 obtain ⟨i,j,c,f,a⟩:=tz.info
 have d:(i.bytes:Int)*(n:Int)≤281474976710656:=by
  rw[f]
  have:((by_*n:Nat):Int)≤281474976710656:=by omega
  rwa [Int.natCast_mul] at this
 have k:=run_makeSlice (P:=P) w t e i z ts.h j a .i64 .i64 (n:Int) (n:Int) (by omega) (Int.le_refl _) (by rw[c];simp only[Int.toNat_natCast];omega) d (by omega)
 unfold Ow
 rw[Y2 k]
 simp only[Int.toNat_natCast,c,Nat.mul_one]
 refine h _ _ (Nat.le_refl _) (Stp.own g _) ⟨g.none (Nat.le_refl _),e,?_⟩
 rw[heap_alloc_new,l]
 have:madeCells #[z] n=(List.replicate n z).toArray:=by rw[←toList_madeCells_one,Array.toArray_toList]
 rw[this]
def Q61 (n:Nat) (_:Q4) (b:Nat) (cs:List Value):Prop:=cs=[.slice (some ⟨b,0,none⟩) n n]
instance (n:Nat):Rep (Q61 n):=⟨fun _ h=>h,fun h u hu=>by rw[h] at hu;simp at hu;subst hu;rfl⟩
def X0h (σ:Q4) (xs:List Bool) (cs:List Value):Prop:= ∃v,cs=[v]∧Sl 1 Q9l σ v xs
instance:Rep X0h:=⟨fun k h=>by obtain ⟨v,h1,h2⟩:=h;exact ⟨v,h1,h2.le k⟩,fun h u hu=>by
 obtain ⟨v,rfl,a,cap,rfl,_⟩:=h
 simp at hu;subst hu;rfl⟩
def bools (n:Nat) (f:Nat→Bool):List Value:=(List.range n).map fun j=> .bool (f j)
theorem Q0y {n:Nat} {f:Nat→Bool}:(bools n f).length=n:=by simp[bools]
theorem Q4k {n j:Nat} {f:Nat→Bool} (h:j<n):(bools n f)[j]? =some (.bool (f j)):=by simp[bools,h]
theorem Q4e {n j:Nat} {f:Nat→Bool} {b:Bool}:(bools n f).set j (.bool b)=bools n (fun x=>if x=j then b else f x):=by
 apply List.ext_getElem?
 intro k
 rw[List.getElem?_set]
 by_cases a:k<n
 ·by_cases e:j=k
  ·subst e;simp[bools,a]
  ·have c: ¬k=j:=fun h=>e h.symm
   simp[bools,a,e,c]
 ·simp[bools,a]
  intro e;omega
theorem Q7u {n:Nat}:List.replicate n (Value.bool false)=bools n fun _=>false:=by
 apply List.ext_getElem?
 intro k
 by_cases a:k<n<;>simp[bools,a]
def Qp (σ:Q4) (w:World) (a:List Nat) (n:Nat) (m:Nat→Nat→Bool):Prop:=a.Nodup∧ ∀i (h:i<a.length),Z9 σ w a[i] (bools n (m i))
theorem Qp.up {a:List Nat} {n:Nat} {m:Nat→Nat→Bool} (h:Qp σ w a n m) (k:Stp w σ w' σ'):Qp σ' w' a n m:=⟨h.1,fun i b=>(h.2 i b).up k⟩
theorem Qp.kp {a:List Nat} {n:Nat} {m:Nat→Nat→Bool} {D:Nat→Prop} (h:Qp σ w a n m) (k:Kpt D w w') (d: ∀b∈a,¬D b):Qp σ w' a n m:=⟨h.1,fun i c=>(h.2 i c).kp k (d _ (List.getElem_mem c))⟩
theorem Qp.lt {a:List Nat} {n:Nat} {m:Nat→Nat→Bool} (h:Qp σ w a n m) {b:Nat} (d:b∈a):b<w.heap.size∧σ b=none:=by
 obtain ⟨i,c,rfl⟩:=List.getElem_of_mem d
 exact ⟨(h.2 i c).lt,(h.2 i c).1⟩
theorem Qp.snoc {d:List Nat} {n b:Nat} {m:Nat→Nat→Bool} {f:Nat→Bool} (h:Qp σ w d n m) (l:b∉d) (k:Z9 σ w b (bools n f)):Qp σ w (d++[b]) n (fun x=>if x=d.length then f else m x):=by
 refine ⟨by rw[List.nodup_append];exact ⟨h.1,by simp,fun a p c j e=>by simp at j;subst j;subst e;exact l p⟩,fun i o=>?_⟩
 rw[List.length_append,List.length_singleton] at o
 by_cases g:i<d.length
 ·rw[List.getElem_append_left g]
  simp only[if_neg (show¬i=d.length by omega)]
  exact h.2 i g
 ·obtain rfl:i=d.length:=by omega
  simp only[List.getElem_concat_length,if_true]
  exact k
theorem Qp.congr {a:List Nat} {n:Nat} {m m':Nat→Nat→Bool} (h:Qp σ w a n m) (c: ∀i,i<a.length→m i=m' i):Qp σ w a n m':=⟨h.1,fun i b=>c i b▸h.2 i b⟩
theorem Qp.keep {a:List Nat} {n:Nat} {m:Nat→Nat→Bool} (U:0<n) (t:n≤1000000): ∀{σ:Q4},Qp σ w a n m→Stp w0 σ0 w σ→(∀b∈a,w0.heap.size≤b)→ ∃σ',Stp w0 σ0 w σ'∧SLe σ σ'∧ ∀i (h:i<a.length),Sl 1 Q9l σ' (.slice (some ⟨a[i],0,none⟩) n n) ((List.range n).map (m i)):=by
 intro σ h H O
 have key: ∀k,k≤a.length→ ∃σ',Stp w0 σ0 w σ'∧SLe σ σ'∧(∀i (h:i<a.length),i<k→Z0 σ' ⟨a[i],0,none⟩ (bools n (m i)))∧ ∀i (h:i<a.length),k≤i→σ' a[i]=none:=by
  intro k
  induction k with
  | zero=>intro _;exact ⟨σ,H,SLe.refl _,fun i _ h=>by omega,fun i d _=>(h.2 i d).1⟩
  | succ k B=>
   intro R
   obtain ⟨σ1,p,o,g,u⟩:=B (by omega)
   have c:k<a.length:=by omega
   have C:Z9 σ1 w a[k] (bools n (m k)):=⟨u k c (Nat.le_refl _),(h.2 k c).2⟩
   obtain ⟨z,D,N,r,Q⟩:=C.keep p (O _ (List.getElem_mem c))
   refine ⟨z,D,o.more ⟨r⟩,fun i d E=>?_,fun i d L=>?_⟩
   ·by_cases e:i=k
    ·subst e;exact N
    ·exact (g i d (by omega)).le r
   ·rw[Q]
    ·exact u i d (by omega)
    ·intro e
     have:=List.nodup_iff_pairwise_ne.1 h.1
     rw[List.pairwise_iff_getElem] at this
     exact this k i c d (by omega) e.symm
 obtain ⟨σ1,p,o,g,_⟩:=key a.length (Nat.le_refl _)
 refine ⟨σ1,p,o,fun i d=>⟨some ⟨a[i],0,none⟩,n,by simp,by simp,by simp only[maxLen];omega,fun e=>(by cases e),?_⟩⟩
 intro b A
 obtain rfl:=Option.some.inj A
 refine ⟨fun _=>rfl,fun j x l=>?_⟩
 have s:j<n:=by have:=(List.getElem?_eq_some_iff.1 l).1;simpa using this
 obtain ⟨q0,E1,e,y,J,M⟩:=g i d d
 have f:x=m i j:=by simp[s] at l;exact l.symm
 refine ⟨[.bool x],⟨K8 rfl _,E1,e,y,by rw[B5];exact J,fun k v q=>?_⟩,rfl,rfl⟩
 obtain rfl:k=0:=by cases k with
  | zero=>rfl
  | succ k=>simp at q
 simp at q
 rw[Yr,←q,f]
 have:=M j _ (Q4k s)
 simpa using this
end Go.Emb
