/- Parts of a proof about the given program: its functions as texts of their own, what each computes, plain laws of that. The conditions of each stand in its statement. -/
import Derived.Test.YtkllbfjojoncaaaGreatDoorB3
import Derived.Shelf.Strings.Builder1
import Derived.Shelf.Strings.Builder2
import Derived.Shelf.Strings.OnBuilder
import Derived.Shelf.Strings.Trim
import Derived.Shelf.Small.Utf8
import Derived.Shelf.Small.Strs
import Derived.Shelf.Strings.BuilderF
import Derived.Shelf.Strings.BuilderK
import Derived.Shelf.Strings.Builder2Cap
import Derived.Shelf.Strings.Search1
import Derived.Shelf.Strings.Search2
import Derived.Shelf.Strings.Search3
import Derived.Shelf.Strings.Cut
import Derived.Shelf.LaysM
import Derived.Shelf.Strings.Shaped
import Derived.Shelf.Strings.Prefix
import Derived.Shelf.Unicode.Decode
import Derived.Shelf.Strings.Runes
import Derived.Shelf.Strings.AsciiSet
import Derived.Shelf.Unicode.DecodeSlow
import Derived.Shelf.Unicode.DecodeAny
import Derived.Shelf.Unicode.DecodeLast
import Derived.Shelf.Slices.Turned
import Derived.Ground.Names2Prog
import Derived.Shelf.Slices.Clone
import Derived.Shelf.Unicode.ValidAny
import Derived.Test.YtkllbfjojoncaaaGreatDoorProg
import Derived.Test.YtkllbfjojoncaaaGreatDoorB2
import Derived.Test.YtkllbfjojoncaaaGreatDoorRows
import Derived.Lib.LaidU8T
import Derived.OpenShut
import Derived.MakeChecks
import Derived.WideShapes
import Derived.Lib.AsciiSet
import Derived.Lib.Join
import Derived.Maps.RangeRun
set_option linter.unnecessarySimpa false
set_option linter.defProp false
set_option linter.unusedSectionVars false
set_option linter.unusedVariables false
set_option linter.unusedSimpArgs false
namespace Go.Proofs
open Go.Shelf
def Tryz.lays156_ren : Go.Shelf.Ren := ⟨fun | 156 => 163 | 165 => 194 | 166 => 195 | 169 => 196 | 240 => 212 | 241 => 213 | 276 => 223 | 277 => 224 | n => n, fun | 31 => 119 | 9 => 9 | 3 => 3 | 4 => 4 | 0 => 0 | 20 => 20 | 72 => 222 | 76 => 225 | 70 => 219 | 37 => 220 | 75 => 224 | 127 => 237 | 164 => 246 | 5 => 5 | 80 => 227 | n => n, fun | n => n⟩
theorem Tryz.lays156 : Go.Proofs.Lays.n156 Tryz.prog Tryz.lays156_ren := {
  mixed := by kernel_rfl
  f156 := Tryz.func163.trans (congrArg some (by kernel_rfl))
  f165 := Tryz.func194.trans (congrArg some (by kernel_rfl))
  f166 := Tryz.func195.trans (congrArg some (by kernel_rfl))
  f169 := Tryz.func196.trans (congrArg some (by kernel_rfl))
  f240 := Tryz.func212.trans (congrArg some (by kernel_rfl))
  f241 := Tryz.func213.trans (congrArg some (by kernel_rfl))
  f276 := Tryz.func223.trans (congrArg some (by kernel_rfl))
  f277 := Tryz.func224.trans (congrArg some (by kernel_rfl))
  t0 := Tryz.underlying0
  a0 := Tryz.isAgg0
  z0 := Tryz.sizeOf0
  v0 := Tryz.zeroValue0
  t3 := Tryz.underlying3
  a3 := Tryz.isAgg3
  z3 := Tryz.sizeOf3
  v3 := Tryz.zeroValue3
  t4 := Tryz.underlying4
  a4 := Tryz.isAgg4
  z4 := Tryz.sizeOf4
  v4 := Tryz.zeroValue4
  t9 := Tryz.underlying9
  a9 := Tryz.isAgg9
  z9 := Tryz.sizeOf9
  v9 := Tryz.zeroValue9
  t20 := Tryz.underlying20
  a20 := Tryz.isAgg20
  z20 := Tryz.sizeOf20
  v20 := Tryz.zeroValue20
  t31 := Tryz.underlying119
  a31 := Tryz.isAgg119
  z31 := Tryz.sizeOf119
  v31 := Tryz.zeroValue119
  t37 := Tryz.underlying220
  a37 := Tryz.isAgg220
  z37 := Tryz.sizeOf220
  v37 := Tryz.zeroValue220
  t70 := Tryz.underlying219
  a70 := Tryz.isAgg219
  z70 := Tryz.sizeOf219
  v70 := Tryz.zeroValue219
  t72 := Tryz.underlying222
  a72 := Tryz.isAgg222
  z72 := Tryz.sizeOf222
  v72 := Tryz.zeroValue222
  t75 := Tryz.underlying224
  a75 := Tryz.isAgg224
  z75 := Tryz.sizeOf224
  v75 := Tryz.zeroValue224
  t76 := Tryz.underlying225
  a76 := Tryz.isAgg225
  z76 := Tryz.sizeOf225
  v76 := Tryz.zeroValue225
  t127 := Tryz.underlying237
  a127 := Tryz.isAgg237
  z127 := Tryz.sizeOf237
  v127 := Tryz.zeroValue237
  t164 := Tryz.underlying246
  a164 := Tryz.isAgg246
  z164 := Tryz.sizeOf246
  v164 := Tryz.zeroValue246 }
theorem Tryz.Builder_Extra_156 : Builder.Extra Tryz.prog Tryz.lays156_ren := {
  sizeBuilder := by kernel_rfl
  liesBuilder := by kernel_rfl
  t5 := Tryz.underlying5
  a5 := Tryz.isAgg5
  z5 := Tryz.sizeOf5
  v5 := Tryz.zeroValue5
  infoByte := by kernel_rfl
  cellsByte := by kernel_rfl
  sizeByte := by kernel_rfl
  neB5 := by decide }
open Go.RowKit in
theorem Tryz.strings_Join_none (a : Option Addr) (c : Nat) (sep : ByteArray) (w : World) :
    Calls Tryz.prog 163 #[.slice a 0 c, .string sep] w fun e w' => e = .returned (.string ⟨#[]⟩) /\ w' = w := Any.strings_Join_none Tryz.lays156 Tryz.Builder_Extra_156 a c sep w
open Go.RowKit in
theorem Tryz.strings_Join (bk o c : Nat) (xs : List ByteArray) (sep : ByteArray) (w : World) (hcells : ∀ (j : Nat) x, xs[j]? = some x -> w.cell? ⟨bk, o + j, none⟩ = some (.string x)) (hbk : bk < w.heap.size) (hN : xs.length <= 140737488355328) (hcap : xs.length <= c) (hlen : (Lib.join (xs.map (·.data.toList)) sep.data.toList).length <= 140737488355328) :
    Calls Tryz.prog 163 #[.slice (some ⟨bk, o, none⟩) xs.length c, .string sep] w fun e w' => e = .returned (.string ⟨(Lib.join (xs.map (·.data.toList)) sep.data.toList).toArray⟩) /\ Below w.heap.size w w' := Any.strings_Join Tryz.lays156 Tryz.Builder_Extra_156 bk o c xs sep w hcells hbk hN hcap hlen
open Go.RowKit in
def Tryz.lays144_ren : Go.Shelf.Ren := ⟨fun | 144 => 220 | 143 => 234 | 219 => 238 | 217 => 237 | 225 => 231 | 224 => 230 | 267 => 242 | 266 => 241 | 314 => 243 | n => n, fun | 9 => 9 | 4 => 4 | 3 => 3 | 5 => 5 | 46 => 211 | 146 => 258 | 51 => 257 | n => n, fun | 1 => 4 | n => n⟩
theorem Tryz.lays144 : Go.Proofs.Lays.n144 Tryz.prog Tryz.lays144_ren := {
  mixed := by kernel_rfl
  f143 := Tryz.func234.trans (congrArg some (by kernel_rfl))
  f144 := Tryz.func220.trans (congrArg some (by kernel_rfl))
  f217 := Tryz.func237.trans (congrArg some (by kernel_rfl))
  f219 := Tryz.func238.trans (congrArg some (by kernel_rfl))
  f224 := Tryz.func230.trans (congrArg some (by kernel_rfl))
  f225 := Tryz.func231.trans (congrArg some (by kernel_rfl))
  f266 := Tryz.func241.trans (congrArg some (by kernel_rfl))
  f267 := Tryz.func242.trans (congrArg some (by kernel_rfl))
  f314 := Tryz.func243.trans (congrArg some (by kernel_rfl))
  t3 := Tryz.underlying3
  a3 := Tryz.isAgg3
  z3 := Tryz.sizeOf3
  v3 := Tryz.zeroValue3
  t4 := Tryz.underlying4
  a4 := Tryz.isAgg4
  z4 := Tryz.sizeOf4
  v4 := Tryz.zeroValue4
  t5 := Tryz.underlying5
  a5 := Tryz.isAgg5
  z5 := Tryz.sizeOf5
  v5 := Tryz.zeroValue5
  t9 := Tryz.underlying9
  a9 := Tryz.isAgg9
  z9 := Tryz.sizeOf9
  v9 := Tryz.zeroValue9
  t46 := Tryz.underlying211
  a46 := Tryz.isAgg211
  z46 := Tryz.sizeOf211
  v46 := Tryz.zeroValue211
  t51 := Tryz.underlying257
  a51 := Tryz.isAgg257
  z51 := Tryz.sizeOf257
  v51 := Tryz.zeroValue257
  t146 := Tryz.underlying258
  a146 := Tryz.isAgg258
  z146 := Tryz.sizeOf258
  v146 := Tryz.zeroValue258
  g1 := by kernel_rfl }
open Go.RowKit Go.Lib in
theorem Tryz.strings_Contains_one (s : ByteArray) (c : UInt8) (w : World) :
    Calls Tryz.prog 220 #[.string s, .string ⟨#[c]⟩] w fun e w' => e = .returned (.bool (decide (0 <= Lib.indexByte s.data.toList c))) /\ w' = w := Any.strings_Contains_one Tryz.lays144 s c w
def Tryz.lays227_ren : Go.Shelf.Ren := ⟨fun | 227 => 171 | n => n, fun | 9 => 9 | 116 => 201 | 4 => 4 | 0 => 0 | 3 => 3 | 5 => 5 | n => n, fun | n => n⟩
theorem Tryz.lays227 : Go.Proofs.Lays.n227 Tryz.prog Tryz.lays227_ren := {
  mixed := by kernel_rfl
  f227 := Tryz.func171.trans (congrArg some (by kernel_rfl))
  t0 := Tryz.underlying0
  a0 := Tryz.isAgg0
  z0 := Tryz.sizeOf0
  v0 := Tryz.zeroValue0
  t3 := Tryz.underlying3
  a3 := Tryz.isAgg3
  z3 := Tryz.sizeOf3
  v3 := Tryz.zeroValue3
  t4 := Tryz.underlying4
  a4 := Tryz.isAgg4
  z4 := Tryz.sizeOf4
  v4 := Tryz.zeroValue4
  t5 := Tryz.underlying5
  a5 := Tryz.isAgg5
  z5 := Tryz.sizeOf5
  v5 := Tryz.zeroValue5
  t9 := Tryz.underlying9
  a9 := Tryz.isAgg9
  z9 := Tryz.sizeOf9
  v9 := Tryz.zeroValue9
  t116 := Tryz.underlying201
  a116 := Tryz.isAgg201
  z116 := Tryz.sizeOf201 }
open Go.RowKit Go.Lib in
theorem Tryz.strings_makeASCIISet (hv116 : ∀ w, (zeroValue 201).run Tryz.prog w = .ok (.agg (Array.replicate 256 (.bool false))) w) (chars : ByteArray) (w : World) (hs : chars.size < 4294967281) (hascii : ∀ (j : Nat) b, chars.data.toList[j]? = some b -> b.toNat < 128) :
    Calls Tryz.prog 171 #[.string chars] w fun e w' => e = .returned (.tuple #[.agg (Lib.setCells chars.data.toList), .bool true]) /\ w' = w.alloc (.cells (Lib.setCells chars.data.toList) 201) := Any.strings_makeASCIISet Tryz.lays227 hv116 (by kernel_rfl) chars w hs hascii
open Go.RowKit Go.Lib in
def Tryz.lays196_ren : Go.Shelf.Ren := ⟨fun | 196 => 136 | 259 => 174 | n => n, fun | 9 => 9 | 4 => 4 | 3 => 3 | 5 => 5 | 12 => 12 | 119 => 207 | 0 => 0 | 46 => 211 | 139 => 210 | 138 => 209 | 53 => 233 | n => n, fun | 3 => 1 | 4 => 2 | n => n⟩
theorem Tryz.lays196 : Go.Proofs.Lays.n196 Tryz.prog Tryz.lays196_ren := {
  mixed := by kernel_rfl
  f196 := Tryz.func136.trans (congrArg some (by kernel_rfl))
  f259 := Tryz.func174.trans (congrArg some (by kernel_rfl))
  t0 := Tryz.underlying0
  a0 := Tryz.isAgg0
  z0 := Tryz.sizeOf0
  v0 := Tryz.zeroValue0
  t3 := Tryz.underlying3
  a3 := Tryz.isAgg3
  z3 := Tryz.sizeOf3
  v3 := Tryz.zeroValue3
  t4 := Tryz.underlying4
  a4 := Tryz.isAgg4
  z4 := Tryz.sizeOf4
  v4 := Tryz.zeroValue4
  t5 := Tryz.underlying5
  a5 := Tryz.isAgg5
  z5 := Tryz.sizeOf5
  v5 := Tryz.zeroValue5
  t9 := Tryz.underlying9
  a9 := Tryz.isAgg9
  z9 := Tryz.sizeOf9
  v9 := Tryz.zeroValue9
  t12 := Tryz.underlying12
  a12 := Tryz.isAgg12
  z12 := Tryz.sizeOf12
  v12 := Tryz.zeroValue12
  t46 := Tryz.underlying211
  a46 := Tryz.isAgg211
  z46 := Tryz.sizeOf211
  v46 := Tryz.zeroValue211
  t53 := Tryz.underlying233
  a53 := Tryz.isAgg233
  z53 := Tryz.sizeOf233
  v53 := Tryz.zeroValue233
  t119 := Tryz.underlying207
  a119 := Tryz.isAgg207
  z119 := Tryz.sizeOf207
  t138 := Tryz.underlying209
  a138 := Tryz.isAgg209
  z138 := Tryz.sizeOf209
  v138 := Tryz.zeroValue209
  t139 := Tryz.underlying210
  a139 := Tryz.isAgg210
  z139 := Tryz.sizeOf210
  v139 := Tryz.zeroValue210
  g3 := by kernel_rfl
  g4 := by kernel_rfl }
end Go.Proofs
namespace Go.Proofs.Y
open Go.Emb Go.RowKit Go.Kd Go.Hm
variable {w : World} {K : Value -> World -> Prop} {σ : Q2}
theorem X5k {f:FuncId} {fn:Func} {a:List Value} {V:Value} (c:P.funcs[f]? =some fn) (b:fn.body.isSome=true) (g:(fn.name== "runtime.NumGoroutine")=false)
 (h:Calls P f a.toArray w fun e w'=>e= .returned V/\Below w.heap.size w w') (d: ∀w',Below w.heap.size w w'->K V w'):Q0 P f a w K:=by
 refine On c b g (Calls.mono h ?_);rintro e w' ⟨rfl,b⟩;exact d w' b
theorem Q1D {a:X2} (b:a.length<=W6) (c:Lib.Utf8Tabs G.e G.d w) (h: ∀w',Below w.heap.size w w'->K (.bool (Lib.validD a)) w'):Q0 P F.b6 [S a] w K:=
 X5k Tryz.func136 X8 X8 (by
  have:=Any.utf8_ValidString Tryz.lays196 ⟨a.toArray⟩ w (by rw[Xc];simp only[W6] at b;omega) c
  simp only[List.toList_toArray] at this;exact this) h
theorem X0k {a:X2} {c:UInt8} (h:K (.bool (decide (0<=Lib.indexByte a c))) w):Q0 P F.cP [S a,S [c]] w K:=by
 refine On (fn:=Tryz.f220) Tryz.func220 X8 X8 (Calls.mono (Tryz.strings_Contains_one ⟨a.toArray⟩ c w) ?_);rintro e w' ⟨rfl,rfl⟩;exact h
structure Glb (σ : Q2) : Prop where
  ops : Q54 σ
  tabs : ∀ w, X7 w σ -> Lib.Utf8Tabs G.e G.d w
  flt : J7 σ ⟨G.b, 0, none⟩ (M0.map S)
theorem Glb.lift {σ0:Q2} (h:Glb σ0) (k:SLe σ0 σ):Glb σ:=⟨h.ops.le k.le,fun w a=>h.tabs w fun b o e=>a b o (k.le b o e),h.flt.le k.le⟩
def txt (n s:X2):Bool:=
 if n=[119,111,114,100] then decide (s.length<=64)&&Lib.validD s&& !decide (0<=Lib.indexByte s 10)
 else if n=[110,101,119] then C2 s
 else if n=[105,115]\/n=[99,97,115,116] then right s&& !plain s
 else if n=[97,114,114,97,121] then right s&&decide (Jp s<3)
 else Vn s
theorem X7N {n a:X2} (ha:a.length<=W6) (hs:X7 w σ) (hg:Glb σ) (h: ∀w' σ',Stp w σ w' σ'->K (.bool (txt n a)) w'):Q0 P F.cX [S n,S a] w K:=X0O (by
 unfold Q4M;simp only[D9];unfold X6 Y0 X4 V5;have ha':a.length<=140737488355320:=by simp only[W6] at ha;omega
 have ha2:a.length<=140737488355328:=by simp only[W6] at ha;omega
 have hv: ∀{w1:World} {K:Value->World->Prop},X7 w1 σ->(∀w',Below w1.heap.size w1 w'->K (.bool (Lib.validD a)) w')->Q0 P F.b6 [S a] w1 K:=fun hk h=>Q1D ha (hg.tabs _ hk) h;unfold txt at h;have e:decide ((a.length:Int)<=64)=decide (a.length<=64):=by rw[Bool.eq_iff_iff];simp only[decide_eq_true_eq];omega
 have e3:decide ((Jp a:Int)<3)=decide (Jp a<3):=by rw[Bool.eq_iff_iff];simp only[decide_eq_true_eq];omega
 by_cases h1:n=[119,111,114,100]
 .rw[if_pos h1] at h
  simp only[decide_eq_true h1,↓M1,M1,Mb,reduceIte,e]
  by_cases h2:a.length<=64
  .simp only[decide_eq_true h2,↓M1,M1,Mb,reduceIte] at h⊢
   refine hv hs (H1 hs ?_);intro w1 σ1 hk
   by_cases h3:Lib.validD a=true
   .simp only[h3,↓M1,M1,Mb,reduceIte] at h⊢
    refine X0k ?_
    (repeat' (first | (with_reducible intro _) | (with_reducible refine M9 ?_) | (simp only[↓M2,M2,Mb,reduceIte]) | (with_reducible first | refine ld aS aL aR ?_ | refine Y6 aS aL aR ?_ | refine Y7 aS aL aR ?_ | refine Q7 aL ?_ | refine W2 aR ?_ | refine Z4 aS ?_ | refine S1 aS aL ?_ | refine L8 aS aR ?_ | refine J6 aS aR aR (Rep.one Q9) ?_ | refine L1 aS aR aR aR ?_ | (refine V4 (fun hh=>?_) (fun hh=>?_)<;>(try simp only[hh,Bool.not_true,Bool.not_false,↓M2,M2,Mb,reduceIte])) | (refine Q4 (fun hh=>?_) (fun hh=>?_)<;>(try simp only[hh,Bool.not_true,Bool.not_false,↓M2,M2,Mb,reduceIte])))))
    all_goals exact aF
   .simp only[eq_false_of_ne_true h3,↓M1,M1,Mb,reduceIte] at h⊢
    (repeat' (first | (with_reducible intro _) | (with_reducible refine M9 ?_) | (simp only[↓M2,M2,Mb,reduceIte]) | (with_reducible first | refine ld aS aL aR ?_ | refine Y6 aS aL aR ?_ | refine Y7 aS aL aR ?_ | refine Q7 aL ?_ | refine W2 aR ?_ | refine Z4 aS ?_ | refine S1 aS aL ?_ | refine L8 aS aR ?_ | refine J6 aS aR aR (Rep.one Q9) ?_ | refine L1 aS aR aR aR ?_ | (refine V4 (fun hh=>?_) (fun hh=>?_)<;>(try simp only[hh,Bool.not_true,Bool.not_false,↓M2,M2,Mb,reduceIte])) | (refine Q4 (fun hh=>?_) (fun hh=>?_)<;>(try simp only[hh,Bool.not_true,Bool.not_false,↓M2,M2,Mb,reduceIte])))))
    all_goals exact aF
  .simp only[decide_eq_false h2,↓M1,M1,Mb,reduceIte] at h⊢
   (repeat' (first | (with_reducible intro _) | (with_reducible refine M9 ?_) | (simp only[↓M2,M2,Mb,reduceIte]) | (with_reducible first | refine ld aS aL aR ?_ | refine Y6 aS aL aR ?_ | refine Y7 aS aL aR ?_ | refine Q7 aL ?_ | refine W2 aR ?_ | refine Z4 aS ?_ | refine S1 aS aL ?_ | refine L8 aS aR ?_ | refine J6 aS aR aR (Rep.one Q9) ?_ | refine L1 aS aR aR aR ?_ | (refine V4 (fun hh=>?_) (fun hh=>?_)<;>(try simp only[hh,Bool.not_true,Bool.not_false,↓M2,M2,Mb,reduceIte])) | (refine Q4 (fun hh=>?_) (fun hh=>?_)<;>(try simp only[hh,Bool.not_true,Bool.not_false,↓M2,M2,Mb,reduceIte])))))
   all_goals exact aF
 rw[if_neg h1] at h;simp only[decide_eq_false h1,↓M1,M1,Mb,reduceIte]
 by_cases h2:n=[110,101,119]
 .rw[if_pos h2] at h
  simp only[decide_eq_true h2,↓M1,M1,Mb,reduceIte]
  (repeat' (first | (with_reducible intro _) | (with_reducible refine M9 ?_) | (simp only[↓M2,M2,Mb,reduceIte]) | (with_reducible first | refine ld aS aL aR ?_ | refine Y6 aS aL aR ?_ | refine Y7 aS aL aR ?_ | refine Q7 aL ?_ | refine W2 aR ?_ | refine Z4 aS ?_ | refine S1 aS aL ?_ | refine L8 aS aR ?_ | refine J6 aS aR aR (Rep.one Q9) ?_ | refine L1 aS aR aR aR ?_ | refine Gk _ au (H1 aS ?_) | (refine V4 (fun hh=>?_) (fun hh=>?_)<;>(try simp only[hh,Bool.not_true,Bool.not_false,↓M2,M2,Mb,reduceIte])) | (refine Q4 (fun hh=>?_) (fun hh=>?_)<;>(try simp only[hh,Bool.not_true,Bool.not_false,↓M2,M2,Mb,reduceIte])))))
  all_goals exact aF
 rw[if_neg h2] at h;simp only[decide_eq_false h2,↓M1,M1,Mb,reduceIte]
 by_cases h3:n=[105,115]\/n=[99,97,115,116]
 .rw[if_pos h3] at h
  have e4:(decide (n=[105,115])||decide (n=[99,97,115,116]))=true:=by simpa using h3
  refine M9 ?_;refine Q4 (fun h4=>?_) (fun h4=>?_)
  .simp only[h4,↓M1,M1,Mb,reduceIte]
   (repeat' (first | (with_reducible intro _) | (with_reducible refine M9 ?_) | (simp only[↓M2,M2,Mb,reduceIte]) | (with_reducible first | refine ld aS aL aR ?_ | refine Y6 aS aL aR ?_ | refine Y7 aS aL aR ?_ | refine Q7 aL ?_ | refine W2 aR ?_ | refine Z4 aS ?_ | refine S1 aS aL ?_ | refine L8 aS aR ?_ | refine J6 aS aR aR (Rep.one Q9) ?_ | refine L1 aS aR aR aR ?_ | refine Vo _ au (H1 aS ?_) | refine Gl _ ?_ | (refine V4 (fun hh=>?_) (fun hh=>?_)<;>(try simp only[hh,Bool.not_true,Bool.not_false,↓M2,M2,Mb,reduceIte])) | (refine Q4 (fun hh=>?_) (fun hh=>?_)<;>(try simp only[hh,Bool.not_true,Bool.not_false,↓M2,M2,Mb,reduceIte])))))
   all_goals exact aF
  .rw[h4,Bool.false_or] at e4
   simp only[e4,↓M1,M1,Mb,reduceIte]
   (repeat' (first | (with_reducible intro _) | (with_reducible refine M9 ?_) | (simp only[↓M2,M2,Mb,reduceIte]) | (with_reducible first | refine ld aS aL aR ?_ | refine Y6 aS aL aR ?_ | refine Y7 aS aL aR ?_ | refine Q7 aL ?_ | refine W2 aR ?_ | refine Z4 aS ?_ | refine S1 aS aL ?_ | refine L8 aS aR ?_ | refine J6 aS aR aR (Rep.one Q9) ?_ | refine L1 aS aR aR aR ?_ | refine Vo _ au (H1 aS ?_) | refine Gl _ ?_ | (refine V4 (fun hh=>?_) (fun hh=>?_)<;>(try simp only[hh,Bool.not_true,Bool.not_false,↓M2,M2,Mb,reduceIte])) | (refine Q4 (fun hh=>?_) (fun hh=>?_)<;>(try simp only[hh,Bool.not_true,Bool.not_false,↓M2,M2,Mb,reduceIte])))))
   all_goals exact aF
 rw[if_neg h3] at h;obtain ⟨h3,h4⟩:=not_or.1 h3;refine M9 ?_;simp only[decide_eq_false h3,decide_eq_false h4,↓M1,M1,Mb,reduceIte]
 by_cases h5:n=[97,114,114,97,121]
 .rw[if_pos h5] at h
  simp only[decide_eq_true h5,↓M1,M1,Mb,reduceIte]
  (repeat' (first | (with_reducible intro _) | (with_reducible refine M9 ?_) | (simp only[↓M2,M2,Mb,reduceIte]) | (with_reducible first | refine ld aS aL aR ?_ | refine Y6 aS aL aR ?_ | refine Y7 aS aL aR ?_ | refine Q7 aL ?_ | refine W2 aR ?_ | refine Z4 aS ?_ | refine S1 aS aL ?_ | refine L8 aS aR ?_ | refine J6 aS aR aR (Rep.one Q9) ?_ | refine L1 aS aR aR aR ?_ | refine Vo _ au (H1 aS ?_) | refine X3R _ au (H1 aS ?_) | (refine V4 (fun hh=>?_) (fun hh=>?_)<;>(try simp only[hh,Bool.not_true,Bool.not_false,↓M2,M2,Mb,reduceIte])) | (refine Q4 (fun hh=>?_) (fun hh=>?_)<;>(try simp only[hh,Bool.not_true,Bool.not_false,↓M2,M2,Mb,reduceIte])))))
  all_goals (try rw[e3])
  all_goals exact aF
 rw[if_neg h5] at h;simp only[decide_eq_false h5,↓M1,M1,Mb,reduceIte];intro _;refine X6X a ha2 (H1 hs fun w1 σ1 hk=>?_)
 by_cases hp:Vn a=true
 .simp only[hp,if_true] at h⊢
  (repeat' (first | (with_reducible intro _) | (with_reducible refine M9 ?_) | (simp only[↓M2,M2,Mb,reduceIte]) | (with_reducible first | refine ld aS aL aR ?_ | refine Y6 aS aL aR ?_ | refine Y7 aS aL aR ?_ | refine Q7 aL ?_ | refine W2 aR ?_ | refine Z4 aS ?_ | refine S1 aS aL ?_ | refine L8 aS aR ?_ | refine J6 aS aR aR (Rep.one Q9) ?_ | refine L1 aS aR aR aR ?_ | (refine V4 (fun hh=>?_) (fun hh=>?_)<;>(try simp only[hh,Bool.not_true,Bool.not_false,↓M2,M2,Mb,reduceIte])) | (refine Q4 (fun hh=>?_) (fun hh=>?_)<;>(try simp only[hh,Bool.not_true,Bool.not_false,↓M2,M2,Mb,reduceIte])))))
  all_goals exact aF
 .simp only[eq_false_of_ne_true hp,Bool.false_eq_true,if_false] at h⊢
  (repeat' (first | (with_reducible intro _) | (with_reducible refine M9 ?_) | (simp only[↓M2,M2,Mb,reduceIte]) | (with_reducible first | refine ld aS aL aR ?_ | refine Y6 aS aL aR ?_ | refine Y7 aS aL aR ?_ | refine Q7 aL ?_ | refine W2 aR ?_ | refine Z4 aS ?_ | refine S1 aS aL ?_ | refine L8 aS aR ?_ | refine J6 aS aR aR (Rep.one Q9) ?_ | refine L1 aS aR aR aR ?_ | (refine V4 (fun hh=>?_) (fun hh=>?_)<;>(try simp only[hh,Bool.not_true,Bool.not_false,↓M2,M2,Mb,reduceIte])) | (refine Q4 (fun hh=>?_) (fun hh=>?_)<;>(try simp only[hh,Bool.not_true,Bool.not_false,↓M2,M2,Mb,reduceIte])))))
  all_goals exact aF)
def F7 (i:Ins):Int:=if !(I6 i.op).2.2 then 40 else if (!(I6 i.op).1&&decide (i.n≠0))||(!(I6 i.op).2.1&&decide (i.s≠[]))||((I6 i.op).2.1&& !txt i.op i.s) then 41 else 0
theorem X4N {a:X2} (c:X7 w σ) (b:Glb σ) (h: ∀w',Below w.heap.size w w'->K (.tuple #[.bool (I6 a).1, .bool (I6 a).2.1, .bool (I6 a).2.2]) w'):Q0 P F.co [S a] w K:=X6s c b.ops h
theorem X0n {i:Ins} {cs:List Value} (hs:X7 w σ) (hg:Glb σ) (hi:Ze σ i cs) (h: ∀w' σ',Stp w σ w' σ'->K (I (F7 i)) w'):Q0 P F.cR [.agg cs.toArray] w K:=Q9E (by
 obtain ⟨rfl,h1,h2,h3⟩:=hi;unfold Q2T;simp only[D9];unfold Z8 Y1 X4 V5;unfold F7 at h
 (repeat' (first | (with_reducible intro _) | (with_reducible refine M9 ?_) | (simp only[↓M2,M2,Mb,reduceIte]) | (with_reducible first | refine ld aS aL aR ?_ | refine Y6 aS aL aR ?_ | refine Y7 aS aL aR ?_ | refine Q7 aL ?_ | refine W2 aR ?_ | refine Z4 aS ?_ | refine S1 aS aL ?_ | refine L8 aS aR ?_ | refine J6 aS aR aR (Rep.one Q9) ?_ | refine L1 aS aR aR aR ?_ | refine X4N au au (H1 aS ?_) | refine X7N au au au ?_ | (refine V4 (fun hh=>?_) (fun hh=>?_)<;>(try simp only[hh,Bool.not_true,Bool.not_false,↓M2,M2,Mb,reduceIte])) | (refine Q4 (fun hh=>?_) (fun hh=>?_)<;>(try simp only[hh,Bool.not_true,Bool.not_false,↓M2,M2,Mb,reduceIte])))))
 all_goals exact aF)
end Go.Proofs.Y
namespace Go.Emb
open Go.Proofs.YtkllbfjojoncaaaGreatDoor Go.RowKit Go.Hm
variable {P : Program} {W : World}
theorem Q58 {w:World} (c:X7 w (Wm W)) {a:Addr} {v:Value} (h:W.cell? a=some v):w.cell? a=some v:=by
 unfold World.cell? at h⊢;cases b:W.heap[a.block]? with
 | none=>rw[b] at h;cases h
 | some o=>rw[b] at h;rw[c _ o b];exact h
theorem X7P {α:Type} {f:α->List Value} {sz:Nat} (k: ∀a,(f a).length=sz): ∀(l:List α) (cs:List Value),cs.length=l.length*sz->(∀i a,l[i]? =some a->(cs.drop (i*sz)).take sz=f a)->cs=l.flatMap f:=by
 intro l
 induction l with
 | nil=>intro cs h _;simp at h;simp[h]
 | cons a r j=>
  intro cs h hh;have c:=hh 0 a rfl
  have e:=j (cs.drop sz) (by rw[List.length_drop,h,List.length_cons,Nat.succ_mul];omega) (fun i b g=>by
   have:=hh (i+1) b (by simpa using g)
   rw[List.drop_drop]
   rwa [Nat.succ_mul,Nat.add_comm] at this)
  rw[List.flatMap_cons,<-e,<-c]
  simp
theorem Q7h {α H:Type} {enc:TypeId×Value->H} {base:Nat} {w:Nat->Bool} {b:Bool} {f:α->List Value} {g:α->DataW H} {n sz:Nat} {t e:TypeId} {c:Nat} {cs:List Value} {p:List MemPlace} (E:P.underlying t=some (.array n e)) (B:P.cellsOf e=sz) (j:P.cellsOf t=n*sz)
 (l:List α) (C: ∀a,(f a).length=sz) (o: ∀m cs a q,DataW.trod enc P W base w b m e cs=some (g a,q)->cs=f a)
 (h:DataW.trod enc P W base w b c t cs=some (.agg (l.map g),p)):cs=l.flatMap f:=by
 obtain ⟨xs,m,_,k,y,J,z⟩:=DataW.trod_array E h;simp only[Prod.mk.injEq,DataW.agg.injEq] at k;have D:l.length=n:=by have:=congrArg List.length k.1;simp at this;omega
 refine X7P C l cs (by rw[y,j,D]) fun i a s=>?_
 have L:i<l.length:=(List.getElem?_eq_some_iff.1 s).1;have r:=z i Q5;have u:i<xs.length:=by omega
 rw[List.getElem?_eq_getElem u,B] at r
 have A:(xs[i]).1=g a:=by
  have:=congrArg (·[i]?) k.1;simp only[List.getElem?_map,s,List.getElem?_eq_getElem u,Option.map_some,Option.some.injEq] at this;exact this.symm
 exact o m _ a _ (by rw[r];congr 1;exact Prod.ext A rfl)
theorem Q9l {n:String} {g:Nat} {cs:Array Value} {l:List Value} (f:P.globalNamed n=some g) (a:W.var? P n=some cs) (j:cs.toList=l):J7 (Wm W) ⟨g,0,none⟩ l:=by
 unfold World.var? at a;rw[f] at a;simp only[Option.bind_some] at a;cases b:W.heap[g]? with
 | none=>rw[b] at a;cases a
 | some o=>
  rw[b] at a;cases o with
  | cells arr e c=>
   cases a;refine ⟨rfl,cs,e,c,b,fun i v h=>?_⟩;subst j
   simpa using h
  | _=>cases a
end Go.Emb
namespace Go.Proofs.Y
open Go.Proofs.YtkllbfjojoncaaaGreatDoor Go.Emb Go.RowKit Go.Kd Go.Hm
variable {W : World}
def laidAll:List (String×DataW Unit):=[("unicode/utf8.acceptRanges",Rows.laid_unicode_utf8_acceptRanges),("squinch/code.ops",Rows.laid_squinch_code_ops),("squinch/hier.faults",Rows.laid_squinch_hier_faults),("unicode/utf8.first",Rows.laid_unicode_utf8_first)]
theorem X92:Rows.laid_squinch_code_ops=(.agg (Lo.map fun o=> .agg [.lit (.string o.name), .lit (.bool o.number), .lit (.bool o.text)]):DataW Unit):=by rfl
theorem X51:Rows.laid_squinch_hier_faults=(.agg (M0.map fun s=> .lit (.string s)):DataW Unit):=by rfl
theorem X8E:(Rows.laid_unicode_utf8_acceptRanges:DataW Unit)=Lib.acceptData:=by rfl
theorem X6L:Rows.laid_unicode_utf8_first=Lib.firstData:=by kernel_rfl
def X9u:Array Field:= #[⟨"name",T.b,0,false, "", "squinch/code",0⟩,⟨"number",T.r,1,false, "", "squinch/code",16⟩,⟨"text",T.r,2,false, "", "squinch/code",17⟩]
theorem X9A:P.underlying T.ah=some (.struct X9u):=by kernel_rfl
theorem X8a (h:laidMetH P laidAll W):Glb (Wm W):=by
 rw[Go.MakeChecks.laidMetH_plain _ _ _ X8] at h;refine ⟨?_,fun w C=>?_,?_⟩
 .obtain ⟨g,t,cs,l,p,r,k,b,o⟩:=Lib.laidMet.reads h (.tail _ (.head _))
  obtain rfl:=Option.some.inj ((show P.globalNamed "squinch/code.ops"=some G.a by kernel_rfl).symm.trans r)
  obtain rfl:=Option.some.inj ((show (P.globals[G.a]?).map (·.type)=some T.ak by kernel_rfl).symm.trans k)
  rw[X92] at o;refine Q9l r b (Q7h (f:=cOp) (sz:=3) (n:=42) (e:=T.ah) X8 X8 X8 Lo (fun _=>rfl) (fun m cs a q h=>by
  obtain ⟨xs,n,_,j,V,X,B⟩:=DataW.trod_struct X9A h;simp only[Prod.mk.injEq,DataW.agg.injEq] at j;have u:cs.length=3:=by rw[V];kernel_rfl
  obtain ⟨y,z,A,rfl⟩:=X67 u;obtain ⟨x0,x1,x2,rfl⟩:=X67 (show xs.length=3 by rw[X];rfl)
  have j:=j.1;simp only[List.map_cons,List.map_nil,List.cons.injEq,and_true] at j;obtain ⟨D,E,J⟩:=j;have L:DataW.trod (fun _=>()) P W 0 (fun _=>true) false n T.b (List.take (P.cellsOf T.b) (List.drop 0 [y,z,A]))=some x0:=B 0 _ rfl;have M:DataW.trod (fun _=>()) P W 0 (fun _=>true) false n T.r (List.take (P.cellsOf T.r) (List.drop 1 [y,z,A]))=some x1:=B 1 _ rfl;have N:DataW.trod (fun _=>()) P W 0 (fun _=>true) false n T.r (List.take (P.cellsOf T.r) (List.drop 2 [y,z,A]))=some x2:=B 2 _ rfl;rw[Q0U] at L;rw[X8j] at M N;obtain ⟨⟨⟨s0⟩⟩,Q,Z,_⟩:=DataW.trod_string Z2 L;obtain ⟨b1,R,r1⟩:=DataW.trod_bool Q6v M;obtain ⟨b2,U,r2⟩:=DataW.trod_bool Q6v N
  simp at Q R U
  subst Q R U Z r1 r2
  simp at D E J
  simp[cOp,<-D,<-E,<-J]) o)
 .have:=utf8Tabs_of_readsT (U8Types.of196 Tryz.lays196) ⟨by kernel_rfl,by kernel_rfl,by kernel_rfl,by kernel_rfl,by kernel_rfl,by kernel_rfl,by kernel_rfl⟩ (X6L▸Lib.laidMet.reads h (.tail _ (.tail _ (.tail _ (.head _))))) (X8E▸Lib.laidMet.reads h (.head _))
  exact ⟨fun c Y=>Q58 C (this.1 c Y),fun i O=>⟨Q58 C (this.2 i O).1,Q58 C (this.2 i O).2⟩⟩
 .obtain ⟨g,t,cs,l,p,r,k,b,o⟩:=Lib.laidMet.reads h (.tail _ (.tail _ (.head _)))
  obtain rfl:=Option.some.inj ((show P.globalNamed "squinch/hier.faults"=some G.b by kernel_rfl).symm.trans r)
  obtain rfl:=Option.some.inj ((show (P.globals[G.b]?).map (·.type)=some T.au by kernel_rfl).symm.trans k)
  rw[X51] at o
  have:=Q7h (f:=fun s=>[S s]) (sz:=1) (n:=6) (e:=T.b) X8 Q0U X8 M0 (fun _=>rfl) (fun m cs a q h=>by
   obtain ⟨⟨⟨s⟩⟩,rfl,j,_⟩:=DataW.trod_string Z2 h;cases j;rfl) o
  exact Q9l r b (this.trans (by rfl))
end Go.Proofs.Y
namespace Go.Emb
open Go.Proofs.YtkllbfjojoncaaaGreatDoor Go.RowKit Go.Hm
theorem X0f {H:Type} {P:Program} {a:List TypeId} {ds:List (DataW H)} (h:(DataW.weightsEach P a ds).all (· <=reachBytes)=true) {j:Nat} {t:TypeId} {d:DataW H} (e:a[j]? =some t) (b:ds[j]? =some d):Wt P t d:=fun n c=>by
 have:=List.all_eq_true.1 h _ (DataW.weights_mem_each e b n c)
 simpa using this
end Go.Emb
namespace Go.Proofs.Y
open Go.Emb Go.RowKit Go.Kd Go.Hm
variable {w : World} {K : Value -> World -> Prop} {σ : Q2}
def Qw (n:Int) (x:Cat):Bool:=decide (0<=x.frm)&&decide (x.frm<x.to)&&decide (x.to<=n)&&decide (0<=x.at_)&&decide (x.at_<n)&&C2 x.cls
theorem X26 {cs:List Value} {c:Cat} {q:Addr} {n:Int} (hs:X7 w σ) (hc:Wq σ c cs) (hq:J7 σ q [I n]) (h: ∀w' σ',Stp w σ w' σ'->K (.bool (Qw n c)) w'):Q0 P F.bn [.agg cs.toArray, .pointer (some q)] w K:=Q5l (by
 obtain ⟨rfl,h1,h2,h3,h4⟩:=hc;unfold Ie Z8 Y1 X4 X5;unfold Qw at h
 (repeat' (first | (with_reducible intro _) | (with_reducible refine M9 ?_) | (simp only[↓M2,M2,Mb,reduceIte]) | (with_reducible first | refine ld aS aL aR ?_ | refine Y6 aS aL aR ?_ | refine Y7 aS aL aR ?_ | refine Q7 aL ?_ | refine W2 aR ?_ | refine Z4 aS ?_ | refine S1 aS aL ?_ | refine L8 aS aR ?_ | refine J6 aS aR aR (Rep.one Q9) ?_ | refine L1 aS aR aR aR ?_ | refine Gk _ au (H1 aS ?_) | (refine V4 (fun hh=>?_) (fun hh=>?_)<;>(try simp only[hh,Bool.not_true,Bool.not_false,↓M2,M2,Mb,reduceIte])) | (refine Q4 (fun hh=>?_) (fun hh=>?_)<;>(try simp only[hh,Bool.not_true,Bool.not_false,↓M2,M2,Mb,reduceIte])))))
 all_goals exact aF)
theorem X27 {cs:List Value} {i:Ins} (hs:X7 w σ) (hg:Glb σ) (hc:Ze σ i cs) (h: ∀w' σ',Stp w σ w' σ'->K (.bool (decide (F7 i=0))) w'):Q0 P F.bo [.agg cs.toArray] w K:=Q5m (by
 obtain ⟨rfl,h1,h2,h3⟩:=hc;have hc:Ze σ i [S i.op,I i.n,S i.s]:=⟨rfl,h1,h2,h3⟩;unfold Ig X4
 (repeat' (first | (with_reducible intro _) | (with_reducible refine M9 ?_) | (simp only[↓M2,M2,Mb,reduceIte]) | (with_reducible first | refine ld aS aL aR ?_ | refine Y6 aS aL aR ?_ | refine Y7 aS aL aR ?_ | refine Q7 aL ?_ | refine W2 aR ?_ | refine Z4 aS ?_ | refine S1 aS aL ?_ | refine L8 aS aR ?_ | refine J6 aS aR aR (Rep.one Q9) ?_ | refine L1 aS aR aR aR ?_ | refine X0n au au au ?_ | (refine V4 (fun hh=>?_) (fun hh=>?_)<;>(try simp only[hh,Bool.not_true,Bool.not_false,↓M2,M2,Mb,reduceIte])) | (refine Q4 (fun hh=>?_) (fun hh=>?_)<;>(try simp only[hh,Bool.not_true,Bool.not_false,↓M2,M2,Mb,reduceIte])))))
 all_goals exact aF)
def Xu (m:Hm.Met):Bool:=B3 m.name&&m.params.all right&&(decide (m.result=[])||right m.result)&&
 if m.abs then decide (m.locals=0)&&decide (m.code=[])&&decide (m.catches=[])
 else decide (m.code≠[])&&decide ((m.params.length:Int)<m.locals)&&m.code.all (fun i=>decide (F7 i=0))&&m.catches.all (Qw m.code.length)
theorem X4S {cs:List Value} {m:Hm.Met} (hs:X7 w σ) (hg:Glb σ) (hm:F5 σ m cs) (h: ∀w' σ',Stp w σ w' σ'->K (.bool (Xu m)) w'):Q0 P F.bc [.agg cs.toArray] w K:=Q77 (by
 obtain ⟨pv,cv,hv,rfl,g1,g2,g3,g4,g5,g6⟩:=hm;unfold Ag;simp only[N0];unfold Z8 Y1 X6 Y0 X4 V5 X5;unfold Xu at h;have e1:decide ((0:Int)<m.code.length)=decide (m.code≠[]):=by cases m.code<;>simp
 have e2:decide ((m.code.length:Int)=0)=decide (m.code=[]):=by cases m.code<;>simp;omega
 have e3:decide ((m.catches.length:Int)=0)=decide (m.catches=[]):=by cases m.catches<;>simp;omega
 have hA: ∀{w1:World} {σ1:Q2} {K:Value->World->Prop},X7 w1 σ1->Sl 1 M7 σ1 pv m.params->(∀w' σ',Stp w1 σ1 w' σ'->K (.bool (m.params.all right)) w')->Q0 P F.ab [pv, .func (.func F.a2) #[] #[]] w1 K:=
  fun hs hv h=>Ab right hs hv (fun σ1 x w1 K _ _ hs hl hK=>U3 (Vo x (Nat.le_trans hl W3) hK)) (H1 hs h)
 have hB: ∀{w1:World} {σ1:Q2} {K:Value->World->Prop},X7 w1 σ1->Glb σ1->Sl 3 Ze σ1 cv m.code->(∀w' σ',Stp w1 σ1 w' σ'->K (.bool (m.code.all fun i=>decide (F7 i=0))) w')->Q0 P F.ay [cv, .func (.func F.bo) #[] #[]] w1 K:=
  fun hs hg hv h=>Q4m (fun i=>decide (F7 i=0)) hs hv (fun σ1 x cs w1 K le _ hs hr hl hK=>U3 (X27 hs (hg.lift ⟨le⟩) hr fun w' σ' hk=>hK w' hk.bel)) (H1 hs h)
 have hC: ∀{w1:World} {σ1:Q2} {K:Value->World->Prop} {q:Addr},X7 w1 σ1->Sl 4 Wq σ1 hv m.catches->J7 σ1 q [I m.code.length]->(∀w' σ',Stp w1 σ1 w' σ'->K (.bool (m.catches.all (Qw m.code.length))) w')->Q0 P F.aw [hv, .func (.func F.bn) #[] #[.pointer (some q)]] w1 K:=
  fun hs hv hq h=>Q4k (Qw m.code.length) hs hv (fun σ1 x cs w1 K le _ hs hr hl hK=>U3 (X26 hs hr (hq.le le) fun w' σ' hk=>hK w' hk.bel)) (H1 hs h)
 refine Z4 hs fun a w1 σ1 hk1 ha1=>?_
 (repeat' (first | (with_reducible intro _) | (with_reducible refine M9 ?_) | (simp only[↓M2,M2,Mb,reduceIte]) | (with_reducible first | refine ld aS aL aR ?_ | refine Y6 aS aL aR ?_ | refine Y7 aS aL aR ?_ | refine Q7 aL ?_ | refine W2 aR ?_ | refine Z4 aS ?_ | refine S1 aS aL ?_ | refine L8 aS aR ?_ | refine J6 aS aR aR (Rep.one Q9) ?_ | refine L1 aS aR aR aR ?_ | refine Q8M au (H1 aS ?_) | refine Vo _ au (H1 aS ?_) | refine hA au au ?_ | refine hB au au au ?_ | refine hC au au au ?_ | (refine V4 (fun hh=>?_) (fun hh=>?_)<;>(try simp only[hh,Bool.not_true,Bool.not_false,↓M2,M2,Mb,reduceIte])) | (refine Q4 (fun hh=>?_) (fun hh=>?_)<;>(try simp only[hh,Bool.not_true,Bool.not_false,↓M2,M2,Mb,reduceIte])))))
 all_goals (simp only[<-e1,<-e2,<-e3] at h;clear e1 e2 e3;exact aF))
theorem X3n {cs:List Value} {m:Hm.Met} (c:X7 w σ) (a:Glb σ) (b:F5 σ m cs) (h: ∀w' d,Stp w σ w' d->K (.bool (Xu m)) w'):U7 P (.func (.func F.bc) #[] #[]) [.agg cs.toArray] w K:=U3 (X4S c a b h)
def Gx (f:Fld):Bool:=B3 f.name&&right f.kind
def Bl (c:Cla):Bool:=(c.name::c.super::c.like).all C2&& !((c.super::c.like).any fun y=>decide (c.name=y))&&Qo id [] c.like&&
 !(c.iface&&(!c.abs|| !decide (c.super=M3)|| !decide (c.fields=[])||c.methods.any (fun m=> !m.abs)))&&
 !((c.abs&&c.fin)||(c.methods.any (·.abs)&& !c.abs))&&Qo Fld.name [] c.fields&&Qo Hm.Met.name [] c.methods&&c.fields.all Gx&&c.methods.all Xu
def B9 (c:Cla):Int:=if Vt c then 51 else if Bl c then 0 else 50
theorem X3o {cs:List Value} {f:Fld} (hs:X7 w σ) (hf:I7 σ f cs) (h: ∀w' σ',Stp w σ w' σ'->K (.bool (Gx f)) w'):Q0 P F.bF [.agg cs.toArray] w K:=Q6d (by
 obtain ⟨rfl,h1,h2⟩:=hf;unfold Pp Z8 Y1;unfold Gx at h
 (repeat' (first | (with_reducible intro _) | (with_reducible refine M9 ?_) | (simp only[↓M2,M2,Mb,reduceIte]) | (with_reducible first | refine ld aS aL aR ?_ | refine Y6 aS aL aR ?_ | refine Y7 aS aL aR ?_ | refine Q7 aL ?_ | refine W2 aR ?_ | refine Z4 aS ?_ | refine S1 aS aL ?_ | refine L8 aS aR ?_ | refine J6 aS aR aR (Rep.one Q9) ?_ | refine L1 aS aR aR aR ?_ | refine Q8M au (H1 aS ?_) | refine Vo _ au (H1 aS ?_) | (refine V4 (fun hh=>?_) (fun hh=>?_)<;>(try simp only[hh,Bool.not_true,Bool.not_false,↓M2,M2,Mb,reduceIte])) | (refine Q4 (fun hh=>?_) (fun hh=>?_)<;>(try simp only[hh,Bool.not_true,Bool.not_false,↓M2,M2,Mb,reduceIte])))))
 all_goals exact aF)
set_option maxRecDepth 9999 in
set_option maxHeartbeats 1600000 in
theorem X6x {cs:List Value} {c:Cla} (hs:X7 w σ) (hg:Glb σ) (hc:M8 σ c cs) (hl:c.like.length<=1000000) (h: ∀w' σ',Stp w σ w' σ'->K (.bool (Bl c)) w'):Q0 P F.cH [.agg cs.toArray] w K:=Q8a (by
 obtain ⟨lv,fv,mv,rfl,g1,g2,g3,g4,g5⟩:=hc;unfold Q1G;simp only[Y3,X3];unfold Z8 Y1 X6 Y0 X4 V5;unfold Bl at h;refine Z4 hs fun a w1 σ1 hk1 ha1=>?_;rw[fa];refine ld hk1.sat ha1 rfl ?_;rw[fa];refine ld hk1.sat ha1 rfl ?_;refine Zh (R:=M7) (sz:=1) (xs:=[c.name,c.super]) hk1 [_,_] rfl rfl (by simp;exact ⟨rfl,rfl⟩) rfl ⟨⟨rfl,g4⟩,⟨rfl,g5⟩,trivial⟩ fun v w2 hk2 hacc _=>?_
 rw[fa];refine ld hk2.sat ha1 rfl ?_;refine Jm (hk1.trans hk2) hacc (g1.up hk1) rfl (by simp;omega) (by simp;omega) fun v' w3 hn3 hS3 hacc3 _=>?_
 obtain ⟨σ3,hS3,hv3,le3,_⟩:=hacc3.keep hS3;have hv3:Sl 1 M7 σ3 v' (c.name::c.super::c.like):=hv3;have ha3:=ha1.le le3;have le13:SLe σ σ3:=⟨hS3.le⟩;have g1:=g1.lift le13;have g2:=g2.lift le13;have g3:=g3.lift le13;have hg:=hg.lift le13;refine U8 hS3.sat ?_;refine R3 (fun v _=>Sl 1 M7 σ3 v (c.super::c.like)) (fun _ _ _ h _=>h) (fun w hb=>?_) ?_
 .refine Bn hv3 (some (I 1)) none 1 (c.like.length+2) (.inr rfl) (.inl ⟨rfl,by simp⟩) Q5 U5 fun v' hv'=>⟨Below.refl _ _,?_⟩
  simpa using hv'
 refine X9 (.pointer (some (a.add 0))) (fun w hb=>by rw[fa];exact Y5 rfl) ?_
 refine X9 (S c.name) (fun t w hb e=>by rw[e];exact ld hb.sat ha3 rfl (Y5 rfl)) ?_
 rintro t16 t17 t18 w4 hb4 f16 rfl rfl;have hS4:=hS3.trans hb4.stp;clear hb4 hk1 hk2 hn3;have hs4:=hS4.sat;refine Q4j hs4 f16 ?_
 have hA: ∀{w1:World} {σ1:Q2} {K:Value->World->Prop},X7 w1 σ1->Sl 7 F5 σ1 mv c.methods->(∀w' σ',Stp w1 σ1 w' σ'->K (.bool (c.methods.any (·.abs))) w')->Q0 P F.a [mv, .func (.func F.cu) #[] #[]] w1 K:=
  fun hs hv h=>T9 (·.abs) hs hv (fun x cs w1 K _ hs hr hl hK=>U3 (Q68 (by
   obtain ⟨pv,cv,hv,rfl,_⟩:=hr;unfold Pl Y1;refine Z4 hs fun a w1 σ1 hk1 ha1=>?_
   (repeat' (first | (with_reducible intro _) | (with_reducible refine M9 ?_) | (simp only[↓M2,M2,Mb,reduceIte]) | (with_reducible first | refine ld aS aL aR ?_ | refine Y6 aS aL aR ?_ | refine Y7 aS aL aR ?_ | refine Q7 aL ?_ | refine W2 aR ?_ | refine Z4 aS ?_ | refine S1 aS aL ?_ | refine L8 aS aR ?_ | refine J6 aS aR aR (Rep.one Q9) ?_ | refine L1 aS aR aR aR ?_ | (refine V4 (fun hh=>?_) (fun hh=>?_)<;>(try simp only[hh,Bool.not_true,Bool.not_false,↓M2,M2,Mb,reduceIte])) | (refine Q4 (fun hh=>?_) (fun hh=>?_)<;>(try simp only[hh,Bool.not_true,Bool.not_false,↓M2,M2,Mb,reduceIte])))))
   exact hK _ hk1.bel))) (H1 hs h)
 have hB: ∀{w1:World} {σ1:Q2} {K:Value->World->Prop},X7 w1 σ1->Sl 7 F5 σ1 mv c.methods->(∀w' σ',Stp w1 σ1 w' σ'->K (.bool (c.methods.any fun m=> !m.abs)) w')->Q0 P F.a [mv, .func (.func F.cv) #[] #[]] w1 K:=
  fun hs hv h=>T9 (fun m=> !m.abs) hs hv (fun x cs w1 K _ hs hr hl hK=>U3 (Q69 (by
   obtain ⟨pv,cv,hv,rfl,_⟩:=hr;unfold Pm Y1;refine Z4 hs fun a w1 σ1 hk1 ha1=>?_
   (repeat' (first | (with_reducible intro _) | (with_reducible refine M9 ?_) | (simp only[↓M2,M2,Mb,reduceIte]) | (with_reducible first | refine ld aS aL aR ?_ | refine Y6 aS aL aR ?_ | refine Y7 aS aL aR ?_ | refine Q7 aL ?_ | refine W2 aR ?_ | refine Z4 aS ?_ | refine S1 aS aL ?_ | refine L8 aS aR ?_ | refine J6 aS aR aR (Rep.one Q9) ?_ | refine L1 aS aR aR aR ?_ | (refine V4 (fun hh=>?_) (fun hh=>?_)<;>(try simp only[hh,Bool.not_true,Bool.not_false,↓M2,M2,Mb,reduceIte])) | (refine Q4 (fun hh=>?_) (fun hh=>?_)<;>(try simp only[hh,Bool.not_true,Bool.not_false,↓M2,M2,Mb,reduceIte])))))
   exact hK _ hk1.bel))) (H1 hs h)
 have hC: ∀{w1:World} {σ1:Q2} {K:Value->World->Prop},X7 w1 σ1->Sl 1 M7 σ1 v' (c.name::c.super::c.like)->(∀w' σ',Stp w1 σ1 w' σ'->K (.bool ((c.name::c.super::c.like).all C2)) w')->Q0 P F.ab [v', .func (.func F.ai) #[] #[]] w1 K:=
  fun hs hv h=>Ab C2 hs hv (fun σ1 x w1 K _ _ hs hl hK=>U3 (Gk x (Nat.le_trans hl W3) hK)) (H1 hs h)
 have hD: ∀{w1:World} {σ1:Q2} {K:Value->World->Prop},X7 w1 σ1->Sl 1 M7 σ1 lv c.like->(∀w' σ',Stp w1 σ1 w' σ'->K (.bool (Qo id [] c.like)) w')->Q0 P F.aU [lv, .func (.func F.cw) #[] #[]] w1 K:=
  fun hs hv h=>Q82 id hs hv (fun σ1 x w1 K _ hs hl hK=>U3 (Q6a (hK _ (Below.refl _ _)))) (H1 hs h)
 have hE: ∀{w1:World} {σ1:Q2} {K:Value->World->Prop},X7 w1 σ1->Sl 3 I7 σ1 fv c.fields->(∀w' σ',Stp w1 σ1 w' σ'->K (.bool (Qo Fld.name [] c.fields)) w')->Q0 P F.aE [fv, .func (.func F.cx) #[] #[]] w1 K:=
  fun hs hv h=>Q56 Fld.name hs hv (fun σ1 x cs w1 K _ hs hr hl hK=>U3 (Q6b (by
   obtain ⟨rfl,_⟩:=hr;unfold Pn Y1;refine Z4 hs fun a w1 σ1 hk1 ha1=>?_
   (repeat' (first | (with_reducible intro _) | (with_reducible refine M9 ?_) | (simp only[↓M2,M2,Mb,reduceIte]) | (with_reducible first | refine ld aS aL aR ?_ | refine Y6 aS aL aR ?_ | refine Y7 aS aL aR ?_ | refine Q7 aL ?_ | refine W2 aR ?_ | refine Z4 aS ?_ | refine S1 aS aL ?_ | refine L8 aS aR ?_ | refine J6 aS aR aR (Rep.one Q9) ?_ | refine L1 aS aR aR aR ?_ | (refine V4 (fun hh=>?_) (fun hh=>?_)<;>(try simp only[hh,Bool.not_true,Bool.not_false,↓M2,M2,Mb,reduceIte])) | (refine Q4 (fun hh=>?_) (fun hh=>?_)<;>(try simp only[hh,Bool.not_true,Bool.not_false,↓M2,M2,Mb,reduceIte])))))
   exact hK _ hk1.bel))) (H1 hs h)
 have hF: ∀{w1:World} {σ1:Q2} {K:Value->World->Prop},X7 w1 σ1->Sl 7 F5 σ1 mv c.methods->(∀w' σ',Stp w1 σ1 w' σ'->K (.bool (Qo Hm.Met.name [] c.methods)) w')->Q0 P F.az [mv, .func (.func F.cy) #[] #[]] w1 K:=
  fun hs hv h=>Q4n Hm.Met.name hs hv (fun σ1 x cs w1 K _ hs hr hl hK=>U3 (Q6c (by
   obtain ⟨pv,cv,hv,rfl,_⟩:=hr;unfold Po Y1;refine Z4 hs fun a w1 σ1 hk1 ha1=>?_
   (repeat' (first | (with_reducible intro _) | (with_reducible refine M9 ?_) | (simp only[↓M2,M2,Mb,reduceIte]) | (with_reducible first | refine ld aS aL aR ?_ | refine Y6 aS aL aR ?_ | refine Y7 aS aL aR ?_ | refine Q7 aL ?_ | refine W2 aR ?_ | refine Z4 aS ?_ | refine S1 aS aL ?_ | refine L8 aS aR ?_ | refine J6 aS aR aR (Rep.one Q9) ?_ | refine L1 aS aR aR aR ?_ | (refine V4 (fun hh=>?_) (fun hh=>?_)<;>(try simp only[hh,Bool.not_true,Bool.not_false,↓M2,M2,Mb,reduceIte])) | (refine Q4 (fun hh=>?_) (fun hh=>?_)<;>(try simp only[hh,Bool.not_true,Bool.not_false,↓M2,M2,Mb,reduceIte])))))
   exact hK _ hk1.bel))) (H1 hs h)
 have hG: ∀{w1:World} {σ1:Q2} {K:Value->World->Prop},X7 w1 σ1->Sl 3 I7 σ1 fv c.fields->(∀w' σ',Stp w1 σ1 w' σ'->K (.bool (c.fields.all Gx)) w')->Q0 P F.ax [fv, .func (.func F.bF) #[] #[]] w1 K:=
  fun hs hv h=>Q4l Gx hs hv (fun σ1 x cs w1 K _ _ hs hr hl hK=>U3 (X3o hs hr fun w' σ' hk=>hK w' hk.bel)) (H1 hs h)
 have hH: ∀{w1:World} {σ1:Q2} {K:Value->World->Prop},X7 w1 σ1->Glb σ1->Sl 7 F5 σ1 mv c.methods->(∀w' σ',Stp w1 σ1 w' σ'->K (.bool (c.methods.all Xu)) w')->Q0 P F.aq [mv, .func (.func F.bc) #[] #[]] w1 K:=
  fun hs hg hv h=>Q2H Xu hs hv (fun σ1 x cs w1 K le _ hs hr hl hK=>X3n hs (hg.lift ⟨le⟩) hr fun w' σ' hk=>hK w' hk.bel) (H1 hs h)
 have e1:decide ((0:Int)<c.fields.length)= !decide (c.fields=[]):=by cases c.fields<;>simp
 have e2:decide (c.super=[79,98,106,101,99,116])=decide (c.super=M3):=rfl
 (repeat' (first | (with_reducible intro _) | (with_reducible refine M9 ?_) | (simp only[↓M2,M2,Mb,reduceIte]) | (with_reducible first | refine ld aS aL aR ?_ | refine Y6 aS aL aR ?_ | refine Y7 aS aL aR ?_ | refine Q7 aL ?_ | refine W2 aR ?_ | refine Z4 aS ?_ | refine S1 aS aL ?_ | refine L8 aS aR ?_ | refine J6 aS aR aR (Rep.one Q9) ?_ | refine L1 aS aR aR aR ?_ | refine hA au au ?_ | refine hB au au ?_ | refine hC au au ?_ | refine hD au au ?_ | refine hE au au ?_ | refine hF au au ?_ | refine hG au au ?_ | refine hH au au au ?_ | (refine V4 (fun hh=>?_) (fun hh=>?_)<;>(try simp only[hh,Bool.not_true,Bool.not_false,↓M2,M2,Mb,reduceIte])) | (refine Q4 (fun hh=>?_) (fun hh=>?_)<;>(try simp only[hh,Bool.not_true,Bool.not_false,↓M2,M2,Mb,reduceIte])))))
 all_goals (simp only[<-e1,<-e2] at h;clear hA hB hC hD hE hF hG hH e1 e2;exact aF))
theorem X6n {cs:List Value} {c:Cla} (hs:X7 w σ) (hg:Glb σ) (hc:M8 σ c cs) (hl:c.like.length<=1000000) (h: ∀w' σ',Stp w σ w' σ'->K (I (B9 c)) w'):Q0 P F.cG [.agg cs.toArray] w K:=Q89 (by
 have hc0:=hc;obtain ⟨lv,fv,mv,rfl,g1,g2,g3,g4,g5⟩:=hc;unfold Q1F;unfold B9 at h
 (repeat' (first | (with_reducible intro _) | (with_reducible refine M9 ?_) | (simp only[↓M2,M2,Mb,reduceIte]) | (with_reducible first | refine ld aS aL aR ?_ | refine Y6 aS aL aR ?_ | refine Y7 aS aL aR ?_ | refine Q7 aL ?_ | refine W2 aR ?_ | refine Z4 aS ?_ | refine S1 aS aL ?_ | refine L8 aS aR ?_ | refine J6 aS aR aR (Rep.one Q9) ?_ | refine L1 aS aR aR aR ?_ | refine X7L au au (H1 aS ?_) | refine X6x au au au au ?_ | (refine V4 (fun hh=>?_) (fun hh=>?_)<;>(try simp only[hh,Bool.not_true,Bool.not_false,↓M2,M2,Mb,reduceIte])) | (refine Q4 (fun hh=>?_) (fun hh=>?_)<;>(try simp only[hh,Bool.not_true,Bool.not_false,↓M2,M2,Mb,reduceIte])))))
 all_goals exact aF)
end Go.Proofs.Y
namespace Go.Emb
open Go.RowKit Go.Hm
structure Tab (σ : Q2) (v : Value) (l : List Cla) : Prop where
  ex : ∃ a lv r m, v = .pointer (some a) /\ J7 σ a [lv, .map (some r)] /\ Sl 8 M8 σ lv l /\ Ji σ r m /\ ∀ n, P6 m n = (U1 l n).map (fun i : Nat => I (i : Int))
theorem Tab.lift {σ0 σ:Q2} {v:Value} {l:List Cla} (h:Tab σ0 v l) (k:SLe σ0 σ):Tab σ v l:=by
 obtain ⟨a,g,r,m,b,c,d,e,f⟩:=h.ex;exact ⟨a,g,r,m,b,c.lift k,d.lift k,e.lift k,f⟩
end Go.Emb
namespace Go.Proofs.Y
open Go.Emb Go.RowKit Go.Kd Go.Hm
variable {w : World} {K : Value -> World -> Prop} {σ : Q2} {v : Value} {l : List Cla}
theorem X25 {n:X2} (b:X7 w σ) (d:Tab σ v l) (h:K (.bool (Q35 l n)) w):Q0 P F.k [v,S n] w K:=Bj (by
 obtain ⟨a,i,r,m,rfl,e,j,f,g⟩:=d.ex;unfold La;simp only[D9];unfold Y1;rw[H7,fa];refine ld b e rfl ?_;rw[Q5h Z2 (f.is b) n,g n];unfold Q35 at h;cases c:U1 l n<;>rw[c] at h<;>((try simp only[Option.map_some,Option.map_none]);(try simp only[↓M1,M1,Mb,reduceIte]);exact h))
theorem Vl {n:X2} {c:Cla} (V:X7 w σ) (W:Tab σ v l) (Q:lk l n=some c)
 (h: ∀o s mv w' q,Stp w σ w' q->Sl 1 M7 q o c.like->Sl 3 I7 q s c.fields->Sl 7 F5 q mv c.methods->c.name.length<=W6->c.super.length<=W6->M8 q c [S c.name,S c.super,o, .bool c.iface, .bool c.abs, .bool c.fin,s,mv]->
  K (.agg [S c.name,S c.super,o, .bool c.iface, .bool c.abs, .bool c.fin,s,mv].toArray) w'):Q0 P F.i [v,S n] w K:=Q14 (by
 obtain ⟨a,o,r,m,rfl,E,t2,t3,t4⟩:=W.ex;obtain ⟨_,_,i,R,z⟩:=O9 Q;obtain ⟨y,rfl⟩:=List.getElem?_eq_some_iff.1 z;unfold Ej;simp only[Y3,X3];unfold V1;refine D3 V fun b w1 σ1 f d A=>?_;refine U8 d.sat ?_;refine X9 (.pointer (some a)) (fun w f=>by rw[H7];exact Y5 rfl) ?_
 refine X9 (.pointer (some (a.add 0))) (fun t w f e=>by rw[e,fa];exact Y5 rfl) ?_
 refine X9 (.pointer (some a)) (fun w f=>by rw[H7];exact Y5 rfl) ?_
 refine X9 (.pointer (some (a.add 1))) (fun t w f e=>by rw[e,fa];exact Y5 rfl) ?_
 refine X9 o (fun t w f e=>by rw[e];exact ld f.sat (E.up d) rfl (Y5 rfl)) ?_
 refine X9 (.map (some r)) (fun t w f e=>by rw[e];exact ld f.sat (E.up d) rfl (Y5 rfl)) ?_
 refine X9 (I i) (fun t w f e=>by rw[e,Q7I Z2 ((t3.up d).is f.sat) n,t4 n,R];exact Y5 rfl) ?_
 rintro t6 t7 Y Z t8 aa ab w2 g rfl rfl rfl rfl H rfl rfl;subst H;have B:=A.step g.stp;refine E5 (t2.up d) y fun p cs U j D=>?_;refine Y7 g.sat U j ?_;have k:=D;obtain ⟨X,s,mv,rfl,J,L,M,N,O⟩:=D;refine Qs B (d.trans g.stp) f rfl rfl (Rep.one k) fun w3 u C=>?_;refine M4 C rfl ?_;exact h _ _ _ w3 σ1 u.stp J L M N O k)
theorem Q2I {n:X2} (b:X7 w σ) (c:Tab σ v l) (a:lk l n=none) (h:K (.bool false) w):Q0 P F.k [v,S n] w K:=X25 b c (by rw[Q43,a];exact h)
theorem Gt {n:X2} {d:Cla} (b:X7 w σ) (c:Tab σ v l) (a:lk l n=some d) (h:K (.bool true) w):Q0 P F.k [v,S n] w K:=X25 b c (by rw[Q43,a];exact h)
theorem X4T {c:Cla} {cs:List Value} (hs:X7 w σ) (ht:Tab σ v l) (hc:M8 σ c cs) (h: ∀w' σ',Stp w σ w' σ'->K (I (B6 l c)) w'):Q0 P F.bi [v, .agg cs.toArray] w K:=Ax (by
 obtain ⟨lv,fv,mv,rfl,g1,g2,g3,g4,g5⟩:=hc;unfold Df Z8 Y1 V1 V3 X6 Y0 X5;unfold B6 at h;cases hd:lk l c.super with
 | none=>
  simp only[Ja,hd,if_true] at h
  (repeat' (first | (with_reducible intro _) | (with_reducible refine M9 ?_) | (simp only[↓M2,M2,Mb,reduceIte]) | (with_reducible first | refine ld aS aL aR ?_ | refine Y6 aS aL aR ?_ | refine Y7 aS aL aR ?_ | refine Q7 aL ?_ | refine W2 aR ?_ | refine Z4 aS ?_ | refine S1 aS aL ?_ | refine L8 aS aR ?_ | refine J6 aS aR aR (Rep.one Q9) ?_ | refine L1 aS aR aR aR ?_ | refine Q2I au au au ?_ | (refine V4 (fun hh=>?_) (fun hh=>?_)<;>(try simp only[hh,Bool.not_true,Bool.not_false,↓M2,M2,Mb,reduceIte])) | (refine Q4 (fun hh=>?_) (fun hh=>?_)<;>(try simp only[hh,Bool.not_true,Bool.not_false,↓M2,M2,Mb,reduceIte])))))
  all_goals exact aF
 | some d=>
  simp only[Ja,hd] at h;obtain ⟨dn,ds,dl,di,da,df,dfs,dms⟩:=d;cases di<;>cases df
  .simp only[Bool.or_self,Bool.false_eq_true,if_false] at h
   (repeat' (first | (with_reducible intro _) | (with_reducible refine M9 ?_) | (simp only[↓M2,M2,Mb,reduceIte]) | (with_reducible first | refine ld aS aL aR ?_ | refine Y6 aS aL aR ?_ | refine Y7 aS aL aR ?_ | refine Q7 aL ?_ | refine W2 aR ?_ | refine Z4 aS ?_ | refine S1 aS aL ?_ | refine L8 aS aR ?_ | refine J6 aS aR aR (Rep.one Q9) ?_ | refine L1 aS aR aR aR ?_ | refine Gt au au au ?_ | refine Vl au au au ?_ | (refine V4 (fun hh=>?_) (fun hh=>?_)<;>(try simp only[hh,Bool.not_true,Bool.not_false,↓M2,M2,Mb,reduceIte])) | (refine Q4 (fun hh=>?_) (fun hh=>?_)<;>(try simp only[hh,Bool.not_true,Bool.not_false,↓M2,M2,Mb,reduceIte])))))
   rename_i w3 σ3 hk3 _ _ _ _ _ _;have hS:Stp w σ w3 σ3:=by (repeat (first | exact Stp.refl (by (first | assumption | exact Stp.sat Q9 | exact Hst.sat Q9)) | assumption | refine Stp.trans ?_ (by first | assumption | exact Hst.stp Q9)))
   refine V7 c.like.length (fun n w'=> ∃σ',Stp w σ w' σ'/\SLe σ3 σ'/\((c.like.take n).any (I4 l))=false) ⟨σ3,hS,SLe.refl _,by simp⟩ fun n w4 d hn hi=>?_
   obtain ⟨σ4,hS4,le4,hq⟩:=hi;clear hk3;refine J0 ?_;refine Q4 (fun hh=>?_) (fun hh=>?_)
   .have hn':n<c.like.length:=by simpa using hh
    have hmax:c.like.length<=9223372036854775807:=g1.max;refine Q9e (by (first | assumption | exact Sl.lift Q9 (by (repeat (first | exact SLe.refl _ | refine SLe.more ?_ Q9 | refine SLe.more ?_ (Nxt.le Q9) | refine SLe.step ?_ Q9))) | exact J7.lift Q9 (by (repeat (first | exact SLe.refl _ | refine SLe.more ?_ Q9 | refine SLe.more ?_ (Nxt.le Q9) | refine SLe.step ?_ Q9))) | exact Ji.lift Q9 (by (repeat (first | exact SLe.refl _ | refine SLe.more ?_ Q9 | refine SLe.more ?_ (Nxt.le Q9) | refine SLe.step ?_ Q9))) | exact RCl_lift Q9 (by (repeat (first | exact SLe.refl _ | refine SLe.more ?_ Q9 | refine SLe.more ?_ (Nxt.le Q9) | refine SLe.step ?_ Q9))) | exact RMe_lift Q9 (by (repeat (first | exact SLe.refl _ | refine SLe.more ?_ Q9 | refine SLe.more ?_ (Nxt.le Q9) | refine SLe.step ?_ Q9))) | exact Glb.lift Q9 (by (repeat (first | exact SLe.refl _ | refine SLe.more ?_ Q9 | refine SLe.more ?_ (Nxt.le Q9) | refine SLe.step ?_ Q9))) | exact Tab.lift Q9 (by (repeat (first | exact SLe.refl _ | refine SLe.more ?_ Q9 | refine SLe.more ?_ (Nxt.le Q9) | refine SLe.step ?_ Q9))) | exact RIn_any Q9 | exact RFd_any Q9 | exact RCa_any Q9)) hn' fun p hl hbig=>?_
    have hq':=E7 (p:=I4 l) hn';rw[hq] at hq';cases hx:lk l c.like[n] with
    | none=>
     simp only[K2 (p:=I4 l) hn' (by simp only[I4,hx]),if_true] at h
     (repeat' (first | (with_reducible intro _) | (with_reducible refine M9 ?_) | (simp only[↓M2,M2,Mb,reduceIte]) | (with_reducible first | refine ld aS aL aR ?_ | refine Y6 aS aL aR ?_ | refine Y7 aS aL aR ?_ | refine Q7 aL ?_ | refine W2 aR ?_ | refine Z4 aS ?_ | refine S1 aS aL ?_ | refine L8 aS aR ?_ | refine J6 aS aR aR (Rep.one Q9) ?_ | refine L1 aS aR aR aR ?_ | refine Q2I au au au ?_ | (refine V4 (fun hh=>?_) (fun hh=>?_)<;>(try simp only[hh,Bool.not_true,Bool.not_false,↓M2,M2,Mb,reduceIte])) | (refine Q4 (fun hh=>?_) (fun hh=>?_)<;>(try simp only[hh,Bool.not_true,Bool.not_false,↓M2,M2,Mb,reduceIte])))))
     all_goals exact aF
    | some x=>
     obtain ⟨xn,xs,xl,xi,xa,xf,xfs,xms⟩:=x;cases xi
     .simp only[K2 (p:=I4 l) hn' (by simp only[I4,hx];rfl),if_true] at h
      (repeat' (first | (with_reducible intro _) | (with_reducible refine M9 ?_) | (simp only[↓M2,M2,Mb,reduceIte]) | (with_reducible first | refine ld aS aL aR ?_ | refine Y6 aS aL aR ?_ | refine Y7 aS aL aR ?_ | refine Q7 aL ?_ | refine W2 aR ?_ | refine Z4 aS ?_ | refine S1 aS aL ?_ | refine L8 aS aR ?_ | refine J6 aS aR aR (Rep.one Q9) ?_ | refine L1 aS aR aR aR ?_ | refine Gt au au au ?_ | refine Vl au au au ?_ | (refine V4 (fun hh=>?_) (fun hh=>?_)<;>(try simp only[hh,Bool.not_true,Bool.not_false,↓M2,M2,Mb,reduceIte])) | (refine Q4 (fun hh=>?_) (fun hh=>?_)<;>(try simp only[hh,Bool.not_true,Bool.not_false,↓M2,M2,Mb,reduceIte])))))
      all_goals exact aF
     ·(repeat' (first | (with_reducible intro _) | (with_reducible refine M9 ?_) | (simp only[↓M2,M2,Mb,reduceIte]) | (with_reducible first | refine ld aS aL aR ?_ | refine Y6 aS aL aR ?_ | refine Y7 aS aL aR ?_ | refine Q7 aL ?_ | refine W2 aR ?_ | refine Z4 aS ?_ | refine S1 aS aL ?_ | refine L8 aS aR ?_ | refine J6 aS aR aR (Rep.one Q9) ?_ | refine L1 aS aR aR aR ?_ | refine Gt au au au ?_ | refine Vl au au au ?_ | (refine V4 (fun hh=>?_) (fun hh=>?_)<;>(try simp only[hh,Bool.not_true,Bool.not_false,↓M2,M2,Mb,reduceIte])) | (refine Q4 (fun hh=>?_) (fun hh=>?_)<;>(try simp only[hh,Bool.not_true,Bool.not_false,↓M2,M2,Mb,reduceIte])))))
      refine Z5 hmax hn' ⟨_,by (repeat (first | exact Stp.refl (by (first | assumption | exact Stp.sat Q9 | exact Hst.sat Q9)) | assumption | refine Stp.trans ?_ (by first | assumption | exact Hst.stp Q9))),by (repeat (first | exact SLe.refl _ | refine SLe.more ?_ Q9 | refine SLe.more ?_ (Nxt.le Q9) | refine SLe.step ?_ Q9)),by rw[hq'];simp only[I4,hx];rfl⟩
   .have hn': ¬n<c.like.length:=by simpa using hh
    rw[B4 hn'] at hq;simp only[hq,Bool.false_eq_true,if_false] at h;exact h _ _ hS4
  all_goals
   simp only[Bool.or_self,Bool.or_true,Bool.true_or,if_true] at h
   (repeat' (first | (with_reducible intro _) | (with_reducible refine M9 ?_) | (simp only[↓M2,M2,Mb,reduceIte]) | (with_reducible first | refine ld aS aL aR ?_ | refine Y6 aS aL aR ?_ | refine Y7 aS aL aR ?_ | refine Q7 aL ?_ | refine W2 aR ?_ | refine Z4 aS ?_ | refine S1 aS aL ?_ | refine L8 aS aR ?_ | refine J6 aS aR aR (Rep.one Q9) ?_ | refine L1 aS aR aR aR ?_ | refine Gt au au au ?_ | refine Vl au au au ?_ | (refine V4 (fun hh=>?_) (fun hh=>?_)<;>(try simp only[hh,Bool.not_true,Bool.not_false,↓M2,M2,Mb,reduceIte])) | (refine Q4 (fun hh=>?_) (fun hh=>?_)<;>(try simp only[hh,Bool.not_true,Bool.not_false,↓M2,M2,Mb,reduceIte])))))
   all_goals exact aF)
end Go.Proofs.Y
namespace Go.Emb
open Go.RowKit Go.Hm
variable {w w' : World} {σ : Q2}
theorem X2a {a:Addr} {v:Value} (h:w.cell? a=some v) (b:Below w.heap.size w w'):w'.cell? a=some v:=by
 rw[<-h];exact World.cell?_of_block (b.block a.block (World.block_lt_of_cell? _ _ h))
def Ptr {α:Type} (sz:Nat) (R:Q2->α->List Value->Prop) (σ:Q2) (x:α) (p:Value) (w:World):Prop:=
 ∃a cs,p= .pointer (some a)/\(∀j u,cs[j]? =some u->w.cell? (a.add j)=some u)/\cs.length=sz/\R σ x cs
theorem Ptr.below {α:Type} {sz:Nat} {R:Q2->α->List Value->Prop} {x:α} {p:Value} (h:Ptr sz R σ x p w) (e:Below w.heap.size w w'):Ptr sz R σ x p w':=by
 obtain ⟨a,cs,b,c,d⟩:=h;exact ⟨a,cs,b,fun j u f=>X2a (c j u f) e,d⟩
end Go.Emb
namespace Go.Proofs.Y
open Go.Emb Go.RowKit Go.Kd Go.Hm
variable {w : World} {K : Value -> World -> Prop} {σ : Q2} {v : Value} {l : List Cla}
theorem Q7m {w0:World} {σ0:Q2} {xs:List Cla} (Y:Stp w0 σ0 w σ) (B:V6 w0.heap.size T.c 8 M8 σ w v xs)
 (h: ∀w',Kpt (fun k=>v.ownBlock=some k) w w'->Stp w0 σ0 w' σ->V6 w0.heap.size T.c 8 M8 σ w' v xs.reverse->K (.tuple #[]) w'):Q0 P F.r [v] w K:=Vv (by
 unfold Qy;simp only[Y3,X3];unfold Y0 X4 X5
 have U:xs.length<=9223372036854775807:=by
  obtain ⟨a,V,_,g,b,_⟩:=B;simp only[maxLen] at b;omega
 refine Fx B ?_;refine Vs ⟨by omega,by omega⟩ ?_
 refine Of (fun x w'=> ∃i:Nat,x=(I i,I ((xs.length:Int)-1-i))/\2*i<=xs.length/\Kpt (fun k=>v.ownBlock=some k) w w'/\Stp w0 σ0 w' σ/\V6 w0.heap.size T.c 8 M8 σ w' v (P7 i xs)) (fun x _=>match x.2 with | .int _ n=>(n+1).toNat | _=>0) ⟨0,by simp,by omega,Kpt.refl,Y,B⟩ ?_
 rintro _ d w1 ⟨i,rfl,O,Q,m,c⟩;obtain ⟨R,N⟩:=Q3L xs i O;refine J0 ?_;refine Q4 (fun hh=>?_) (fun hh=>?_)
 .have aa:(i:Int)<(xs.length:Int)-1-i:=by simpa using hh
  have M:((xs.length:Int)-1-i)=((xs.length-1-i:Nat):Int):=by omega
  have q:i<(P7 i xs).length:=by omega
  have r:xs.length-1-i<(P7 i xs).length:=by omega
  refine U8 m.sat ?_;refine R3 (Ptr 8 M8 σ (P7 i xs)[xs.length-1-i]) (fun _ _ _ h f=>h.below f) (fun w f=>?_) ?_
  .simp only[M]
   exact Q9B (c.step f.stp) r fun a cs g b j=>⟨Below.refl _ _,a,cs,rfl,g,b,j⟩
  refine R3 (Ptr 8 M8 σ (P7 i xs)[i]) (fun _ _ _ h f=>h.below f) (fun w f=>?_) ?_
  .exact Q9B (c.step f.stp) q fun a cs g b j=>⟨Below.refl _ _,a,cs,rfl,g,b,j⟩
  refine R3 (fun v _=> ∃cs:List Value,v= .agg cs.toArray/\cs.length=8/\M8 σ (P7 i xs)[xs.length-1-i] cs) (fun _ _ _ h _=>h) (fun t w f e=>?_) ?_
  .obtain ⟨a,cs,rfl,g,b,j⟩:=e
   exact Q0x b g ⟨Below.refl _ _,cs,rfl,b,j⟩
  refine R3 (fun v _=> ∃cs:List Value,v= .agg cs.toArray/\cs.length=8/\M8 σ (P7 i xs)[i] cs) (fun _ _ _ h _=>h) (fun t w f e=>?_) ?_
  .obtain ⟨a,cs,rfl,g,b,j⟩:=e
   exact Q0x b g ⟨Below.refl _ _,cs,rfl,b,j⟩
  rintro ab ad ac ae w2 o _ _ ⟨cs,rfl,E,s⟩ ⟨ds,rfl,H,y⟩;refine Q67 (m.trans o.stp) (c.step o.stp) q E s (Rep.one s) fun p u w3 J z C=>?_;simp only[M];refine Q67 z.stp C (by simpa using r) H y (Rep.one y) fun p u w4 L A D=>?_
  refine Zd ⟨by omega,by omega⟩ ?_
  refine Vs ⟨by omega,by omega⟩ ?_
  refine ⟨⟨i+1,by congr 1<;>congr 1<;>omega,by omega,?_,A.stp,?_⟩,?_⟩
  .exact ((Q.trans (Kpt.of_below o.stp.bel)).trans J).trans L
  .have W:(P7 i xs)[i]? =some (P7 i xs)[i]:=List.getElem?_eq_getElem q
   have X:(P7 i xs)[xs.length-1-i]? =some (P7 i xs)[xs.length-1-i]:=List.getElem?_eq_getElem r
   have:P7 (i+1) xs=((P7 i xs).set i (P7 i xs)[xs.length-1-i]).set (xs.length-1-i) (P7 i xs)[i]:=by
    simp only[P7,W,X]
   rw[this];exact D
  .simp only;omega
 .have Z: ¬(i:Int)<(xs.length:Int)-1-i:=by simpa using hh
  rw[X4u xs i O Q5] at c;exact h w1 Q m c)
def sOf:Value->X2 | .string b=>b.data.toList | _=>[]
theorem X3l {n:X2} (Q:X7 w σ) (B:Tab σ v l) (M:Vw l) (W:l.length<=100000) (h: ∀y w' σ',Stp w σ w' σ'->V6 w.heap.size T.c 8 M8 σ' w' y (chain l n).reverse->K y w'):Q0 P F.aT [v,S n] w K:=Q2d (by
 unfold Ro
 refine Of (fun x w'=> ∃(s:X2) (k:List Cla) (σ':Q2),x.2=S s/\chain l n=k++chain l s/\Stp w σ w' σ'/\W7 w.heap.size T.c 8 M8 σ' w' x.1 k) (fun x _=>(chain l (sOf x.2)).length)
  ⟨n,[],σ,rfl,rfl,Stp.refl Q,W7.nil⟩ ?_
 rintro ⟨Z,_⟩ d w1 ⟨s,k,σ1,rfl,o,a,f⟩;have i:=B.lift ⟨a.le⟩;have z:=Pb l n;have t:sOf (S s)=s:=by simp[sOf]
 simp only[t];cases j:lk l s with
 | none=>
  refine Q2I a.sat i j ?_;refine Z7 ?_;rw[Dx j,List.append_nil] at o;rw[<-o] at f;refine Q7m a (V6.of_acc f) fun U g p q=>?_;exact h _ _ _ p q
 | some c=>
  refine Gt a.sat i j ?_;refine Z3 ?_;refine Vl a.sat i j fun R L mv U σ2 g C D E H J A=>?_;have b:=Gu M s;rw[j] at b;simp only at b
  have N:k.length+1<=l.length+1:=by
   have:=congrArg List.length o;rw[List.length_append,b,List.length_cons] at this;omega
  refine Lz (a.trans g) (f.up g) A rfl rfl rfl Q5 Q5 fun u y X σ3 O e r _=>?_;refine Vl e.sat (B.lift ⟨e.le⟩) j fun R L mv Y V m C D E H J A=>?_;refine W2 (v:=S c.super) rfl ?_;refine ⟨⟨c.super,k++[c],V,rfl,?_,e.trans m,r.up m⟩,?_⟩
  .rw[o,b];simp
  .have:sOf (S c.super)=c.super:=by simp[sOf]
   simp only[this,b,List.length_cons];omega)
theorem Q0j {n:X2} (hs:X7 w σ) (ht:Tab σ v l) (V:Vw l) (X:l.length<=100000) (H: ∀c∈l,Zf c) (h: ∀L w' σ',Stp w σ w' σ'->Sl 3 I7 σ' L (U6 l n)->K L w'):Q0 P F.a5 [v,S n] w K:=Av (by
 unfold Dd;simp only[N0];unfold Y1 V1 Y0 X4 X5;refine X3l hs ht V X fun v1 w1 σ1 D A=>?_;obtain ⟨Q,u,r,ac,_⟩:=A.keep D;generalize j:(chain l n).reverse=cs at*;have M:cs.length<=l.length+1:=by rw[<-j,List.length_reverse];exact Pb l n
 have k: ∀c∈cs,c.fields.length<=1000000:=fun c t=>(H c (Pc (by rw[<-j] at t;simpa using t))).2.1
 refine Q7 r ?_;refine C4 cs.length (fun i a w'=> ∃σ',Stp w σ w' σ'/\SLe Q σ'/\W7 w.heap.size T.o 3 I7 σ' w' a ((cs.take i).flatMap (·.fields))) ⟨Q,u,SLe.refl _,W7.nil⟩ fun i a w3 d hi m=>?_;obtain ⟨σ3,f,s,g⟩:=m;refine J0 ?_;refine Q4 (fun hh=>?_) (fun hh=>?_)
 .have b:i<cs.length:=by simpa using hh
  refine E5 (r.lift s) b fun p cells E o O=>?_;refine Y7 f.sat E o ?_;refine J6 f.sat (by rfl) o (Rep.one O) fun q w4 R e Z=>?_
  obtain ⟨lv,fv,mv,rfl,f1,U,f3,f4,f5⟩:=O;rw[fa];refine ld e.sat Z rfl ?_;have C:=Nk (fun c:Cla=>c.fields) 1000000 (cs.take i) fun c t=>k c (List.mem_of_mem_take t);rw[List.length_take] at C;have W:=k cs[i] (List.getElem_mem b);have N:min i cs.length*1000000<=100000*1000000:=Nat.mul_le_mul_right _ Q5;refine Jm (f.trans e) (g.up e) (U.up e) rfl Q5 Q5 fun L w5 Y z B _=>?_;refine R5 ?_;refine V2 Q5 b ⟨R,z,s.more ⟨e.le⟩,?_⟩;rw[List.take_add_one,List.getElem?_eq_getElem b,List.flatMap_append]
  simpa using B
 .have b: ¬i<cs.length:=by simpa using hh
  rw[List.take_of_length_le Q5] at g;obtain ⟨R,y,J,ad,_⟩:=g.keep f;refine h _ _ _ y ?_;unfold U6;rw[j];exact J)
theorem X6r {n f:X2} (hs:X7 w σ) (ht:Tab σ v l) (ha:Vw l) (hl:l.length<=100000) (hsm: ∀c∈l,Zf c) (h: ∀w' σ',Stp w σ w' σ'->K (I (H2 (Hw l n f))) w'):Q0 P F.bq [v,S n,S f] w K:=Q11 (by
 unfold Eg;refine L8 hs rfl fun q w1 σ1 hk1 hq=>?_;refine Q0j hk1.sat (ht.lift ⟨hk1.le⟩) ha hl hsm fun v' w2 σ2 hk2 hv2=>?_;rw[Zc];refine Aa (fun x=>decide (x.name=f)) hk2.sat hv2 (fun x cs w3 K _ hs3 hr hl hK=>U3 (Tk ?_)) fun w3 hb=>?_
 .obtain ⟨rfl,_⟩:=hr
  unfold Nn Y1 X5;have hq2:=hq.up hk2;refine Z4 hs3 fun a w4 σ4 hk4 ha4=>?_
  (repeat' (first | (with_reducible intro _) | (with_reducible refine M9 ?_) | (simp only[↓M2,M2,Mb,reduceIte]) | (with_reducible first | refine ld aS aL aR ?_ | refine Y6 aS aL aR ?_ | refine Y7 aS aL aR ?_ | refine Q7 aL ?_ | refine W2 aR ?_ | refine Z4 aS ?_ | refine S1 aS aL ?_ | refine L8 aS aR ?_ | refine J6 aS aR aR (Rep.one Q9) ?_ | refine L1 aS aR aR aR ?_ | (refine V4 (fun hh=>?_) (fun hh=>?_)<;>(try simp only[hh,Bool.not_true,Bool.not_false,↓M2,M2,Mb,reduceIte])) | (refine Q4 (fun hh=>?_) (fun hh=>?_)<;>(try simp only[hh,Bool.not_true,Bool.not_false,↓M2,M2,Mb,reduceIte])))))
  exact hK _ hk4.bel
 .exact h _ _ ((hk1.trans hk2).trans (Stp.of_below hk2.sat hb)))
end Go.Proofs.Y
namespace Go.Hm
open Go.Kd
theorem Q97 {α:Type} (p:α->Bool): ∀xs:List α,xs.find? p=(xs.findIdx? p).bind (xs[·]?)
 | []=>rfl
 | x::r=>by
  rw[List.find?_cons,List.findIdx?_cons];cases p x with
  | true=>rfl
  | false=>
   simp only[Bool.false_eq_true,if_false];rw[Q97 p r];cases r.findIdx? p<;>simp
def X4C (l:List Cla):Prop:= ∀c∈l,∀u∈c.like,∃d,lk l u=some d
def Nm (c:Cla):Prop:=c.name.length<=100/\(∀f∈c.fields,f.name.length<=100/\f.kind.length<=100)/\ ∀m∈c.methods,m.result.length<=100/\ ∀p∈m.params,p.length<=100
structure Ok (l : List Cla) : Prop where
  acy : Vw l
  len : l.length <= 100000
  sm : ∀ c ∈ l, Zf c
  full : X4C l
  nm : ∀ c ∈ l, Nm c
abbrev oM (o:Option Hm.Met):Hm.Met:=o.getD Hm.Met.zero
abbrev o1 (o:Option (X2×Hm.Met)):X2:=(o.map (·.1)).getD []
abbrev o2 (o:Option (X2×Hm.Met)):Hm.Met:=(o.map (·.2)).getD Hm.Met.zero
theorem Jr {α β:Type} {xs:List α} {f:α->Option β} {n:Nat} (h:n<xs.length) (a:(xs.take n).findSome? f=none):(xs.take (n+1)).findSome? f=f xs[n]:=by
 rw[List.take_add_one,List.getElem?_eq_getElem h,List.findSome?_append,a];simp
theorem Jq {α β:Type} {xs:List α} {f:α->Option β} {n:Nat} {y:β} (h:n<xs.length) (a:(xs.take n).findSome? f=none) (b:f xs[n]=some y):xs.findSome? f=some y:=by
 have:=Jr h a;rw[b] at this;rw[<-List.take_append_drop (n+1) xs,List.findSome?_append,this];rfl
end Go.Hm
namespace Go.Proofs.Y
open Go.Emb Go.RowKit Go.Kd Go.Hm
variable {w : World} {K : Value -> World -> Prop} {σ : Q2} {v : Value} {l : List Cla}
theorem Zy:F5 σ Hm.Met.zero [S [], .slice none 0 0,S [], .bool false,I 0, .slice none 0 0, .slice none 0 0]:=
 ⟨_,_,_,rfl,Sl.nil,Sl.nil,Sl.nil,by decide,by decide,by decide,by decide⟩
theorem Ty (h:K (.agg [S [], .slice none 0 0,S [], .bool false,I 0, .slice none 0 0, .slice none 0 0].toArray) w):B7 P T.e [] w K:=N3 X8 h
theorem X5U {c:Cla} {cs:List Value} {n:X2} (hs:X7 w σ) (hc:M8 σ c cs) (hsm:Zf c)
 (h: ∀pv cv hv w' σ',Stp w σ w' σ'->F5 σ' (oM (Qb c n)) [S (oM (Qb c n)).name,pv,S (oM (Qb c n)).result, .bool (oM (Qb c n)).abs,I (oM (Qb c n)).locals,cv,hv]->
  K (.tuple #[.agg [S (oM (Qb c n)).name,pv,S (oM (Qb c n)).result, .bool (oM (Qb c n)).abs,I (oM (Qb c n)).locals,cv,hv].toArray, .bool (Qb c n).isSome]) w'):Q0 P F.cN [.agg cs.toArray,S n] w K:=X2K (by
 obtain ⟨lv,fv,mv,rfl,g1,g2,g3,g4,g5⟩:=hc;unfold Q5Q Y1 V1 X4;refine Z4 hs fun a w1 σ1 hk1 ha1=>?_;refine L8 hk1.sat rfl fun q w2 σ2 hk2 hq=>?_;refine D3 hk2.sat fun b w3 σ3 hb hk3 hm=>?_;rw[fa];have ha3:=(ha1.up hk2).up hk3;have g3:=((g3.up hk1).up hk2).up hk3;have hq3:=hq.up hk3;refine ld hk3.sat ha3 rfl ?_;rw[Zc];have hS3:=(hk1.trans hk2).trans hk3;have hb0:w.heap.size<=b:=C6 hb (hk1.trans hk2);refine Tb (fun x=>decide (x.name=n)) hk3.sat g3 (fun x cs w4 K _ hs4 hr hl hK=>U3 (Q9I ?_)) fun w4 hb4=>?_
 .obtain ⟨pv,cv,hv,rfl,_⟩:=hr
  unfold Q2X Y1 X5;refine Z4 hs4 fun a w5 σ5 hk5 ha5=>?_
  (repeat' (first | (with_reducible intro _) | (with_reducible refine M9 ?_) | (simp only[↓M2,M2,Mb,reduceIte]) | (with_reducible first | refine ld aS aL aR ?_ | refine Y6 aS aL aR ?_ | refine Y7 aS aL aR ?_ | refine Q7 aL ?_ | refine W2 aR ?_ | refine Z4 aS ?_ | refine S1 aS aL ?_ | refine L8 aS aR ?_ | refine J6 aS aR aR (Rep.one Q9) ?_ | refine L1 aS aR aR aR ?_ | (refine V4 (fun hh=>?_) (fun hh=>?_)<;>(try simp only[hh,Bool.not_true,Bool.not_false,↓M2,M2,Mb,reduceIte])) | (refine Q4 (fun hh=>?_) (fun hh=>?_)<;>(try simp only[hh,Bool.not_true,Bool.not_false,↓M2,M2,Mb,reduceIte])))))
  exact hK _ hk5.bel
 have hk4:Stp w3 σ3 w4 σ3:=Stp.of_below hk3.sat hb4;have hm:=hm.step hk4;have hS4:=hS3.trans hk4;unfold Qb at h;rw[Q97] at h;refine J0 ?_;cases hf:c.methods.findIdx? fun x=>decide (x.name=n) with
 | none=>
  rw[hf] at h;simp only[H2];refine Z3 ?_;refine Ty ?_;refine Qs hm hS4 hb0 rfl rfl (Rep.one (Zy (σ:=σ3))) fun w5 hS5 hm5=>?_;refine M4 hm5 rfl ?_;exact h _ _ _ w5 σ3 hS5.stp Zy
 | some i=>
  rw[hf] at h;have hi:i<c.methods.length:=(List.findIdx?_eq_some_iff_getElem.1 hf).1;simp only[Option.bind_some,List.getElem?_eq_getElem hi] at h;simp only[H2];refine Q4 (fun hh=>absurd (of_decide_eq_true hh) Q5) (fun _=>?_);rw[fa];refine ld hk4.sat ha3 rfl ?_;refine E5 g3 hi fun p cells hl1 hl2 hr=>?_;refine Y7 hk4.sat hl1 hl2 ?_;refine Q7n hk4.sat hr (hsm.2.2.2 _ (List.getElem_mem hi)) fun pv cv hv w5 σ5 hk5 hr5=>?_;refine Qs (hm.step hk5) (hS4.trans hk5) hb0 rfl rfl (Rep.one hr5) fun w6 hS6 hm6=>?_;refine M4 hm6 rfl ?_;exact h _ _ _ w6 σ5 hS6.stp hr5)
theorem X7K {n:X2} (ok:Ok l): ∀(k:Nat) {c:Cla} {cs:List Value} {w:World} {σ:Q2} {K:Value->World->Prop},Xx l c.name<k->lk l c.name=some c->X7 w σ->Tab σ v l->M8 σ c cs->
 (∀pv W Y w' Z,Stp w σ w' Z->F5 Z (o2 (O4 l c n)) [S (o2 (O4 l c n)).name,pv,S (o2 (O4 l c n)).result, .bool (o2 (O4 l c n)).abs,I (o2 (O4 l c n)).locals,W,Y]->
  K (.tuple #[S (o1 (O4 l c n)), .agg [S (o2 (O4 l c n)).name,pv,S (o2 (O4 l c n)).result, .bool (o2 (O4 l c n)).abs,I (o2 (O4 l c n)).locals,W,Y].toArray, .bool (O4 l c n).isSome]) w')->
 Q0 P F.aS [v, .agg cs.toArray,S n] w K:=by
 intro k
 induction k with
 | zero=>
  intro c cs w σ K hk;omega
 | succ k ih=>
  intro c cs w σ K hk hc hs ht hr h;refine Q2c ?_;obtain ⟨lv,fv,mv,rfl,g1,g2,g3,g4,g5⟩:=hr;have B:=Q7G ok.acy hc n;generalize hf:(fun u=>match lk l u with | none=>none | some d=>match Qb d n with | some m=>some (u,m) | none=>O4 l d n)=f at B
  unfold Rn;simp only[Y3,N0,D9];unfold Y1 V1 V3 Y0 X5;refine Z4 hs fun a w1 σ1 C aw=>?_;refine D3 C.sat fun b w2 σ2 hb D a1=>?_;have Q:w.heap.size<=b:=C6 hb C;have ax:=aw.up D;rw[fa];refine ld D.sat ax rfl ?_;have g1:=(g1.up C).up D;refine Q7 g1 ?_;refine V7 c.like.length (fun i w'=> ∃Z,Stp w σ w' Z/\SLe σ2 Z/\Y8 Z w' b [S [], .slice none 0 0,S [], .bool false,I 0, .slice none 0 0, .slice none 0 0]/\(c.like.take i).findSome? f=none) ⟨σ2,C.trans D,SLe.refl _,a1,rfl⟩ fun i w3 d hi af=>?_;obtain ⟨σ3,y,ap,ai,A⟩:=af;have a8:=ht.lift ⟨y.le⟩;refine J0 ?_;refine Q4 (fun hh=>?_) (fun hh=>?_)
  .have g:i<c.like.length:=by simpa using hh
   refine Q9e (g1.lift ap) g fun p a0 ag=>?_;refine Y6 y.sat a0 rfl ?_;obtain ⟨d,X⟩:=ok.full c (O9 hc).2.1 _ (List.getElem_mem g);obtain ⟨ae,az,_⟩:=O9 X;have j:f c.like[i]=match Qb d n with | some m=>some (c.like[i],m) | none=>O4 l d n:=by rw[<-hf];simp only[X]
   refine Vl y.sat a8 X fun a9 aq ba w4 σ4 E f1 f2 f3 f4 f5 a5=>?_;refine X5U E.sat a5 (ok.sm d az) fun pv W Y w5 σ5 H an=>?_;refine J8 (vs:=[_,_]) rfl ?_;refine J8 (vs:=[_,_]) rfl ?_;refine J6 H.sat (by rfl) rfl (Rep.one an) fun q w6 σ6 J al=>?_
   have t:=((y.trans E).trans H).trans J;have aj:=((ai.step E).step H).step J;have U:=RMe_lift an ⟨J.le⟩;cases ho:Qb d n with
   | some m=>
    rw[ho] at j U al
    (try simp only[ho])
    refine Z3 ?_;refine U8 t.sat ?_;refine R3 (fun v _=>v= .agg [S m.name,pv,S m.result, .bool m.abs,I m.locals,W,Y].toArray) (fun _ _ _ h _=>h) (fun w hb=>Y7 hb.sat al rfl ⟨Below.refl _ _,rfl⟩) ?_;rintro _ w7 ad rfl;refine Qs (aj.step ad.stp) (t.trans ad.stp) Q rfl rfl (Rep.one U) fun w8 av a3=>?_;refine M4 a3 rfl ?_;have R:=B.trans (Jq g A j);rw[R] at h;exact h _ _ _ w8 σ6 av.stp U
   | none=>
    rw[ho] at j
    (try simp only[Option.isSome_none])
    refine Z7 ?_;refine Vl t.sat (ht.lift ⟨t.le⟩) X fun a9 aq ba w7 σ7 z f1 f2 f3 f4 f5 a6=>?_;have bp:=Vr ok.acy hc (by simp[M6,List.getElem_mem g]:c.like[i]∈M6 c) X
    refine ih (by rw[ae];omega) (by rw[ae];exact X) z.sat (ht.lift ⟨(t.trans z).le⟩) a6 fun pv W Y w8 σ8 L ao=>?_
    refine J8 (vs:=[_,_,_]) rfl ?_;refine J8 (vs:=[_,_,_]) rfl ?_;refine J8 (vs:=[_,_,_]) rfl ?_;refine J6 L.sat (by rfl) rfl (Rep.one ao) fun q w9 σ9 M am=>?_
    have O:=((t.trans z).trans L).trans M;have ak:=((aj.step z).step L).step M;have V:=RMe_lift ao ⟨M.le⟩;cases R:O4 l d n with
    | some r=>
     obtain ⟨s,m⟩:=r;rw[R] at j V am
     (try simp only[R])
     refine Z3 ?_;refine U8 O.sat ?_;refine R3 (fun v _=>v= .agg [S m.name,pv,S m.result, .bool m.abs,I m.locals,W,Y].toArray) (fun _ _ _ h _=>h) (fun w hb=>Y7 hb.sat am rfl ⟨Below.refl _ _,rfl⟩) ?_;rintro _ bs N rfl;refine Qs (ak.step N.stp) (O.trans N.stp) Q rfl rfl (Rep.one V) fun bb ab ah=>?_;refine M4 ah rfl ?_;have ag:=B.trans (Jq g A j);rw[ag] at h;exact h _ _ _ bb σ9 ab.stp V
    | none=>
     rw[R] at j
     (try simp only[Option.isSome_none])
     refine Z7 ?_;refine R5 ?_;refine Z5 (by have:=g1.max;omega) g ⟨σ9,O,?_,ak,?_⟩
     .exact ap.more ⟨fun b o e=>M.le _ _ (L.le _ _ (z.le _ _ (J.le _ _ (H.le _ _ (E.le _ _ e)))))⟩
     .rw[Jr g A];exact j
  .have g: ¬i<c.like.length:=by simpa using hh
   rw[List.take_of_length_le Q5] at A;refine Ty ?_;refine Qs ai y Q rfl rfl (Rep.one (Zy (σ:=σ3))) fun w5 ar a2=>?_;refine M4 a2 rfl ?_;have R:=B.trans A;rw[R] at h;exact h _ _ _ w5 σ3 ar.stp Zy
end Go.Proofs.Y
namespace Go.Hm
open Go.Kd
theorem X4U {l:List Cla} {n:X2} {c:Cla} (h:c∈chain l n):lk l c.name=some c:=by
 have key: ∀(f:Nat) (n:X2),c∈Qx (lk l) f n->lk l c.name=some c:=by
  intro f
  induction f with
  | zero=>intro n h;simp[Qx] at h
  | succ f b=>
   intro n h;simp only[Qx] at h
   split at h
   .simp at h
   .rename_i d a
    rcases List.mem_cons.1 h with rfl | h
    .rw[(O9 a).1];exact a
    .exact b _ h
 exact key _ _ h
end Go.Hm
namespace Go.Proofs.Y
open Go.Emb Go.RowKit Go.Kd Go.Hm
variable {w : World} {K : Value -> World -> Prop} {σ : Q2} {v : Value} {l : List Cla}
theorem X4M {k n:X2} (hs:X7 w σ) (ht:Tab σ v l) (ok:Ok l)
 (h: ∀pv Z hv w' H,Stp w σ w' H->F5 H (o2 (N2 l k n)) [S (o2 (N2 l k n)).name,pv,S (o2 (N2 l k n)).result, .bool (o2 (N2 l k n)).abs,I (o2 (N2 l k n)).locals,Z,hv]->
  K (.tuple #[S (o1 (N2 l k n)), .agg [S (o2 (N2 l k n)).name,pv,S (o2 (N2 l k n)).result, .bool (o2 (N2 l k n)).abs,I (o2 (N2 l k n)).locals,Z,hv].toArray, .bool (N2 l k n).isSome]) w'):
 Q0 P F.bh [v,S k,S n] w K:=Aw (by
 unfold De;simp only[Y3,X3,N0,D9];unfold V1 V3 Y0 X5;refine D3 hs fun b w1 σ1 E N aj=>?_;refine X3l N.sat (ht.lift ⟨N.le⟩) ok.acy ok.len fun v1 w2 σ2 ai af=>?_;have a7:=aj.step ai;have bg:=aj.lt;refine Q7m (N.trans ai) (af.mono N.bel.size) fun w3 a5 a4 ag=>?_;rw[List.reverse_reverse] at ag;obtain ⟨σ3,ae,Q,bk,a1⟩:=ag.keep a4;have bh:=Pb l k;have av:v1.ownBlock≠some b:=fun e=>by have:=af.own e;omega
 have am:Y8 σ3 w3 b [S [], .slice none 0 0,S [], .bool false,I 0, .slice none 0 0, .slice none 0 0]:=by
  have:=a7.kp a5 av;exact ⟨(a1 b fun e=>av e.symm).trans this.1,this.2⟩
 refine Q7 Q ?_;unfold N2 at h;refine V7 (chain l k).length (fun i w'=> ∃H,Stp w σ w' H/\SLe σ3 H/\Y8 H w' b [S [], .slice none 0 0,S [], .bool false,I 0, .slice none 0 0, .slice none 0 0]/\((chain l k).take i).findSome? (fun c=>(Qb c n).map (c.name,·))=none) ⟨σ3,ae,SLe.refl _,am,rfl⟩ fun i w5 d hi C=>?_;obtain ⟨σ5,J,R,an,y⟩:=C;refine J0 ?_;refine Q4 (fun hh=>?_) (fun hh=>?_)
 .have a:i<(chain l k).length:=by simpa using hh
  refine E5 (Q.lift R) a fun p cells X z hr=>?_;refine Y7 J.sat X z ?_;refine J6 J.sat (by rfl) z (Rep.one hr) fun q w6 σ6 A aw=>?_
  refine Y7 A.sat aw z ?_;have ar:=Pc (List.getElem_mem a);refine X5U A.sat (Rep.up A.le hr) (ok.sm _ ar) fun pv Z hv w7 σ7 j az=>?_;refine J8 (vs:=[_,_]) rfl ?_;refine J8 (vs:=[_,_]) rfl ?_;refine J6 j.sat (by rfl) rfl (Rep.one az) fun q8 w8 σ8 u ax=>?_
  have V:=((J.trans A).trans j).trans u;have ap:=((an.step A).step j).step u;have B:=RMe_lift az ⟨u.le⟩;cases D:Qb (chain l k)[i] n with
  | some m=>
   rw[D] at B ax
   (try simp only[D])
   refine Z3 ?_;obtain ⟨lv,fv,mv,rfl,g⟩:=hr;refine U8 V.sat ?_;refine X9 (.pointer (some (q.add 0))) (fun w E=>by rw[fa];exact Y5 rfl) ?_
   refine X9 (S (chain l k)[i].name) (fun t w E e=>by rw[e];exact ld E.sat ((aw.up j).up u) rfl (Y5 rfl)) ?_
   refine R3 (fun v _=>v= .agg [S m.name,pv,S m.result, .bool m.abs,I m.locals,Z,hv].toArray) (fun _ _ _ h _=>h) (fun w E=>Y7 E.sat ax rfl ⟨Below.refl _ _,rfl⟩) ?_;rintro _ _ _ w9 ah rfl rfl rfl;refine Qs (ap.step ah.stp) (V.trans ah.stp) E rfl rfl (Rep.one B) fun a2 ac ak=>?_;refine M4 ak rfl ?_;rw[Jq (f:=fun c=>(Qb c n).map (c.name,·)) a y (by simp only[D];rfl)] at h
   exact h _ _ _ a2 σ8 ac.stp B
  | none=>
   (try simp only[D])
   refine Z7 ?_;refine R5 ?_;refine Z5 (by have:=ok.len;omega) a ⟨σ8,V,R.more ⟨fun b o e=>u.le _ _ (j.le _ _ (A.le _ _ e))⟩,ap,?_⟩
   rw[Jr a y];simp only[D];rfl
 .have a: ¬i<(chain l k).length:=by simpa using hh
  rw[List.take_of_length_le Q5] at y;rw[y] at h;clear am ae hh;refine Q7 (Q.lift R) ?_;refine V7 (chain l k).length (fun i w'=> ∃H,Stp w σ w' H/\SLe σ3 H/\Y8 H w' b [S [], .slice none 0 0,S [], .bool false,I 0, .slice none 0 0, .slice none 0 0]/\((chain l k).take i).findSome? (fun c=>O4 l c n)=none) ⟨σ5,J,R,an,rfl⟩ fun i w6 d hi C=>?_;obtain ⟨σ6,L,a0,ao,y⟩:=C;refine J0 ?_;refine Q4 (fun hh=>?_) (fun hh=>?_)
  .have a:i<(chain l k).length:=by simpa using hh
   refine E5 (Q.lift a0) a fun p cells X z hr=>?_;refine Y7 L.sat X z ?_;refine J6 L.sat (by rfl) z (Rep.one hr) fun q w7 σ7 j a9=>?_
   refine Y7 j.sat a9 z ?_;have M:=L.trans j;have a6:=X4U (List.getElem_mem a);refine X7K ok _ (Nat.lt_succ_self _) a6 j.sat (ht.lift ⟨M.le⟩) (Rep.up j.le hr) fun pv Z hv w8 σ8 u B=>?_;refine J8 (vs:=[_,_,_]) rfl ?_;refine J8 (vs:=[_,_,_]) rfl ?_;refine J8 (vs:=[_,_,_]) rfl ?_;refine J6 u.sat (by rfl) rfl (Rep.one B) fun q9 w9 σ9 O ay=>?_
   have W:=(M.trans u).trans O;have aq:=((ao.step j).step u).step O;have Y:=RMe_lift B ⟨O.le⟩;cases D:O4 l (chain l k)[i] n with
   | some r=>
    obtain ⟨s,m⟩:=r;rw[D] at Y ay
    (try simp only[D])
    refine Z3 ?_;refine U8 W.sat ?_;refine R3 (fun v _=>v= .agg [S m.name,pv,S m.result, .bool m.abs,I m.locals,Z,hv].toArray) (fun _ _ _ h _=>h) (fun w E=>Y7 E.sat ay rfl ⟨Below.refl _ _,rfl⟩) ?_;rintro _ a2 U rfl;refine Qs (aq.step U.stp) (W.trans U.stp) E rfl rfl (Rep.one Y) fun ba ad al=>?_;refine M4 al rfl ?_;have:=Jq (f:=fun c=>O4 l c n) a y D;unfold O4 at this;rw[this] at h;exact h _ _ _ ba σ9 ad.stp Y
   | none=>
    (try simp only[D])
    refine Z7 ?_;refine R5 ?_;refine Z5 (by have:=ok.len;omega) a ⟨σ9,W,a0.more ⟨fun b o e=>O.le _ _ (u.le _ _ (j.le _ _ e))⟩,aq,?_⟩
    rw[Jr a y];exact D
  .have a: ¬i<(chain l k).length:=by simpa using hh
   rw[List.take_of_length_le Q5] at y;refine Ty ?_;refine Qs ao L E rfl rfl (Rep.one (Zy (σ:=σ6))) fun w7 M a8=>?_;refine M4 a8 rfl ?_;unfold O4 at y;rw[y] at h;exact h _ _ _ w7 σ6 M.stp Zy)
theorem X3f {n:X2} (hs:X7 w σ) (ht:Tab σ v l) (h: ∀w' σ',Stp w σ w' σ'->K (.bool (Yq l n)) w'):Q0 P F.b9 [v,S n] w K:=Tj (by
 unfold Nl X6;unfold Yq at h;cases hd:lk l n with
 | none=>
  rw[hd] at h
  (repeat' (first | (with_reducible intro _) | (with_reducible refine M9 ?_) | (simp only[↓M2,M2,Mb,reduceIte]) | (with_reducible first | refine ld aS aL aR ?_ | refine Y6 aS aL aR ?_ | refine Y7 aS aL aR ?_ | refine Q7 aL ?_ | refine W2 aR ?_ | refine Z4 aS ?_ | refine S1 aS aL ?_ | refine L8 aS aR ?_ | refine J6 aS aR aR (Rep.one Q9) ?_ | refine L1 aS aR aR aR ?_ | refine Q2I au au au ?_ | (refine V4 (fun hh=>?_) (fun hh=>?_)<;>(try simp only[hh,Bool.not_true,Bool.not_false,↓M2,M2,Mb,reduceIte])) | (refine Q4 (fun hh=>?_) (fun hh=>?_)<;>(try simp only[hh,Bool.not_true,Bool.not_false,↓M2,M2,Mb,reduceIte])))))
  all_goals exact aF
 | some d=>
  rw[hd] at h
  (repeat' (first | (with_reducible intro _) | (with_reducible refine M9 ?_) | (simp only[↓M2,M2,Mb,reduceIte]) | (with_reducible first | refine ld aS aL aR ?_ | refine Y6 aS aL aR ?_ | refine Y7 aS aL aR ?_ | refine Q7 aL ?_ | refine W2 aR ?_ | refine Z4 aS ?_ | refine S1 aS aL ?_ | refine L8 aS aR ?_ | refine J6 aS aR aR (Rep.one Q9) ?_ | refine L1 aS aR aR aR ?_ | refine Gt au au au ?_ | refine Vl au au au ?_ | (refine V4 (fun hh=>?_) (fun hh=>?_)<;>(try simp only[hh,Bool.not_true,Bool.not_false,↓M2,M2,Mb,reduceIte])) | (refine Q4 (fun hh=>?_) (fun hh=>?_)<;>(try simp only[hh,Bool.not_true,Bool.not_false,↓M2,M2,Mb,reduceIte])))))
  all_goals exact aF)
end Go.Proofs.Y
namespace Go.Kd
def brk (b:UInt8):Bool:=[(91:UInt8),93].contains b
def Q4d:Nat->X2->X2
 | 0,s=>s
 | n+1,s=>match s.getLast? with
  | some b=>if brk b then Q4d n (s.take (s.length-1)) else s
  | none=>s
def Bu (s:X2):X2:=Q4d s.length s
theorem X2X: ∀(n m:Nat) (s:X2),s.length<=n->s.length<=m->Q4d n s=Q4d m s:=by
 intro n
 induction n with
 | zero=>
  intro m s h _;have:s=[]:=List.eq_nil_of_length_eq_zero (by omega)
  subst this;cases m<;>rfl
 | succ n a=>
  intro m s h d;cases m with
  | zero=>
   have:s=[]:=List.eq_nil_of_length_eq_zero (by omega)
   subst this;rfl
  | succ m=>
   simp only[Q4d];cases c:s.getLast? with
   | none=>rfl
   | some b=>
    simp only
    split
    .exact a m _ (by rw[List.length_take];omega) (by rw[List.length_take];omega)
    .rfl
theorem Q4e (s:X2):Bu s=match s.getLast? with | some b=>if brk b then Bu (s.take (s.length-1)) else s | none=>s:=by
 unfold Bu;cases d:s with
 | nil=>rfl
 | cons c r=>
  rw[<-d];obtain ⟨n,e⟩: ∃n,s.length=n+1:=⟨r.length,by rw[d];rfl⟩
  have a:s.length-1=n:=by omega
  rw[e];simp only[Q4d,a];cases f:s.getLast? with
  | none=>rfl
  | some b=>
   simp only
   split
   .rw[show n+1-1=n by omega];exact X2X n (s.take n).length _ (by rw[List.length_take];omega) (Nat.le_refl _)
   .rfl
theorem X3U {s:X2} (h:name s=true): ∃b,s.getLast?=some b/\K1 b.toNat=true:=by
 cases s with
 | nil=>simp[name] at h
 | cons c r=>
  refine ⟨(c::r).getLast (by simp),List.getLast?_eq_some_getLast (by simp),?_⟩
  simp only[name,Bool.and_eq_true,List.all_eq_true] at h;exact h.2 _ (List.getLast_mem _)
theorem X38 {b:UInt8} (h:K1 b.toNat=true):brk b=false:=by
 have a:b≠91:=by rintro rfl;revert h;decide
 have c:b≠93:=by rintro rfl;revert h;decide
 simp[brk,a,c]
theorem Ht {s:X2} (h:(plain s||C2 s)=true):name s=true:=by
 simp only[Bool.or_eq_true] at h
 rcases h with h | h
 .simp only[plain,Bool.or_eq_true,decide_eq_true_eq] at h
  rcases h with (h | h) | h<;>subst h<;>decide
 .cases s with
  | nil=>simp[C2] at h
  | cons c r=>simp only[C2,Bool.and_eq_true] at h;exact h.1
end Go.Kd
namespace Go.Proofs.Y
open Go.Emb Go.RowKit Go.Kd Go.Hm
variable {w : World} {K : Value -> World -> Prop} {σ : Q2} {v : Value} {l : List Cla}
theorem X5H {s:X2} (h:arr s=true):Bu s=Bu (Kd.cutA s):=by
 have f:2<=s.length/\s.drop (s.length-2)=[91,93]:=by simpa [arr] using h
 obtain ⟨g,e⟩:=f;have a:s=Kd.cutA s++[91,93]:=by unfold Kd.cutA;rw[<-e,List.take_append_drop]
 have i:(Kd.cutA s).length+2=s.length:=by unfold Kd.cutA;rw[List.length_take];omega
 have b:s.getLast?=some 93:=by rw[a];simp
 have c:s.take (s.length-1)=Kd.cutA s++[91]:=by
  conv=>lhs;rw[a]
  rw[List.take_append,List.length_append]
  simp
  exact List.take_of_length_le Q5
 rw[Q4e s,b];simp only[show brk 93=true from rfl,if_true,c]
 rw[Q4e];have d:(Kd.cutA s++[91]).getLast?=some 91:=by simp
 rw[d];simp only[show brk 91=true from rfl,if_true]
 congr 1
 simp
theorem X4x {s:X2}:(plain (base s).1||C2 (base s).1)=true->Bu s=(base s).1:=by
 have key: ∀(n:Nat) (s:X2),s.length<=n->(plain (base s).1||C2 (base s).1)=true->Bu s=(base s).1:=by
  intro n
  induction n with
  | zero=>
   intro s h a;have:s=[]:=List.eq_nil_of_length_eq_zero Q5;subst this;rfl
  | succ n g=>
   intro s h a
   by_cases c:arr s=true
   .have d:base s=((base (Kd.cutA s)).1,(base (Kd.cutA s)).2+1):=by rw[Jo s,c];simp
    rw[d] at a⊢;rw[X5H c];exact g _ (by have:=Xe c;omega) a
   .have d:base s=(s,0):=by rw[Jo s,eq_false_of_ne_true c];simp
    rw[d] at a⊢;obtain ⟨b,e,f⟩:=X3U (Ht a);rw[Q4e,e]
    simp[X38 f]
 exact key _ s (Nat.le_refl _)
instance z_asciiSet:TZ P T.aj 256 256 (.agg (Array.replicate 256 (.bool false))):=⟨X8⟩
theorem X0o (h: ∀w',Below w.heap.size w w'->K (.tuple #[.agg (Lib.setCells [91,93]), .bool true]) w'):Q0 P F.ct [S [91,93]] w K:=by
 refine On (fn:=Tryz.f171) Tryz.func171 X8 X8 (Calls.mono (Tryz.strings_makeASCIISet (fun w=>Xh z_asciiSet w) ⟨[91,93].toArray⟩ w W3 (by
  intro j b a;have:b∈[(91:UInt8),93]:=List.mem_of_getElem? a
  simp at this;rcases this with rfl | rfl<;>decide)) ?_)
 rintro e w' ⟨rfl,rfl⟩;exact h _ ((Below.refl _ _).alloc (Nat.le_refl _) _)
theorem Q5A {q:Addr} {b:UInt8} (c:X7 w σ) (a:J7 σ q (Lib.setCells [91,93]).toList) (h:K (.bool (brk b)) w):Q0 P F.aC [.pointer (some q), .int .u8 b.toNat] w K:=Rf (by
 unfold Jd V1;rw[H7];have d:=b.toNat_lt;rw[Q9f Q5 Q5];refine ld c a ?_ h;have:=Lib.setCells_at [91,93] b;rw[<-Array.getElem?_toList] at this
 simpa [brk] using this)
theorem Q57 {q:Addr} {s:X2} (n:X7 w σ) (k:s.length<=W6) (m:J7 σ q (Lib.setCells [91,93]).toList) (h:K (S (Bu s)) w):Q0 P F.ar [S s, .pointer (some q)] w K:=Kc (by
 unfold Li Y0 X4;refine M9 ?_;refine Of (fun x w'=>w'=w/\ ∃u:X2,x=S u/\u.length<=W6/\Bu u=Bu s) (fun x _=>(sOf x).length) ⟨rfl,s,rfl,k,rfl⟩ ?_;rintro _ d _ ⟨rfl,u,rfl,g,f⟩;have e:sOf (S u)=u:=by simp[sOf]
 simp only[e];refine Q0c Z2 ?_;refine Q4h ?_;refine Q4 (fun hh=>?_) (fun hh=>?_)
 .have j:0<u.length:=by simpa using hh
  have o:u.length<=9223372036854775807:=Nat.le_trans g W3;refine Q0c Z2 ?_;refine Vs ⟨by omega,by omega⟩ ?_
  have i:((u.length:Int)-1).toNat=u.length-1:=by omega
  rw[Ju Z2 Q5 Q5];simp only[i];have b:u.getLast?=some (u[u.length-1]'(by omega)):=by rw[List.getLast?_eq_getElem?,List.getElem?_eq_getElem]
  have a:=Q4e u;rw[b] at a;simp only at a;refine Q5A n m ?_;cases c:brk (u[u.length-1]'(by omega)) with
  | true=>
   rw[c] at a;simp only[↓M1,M1,Mb,reduceIte];rw[Qr Q5 Q5,Ye Z2 Q5 Q5];simp only[i];refine ⟨⟨trivial,_,rfl,by rw[List.length_take];omega,?_⟩,?_⟩
   .rw[<-f,a];simp
   .have:sOf (S (u.take (u.length-1)))=u.take (u.length-1):=by simp[sOf]
    simp only[this,List.length_take];omega
  | false=>
   rw[c] at a;simp only[↓M1,M1,Mb,reduceIte];intro _;rw[<-f,a] at h
   simpa using h
 .have j: ¬0<u.length:=by simpa using hh
  have:u=[]:=List.eq_nil_of_length_eq_zero Q5;subst this;intro _;rw[<-f] at h;exact h)
theorem X0m {s:X2} (hs:X7 w σ) (hl:s.length<=W6) (h: ∀w' σ',Stp w σ w' σ'->K (S (Bu s)) w'):Q0 P F.bP [S s,S [91,93]] w K:=Q2v (by
 unfold Sg;simp only[N0,D9];unfold X6 Y0 X4 V5
 by_cases hs0:s=[]
 .subst hs0
  (repeat' (first | (with_reducible intro _) | (with_reducible refine M9 ?_) | (simp only[↓M2,M2,Mb,reduceIte]) | (with_reducible first | refine ld aS aL aR ?_ | refine Y6 aS aL aR ?_ | refine Y7 aS aL aR ?_ | refine Q7 aL ?_ | refine W2 aR ?_ | refine Z4 aS ?_ | refine S1 aS aL ?_ | refine L8 aS aR ?_ | refine J6 aS aR aR (Rep.one Q9) ?_ | refine L1 aS aR aR aR ?_ | (refine V4 (fun hh=>?_) (fun hh=>?_)<;>(try simp only[hh,Bool.not_true,Bool.not_false,↓M2,M2,Mb,reduceIte])) | (refine Q4 (fun hh=>?_) (fun hh=>?_)<;>(try simp only[hh,Bool.not_true,Bool.not_false,↓M2,M2,Mb,reduceIte])))))
  all_goals first | exact h _ _ (by (repeat (first | exact Stp.refl (by (first | assumption | exact Stp.sat Q9 | exact Hst.sat Q9)) | assumption | refine Stp.trans ?_ (by first | assumption | exact Hst.stp Q9)))) | (exfalso;simp_all)
 have d1:decide (s=[])=false:=decide_eq_false hs0;simp only[d1,show decide (([91,93]:X2)=[])=false from rfl,show decide ((([91,93]:X2).length:Int)=1)=false from rfl,↓M1,M1,Mb,reduceIte]
 refine X0o (H1 hs fun w1 σ1 hk1=>?_);simp only[↓M1,M1,Mb,reduceIte];have hsz:(Lib.setCells [91,93]).toList.length=256:=by rw[Array.length_toList];exact Lib.setCells_size _
 have hone: ∀u∈(Lib.setCells [91,93]).toList,u.oneCell'=true:=by
  have:=Lib.setCells_one [91,93];rw[Array.all_eq_true'] at this;intro u hu;exact this u (by simpa using hu)
 have htr: ∀{w:World} {σ:Q2} {K:Value->World->Prop} {q:Addr},X7 w σ->J7 σ q (Lib.setCells [91,93]).toList->K (S (Bu s)) w->Q0 P F.ar [S s, .pointer (some q)] w K:=fun hs hq h=>Q57 hs hl hq h;have hta:Lib.setCells [91,93]=(Lib.setCells [91,93]).toList.toArray:=Array.toArray_toList.symm;generalize (Lib.setCells [91,93]).toList=cs at*;rw[hta];refine J6 hk1.sat (by show (Array.replicate 256 (Value.bool false)).size=256;exact Array.size_replicate) hsz hone fun q w2 σ2 hk2 hq=>?_
 refine htr hk2.sat hq ?_;exact h _ _ (hk1.trans hk2))
theorem Q5z {s:X2} (hs:X7 w σ) (ht:Tab σ v l) (hl:s.length<=W6) (h: ∀w' σ',Stp w σ w' σ'->K (.bool (H8 l s)) w'):Q0 P F.ad [v,S s] w K:=Q2b (by
 unfold Rm X6 V5;unfold H8 at h;refine Qu ?_;refine Q4 (fun hh=>?_) (fun hh=>?_)
 .have e:decide (s=G4)=true:=hh
  rw[e] at h;exact h _ _ (Stp.refl hs)
 .have e:decide (s=G4)=false:=hh
  rw[e] at h;refine X0m hs hl fun w1 σ1 hk1=>?_;refine Vo s (Nat.le_trans hl W3) (H1 hk1.sat fun w2 σ2 hk2=>?_);cases hr:right s with
  | false=>
   rw[hr] at h
   (repeat' (first | (with_reducible intro _) | (with_reducible refine M9 ?_) | (simp only[↓M2,M2,Mb,reduceIte]) | (with_reducible first | refine ld aS aL aR ?_ | refine Y6 aS aL aR ?_ | refine Y7 aS aL aR ?_ | refine Q7 aL ?_ | refine W2 aR ?_ | refine Z4 aS ?_ | refine S1 aS aL ?_ | refine L8 aS aR ?_ | refine J6 aS aR aR (Rep.one Q9) ?_ | refine L1 aS aR aR aR ?_ | (refine V4 (fun hh=>?_) (fun hh=>?_)<;>(try simp only[hh,Bool.not_true,Bool.not_false,↓M2,M2,Mb,reduceIte])) | (refine Q4 (fun hh=>?_) (fun hh=>?_)<;>(try simp only[hh,Bool.not_true,Bool.not_false,↓M2,M2,Mb,reduceIte])))))
   all_goals exact aF
  | true=>
   rw[hr] at h
   have hr2:(plain (base s).1||C2 (base s).1)=true:=by
    simp only[right,Bool.and_eq_true] at hr;exact hr.2
   rw[X4x hr2]
   (repeat' (first | (with_reducible intro _) | (with_reducible refine M9 ?_) | (simp only[↓M2,M2,Mb,reduceIte]) | (with_reducible first | refine ld aS aL aR ?_ | refine Y6 aS aL aR ?_ | refine Y7 aS aL aR ?_ | refine Q7 aL ?_ | refine W2 aR ?_ | refine Z4 aS ?_ | refine S1 aS aL ?_ | refine L8 aS aR ?_ | refine J6 aS aR aR (Rep.one Q9) ?_ | refine L1 aS aR aR aR ?_ | refine Gl _ ?_ | refine X25 au au ?_ | (refine V4 (fun hh=>?_) (fun hh=>?_)<;>(try simp only[hh,Bool.not_true,Bool.not_false,↓M2,M2,Mb,reduceIte])) | (refine Q4 (fun hh=>?_) (fun hh=>?_)<;>(try simp only[hh,Bool.not_true,Bool.not_false,↓M2,M2,Mb,reduceIte])))))
   all_goals exact aF)
end Go.Proofs.Y
namespace Go.Emb
open Go.RowKit Go.Hm
variable {P : Program} {w w1 w' w'' : World} {σ σ' : Q2}
theorem Q7H (m:List (List UInt8×Value)) (k n:List UInt8) (v:Value):P6 (Ow m k v) n=if k=n then some v else P6 m n:=by
 induction m with
 | nil=>simp[Ow,P6]
 | cons p r b=>
  simp only[Ow]
  by_cases h:p.1=k
  .rw[if_pos h]
   simp only[P6]
   by_cases a:k=n
   .simp[a]
   .rw[if_neg a,if_neg a,if_neg (by rw[h];exact a)]
  .rw[if_neg h]
   simp only[P6]
   by_cases a:p.1=n
   .rw[if_pos a,if_pos a,if_neg (by intro e;exact h (a.trans e.symm))]
   .rw[if_neg a,if_neg a];exact b
theorem V6.shift {B sz:Nat} {e:TypeId} {v:Value} {xs:List (List UInt8)} (h:V6 B e sz M7 σ w v xs) (m: ∀k,v.ownBlock=some k->σ' k=none):V6 B e sz M7 σ' w v xs:=by
 obtain ⟨a,f,rfl,n,o,c,p⟩:=h;refine ⟨a,f,rfl,n,o,fun b d=>⟨(c b d).1,(c b d).2.1,(c b d).2.2.1,m _ (by subst d;rfl)⟩,fun q=>?_⟩
 obtain ⟨g,j,i,rfl,r,y,s,t,u⟩:=p q;exact ⟨g,j,i,rfl,r,m g rfl,s,t,u⟩
theorem Kpt.sat {D:Nat->Prop} (a:X7 w σ) (d:Kpt D w w') (c: ∀k,D k->σ k=none):X7 w' σ:=fun b o e=>by
 rw[d.block b (a.lt e) fun h=>by rw[c b h] at e;cases e];exact a b o e
theorem Nxt.kpt {D a:Nat->Prop} (h:Nxt D w σ w' σ') (b:Kpt a w' w'') (c: ∀k,a k->D k) (d: ∀k,a k->σ' k=none):Nxt D w σ w'' σ':=
 ⟨h.kp.trans (b.mono fun k _ h=>c k h),h.le,h.old,b.sat h.sat d⟩
theorem X7V {t V:TypeId} {e:TypeId} {m:Nat} {z:Value} {cs:List Bool} [ts:TS P t e] [tz:TZ P e 1 m z] {B:Nat} {A:World} {i σ':Q2} {g u:Value} {xs:List (List UInt8)} {s:List UInt8}
 (D:V6 B e 1 M7 i A g xs) (hB:B<=A.heap.size) (J:V6 B e 1 M7 i w1 g xs) (r:Nxt (fun k=>g.ownBlock=some k) A i w1 σ') (O:Sl 1 M7 σ' u [s]) (Q:(z.cells.size==1&&decide (0<1))=true)
 (j:(xs.length+1)*m<=140737488355328) (M:xs.length+1<=1000000000000):
 V0 P .append [t,t] V cs [g,u] w1 (dk (Tw B e 1 M7 i g xs s) (VQa A.heap.size B e 1 M7 i g xs s) w1):=by
 have y: ∀k,g.ownBlock=some k->σ' k=none:=fun k c=>(r.old k (D.mem c).2.1).trans (D.mem c).2.2;refine Q66 r.sat (Nat.le_trans hB r.kp.size) (J.shift y) O Q (by simpa using j) (by simpa using M) fun W X C N q f=>?_
 have b:V6 B e 1 M7 i X W (xs++[s]):=q.shift fun k c=>by
  have:=(q.mem c).2.2;cases hh:i k with
  | none=>rfl
  | some o=>rw[r.le.le _ _ hh] at this;cases this
 refine ⟨⟨C.mono fun k _ h=>h.1,fun h=>?_,fun a d H h=>?_⟩,b,?_⟩
 .rcases f with ⟨a,d,n,p⟩ | ⟨j,_⟩
  .rw[p] at b;rw[n];exact b.pre rfl
  .exact h.below j
 .rcases f with ⟨Y,E,n,p⟩ | ⟨j,_⟩
  .rw[n] at H;injection H with R q2 U
   subst R U;rw[p] at b;exact b
  .exact h.below j
 .rcases f with ⟨a,d,n,p⟩ | ⟨j,L⟩
  .exact .inl ⟨a,d,n,p⟩
  .exact .inr ⟨fun k c=>Nat.le_trans r.kp.size (L k c),fun k c=>(D.mem c).2.1⟩
end Go.Emb
namespace Go.Hm
open Go.Kd
def Dy (l:List Cla) (n:X2):List Cla:=(Qq l n).filterMap (lk l)
theorem X13 {l:List Cla} (h: ∀c∈l,Zf c) (a:List X2):weigh l a<=l.length*1000001:=by
 unfold weigh
 induction l with
 | nil=>simp
 | cons c r d=>
  have e:=d fun c b=>h c (by simp[b])
  have f:=(h c (by simp)).1
  simp only[List.map_cons,List.sum_cons,List.length_cons,Nat.add_mul];have g:(M6 c).length=c.like.length+1:=rfl
  split<;>omega
end Go.Hm
namespace Go.Proofs.Y
open Go.Emb Go.RowKit Go.Kd Go.Hm
variable {w : World} {K : Value -> World -> Prop} {σ : Q2} {v : Value} {l : List Cla}
theorem X1H {β:Type} {n:X2} {f:Value} (L:β->Cla->Bool×β) (s0:β) (N:β->World->Prop) (D:Nat->Prop) (hs:X7 w σ) (ht:Tab σ v l) (hl:l.length<=100000) (bv: ∀c∈l,Zf c) (hn:n.length<=W6)
 (hD: ∀k,D k->k<w.heap.size/\σ k=none) (al: ∀s w1 w2,N s w1->(∀k,D k->w2.heap[k]? =w1.heap[k]?)->N s w2) (h0:N s0 w)
 (hf: ∀s c cs (w1:World) (σ1:Q2) (K:Value->World->Prop),SLe σ σ1->X7 w1 σ1->(∀k,D k->σ1 k=none)->N s w1->M8 σ1 c cs->lk l c.name=some c->(∀w',Kpt D w1 w'->N (L s c).2 w'->K (.bool (L s c).1) w')->U7 P f [.agg cs.toArray] w1 K)
 (h: ∀w' σ',Nxt D w σ w' σ'->N (W5 L s0 (Dy l n) 0).2 w'->K (.bool (W5 L s0 (Dy l n) 0).1.isSome) w'):Q0 P F.y [v,S n,f] w K:=Q13 (by
 unfold Ei;simp only[Y3,X3,N0,D9];unfold V1 X6 Y0 X4;refine Zh (R:=M7) (sz:=1) (xs:=[n]) (Stp.refl hs) [S n] rfl rfl (by simp;rfl) rfl ⟨⟨rfl,hn⟩,trivial⟩ fun x0 w1 az be _=>?_
 refine Q62 az.sat fun r w2 hr ab cc=>?_;have b4:=V6.of_acc (be.up ab);have bd:=az.trans ab;have bs:w.heap.size<=r:=Nat.le_trans az.bel.size hr
 have bx: ∀b,weigh l b<=100001000000:=fun b=>by
  have:=X13 bv b;have h2:l.length*1000001<=100000*1000001:=Nat.mul_le_mul_right _ hl;omega
 refine Q0y (fun d x w1=> ∃(C b:List X2) (s:β) (σ1:Q2) (m:List (X2×Value)),d=C.length+weigh l b/\d<=1+weigh l []/\Nxt D w σ w1 σ1/\V6 w.heap.size T.b 1 M7 σ1 w1 x C/\P3 σ1 w1 r m/\(∀k,(P6 m k).isSome=decide (k∈b))/\x.ownBlock≠some r/\N s w1/\
  Qq l n=Mk (lk l) d C b/\(∃i,W5 L s0 (Dy l n) 0=W5 L s (((Qq l n).drop b.length).filterMap (lk l)) i)) (1+weigh l []) ?_ ?_
 .refine ⟨[n],[],s0,σ,[],by simp,Nat.le_refl _,Nxt.of_stp bd,b4,cc,by simp[P6],?_,al _ _ _ h0 fun k o=>bd.bel.block k (hD k o).1,rfl,0,by simp[Dy]⟩
  intro e;have:=be.mem r e;omega
 rintro aq d x dd w3 ⟨C,b,s,σ3,m,hd,c3,A,av,ad,Q,co,ay,hv,i,y⟩ bg;have cw:=bx [];have a4:=A.sat;obtain ⟨a7,B⟩:=Q3R (lk l) d C b;rw[<-hv] at B;have aa:(Qq l n).drop b.length=a7:=by rw[B];simp
 rw[aa] at y;refine Fx av ?_;refine Q4h ?_;cases ag:C with
 | nil=>
  subst ag;refine Q4 (fun hh=>absurd (of_decide_eq_true hh) U5) (fun _=>?_);have:Qq l n=b:=by rw[hv];cases d<;>rfl
  have hp:a7=[]:=by rw[this] at B;simpa using B
  rw[hp] at y;rw[y] at h;exact h _ _ A ay
 | cons t g=>
  subst ag;refine Q4 (fun _=>?_) (fun hh=>absurd (of_decide_eq_false hh) U5);simp only[List.length_cons] at hd;refine Q9B (n:=0) av U5 fun a cs X h2 h3=>?_;obtain ⟨rfl,cl⟩:=h3;simp only[List.getElem_cons_zero] at X cl;have Z:=X 0 _ rfl;rw[add_zero] at Z;refine Zb Z ?_;refine X97 av 1 U5 fun x' Y bp=>?_;simp only[List.drop_succ_cons,List.drop_zero] at Y
  have J:x'.ownBlock≠some r:=by
   rcases bp with e | e<;>rw[e]
   .exact co
   .simp
  rw[Q5h Z2 ad.2 t];have b7:d=(g.length+weigh l b)+1:=by omega
  have p:=hv;rw[b7] at p;simp only[Mk] at p
  have skip:(lk l t=none\/t∈b)->Qq l n=Mk (lk l) (g.length+weigh l b) g b:=by
   rintro (e | e)
   .rw[e] at p;exact p
   .cases e2:lk l t with
    | none=>rw[e2] at p;exact p
    | some c=>rw[e2] at p;simp only[if_pos e] at p;exact p
  have af:(lk l t=none\/t∈b)->aq x' w3:=fun ck=>
   bg (g.length+weigh l b) x' w3 Q5 ⟨g,b,s,σ3,m,rfl,by omega,A,Y,ad,Q,J,ay,skip ck,i,by rw[aa];exact y⟩
  have a5:=ht.lift A.le;have U:=Q t;cases bm:P6 m t with
  | some u=>
   rw[bm] at U;have ai:t∈b:=by simpa using U
   simp only[↓M2,M2,Mb,reduceIte];exact af (.inr ai)
  | none=>
   rw[bm] at U;have ai:t∉b:=by simpa using U
   simp only[↓M2,M2,Mb,reduceIte];cases H:lk l t with
   | none=>
    refine Q2I a4 a5 H ?_;simp only[↓M2,M2,Mb,reduceIte];exact af (.inl H)
   | some c=>
    obtain ⟨aw,bj,_⟩:=O9 H;refine Gt a4 a5 H ?_;simp only[↓M2,M2,Mb,reduceIte];refine Q0B Z2 ad t (I 1) fun w4 bw cd=>?_;have ac:Kpt (fun k=>k=r) w3 w4:=Kpt.of_upd bw rfl;have ci:X7 w4 σ3:=ac.sat a4 fun k o=>by rw[o];exact ad.1
    have bf:=Y.kp ac fun k o e=>J (e▸o);have b8:=al _ _ _ ay fun k o=>bw.block k (by have:=(hD k o).1;omega)
    have c9:r<w3.heap.size:=ad.lt;refine Vl ci a5 H fun lv fv mv w5 σ5 bl f1 f2 f3 f4 f5 br=>?_;refine J6 bl.sat (by rfl) rfl (Rep.one br) fun q w6 M W a2=>?_
    refine Y7 W.sat a2 rfl ?_;have z:=bl.trans W
    have bb: ∀k,D k->k<w4.heap.size:=fun k o=>by
     have X:=(hD k o).1;have h2:=A.kp.size;have h3:=ac.size;omega
    have b9:=al _ _ _ b8 fun k o=>z.bel.block k (bb k o);have a6:SLe σ M:=A.le.more ⟨z.le⟩
    have bc: ∀k,D k->M k=none:=fun k o=>by
     rw[z.old k (bb k o),A.old k (hD k o).1];exact (hD k o).2
    refine hf s c _ w6 M _ a6 W.sat bc b9 (RCl_lift br ⟨W.le⟩) (by rw[aw];exact H) fun w7 aj bk=>?_
    have bu:X7 w7 M:=aj.sat W.sat bc
    have ak:Nxt D w σ w7 M:=⟨((A.kp.more ac fun j e=>by rw[e];exact bs).trans (Kpt.of_below z.bel)).trans aj,a6,fun k o=>by
     rw[z.old k (by have:=A.kp.size;have:=ac.size;omega)];exact A.old k o,bu⟩
    have ao: ∀k,w.heap.size<=k-> ¬D k:=fun k o e=>by have:=(hD k e).1;omega
    have V:=(bf.up z).kp aj fun k o=>ao k ((bf.mem o).1);have bo:=(cd.up z).kp aj (ao r bs)
    have bn: ∀k,(P6 (Ow m t (I 1)) k).isSome=decide (k∈b++[t]):=fun k=>by
     rw[Q7H]
     by_cases e:t=k
     .subst e;simp
     .rw[if_neg e,Q k];simp[Ne.symm e]
    rw[H] at p;simp only[if_neg ai] at p;obtain ⟨bz,a1⟩:=Q3R (lk l) (g.length+weigh l b) (g++M6 c) (b++[t])
    have bq:a7=t::bz:=by
     have:=B.symm.trans (p.trans a1)
     simpa using this
    rw[bq] at y;simp only[List.filterMap_cons,H,W5] at y;cases E:(L s c).1 with
    | true=>
     rw[E] at y;simp only[if_true] at y;refine Z3 ?_;have:=h w7 M ak;rw[y] at this;exact this bk
    | false=>
     rw[E] at y;simp only[Bool.false_eq_true,if_false] at y;refine Z7 ?_;have ap:w.heap.size<=w7.heap.size:=ak.kp.size;have ae: ∀k,x'.ownBlock=some k->M k=none:=fun k o=>(V.mem o).2.2;have hw:=Q1B l b c bj (by rw[aw];exact ai)
     rw[aw] at hw;have de:=bx b;have ch:g.length<=100001000001:=by omega
     have cb:=(bv c bj).1;have cv:=bo.lt
     refine Pe (Tw w.heap.size T.b 1 M7 M x' g c.super) (fun w1=>Kpt (fun k=>x'.ownBlock=some k) w7 w1/\X7 w1 M/\V6 w.heap.size T.b 1 M7 M w1 x' g)
      ⟨.of_below (Below.refl _ _).drew,bu.below (Below.refl _ _).drew,V.below (Below.refl _ _).drew⟩ (fun w1 w2 E ht=>⟨E.1.trans ht.1,ht.1.sat E.2.1 ae,ht.2.1 E.2.2⟩) ?_
     refine X9 (.pointer (some (q.add 1))) (fun w E=>by rw[fa];exact ⟨Tw.refl,rfl⟩) ?_
     refine X9 (.pointer (some (q.add 2))) (fun w E=>by rw[fa];exact ⟨Tw.refl,rfl⟩) ?_
     refine X9 (S c.super) (fun t w E e=>by rw[e];exact ld E.2.1 a2 rfl ⟨Tw.refl,rfl⟩) ?_
     refine R3 (fun u w1=> ∃σ',Nxt (fun k=>x'.ownBlock=some k) w7 M w1 σ'/\Sl 1 M7 σ' u [c.super]) (fun u w1 w2 e ht=>by obtain ⟨σ',X,h2⟩:=e;exact ⟨σ',X.kpt ht.1 (fun _ o=>o) (fun k o=>(X.old k (V.mem o).2.1).trans (ae k o)),h2⟩) (fun t w1 E e=>?_) ?_
     .rw[e]
      refine P4 (R:=M7) (sz:=1) E.2.1 [S c.super] [c.super] rfl rfl (by simp;rfl) rfl ⟨⟨rfl,f5⟩,trivial⟩ fun u w2 σ2 ab hu=>?_
      have cf:Nxt (fun k=>x'.ownBlock=some k) w7 M w1 M:=⟨E.1,SLe.refl _,fun _ _=>rfl,E.2.1⟩;exact ⟨Tw.below ab.bel,σ2,cf.trans (Nxt.of_stp ab),hu⟩
     refine R3 (VQa w7.heap.size w.heap.size T.b 1 M7 M x' g c.super) (fun _ _ _ X ht=>X.stable ht) (fun u w1 E e=>?_) ?_
     .obtain ⟨σ',X,h2⟩:=e
      exact X7V V ap E.2.2 X h2 rfl Q5 Q5
     refine X9 lv (fun t w E e=>by rw[e];exact ld E.2.1 a2 rfl ⟨Tw.refl,rfl⟩) ?_
     rintro dg dj dh di cp dl w8 O _ _ _ _ ⟨b5,bh⟩ rfl
     have a3:cp.ownBlock≠some r:=by
      rcases bh with ⟨a,b3,e1,e2⟩ | ⟨e1,_⟩
      .rw[e2];rw[e1] at J;cases a<;>exact J
      .intro e;have:=e1 r e;omega
     refine Q66 O.2.1 (Nat.le_trans ap O.1.size) b5 (f1.up W) rfl (by rw[List.length_append,List.length_cons,List.length_nil];omega) (by rw[List.length_append,List.length_cons,List.length_nil];omega) fun b1 w9 a0 cj b6 bi=>?_
     have cn:b1.ownBlock≠some r:=by
      rcases bi with ⟨a,b3,e1,e2⟩ | ⟨_,e1⟩
      .rw[e2];rw[e1] at a3;cases a<;>exact a3
      .intro e;have:=e1 r e;have:=O.1.size;omega
     have cg:Nxt D w σ w9 M:=⟨(ak.kp.more O.1 fun j e=>(V.mem e).1).more a0 fun j e=>e.2.1,a6,ak.old,cj⟩;have ce:=(bo.kp O.1 J).kp a0 fun e=>a3 e.1
     have ca:=al _ w7 w9 bk fun k o=>by
      have X:=(hD k o).1;rw[a0.block k (by have:=O.1.size;omega) fun e=>by have:=e.2.1;omega,O.1.block k Q5 fun e=>by have:=(V.mem e).1;omega]
     have cy:(g++M6 c).length=g.length+1+c.like.length:=by simp[M6];omega
     have ct:(M6 c).length=c.like.length+1:=rfl
     have ax:Mk (lk l) (g.length+weigh l b) (g++M6 c) (b++[t])=Mk (lk l) ((g++M6 c).length+weigh l (b++[t])) (g++M6 c) (b++[t]):=by
      have:=X4K l ((g++M6 c).length+weigh l (b++[t])) (g++M6 c) (b++[t]) (Nat.le_refl _) (g.length+weigh l b-((g++M6 c).length+weigh l (b++[t])));rw[<-this];congr 1;omega
     refine bg ((g++M6 c).length+weigh l (b++[t])) b1 w9 Q5 ⟨g++M6 c,b++[t],(L s c).2,M,_,rfl,by omega,cg,?_,ce,bn,cn,ca,p.trans ax,i+1,?_⟩
     .have:g++M6 c=(g++[c.super])++c.like:=by simp[M6]
      rw[this];exact b6
     .rw[y,B,bq];simp)
end Go.Proofs.Y
namespace Go.Emb
open Go.RowKit Go.Hm
theorem Nxt.stp {w w':World} {σ a:Q2} (h:Nxt (fun _=>False) w σ w' a):Stp w σ w' a:=⟨h.kp.below fun _=>id,h.sat,h.le.le,h.old⟩
end Go.Emb
namespace Go.Hm
open Go.Kd Go.Emb
theorem Q7X {α:Type} (p:α->Bool): ∀(xs:List α) (i:Nat),(W5 (fun (_:Unit) x=>(p x,())) () xs i).1.isSome=xs.any p
 | [],_=>rfl
 | x::r,i=>by
  simp only[W5,List.any_cons];cases p x with
  | true=>simp
  | false=>simpa using Q7X p r (i+1)
theorem Q8P {l:List Cla} (n b:X2):((Dy l n).any fun c=>decide (c.name=b))=(Qq l n).contains b:=by
 have key: ∀vs:List X2,(∀x∈vs,∃c,lk l x=some c)->((vs.filterMap (lk l)).any fun c=>decide (c.name=b))=vs.contains b:=by
  intro vs
  induction vs with
  | nil=>intro _;rfl
  | cons x r f=>
   intro h;obtain ⟨c,a⟩:=h x U5;rw[List.filterMap_cons,a];simp only[List.any_cons,List.contains_cons];rw[f fun y e=>h y (by simp[e]),(O9 a).1]
   congr 1
   rw[Bool.eq_iff_iff,beq_iff_eq,decide_eq_true_eq];exact ⟨Eq.symm,Eq.symm⟩
 exact key _ fun x d=>(Mh.1 d).right
end Go.Hm
namespace Go.Proofs.Y
open Go.Emb Go.RowKit Go.Kd Go.Hm
variable {w : World} {K : Value -> World -> Prop} {σ : Q2} {v : Value} {l : List Cla}
theorem X1a {n:X2} {f:Value} (p:Cla->Bool) (hs:X7 w σ) (ht:Tab σ v l) (hl:l.length<=100000) (hsm: ∀c∈l,Zf c) (hn:n.length<=W6)
 (hf: ∀c cs (w1:World) (σ1:Q2) (K:Value->World->Prop),SLe σ σ1->X7 w1 σ1->M8 σ1 c cs->(∀w' σ',Stp w1 σ1 w' σ'->K (.bool (p c)) w')->U7 P f [.agg cs.toArray] w1 K)
 (h: ∀w' σ',Stp w σ w' σ'->K (.bool ((Dy l n).any p)) w'):Q0 P F.y [v,S n,f] w K:=by
 refine X1H (fun (_:Unit) c=>(p c,())) () (fun _ _=>True) (fun _=>False) hs ht hl hsm hn (fun _ e=>e.elim) (fun _ _ _ _ _=>trivial) trivial (fun s c cs w1 σ1 K le hs1 _ _ hr _ hK=>hf c cs w1 σ1 K le hs1 hr fun w' σ' hk=>hK w' (.of_below hk.bel) trivial) fun w' σ' hn _=>?_;rw[Q7X];exact h w' σ' hn.stp
theorem X4O {n b:X2} {q:Addr} (hs:X7 w σ) (ht:Tab σ v l) (ok:Ok l) (hn:n.length<=W6) (hq:J7 σ q [S b]) (h: ∀w' σ',Stp w σ w' σ'->K (.bool ((Qq l n).contains b)) w'):
 Q0 P F.y [v,S n, .func (.func F.br) #[] #[.pointer (some q)]] w K:=by
 refine X1a (fun c=>decide (c.name=b)) hs ht ok.len ok.sm hn (fun c cs w1 σ1 K le hs1 hr hK=>U3 (Q12 ?_)) (by rw[Q8P];exact h)
 obtain ⟨lv,fv,mv,rfl,_⟩:=hr;unfold Eh Y1 X5;have hq1:=hq.lift le;refine Z4 hs1 fun a w2 σ2 hk2 ha2=>?_
 (repeat' (first | (with_reducible intro _) | (with_reducible refine M9 ?_) | (simp only[↓M2,M2,Mb,reduceIte]) | (with_reducible first | refine ld aS aL aR ?_ | refine Y6 aS aL aR ?_ | refine Y7 aS aL aR ?_ | refine Q7 aL ?_ | refine W2 aR ?_ | refine Z4 aS ?_ | refine S1 aS aL ?_ | refine L8 aS aR ?_ | refine J6 aS aR aR (Rep.one Q9) ?_ | refine L1 aS aR aR aR ?_ | (refine V4 (fun hh=>?_) (fun hh=>?_)<;>(try simp only[hh,Bool.not_true,Bool.not_false,↓M2,M2,Mb,reduceIte])) | (refine Q4 (fun hh=>?_) (fun hh=>?_)<;>(try simp only[hh,Bool.not_true,Bool.not_false,↓M2,M2,Mb,reduceIte])))))
 exact hK _ _ hk2
theorem X8H {a b:X2} (E:X7 w σ) (u:Tab σ v l) (ok:Ok l) (s:a.length<=W6) (D:b.length<=W6) (h: ∀w' H,Stp w σ w' H->K (.bool (Vd l a b)) w'):Q0 P F.bU [v,S a,S b] w K:=Q3q (by
 unfold Ct X6 V5 X5;unfold Vd at h;refine L8 E rfl fun q w1 σ1 k C=>?_;refine Q5z k.sat (u.lift ⟨k.le⟩) s fun J O d=>?_;have i:=k.trans d;cases y:H8 l a with
 | false=>
  simp only[y,↓M2,M2,Mb,reduceIte,Bool.not_false,Bool.true_or,if_true] at h⊢;exact h _ _ i
 | true=>
  simp only[y,↓M2,M2,Mb,reduceIte,Bool.not_true,Bool.false_or] at h⊢;refine Y6 d.sat (C.up d) rfl ?_;refine Q5z d.sat (u.lift ⟨i.le⟩) D fun L Q e=>?_;have c:=i.trans e;cases z:H8 l b with
  | false=>
   simp only[z,↓M2,M2,Mb,reduceIte,Bool.not_false,if_true] at h⊢;exact h _ _ c
  | true=>
   simp only[z,↓M2,M2,Mb,reduceIte,Bool.not_true,Bool.false_eq_true,if_false] at h⊢;have m:=(C.up d).up e;refine Y6 e.sat m rfl ?_;refine Qu ?_
   by_cases f:a=b
   .rw[if_pos f] at h
    simp only[decide_eq_true f,↓M2,M2,Mb,reduceIte];exact h _ _ c
   rw[if_neg f] at h;simp only[decide_eq_false f,↓M2,M2,Mb,reduceIte];refine Gl a ?_;cases A:plain a with
   | true=>
    simp only[A,↓M2,M2,Mb,reduceIte,Bool.true_or,if_true] at h⊢;exact h _ _ c
   | false=>
    simp only[A,↓M2,M2,Mb,reduceIte,Bool.false_or] at h⊢;refine Y6 e.sat m rfl ?_;refine Gl b ?_;cases B:plain b with
    | true=>
     simp only[B,↓M2,M2,Mb,reduceIte,if_true] at h⊢;exact h _ _ c
    | false=>
     simp only[B,↓M2,M2,Mb,reduceIte,Bool.false_eq_true,if_false] at h⊢
     by_cases p:a=G4
     .rw[if_pos p] at h
      have r:decide (a=[110,117,108,108])=true:=decide_eq_true p;simp only[r,↓M2,M2,Mb,reduceIte];exact h _ _ c
     rw[if_neg p] at h;have r:decide (a=[110,117,108,108])=false:=decide_eq_false p;simp only[r,↓M2,M2,Mb,reduceIte];refine Q9h a (Nat.le_trans s W3) (H1 e.sat fun M R g=>?_);have j:=c.trans g;have n:=m.up g;refine Jn ?_
     by_cases o:elem a=[]
     .rw[if_neg (by simpa using o)] at h
      simp only[decide_eq_true o,↓M2,M2,Mb,reduceIte];exact X4O g.sat (u.lift ⟨j.le⟩) ok s n fun N U t=>h _ _ (j.trans t)
     .rw[if_pos o] at h
      simp only[decide_eq_false o,↓M2,M2,Mb,reduceIte];refine Y6 g.sat n rfl ?_;refine Qu ?_;exact h _ _ j)
theorem X6v {c:Cla} {cs:List Value} (hs:X7 w σ) (ht:Tab σ v l) (hl:l.length<=100000) (hsm: ∀c∈l,Zf c) (hc:M8 σ c cs) (h: ∀w' σ',Stp w σ w' σ'->K (.bool (Yb l c)) w'):Q0 P F.bs [v, .agg cs.toArray] w K:=Q15 (by
 obtain ⟨lv,fv,mv,rfl,g1,g2,g3,g4,g5⟩:=hc;unfold Ek Z8 Y1 X6;obtain ⟨a,_,_,_,rfl,_⟩:=ht.ex;refine L8 hs rfl fun q w1 σ1 hk1 hq=>?_;refine Z4 hk1.sat fun q2 w2 σ2 hk2 hq2=>?_;rw[Zc,fa];have hS2:=hk1.trans hk2
 have back: ∀{n:X2} {w3:World} {σ3:Q2} {K:Value->World->Prop},SLe σ2 σ3->X7 w3 σ3->n.length<=W6->(∀w' σ',Stp w3 σ3 w' σ'->K (.bool ((Qq l n).contains c.name)) w')->
  U7 P (.func (.func F.ba) #[] #[.pointer (some q), .pointer (some q2)]) [S n] w3 K:=by
  intro n w3 σ3 K le hs3 hn hK;refine U3 (Tl ?_);unfold Np;refine Y6 hs3 ((hq.up hk2).lift le) rfl ?_;rw[Zc];have le3:SLe σ σ3:=SLe.more ⟨hS2.le⟩ le;refine X1a (fun d=>decide (d.name=c.name)) hs3 (ht.lift le3) hl hsm hn (fun d ds w4 σ4 K le4 hs4 hr hK=>U3 (Iw ?_)) (by rw[Q8P];exact hK)
  obtain ⟨lv,fv,mv,rfl,_⟩:=hr;unfold Lb Y1 X5;have hq4:=(hq2.lift le).lift le4;refine Z4 hs4 fun a w5 σ5 hk5 ha5=>?_
  (repeat' (first | (with_reducible intro _) | (with_reducible refine M9 ?_) | (simp only[↓M2,M2,Mb,reduceIte]) | (with_reducible first | refine ld aS aL aR ?_ | refine Y6 aS aL aR ?_ | refine Y7 aS aL aR ?_ | refine Q7 aL ?_ | refine W2 aR ?_ | refine Z4 aS ?_ | refine S1 aS aL ?_ | refine L8 aS aR ?_ | refine J6 aS aR aR (Rep.one Q9) ?_ | refine L1 aS aR aR aR ?_ | (refine V4 (fun hh=>?_) (fun hh=>?_)<;>(try simp only[hh,Bool.not_true,Bool.not_false,↓M2,M2,Mb,reduceIte])) | (refine Q4 (fun hh=>?_) (fun hh=>?_)<;>(try simp only[hh,Bool.not_true,Bool.not_false,↓M2,M2,Mb,reduceIte])))))
  exact hK _ _ hk5
 refine ld hk2.sat hq2 rfl ?_;unfold Yb at h;simp only[M6,List.any_cons] at h;refine back (SLe.refl _) hk2.sat g5 fun w3 σ3 hk3=>?_;cases e1:(Qq l c.super).contains c.name with
 | true=>
  rw[e1] at h;simp only[↓M2,M2,Mb,reduceIte];exact h _ _ (hS2.trans hk3)
 | false=>
  rw[e1,Bool.false_or] at h;simp only[↓M2,M2,Mb,reduceIte];refine ld hk3.sat (hq2.up hk3) rfl ?_;refine Xr (fun n=>(Qq l n).contains c.name) hk3.sat (((g1.up hk1).up hk2).up hk3) (fun x w4 K _ hs4 hx hK=>back ⟨hk3.le⟩ hs4 hx fun w' σ' hk=>hK _ hk.bel) fun w4 hb=>?_
  (try simp only[↓M2,M2,Mb,reduceIte])
  exact h _ _ ((hS2.trans hk3).trans (Stp.of_below hk3.sat hb)))
end Go.Proofs.Y
namespace Go.Emb
open Go.RowKit Go.Hm
variable {P : Program} {w : World} {K : Value -> World -> Prop} {σ σ' : Q2}
theorem Sl.at {α:Type} {R:Q2->α->List Value->Prop} {sz:Nat} {v:Value} {xs:List α} (h:Sl sz R σ v xs) {i:Nat} (o:i<xs.length):
 ∃p cs,J7 σ p cs/\cs.length=sz/\R σ xs[i] cs/\ ∀{P:Program} {t e:TypeId} {c:Nat} {z:Value} {w:World} {K:Value->World->Prop} [TS P t e] [TZ P e sz c z],K (.pointer (some p)) w->indexAddr P t v (I i) w K:=by
 obtain ⟨a,d,rfl,q,r,k,m⟩:=h;cases a with
 | none=>have:=k rfl;omega
 | some b=>
  obtain ⟨cs,f,g,j⟩:=(m b rfl).2 i xs[i] (by simp[o])
  refine ⟨_,cs,f,g,j,?_⟩;intro P t e c z w K _ _ n;rw[Ih Q5 Q5]
  simpa using n
abbrev ints (xs:List Nat):List Int:=xs.map fun n:Nat=>(n:Int)
theorem W7.grow {α:Type} {R:Q2->α->List Value->Prop} [hr:Rep R] {B sz:Nat} {e:TypeId} {v:Value} {xs:List α} (h:W7 B e sz R σ w v xs) (f:SLe σ σ') (c: ∀k,v.ownBlock=some k->σ' k=none):W7 B e sz R σ' w v xs:=by
 obtain ⟨cells,a,g,b⟩:=h;exact ⟨cells,a,c,fun i x d=>hr.up f.le (b i x d)⟩
end Go.Emb
namespace Go.Proofs.Y
open Go.Emb Go.RowKit Go.Kd Go.Hm
variable {w : World} {K : Value -> World -> Prop} {σ : Q2} {v : Value} {l : List Cla}
theorem X0l {B i:Nat} {xs:List Nat} {x:Value} (o:V6 B T.f 1 H6 σ w x (ints xs)) (h:K (.bool (decide (i∈xs))) w):Q0 P F.a0 [x,I i] w K:=Uh (by
 unfold Xn X4
 have j:xs.length<=9223372036854775807:=by
  obtain ⟨a,r,_,m,p,_⟩:=o;simp only[maxLen,ints,List.length_map] at p m;omega
 refine Lv ?_;unfold Yp V1 V3 Y0 X5;refine Fx o ?_;have g:(ints xs).length=xs.length:=by simp
 refine V7 xs.length (fun n w'=>w'=w/\i∉xs.take n) ⟨rfl,by simp⟩ fun n w' d u f=>?_
 obtain ⟨rfl,f⟩:=f;rw[g];refine J0 ?_;refine Q4 (fun hh=>?_) (fun hh=>?_)
 .have b:n<xs.length:=by simpa using hh
  refine Q9B o (by rw[g];exact b) fun a cs m p t=>?_
  obtain ⟨rfl,_⟩:=t;have q:=m 0 _ rfl;rw[add_zero] at q;refine Zb q ?_;simp only[List.getElem_map];refine B1 ?_;refine Q4 (fun c=>?_) (fun c=>?_)
  .have e:(i:Int)=xs[n]:=by simpa using c
   have:i=xs[n]:=by omega
   have k:decide (i∈xs)=true:=decide_eq_true (by rw[this];exact List.getElem_mem b)
   rw[k] at h;refine A0 ?_;rw[decide_eq_true (by omega:(0:Int)<=n)]
   exact h
  .have e: ¬(i:Int)=xs[n]:=by simpa using c
   refine R5 ?_;refine Z5 j b ⟨rfl,?_⟩;rw[List.take_add_one,List.getElem?_eq_getElem b];simp only[Option.toList_some,List.mem_append,List.mem_singleton,not_or];exact ⟨f,fun s=>e (by rw[s])⟩
 .have b: ¬n<xs.length:=by simpa using hh
  rw[List.take_of_length_le Q5] at f;rw[decide_eq_false f] at h;refine A0 ?_;exact h)
theorem X7O {w0:World} {σ0 σb:Q2} {pf pt pw:Addr} {A frm:Nat} (ha:Vw l) (ho:Yg l) (hl:l.length<=100000) (b1: ∀c∈l,Zf c) (hf:0<frm) (ht:Tab σb v l) (a3:J7 σb pf [I frm]) (bz:J7 σb pt [v])
 (b0:J7 σb pw [.func (.func F.a1) #[] #[.pointer (some pf), .pointer (some ⟨A,0,none⟩), .pointer (some pt), .pointer (some pw)]]) (bn:w0.heap.size<=A):
 ∀(k:Nat) {i:Nat} {out:List Nat} {x:Value} {w1:World} {σ1:Q2} {K:Value->World->Prop},i<l.length->(i<frm\/Xx l (J1 l i)<k)->SLe σb σ1->Stp w0 σ0 w1 σ1->Y8 σ1 w1 A [x]->W7 w0.heap.size T.f 1 H6 σ1 w1 x (ints out)->x.ownBlock≠some A->Few l out->
  (∀w2 σ2 x',SLe σ1 σ2->Stp w0 σ0 w2 σ2->Y8 σ2 w2 A [x']->W7 w0.heap.size T.f 1 H6 σ2 w2 x' (ints (Ua l frm out i))->x'.ownBlock≠some A->K (.tuple #[]) w2)->
  U7 P (.func (.func F.a1) #[] #[.pointer (some pf), .pointer (some ⟨A,0,none⟩), .pointer (some pt), .pointer (some pw)]) [I i] w1 K:=by
 obtain ⟨a,lv,r,m,rfl,t1,t2,t3,t4⟩:=ht.ex;intro k
 induction k with
 | zero=>
  intro i out x w1 σ1 K hi hk X N hm f hx Y h;have z:i<frm:=hk.resolve_right Q5;refine U3 (Nx ?_);unfold Zw;simp only[Y3,X3];unfold V1 V3 X6 Y0 X5;refine Y6 N.sat (a3.lift X) rfl ?_;refine J0 ?_;rw[decide_eq_true (by omega:(i:Int)<frm)]
  simp only[↓M2,M2,Mb,reduceIte];have:Ua l frm out i=out:=Uw _ _ z;rw[this] at h;exact h _ _ _ (SLe.refl _) N hm f hx
 | succ k ih=>
  intro i out x w1 σ1 K hi hk X N hm f hx Y h;refine U3 (Nx ?_);unfold Zw;simp only[Y3,X3];unfold V1 V3 X6 Y0 X5;refine Y6 N.sat (a3.lift X) rfl ?_;refine J0 ?_;have y:=X1B ha ho hf out hi
  by_cases z:i<frm
  .rw[decide_eq_true (by omega:(i:Int)<frm)]
   simp only[↓M2,M2,Mb,reduceIte];rw[if_pos z] at y;rw[y] at h;exact h _ _ _ (SLe.refl _) N hm f hx
  rw[if_neg z] at y;rw[decide_eq_false (by omega: ¬(i:Int)<frm)]
  simp only[↓M2,M2,Mb,reduceIte];refine Ou hm rfl ?_;refine X0l (V6.of_acc f) ?_
  by_cases U:i∈out
  .rw[if_pos U] at y
   rw[y] at h;simp only[decide_eq_true U,↓M2,M2,Mb,reduceIte];exact h _ _ _ (SLe.refl _) N hm f hx
  rw[if_neg U] at y;simp only[decide_eq_false U,↓M2,M2,Mb,reduceIte];have ct:Xx l (J1 l i)<k+1:=hk.resolve_left z;have t1:=t1.lift X;have t2:=t2.lift X;have t3:=t3.lift X;have M:=bz.lift X;obtain ⟨p,cs,a1,cp,bx,a2⟩:=t2.at hi;obtain ⟨b6,fv,mv,rfl,f1,f2,f3,f4,f5⟩:=bx;have ap:l.getD i Cla.zero=l[i]:=by rw[List.getD_eq_getElem?_getD,List.getElem?_eq_getElem hi];rfl
  have cm:=hm.lt;refine U8 N.sat ?_;refine X9 (.pointer (some a)) (fun w b=>Y6 b.sat M rfl (Y5 rfl)) ?_;refine X9 (.pointer (some a)) (fun t w b e=>by rw[e,H7];exact Y5 rfl) ?_
  refine X9 (.pointer (some (a.add 0))) (fun t w b e=>by rw[e,fa];exact Y5 rfl) ?_
  refine X9 lv (fun t w b e=>by rw[e];exact ld b.sat t1 rfl (Y5 rfl)) ?_
  refine X9 (.pointer (some p)) (fun t w b e=>by rw[e];exact a2 (Y5 rfl)) ?_
  refine X9 (.pointer (some (p.add 1))) (fun t w b e=>by rw[e,fa];exact Y5 rfl) ?_
  refine X9 (S l[i].super) (fun t w b e=>by rw[e];exact ld b.sat a1 rfl (Y5 rfl)) ?_
  refine R3 (fun u w=>X7 w σ1/\W7 w0.heap.size T.b 1 M7 σ1 w u [l[i].super]/\ ∀k,u.ownBlock=some k->w1.heap.size<=k) (fun u w2 w3 h b=>⟨h.1.below b,h.2.1.up (Stp.of_below h.1 b),h.2.2⟩) (fun t w b e=>?_) ?_
  .rw[e]
   refine Zh (R:=M7) (sz:=1) (xs:=[l[i].super]) (N.trans b.stp) [S l[i].super] rfl rfl (by simp;rfl) rfl ⟨⟨rfl,f5⟩,trivial⟩ fun u w2 aw hu bw=>?_
   exact ⟨aw.bel,aw.sat,hu,fun k hk=>Nat.le_trans b.stp.bel.size (bw k hk)⟩
  refine X9 (.pointer (some a)) (fun w b=>Y6 b.sat M rfl (Y5 rfl)) ?_;refine X9 (.pointer (some a)) (fun t w b e=>by rw[e,H7];exact Y5 rfl) ?_
  refine X9 (.pointer (some (a.add 0))) (fun t w b e=>by rw[e,fa];exact Y5 rfl) ?_
  refine X9 lv (fun t w b e=>by rw[e];exact ld b.sat t1 rfl (Y5 rfl)) ?_
  refine X9 (.pointer (some p)) (fun t w b e=>by rw[e];exact a2 (Y5 rfl)) ?_
  refine X9 (.pointer (some (p.add 2))) (fun t w b e=>by rw[e,fa];exact Y5 rfl) ?_
  refine X9 b6 (fun t w b e=>by rw[e];exact ld b.sat a1 rfl (Y5 rfl)) ?_
  rintro cy cz c0 c1 c2 c3 c4 c5 c6 c7 c8 c9 da db dc w2 Q _ _ _ _ _ _ _ ⟨cu,b2,L⟩ _ _ _ _ _ _ bf;subst bf;have bg:=N.trans Q.stp;have bp:=(b1 _ (List.getElem_mem hi)).1;have a8: ∀j,x.ownBlock=some j->j<w1.heap.size:=fun j C=>(f.mem j C).2.1;have bq:=hm.step Q.stp;have ab:=f.step Q.stp;refine Jm bg b2 f1 rfl (by simp only[List.length_cons,List.length_nil];omega) (by simp only[List.length_cons,List.length_nil];omega) fun bc w3 az bh b3 aq=>?_
  have Z: ∀j,bc.ownBlock=some j->w1.heap.size<=j:=fun j C=>by
   rcases aq with e | e
   .exact L j (e▸C)
   .exact Nat.le_trans Q.stp.bel.size (e j C)
  have ax:=bq.nx az fun e=>by have:=L _ e;omega
  have E:=ab.nx az fun j C e=>by have:=L _ e;have:=a8 j C;omega
  obtain ⟨σ4,bi,W,ba,aa⟩:=b3.keep bh;have W:Sl 1 M7 σ4 bc (M6 l[i]):=W;have br:Y8 σ4 w3 A [x]:=⟨(aa A fun e=>by have:=Z A e.symm;omega).trans ax.1,ax.2⟩
  have ac:W7 w0.heap.size T.f 1 H6 σ4 w3 x (ints out):=E.grow ⟨ba⟩ fun j C=>(aa j fun e=>by have:=Z j e.symm;have:=a8 j C;omega).trans (E.mem j C).2.2
  have a9:SLe σ1 σ4:=⟨ba⟩;refine Q7 W ?_
  refine V7 (M6 l[i]).length (fun n w'=> ∃σ' x',SLe σ4 σ'/\Stp w0 σ0 w' σ'/\Y8 σ' w' A [x']/\W7 w0.heap.size T.f 1 H6 σ' w' x' (ints (((M6 l[i]).take n).foldl (fun out u=>Ua l frm out ((U1 l u).getD 0)) out))/\x'.ownBlock≠some A/\Few l (((M6 l[i]).take n).foldl (fun out u=>Ua l frm out ((U1 l u).getD 0)) out))
   ⟨σ4,x,SLe.refl _,bi,br,ac,hx,Y⟩ fun n w5 d hn av=>?_
  obtain ⟨σ5,x5,aj,O,V,B,ai,o⟩:=av;refine J0 ?_;have s:=a9.more aj;refine Q4 (fun hh=>?_) (fun hh=>?_)
  .have J:n<(M6 l[i]).length:=by simpa using hh
   refine Q9e (W.lift aj) J fun q hq cr=>?_;refine Y6 O.sat hq rfl ?_
   have e1:((M6 l[i]).take (n+1)).foldl (fun out u=>Ua l frm out ((U1 l u).getD 0)) out=Ua l frm (((M6 l[i]).take n).foldl (fun out u=>Ua l frm out ((U1 l u).getD 0)) out) ((U1 l (M6 l[i])[n]).getD 0):=by
    rw[List.take_add_one,List.getElem?_eq_getElem J,List.foldl_append];rfl
   refine U8 O.sat ?_;refine X9 _ (fun w b=>Y6 b.sat (b0.lift (X.more s)) rfl (Y5 rfl)) ?_;refine X9 (.pointer (some a)) (fun w b=>Y6 b.sat (M.lift s) rfl (Y5 rfl)) ?_;refine X9 (.pointer (some a)) (fun t w b e=>by rw[e,H7];exact Y5 rfl) ?_
   refine X9 (.pointer (some (a.add 1))) (fun t w b e=>by rw[e,fa];exact Y5 rfl) ?_
   refine X9 (.map (some r)) (fun t w b e=>by rw[e];exact ld b.sat (t1.lift s) rfl (Y5 rfl)) ?_
   refine X9 (I ((U1 l (M6 l[i])[n]).getD 0:Nat)) (fun t w b e=>by
    rw[e,Q7I Z2 ((t3.lift s).is b.sat) _,t4];cases U1 l (M6 l[i])[n]<;>exact Y5 rfl) ?_
   rintro dd df dg dh di dj w6 af rfl _ _ _ _ rfl;have co:l.length<=9223372036854775807:=by omega
   refine ih ?_ ?_ (X.more s) (O.trans af.stp) (V.step af.stp) (B.step af.stp) ai o fun w7 σ7 x7 b5 bj bs ad b4=>?_
   .cases C:U1 l (M6 l[i])[n] with
    | none=>simp only[Option.getD_none];omega
    | some j=>exact (I8 C).1
   .cases C:U1 l (M6 l[i])[n] with
    | none=>exact .inl hf
    | some j=>
     right;have:=Q4g ha ho hi (u:=(M6 l[i])[n]) (by rw[ap];exact List.getElem_mem J) C
     simp only[Option.getD_some];omega
   .refine R5 ?_
    refine Z5 (by have:(M6 l[i]).length=l[i].like.length+1:=rfl;omega) J ⟨σ7,x7,aj.more b5,bj,bs,?_,b4,?_⟩
    .rw[e1];exact ad
    .rw[e1]
     cases C:U1 l (M6 l[i])[n] with
     | none=>simp only[Option.getD_none];rw[show Ua l frm _ 0=_ from Uw _ _ hf];exact o
     | some j=>exact Q0Z ha ho hf _ _ _ (I8 C).1 o
  .have J: ¬n<(M6 l[i]).length:=by simpa using hh
   rw[List.take_of_length_le Q5] at B o;rw[ap] at y;refine Ou V rfl ?_;have cn:=o.len;refine Lz (x:=(i:Int)) O B ⟨rfl,by omega,by omega⟩ rfl rfl rfl (by rw[List.length_map];omega) (by rw[List.length_map];omega) fun u x8 w8 σ8 a0 bk H ar=>?_
   have ay:=V.nx a0 ai
   have a6:x8.ownBlock≠some A:=fun e=>by
    rcases ar with e2 | e2
    .exact ai (e2▸e)
    .have:=e2 A e;have:=V.lt;omega
   have a7:x8.cells= #[x8]/\x8.oneCell'=true:=by
    obtain ⟨cells,h1,_⟩:=H
    rcases h1.2 with ⟨rfl,_⟩ | ⟨g,ch,ci,rfl,_⟩<;>exact ⟨rfl,rfl⟩
   refine st0 ay U5 a7.1 a7.2 fun w9 a4 bu=>?_;have bl:=a4.stp bk bn ay.1
   have ae:W7 w0.heap.size T.f 1 H6 σ8 w9 x8 (ints (Ua l frm out i)):=by
    rw[y];have:=H.kp (Kpt.of_upd (D:=fun k=>k=A) a4 rfl) fun k hk e=>a6 (e▸hk)
    simpa [ints] using this
   exact h w9 σ8 x8 (s.more a0.le) bl bu ae a6
theorem X6w {frm:Nat} (hs:X7 w σ) (ht:Tab σ v l) (ha:Vw l) (ho:Yg l) (hl:l.length<=100000) (ai: ∀c∈l,Zf c) (hf:0<frm) (ac:frm<=l.length) (h: ∀v' w' σ',Stp w σ w' σ'->Sl 1 H6 σ' v' (ints (O6 l frm))->(O6 l frm).length<=l.length->(∀y∈O6 l frm,y<l.length)->K v' w'):Q0 P F.bt [v,I frm] w K:=Q16 (by
 unfold El Y1 V3 Y0 X5;have aj:=ht;obtain ⟨a,lv,r,m,rfl,t1,t2,t3,t4⟩:=ht.ex;refine L8 hs rfl fun pt w1 σ1 q ah=>?_;refine L8 q.sat rfl fun pf w2 σ2 k ag=>?_;refine D3 k.sat fun B w3 σ3 aa n M=>?_;refine D3 n.sat fun X w4 σ4 ab s O=>?_;rw[Zc];have N:=M.step s;have ax:=M.lt;have H:=((q.trans k).trans n).trans s;have L:w.heap.size<=B:=C6 aa (q.trans k);have t:w.heap.size<=X:=C6 ab ((q.trans k).trans n);refine st0 O (by simp[Value.cells]) rfl rfl fun w5 R ad=>?_
 have Y:=R.stp H t O.1;have u:=N.upd R Q5;obtain ⟨E,J,U,o,V⟩:=ad.keep Y t;have ae:Y8 E w5 B [.slice none 0 0]:=⟨(V B Q5).trans u.1,u.2⟩;have o:SLe σ4 E:=⟨o⟩;have z:=((ag.up n).up s).lift o;have A:=(((ah.up k).up n).up s).lift o;have e:SLe σ E:=SLe.more ⟨H.le⟩ o;have t1:=t1.lift e;have t2:=t2.lift e;refine Y6 J.sat z rfl ?_;have a7:(List.range l.length).length=l.length:=List.length_range;have hz:([Value.nilFunc].set 0 (Value.func (Fn.func F.a1) #[] #[.pointer (some pf), .pointer (some ⟨B,0,none⟩), .pointer (some pt), .pointer (some ⟨X,0,none⟩)]))=[Value.func (Fn.func F.a1) #[] #[.pointer (some pf), .pointer (some ⟨B,0,none⟩), .pointer (some pt), .pointer (some ⟨X,0,none⟩)]]:=rfl
 refine Q0y (fun d x w'=> ∃(i:Nat) (σ':Q2) (x':Value),x=I i/\frm<=i/\i<=l.length/\d=l.length-i/\SLe E σ'/\Stp w σ w' σ'/\Y8 σ' w' B [x']/\W7 w.heap.size T.f 1 H6 σ' w' x' (ints (((List.range i).drop frm).foldl (fun out i=>Ua l frm out i) []))/\x'.ownBlock≠some B/\Few l (((List.range i).drop frm).foldl (fun out i=>Ua l frm out i) [])) _
  ⟨frm,E, .slice none 0 0,rfl,Nat.le_refl _,ac,rfl,SLe.refl _,J,ae,by rw[List.drop_eq_nil_of_le U5];exact W7.nil,by simp[Value.ownBlock],by rw[List.drop_eq_nil_of_le U5];exact ⟨by simp,by simp⟩⟩ ?_
 rintro W d x dd w7 ⟨i,σ7,x7,rfl,a4,a5,rfl,f,g,Q,j,al,b⟩ Z;refine Y6 g.sat (A.lift f) rfl ?_;rw[H7,fa];refine ld g.sat (t1.lift f) rfl ?_;refine Q7 (t2.lift f) ?_;refine J0 ?_;refine Q4 (fun hh=>?_) (fun hh=>?_)
 .have p:i<l.length:=by simpa using hh
  refine Y6 g.sat (U.lift f) rfl ?_;refine X7O (w0:=w) (σ0:=σ) (σb:=E) ha ho hl ai hf (aj.lift e) z A U L (Xx l (J1 l i)+1) p (.inr (Nat.lt_succ_self _)) f g Q j al b fun w8 σ8 x8 an C af D am=>?_;refine Zd ⟨by omega,by omega⟩ ?_
  have e1:((List.range (i+1)).drop frm).foldl (fun out i=>Ua l frm out i) []=Ua l frm (((List.range i).drop frm).foldl (fun out i=>Ua l frm out i) []) i:=by
   rw[List.range_succ,List.drop_append_of_le_length (by simp;omega),List.foldl_append];rfl
  refine Z _ _ _ (by omega:l.length-(i+1)<l.length-i) ⟨i+1,σ8,x8,by simp,by omega,by omega,rfl,f.more an,C,af,?_,am,?_⟩
  .rw[e1];exact D
  .rw[e1];exact Q0Z ha ho hf _ _ _ p b
 .have p:i=l.length:=by
   have: ¬i<l.length:=by simpa using hh
   omega
  subst p;refine Ou Q rfl ?_;obtain ⟨σ8,C,ak,_,_⟩:=j.keep g;exact h _ _ _ C ak b.len b.2)
end Go.Proofs.Y
namespace Go.Hm
open Go.Kd
theorem X0r (x:X2) (r:List X2):F9 (x::r)=x++Lib.joinTail [44] r:=by
 induction r generalizing x with
 | nil=>simp[F9,Lib.joinTail]
 | cons y r a=>
  simp only[F9];rw[a y]
  simp[Lib.joinTail]
theorem Q4F (xs:List X2):Lib.join xs [44]=F9 xs:=by
 cases xs with
 | nil=>rfl
 | cons x r=>rw[Lib.join_cons,X0r]
theorem Fl: ∀xs:List X2,(∀x∈xs,x.length<=100)->(F9 xs).length<=xs.length*101
 | [],_=>by simp[F9]
 | [a],h=>by have:=h a (by simp);simp[F9];omega
 | a::b::r,h=>by
  have d:=h a (by simp)
  have e:=Fl (b::r) fun x c=>h x (by simp[c])
  simp only[F9,List.length_append,List.length_cons,List.length_nil,Nat.add_mul] at*;omega
def NmM (m:Hm.Met):Prop:=m.result.length<=100/\ ∀p∈m.params,p.length<=100
end Go.Hm
namespace Go.Proofs.Y
open Go.Emb Go.RowKit Go.Kd Go.Hm
variable {w : World} {K : Value -> World -> Prop} {σ : Q2} {v : Value}
theorem X6q {xs:List X2} {pv:Value} (L:X7 w σ) (M:Sl 1 M7 σ pv xs) (J:xs.length<=1000000) (N: ∀x∈xs,x.length<=100) (h: ∀w',Below w.heap.size w w'->K (S (F9 xs)) w'):Q0 P F.d1 [pv,S [44]] w K:=by
 obtain ⟨a,g,rfl,C,R,D,E⟩:=M;have q:=Fl xs N;have z:xs.length*101<=1000000*101:=Nat.mul_le_mul_right _ J;cases a with
 | none=>
  have Q:=D rfl;have d:xs=[]:=List.eq_nil_of_length_eq_zero Q5;subst d;refine On (fn:=Tryz.f163) Tryz.func163 X8 X8 (Calls.mono (Tryz.strings_Join_none none g ⟨[44].toArray⟩ w) ?_);rintro e w' ⟨rfl,rfl⟩;exact h _ (Below.refl _ _)
 | some b=>
  obtain ⟨f,t⟩:=E b rfl
  by_cases d:xs=[]
  .subst d
   refine On (fn:=Tryz.f163) Tryz.func163 X8 X8 (Calls.mono (Tryz.strings_Join_none (some b) g ⟨[44].toArray⟩ w) ?_);rintro e w' ⟨rfl,rfl⟩;exact h _ (Below.refl _ _)
  have f:=f (List.length_pos_iff.2 d);obtain ⟨m,o,U⟩:=b;simp only at f;subst f
  have c: ∀(j:Nat) (x:ByteArray),(xs.map fun s=>(⟨s.toArray⟩:ByteArray))[j]? =some x->w.cell? ⟨m,o+j,none⟩=some (.string x):=by
   intro j x n;rw[List.getElem?_map] at n;cases k:xs[j]? with
   | none=>rw[k] at n;cases n
   | some s=>
    rw[k] at n;cases n;obtain ⟨cs,A,O,B⟩:=t j s k;obtain ⟨rfl,_⟩:=B;have:=A.cell L (i:=0) (v:=S s) rfl;rw[add_zero] at this;have e:(⟨m,o,none⟩:Addr).add (j*1)=⟨m,o+j,none⟩:=by unfold Addr.add;split<;>simp_all
    rw[e] at this;exact this
  have p:m<w.heap.size:=by
   obtain ⟨x,r,rfl⟩: ∃x r,xs=x::r:=by cases xs with | nil=>exact absurd rfl d | cons x r=>exact ⟨x,r,rfl⟩
   have:=c 0 ⟨x.toArray⟩ U5;exact World.block_lt_of_cell? _ _ this
  have y:(xs.map fun s=>(⟨s.toArray⟩:ByteArray)).map (·.data.toList)=xs:=by rw[List.map_map];simp[Function.comp_def]
  have u:=Tryz.strings_Join m o g (xs.map fun s=>(⟨s.toArray⟩:ByteArray)) ⟨[44].toArray⟩ w c p (by rw[List.length_map];omega) (by rw[List.length_map];exact C) (by rw[y];show (Lib.join xs [44]).length<=_;rw[Q4F];omega)
  rw[y,List.length_map] at u;refine On (fn:=Tryz.f163) Tryz.func163 X8 X8 (Calls.mono u ?_);rintro e w' ⟨rfl,H⟩;have:=h w' H;rw[<-Q4F] at this;exact this
theorem X3h {m:Hm.Met} {cs:List Value} (q:X7 w σ) (p:F5 σ m cs) (d:SmM m) (i:NmM m) (h: ∀w' r,Stp w σ w' r->K (S (Zz m)) w'):Q0 P F.cm [.agg cs.toArray] w K:=Q9C (by
 obtain ⟨pv,s,C,rfl,n,u,y,z,A,B⟩:=p;unfold Q2R;simp only[Y3,X3];unfold V5 X5;refine Z4 q fun a w1 σ1 c j=>?_;have o:=Fl m.params i.2;have k:m.params.length*101<=1000000*101:=Nat.mul_le_mul_right _ d.1;refine U8 c.sat ?_;refine X9 (.pointer (some (a.add 1))) (fun w b=>by rw[fa];exact Y5 rfl) ?_
 refine X9 (.pointer (some (a.add 2))) (fun w b=>by rw[fa];exact Y5 rfl) ?_
 refine X9 pv (fun t w b e=>by rw[e];exact ld b.sat j rfl (Y5 rfl)) ?_
 refine X9 (S (F9 m.params)) (fun t w b e=>by rw[e];exact X6q b.sat (n.up c) d.1 i.2 fun w' f=>Q5E f rfl) ?_
 refine X9 (S ([40]++F9 m.params)) (fun t w b e=>by rw[e];exact Gi (by simp only[List.length_cons,List.length_nil];omega) (Y5 rfl)) ?_
 refine X9 (S ([40]++F9 m.params++[41])) (fun t w b e=>by rw[e];exact Gi (by simp only[List.length_append,List.length_cons,List.length_nil];omega) (Y5 rfl)) ?_
 refine X9 (S m.result) (fun t w b e=>by rw[e];exact ld b.sat j rfl (Y5 rfl)) ?_
 rintro D M E H J L N O g _ _ _ _ _ rfl rfl;have:=i.1;refine Gi (by simp only[List.length_append,List.length_cons,List.length_nil];omega) ?_
 exact h _ _ (c.trans g.stp))
end Go.Proofs.Y
namespace Go.Emb
open Go.RowKit Go.Hm
variable {P : Program} {w w' : World} {K : Value -> World -> Prop}
theorem Q0C {α:Type} (f:α->α) (e:α): ∀l:List α,(l++[e]).modify l.length f=l++[f e]
 | []=>rfl
 | x::r=>by simp[Q0C f e r]
theorem Q2Q (k:List UInt8) (e:MapEntry) (b:e.key=S k): ∀(a:List MapEntry) (i:Nat),Instr.findNow .string (S k) a i=some none->Instr.findNow .string (S k) (a++[e]) i=some (some (i+a.length,e.val))
 | [],i,_=>by
  simp[Instr.findNow,b,Instr.sameNow,Cj]
 | x::r,i,h=>by
  simp only[Instr.findNow,List.cons_append] at h⊢
  split at h
  .cases h
  .rename_i c
   rw[Q2Q k e b r (i+1) h]
   simp;omega
  .cases h
theorem Q4J (k:List UInt8) (u:Value): ∀(a:List MapEntry) (i j:Nat) (v:Value),Instr.findNow .string (S k) a i=some (some (j,v))->i<=j/\j-i<a.length/\Instr.findNow .string (S k) (a.modify (j-i) fun e=>{e with val:=u}) i=some (some (j,u))
 | [],i,j,v,h=>by simp[Instr.findNow] at h
 | x::r,i,j,v,h=>by
  simp only[Instr.findNow] at h
  split at h
  .rename_i b
   cases h;refine ⟨Nat.le_refl _,by simp,?_⟩
   simp only[Nat.sub_self,List.modify_zero_cons,Instr.findNow,b]
  .rename_i b
   obtain ⟨d,f,c⟩:=Q4J k u r (i+1) j v h;refine ⟨by omega,by simp;omega,?_⟩
   rw[show j-i=(j-(i+1))+1 by omega]
   simp only[List.modify_succ_cons,Instr.findNow,b];exact c
  .cases h
theorem Nf {t p q:TypeId} [tm:TM P t p q] (n:P.underlying p=some .string) {r:Nat} {b:Array MapEntry} {a:Nat} {k:List UInt8} {i:Nat} {v:Value} {e:MapEntry} (o:w.heap[r]? =some (.map b a))
 (s:Instr.findNow .string (S k) b.toList 0=some (some (i,v))) (m:b[i]? =some e) (d:e.key=S k):
 (Instr.mapEntry t (.map (some r)) (S k)).run P w= .ok (.tuple #[v,goInt e.born]) {w with heap:=w.heap.setIfInBounds r (.map b a)}:=by
 have u:(getObj r).run P w= .ok (.map b a) w:=by simp[getObj,Sem.run,o]
 have c:(Instr.keyThatStays (S k) (S k)).run P w= .ok (S k) w:=by
  simp[Instr.keyThatStays,Instr.sameBits,Cj]
 have g:(b.modify i fun e=>{e with key:=S k})=b:=by
  apply Array.ext';apply List.ext_getElem?;intro j;simp only[Array.toList_modify,List.getElem?_modify]
  by_cases f:i=j
  .subst f
   rw[Array.getElem?_toList,m]
   simp[<-d]
  .cases b.toList[j]? <;>simp[f]
 have l:(setObj r (.map b a)).run P w= .ok () {w with heap:=w.heap.setIfInBounds r (.map b a)}:=by
  simp[setObj,Sem.run,o]
 simp only[Instr.mapEntry,Sem.run_bind,run_underlying tm.h,Result.andThen_ok,Instr.findKey,run_underlying n,s,Xb n,u,Sem.run_pure];simp only[m,Option.map_some,Option.getD_some,d,c,Result.andThen_ok,g,l]
theorem Q5t {r:Nat} {o:Obj} (h:w.heap[r]? =some o):({w with heap:=w.heap.setIfInBounds r o}:World)=w:=by
 have:w.heap.setIfInBounds r o=w.heap:=by
  apply Array.ext';apply List.ext_getElem?;intro j;simp only[Array.toList_setIfInBounds,List.getElem?_set]
  by_cases a:r=j
  .subst a
   rw[if_pos rfl];have:=h;rw[<-Array.getElem?_toList] at this;rw[this,if_pos (by have:=(Array.getElem?_eq_some_iff.1 h).1;simpa using this)]
  .rw[if_neg a]
 rw[this]
theorem Q7c {r:Nat} {o b:Obj} (h:w.heap[r]? =some b):Upd w r {w with heap:=w.heap.setIfInBounds r o}/\({w with heap:=w.heap.setIfInBounds r o}:World).heap[r]? =some o:=by
 have a:=(Array.getElem?_eq_some_iff.1 h).1;exact ⟨⟨rfl,rfl,rfl,by simp,fun k c=>by simp only[Array.getElem?_setIfInBounds];rw[if_neg Q5]⟩,by simp[Array.getElem?_setIfInBounds,a]⟩
structure Ent3 (P : Program) (t : TypeId) (r : Nat) (k : List UInt8) (u : Value) (m : List (List UInt8 × Value)) (O0 O1 O2 : Obj) (stamp : Nat) : Prop where
  same : O0 = O2 -> O1 = O0
  put : F6 (some O2) (Ow m k u)
  entry : ∀ {w : World} {K : Value -> World -> Prop}, (w.heap[r]? = some O0 \/ w.heap[r]? = some O1 \/ w.heap[r]? = some O2) -> (∀ x w', Upd w r w' -> (w.heap[r]? = some O0 -> w'.heap[r]? = some O1) -> (w.heap[r]? ≠ some O0 -> w'.heap[r]? = w.heap[r]?) -> K (.tuple #[x, I stamp]) w') -> mapEntry P t (.map (some r)) (S k) w K
  store : ∀ {w : World} {K : Value -> World -> Prop}, (w.heap[r]? = some O1 \/ w.heap[r]? = some O2) -> (∀ w', Upd w r w' -> w'.heap[r]? = some O2 -> K undef w') -> entryStore P t (.map (some r)) (I stamp) u w K
theorem X9s {t kt et:TypeId} {ag:Nat} {z:Value} [tm:TM P t kt et] [tz:TZ P et 1 ag z] (X:P.underlying kt=some .string) {r:Nat} {m:List (List UInt8×Value)} (hm:F6 (w.heap[r]?) m) (k:List UInt8) (u:Value):
 ∃O O1 O2 A,w.heap[r]? =some O/\Ent3 P t r k u m O O1 O2 A:=by
 obtain ⟨q,g,h1,h2,Z,h4⟩:=hm;obtain ⟨r',q1,q2,q3,q4⟩:=Pg k q.toList m 0 h2
 -- the array behind it, the place, the stamp
 have R: ∀(f:Array MapEntry) (d i:Nat) (s:MapEntry) (v1:Value),Instr.findNow .string (S k) f.toList 0=some (some (i,v1))->f[i]? =some s->s.key=S k->(f.toList.map (·.born)).Pairwise (· < ·)->
  (Obj.map q g= .map (f.modify i fun e=>{e with val:=u}) d->Obj.map f d=Obj.map q g)->F6 (some (.map (f.modify i fun e=>{e with val:=u}) d)) (Ow m k u)->
  (∀{w:World},w.heap[r]? =some (.map q g)-> ∃x,(Instr.mapEntry t (.map (some r)) (S k)).run P w= .ok (.tuple #[x,I s.born]) {w with heap:=w.heap.setIfInBounds r (.map f d)})->
  ∃O O1 O2 A,w.heap[r]? =some O/\Ent3 P t r k u m O O1 O2 A:=by
  intro f d i s v1 f1 f2 f3 f4 f5 f6 f7;obtain ⟨_,J,f8⟩:=Q4J k u f.toList 0 i v1 f1;simp only[Nat.sub_zero] at J f8;have a4:i<f.size:=by simpa using J
  have f9:(f.modify i fun e=>{e with val:=u})[i]? =some {s with val:=u}:=by
   rw[Array.getElem?_modify,if_pos rfl,f2];rfl
  have aj:Instr.findNow .string (S k) (f.modify i fun e=>{e with val:=u}).toList 0=some (some (i,u)):=by
   rw[Array.toList_modify];exact f8
  have L: ∀(l:Array MapEntry),l.toList.map (·.born)=f.toList.map (·.born)->l.findIdx? (fun e=>(e.born:Int)==s.born)=some i:=by
   intro l D;obtain ⟨le⟩:=l;have e0:(Array.mk le).findIdx? (fun e=>(e.born:Int)==s.born)=le.findIdx? (fun e=>(e.born:Int)==s.born):=List.findIdx?_toArray ..;rw[e0,List.findIdx?_eq_some_iff_getElem];generalize W:(Array.mk le)=l at*;have ao:le=l.toList:=by rw[<-W]
   subst ao;have a5:l.toList.length=f.toList.length:=by have:=congrArg List.length D;simpa using this
   have U: ∀j (hj:j<l.toList.length),(l.toList[j]).born=(f.toList[j]'(by omega)).born:=fun j hj=>by
    have h5:(l.toList.map (·.born))[j]? =(f.toList.map (·.born))[j]? :=by rw[D]
    rw[List.getElem?_map,List.getElem?_map,List.getElem?_eq_getElem hj,List.getElem?_eq_getElem Q5] at h5
    simpa using h5
   have V:f.toList[i]=s:=by
    have:=f2;rw[<-Array.getElem?_toList,List.getElem?_eq_getElem J] at this
    simpa using this
   refine ⟨by omega,by rw[U i Q5,V];simp,fun j hj=>?_⟩
   have an:j<f.toList.length:=by omega
   have:=(List.pairwise_iff_getElem.1 f4) j i (by simpa using an) (by simpa using J) hj
   simp only[List.getElem_map] at this;rw[U j Q5];rw[V] at this;simp only[beq_iff_eq];omega
  have H:(f.modify i fun e=>{e with val:=u}).toList.map (·.born)=f.toList.map (·.born):=by
   apply List.ext_getElem?;intro j;simp only[Array.toList_modify,List.getElem?_map,List.getElem?_modify]
   by_cases M:i=j<;>cases f.toList[j]? <;>simp[M]
  have ap:(f.modify i fun e=>{e with val:=u}).modify i (fun e=>{e with val:=u})=f.modify i fun e=>{e with val:=u}:=by
   apply Array.ext';apply List.ext_getElem?;intro j;simp only[Array.toList_modify,List.getElem?_modify]
   by_cases M:i=j<;>cases f.toList[j]? <;>simp[M]
  have B: ∀(l:Array MapEntry) {w:World},l.toList.map (·.born)=f.toList.map (·.born)->w.heap[r]? =some (.map l d)->(Instr.entryStore t (.map (some r)) (I s.born) u).run P w= .ok () {w with heap:=w.heap.setIfInBounds r (.map (l.modify i fun e=>{e with val:=u}) d)}:=by
   intro l w D hw;have hg:(getObj r).run P w= .ok (.map l d) w:=by simp[getObj,Sem.run,hw]
   have E: ∀o,(setObj r (.map o d)).run P w= .ok () {w with heap:=w.heap.setIfInBounds r (.map o d)}:=by
    intro o;simp[setObj,Sem.run,hw]
   simp only[Instr.entryStore,Sem.run_bind,hg,Result.andThen_ok,asInt,Sem.run_pure,asIntOf,L l D,E]
  refine ⟨.map q g, .map f d, .map (f.modify i fun e=>{e with val:=u}) d,s.born,h1,f5,f6,?_,?_⟩
  .intro w K hw N
   unfold mapEntry
   rcases hw with hw | hw | hw
   .obtain ⟨x,hx⟩:=f7 hw
    rw[Z0 hx];obtain ⟨u1,u2⟩:=Q7c (o:= .map f d) hw;exact N x _ u1 (fun _=>u2) fun h=>absurd hw h
   .have:=Nf (P:=P) (t:=t) X hw f1 f2 f3
    rw[Q5t hw] at this;rw[Z0 this];refine N _ w ⟨rfl,rfl,rfl,rfl,fun _ _=>rfl⟩ (fun h0=>?_) fun _=>rfl;exact hw
   .have:=Nf (P:=P) (t:=t) X hw aj f9 f3
    rw[Q5t hw] at this;rw[Z0 this];refine N _ w ⟨rfl,rfl,rfl,rfl,fun _ _=>rfl⟩ (fun h0=>?_) fun _=>rfl;rw[h0] at hw;cases hw;rw[h0,f5 rfl]
  .intro w K hw N
   unfold entryStore
   rcases hw with hw | hw
   .rw[Jy (B f rfl hw)]
    obtain ⟨u1,u2⟩:=Q7c (o:= .map (f.modify i fun e=>{e with val:=u}) d) hw
    exact N _ u1 u2
   .have:=B _ H hw
    rw[ap,Q5t hw] at this;rw[Jy this];exact N _ ⟨rfl,rfl,rfl,rfl,fun _ _=>rfl⟩ hw
 cases r' with
 | none=>
  obtain ⟨i,hi,bg,be,ar⟩:=tz.info;have hz: ∀w:World,(zeroValue et).run P w= .ok z w:=fun w=>Xh tz w;refine R (q.push {key:=S k,val:=z,born:=g}) (g+1) q.size {key:=S k,val:=z,born:=g} z ?_ U5 rfl ?_ ?_ ?_ ?_
  .have:=Q2Q k {key:=S k,val:=z,born:=g} rfl q.toList 0 q1
   simpa using this
  .simp only[Array.toList_push,List.map_append,List.map_cons,List.map_nil]
   rw[List.pairwise_append];refine ⟨Z,by simp,?_⟩
   intro a ha b D
   simp at D;subst D
   obtain ⟨e,he,rfl⟩:=List.mem_map.1 ha;exact h4 e he
  .intro e
   injection e with s Y
   omega
  .refine ⟨_,_,rfl,?_,?_,?_⟩
   .rw[q4 rfl]
    simp only[Array.toList_modify,Array.toList_push];rw[<-Array.length_toList,Q0C]
    simp[h2]
   .have:((q.push {key:=S k,val:=z,born:=g}).modify q.size fun e=>{e with val:=u}).toList.map (·.born)=q.toList.map (·.born)++[g]:=by
     simp only[Array.toList_modify,Array.toList_push];rw[<-Array.length_toList,Q0C]
     simp
    rw[this,List.pairwise_append];refine ⟨Z,by simp,?_⟩
    intro a ha b D
    simp at D;subst D
    obtain ⟨e,he,rfl⟩:=List.mem_map.1 ha;exact h4 e he
   .intro e he
    simp only[Array.toList_modify,Array.toList_push] at he;rw[<-Array.length_toList,Q0C] at he
    rcases List.mem_append.1 he with he | he
    .have:=h4 e he;omega
    .simp at he;subst he;simp
  .intro w hw
   have hg:(getObj r).run P w= .ok (.map q g) w:=by simp[getObj,Sem.run,hw]
   have E: ∀o c,(setObj r (.map o c)).run P w= .ok () {w with heap:=w.heap.setIfInBounds r (.map o c)}:=by
    intro o c;simp[setObj,Sem.run,hw]
   refine ⟨z,?_⟩;simp only[Instr.mapEntry,Sem.run_bind,run_underlying tm.h,Result.andThen_ok,Instr.findKey,run_underlying X,q1,Xb X,hg,Sem.run_pure,hz,E];rfl
 | some p=>
  obtain ⟨j,v⟩:=p;obtain ⟨z1,z2,z3⟩:=q3 j v rfl;obtain ⟨e,s,Y⟩:=z2;simp only[Nat.sub_zero] at s z3;have Q:q[j]? =some e:=by rw[<-Array.getElem?_toList];exact s
  refine R q g j e v q1 Q Y Z (fun _=>rfl) ?_ fun hw=>⟨v,Nf X hw q1 Q Y⟩;refine ⟨_,_,rfl,?_,?_,?_⟩
  .have:=z3 u
   rw[<-this,Array.toList_modify]
   congr 1
   apply List.ext_getElem?;intro n;simp only[List.getElem?_modify]
   by_cases C:j=n
   .subst C;rw[s];simp[Y]
   .simp[C]
  .have:(q.modify j fun e=>{e with val:=u}).toList.map (·.born)=q.toList.map (·.born):=by
    apply List.ext_getElem?;intro n;simp only[Array.toList_modify,List.getElem?_map,List.getElem?_modify]
    by_cases C:j=n<;>cases q.toList[n]? <;>simp[C]
   rw[this];exact Z
  .intro x hx
   have:x.born∈(q.modify j fun e=>{e with val:=u}).toList.map (·.born):=List.mem_map.2 ⟨x,hx,rfl⟩
   have D:(q.modify j fun e=>{e with val:=u}).toList.map (·.born)=q.toList.map (·.born):=by
    apply List.ext_getElem?;intro n;simp only[Array.toList_modify,List.getElem?_map,List.getElem?_modify]
    by_cases C:j=n<;>cases q.toList[n]? <;>simp[C]
   rw[D] at this;obtain ⟨y,hy,e⟩:=List.mem_map.1 this;rw[<-e];exact h4 y hy
end Go.Emb
namespace Go.Hm
open Go.Kd Go.Emb
abbrev T3:=List (X2×X2)
def P5:T3->X2->Option X2
 | [],_=>none
 | p::r,k=>if p.1=k then some p.2 else P5 r k
def Iu:T3->X2->X2->T3
 | [],k,v=>[(k,v)]
 | p::r,k,v=>if p.1=k then (k,v)::r else p::Iu r k v
def vals (m:T3):List (List UInt8×Value):=m.map fun p=>(p.1,S p.2)
theorem X3W (m:T3) (k:X2):P6 (vals m) k=(P5 m k).map S:=by
 induction m with
 | nil=>rfl
 | cons p r a=>
  simp only[vals,List.map_cons,P6,P5]
  split
  .rfl
  .exact a
theorem Q9z (m:T3) (k v:X2):Ow (vals m) k (S v)=vals (Iu m k v):=by
 induction m with
 | nil=>rfl
 | cons p r a=>
  simp only[vals,List.map_cons,Ow,Iu]
  split
  .rfl
  .rw[List.map_cons];congr 1
theorem Q3a (m:T3) (k v n:X2):P5 (Iu m k v) n=if k=n then some v else P5 m n:=by
 induction m with
 | nil=>simp[Iu,P5]
 | cons p r b=>
  simp only[Iu]
  by_cases h:p.1=k
  .rw[if_pos h]
   simp only[P5]
   by_cases a:k=n
   .simp[a]
   .rw[if_neg a,if_neg a,if_neg (by rw[h];exact a)]
  .rw[if_neg h]
   simp only[P5]
   by_cases a:p.1=n
   .rw[if_pos a,if_pos a,if_neg (by intro e;exact h (a.trans e.symm))]
   .rw[if_neg a,if_neg a];exact b
def Ng (d:X2) (s:T3×T3) (m:Hm.Met):Bool×(T3×T3):=
 ((match P5 s.1 m.name with | some x=> !decide (x=Zz m) | none=>false),(Iu s.1 m.name (Zz m),Iu s.2 m.name d))
end Go.Hm
namespace Go.Emb
open Go.RowKit Go.Hm
theorem F6.of_below {w w':World} {r:Nat} {m:List (List UInt8×Value)} (h:F6 (w.heap[r]?) m) (e:Below w.heap.size w w'):F6 (w'.heap[r]?) m:=by
 obtain ⟨c,a,b,d⟩:=h;rw[e.block r (Array.getElem?_eq_some_iff.1 b).1];exact ⟨c,a,b,d⟩
theorem X4B {P:Program} {w:World} {K:Value->World->Prop} {t c b:TypeId} {sz a:Nat} {z:Value} [tm:TM P t c b] [tz:TZ P b sz a z] (d:P.underlying c=some .string) {r:Nat} {m:List (List UInt8×Value)} (f:F6 (w.heap[r]?) m) (k:List UInt8)
 (h:K (.tuple #[(P6 m k).getD z, .bool (P6 m k).isSome]) w):lookup P t (.map (some r)) (S k) true w K:=by
 rw[Q5h d f k];cases e:P6 m k<;>rw[e] at h<;>exact h
theorem F6.lt {w:World} {r:Nat} {m:List (List UInt8×Value)} (h:F6 (w.heap[r]?) m):r<w.heap.size:=by
 obtain ⟨c,a,b,d⟩:=h;exact (Array.getElem?_eq_some_iff.1 b).1
end Go.Emb
namespace Go.Proofs.Y
open Go.Emb Go.RowKit Go.Kd Go.Hm
variable {w : World} {K : Value -> World -> Prop} {σ : Q2}
theorem X9a {m:Hm.Met} {cs ds:List Value} {pa pb q:Addr} {b o:Nat} {s:T3×T3} {d:X2} (hs:X7 w σ) (hm:F5 σ m cs) (ab:SmM m) (hn:NmM m) (Y:J7 σ pa [.map (some b)]) (aq:J7 σ pb [.map (some o)]) (hq:J7 σ q (S d::ds))
 (ar:σ b=none) (av:σ o=none) (X:b≠o) (p:F6 (w.heap[b]?) (vals s.1)) (y:F6 (w.heap[o]?) (vals s.2))
 (h: ∀w',Kpt (fun k=>k=b\/k=o) w w'->F6 (w'.heap[b]?) (vals (Ng d s m).2.1)->F6 (w'.heap[o]?) (vals (Ng d s m).2.2)->K (.bool (Ng d s m).1) w'):
 Q0 P F.aJ [.agg cs.toArray, .pointer (some pa), .pointer (some q), .pointer (some pb)] w K:=Bs (by
 have W:=hm;obtain ⟨pv,cv,hv,rfl,g1,g2,g3,g4,g5,g6⟩:=hm;unfold Vg;simp only[Y3,X3,L9,Xq,D9];unfold Y1 X6 X5;refine Z4 hs fun a w1 σ1 f U=>?_;have am:=p.lt;have an:=y.lt;have p:=p.of_below f.bel;have y:=y.of_below f.bel;have Z:σ1 b=none:=(f.old b am).trans ar;have J:σ1 o=none:=(f.old o an).trans av;refine Y6 f.sat (Y.up f) rfl ?_;rw[fa];refine ld f.sat U rfl ?_;refine X4B Z2 p m.name ?_
 have ao:(.tuple #[(P6 (vals s.1) m.name).getD (.string ⟨#[]⟩), .bool (P6 (vals s.1) m.name).isSome]:Value)= .tuple #[S ((P5 s.1 m.name).getD []), .bool (P5 s.1 m.name).isSome]:=by
  rw[X3W];cases P5 s.1 m.name<;>rfl
 rw[ao];refine J8 (vs:=[_,_]) rfl ?_;refine J8 (vs:=[_,_]) rfl ?_;obtain ⟨L,M,r,A,af,E⟩:=X9s (P:=P) (t:=T.a0) Z2 p m.name (S (Zz m));have V:=p.lt
 refine Pe (fun c i=>Kpt (fun k=>k=b) c i/\(i.heap[b]? =c.heap[b]? \/(c.heap[b]? =some L/\L≠r/\i.heap[b]? =some M)\/i.heap[b]? =some r))
  (fun c=>Kpt (fun k=>k=b) w1 c/\X7 c σ1/\(c.heap[b]? =some L\/c.heap[b]? =some M\/c.heap[b]? =some r))
  ⟨.of_below (Below.refl _ _).drew,f.sat.below (Below.refl _ _).drew, .inl af⟩ (fun c i g C=>⟨g.1.trans C.1,C.1.sat g.2.1 (fun k hk=>hk▸Z),by
   rcases C.2 with e | ⟨_,_,e⟩ | e
   .rw[e];exact g.2.2
   .exact .inr (.inl e)
   .exact .inr (.inr e)⟩) ?_
 refine X9 (.pointer (some (a.add 0))) (fun w g=>by rw[fa];exact ⟨⟨Kpt.refl, .inl rfl⟩,rfl⟩) ?_
 refine X9 (.pointer (some (a.add 0))) (fun w g=>by rw[fa];exact ⟨⟨Kpt.refl, .inl rfl⟩,rfl⟩) ?_
 refine X9 (.pointer (some (q.add 0))) (fun w g=>by rw[fa];exact ⟨⟨Kpt.refl, .inl rfl⟩,rfl⟩) ?_
 refine X9 (.map (some b)) (fun w g=>Y6 g.2.1 (Y.up f) rfl ⟨⟨Kpt.refl, .inl rfl⟩,rfl⟩) ?_;refine X9 (S m.name) (fun t w g e=>by rw[e];exact ld g.2.1 U rfl ⟨⟨Kpt.refl, .inl rfl⟩,rfl⟩) ?_
 refine X9 (.map (some o)) (fun w g=>Y6 g.2.1 (aq.up f) rfl ⟨⟨Kpt.refl, .inl rfl⟩,rfl⟩) ?_;refine X9 (S m.name) (fun t w g e=>by rw[e];exact ld g.2.1 U rfl ⟨⟨Kpt.refl, .inl rfl⟩,rfl⟩) ?_
 refine X9 (.agg [S m.name,pv,S m.result, .bool m.abs,I m.locals,cv,hv].toArray) (fun w g=>Y7 g.2.1 U rfl ⟨⟨Kpt.refl, .inl rfl⟩,rfl⟩) ?_
 refine X9 (S (Zz m)) (fun t c g e=>by
  rw[e];exact X3h g.2.1 (RMe_lift W ⟨f.le⟩) ab hn fun i σ3 z=>⟨⟨.of_below z.bel, .inl (z.bel.block b (Nat.lt_of_lt_of_le V g.1.size))⟩,rfl⟩) ?_
 refine X9 (S d) (fun t w g e=>by rw[e];exact ld g.2.1 (hq.up f) rfl ⟨⟨Kpt.refl, .inl rfl⟩,rfl⟩) ?_
 have st: ∀{c i:World},(c.heap[b]? =some M\/c.heap[b]? =some r)->(i.heap[b]? =c.heap[b]? \/(c.heap[b]? =some L/\L≠r/\i.heap[b]? =some M)\/i.heap[b]? =some r)->(i.heap[b]? =some M\/i.heap[b]? =some r):=by
  intro c i j h2
  rcases h2 with e | ⟨_,_,e⟩ | e
  .rw[e];exact j
  .exact .inl e
  .exact .inr e
 refine R3 (fun u c=>(∃x,u= .tuple #[x,I A])/\(c.heap[b]? =some M\/c.heap[b]? =some r)) (fun u c i j C=>⟨j.1,st j.2 C.2⟩) (fun ac aw c g e1 e2=>?_) ?_
 .rw[e1,e2]
  refine E.entry g.2.2 fun x i n aj ak=>?_
  by_cases Q:c.heap[b]? =some L
  .have j:=aj Q
   refine ⟨⟨Kpt.of_upd n rfl,?_⟩,⟨x,rfl⟩, .inl j⟩
   by_cases B:L=r
   .left;rw[j,Q,E.same B]
   .exact .inr (.inl ⟨Q,B,j⟩)
  .have j:=ak Q
   refine ⟨⟨Kpt.of_upd n rfl, .inl j⟩,⟨x,rfl⟩,?_⟩;rw[j];exact g.2.2.resolve_left Q
 refine R3 (fun u c=>u=I A/\(c.heap[b]? =some M\/c.heap[b]? =some r)) (fun u c i j C=>⟨j.1,st j.2 C.2⟩) (fun t c g e=>?_) ?_
 .obtain ⟨⟨x,rfl⟩,j⟩:=e
  exact J8 (vs:=[_,_]) rfl ⟨⟨Kpt.refl, .inl rfl⟩,rfl,j⟩
 refine R3 (fun _ c=>c.heap[b]? =some r) (fun u c i j C=>?_) (fun ac ay ax c g e1 e2 e3=>?_) ?_
 .rcases C.2 with e | ⟨e,B,_⟩ | e
  .exact e.trans j
  .rw[j] at e;cases e;exact absurd rfl B
  .exact e
 .rw[e1,e3,e2.1]
  refine E.store e2.2 fun i n h3=>⟨⟨Kpt.of_upd n rfl, .inr (.inr h3)⟩,h3⟩
 rintro bb bd bg ac aw bc be bf ax bh bi ay bj c N _ _ _ _ _ rfl rfl _ _ rfl _ _ ag
 have ah:F6 (c.heap[b]?) (vals (Iu s.1 m.name (Zz m))):=by
  rw[ag,<-Q9z];exact E.put
 have ai:F6 (c.heap[o]?) (vals s.2):=by
  rw[N.1.block o y.lt fun e=>X e.symm];exact y
 refine Q0B Z2 ⟨J,ai⟩ m.name (S d) fun i n ap=>?_;have R:F6 (i.heap[o]?) (vals (Iu s.2 m.name d)):=by rw[<-Q9z];exact ap.2
 have H:F6 (i.heap[b]?) (vals (Iu s.1 m.name (Zz m))):=by rw[n.block b X];exact ah
 have z:Kpt (fun k=>k=b\/k=o) w i:=((Kpt.of_below f.bel).trans (N.1.mono fun k _ h=> .inl h)).trans (Kpt.of_upd n (.inr rfl));have aa:X7 i σ1:=(Kpt.of_upd (D:=fun k=>k=o) n rfl).sat N.2.1 fun k hk=>hk▸J;unfold Ng at h;cases ho:P5 s.1 m.name with
 | none=>
  rw[ho] at h;simp only[Option.isSome_none,↓M2,M2,Mb,reduceIte];exact h i z H R
 | some x=>
  rw[ho] at h;simp only[Option.isSome_some,Option.getD_some,↓M2,M2,Mb,reduceIte];refine Y7 aa U rfl ?_;refine X3h aa (RMe_lift W ⟨f.le⟩) ab hn fun w4 σ4 O=>?_;simp only[↓M2,M2,Mb,reduceIte];exact h w4 (z.trans (Kpt.of_below O.bel)) (H.of_below O.bel) (R.of_below O.bel))
end Go.Proofs.Y
namespace Go.Hm
open Go.Kd Go.Emb
def Kn (s:T3×T3) (c:Cla):Bool×(T3×T3):=((W5 (Ng c.name) s c.methods 0).1.isSome,(W5 (Ng c.name) s c.methods 0).2)
def Fj (a:List Hm.Met):Prop:= ∃x∈a,∃y∈a,x.name=y.name/\Zz x≠Zz y
theorem Q7P (a:List Hm.Met):Hu a=true↔Fj a:=by
 simp[Hu,Fj]
structure Gd (pre : List Hm.Met) (s : T3 × T3) : Prop where
  a : ∀ m ∈ pre, P5 s.1 m.name = some (Zz m)
  b : ∀ k x, P5 s.1 k = some x -> ∃ m ∈ pre, m.name = k /\ Zz m = x
  c : ∀ k, (P5 s.2 k).isSome = true ↔ ∃ m ∈ pre, m.name = k
theorem Gd.no {b:List Hm.Met} {s:T3×T3} (h:Gd b s): ¬Fj b:=by
 rintro ⟨x,g,y,i,d,e⟩;have c:=h.a x g;have f:=h.a y i;rw[d,f] at c;exact e (Option.some.inj c).symm
theorem Gd.step {n:List Hm.Met} {s:T3×T3} (h:Gd n s) (d:X2) (m:Hm.Met):((Ng d s m).1=true->Fj (n++[m]))/\((Ng d s m).1=false->Gd (n++[m]) (Ng d s m).2):=by
 unfold Ng;constructor
 .intro g
  cases o:P5 s.1 m.name with
  | none=>rw[o] at g;cases g
  | some x=>
   rw[o] at g;obtain ⟨y,hy,f,p⟩:=h.b _ _ o;exact ⟨y,by simp[hy],m,by simp,f,by rw[p];simpa using g⟩
 .intro g
  have i: ∀x,P5 s.1 m.name=some x->x=Zz m:=fun x j=>by rw[j] at g;simpa using g
  refine ⟨fun y hy=>?_,fun k x j=>?_,fun k=>?_⟩
  .simp only[Q3a]
   rcases List.mem_append.1 hy with hy | hy
   .have:=h.a y hy
    by_cases e:m.name=y.name
    .rw[if_pos e];congr 1;exact (i _ (by rw[e];exact this)).symm
    .rw[if_neg e];exact this
   .simp at hy;subst hy;simp
  .simp only[Q3a] at j
   by_cases e:m.name=k
   .rw[if_pos e] at j;cases j;exact ⟨m,by simp,e,rfl⟩
   .rw[if_neg e] at j
    obtain ⟨y,hy,f⟩:=h.b _ _ j;exact ⟨y,by simp[hy],f⟩
  .simp only[Q3a]
   by_cases e:m.name=k
   .rw[if_pos e];exact ⟨fun _=>⟨m,by simp,e⟩,fun _=>rfl⟩
   .rw[if_neg e,h.c k]
    constructor
    .rintro ⟨y,hy,f⟩;exact ⟨y,by simp[hy],f⟩
    .rintro ⟨y,hy,f⟩
     rcases List.mem_append.1 hy with hy | hy
     .exact ⟨y,hy,f⟩
     .simp at hy;subst hy;exact absurd f e
theorem Fj.mono {a b:List Hm.Met} (h:Fj a) (c: ∀x∈a,x∈b):Fj b:=by
 obtain ⟨x,d,y,f,e⟩:=h;exact ⟨x,c x d,y,c y f,e⟩
theorem Q6p (d:X2): ∀(b a:List Hm.Met) (s:T3×T3) (i:Nat),Gd a s->((W5 (Ng d) s b i).1.isSome=true->Fj (a++b))/\((W5 (Ng d) s b i).1.isSome=false->Gd (a++b) (W5 (Ng d) s b i).2)
 | [],a,s,i,h=>by simpa [W5] using h
 | m::r,a,s,i,h=>by
  obtain ⟨g,j⟩:=h.step d m;simp only[W5];cases c:(Ng d s m).1 with
  | true=>
   simp only[if_true,Option.isSome_some];exact ⟨fun _=>(g c).mono fun x f=>by simp at f⊢;rcases f with h | h<;>simp[h],fun e=>by cases e⟩
  | false=>
   simp only[Bool.false_eq_true,if_false];have:=Q6p d r (a++[m]) (Ng d s m).2 (i+1) (j c);rw[show a++m::r=(a++[m])++r by simp]
   exact this
theorem Q6o: ∀(cs:List Cla) (a:List Hm.Met) (s:T3×T3) (i:Nat),Gd a s->((W5 Kn s cs i).1.isSome=true->Fj (a++cs.flatMap (·.methods)))/\((W5 Kn s cs i).1.isSome=false->Gd (a++cs.flatMap (·.methods)) (W5 Kn s cs i).2)
 | [],a,s,i,h=>by simpa [W5] using h
 | c::r,a,s,i,h=>by
  obtain ⟨d,f⟩:=Q6p c.name c.methods a s 0 h;simp only[W5];cases b:(Kn s c).1 with
  | true=>
   simp only[if_true,Option.isSome_some];exact ⟨fun _=>(d b).mono (by simp;intro x hx;rcases hx with hx | hx;exact .inl hx;exact .inr (.inl hx)),fun e=>by cases e⟩
  | false=>
   simp only[Bool.false_eq_true,if_false];have:=Q6o r (a++c.methods) (Kn s c).2 (i+1) (f b);rw[List.flatMap_cons,<-List.append_assoc];exact this
theorem X89:Gd [] ([],[]):=⟨by simp,by simp[P5],by simp[P5]⟩
theorem X1X (l:List Cla) (n:X2):Ox l n=(Dy l n).flatMap (·.methods):=by
 unfold Ox Dy
 induction Qq l n with
 | nil=>rfl
 | cons u r a=>
  rw[List.flatMap_cons,List.filterMap_cons];cases b:lk l u with
  | none=>simpa [b] using a
  | some c=>simp only[Option.map_some,Option.getD_some,List.flatMap_cons];rw[a]
end Go.Hm
namespace Go.Emb
open Go.RowKit Go.Hm
variable {P : Program} {w w1 w' : World} {K : Value -> World -> Prop} {σ σ' : Q2}
def It (σ:Q2) (w:World) (b r:Nat) (e:Array MapEntry) (a:Nat) (c:Array Nat):Prop:=σ b=none/\ ∃d,a<=d/\w.heap[b]? =some (.mapIter (some r) a c d)
theorem It.step {b r:Nat} {d:Array MapEntry} {a:Nat} {c:Array Nat} (h:It σ w b r d a c) (k:Stp w σ w' σ'):It σ' w' b r d a c:=by
 obtain ⟨i,g,j,e⟩:=h;have f:=(Array.getElem?_eq_some_iff.1 e).1;exact ⟨(k.old b f).trans i,g,j,(k.bel.block b f).trans e⟩
theorem X9m {t i e:TypeId} [tm:TM P t i e] {r:Nat} {c:Array MapEntry} {a:Nat} (d:X7 w σ) (g:w.heap[r]? =some (.map c a))
 (h: ∀b w' σ',w.heap.size<=b->Stp w σ w' σ'->It σ' w' b r c a #[]->K (.pointer (some ⟨b,0,none⟩)) w'):rng P t (.map (some r)) w K:=by
 unfold rng;have f:(getObj r).run P w= .ok (.map c a) w:=by simp[getObj,Sem.run,g]
 rw[Z0 (v:= .pointer (some ⟨w.heap.size,0,none⟩)) (w':=w.alloc (.mapIter (some r) a #[] a)) (by
  simp only[Instr.range,Sem.run_bind,run_underlying tm.h,Result.andThen_ok,f,Sem.run_pure]
  simp)]
 exact h _ _ _ (Nat.le_refl _) (Stp.own d _) ⟨d.none (Nat.le_refl _),a,Nat.le_refl _,heap_alloc_new w _⟩
theorem X9k {t:TypeId} {b r:Nat} {es:Array MapEntry} {clock:Nat} {seen:Array Nat} (hi:It σ w b r es clock seen) (hm:w.heap[r]? =some (.map es clock)) (hold: ∀x∈es.toList,x.born<clock)
 (h0:(∀e∈es.toList,e.born∈seen)->K (.tuple #[.bool false]) w)
 (h1: ∀e w',e∈es.toList->e.born∉seen->Kpt (fun k=>k=b) w w'->It σ w' b r es clock (seen.push e.born)->w'.heap[b]? =some (.mapIter (some r) clock (seen.push e.born) clock)->K (.tuple #[.bool true,e.key,e.val]) w'):L2 P (.pointer (some ⟨b,0,none⟩)) false t w K:=by
 obtain ⟨hb,c0,hc,hh⟩:=hi;unfold L2
 rcases run_next_at (P:=P) w t b r clock c0 seen es clock hh hm hold hc with ⟨hz,hrun⟩ | ⟨e,he,w1,hw1,hrun⟩
 .rw[Z0 hrun]
  refine h0 fun e he=>Classical.byContradiction fun hn=>?_
  have:e∈(leftOf es seen).toList:=by
   unfold leftOf;simp only[Array.toList_filter,List.mem_filter];exact ⟨he,by simpa using hn⟩
  have hl:(leftOf es seen).toList.length=0:=by simpa using hz
  rw[List.eq_nil_of_length_eq_zero hl] at this;cases this
 .rw[Z0 hrun]
  have he':e∈es.toList/\e.born∉seen:=by
   unfold leftOf at he;simp only[Array.toList_filter,List.mem_filter] at he;exact ⟨he.1,by simpa using he.2⟩
  have hh1:w1.heap[b]? =some (.mapIter (some r) clock seen c0):=by rcases hw1 with rfl | rfl<;>exact hh
  obtain ⟨u1,u2⟩:=Q7c (w:=w1) (o:= .mapIter (some r) clock (seen.push e.born) clock) hh1;refine h1 e _ he'.1 he'.2 ?_ ⟨hb,clock,Nat.le_refl _,u2⟩ u2
  have k1:Kpt (fun k=>k=b) w w1:=by
   rcases hw1 with rfl | rfl
   .exact Kpt.refl
   .exact .of_below (Below.refl _ _).drew
  exact k1.trans (Kpt.of_upd u1 rfl)
theorem X8u {b r:Nat} {d:Array MapEntry} {a:Nat} {c:Array Nat} {e:MapEntry} (hh:w.heap[b]? =some (.mapIter (some r) a (c.push e.born) a)) (g:w.heap[r]? =some (.map d a)) (f:e∈d.toList) (i:(d.toList.map (·.born)).Nodup)
 (h:K (.tuple #[e.key,e.val]) w):X2i P (.pointer (some ⟨b,0,none⟩)) w K:=by
 unfold X2i;rw[Z0 (run_entry_at w b r a c d a e hh g f i)];exact h
end Go.Emb
namespace Go.Proofs.Y
open Go.Emb Go.RowKit Go.Kd Go.Hm
variable {w : World} {K : Value -> World -> Prop} {σ : Q2} {v : Value} {l : List Cla}
theorem Yl (o:Option Nat):decide ((0:Int)<=H2 o)=o.isSome:=by
 cases o with
 | none=>rfl
 | some i=>simp[H2]
theorem Q6I {q:Addr} {s:X2} (c:X7 w σ) (g:Tab σ v l) (f:J7 σ q [v]) (d:s.length<=W6) (h: ∀w' σ',Stp w σ w' σ'->K (.bool (B0 l s)) w'):U7 P (.func (.func F.ao) #[] #[.pointer (some q)]) [S s] w K:=U3 (Ix (by
 unfold Lc X6 V5;unfold B0 at h;refine Jn ?_
 by_cases a:s=G4
 .have e:decide (s=[110,117,108,108])=true:=decide_eq_true a
  simp only[e,decide_eq_true a,↓M2,M2,Mb,reduceIte] at h⊢;exact h _ _ (Stp.refl c)
 .have e:decide (s=[110,117,108,108])=false:=decide_eq_false a
  simp only[e,decide_eq_false a,↓M2,M2,Mb,reduceIte] at h⊢;refine Y6 c f rfl ?_;refine Q5z c g d fun w1 σ1 b=>?_
  (try simp only[↓M2,M2,Mb,reduceIte])
  exact h _ _ b))
theorem X28 {q p:Addr} {s:X2} (b:X7 w σ) (f:Tab σ v l) (e:J7 σ q [v]) (d:J7 σ p [.func (.func F.ao) #[] #[.pointer (some q)]]) (c:s.length<=W6) (h: ∀w' σ',Stp w σ w' σ'->K (.bool (!B0 l s)) w'):U7 P (.func (.func F.ap) #[] #[.pointer (some p)]) [S s] w K:=U3 (Iy (by
 unfold Ld;refine Y6 b d rfl ?_;refine Q6I b f e c fun w1 σ1 a=>?_;refine Zv ?_;exact h _ _ a))
theorem X0Z {c:Cla} {cs:List Value} {pa H:Addr} {b e:Nat} {s:T3×T3} (W:X7 w σ) (Q:M8 σ c cs) (B:Zf c) (U:Nm c) (u:J7 σ pa [.map (some b)]) (y:J7 σ H [.map (some e)])
 (z:σ b=none) (A:σ e=none) (t:b≠e) (i:F6 (w.heap[b]?) (vals s.1)) (j:F6 (w.heap[e]?) (vals s.2))
 (h: ∀w',Kpt (fun k=>k=b\/k=e) w w'->F6 (w'.heap[b]?) (vals (Kn s c).2.1)/\F6 (w'.heap[e]?) (vals (Kn s c).2.2)->K (.bool (Kn s c).1) w'):
 U7 P (.func (.func F.b1) #[] #[.pointer (some pa), .pointer (some H)]) [.agg cs.toArray] w K:=U3 (Iz (by
 obtain ⟨lv,Y,mv,rfl,Z,g2,L,g4,g5⟩:=Q;unfold Lf Y1;refine Z4 W fun q w1 σ1 a D=>?_;rw[fa];refine ld a.sat D rfl ?_;rw[Zc];have p:=i.lt;have r:=j.lt;have n:σ1 b=none:=(a.old b p).trans z;have o:σ1 e=none:=(a.old e r).trans A
 refine Wk (Ng c.name) s (fun s w'=>X7 w' σ1/\F6 (w'.heap[b]?) (vals s.1)/\F6 (w'.heap[e]?) (vals s.2)) (fun k=>k=b\/k=e) (fun _ _ h=>h.1) ⟨a.sat,i.of_below a.bel,j.of_below a.bel⟩ (L.up a)
  (fun s x cs J K E f g V C O=>U3 ?_) fun J f g=>?_
 .refine X9a (s:=s) (d:=c.name) g.1 V (B.2.2.2 x E) (U.2.2 x E) (u.up a) (y.up a) D n o t g.2.1 g.2.2 fun X m M N=>?_
  exact O X (f.trans m) ⟨m.sat g.1 fun k R=>by rcases R with rfl | rfl<;>assumption,M,N⟩
 .exact h J ((Kpt.of_below a.bel).trans f) g.2))
end Go.Proofs.Y
namespace Go.Emb
open Go.RowKit Go.Hm
theorem Stp.nx {D:Nat->Prop} {w w1 f:World} {σ σ1 g:Q2} (a:Stp w σ w1 σ1) (c:Nxt D w1 σ1 f g) (hD: ∀k,D k->w.heap.size<=k):Stp w σ f g:=
 ⟨⟨c.kp.os.trans a.bel.os,c.kp.tape.trans a.bel.tape,c.kp.output.trans a.bel.output,Nat.le_trans a.bel.size c.kp.size,fun k d=>(c.kp.block k (Nat.lt_of_lt_of_le d a.bel.size) fun e=>by have:=hD k e;omega).trans (a.bel.block k d)⟩,
  c.sat,fun b o e=>c.le.le b o (a.le b o e),fun k d=>(c.old k (Nat.lt_of_lt_of_le d a.bel.size)).trans (a.old k d)⟩
end Go.Emb
namespace Go.Hm
open Go.Kd Go.Emb
theorem X6Z {d:Array MapEntry} {m:T3} (h:d.toList.map (fun e=>(e.key,e.val))=(vals m).map (fun p=>(S p.1,p.2))):
 (∀e∈d.toList,∃k,e.key=S k/\(P5 m k).isSome=true)/\ ∀k,(P5 m k).isSome=true-> ∃e∈d.toList,e.key=S k:=by
 have c: ∀(m:T3) k,(P5 m k).isSome=true↔k∈m.map (·.1):=by
  intro m
  induction m with
  | nil=>intro k;simp[P5]
  | cons p r n=>
   intro k;simp only[P5,List.map_cons,List.mem_cons]
   by_cases e:p.1=k
   .simp[e]
   .rw[if_neg e,n k]
    constructor
    .exact .inr
    .rintro (h | h)
     .exact absurd h.symm e
     .exact h
 constructor
 .intro e f
  have b:(e.key,e.val)∈d.toList.map (fun e=>(e.key,e.val)):=List.mem_map.2 ⟨e,f,rfl⟩;rw[h] at b;obtain ⟨p,j,a⟩:=List.mem_map.1 b;obtain ⟨q,g,rfl⟩:=List.mem_map.1 j;simp only[Prod.mk.injEq] at a;exact ⟨q.1,a.1.symm,(c m _).2 (List.mem_map.2 ⟨q,g,rfl⟩)⟩
 .intro k i
  obtain ⟨q,g,rfl⟩:=List.mem_map.1 ((c m k).1 i);have b:(S q.1,S q.2)∈(vals m).map (fun p=>(S p.1,p.2)):=List.mem_map.2 ⟨(q.1,S q.2),List.mem_map.2 ⟨q,g,rfl⟩,rfl⟩;rw[<-h] at b;obtain ⟨e,f,a⟩:=List.mem_map.1 b;simp only[Prod.mk.injEq] at a;exact ⟨e,f,a.1⟩
def Ch (l:List Cla) (m:Hm.Met):Bool:=(!B0 l m.result&& !decide (m.result=[]))||m.params.any fun s=> !B0 l s
end Go.Hm
namespace Go.Proofs.Y
open Go.Emb Go.RowKit Go.Kd Go.Hm
variable {w : World} {K : Value -> World -> Prop} {σ : Q2} {v : Value} {l : List Cla}
set_option maxRecDepth 9999 in
set_option maxHeartbeats 1000000 in
theorem X3m {c:Cla} {cs:List Value} (hs:X7 w σ) (ht:Tab σ v l) (ok:Ok l) (hc:M8 σ c cs) (fi:Zf c) (hn:Nm c) (h: ∀w' W,Stp w σ w' W->K (I (O5 l c)) w'):Q0 P F.bb [v, .agg cs.toArray] w K:=Tm (by
 obtain ⟨lv,fv,mv,rfl,g1,g2,g3,g4,g5⟩:=hc;unfold Nq;simp only[N0,D9];unfold Z8 Y1 V1 V3 Y0 X4 V5 X5;obtain ⟨a,_,_,_,hv,_⟩:=ht.ex;unfold O5 at h;refine L8 hs (by rw[hv];rfl) fun q2 w1 σ1 a4 y=>?_
 refine Z4 a4.sat fun q3 w2 σ2 aq A=>?_;have dz:=a4.trans aq;have y:=y.up aq;have g1:=(g1.up a4).up aq;have g2:=(g2.up a4).up aq;have g3:=(g3.up a4).up aq;have a6:=g2.max;have cd:=g3.max;rw[fa];refine ld aq.sat A rfl ?_;refine Q7 g2 ?_;refine V7 c.fields.length (fun n w'=> ∃W,Stp w σ w' W/\SLe σ2 W/\((c.fields.take n).any fun f=>(Hw l c.super f.name).isSome)=false) ⟨σ2,dz,SLe.refl _,by simp⟩ fun n w3 d a7 ag=>?_
 obtain ⟨σ3,ay,cg,H⟩:=ag;refine J0 ?_;refine Q4 (fun hh=>?_) (fun hh=>?_)
 .have g:n<c.fields.length:=by simpa using hh
  refine Q5W (g2.lift cg) g fun p ar Z=>?_;refine Y7 ay.sat ar rfl ?_;refine J6 ay.sat (by rfl) rfl (Rep.one Z) fun q4 w4 σ4 V ec=>?_
  have aa:SLe σ2 σ4:=cg.more ⟨V.le⟩;have az:=ay.trans V;refine Y6 V.sat (y.lift aa) rfl ?_;rw[fa];refine ld V.sat (A.lift aa) rfl ?_;rw[fa];refine ld V.sat ec rfl ?_;refine X6r V.sat (ht.lift ⟨az.le⟩) ok.acy ok.len ok.sm fun w5 σ5 cb=>?_;refine A0 ?_;rw[Yl];refine Q4 (fun al=>?_) (fun al=>?_)
  .have:Uo l c=true:=K2 g al
   rw[if_pos this] at h;exact h _ _ (az.trans cb)
  .refine R5 ?_
   refine Z5 a6 g ⟨σ5,az.trans cb,aa.more ⟨cb.le⟩,?_⟩;rw[E7 g,H,al];rfl
 have g: ¬n<c.fields.length:=by simpa using hh
 rw[B4 g] at H;have d9:Uo l c=false:=H;rw[if_neg (by rw[d9];simp)] at h
 rw[Zc];clear H hh g a7;refine L1 ay.sat (by rfl) rfl rfl fun q7 w4 σ4 V a9=>?_
 have aa:SLe σ2 σ4:=cg.more ⟨V.le⟩;have az:=ay.trans V;have y:=y.lift aa;have A:=A.lift aa;have g1:=g1.lift aa;have g2:=g2.lift aa;have g3:=g3.lift aa;rw[fa];refine ld V.sat A rfl ?_;refine Q7 g2 ?_;refine V7 c.fields.length (fun n w'=> ∃W,Stp w σ w' W/\SLe σ4 W/\((c.fields.take n).any fun f=> !B0 l f.kind)=false) ⟨σ4,az,SLe.refl _,by simp⟩ fun n w5 d a7 ag=>?_
 obtain ⟨σ5,a0,av,H⟩:=ag;refine J0 ?_;refine Q4 (fun hh=>?_) (fun hh=>?_)
 .have g:n<c.fields.length:=by simpa using hh
  refine Q5W (g2.lift av) g fun p ar Z=>?_;refine Y7 a0.sat ar rfl ?_;refine J6 a0.sat (by rfl) rfl (Rep.one Z) fun q9 w6 σ6 a5 ed=>?_
  have aj:SLe σ4 σ6:=av.more ⟨a5.le⟩;have Q:=a0.trans a5;refine Y6 a5.sat (a9.lift aj) rfl ?_;rw[fa];refine ld a5.sat ed rfl ?_;refine Q6I a5.sat (ht.lift ⟨Q.le⟩) (y.lift aj) Z.2.2 fun w7 σ7 E=>?_;refine Zv ?_;refine Q4 (fun al=>?_) (fun al=>?_)
  .have:T6 l c=true:=by
    unfold T6;rw[K2 (p:=fun f:Fld=> !B0 l f.kind) g al];rfl
   rw[if_pos this] at h;exact h _ _ (Q.trans E)
  .refine R5 ?_
   refine Z5 a6 g ⟨σ7,Q.trans E,aj.more ⟨E.le⟩,?_⟩;rw[E7 g,H,al];rfl
 have g: ¬n<c.fields.length:=by simpa using hh
 rw[B4 g] at H;have d6:=H;clear H hh g a7;have y:=y.lift av;have A:=A.lift av;have a9:=a9.lift av;have g3:=g3.lift av;rw[fa];refine ld a0.sat A rfl ?_;refine Q7 g3 ?_;refine V7 c.methods.length (fun n w'=> ∃W,Stp w σ w' W/\SLe σ5 W/\((c.methods.take n).any (Ch l))=false) ⟨σ5,a0,SLe.refl _,by simp⟩ fun n w6 d a7 ag=>?_
 obtain ⟨σ6,Q,aj,H⟩:=ag;refine J0 ?_;refine Q4 (fun hh=>?_) (fun hh=>?_)
 .have g:n<c.methods.length:=by simpa using hh
  refine E5 (g3.lift aj) g fun p cells ar c4 Z=>?_;refine Y7 Q.sat ar c4 ?_;refine J6 Q.sat (by rfl) c4 (Rep.one Z) fun fm w7 σ7 E Y=>?_
  obtain ⟨pv,cv,fk,rfl,m1,m2,m3,m4,m5,m6⟩:=Z;have ch:SLe σ5 σ7:=aj.more ⟨E.le⟩;have cx:=Q.trans E
  have D:Ch l c.methods[n]=true-> ∀{w8:World} {σ8:Q2},Stp w σ w8 σ8->K (.int .i64 65) w8:=fun hb w8 σ8 q=>by
   have:T6 l c=true:=by
    unfold T6;have:=K2 (p:=Ch l) g hb;unfold Ch at this;rw[this,Bool.or_true]
   rw[if_pos this] at h;exact h _ _ q
  have z:Ch l c.methods[n]=false-> ∀{w8:World} {σ8:Q2},Stp w σ w8 σ8->SLe σ5 σ8->UpI c.methods.length (fun n w'=> ∃W,Stp w σ w' W/\SLe σ5 W/\((c.methods.take n).any (Ch l))=false) (.int .i64 (IntKind.i64.wrap (n+1))) w8/\UpM c.methods.length (.int .i64 (IntKind.i64.wrap (n+1)))<UpM c.methods.length (I n):=fun hb w8 σ8 q ab=>
   Z5 cd g ⟨σ8,q,ab,by rw[E7 g,H,hb];rfl⟩
  unfold Ch at D z;refine Y6 E.sat (a9.lift ch) rfl ?_;rw[fa];refine ld E.sat Y rfl ?_;refine Q6I E.sat (ht.lift ⟨cx.le⟩) (y.lift ch) m5 fun w8 σ8 M=>?_;have q:=cx.trans M;have ab:SLe σ5 σ8:=ch.more ⟨M.le⟩;have Y:=Y.up M;have m1:=(m1.up E).up M
  -- what the parameters come to
  have bx: ∀{w8:World} {σ8:Q2} {K:Value->World->Prop},Stp w σ w8 σ8->SLe σ5 σ8->Sl 1 M7 σ8 pv c.methods[n].params->(∀w' W,Stp w8 σ8 w' W->K (.bool (c.methods[n].params.any fun s=> !B0 l s)) w')->Q0 P F.d [pv, .func (.func F.ap) #[] #[.pointer (some q7)]] w8 K:=by
   intro w8 σ8 K q ab m1 hK;refine Xr (fun s=> !B0 l s) q.sat m1 (fun x w9 K _ eg hx dy=>X28 eg (ht.lift ⟨q.le⟩) (y.lift ab) (a9.lift ab) hx fun w' W hk=>dy w' hk.bel) fun w9 hb=>hK w9 σ8 (Stp.of_below q.sat hb)
  cases e1:B0 l c.methods[n].result with
  | true=>
   rw[e1] at D z;simp only[↓M2,M2,Mb,reduceIte];refine ld M.sat Y rfl ?_
   (try simp only[↓M2,M2,Mb,reduceIte])
   refine bx q ab m1 fun w9 σ9 J=>?_;cases e2:c.methods[n].params.any fun s=> !B0 l s with
   | true=>
    rw[e2] at D;simp only[↓M2,M2,Mb,reduceIte];exact D rfl (q.trans J)
   | false=>
    rw[e2] at z;simp only[↓M2,M2,Mb,reduceIte];exact z rfl (q.trans J) (ab.more ⟨J.le⟩)
  | false=>
   rw[e1] at D z;simp only[↓M2,M2,Mb,reduceIte];refine ld M.sat Y rfl ?_;simp only[↓M2,M2,Mb,reduceIte]
   by_cases e3:c.methods[n].result=[]
   .rw[decide_eq_true e3] at D z
    simp only[decide_eq_true e3,↓M2,M2,Mb,reduceIte];refine ld M.sat Y rfl ?_
    (try simp only[↓M2,M2,Mb,reduceIte])
    refine bx q ab m1 fun w9 σ9 J=>?_;cases e2:c.methods[n].params.any fun s=> !B0 l s with
    | true=>
     rw[e2] at D;simp only[↓M2,M2,Mb,reduceIte];exact D rfl (q.trans J)
    | false=>
     rw[e2] at z;simp only[↓M2,M2,Mb,reduceIte];exact z rfl (q.trans J) (ab.more ⟨J.le⟩)
   .rw[decide_eq_false e3] at D
    simp only[decide_eq_false e3,↓M2,M2,Mb,reduceIte];exact D rfl q
 have g: ¬n<c.methods.length:=by simpa using hh
 rw[B4 g] at H
 have ce:T6 l c=false:=by
  unfold T6;unfold Ch at H;rw[d6,H];rfl
 rw[if_neg (by rw[ce];simp)] at h
 clear H hh g a7;have y:=y.lift aj;have A:=A.lift aj;refine Q62 Q.sat fun r1 w7 Z E t=>?_;refine Q62 E.sat fun N w8 ee M u=>?_;have ar:=t.lt;have t:=t.up M;have eb:r1≠N:=by omega
 have q:=(Q.trans E).trans M;have eu:w.heap.size<=r1:=Nat.le_trans Q.bel.size Z;have ew:w.heap.size<=N:=C6 ee (Q.trans E);refine D3 M.sat fun b1 w9 σ9 d1 J B=>?_;refine D3 J.sat fun b2 ei fy d2 ah C=>?_;have ep:=B.lt;have er:=t.lt;have et:=u.lt;have t:=(t.up J).up ah;have u:=(u.up J).up ah;have B:=B.up ah;have cr:=(q.trans J).trans ah;have bs:w.heap.size<=b1:=C6 d1 q;have bu:w.heap.size<=b2:=C6 d2 (q.trans J);refine st0 B (by simp[Value.cells]) rfl rfl fun dm ci B=>?_
 have ct:=ci.stp cr bs B.1;have C:=C.upd ci Q5;have dc:Kpt (fun k=>k=b1) ei dm:=Kpt.of_upd ci rfl;have t:=t.kp dc Q5;have u:=u.kp dc Q5;refine st0 C (by simp[Value.cells]) rfl rfl fun aw cj C=>?_
 have cu:=cj.stp ct bu C.1;have B:=B.upd cj Q5;have de:Kpt (fun k=>k=b2) dm aw:=Kpt.of_upd cj rfl;have t:=t.kp de Q5;have u:=u.kp de Q5;obtain ⟨ck,cw,a1,dh,am⟩:=B.keep cu bs;have C:Y8 ck aw b2 _:=⟨(am b2 Q5).trans C.1,C.2⟩;have t:P3 ck aw r1 []:=⟨(am r1 Q5).trans t.1,t.2⟩;have u:P3 ck aw N []:=⟨(am N Q5).trans u.1,u.2⟩;obtain ⟨be,ae,bi,b3,bc⟩:=C.keep cw bu;have t:P3 be aw r1 []:=⟨(bc r1 Q5).trans t.1,t.2⟩;have u:P3 be aw N []:=⟨(bc N Q5).trans u.1,u.2⟩;have a1:=a1.le b3;have a1:J7 be ⟨b1,0,none⟩ [.map (some r1)]:=a1;have bi:J7 be ⟨b2,0,none⟩ [.map (some N)]:=bi;have di:SLe σ6 be:=⟨fun b o e=>b3 b o (dh b o (ah.le b o (J.le b o (M.le b o (E.le b o e)))))⟩;clear B C;have y:=y.lift di;have A:=A.lift di;refine Y6 ae.sat y rfl ?_;rw[fa];refine ld ae.sat A rfl ?_;rw[Zc]
 refine X1H Kn ([],[]) (fun s w'=>F6 (w'.heap[r1]?) (vals s.1)/\F6 (w'.heap[N]?) (vals s.2)) (fun k=>k=r1\/k=N) ae.sat (ht.lift ⟨ae.le⟩) ok.len ok.sm g4
  (fun k hk=>by rcases hk with rfl | rfl;exact ⟨t.lt,t.1⟩;exact ⟨u.lt,u.1⟩) (fun s wa wb hi hk=>by rw[hk r1 (.inl rfl),hk N (.inr rfl)];exact hi) ⟨t.2,u.2⟩
  (fun s d ds wa σa K le eh c7 hi hr d3 hK=>?_) fun fp cl ai bv=>?_
 .have c0:=(O9 d3).2.1
  exact X0Z eh hr (ok.sm d c0) (ok.nm d c0) (a1.lift le) (bi.lift le) (c7 r1 (.inl rfl)) (c7 N (.inr rfl)) eb hi.1 hi.2 hK
 have O:=ae.nx ai fun k hk=>by rcases hk with rfl | rfl<;>assumption
 obtain ⟨dj,dl⟩:=Q6o (Dy l c.name) [] ([],[]) 0 X89;rw[List.nil_append,<-X1X] at dj dl;cases c8:(W5 Kn ([],[]) (Dy l c.name) 0).1.isSome with
 | true=>
  have:Vq l c=true:=(Q7P _).2 (dj c8);rw[if_pos this] at h;refine Z3 ?_;exact h _ _ O
 | false=>
  have bm:=dl c8
  have:Vq l c=false:=by
   cases e:Vq l c with
   | false=>rfl
   | true=>exact absurd ((Q7P _).1 e) bm.no
  rw[if_neg (by rw[this];simp)] at h
  refine Z7 ?_;have y:=y.lift ai.le;have A:=A.lift ai.le;rw[fa];refine ld O.sat A rfl ?_;unfold Ss at h;cases cy:c.abs with
  | true=>
   rw[cy] at h;refine Z3 ?_;exact h _ _ O
  | false=>
   rw[cy] at h;simp only[Bool.not_false,Bool.true_and] at h;refine Z7 ?_;refine Y6 O.sat (bi.lift ai.le) rfl ?_;generalize fj:(W5 Kn ([],[]) (Dy l c.name) 0).2=st at bm bv;obtain ⟨es,ak,e1,e2,e3,e4⟩:=bv.2;have db:cl N=none:=(ai.old N u.lt).trans u.1;obtain ⟨df,dg⟩:=X6Z e2;refine X9m (tm:=inferInstance) O.sat e1 fun ib fq ek d4 ao d5=>?_;have b0:=(Array.getElem?_eq_some_iff.1 e1).1
   refine Q0y (fun d _ w'=> ∃(W:Q2) (U:Array Nat),d=es.toList.countP (fun e=> !U.contains e.born)/\Stp w σ w' W/\SLe cl W/\W N=none/\w'.heap[N]? =some (.map es ak)/\It W w' ib N es ak U/\ ∀e∈es.toList,e.born∈U-> ∀k,e.key=S k->Vi l c.name k=false) _
    ⟨ek, #[],rfl,O.trans ao,⟨ao.le⟩,(ao.old N b0).trans db,(ao.bel.block N b0).trans e1,d5,by simp⟩ ?_
   rintro b4 d x dd fr ⟨dq,U,rfl,br,ap,c9,a2,a3,a8⟩ d0;have c3:w.heap.size<=ib:=Nat.le_trans O.bel.size d4;refine X9k a3 a2 e4 (fun cz=>?_) fun e dn bk ba bw b9 c2=>?_
   .refine J8 (vs:=[_]) rfl ?_
    refine Z7 ?_
    have:((Ox l c.name).any fun m=>Vi l c.name m.name)=false:=by
     rw[List.any_eq_false];intro m hm;obtain ⟨e,he,bl⟩:=dg m.name ((bm.c m.name).2 ⟨m,hm,rfl⟩);rw[a8 e he (cz e he) _ bl];simp
    rw[this] at h;exact h _ _ br
   .refine J8 (vs:=[_,_,_]) rfl ?_
    refine Z3 ?_
    have an:dn.heap[N]? =some (.map es ak):=by
     rw[bw.block N (Array.getElem?_eq_some_iff.1 a2).1 Q5];exact a2
    have b8:=a3.1;have af:Stp w σ dn dq:=br.kp bw fun k hk=>by rw[hk];exact ⟨c3,b8⟩
    refine X8u c2 an bk (e3.imp fun cc=>Nat.ne_of_lt cc) ?_;refine J8 (vs:=[_,_]) rfl ?_;obtain ⟨k,bl,d7⟩:=df e bk;have e6:SLe cl dq:=ap;refine Y6 af.sat (y.lift ap) rfl ?_;rw[fa];refine ld af.sat (A.lift ap) rfl ?_;rw[bl];refine X4M af.sat (ht.lift ⟨af.le⟩) ok fun pv cv hv fs fz L da=>?_;refine J8 (vs:=[_,_,_]) rfl ?_;refine J8 (vs:=[_,_,_]) rfl ?_;refine J8 (vs:=[_,_,_]) rfl ?_;refine J6 L.sat (by rfl) rfl (Rep.one da) fun fn ej el X bz=>?_
    have ax:=(af.trans L).trans X
    have R:Vi l c.name k=true-> ∀{w8:World} {σ8:Q2},Stp w σ w8 σ8->K (.int .i64 67) w8:=fun hb w8 σ8 q=>by
     obtain ⟨m,hm,ce⟩:=(bm.c k).1 d7;have:((Ox l c.name).any fun m=>Vi l c.name m.name)=true:=List.any_eq_true.2 ⟨m,hm,by rw[ce];exact hb⟩
     rw[this] at h;exact h _ _ q
    have b7:Vi l c.name k=false->b4 () ej:=fun hb=>by
     have c5: ∀e':MapEntry,e'.born∈U.push e.born↔e'.born∈U\/e'.born=e.born:=fun e'=>by simp
     refine d0 _ _ _ ?_ ⟨el,U.push e.born,rfl,ax,ap.more ⟨fun b o h=>X.le _ _ (L.le _ _ h)⟩,?_,?_,(b9.step L).step X,fun e' c1 ef k' ca=>?_⟩
     .refine Q7q (fun x _ hx=>?_) ⟨e,bk,?_,?_⟩
      .simp only[Bool.not_eq_true',Array.contains_push,Bool.or_eq_false_iff] at hx⊢
       exact hx.1
      .simpa using ba
      .simp
     .have bb:=(Array.getElem?_eq_some_iff.1 an).1
      rw[X.old N (Nat.lt_of_lt_of_le bb L.bel.size),L.old N bb];exact c9
     .have bb:=(Array.getElem?_eq_some_iff.1 an).1
      rw[X.bel.block N (Nat.lt_of_lt_of_le bb L.bel.size),L.bel.block N bb];exact an
     .rcases (c5 e').1 ef with h1 | h1
      .exact a8 e' c1 h1 k' ca
      .have:e'=e:=by
        have ea:(es.toList.map (·.born)).Nodup:=e3.imp fun cc=>Nat.ne_of_lt cc;obtain ⟨i,hi,rfl⟩:=List.getElem_of_mem c1;obtain ⟨j,hj,rfl⟩:=List.getElem_of_mem bk;have h5:(es.toList.map (·.born))[i]'(by simpa using hi)=(es.toList.map (·.born))[j]'(by simpa using hj):=by simpa using h1
        have:=(List.getElem_inj ea).1 h5;subst this;rfl
       subst this;rw[bl] at ca
       have:k=k':=by
        have:=ca
        simp at this
        exact this
       rw[<-this];exact hb
    unfold Vi at R b7;cases c6:N2 l c.name k with
    | none=>
     rw[c6] at R;simp only[↓M2,M2,Mb,reduceIte,Option.isSome_none];exact R rfl ax
    | some r=>
     rw[c6] at R b7 bz;simp only[↓M2,M2,Mb,reduceIte,Option.isSome_some];refine ld X.sat bz rfl ?_
     (try simp only[↓M2,M2,Mb,reduceIte])
     cases bn:r.2.abs with
     | true=>
      exact Q4 (fun _=>R bn ax) (fun e=>absurd (bn.symm.trans e) U5)
     | false=>
      exact Q4 (fun e=>absurd (bn.symm.trans e) U5) (fun _=>b7 bn))
end Go.Proofs.Y
namespace Go.Emb
open Go.RowKit Go.Hm
variable {P : Program} {w w' : World} {K : Value -> World -> Prop} {σ : Q2}
theorem X9h {t e:TypeId} {n a:Nat} {z:Value} [ta:TA P t n e] [tz:TZ P e 1 a z] [tg:TG P e false] {cs:List Value} {i:Nat} {v:Value} (d:i<n) (c:cs[i]? =some v) (h:K v w):P0 P t (.agg cs.toArray) (I i) w K:=by
 unfold P0;have b:(0:Int)<=i/\(i:Int)<n:=⟨by omega,by omega⟩
 rw[Z0 (v:=v) (w':=w) (by
  simp only[Instr.index,asIntOf,Sem.run_bind,Sem.run_pure,Result.andThen_ok,run_underlying ta.h,b,and_self,if_true,E8 tz,part,Uc tg]
  simp[c])]
 exact h
theorem X1W {α:Type} {R:Q2->α->List Value->Prop} {B sz:Nat} {e:TypeId} {v:Value} {xs:List α} {a t:TypeId} {cs:List Bool} [ts:TS P a e] (h:W7 B e sz R σ w v xs) (b:K (I xs.length) w):V0 P .len [a] t cs [v] w K:=Fx (V6.of_acc h) b
theorem Wr {α:Type} {R:Q2->α->List Value->Prop} {B sz:Nat} {e:TypeId} {v:Value} {xs:List α} (h:W7 B e sz R σ w v xs):v.cells= #[v]/\v.oneCell'=true:=by
 obtain ⟨cells,c,_⟩:=h
 rcases c.2 with ⟨rfl,_⟩ | ⟨g,a,b,rfl,_⟩<;>exact ⟨rfl,rfl⟩
end Go.Emb
namespace Go.Proofs.Y
open Go.Emb Go.RowKit Go.Kd Go.Hm
variable {w : World} {K : Value -> World -> Prop} {σ : Q2} {v : Value}
theorem X6p (C:X7 w σ) (A:Glb σ) (h: ∀u w' σ',Stp w σ w' σ'->W7 w.heap.size T.c 8 M8 σ' w' u Xg->K u w'):Q0 P F.cS [] w K:=Q9H (by
 unfold Q2W X4;refine N3 (cells:= #[S M3,S [], .slice none 0 0, .bool false, .bool false, .bool false, .slice none 0 0, .slice none 0 0]) X8 ?_;refine N3 (cells:= #[S Wj,S B8, .bool false]) X8 ?_;refine P4 (R:=I7) (sz:=3) C [.agg #[S Wj,S B8, .bool false]] [⟨Wj,B8,false⟩] rfl rfl (by simp;rfl) rfl ⟨⟨rfl,by decide,by decide⟩,trivial⟩ fun H w1 σ1 e o=>?_
 have p:=o;obtain ⟨y,b,rfl,_⟩:=p;refine N3 (cells:= #[S C8,S M3, .slice none 0 0, .bool false, .bool false, .bool false, .slice y 1 b, .slice none 0 0]) X8 ?_
 refine Zh (R:=M8) (sz:=8) e [.agg #[S M3,S [], .slice none 0 0, .bool false, .bool false, .bool false, .slice none 0 0, .slice none 0 0], .agg #[S C8,S M3, .slice none 0 0, .bool false, .bool false, .bool false, .slice y 1 b, .slice none 0 0]]
  [⟨M3,[],[],false,false,false,[],[]⟩,⟨C8,M3,[],false,false,false,[⟨Wj,B8,false⟩],[]⟩] rfl rfl (by simp;exact ⟨rfl,rfl⟩) rfl
  ⟨⟨_,_,_,rfl,Sl.nil,Sl.nil,Sl.nil,by decide,by decide⟩,⟨_,_,_,rfl,Sl.nil,o,Sl.nil,by decide,by decide⟩,trivial⟩ fun J L k i _=>?_
 have t:=A.lift ⟨e.le⟩;refine Y7 (cs:=M0.map S) k.sat t.flt rfl ?_;refine C4 6 (fun n a w'=> ∃σ',Stp w σ w' σ'/\W7 w.heap.size T.c 8 M8 σ' w' a ([⟨M3,[],[],false,false,false,[],[]⟩,⟨C8,M3,[],false,false,false,[⟨Wj,B8,false⟩],[]⟩]++(M0.take n).map fun n=>⟨n,C8,[],false,false,true,[],[]⟩)) ⟨σ1,e.trans k,i⟩ fun n a M d E j=>?_;obtain ⟨O,g,c⟩:=j;have z:M0.length=6:=rfl;refine J0 ?_;refine Q4 (fun hh=>?_) (fun hh=>?_)
 .have f:n<6:=by have:=of_decide_eq_true hh;omega
  refine X9h (v:=S (M0[n]'(by omega))) f (by rw[List.getElem?_map,List.getElem?_eq_getElem Q5];rfl) ?_
  refine N3 (cells:= #[S (M0[n]'(by omega)),S C8, .slice none 0 0, .bool false, .bool false, .bool true, .slice none 0 0, .slice none 0 0]) X8 ?_
  have m:(M0[n]'(by omega)).length<=10:=by
   have: ∀x∈M0,x.length<=10:=by decide
   exact this _ (List.getElem_mem _)
  refine Lz (x:=⟨M0[n]'(by omega),C8,[],false,false,true,[],[]⟩) g c ⟨_,_,_,rfl,Sl.nil,Sl.nil,Sl.nil,Nat.le_trans m W3,(by decide:C8.length<=W6)⟩ rfl rfl rfl (by simp;omega) (by simp;omega) fun s u N D B q r _=>?_
  refine R5 ?_;refine V2 Q5 f ⟨D,q,?_⟩;rw[List.take_add_one,List.getElem?_eq_getElem Q5,List.map_append,<-List.append_assoc];exact r
 .have f: ¬n<6:=by have:=of_decide_eq_false hh;omega
  rw[List.take_of_length_le Q5] at c;exact h _ _ _ g c)
end Go.Proofs.Y
namespace Go.Hm
open Go.Kd
def B2 {α:Type} (f:α->Int):List α->Nat->Option (Nat×Int)
 | [],_=>none
 | x::r,i=>if f x=0 then B2 f r (i+1) else some (i,f x)
theorem Xw {α:Type} {f:α->Int}: ∀{l:List α} {i:Nat},B2 f l i=none-> ∀x∈l,f x=0
 | [],_,_=>by simp
 | x::r,i,h=>by
  simp only[B2] at h
  split at h
  .rename_i a
   intro y hy
   rcases List.mem_cons.1 hy with rfl | hy
   .exact a
   .exact Xw h y hy
  .cases h
def Gw (a:List Cla):Option Nat:=(List.range a.length).find? fun i=>(U1 (a.take i) (J1 a i)).isSome
def Q3 (l:List Cla):List Cla:=Xg++l
def Im (a:Cla->Int) (l:List Cla):Option (Int×Int):=match B2 a l 0 with
 | some (i,e)=>some (i,e)
 | none=>match Gw (Q3 l) with
  | some i=>some ((i:Int)-8,60)
  | none=>match B2 (fun c=>(B6 (Q3 l) c:Int)) l 0 with
   | some (i,e)=>some (i,e)
   | none=>match l.findIdx? (Yb (Q3 l)) with
    | some i=>some (i,63)
    | none=>match (O6 (Q3 l) 8).find? fun j=> !decide (O5 (Q3 l) ((Q3 l).getD j Cla.zero)=0) with
     | some j=>some ((j:Int)-8,O5 (Q3 l) ((Q3 l).getD j Cla.zero))
     | none=>none
theorem Q9t {s:X2} (h:name s=true):s.length<=32:=by
 cases s with
 | nil=>simp
 | cons c r=>simp only[name,Bool.and_eq_true,decide_eq_true_eq] at h;exact h.1.1
theorem X4W {s:X2} (h:C2 s=true):s.length<=32:=Q9t (Ht (by rw[h,Bool.or_true]))
theorem X2w {s:X2} (h:B3 s=true):s.length<=32:=by
 cases s with
 | nil=>simp
 | cons c r=>simp only[B3,Bool.and_eq_true] at h;exact Q9t h.1
theorem Q0W {a:List Cla} (h:Gw a=none):Yg a:=by
 unfold Gw at h;rw[List.find?_eq_none] at h;unfold Yg;rw[List.nodup_iff_pairwise_ne,List.pairwise_iff_getElem];intro i j g b k e;simp only[List.length_map] at g b;have:=h j (by simp;exact b)
 apply this;simp only[List.getElem_map] at e;cases f:U1 (a.take j) (J1 a j) with
 | some _=>rfl
 | none=>
  have c:=List.findIdx?_eq_none_iff.1 f a[i] (List.mem_take_iff_getElem.2 ⟨i,by omega,rfl⟩)
  have d:J1 a j=a[j].name:=by unfold J1;rw[List.getD_eq_getElem?_getD,List.getElem?_eq_getElem b];rfl
  rw[d] at c
  simp[e] at c
theorem Dn: ∀c∈Xg,Zf c/\Nm c/\c.like=[]:=by
 have h: ∀c∈Xg,(c.like=[]/\c.methods=[]/\c.fields.length<=1/\c.name.length<=100/\ ∀f∈c.fields,f.name.length<=100/\f.kind.length<=100):=by decide
 intro c g;obtain ⟨b,a,i,d,e⟩:=h c g;refine ⟨⟨by rw[b];simp,by omega,by rw[a];simp,by rw[a];simp⟩,⟨d,e,by rw[a];simp⟩,b⟩
theorem X56: ∀c∈Xg,(c.name=M3/\M6 c=[[]])\/(c.name=C8/\M6 c=[M3])\/(c.name∈M0/\M6 c=[C8]):=by decide
theorem Q8z {l:List Cla} (o:Yg (Q3 l)) (y: ∀c∈l,c.name≠[]) (w: ∀c∈l,Yb (Q3 l) c=false):Vw (Q3 l):=by
 have k:lk (Q3 l) []=none:=by
  cases h:lk (Q3 l) [] with
  | none=>rfl
  | some c=>
   obtain ⟨e,hm,_⟩:=O9 h
   rcases List.mem_append.1 hm with hm | hm
   .have: ∀c∈Xg,c.name≠[]:=by decide
    exact absurd e (this c hm)
   .exact absurd e (y c hm)
 have j:lk (Q3 l) M3=some ⟨M3,[],[],false,false,false,[],[]⟩:=o.lk (c:=⟨M3,[],[],false,false,false,[],[]⟩) (List.mem_append_left _ (by decide))
 have g:lk (Q3 l) C8=some ⟨C8,M3,[],false,false,false,[⟨Wj,B8,false⟩],[]⟩:=o.lk (c:=⟨C8,M3,[],false,false,false,[⟨Wj,B8,false⟩],[]⟩) (List.mem_append_left _ (by decide))
 have p: ∀b,¬Reach (lk (Q3 l)) [] b:=fun b h=>by obtain ⟨c,d⟩:=h.left;rw[k] at d;cases d
 have q: ∀b,Reach (lk (Q3 l)) M3 b->b=M3:=by
  intro b h;cases h with
  | refl=>rfl
  | step d f i=>
   rw[j] at d;cases d
   simp[M6] at f;subst f
   exact absurd i (p b)
 have z: ∀b,Reach (lk (Q3 l)) C8 b->b=C8\/b=M3:=by
  intro b h;cases h with
  | refl=>exact .inl rfl
  | step d f i=>
   rw[g] at d;cases d
   simp[M6] at f;subst f
   exact .inr (q b i)
 rintro a ⟨c,d,u,f,i⟩;obtain ⟨e,hm,_⟩:=O9 d
 rcases List.mem_append.1 hm with hm | hm
 .rcases X56 c hm with ⟨m,n⟩ | ⟨m,n⟩ | ⟨m,n⟩<;>rw[n] at f<;>simp at f<;>subst f
  .exact p _ i
  .have:=q _ i
   rw[<-e,m] at this;exact absurd this (by decide)
  .have s: ∀x∈M0,x≠C8/\x≠M3:=by decide
   obtain ⟨t,v⟩:=s _ m;rw[<-e] at i
   rcases z _ i with h | h
   .exact t h
   .exact v h
 .have:=w c hm
  unfold Yb at this;have r:=List.any_eq_false.1 this u f;apply r;rw[List.contains_iff_mem,Mh,e];exact i
end Go.Hm
namespace Go.Proofs.Y
open Go.Emb Go.RowKit Go.Kd Go.Hm
theorem Q05 {s:X2} (h:right s=true):s.length<=38:=by
 simp only[right,Bool.and_eq_true,decide_eq_true_eq] at h;have e:=Q3Q s
 have:(base s).1.length<=32:=by
  have d:=h.2;have b:=Ht d;cases a:(base s).1 with
  | nil=>simp
  | cons c r=>
   rw[a] at b;simp only[name,Bool.and_eq_true,decide_eq_true_eq] at b;exact b.1.1
 omega
theorem Tc {c:Cla} (h:B9 c=0):Zf c/\Nm c/\c.name≠[]:=by
 unfold B9 at h
 split at h
 .cases h
 .rename_i b
  split at h
  .rename_i j
   simp only[Vt,Bool.or_eq_true,decide_eq_true_eq,not_or,List.any_eq_true,not_exists,not_and] at b;obtain ⟨⟨⟨k,s⟩,t⟩,u⟩:=b;simp only[Bl,Bool.and_eq_true] at j;obtain ⟨⟨⟨⟨⟨⟨⟨⟨o,v⟩,w⟩,y⟩,z⟩,A⟩,B⟩,q⟩,r⟩:=j;have a:C2 c.name=true:=List.all_eq_true.1 o c.name U5
   have d: ∀m∈c.methods,m.params.length<=32/\m.catches.length<=32/\m.code.length<=200:=fun m b=>by
    have:=k m b;simp only[Og,Bool.or_eq_true,decide_eq_true_eq,not_or] at this;omega
   refine ⟨⟨by omega,by omega,by omega,fun m b=>by have:=d m b;unfold SmM;omega⟩,⟨by have:=X4W a;omega,fun f l=>?_,fun m b=>?_⟩,fun e=>by rw[e] at a;simp[C2] at a⟩
   .have:=List.all_eq_true.1 q f l
    simp only[Gx,Bool.and_eq_true] at this;have g:=X2w this.1;have i:=Q05 this.2;omega
   .have:=List.all_eq_true.1 r m b
    simp only[Xu,Bool.and_eq_true,Bool.or_eq_true,decide_eq_true_eq,List.all_eq_true] at this;obtain ⟨⟨⟨_,g⟩,i⟩,_⟩:=this;refine ⟨?_,fun p n=>by have:=Q05 (g p n);omega⟩
    rcases i with e | e
    .rw[e];simp
    .have:=Q05 e;omega
  .cases h
end Go.Proofs.Y
namespace Go.Hm
open Go.Kd
theorem Od {α:Type} {f:α->Int} {xs:List α} {n:Nat} (h:n<xs.length) (a:B2 f xs 0=B2 f (xs.drop n) n):B2 f xs 0=if f xs[n]=0 then B2 f (xs.drop (n+1)) (n+1) else some (n,f xs[n]):=by
 rw[a,List.drop_eq_getElem_cons h];rfl
theorem X2k {a:List Cla} {n:Nat} (h:n<a.length) (k:X2):U1 (a.take (n+1)) k=match U1 (a.take n) k with
 | some i=>some i
 | none=>if a[n].name=k then some n else none:=by
 unfold U1;rw[List.take_add_one,List.getElem?_eq_getElem h];simp only[Option.toList_some,List.findIdx?_append];cases (a.take n).findIdx? fun c=>decide (c.name=k) with
 | some i=>rfl
 | none=>
  simp only[Option.none_or,List.findIdx?_cons,List.findIdx?_nil,List.length_take]
  by_cases e:a[n].name=k
  .simp[e];omega
  .simp[e]
end Go.Hm
namespace Go.Proofs.Y
open Go.Emb Go.RowKit Go.Kd Go.Hm
variable {w : World} {K : Value -> World -> Prop} {σ : Q2} {v : Value} {l : List Cla}
theorem Q0V {a:List Cla} {n:Nat} (h:n<a.length):J1 a n=a[n].name:=by unfold J1;rw[List.getD_eq_getElem?_getD,List.getElem?_eq_getElem h];rfl
set_option maxRecDepth 9999 in
set_option maxHeartbeats 1000000 in
theorem X8G {lv:Value} (hs:X7 w σ) (hg:Glb σ) (hl:Sl 8 M8 σ lv l) (hlen:l.length<=1000) (hsm: ∀c∈l,Zf c)
 (h1: ∀i e w' σ',Im B9 l=some (i,e)->Stp w σ w' σ'->K (.tuple #[.pointer none,I i,I e]) w')
 (h0: ∀v w' σ',Im B9 l=none->Stp w σ w' σ'->Tab σ' v (Q3 l)->Ok (Q3 l)->Yg (Q3 l)->K (.tuple #[v,I 0,I 0]) w'):Q0 P F.d0 [lv] w K:=X2J (by
 unfold Q5P;simp only[Y3,X3,N0];unfold Y1 V1 V3 Y0 X4 X5;have hgl:Xg.length=8:=rfl;have hal:(Q3 l).length=8+l.length:=by simp[Q3,hgl]
 refine X6p hs hg fun x0 w1 σ1 hk1 ha1=>?_;refine Q62 hk1.sat fun r w2 hr hk2 hm2=>?_;have ha2:=ha1.up hk2;have hx0:x0.cells= #[x0]/\x0.oneCell'=true:=Wr ha1
 have hx0s: ∃a n c,x0= .slice a n c:=by
  obtain ⟨cells,q1,_⟩:=ha1
  rcases q1.2 with ⟨rfl,_⟩ | ⟨g,cap,cur,rfl,_⟩<;>exact ⟨_,_,_,rfl⟩
 have hx0r:x0.ownBlock≠some r:=fun e=>by have:=(ha1.mem r e).2.1;omega
 obtain ⟨a0,n0,c0,hx0e⟩:=hx0s;rw[hx0e];refine N3 (cells:= #[.slice a0 n0 c0, .map (some r)]) X8 ?_;rw[<-hx0e];refine Rd (cs:=[x0, .map (some r)]) hk2.sat fun bt w3 σ3 hbt hk3 hbm=>?_;have hS3:=(hk1.trans hk2).trans hk3;have ha3:=ha2.up hk3;have hm3:=hm2.up hk3;have hrw:w.heap.size<=r:=Nat.le_trans hk1.bel.size hr;have hrl:r<w2.heap.size:=hm2.lt;have hbtw:w.heap.size<=bt:=C6 hbt (hk1.trans hk2);have hrbt:r≠bt:=by omega
 have hx0b:x0.ownBlock≠some bt:=fun e=>by have:=(ha2.mem bt e).2.1;omega
 rw[H7,fa];refine I1 hbm rfl ?_;refine X1W ha3 ?_;rw[hgl];have hl3:=hl.up hS3;refine Q7 hl3 ?_
 -- classes, each by itself
 refine V7 l.length (fun n w'=> ∃σ' x,Stp w σ w' σ'/\SLe σ3 σ'/\Y8 σ' w' bt [x, .map (some r)]/\W7 w.heap.size T.c 8 M8 σ' w' x (Xg++l.take n)/\P3 σ' w' r []/\x.ownBlock≠some bt/\x.ownBlock≠some r/\B2 B9 l 0=B2 B9 (l.drop n) n)
  ⟨σ3,x0,hS3,SLe.refl _,hbm,by simpa using ha3,hm3,hx0b,hx0r,rfl⟩ fun n w4 d hn hinv=>?_
 obtain ⟨σ4,x,hS4,le4,hb4,ha4,hm4,hxb,hxr,hfb⟩:=hinv;refine J0 ?_;refine Q4 (fun hh=>?_) (fun hh=>?_)
 .have hn':n<l.length:=by simpa using hh
  refine E5 (hl3.lift le4) hn' fun p cells hl1 hl2 hr1=>?_;refine Y7 hS4.sat hl1 hl2 ?_;refine J6 hS4.sat (by rfl) hl2 (Rep.one hr1) fun q w5 σ5 hk5 hq5=>?_
  have hS5:=hS4.trans hk5;have hr5:=RCl_lift hr1 ⟨hk5.le⟩;refine Y7 hk5.sat hq5 hl2 ?_;have hsmn:=hsm _ (List.getElem_mem hn');refine X6n hk5.sat (hg.lift ⟨hS5.le⟩) hr5 hsmn.1 fun w6 σ6 hk6=>?_;have hS6:=hS5.trans hk6;have hfb2:=Od hn' hfb;refine P8 ?_;refine Q4 (fun hh2=>?_) (fun hh2=>?_)
  .have hne: ¬B9 l[n]=0:=by simpa using hh2
   rw[if_neg hne] at hfb2;refine h1 _ _ _ _ ?_ hS6;unfold Im;rw[hfb2]
  .have hz:B9 l[n]=0:=by simpa using hh2
   rw[if_pos hz] at hfb2;have hk56:=hk5.trans hk6;have hb6:=hb4.up hk56;have ha6:=ha4.up hk56;have hm6:=hm4.up hk56;have hq6:=hq5.up hk6;have hr6:=RCl_lift hr5 ⟨hk6.le⟩;have hxs: ∀k,x.ownBlock=some k->k<w6.heap.size:=fun k hk=>(ha6.mem k hk).2.1;refine U8 hk6.sat ?_;refine X9 (.pointer (some ⟨bt,0,none⟩)) (fun w hb=>by rw[H7];exact Y5 rfl) ?_
   refine X9 (.pointer (some ((⟨bt,0,none⟩:Addr).add 0))) (fun t w hb e=>by rw[e,fa];exact Y5 rfl) ?_
   refine X9 x (fun t w hb e=>by rw[e];exact I1 (hb6.step hb.stp) rfl (Y5 rfl)) ?_
   refine X9 (.agg cells.toArray) (fun w hb=>Y7 hb.sat hq6 hl2 (Y5 rfl)) ?_
   refine Um (Φ:=fun σ' v=> ∃ds:List Value,v= .agg ds.toArray/\ds.length=8/\M8 σ' l[n] ds) (fun t w hb e=>by
    rw[e];exact X4P hb.sat hr6 hsmn fun lv fv mv w' σ' hk hrc=>Eb hb hk ⟨_,rfl,rfl,hrc⟩) ?_
   refine Um (w:=w6) (σ:=σ6) (Φ:=fun σ' v=>Sl 8 M8 σ' v [l[n]]) (fun t w hb e=>by
    obtain ⟨σ',hk,ds,rfl,hd1,hd2⟩:=e;refine P4 (R:=M8) (sz:=8) hk.sat [.agg ds.toArray] [l[n]] rfl rfl (by simpa [Value.cells] using hd1) rfl ⟨by simpa [Value.cells] using hd2,trivial⟩ fun u w2 σ2 hk2 hu=>?_
    exact ⟨hk2.bel,σ2,hk.trans hk2,hu⟩) ?_
   rintro t43 t44 t45 t46 t47 t48 w7 hb7 _ _ e45 _ _ ⟨σ8,hk8,hu8⟩;subst e45;have hS8:=hS6.trans hk8;have hb8:=hb6.up hk8;have ha8:=ha6.up hk8;have hm8:=hm6.up hk8;have hbl:=hb6.lt;have hml:=hm6.lt;refine Jm hS8 ha8 hu8 rfl (by simp[hgl];omega) (by simp[hgl];omega) fun x' w9 hn9 hS9 ha9 hat9=>?_
   have hb9:=hb8.nx hn9 hxb;have hm9:=hm8.nx hn9 hxr
   have hxb':x'.ownBlock≠some bt:=fun e=>by
    rcases hat9 with e2 | e2
    .exact hxb (e2▸e)
    .have:=e2 bt e;have:=hk8.bel.size;omega
   have hxr':x'.ownBlock≠some r:=fun e=>by
    rcases hat9 with e2 | e2
    .exact hxr (e2▸e)
    .have:=e2 r e;have:=hk8.bel.size;omega
   obtain ⟨hxc1,hxc2⟩:=Wr ha9;rw[H7,fa];refine Yj hb9 U5 hxc1 hxc2 fun w10 u10 hb10=>?_;have hS10:=u10.stp hS9 hbtw hb9.1;have k10:Kpt (fun k=>k=bt) w9 w10:=Kpt.of_upd u10 rfl;refine R5 ?_;refine Z5 hl3.max hn' ⟨σ8,x',hS10,le4.more ⟨fun b o e=>hk8.le _ _ (hk56.le _ _ e)⟩,hb10,?_,hm9.kp k10 hrbt,hxb',hxr',hfb2⟩;have:=ha9.kp k10 fun k hk e=>hxb' (e▸hk);rw[List.take_add_one,List.getElem?_eq_getElem hn',<-List.append_assoc];exact this
 have hn': ¬n<l.length:=by simpa using hh
 rw[List.take_of_length_le Q5] at ha4;rw[List.drop_eq_nil_of_le Q5] at hfb;have hfb:B2 B9 l 0=none:=hfb;have hck:=Xw hfb;have hcf: ∀c∈l,Zf c/\Nm c/\c.name≠[]:=fun c hc=>Tc (hck c hc)
 have hsmall: ∀c∈Q3 l,Zf c:=fun c hc=>by
  rcases List.mem_append.1 hc with hc | hc
  .exact (Dn c hc).1
  .exact (hcf c hc).1
 have hnmall: ∀c∈Q3 l,Nm c:=fun c hc=>by
  rcases List.mem_append.1 hc with hc | hc
  .exact (Dn c hc).2.1
  .exact (hcf c hc).2.1
 have hlenall:(Q3 l).length<=100000:=by omega
 unfold Im at h1 h0;rw[hfb] at h1 h0;simp only at h1 h0
 -- from now on the classes stay
 obtain ⟨σ5,hS5,hv5,le5,old5⟩:=ha4.keep hS4;have hb5:Y8 σ5 w4 bt _:=⟨(old5 bt fun e=>hxb e.symm).trans hb4.1,hb4.2⟩;have hm5:P3 σ5 w4 r []:=⟨(old5 r fun e=>hxr e.symm).trans hm4.1,hm4.2⟩;obtain ⟨σ6,hS6,hb6,le6,old6⟩:=hb5.keep hS5 hbtw;have hm6:P3 σ6 w4 r []:=⟨(old6 r hrbt).trans hm5.1,hm5.2⟩;have hv6:Sl 8 M8 σ6 x (Q3 l):=hv5.le le6;clear hb5 hb4 ha4;rw[H7,fa];refine ld hS6.sat hb6 rfl ?_;refine Q7 hv6 ?_
 refine V7 (Q3 l).length (fun n w'=> ∃σ' m,Stp w σ w' σ'/\SLe σ6 σ'/\P3 σ' w' r m/\(∀k,P6 m k=(U1 ((Q3 l).take n) k).map (fun i:Nat=>I (i:Int)))/\ ∀j,j<n->(U1 ((Q3 l).take j) (J1 (Q3 l) j)).isSome=false)
  ⟨σ6,[],hS6,SLe.refl _,hm6,by simp[P6,U1],by intro j hj;omega⟩ fun n w5 d hn2 hinv=>?_
 obtain ⟨σ7,m,hS7,le7,hm7,hlm,hnd⟩:=hinv;refine J0 ?_;refine Q4 (fun hh2=>?_) (fun hh2=>?_)
 .have hn3:n<(Q3 l).length:=by simpa using hh2
  refine E5 (hv6.lift le7) hn3 fun p cells hl1 hl2 hr1=>?_;refine Y7 hS7.sat hl1 hl2 ?_;refine J6 hS7.sat (by rfl) hl2 (Rep.one hr1) fun q w6 σ8 hk8 hq8=>?_
  obtain ⟨lv',fv,mv,rfl,f1,f2,f3,f4,f5⟩:=hr1;have hS8:=hS7.trans hk8;have le8:SLe σ6 σ8:=le7.more ⟨hk8.le⟩;have hm8:=hm7.up hk8;have hb8:=hb6.lift le8;rw[fa];refine ld hk8.sat hq8 rfl ?_;refine Bj ?_;unfold La;simp only[D9];unfold Y1;rw[H7,fa];refine ld hk8.sat hb8 rfl ?_;refine X4B Z2 hm8.2 _ ?_;refine J8 (vs:=[_,_]) rfl ?_;refine J8 (vs:=[_,_]) rfl ?_;have hna:=Q0V hn3;have hfd:=hlm (Q3 l)[n].name;cases hfc:U1 ((Q3 l).take n) (Q3 l)[n].name with
  | some i=>
   rw[hfc] at hfd;rw[hfd];refine Z3 ?_
   have hdup:Gw (Q3 l)=some n:=by
    unfold Gw;rw[List.find?_range_eq_some];refine ⟨by rw[hna,hfc];rfl,by simpa using hn3,fun j hj=>by rw[hnd j hj];rfl⟩
   refine Vs ⟨by omega,by omega⟩ ?_
   refine h1 _ _ _ _ ?_ hS8;rw[hdup];rfl
  | none=>
   rw[hfc] at hfd;rw[hfd];refine Z7 ?_;refine U8 hk8.sat ?_;refine X9 (.pointer (some ⟨bt,0,none⟩)) (fun w hb=>by rw[H7];exact Y5 rfl) ?_
   refine X9 (.pointer (some ((⟨bt,0,none⟩:Addr).add 1))) (fun t w hb e=>by rw[e,fa];exact Y5 rfl) ?_
   refine X9 (.pointer (some (q.add 0))) (fun w hb=>by rw[fa];exact Y5 rfl) ?_
   refine X9 (.map (some r)) (fun t w hb e=>by rw[e];exact ld hb.sat hb8 rfl (Y5 rfl)) ?_
   refine X9 (S (Q3 l)[n].name) (fun t w hb e=>by rw[e];exact ld hb.sat hq8 rfl (Y5 rfl)) ?_
   rintro t71 t72 t74 t73 t75 w9 hb9 _ _ _ rfl rfl;refine Q0B Z2 (hm8.up hb9.stp) _ (I n) fun w10 u10 hm10=>?_;have hS9:=hS8.trans hb9.stp;have hS10:=u10.stp hS9 hrw hm10.1;refine R5 ?_;refine Z5 Q5 hn3 ⟨σ8,_,hS10,le8,hm10,fun k=>?_,fun j hj=>?_⟩
   .rw[Q7H,X2k hn3 k]
    by_cases e:(Q3 l)[n].name=k
    .subst e
     rw[if_pos rfl,hfc];simp
    .rw[if_neg e,hlm k]
     cases U1 ((Q3 l).take n) k with
     | some i=>rfl
     | none=>simp[e]
   .by_cases e:j=n
    .subst e;rw[hna,hfc];rfl
    .exact hnd j Q5
 have hn3: ¬n<(Q3 l).length:=by simpa using hh2
 have hne:n=(Q3 l).length:=by omega
 subst hne;rw[List.take_of_length_le (Nat.le_refl _)] at hlm
 have hdup:Gw (Q3 l)=none:=by
  unfold Gw;rw[List.find?_eq_none];intro j hj;rw[hnd j (by simpa using hj)];simp
 rw[hdup] at h1 h0;simp only at h1 h0;have hown:=Q0W hdup;obtain ⟨σ8,hS8,hm8,le8,_⟩:=hm7.keep hS7 hrw;have le68:SLe σ6 σ8:=le7.more ⟨le8⟩;have ht8:Tab σ8 (.pointer (some ⟨bt,0,none⟩)) (Q3 l):=⟨⟨bt,0,none⟩,x,r,m,rfl,hb6.lift le68,hv6.lift le68,hm8,hlm⟩;have hb8:=hb6.lift le68;have hv8:=hv6.lift le68;clear hm7 hm8 hh2 hn3 hn2 hh hn' hn hnd;have hdr:(Q3 l).drop 8=l:=by simp[Q3,hgl]
 rw[H7,fa];refine ld hS8.sat hb8 rfl ?_;refine Bn hv8 (some (I (8:Nat))) none 8 (Q3 l).length (.inr rfl) (.inl ⟨rfl,rfl⟩) Q5 (Nat.le_refl _) fun v9 hv9=>?_;rw[hdr,List.take_of_length_le Q5] at hv9;refine Q7 hv9 ?_;refine V7 l.length (fun n w'=> ∃σ',Stp w σ w' σ'/\SLe σ8 σ'/\B2 (fun c=>(B6 (Q3 l) c:Int)) l 0=B2 (fun c=>(B6 (Q3 l) c:Int)) (l.drop n) n) ⟨σ8,hS8,SLe.refl _,rfl⟩ fun n w6 d hn hinv=>?_;obtain ⟨σ9,hS9,le9,hfu⟩:=hinv;refine J0 ?_;refine Q4 (fun hh=>?_) (fun hh=>?_)
 .have hn':n<l.length:=by simpa using hh
  refine E5 (hv9.lift le9) hn' fun p cells hl1 hl2 hr1=>?_;refine Y7 hS9.sat hl1 hl2 ?_;refine J6 hS9.sat (by rfl) hl2 (Rep.one hr1) fun q w7 σ10 hk10 hq10=>?_
  have hS10:=hS9.trans hk10;refine Y7 hk10.sat hq10 hl2 ?_;have hfu2:=Od hn' hfu;refine X4T hk10.sat (ht8.lift (le9.more ⟨hk10.le⟩)) (RCl_lift hr1 ⟨hk10.le⟩) fun w8 σ11 hk11=>?_;refine P8 ?_;refine Q4 (fun hh2=>?_) (fun hh2=>?_)
  .have hne: ¬(B6 (Q3 l) l[n]:Int)=0:=by simpa using hh2
   rw[if_neg hne] at hfu2;refine h1 _ _ _ _ ?_ (hS10.trans hk11);rw[hfu2]
  .have hz:(B6 (Q3 l) l[n]:Int)=0:=by simpa using hh2
   rw[if_pos hz] at hfu2;refine R5 ?_;exact Z5 hl3.max hn' ⟨σ11,hS10.trans hk11,le9.more ⟨fun b o e=>hk11.le _ _ (hk10.le _ _ e)⟩,hfu2⟩
 have hn': ¬n<l.length:=by simpa using hh
 rw[List.drop_eq_nil_of_le Q5] at hfu;have hfu:B2 (fun c=>(B6 (Q3 l) c:Int)) l 0=none:=hfu;rw[hfu] at h1 h0;simp only at h1 h0;have hup:=Xw hfu;have ht9:=ht8.lift le9;clear hh hn' hn;rw[H7,fa];refine ld hS9.sat (hb8.lift le9) rfl ?_;refine Bn (hv8.lift le9) (some (I (8:Nat))) none 8 (Q3 l).length (.inr rfl) (.inl ⟨rfl,rfl⟩) Q5 (Nat.le_refl _) fun v10 hv10=>?_;rw[hdr,List.take_of_length_le Q5] at hv10;rw[Zc];refine Tz (Yb (Q3 l)) hS9.sat hv10 (fun c cs w7 K hc hs7 hr hlen hK=>U3 (first:=[.pointer (some ⟨bt,0,none⟩)]) (caps:=[]) ?_) fun w7 hb7=>?_
 .exact X6v hs7 ht9 hlenall hsmall hr fun w' σ' hk=>hK w' hk.bel
 have hS10:=hS9.trans (Stp.of_below hS9.sat hb7);refine A0 ?_;rw[Yl];cases hlo:l.findIdx? (Yb (Q3 l)) with
 | some i=>
  refine Z3 ?_;refine h1 _ _ _ _ ?_ hS10;rw[hlo];rfl
 | none=>
  rw[hlo] at h1 h0;simp only at h1 h0;refine Z7 ?_;have hlo': ∀c∈l,Yb (Q3 l) c=false:=fun c hc=>List.findIdx?_eq_none_iff.1 hlo c hc;have hacy:=Q8z hown (fun c hc=>(hcf c hc).2.2) hlo'
  have hfull:X4C (Q3 l):=fun c hc u hu=>by
   rcases List.mem_append.1 hc with hc | hc
   .rw[(Dn c hc).2.2] at hu;simp at hu
   .have:=hup c hc
    unfold B6 at this
    split at this
    .simp at this
    .split at this
     .simp at this
     .rename_i hnb
      have hnb:c.like.any (I4 (Q3 l))=false:=eq_false_of_ne_true hnb;have:=List.any_eq_false.1 hnb u hu;unfold I4 at this;cases hd:lk (Q3 l) u with
      | none=>rw[hd] at this;simp at this
      | some d=>exact ⟨d,rfl⟩
  have hok:Ok (Q3 l):=⟨hacy,hlenall,hsmall,hfull,hnmall⟩;refine X6w (frm:=8) hS10.sat (ht9.lift ⟨(Stp.of_below hS9.sat hb7).le⟩) hacy hown hlenall hsmall Q5 Q5 fun v11 w8 σ11 hk11 hv11 hol hoi=>?_;have hS11:=hS10.trans hk11;have ht11:=ht9.lift ⟨fun b o e=>hk11.le _ _ e⟩;refine Q7 hv11 ?_;have hil:(ints (O6 (Q3 l) 8)).length=(O6 (Q3 l) 8).length:=by simp
  rw[hil];refine V7 (O6 (Q3 l) 8).length (fun n w'=> ∃σ',Stp w σ w' σ'/\SLe σ11 σ'/\ ∀j∈(O6 (Q3 l) 8).take n,O5 (Q3 l) ((Q3 l).getD j Cla.zero)=0) ⟨σ11,hS11,SLe.refl _,by simp⟩ fun n w9 d hn hinv=>?_
  obtain ⟨σ12,hS12,le12,hno⟩:=hinv;refine J0 ?_;refine Q4 (fun hh=>?_) (fun hh=>?_)
  .have hn':n<(O6 (Q3 l) 8).length:=by simpa using hh
   refine E5 (hv11.lift le12) (by rw[hil];exact hn') fun p cells hl1 hl2 hr1=>?_
   obtain ⟨rfl,_⟩:=hr1;refine Y6 hS12.sat hl1 rfl ?_;simp only[List.getElem_map];rw[H7,fa];have le8x:SLe σ8 σ12:=le9.more (SLe.more ⟨hk11.le⟩ le12);refine ld hS12.sat (hb8.lift le8x) rfl ?_;have hji:=hoi _ (List.getElem_mem hn');refine E5 (hv8.lift le8x) hji fun p2 cells hl1 hl2 hr1=>?_;refine Y7 hS12.sat hl1 hl2 ?_;have hat:(Q3 l).getD (O6 (Q3 l) 8)[n] Cla.zero=(Q3 l)[(O6 (Q3 l) 8)[n]]:=by rw[List.getD_eq_getElem?_getD,List.getElem?_eq_getElem hji];rfl
   have hmem:=List.getElem_mem hji;refine X3m hS12.sat (ht11.lift le12) hok hr1 (hsmall _ hmem) (hnmall _ hmem) fun w10 σ13 hk13=>?_;have hS13:=hS12.trans hk13;refine P8 ?_;refine Q4 (fun hh2=>?_) (fun hh2=>?_)
   .have hne: ¬O5 (Q3 l) (Q3 l)[(O6 (Q3 l) 8)[n]]=0:=by simpa using hh2
    refine Vs ⟨by omega,by omega⟩ ?_
    have hfind:(O6 (Q3 l) 8).find? (fun j=> !decide (O5 (Q3 l) ((Q3 l).getD j Cla.zero)=0))=some (O6 (Q3 l) 8)[n]:=by
     rw[List.find?_eq_some_iff_getElem];refine ⟨by rw[hat];simpa using hne,n,hn',rfl,fun j hj=>?_⟩
     have:=hno _ (List.mem_take_iff_getElem.2 ⟨j,by omega,rfl⟩)
     rw[this];simp
    have:=h1 (((O6 (Q3 l) 8)[n]:Int)-8) (O5 (Q3 l) (Q3 l)[(O6 (Q3 l) 8)[n]]) w10 σ13 (by rw[hfind];simp only[hat]) hS13
    exact this
   .have hz:O5 (Q3 l) (Q3 l)[(O6 (Q3 l) 8)[n]]=0:=by simpa using hh2
    refine R5 ?_;refine Z5 Q5 hn' ⟨σ13,hS13,le12.more ⟨hk13.le⟩,fun j hj=>?_⟩;rw[List.take_add_one,List.getElem?_eq_getElem hn'] at hj
    rcases List.mem_append.1 hj with hj | hj
    .exact hno j hj
    .simp at hj;subst hj;rw[hat];exact hz
  .have hn': ¬n<(O6 (Q3 l) 8).length:=by simpa using hh
   rw[List.take_of_length_le Q5] at hno
   have hfind:(O6 (Q3 l) 8).find? (fun j=> !decide (O5 (Q3 l) ((Q3 l).getD j Cla.zero)=0))=none:=by
    rw[List.find?_eq_none];intro j hj;rw[hno j hj];simp
   rw[hfind] at h0;exact h0 _ _ _ rfl hS12 (ht11.lift le12) hok hown)
end Go.Proofs.Y
namespace Go.Hm
open Go.Kd
def X3I (m:Hm.Met):Bool:= !(decide (50<m.code.length)||decide (8<m.params.length)||decide (8<m.catches.length))
def X52 (c:Cla):Bool:= !(decide (6<c.like.length)||decide (6<c.fields.length)||decide (6<c.methods.length))&&c.methods.all X3I
def X53 (l:List Cla):Bool:= !decide (12<l.length)&&l.all X52
def sA:X2:=[65]
theorem X3J {l:List Cla} (h:X53 l=true):l.length<=12/\ ∀c∈l,X52 c=true:=by
 simp only[X53,Bool.and_eq_true,Bool.not_eq_true',decide_eq_false_iff_not,List.all_eq_true] at h;exact ⟨by omega,h.2⟩
theorem X85 {l:List Cla} (h:X53 l=true): ∀c∈l,Zf c:=by
 intro c e;have:=(X3J h).2 c e;simp only[X52,X3I,Bool.and_eq_true,Bool.not_eq_true',Bool.or_eq_false_iff,decide_eq_false_iff_not,List.all_eq_true] at this;obtain ⟨⟨⟨a,b⟩,g⟩,d⟩:=this;refine ⟨by omega,by omega,by omega,fun m f=>?_⟩
 obtain ⟨⟨p,q⟩,r⟩:=d m f;exact ⟨by omega,by omega,by omega⟩
end Go.Hm
namespace Go.Proofs.Y
open Go.Emb Go.RowKit Go.Kd Go.Hm
variable {w : World} {K : Value -> World -> Prop} {v : Value}
theorem X9d:P.underlying T.z=some (.pointer T.a3):=by kernel_rfl
theorem X5A (d:Nat) (o:Option Addr):(Op.equalIn (d+1) T.z (.pointer o) (.pointer none)).run P w= .ok o.isNone w:=by
 cases o<;>simp[Op.equalIn,run_underlying X9d]
theorem X8A {a:Addr} {b c:Operand} (h:K (.bool false) w):Z9 P .eql T.z b c (.pointer (some a)) (.pointer none) w K:=by
 have e:(Op.equal T.z (.pointer (some a)) (.pointer none)).run P w= .ok false w:=X5A 9999 _;unfold Z9;rw[Z0 (v:= .bool false) (w':=w) (by simp[eqGuard,Go.binOp,e])]
 exact h
end Go.Proofs.Y
namespace Go.Hm
open Go.Kd
theorem Q9m {l:List Cla} {frm:Nat}: ∀(f:Nat) (out:List Nat) (i:Nat),(∀y∈out,y∈Ys l frm f out i)/\(0<f->frm<=i->i∈Ys l frm f out i):=by
 intro f
 induction f with
 | zero=>intro out i;exact ⟨fun y a=>a,fun h=>by omega⟩
 | succ f e=>
  intro out i
  have b: ∀(d:List X2) (o:List Nat),∀y∈o,y∈d.foldl (fun out n=>Ys l frm f out ((U1 l n).getD 0)) o:=by
   intro d
   induction d with
   | nil=>intro o y a;exact a
   | cons u r c=>intro o y a;exact c _ y ((e o _).1 y a)
  simp only[Ys]
  split
  .exact ⟨fun y a=>a,fun _ h=>by omega⟩
  .split
   .rename_i h;exact ⟨fun y a=>a,fun _ _=>h⟩
   .exact ⟨fun y a=>List.mem_append_left _ (b _ _ y a),fun _ _=>by simp⟩
theorem X3Y {l:List Cla} {frm i:Nat} (d:frm<=i) (e:i<l.length):i∈O6 l frm:=by
 unfold O6
 have key: ∀(is out:List Nat),(∀y∈out,y∈is.foldl (fun out i=>Ys l frm (l.length+1) out i) out)/\(i∈is->i∈is.foldl (fun out i=>Ys l frm (l.length+1) out i) out):=by
  intro is
  induction is with
  | nil=>intro out;exact ⟨fun y b=>b,fun h=>by simp at h⟩
  | cons a r c=>
   intro out;refine ⟨fun y b=>(c _).1 y ((Q9m _ _ _).1 y b),fun h=>?_⟩
   rcases List.mem_cons.1 h with rfl | h
   .exact (c _).1 _ ((Q9m _ _ _).2 (by omega) d)
   .exact (c _).2 h
 refine (key _ _).2 ?_;rw[List.mem_drop_iff_getElem];exact ⟨i-frm,by simp;omega,by simp;omega⟩
theorem X3s {s:X2} (h:C2 s=true):name s=true:=Ht (by rw[h,Bool.or_true])
theorem Q9s {a:X2} (h:name a=true):arr a=false:=by
 cases e:arr a with
 | false=>rfl
 | true=>
  exfalso
  have d:2<=a.length/\a.drop (a.length-2)=[91,93]:=by simpa [arr] using e
  have b:(93:UInt8)∈a:=List.mem_of_mem_drop (i:=a.length-2) (by rw[d.2];simp)
  cases a with
  | nil=>simp at b
  | cons c r=>
   simp only[name,Bool.and_eq_true,List.all_eq_true] at h;have:=h.2 _ b
   revert this;decide
end Go.Hm
namespace Go.Proofs.Y
open Go.Emb Go.RowKit Go.Kd Go.Hm
theorem X40 {a:X2} (h:name a=true):base a=(a,0):=by rw[Jo,Q9s h];simp
theorem Dz {s:X2} (h:C2 s=true):arr s=false/\base s=(s,0)/\right s=true/\plain s=false/\elem s=[]/\s≠G4/\s≠[]:=by
 have c:=Hm.X3s h;have a:=Q9s c;have b:=X40 c;refine ⟨a,b,?_,?_,by simp[elem,a],?_,?_⟩
 .simp[right,b,h]
 .cases d:plain s with
  | false=>rfl
  | true=>
   simp only[plain,Bool.or_eq_true,decide_eq_true_eq] at d
   rcases d with (e | e) | e<;>subst e<;>revert h<;>decide
 .rintro rfl;revert h;decide
 .rintro rfl;revert h;decide
structure Wf (l : List Cla) : Prop where
  ck : ∀ c ∈ l, B9 c = 0
  own : Yg (Q3 l)
  acy : Vw (Q3 l)
  up : ∀ c ∈ l, B6 (Q3 l) c = 0
  mem : ∀ c ∈ l, O5 (Q3 l) c = 0
theorem X9f {l:List Cla} (h:Im B9 l=none):Wf l:=by
 unfold Im at h
 split at h
 .cases h
 rename_i j
 split at h
 .cases h
 rename_i k
 split at h
 .cases h
 rename_i m
 split at h
 .cases h
 rename_i n
 split at h
 .cases h
 rename_i o;have d:=Xw j;have a:=Q0W k;have g: ∀c∈l,Yb (Q3 l) c=false:=fun c b=>List.findIdx?_eq_none_iff.1 n c b;refine ⟨d,a,Q8z a (fun c b=>(Tc (d c b)).2.2) g,fun c b=>by have:=Xw m c b;omega,fun c b=>?_⟩
 obtain ⟨i,p,rfl⟩:=List.getElem_of_mem b;have f:Xg.length=8:=rfl;have:=List.find?_eq_none.1 o (8+i) (X3Y Q5 (by simp[Q3,f];omega))
 have e:(Q3 l).getD (8+i) Cla.zero=l[i]:=by
  rw[List.getD_eq_getElem?_getD,Q3,List.getElem?_append_right Q5,f,show 8+i-8=i by omega,List.getElem?_eq_getElem p];rfl
 rw[e] at this
 simpa using this
section
variable {l : List Cla} (wf : Wf l)
include wf
theorem Wf.names {c:Cla} (hc:c∈Q3 l):C2 c.name=true:=by
 rcases List.mem_append.1 hc with hc | hc
 .have: ∀c∈Xg,C2 c.name=true:=by decide+kernel
  exact this c hc
 .have:=wf.ck c hc
  unfold B9 at this
  split at this
  .cases this
  .split at this
   .rename_i a
    simp only[Bl,Bool.and_eq_true] at a;obtain ⟨⟨⟨⟨⟨⟨⟨⟨b,_⟩,_⟩,_⟩,_⟩,_⟩,_⟩,_⟩,_⟩:=a;exact List.all_eq_true.1 b c.name U5
   .cases this
theorem Wf.lkn {n:X2} {c:Cla} (h:lk (Q3 l) n=some c):C2 n=true:=by
 obtain ⟨e,a,_⟩:=O9 h;rw[<-e];exact wf.names a
theorem Wf.root:lk (Q3 l) M3=some ⟨M3,[],[],false,false,false,[],[]⟩:=wf.own.lk (c:=⟨M3,[],[],false,false,false,[],[]⟩) (List.mem_append_left _ W3)
theorem Wf.fault:lk (Q3 l) C8=some ⟨C8,M3,[],false,false,false,[⟨Wj,B8,false⟩],[]⟩:=wf.own.lk (c:=⟨C8,M3,[],false,false,false,[⟨Wj,B8,false⟩],[]⟩) (List.mem_append_left _ W3)
theorem Wf.super {c:Cla} (hc:c∈Q3 l):c.name=M3\/ ∃d,lk (Q3 l) c.super=some d:=by
 rcases List.mem_append.1 hc with hc | hc
 .have: ∀c∈Xg,c.name=M3\/c.super=M3\/c.super=C8:=by decide
  rcases this c hc with h | h | h
  .exact .inl h
  .exact .inr ⟨_,h▸wf.root⟩
  .exact .inr ⟨_,h▸wf.fault⟩
 .right
  have:=wf.up c hc;unfold B6 at this
  split at this
  .cases this
  .rename_i h
   unfold Ja at h;cases a:lk (Q3 l) c.super with
   | none=>rw[a] at h;simp at h
   | some d=>exact ⟨d,rfl⟩
theorem Wf.toRoot: ∀(k:Nat) {n:X2} {c:Cla},Xx (Q3 l) n<k->lk (Q3 l) n=some c->Hm.Reach (lk (Q3 l)) n M3:=by
 intro k
 induction k with
 | zero=>intro n c h;omega
 | succ k i=>
  intro n c j a;obtain ⟨e,g,_⟩:=O9 a
  rcases wf.super g with h | ⟨d,b⟩
  .rw[<-e,h];exact .refl wf.root
  .have f:c.super∈M6 c:=by simp[M6]
   exact .step a f (i (by have:=Vr wf.acy a f b;omega) b)
theorem Wf.kind {n:X2} {c:Cla} (h:lk (Q3 l) n=some c):H8 (Q3 l) n=true:=by
 obtain ⟨d,a,b,e,f,g,i⟩:=Dz (wf.lkn h);have:Q35 (Q3 l) n=true:=by rw[Q43,h];rfl
 simp[H8,b,a,this]
theorem Wf.sub_iff {a b:X2}:Vd (Q3 l) a b=true↔H8 (Q3 l) a=true/\H8 (Q3 l) b=true/\(a=b\/(plain a=false/\plain b=false/\(a=G4\/(elem a≠[]/\b=M3)\/(lk (Q3 l) a≠none/\Hm.Reach (lk (Q3 l)) a b)))):=by
 unfold Vd;cases j:H8 (Q3 l) a<;>cases k:H8 (Q3 l) b<;>simp
 by_cases e:a=b
 .simp[e]
 cases pa:plain a<;>cases m:plain b<;>simp[e]
 by_cases g:a=G4
 .simp[g]
 simp only[g,false_or]
 by_cases d:elem a=[]
 .simp only[d,if_true,not_true_eq_false,false_and,false_or,Mh]
  constructor
  .intro h;obtain ⟨c,i⟩:=h.left;exact ⟨by rw[i];simp,h⟩
  .intro h;exact h.2
 .simp only[d,if_false,not_false_eq_true,true_and]
  constructor
  .exact .inl
  .rintro (h | ⟨h,_⟩)
   .exact h
   .cases f:lk (Q3 l) a with
    | none=>exact absurd f h
    | some c=>exact absurd (Dz (wf.lkn f)).2.2.2.2.1 d
theorem Wf.sub_class {a b:X2} {c:Cla} (e:lk (Q3 l) a=some c):Vd (Q3 l) a b=true↔Hm.Reach (lk (Q3 l)) a b:=by
 obtain ⟨k,m,n,g,i,j,o⟩:=Dz (wf.lkn e);rw[wf.sub_iff];constructor
 .rintro ⟨_,_,rfl | ⟨_,_,h | ⟨h,_⟩ | ⟨_,h⟩⟩⟩
  .exact .refl e
  .exact absurd h j
  .exact absurd i h
  .exact h
 .intro h
  obtain ⟨d,f⟩:=h.right;exact ⟨wf.kind e,wf.kind f, .inr ⟨g,(Dz (wf.lkn f)).2.2.2.1, .inr (.inr ⟨by rw[e];simp,h⟩)⟩⟩
end
end Go.Proofs.Y
namespace Go.Proofs.Y
open Go.Emb Go.RowKit Go.Kd Go.Hm
theorem X0q {L:List Cla} (f:Vw L): ∀(k:Nat) {n:X2} {c:Cla},Xx L n<k->c∈chain L n->Hm.Reach (lk L) n c.name/\lk L c.name=some c:=by
 intro k
 induction k with
 | zero=>intro n c h;omega
 | succ k o=>
  intro n c p hc;rw[Gu f] at hc;cases a:lk L n with
  | none=>rw[a] at hc;simp at hc
  | some d=>
   rw[a] at hc;have b:=(O9 a).1
   rcases List.mem_cons.1 hc with rfl | hc
   .rw[b];exact ⟨.refl a,a⟩
   .cases g:lk L d.super with
    | none=>rw[Dx g] at hc;simp at hc
    | some e=>
     have i:d.super∈M6 d:=by simp[M6]
     obtain ⟨j,m⟩:=o (by have:=Vr f a i g;omega) hc
     exact ⟨.step a i j,m⟩
theorem X5e {l:List Cla} {a:X2} (h:H8 (Q3 l) a=true) (g:plain a=false):a=G4\/elem a≠[]\/ ∃c,lk (Q3 l) a=some c:=by
 simp only[H8,Bool.or_eq_true,decide_eq_true_eq,Bool.and_eq_true] at h
 rcases h with h | ⟨e,h⟩
 .exact .inl h
 .by_cases d:elem a=[]
  .right;right
   have b:arr a=false:=by
    cases b:arr a with
    | false=>rfl
    | true=>
     have i:=Q7W b e;have:elem a=Kd.cutA a:=by simp[elem,b,e]
     rw[this] at d;have:=Xe b;rw[d] at this;simp at this;omega
   have f:base a=(a,0):=by rw[Jo,b];simp
   rw[f,g] at h;have h:Q35 (Q3 l) a=true:=by simpa using h
   rw[Q43] at h;exact Option.isSome_iff_exists.1 h
  .exact .inr (.inl d)
section
variable {l : List Cla} (wf : Wf l)
include wf
theorem Wf.kRoot:H8 (Q3 l) M3=true:=wf.kind wf.root
theorem Wf.lkArr {a:X2} {c:Cla} (h:lk (Q3 l) a=some c):elem a=[]:=(Dz (wf.lkn h)).2.2.2.2.1
theorem Wf.none_null:lk (Q3 l) G4=none:=by
 cases h:lk (Q3 l) G4 with
 | none=>rfl
 | some c=>exact absurd (wf.lkn h) W3
theorem Wf.sub_root {a:X2} (h:H8 (Q3 l) a=true) (b:plain a=false):Vd (Q3 l) a M3=true:=by
 rw[wf.sub_iff];refine ⟨h,wf.kRoot, .inr ⟨b,by decide,?_⟩⟩
 rcases X5e h b with e | e | ⟨c,e⟩
 .exact .inl e
 .exact .inr (.inl ⟨e,rfl⟩)
 .exact .inr (.inr ⟨by rw[e];simp,wf.toRoot _ (Nat.lt_succ_self _) e⟩)
theorem Wf.sub_refl {a:X2} (h:H8 (Q3 l) a=true):Vd (Q3 l) a a=true:=wf.sub_iff.2 ⟨h,h, .inl rfl⟩
end
end Go.Proofs.Y
namespace Go.Proofs.Y
open Go.Emb Go.RowKit Go.Kd Go.Hm
section
variable {l : List Cla} (wf : Wf l)
include wf
end
end Go.Proofs.Y
namespace Go.Hm
open Go.Kd
end Go.Hm
namespace Go.Proofs.Y
open Go.Emb Go.RowKit Go.Kd Go.Hm
section
variable {l : List Cla} (wf : Wf l)
include wf
end
end Go.Proofs.Y
namespace Go.Proofs.Y
open Go.Emb Go.RowKit Go.Kd Go.Hm
end Go.Proofs.Y
namespace Go.Proofs.Y
open Go.Emb Go.RowKit Go.Kd Go.Hm
section
variable {l : List Cla} (wf : Wf l)
include wf
end
end Go.Proofs.Y
namespace Go.Hm
open Go.Kd
structure Val where
  sort : Int
  n : Int
  s : X2
  ref : Int
deriving DecidableEq
structure Cel where
  kind : X2
  vals : List Val
deriving DecidableEq
def Val.zero:Val:=⟨0,0,[],0⟩
def Cel.zero:Cel:=⟨[],[]⟩
def H5 (k:X2):Val:=if k=Yz then ⟨1,0,[],0⟩ else if k=Wi then ⟨2,0,[],0⟩ else if k=B8 then ⟨3,0,[],0⟩ else Val.zero
def U4 (cs:List Cel):Int:=(cs.map fun c=>1+(c.vals.length:Int)).sum
def D0 (room:Int) (cs:List Cel):Int:=room-U4 cs
def M5 (cs:List Cel) (r:Int):Bool:=decide (0<=r)&&decide (r<cs.length)
def Oc (cs:List Cel) (r:Int):Cel:=cs.getD r.toNat Cel.zero
def L5 (cs:List Cel) (r:Int):X2:=if M5 cs r then (Oc cs r).kind else []
def Lx (cs:List Cel) (r:Int):Int:=if M5 cs r then (Oc cs r).vals.length else 0
def Qd (ok:X2->Bool) (cs:List Cel) (v:Val):X2:=
 if v=Val.zero then G4 else if v=⟨1,v.n,[],0⟩ then Yz else if v=⟨2,v.n,[],0⟩/\(v.n=0\/v.n=1) then Wi
 else if v=⟨3,0,v.s,0⟩/\ok v.s=true then B8 else if v=⟨4,0,[],v.ref⟩ then L5 cs v.ref else []
def K3 (ok:X2->Bool) (l:List Cla) (cs:List Cel) (v:Val) (k:X2):Bool:= !decide (Qd ok cs v=[])&&Vd l (Qd ok cs v) k
def Uu (l:List Cla) (room:Int) (cs:List Cel) (k:X2):List Cel×Int:=
 if Yq l k=false then (cs,91) else if D0 room cs<1+((U6 l k).length:Int) then (cs,90) else (cs++[⟨k,(U6 l k).map fun f=>H5 f.kind⟩],0)
def Qh (l:List Cla) (e:X2):Bool:= !decide (e=G4)&&H8 l e&&decide (Jp e<=2)
def Ws (l:List Cla) (room:Int) (cs:List Cel) (e:X2) (n:Int):List Cel×Int:=
 if Qh l e=false then (cs,91) else if n<0 then (cs,93) else if D0 room cs<=n then (cs,90) else (cs++[⟨e++[91,93],List.replicate n.toNat (H5 e)⟩],0)
def C7 (cs:List Cel) (r a:Int):Int:=if M5 cs r then (if 0<=a/\a<((Oc cs r).vals.length:Int) then 0 else 93) else 92
def Na (cs:List Cel) (r a:Int):Val:=if C7 cs r a=0 then (Oc cs r).vals.getD a.toNat Val.zero else Val.zero
def Wl (l:List Cla) (k:X2) (i:Nat):X2:=if elem k=[] then ((U6 l k).getD i Fld.zero).kind else elem k
def Qc (cs:List Cel) (r a:Int) (v:Val):List Cel:=cs.set r.toNat ⟨(Oc cs r).kind,(Oc cs r).vals.set a.toNat v⟩
def H9 (ok:X2->Bool) (l:List Cla) (cs:List Cel) (r a:Int) (v:Val):List Cel×Int:=
 if C7 cs r a≠0 then (cs,C7 cs r a) else if K3 ok l cs v (Wl l (Oc cs r).kind a.toNat) then (Qc cs r a v,0) else (cs,91)
def Qp (n:Int) (v:Val):Bool:=decide (v.sort=4)&&decide (n<=v.ref)
def Q0o (cs:List Cel) (n:Int):List Cel:=
 if (cs.take (max n 0).toNat).any (fun c=>c.vals.any (Qp (max n 0))) then cs else cs.take (max n 0).toNat
structure ActH where
  kind : Int
  s : X2
  n : Int
  ref : Int
  v : Val
deriving DecidableEq
def T4 (ok:X2->Bool) (l:List Cla) (room:Int) (cs:List Cel) (x:ActH):List Cel:=
 if x.kind=0 then (Uu l room cs x.s).1 else if x.kind=1 then (Ws l room cs x.s x.n).1 else if x.kind=2 then (H9 ok l cs x.ref x.n x.v).1
 else if x.kind=4 then Q0o cs x.ref else cs
structure GoodC (ok : X2 -> Bool) (l : List Cla) (cs : List Cel) (c : Cel) : Prop where
  is : elem c.kind ≠ [] \/ (Yq l c.kind = true /\ c.vals.length = (U6 l c.kind).length)
  kd : H8 l c.kind = true
  fits : ∀ i (h : i < c.vals.length), K3 ok l cs c.vals[i] (Wl l c.kind i) = true
structure GoodH (ok : X2 -> Bool) (l : List Cla) (room : Int) (cs : List Cel) : Prop where
  cells : ∀ c ∈ cs, GoodC ok l cs c
  left : 0 <= D0 room cs
theorem Zu (a b:List Cel):U4 (a++b)=U4 a+U4 b:=by simp[U4]
theorem C0 (a:List Cel):0<=U4 a:=by
 unfold U4
 induction a with
 | nil=>simp
 | cons c r b=>simp only[List.map_cons,List.sum_cons];omega
theorem Yf (a:List Cel):(a.length:Int)<=U4 a:=by
 unfold U4
 induction a with
 | nil=>simp
 | cons c r b=>simp only[List.map_cons,List.sum_cons,List.length_cons];omega
theorem W9 {cs:List Cel} {r:Int}:M5 cs r=true↔ ∃i:Nat,r=i/\i<cs.length:=by
 simp only[M5,Bool.and_eq_true,decide_eq_true_eq];constructor
 .rintro ⟨a,b⟩;exact ⟨r.toNat,by omega,by omega⟩
 .rintro ⟨i,rfl,h⟩;omega
theorem L4 {cs:List Cel} {i:Nat} (h:i<cs.length):Oc cs (i:Int)=cs[i]:=by
 unfold Oc;rw[Int.toNat_natCast,List.getD_eq_getElem?_getD,List.getElem?_eq_getElem h];rfl
theorem Qn {cs:List Cel} {i:Nat} (h:i<cs.length):L5 cs (i:Int)=cs[i].kind:=by
 unfold L5;rw[if_pos (W9.2 ⟨i,rfl,h⟩),L4 h]
theorem X5i {ok:X2->Bool} {cs a:List Cel} {v:Val} (h:v.sort=4->L5 cs v.ref≠[]->L5 a v.ref=L5 cs v.ref) (c:Qd ok cs v≠[]):Qd ok a v=Qd ok cs v:=by
 unfold Qd at*
 split
 .rfl
 .split
  .rfl
  .split
   .rfl
   .split
    .rfl
    .split
     .rename_i d e f g b
      rw[if_neg d,if_neg e,if_neg f,if_neg g,if_pos b] at c;exact h (by rw[b]) c
     .rfl
theorem Fo {ok:X2->Bool} {l:List Cla} {cs a:List Cel} {v:Val} {k:X2} (h:v.sort=4->L5 cs v.ref≠[]->L5 a v.ref=L5 cs v.ref) (b:K3 ok l cs v k=true):K3 ok l a v k=true:=by
 unfold K3 at*
 have c:Qd ok cs v≠[]:=by
  intro e;rw[e] at b;simp at b
 rw[X5i h c];exact b
theorem X2s {cs more:List Cel} {r:Int} (h:L5 cs r≠[]):L5 (cs++more) r=L5 cs r:=by
 have c:M5 cs r=true:=by
  cases b:M5 cs r with
  | true=>rfl
  | false=>unfold L5 at h;rw[b] at h;simp at h
 obtain ⟨i,rfl,a⟩:=W9.1 c;rw[Qn a,Qn (by simp;omega),List.getElem_append_left a]
theorem GoodC.app {ok:X2->Bool} {l:List Cla} {cs more:List Cel} {c:Cel} (h:GoodC ok l cs c):GoodC ok l (cs++more) c:=
 ⟨h.is,h.kd,fun i a=>Fo (fun _ b=>X2s b) (h.fits i a)⟩
section
variable {ok : X2 -> Bool} {l : List Cla} {room : Int} {cs : List Cel}
theorem GoodH.snoc (h:GoodH ok l room cs) {c:Cel} (a:GoodC ok l (cs++[c]) c) (b:1+(c.vals.length:Int)<=D0 room cs):GoodH ok l room (cs++[c]):=by
 refine ⟨fun d hd=>?_,?_⟩
 .rcases List.mem_append.1 hd with hd | hd
  .exact (h.cells d hd).app
  .simp at hd;subst hd;exact a
 .unfold D0 at*;rw[Zu];simp only[U4,List.map_cons,List.map_nil,List.sum_cons,List.sum_nil] at*;omega
end
end Go.Hm
namespace Go.Proofs.Y
open Go.Emb Go.RowKit Go.Kd Go.Hm
section
variable {l : List Cla} (wf : Wf l)
include wf
theorem Wf.field_kinds {n:X2} {f:Fld} (h:f∈U6 (Q3 l) n):B0 (Q3 l) f.kind=true:=by
 unfold U6 at h;obtain ⟨c,g,e⟩:=List.mem_flatMap.1 h;have j:=(X0q wf.acy _ (Nat.lt_succ_self _) (by simpa using g)).2
 obtain ⟨_,b,_⟩:=O9 j
 rcases List.mem_append.1 b with i | hl
 .have d: ∀c∈Xg,∀f∈c.fields,f.kind=B8:=by decide
  rw[d c i f e]
  have:H8 (Q3 l) B8=true:=by
   have m:right B8=true:=by decide
   have k:plain (base B8).1=true:=by decide
   simp[H8,m,k]
  simp[B0,this];decide
 .have:=wf.mem c hl
  unfold O5 at this
  split at this
  .cases this
  .split at this
   .cases this
   .rename_i a
    have a:T6 (Q3 l) c=false:=eq_false_of_ne_true a;unfold T6 at a;rw[Bool.or_eq_false_iff] at a;have:=List.any_eq_false.1 a.1 f e
    simpa using this
theorem Wf.zero_fits {ok:X2->Bool} (g:ok []=true) {cs:List Cel} {k:X2} (h:B0 (Q3 l) k=true):K3 ok (Q3 l) cs (H5 k) k=true:=by
 have a:H8 (Q3 l) k=true/\k≠G4:=by
  simp only[B0,Bool.and_eq_true,Bool.not_eq_true',decide_eq_false_iff_not] at h;exact ⟨h.2,h.1⟩
 by_cases c:k=Yz
 .subst c
  have:K3 ok (Q3 l) cs (H5 Yz) Yz=Vd (Q3 l) Yz Yz:=by
   unfold K3;simp[H5,Qd,Val.zero,Yz]
  rw[this];exact wf.sub_refl a.1
 by_cases d:k=Wi
 .subst d
  have:K3 ok (Q3 l) cs (H5 Wi) Wi=Vd (Q3 l) Wi Wi:=by
   unfold K3;simp[H5,Qd,Val.zero,Wi,Yz]
  rw[this];exact wf.sub_refl a.1
 by_cases f:k=B8
 .subst f
  have:K3 ok (Q3 l) cs (H5 B8) B8=Vd (Q3 l) B8 B8:=by
   unfold K3;simp[H5,Qd,Val.zero,Wi,Yz,B8,g]
  rw[this];exact wf.sub_refl a.1
 .have i:H5 k=Val.zero:=by simp[H5,c,d,f]
  have:K3 ok (Q3 l) cs (H5 k) k=Vd (Q3 l) G4 k:=by
   rw[i];unfold K3 Qd;simp[G4]
  rw[this]
  have b:plain k=false:=by
   cases b:plain k with
   | false=>rfl
   | true=>
    simp only[plain,Bool.or_eq_true,decide_eq_true_eq] at b
    rcases b with (e | e) | e
    .exact absurd e c
    .exact absurd e d
    .exact absurd e f
  exact wf.sub_iff.2 ⟨by simp[H8],a.1, .inr ⟨by decide,b, .inl rfl⟩⟩
end
theorem Q8E (a:X2):arr (a++[91,93])=true:=by
 simp[arr]
theorem Q8F (a:X2):Kd.cutA (a++[91,93])=a:=by
 simp[Kd.cutA]
theorem Q2E (a:X2):base (a++[91,93])=((base a).1,(base a).2+1):=by
 rw[Jo,Q8E,if_pos rfl,Q8F]
theorem X21 {a:X2} (h:right a=true) (b:(base a).2<=2):right (a++[91,93])=true:=by
 unfold right at*;rw[Q2E];simp only[Bool.and_eq_true,decide_eq_true_eq] at*;exact ⟨by omega,h.2⟩
theorem X3b {a:X2} (h:right (a++[91,93])=true):elem (a++[91,93])=a:=by
 unfold elem;rw[Q8E,h,Q8F];rfl
theorem X2h {l:List Cla} {e:X2}:Qh l e=true↔B0 l e=true/\right (e++[91,93])=true:=by
 unfold Qh B0;simp only[Bool.and_eq_true,Bool.not_eq_true',decide_eq_false_iff_not,decide_eq_true_eq];constructor
 .rintro ⟨⟨b,h2⟩,a⟩
  have c:right e=true:=by
   unfold H8 at h2;simp only[Bool.or_eq_true,Bool.and_eq_true,decide_eq_true_eq] at h2
   rcases h2 with h2 | h2
   .exact absurd h2 b
   .exact h2.1
  unfold Jp at a;rw[if_pos c] at a;exact ⟨⟨b,h2⟩,X21 c a⟩
 .rintro ⟨⟨b,h2⟩,a⟩
  refine ⟨⟨b,h2⟩,?_⟩;unfold right at a;rw[Q2E] at a;simp only[Bool.and_eq_true,decide_eq_true_eq] at a;unfold Jp
  split
  .omega
  .omega
section
variable {ok : X2 -> Bool} {l : List Cla} {room : Int} {cs : List Cel}
theorem GoodH.obj (wf:Wf l) (f:ok []=true) (h:GoodH ok (Q3 l) room cs) (k:X2):GoodH ok (Q3 l) room (Uu (Q3 l) room cs k).1:=by
 unfold Uu
 split
 .exact h
 split
 .exact h
 rename_i a j;have a:Yq (Q3 l) k=true:=by simpa using a
 have e: ∃c,lk (Q3 l) k=some c:=by
  unfold Yq at a;cases b:lk (Q3 l) k with
  | none=>rw[b] at a;cases a
  | some c=>exact ⟨c,rfl⟩
 obtain ⟨c,b⟩:=e;have g:elem k=[]:=wf.lkArr b;refine h.snoc ⟨.inr ⟨a,by simp⟩,wf.kind b,fun i d=>?_⟩ (by simp only[List.length_map];omega)
 simp only[List.length_map] at d;simp only[List.getElem_map,Wl,g,if_pos];rw[List.getD_eq_getElem?_getD,List.getElem?_eq_getElem d];exact wf.zero_fits f (wf.field_kinds (List.getElem_mem d))
theorem GoodH.arr (wf:Wf l) (k:ok []=true) (h:GoodH ok (Q3 l) room cs) (e:X2) (n:Int):GoodH ok (Q3 l) room (Ws (Q3 l) room cs e n).1:=by
 unfold Ws
 split
 .exact h
 split
 .exact h
 split
 .exact h
 rename_i c m o;have c:Qh (Q3 l) e=true:=by simpa using c
 obtain ⟨j,f⟩:=X2h.1 c;have g:=X3b f
 have b:e≠[]:=by
  rintro rfl
  revert f;decide
 have a:H8 (Q3 l) (e++[91,93])=true:=by
  have a:=j;unfold B0 at a;simp only[Bool.and_eq_true,Bool.not_eq_true',decide_eq_false_iff_not] at a;obtain ⟨d,hk2⟩:=a;unfold H8 at hk2⊢;simp only[Bool.or_eq_true,Bool.and_eq_true,decide_eq_true_eq] at hk2⊢
  rcases hk2 with hk2 | hk2
  .exact absurd hk2 d
  .right;rw[Q2E];exact ⟨f,hk2.2⟩
 refine h.snoc ⟨.inl (by simp only;rw[g];exact b),a,fun i p=>?_⟩ (by simp only[List.length_replicate];omega)
 simp only[List.getElem_replicate,Wl,g,if_neg b];exact wf.zero_fits k j
theorem Q5X {r b x:Int} {v:Val} (g:M5 cs r=true):L5 (Qc cs r b v) x=L5 cs x:=by
 obtain ⟨i,rfl,f⟩:=W9.1 g;have a:(Qc cs i b v).length=cs.length:=by simp[Qc]
 cases c:M5 cs x with
 | false=>
  have:M5 (Qc cs i b v) x=false:=by unfold M5 at*;rw[a];exact c
  unfold L5;rw[c,this];rfl
 | true=>
  obtain ⟨j,rfl,d⟩:=W9.1 c;rw[Qn d,Qn (by rw[a];exact d)]
  simp only[Qc,Int.toNat_natCast,L4 f,List.getElem_set]
  split
  .rename_i e;subst e;rfl
  .rfl
theorem Dr {r a:Int} (h:C7 cs r a=0): ∃i j:Nat,r=i/\a=j/\ ∃(b:i<cs.length),j<(cs[i]).vals.length:=by
 unfold C7 at h
 split at h
 .rename_i d
  obtain ⟨i,rfl,b⟩:=W9.1 d
  split at h
  .rename_i c
   rw[L4 b] at c;exact ⟨i,a.toNat,rfl,by omega,b,by omega⟩
  .cases h
 .cases h
theorem GoodH.set (h:GoodH ok (Q3 l) room cs) (r m:Int) (v:Val):GoodH ok (Q3 l) room (H9 ok (Q3 l) cs r m v).1:=by
 unfold H9
 split
 .exact h
 rename_i s;have s:C7 cs r m=0:=by simpa using s
 split
 .rename_i t
  obtain ⟨i,j,rfl,rfl,g,C⟩:=Dr s;have A:M5 cs (i:Int)=true:=W9.2 ⟨i,rfl,g⟩;rw[L4 g,Int.toNat_natCast] at t;refine ⟨fun c y=>?_,?_⟩
  .have b: ∀{u:Val} {k:X2},K3 ok (Q3 l) cs u k=true->K3 ok (Q3 l) (Qc cs i j v) u k=true:=fun B=>Fo (fun _ _=>Q5X A) B
   have a: ∀d∈cs,GoodC ok (Q3 l) (Qc cs i j v) d:=fun d o=>⟨(h.cells d o).is,(h.cells d o).kd,fun q n=>b ((h.cells d o).fits q n)⟩;have f:c∈cs.set i ⟨cs[i].kind,cs[i].vals.set j v⟩:=by simpa [Qc,L4 g] using y
   rcases List.mem_or_eq_of_mem_set f with f | rfl
   .exact a c f
   .have p:=a _ (List.getElem_mem g)
    refine ⟨by simpa using p.is,p.kd,fun q n=>?_⟩
    simp only[List.length_set] at n;simp only[List.getElem_set]
    split
    .rename_i e;subst e;exact b t
    .exact p.fits q n
  .have e:U4 (Qc cs i j v)=U4 cs:=by
    unfold U4
    congr 1
    have z:(Qc cs i j v).map (fun c=>1+(c.vals.length:Int))=cs.map (fun c=>1+(c.vals.length:Int)):=by
     unfold Qc;rw[List.map_set,L4 g];simp only[List.length_set,Int.toNat_natCast];have w:1+(cs[i].vals.length:Int)=(cs.map (fun c=>1+(c.vals.length:Int)))[i]'(by simpa using g):=by simp
     rw[w,List.set_getElem_self]
    exact z
   have:=h.left;unfold D0 at*;rw[e];exact this
 .exact h
theorem GoodH.cut (h:GoodH ok (Q3 l) room cs) (n:Int):GoodH ok (Q3 l) room (Q0o cs n):=by
 unfold Q0o
 split
 .exact h
 rename_i hn;have hn:=eq_false_of_ne_true hn;generalize hm:max n 0=m at*;have hm0:0<=m:=by omega
 refine ⟨fun c hc=>?_,?_⟩
 .have hcs:=List.mem_of_mem_take hc
  refine ⟨(h.cells c hcs).is,(h.cells c hcs).kd,fun i hi=>Fo (fun h4 hk=>?_) ((h.cells c hcs).fits i hi)⟩;have h1:=List.any_eq_false.1 hn c hc;have h2: ¬Qp m c.vals[i]=true:=fun e=>h1 (List.any_eq_true.2 ⟨_,List.getElem_mem hi,e⟩)
  have hr:M5 cs c.vals[i].ref=true:=by
   cases he:M5 cs c.vals[i].ref with
   | true=>rfl
   | false=>unfold L5 at hk;rw[he] at hk;simp at hk
  obtain ⟨j,hj,hjl⟩:=W9.1 hr
  have hjm:(j:Int)<m:=by
   simp only[Qp,Bool.and_eq_true,decide_eq_true_eq,not_and] at h2;have:=h2 h4;omega
  rw[hj,Qn hjl,Qn (by rw[List.length_take];omega)]
  simp
 .have:U4 cs=U4 (cs.take m.toNat)+U4 (cs.drop m.toNat):=by rw[<-Zu,List.take_append_drop]
  have h3:=C0 (cs.drop m.toNat);have:=h.left;unfold D0 at*;omega
theorem GoodH.act (wf:Wf l) (a:ok []=true) (h:GoodH ok (Q3 l) room cs) (x:ActH):GoodH ok (Q3 l) room (T4 ok (Q3 l) room cs x):=by
 unfold T4
 split
 .exact GoodH.obj wf a h _
 split
 .exact GoodH.arr wf a h _ _
 split
 .exact GoodH.set h _ _ _
 split
 .exact GoodH.cut h _
 .exact h
theorem GoodH.empty (a:0<=room):GoodH ok l room []:=⟨by simp,by simpa [D0,U4] using a⟩
end
end Go.Proofs.Y
namespace Go.Emb
open Go.RowKit Go.Hm
variable {w : World} {σ σ1 σ' : Q2}
def E4 (_:Q2) (v:Val) (cs:List Value):Prop:=cs=[I v.sort,I v.n,S v.s,I v.ref]/\Xv v.sort/\Xv v.n/\v.s.length<=W6/\Xv v.ref
instance:Rep E4:=⟨fun _ h=>h,fun h u hu=>by rw[h.1] at hu;simp at hu;rcases hu with rfl | rfl | rfl | rfl<;>rfl⟩
def Xi (σ:Q2) (c:Cel) (cs:List Value):Prop:= ∃v,cs=[S c.kind,v]/\Sl 4 E4 σ v c.vals/\c.kind.length<=W6
instance:Rep Xi:=⟨fun hk ⟨v,h1,h2,h3⟩=>⟨v,h1,h2.le hk,h3⟩,fun ⟨v,h1,h2,h3⟩ u hu=>by
 rw[h1] at hu;simp at hu;rcases hu with rfl | rfl
 .rfl
 .exact Xp h2⟩
def Q6y (_:Q2) (x:List UInt8×Value) (cs:List Value):Prop:=cs=[S x.1,x.2]/\x.1.length<=W6/\ ∃a n c,x.2= .slice a n c
instance:Rep Q6y:=⟨fun _ h=>h,fun ⟨h1,_,a,n,c,h2⟩ u hu=>by
 rw[h1,h2] at hu;simp at hu;rcases hu with rfl | rfl<;>rfl⟩
def X5K (vs:List Value):Prop:=vs.Pairwise fun a b=> ∀k,a.ownBlock=some k->b.ownBlock≠some k
def Q5w (B:Nat) (e:TypeId) (σ:Q2) (w:World) (vs:List Value) (cs:List Cel):Prop:=vs.length=cs.length/\ ∀i (h:i<vs.length) (a:i<cs.length),V6 B e 4 E4 σ w vs[i] cs[i].vals
theorem Q5w.freeze {B:Nat} {e:TypeId}: ∀{vs:List Value} {cs:List Cel} {σ:Q2},X7 w σ->Q5w B e σ w vs cs->X5K vs->
 ∃σ',X7 w σ'/\SLe σ σ'/\(∀i (h:i<vs.length) (z:i<cs.length),Sl 4 E4 σ' vs[i] cs[i].vals)/\ ∀k,(∀v∈vs,v.ownBlock≠some k)->σ' k=σ k
 | [],cs,σ,f,h,g=>⟨σ,f,SLe.refl _,fun i h=>absurd h (Nat.not_lt_zero i),fun _ _=>rfl⟩
 | v::vs,[],σ,f,h,g=>by have:=h.1;simp at this
 | v::vs,c::cs,σ,f,h,g=>by
  obtain ⟨σ1,s,m,o,o1⟩:=(h.2 0 U5 U5).freeze f;obtain ⟨j,l⟩:=List.pairwise_cons.1 g
  have q:Q5w B e σ1 w vs cs:=⟨by simpa using h.1,fun i d a=>by
   have:=h.2 (i+1) (by simpa using d) (by simpa using a)
   simp only[List.getElem_cons_succ] at this;refine this.shiftR m fun k b=>?_;rw[o1 k fun e=>j _ (List.getElem_mem d) k e.symm b];exact (this.mem b).2.2⟩
  obtain ⟨y,t,n,p,o2⟩:=Q5w.freeze s q l;refine ⟨y,t,m.more n,fun i d a=>?_,fun k b=>?_⟩
  .cases i with
   | zero=>exact o.lift n
   | succ i=>exact p i (by simpa using d) (by simpa using a)
  .rw[o2 k fun u r=>b u (by simp[r]),o1 k fun e=>b v U5 e.symm]
def Zx (vs:List Value) (cs:List Cel):List (List UInt8×Value):=List.zipWith (fun v c=>(c.kind,v)) vs cs
theorem Su {vs:List Value} {cs:List Cel} (h:vs.length=cs.length):(Zx vs cs).length=cs.length:=by simp[Zx,h]
end Go.Emb
namespace Go.Proofs.Y
open Go.Emb Go.RowKit Go.Kd Go.Hm
variable {w : World} {σ σ' : Q2}
def O7 (σ:Q2) (hp tv:Value) (room:Int) (cs:List Cel):Prop:= ∃a lv,hp= .pointer (some a)/\J7 σ a [tv,I room,I (U4 cs),lv]/\Sl 2 Xi σ lv cs
theorem O7.lift {hp tv:Value} {room:Int} {cs:List Cel} (h:O7 σ hp tv room cs) (b:SLe σ σ'):O7 σ' hp tv room cs:=by
 obtain ⟨a,lv,c,d,f⟩:=h;exact ⟨a,lv,c,d.lift b,f.lift b⟩
structure RowsIs (B : Nat) (D : Nat -> Prop) (σ : Q2) (w : World) (lv : Value) (cs : List Cel) : Prop where
  ex : ∃ vs, V6 B T.n 2 Q6y σ w lv (Zx vs cs) /\ Q5w B T.d σ w vs cs /\ X5K (lv :: vs) /\ ∀ k, D k ↔ ∃ v ∈ lv :: vs, v.ownBlock = some k
structure HeapIs (B : Nat) (D : Nat -> Prop) (σ : Q2) (w : World) (hp tv : Value) (room : Int) (cs : List Cel) : Prop where
  ex : ∃ b lv E, hp = .pointer (some ⟨b, 0, none⟩) /\ B <= b /\ Y8 σ w b [tv, I room, I (U4 cs), lv] /\ RowsIs B E σ w lv cs /\ ¬ E b /\ ∀ k, D k ↔ (k = b \/ E k)
variable {w' : World} {B : Nat} {D E : Nat -> Prop} {lv hp tv : Value} {room : Int} {cs : List Cel}
theorem RowsIs.mem (h:RowsIs B D σ w lv cs) {k:Nat} (a:D k):B<=k/\k<w.heap.size/\σ k=none:=by
 obtain ⟨vs,d,c,f,hD⟩:=h.ex;obtain ⟨v,hv,a⟩:=(hD k).1 a
 rcases List.mem_cons.1 hv with rfl | hv
 .exact d.mem a
 .obtain ⟨i,b,rfl⟩:=List.getElem_of_mem hv
  exact (c.2 i b (by rw[<-c.1];exact b)).mem a
theorem RowsIs.nx (h:RowsIs B D σ w lv cs) (k:Nxt E w σ w' σ') (c: ∀k,D k-> ¬E k):RowsIs B D σ' w' lv cs:=by
 obtain ⟨vs,l,d,f,hD⟩:=h.ex;exact ⟨vs,l.nx k fun i a=>c i ((hD i).2 ⟨lv,by simp,a⟩),⟨d.1,fun i a b=>(d.2 i a b).nx k fun j g=>c j ((hD j).2 ⟨vs[i],by simp[List.getElem_mem a],g⟩)⟩,f,hD⟩
theorem RowsIs.up (h:RowsIs B D σ w lv cs) (k:Stp w σ w' σ'):RowsIs B D σ' w' lv cs:=
 h.nx (E:=fun _=>False) (.of_stp k) fun _ _=>id
theorem RowsIs.freeze (h:RowsIs B D σ w lv cs) (A:X7 w σ): ∃σ',X7 w σ'/\SLe σ σ'/\Sl 2 Xi σ' lv cs/\ ∀k,¬D k->σ' k=σ k:=by
 obtain ⟨vs,p,g,y,hD⟩:=h.ex;obtain ⟨b,d⟩:=List.pairwise_cons.1 y;obtain ⟨σ1,C,q,s,o1⟩:=g.freeze A d
 have f:V6 B T.n 2 Q6y σ1 w lv (Zx vs cs):=p.shiftR q fun k a=>by
  rw[o1 k fun v j e=>b v j k a e];exact (p.mem a).2.2
 obtain ⟨J,H,r,t,o2⟩:=f.freeze C;refine ⟨J,H,q.more r,t.conv (R':=Xi) (ys:=cs) (by rw[Su g.1]) fun i L o c z=>?_,fun k a=>?_⟩
 .have l:i<vs.length:=by rw[g.1];exact o
  obtain ⟨m,n,_⟩:=z;have e:(Zx vs cs)[i]=(cs[i].kind,vs[i]):=by simp[Zx]
  rw[e] at m n;exact ⟨vs[i],m,(s i l o).lift r,n⟩
 .rw[o2 k fun e=>a ((hD k).2 ⟨lv,by simp,e.symm⟩),o1 k fun v j e=>a ((hD k).2 ⟨v,by simp[j],e⟩)]
theorem HeapIs.mem (h:HeapIs B D σ w hp tv room cs) {k:Nat} (hk:D k):B<=k/\k<w.heap.size/\σ k=none:=by
 obtain ⟨b,lv,E,rfl,hB,a,c,hE,hD⟩:=h.ex
 rcases (hD k).1 hk with rfl | hk
 .exact ⟨hB,a.lt,a.1⟩
 .exact c.mem hk
theorem HeapIs.nx {F:Nat->Prop} (h:HeapIs B D σ w hp tv room cs) (k:Nxt F w σ w' σ') (a: ∀k,D k-> ¬F k):HeapIs B D σ' w' hp tv room cs:=by
 obtain ⟨b,lv,E,rfl,hB,d,f,hE,hD⟩:=h.ex;exact ⟨b,lv,E,rfl,hB,d.nx k (a b ((hD b).2 (.inl rfl))),f.nx k fun i c=>a i ((hD i).2 (.inr c)),hE,hD⟩
theorem HeapIs.up (h:HeapIs B D σ w hp tv room cs) (k:Stp w σ w' σ'):HeapIs B D σ' w' hp tv room cs:=
 h.nx (F:=fun _=>False) (.of_stp k) fun _ _=>id
theorem HeapIs.freeze (h:HeapIs B D σ w hp tv room cs) (l:X7 w σ): ∃σ',X7 w σ'/\SLe σ σ'/\O7 σ' hp tv room cs/\ ∀k,¬D k->σ' k=σ k:=by
 obtain ⟨b,lv,E,rfl,hB,d,j,hE,hD⟩:=h.ex;obtain ⟨σ1,o,m,g,o1⟩:=j.freeze l;have a:Y8 σ1 w b [tv,I room,I (U4 cs),lv]:=⟨by rw[o1 b hE];exact d.1,d.2⟩
 obtain ⟨q,p,f,i,n⟩:=a.freeze o;exact ⟨q,p,m.more f,⟨_,lv,rfl,i,g.lift f⟩,fun k c=>by rw[n k fun e=>c ((hD k).2 (.inl e)),o1 k fun e=>c ((hD k).2 (.inr e))]⟩
end Go.Proofs.Y
namespace Go.Emb
open Go.RowKit Go.Hm
variable {H : Type} {enc : TypeId × Value -> H} {P : Program} {W : World} {t : TypeId} {cs : List Value} {fuel : Nat} {x : DataW H × List MemPlace}
theorem X79 {c:Array Field} (j:P.underlying t=some (.struct c)) (h:DataW.trod enc P W 0 (fun _=>true) true fuel t cs=some x) (z:Wt P t x.1) (i:Nat) {o m:Nat} {b:TypeId}
 (s:(c[i]?).map (fun f=>(f.type,f.offset))=some (b,o)) (q:P.cellsOf b=m): ∃n y,DataW.trod enc P W 0 (fun _=>true) true n b ((cs.drop o).take m)=some y/\Wt P b y.1:=by
 obtain ⟨xs,n,_,rfl,A,k,l⟩:=DataW.trod_struct j h;obtain ⟨f,a,r⟩:=Option.map_eq_some_iff.1 s;cases r;have e:=l i f a;have g:i<xs.length:=by rw[k];exact (Array.getElem?_eq_some_iff.1 a).1
 rw[List.getElem?_eq_getElem g,q] at e;refine ⟨n,_,e,fun m w=>z m ?_⟩;simp only[DataW.weights,j];exact X1R (i:=i) (u:=f.type) (by rw[List.getElem?_map,Array.getElem?_toList,a];rfl) (by rw[List.getElem?_map,List.getElem?_eq_getElem g];rfl) m w
def Gn (_:Q2) (x:ActH) (cs:List Value):Prop:=cs=[I x.kind,S x.s,I x.n,I x.ref,I x.v.sort,I x.v.n,S x.v.s,I x.v.ref]/\(Xv x.kind/\x.s.length<=W6/\Xv x.n/\Xv x.ref)/\Xv x.v.sort/\Xv x.v.n/\x.v.s.length<=W6/\Xv x.v.ref
instance:Rep Gn:=⟨fun _ h=>h,fun h u hu=>by rw[h.1] at hu;simp at hu;rcases hu with rfl | rfl | rfl | rfl | rfl | rfl | rfl | rfl<;>rfl⟩
end Go.Emb
namespace Go.Proofs.Y
open Go.Emb Go.RowKit Go.Kd Go.Hm
variable {H : Type} {enc : TypeId × Value -> H} {W : World} {cs : List Value} {fuel : Nat} {x : DataW H × List MemPlace}
def X8K:Array Field:= #[⟨"Sort",T.f,0,false, "", "",0⟩,⟨"N",T.a4,1,false, "", "",8⟩,⟨"S",T.b,2,false, "", "",16⟩,⟨"Ref",T.f,3,false, "", "",32⟩]
theorem Q6u:P.underlying T.d=some (.struct X8K):=by kernel_rfl
theorem X1P:P.underlying T.a4=some (.int .i64):=by kernel_rfl
theorem Q9v (h:DataW.trod enc P W 0 (fun _=>true) true fuel T.d cs=some x) (a:Wt P T.d x.1): ∃y,E4 (Wm W) y cs:=by
 obtain ⟨A,B,C,D,rfl⟩:=X8P (X43 Q6u X8 h);obtain ⟨_,_,g,w0⟩:=Dq (o:=0) Q6u h a 0 rfl Q8o;obtain ⟨_,_,i,w1⟩:=Dq (o:=1) Q6u h a 1 rfl X8;obtain ⟨_,_,j,z⟩:=Dq (o:=2) Q6u h a 2 rfl Q0U;obtain ⟨_,_,k,E⟩:=Dq (o:=3) Q6u h a 3 rfl Q8o;obtain ⟨r,b,l⟩:=Au Rb g;obtain ⟨s,c,m⟩:=Au X1P i;obtain ⟨u,e,n⟩:=X44 Z2 j z;obtain ⟨w,f,q⟩:=Au Rb k
 simp at b c e f
 subst b c e f;exact ⟨⟨r,s,u,w⟩,rfl,l,m,n,q⟩
def X8J:Array Field:= #[⟨"Kind",T.f,0,false, "", "",0⟩,⟨"S",T.b,1,false, "", "",8⟩,⟨"N",T.a4,2,false, "", "",24⟩,⟨"Ref",T.f,3,false, "", "",32⟩,⟨"V",T.d,4,false, "", "",40⟩]
theorem Q4f:P.underlying T.m=some (.struct X8J):=by kernel_rfl
theorem X8k (h:DataW.trod enc P W 0 (fun _=>true) true fuel T.m cs=some x) (a:Wt P T.m x.1): ∃y,Gn (Wm W) y cs:=by
 obtain ⟨O,Q,R,U,V,X,Y,Z,rfl⟩:=X8Q (X43 Q4f X8 h);obtain ⟨_,_,n,w0⟩:=Dq (o:=0) Q4f h a 0 rfl Q8o;obtain ⟨_,_,q,w1⟩:=Dq (o:=1) Q4f h a 1 rfl Q0U;obtain ⟨_,_,r,w2⟩:=Dq (o:=2) Q4f h a 2 rfl X8;obtain ⟨_,_,s,w3⟩:=Dq (o:=3) Q4f h a 3 rfl Q8o;obtain ⟨_,_,u,N⟩:=X79 (o:=4) (m:=4) Q4f h a 4 rfl X8;obtain ⟨D,b,w⟩:=Au Rb n;obtain ⟨E,c,z⟩:=X44 Z2 q w1;obtain ⟨J,e,A⟩:=Au X1P r;obtain ⟨L,f,B⟩:=Au Rb s;obtain ⟨M,g,C⟩:=Q9v u N
 simp at b c e f g
 obtain ⟨i,j,k,l⟩:=g;subst b c e f i j k l;exact ⟨⟨D,E,J,L,M⟩,rfl,⟨w,z,A,B⟩,C⟩
theorem X4z:P.underlying T.a8=some (.slice T.m):=by kernel_rfl
variable {v : Value} {d : DataW H} {p : List MemPlace}
set_option maxRecDepth 100000 in
theorem X1q {base:Nat} (g:Value.okWide P W .any base T.a8 v) (h:DataW.Trod enc P W 0 (fun _=>true) true T.a8 v d p) (b:Wt P T.a8 d): ∃l,Sl 8 Gn (Wm W) v l:=by
 obtain ⟨a,n,c,rfl⟩:=WideShapes.okWide_slice X4z g;unfold DataW.Trod at h;obtain ⟨fuel,h⟩:=h;obtain ⟨u,l,e,f⟩:=X90 (R:=Gn) (sz:=8) X4z X8 W3 (fun _ _ _ h b=>X8k h b) h b
 simp[Value.cells] at e
 subst e;exact ⟨l,f⟩
theorem X8O {α:Type} {l:List α} (h:l.length=2): ∃a b,l=[a,b]:=by
 match l,h with
 | [a,b],_=>exact ⟨a,b,rfl⟩
set_option maxRecDepth 100000 in
theorem X6W {base:Nat} (t:Value.okWide P W .any base T.a6 v) (h:DataW.Trod enc P W 0 (fun _=>true) true T.a6 v d p) (u:Wt P T.a6 d): ∃y z cs ds,v= .agg (List.toArray (cs++ds))/\E4 (Wm W) y cs/\E4 (Wm W) z ds:=by
 have i:P.underlying T.a6=some (.array 2 T.d):=by kernel_rfl
 have A:P.cellsOf T.d=4:=by kernel_rfl
 have a:=t;unfold Value.okWide at a;rw[i] at a;obtain ⟨cs,rfl,_,_⟩:=a;unfold DataW.Trod at h;obtain ⟨fuel,h⟩:=h;obtain ⟨xs,m,_,g,q,r,j⟩:=DataW.trod_array i h;simp only[Prod.mk.injEq] at g;obtain ⟨g,_⟩:=g;subst g
 have c:cs.toList.length=8:=by
  have:P.cellsOf T.a6=8:=by kernel_rfl
  rw[<-this,<-q];rfl
 obtain ⟨x0,o,rfl⟩:=X8O r
 have f: ∀y,y∈[x0,o]->Wt P T.d y.1:=fun y w n s=>u n (by
  simp only[DataW.weights,i];exact X4A (List.mem_map.2 ⟨y,w,rfl⟩) n s)
 have k:=j 0 W3;have l:=j 1 W3;rw[A] at k l;obtain ⟨D,B⟩:=Q9v (show _=some x0 from k) (f _ U5)
 obtain ⟨E,C⟩:=Q9v (show _=some o from l) (f _ U5)
 refine ⟨D,E,cs.toList.take 4,cs.toList.drop 4,by simp,?_,?_⟩
 .simpa [Value.cells] using B
 .have e:(cs.toList.drop 4).take 4=cs.toList.drop 4:=List.take_of_length_le (by simp;simp at c;omega)
  have b:=C;simp only[Value.cells,Nat.one_mul] at b;rw[e] at b;exact b
end Go.Proofs.Y
namespace Go.Hm
open Go.Kd
def Ux (xs:List Nat) (n:Option Nat):List Nat:=match n with
 | none=>xs
 | some n=>if n∈xs then xs else xs++[n]
def G3 (tq:Val->Option Nat) (xs:List Nat) (vs:List Val):List Nat:=vs.foldl (fun xs v=>Ux xs (tq v)) xs
def Z6 (out:Nat->List Val) (tq:Val->Option Nat) (v:Val):Nat->List Nat
 | 0=>Ux [] (tq v)
 | i+1=>match (Z6 out tq v i)[i]? with
  | some r=>G3 tq (Z6 out tq v i) (out r)
  | none=>Z6 out tq v i
theorem Lq {α:Type} {xs ys:List α} (h:xs<+:ys) {i:Nat} {x:α} (a:xs[i]? =some x):ys[i]? =some x:=by
 obtain ⟨t,rfl⟩:=h;rw[List.getElem?_append_left (List.getElem?_eq_some_iff.1 a).1];exact a
theorem X5t {xs:List Nat} {n:Option Nat}:xs<+:Ux xs n:=by
 unfold Ux;cases n with
 | none=>exact List.prefix_refl _
 | some n=>
  simp only
  split
  .exact List.prefix_refl _
  .exact List.prefix_append _ _
theorem Fv {xs:List Nat} {n:Option Nat} (h:xs.Nodup):(Ux xs n).Nodup:=by
 unfold Ux;cases n with
 | none=>exact h
 | some n=>
  simp only
  split
  .exact h
  .rename_i hn
   rw[List.nodup_append];exact ⟨h,by simp,fun a d b c e=>by simp at c;subst c;exact hn (e▸d)⟩
theorem Q9y {xs:List Nat} {n:Option Nat} {x:Nat}:x∈Ux xs n↔x∈xs\/n=some x:=by
 unfold Ux;cases n with
 | none=>simp
 | some n=>
  simp only
  split
  .rename_i hn
   constructor
   .exact .inl
   .rintro (h | h)
    .exact h
    .cases h;exact hn
  .simp only[List.mem_append,List.mem_singleton,Option.some.injEq]
   exact or_congr Iff.rfl eq_comm
section
variable {out : Nat -> List Val} {tq : Val -> Option Nat} {v : Val}
theorem Hx: ∀(vs:List Val) (xs:List Nat),xs<+:G3 tq xs vs
 | [],xs=>List.prefix_refl _
 | v::vs,xs=>(X5t (n:=tq v)).trans (Hx vs _)
theorem Is: ∀(vs:List Val) {xs:List Nat},xs.Nodup->(G3 tq xs vs).Nodup
 | [],_,h=>h
 | v::vs,_,h=>Is vs (Fv h)
theorem Fu: ∀(vs:List Val) {xs:List Nat} {x:Nat},x∈G3 tq xs vs↔x∈xs\/ ∃v∈vs,tq v=some x
 | [],xs,x=>by simp[G3]
 | v::vs,xs,x=>by
  show x∈G3 tq (Ux xs (tq v)) vs↔_
  rw[Fu vs,Q9y];simp only[List.mem_cons,exists_eq_or_imp];rw[or_assoc]
theorem P2: ∀i,(Z6 out tq v i).Nodup
 | 0=>Fv List.nodup_nil
 | i+1=>by
  unfold Z6
  split
  .exact Is _ (P2 i)
  .exact P2 i
theorem X0V (i:Nat):Z6 out tq v i<+:Z6 out tq v (i+1):=by
 rw[Z6]
 split
 .exact Hx _ _
 .exact List.prefix_refl _
theorem Zr {i j:Nat} (h:i<=j):Z6 out tq v i<+:Z6 out tq v j:=by
 induction j with
 | zero=>
  have:i=0:=by omega
  subst this;exact List.prefix_refl _
 | succ j a=>
  by_cases e:i=j+1
  .subst e;exact List.prefix_refl _
  .exact (a (by omega)).trans (X0V j)
theorem Zq {i:Nat} (h:(Z6 out tq v i).length<=i): ∀{j},i<=j->Z6 out tq v j=Z6 out tq v i:=by
 intro j c
 induction j with
 | zero=>
  have:i=0:=by omega
  subst this;rfl
 | succ j b=>
  by_cases e:i=j+1
  .subst e;rfl
  .have a:=b (by omega)
   rw[Z6,a,List.getElem?_eq_none (by omega)]
theorem Ge {S:Nat->Prop} (a: ∀x,tq v=some x->S x) (b: ∀r,S r-> ∀p∈out r,∀x,tq p=some x->S x): ∀i,∀x∈Z6 out tq v i,S x
 | 0,x,hx=>by
  unfold Z6 at hx
  rcases Q9y.1 hx with hx | hx
  .cases hx
  .exact a x hx
 | i+1,x,hx=>by
  unfold Z6 at hx
  split at hx
  .rename_i r d
   rcases (Fu _).1 hx with hx | ⟨p,c,hx⟩
   .exact Ge a b i x hx
   .exact b r (Ge a b i r (List.mem_of_getElem? d)) p c x hx
  .exact Ge a b i x hx
theorem Q5j {n:Nat} {xs:List Nat} (h:xs.Nodup) (a: ∀x∈xs,x<n):xs.length<=n:=Go.Emb.K5 n xs h a
variable {n : Nat} (hn : ∀ p x, tq p = some x -> x < n)
include hn
theorem Ps (i:Nat): ∀x∈Z6 out tq v i,x<n:=Ge (S:=fun x=>x<n) (fun x h=>hn _ x h) (fun _ _ p _ x h=>hn p x h) i
theorem Ra (i:Nat):(Z6 out tq v i).length<=n:=Q5j (P2 i) (Ps hn i)
theorem Q6g {i:Nat} (h:n<=i):Z6 out tq v i=Z6 out tq v n:=Zq (Ra hn n) h
theorem Q9Q {r:Nat} (k:r∈Z6 out tq v n) {p:Val} (i:p∈out r) {x:Nat} (l:tq p=some x):x∈Z6 out tq v n:=by
 obtain ⟨j,b,e⟩:=List.mem_iff_getElem.1 k;have h:j<n:=Nat.lt_of_lt_of_le b (Ra hn n)
 -- round j+1 has put all of r's
 have a:j<(Z6 out tq v j).length:=by
  refine Nat.lt_of_not_le fun d=>?_;have:=Zq d (j:=n) (by omega)
  rw[this] at b;omega
 have c:(Z6 out tq v j)[j]? =some r:=by
  have f:=Lq (Zr (out:=out) (tq:=tq) (v:=v) (show j<=n by omega)) (List.getElem?_eq_getElem a)
  rw[List.getElem?_eq_getElem b,e] at f;rw[List.getElem?_eq_getElem a,<-Option.some.inj f]
 have g:x∈Z6 out tq v (j+1):=by
  rw[Z6,c];exact (Fu _).2 (.inr ⟨p,i,l⟩)
 exact (Zr (show j+1<=n by omega)).subset g
omit hn in
theorem Tt {x:Nat} (h:tq v=some x):(Z6 out tq v n)[0]? =some x:=by
 have a:(Z6 out tq v 0)[0]? =some x:=by unfold Z6;rw[h];rfl
 exact Lq (Zr (Nat.zero_le n)) a
omit hn in
theorem Q6h (h:tq v=none): ∀i,Z6 out tq v i=[]
 | 0=>by unfold Z6;rw[h];rfl
 | i+1=>by rw[Z6,Q6h h i];rfl
end
end Go.Hm
namespace Go.Hm
open Go.Kd
abbrev Wp:=List (Nat×Nat)×Bool
def P1 (ta tb:Val->Option Nat) (m:Wp) (v w:Val):Wp:=match ta v,tb w with
 | some x,some y=>if (m.1.any fun p=>decide (p.1=x)||decide (p.2=y))=true then (m.1,m.2&&decide ((x,y)∈m.1)) else (m.1++[(x,y)],m.2)
 | none,none=>(m.1,m.2&&(!decide (v.sort=4)&&decide (v=w)))
 | _,_=>(m.1,false)
def I2 (ta tb:Val->Option Nat) (m:Wp) (a:List (Val×Val)):Wp:=a.foldl (fun m p=>P1 ta tb m p.1 p.2) m
def Cg (oa ob:Nat->List Val) (ka kb:Nat->X2) (ta tb:Val->Option Nat) (m:Wp) (x y:Nat):Wp:=
 ((I2 ta tb m ((oa x).zip (ob y))).1,(I2 ta tb m ((oa x).zip (ob y))).2&&(decide ((oa x).length=(ob y).length)&&decide (ka x=kb y)))
def allI (oa ob:Nat->List Val) (ka kb:Nat->X2) (ta tb:Val->Option Nat) (v w:Val):Nat->Wp
 | 0=>P1 ta tb ([],true) v w
 | i+1=>match (allI oa ob ka kb ta tb v w i).2,(allI oa ob ka kb ta tb v w i).1[i]? with
  | true,some p=>Cg oa ob ka kb ta tb (allI oa ob ka kb ta tb v w i) p.1 p.2
  | _,_=>allI oa ob ka kb ta tb v w i
def Sk (ta tb:Val->Option Nat) (a:List (Nat×Nat)) (p q:Val):Prop:=match ta p,tb q with
 | some x,some y=>(x,y)∈a
 | none,none=>p.sort≠4/\p=q
 | _,_=>False
structure Zip (xs ys : List Nat) (m : Wp) : Prop where
  eq : m.1 = xs.zip ys
  len : xs.length = ys.length
  nx : xs.Nodup
  ny : ys.Nodup
theorem Mj {xs ys:List Nat} {x y:Nat}:(x,y)∈xs.zip ys↔ ∃t:Nat,xs[t]? =some x/\ys[t]? =some y:=by
 rw[List.mem_iff_getElem?];constructor
 .rintro ⟨t,h⟩
  rw[List.getElem?_zip_eq_some] at h;exact ⟨t,h⟩
 .rintro ⟨t,h⟩
  exact ⟨t,List.getElem?_zip_eq_some.2 h⟩
theorem X1U {xs ys:List Nat} (i:xs.length=ys.length) {x y:Nat}:((xs.zip ys).any fun p=>decide (p.1=x)||decide (p.2=y))=true↔x∈xs\/y∈ys:=by
 rw[List.any_eq_true];constructor
 .rintro ⟨⟨a,b⟩,g,h2⟩
  obtain ⟨t,d,f⟩:=Mj.1 g;simp only[Bool.or_eq_true,decide_eq_true_eq] at h2
  rcases h2 with h2 | h2
  .exact .inl (h2▸List.mem_of_getElem? d)
  .exact .inr (h2▸List.mem_of_getElem? f)
 .rintro (h | h)
  .obtain ⟨t,c,e⟩:=List.mem_iff_getElem.1 h
   exact ⟨(xs[t],ys[t]),Mj.2 ⟨t,List.getElem?_eq_getElem c,List.getElem?_eq_getElem (by omega)⟩,by simp[e]⟩
  .obtain ⟨t,c,e⟩:=List.mem_iff_getElem.1 h
   exact ⟨(xs[t],ys[t]),Mj.2 ⟨t,List.getElem?_eq_getElem (by omega),List.getElem?_eq_getElem c⟩,by simp[e]⟩
theorem Q48 {xs:List Nat} {x:Nat} (h:x∈xs):Ux xs (some x)=xs:=by unfold Ux;simp only;rw[if_pos h]
theorem Sy {xs:List Nat} {x:Nat} (h:x∉xs):Ux xs (some x)=xs++[x]:=by unfold Ux;simp only;rw[if_neg h]
theorem X7y {xs ys:List Nat} (a:xs.length=ys.length) (x y:Nat):(xs++[x]).zip (ys++[y])=xs.zip ys++[(x,y)]:=by
 rw[List.zip_append a];rfl
variable {ta tb : Val -> Option Nat} {m : Wp} {xs ys X Y : List Nat} {v w : Val}
theorem Sk.pre {d e:List (Nat×Nat)} (h:d<+:e) {p q:Val} (c:Sk ta tb d p q):Sk ta tb e p q:=by
 unfold Sk at*
 split
 .rename_i x y a b
  rw[a,b] at c;exact h.subset c
 .rename_i a b
  rw[a,b] at c;exact c
 .rename_i f g
  split at c
  .rename_i x y a b;exact f x y a b
  .rename_i a b;exact g a b
  .exact c
theorem Q5i (z:Zip xs ys m) (h:(P1 ta tb m v w).2=true):m.2=true/\Zip (Ux xs (ta v)) (Ux ys (tb w)) (P1 ta tb m v w)/\Sk ta tb (P1 ta tb m v w).1 v w/\m.1<+:(P1 ta tb m v w).1:=by
 unfold P1 Sk at*;cases b:ta v with
 | none=>
  cases a:tb w with
  | none=>
   simp only[b,a,Bool.and_eq_true,Bool.not_eq_true',decide_eq_false_iff_not,decide_eq_true_eq] at h⊢;exact ⟨h.1,⟨z.eq,z.len,z.nx,z.ny⟩,h.2,List.prefix_refl _⟩
  | some y=>simp[b,a] at h
 | some x=>
  cases a:tb w with
  | none=>simp[b,a] at h
  | some y=>
   simp only[b,a] at h⊢
   by_cases c:(m.1.any fun p=>decide (p.1=x)||decide (p.2=y))=true
   .rw[if_pos c] at h⊢
    simp only[Bool.and_eq_true,decide_eq_true_eq] at h;obtain ⟨k,f⟩:=h;have g:=f;rw[z.eq] at g;obtain ⟨t,i,j⟩:=Mj.1 g;rw[Q48 (List.mem_of_getElem? i),Q48 (List.mem_of_getElem? j)];exact ⟨k,⟨z.eq,z.len,z.nx,z.ny⟩,f,List.prefix_refl _⟩
   .rw[if_neg c] at h⊢
    have d:x∉xs/\y∉ys:=by
     rw[z.eq] at c;have:=mt (X1U z.len).2 c;exact ⟨fun e=>this (.inl e),fun e=>this (.inr e)⟩
    rw[Sy d.1,Sy d.2];refine ⟨h,⟨by rw[X7y z.len,z.eq],by simp[z.len],?_,?_⟩,by simp,List.prefix_append _ _⟩
    .have:=Fv (n:=some x) z.nx;rwa [Sy d.1] at this
    .have:=Fv (n:=some y) z.ny;rwa [Sy d.2] at this
theorem X37: ∀(a:List (Val×Val)) {m:Wp} {xs ys:List Nat},Zip xs ys m->(I2 ta tb m a).2=true->
 m.2=true/\Zip (G3 ta xs (a.map (·.1))) (G3 tb ys (a.map (·.2))) (I2 ta tb m a)/\(∀z∈a,Sk ta tb (I2 ta tb m a).1 z.1 z.2)/\m.1<+:(I2 ta tb m a).1
 | [],m,xs,ys,z,h=>⟨h,z,by simp,List.prefix_refl _⟩
 | p::a,m,xs,ys,z,h=>by
  have c:(I2 ta tb (P1 ta tb m p.1 p.2) a).2=true:=h
  -- the first one is all right, else nothing behind it is
  have key: ∀(a:List (Val×Val)) (m:Wp),(I2 ta tb m a).2=true->m.2=true:=by
   intro a
   induction a with
   | nil=>intro m h;exact h
   | cons q a g=>
    intro m h;have b:(P1 ta tb m q.1 q.2).2=true:=g _ h;unfold P1 at b
    split at b
    .split at b
     .simp only[Bool.and_eq_true] at b;exact b.1
     .exact b
    .simp only[Bool.and_eq_true] at b;exact b.1
    .simp at b
  obtain ⟨b,j,e,i⟩:=Q5i z (key a _ c);obtain ⟨_,k,f,d⟩:=X37 a j c;refine ⟨b,k,fun q hq=>?_,i.trans d⟩
  rcases List.mem_cons.1 hq with rfl | hq
  .exact e.pre d
  .exact f q hq
def Px (ta tb:Val->Option Nat) (X Y:List Nat) (p q:Val):Prop:=match ta p,tb q with
 | some x,some y=> ∃t:Nat,X[t]? =some x/\Y[t]? =some y
 | none,none=>p.sort≠4/\p=q
 | _,_=>False
theorem X55 {p q:Val}:Sk ta tb (X.zip Y) p q↔Px ta tb X Y p q:=by
 unfold Sk Px;cases ta p with
 | none=>cases tb q<;>exact Iff.rfl
 | some x=>cases tb q with
  | none=>exact Iff.rfl
  | some y=>exact Mj
theorem Ip {X:List Nat} (h:X.Nodup) {i j x:Nat} (e:X[i]? =some x) (f:X[j]? =some x):i=j:=by
 obtain ⟨g,c⟩:=List.getElem?_eq_some_iff.1 e;obtain ⟨k,d⟩:=List.getElem?_eq_some_iff.1 f;have a:=List.Nodup.idxOf_getElem h i g;have b:=List.Nodup.idxOf_getElem h j k;rw[c] at a;rw[d] at b;exact a.symm.trans b
theorem Q5Z (A:X.Nodup) (B:Y.Nodup) (z:Zip xs ys m) (n:m.2=true) (s:xs<+:X) (u:ys<+:Y) (a:Px ta tb X Y v w):(P1 ta tb m v w).2=true:=by
 unfold P1 Px at*;cases i:ta v with
 | none=>
  cases b:tb w with
  | none=>simp only[i,b] at a⊢;simp[n,a.1,a.2];exact fun e=>a.1 (a.2▸e)
  | some y=>simp only[i,b] at a
 | some x=>
  cases b:tb w with
  | none=>simp only[i,b] at a
  | some y=>
   simp only[i,b] at a⊢;obtain ⟨t,o,q⟩:=a
   by_cases k:(m.1.any fun p=>decide (p.1=x)||decide (p.2=y))=true
   .rw[if_pos k]
    have f:=k;rw[z.eq] at f
    have l:(x,y)∈m.1:=by
     rw[z.eq]
     rcases (X1U z.len).1 f with h | h
     .obtain ⟨j,g,e⟩:=List.mem_iff_getElem.1 h
      have c:=Lq s (List.getElem?_eq_getElem g);rw[e] at c;have:=Ip A c o;subst this;have d:=Lq u (List.getElem?_eq_getElem (show j<ys.length by have:=z.len;omega))
      rw[q] at d;exact Mj.2 ⟨j,by rw[List.getElem?_eq_getElem g,e],by rw[List.getElem?_eq_getElem (show j<ys.length by have:=z.len;omega)];exact d.symm⟩
     .obtain ⟨j,g,e⟩:=List.mem_iff_getElem.1 h
      have c:=Lq u (List.getElem?_eq_getElem g);rw[e] at c;have:=Ip B c q;subst this;have d:=Lq s (List.getElem?_eq_getElem (show j<xs.length by have:=z.len;omega))
      rw[o] at d;exact Mj.2 ⟨j,by rw[List.getElem?_eq_getElem (show j<xs.length by have:=z.len;omega)];exact d.symm,by rw[List.getElem?_eq_getElem g,e]⟩
    simp[n,l]
   .rw[if_neg k];exact n
theorem Q8C (d:X.Nodup) (e:Y.Nodup): ∀(a:List (Val×Val)) {m:Wp} {xs ys:List Nat},Zip xs ys m->m.2=true->G3 ta xs (a.map (·.1))<+:X->G3 tb ys (a.map (·.2))<+:Y->(∀z∈a,Px ta tb X Y z.1 z.2)->(I2 ta tb m a).2=true
 | [],m,xs,ys,z,b,_,_,_=>b
 | p::a,m,xs,ys,z,b,g,h,f=>by
  have j:xs<+:X:=(Hx (p.1::a.map (·.1)) xs).trans g;have k:ys<+:Y:=(Hx (p.2::a.map (·.2)) ys).trans h;have c:=Q5Z d e z b j k (f p (List.mem_cons_self));obtain ⟨_,l,_,_⟩:=Q5i z c;exact Q8C d e a l c g h fun q i=>f q (List.mem_cons_of_mem _ i)
variable {oa ob : Nat -> List Val} {ka kb : Nat -> X2}
theorem Q7f {α β:Type}: ∀{xs:List α} {ys:List β},xs.length=ys.length->(xs.zip ys).map (·.1)=xs
 | [],_,_=>rfl
 | x::xs,[],h=>by cases h
 | x::xs,y::ys,h=>by simp only[List.zip_cons_cons,List.map_cons,Q7f (Nat.succ.inj h)]
theorem Q7g {α β:Type}: ∀{xs:List α} {ys:List β},xs.length=ys.length->(xs.zip ys).map (·.2)=ys
 | [],[],_=>rfl
 | [],y::ys,h=>by cases h
 | x::xs,[],h=>by cases h
 | x::xs,y::ys,h=>by simp only[List.zip_cons_cons,List.map_cons,Q7g (Nat.succ.inj h)]
structure Same2 (oa ob : Nat -> List Val) (ka kb : Nat -> X2) (F : Val -> Val -> Prop) (x y : Nat) : Prop where
  len : (oa x).length = (ob y).length
  kd : ka x = kb y
  fit : ∀ z ∈ (oa x).zip (ob y), F z.1 z.2
theorem Q3I: ∀i,(allI oa ob ka kb ta tb v w i).2=true->Zip (Z6 oa ta v i) (Z6 ob tb w i) (allI oa ob ka kb ta tb v w i)/\Sk ta tb (allI oa ob ka kb ta tb v w i).1 v w/\
 ∀(j:Nat) (p:Nat×Nat),j<i->(allI oa ob ka kb ta tb v w i).1[j]? =some p->Same2 oa ob ka kb (Sk ta tb (allI oa ob ka kb ta tb v w i).1) p.1 p.2
 | 0,h=>by
  obtain ⟨_,z,f,_⟩:=Q5i (ta:=ta) (tb:=tb) (m:=([],true)) (xs:=[]) (ys:=[]) ⟨rfl,rfl,List.nodup_nil,List.nodup_nil⟩ h;exact ⟨z,f,fun j p t=>absurd t (by omega)⟩
 | i+1,h=>by
  cases k:(allI oa ob ka kb ta tb v w i).2 with
  | false=>
   have e:allI oa ob ka kb ta tb v w (i+1)=allI oa ob ka kb ta tb v w i:=by rw[allI,k]
   rw[e,k] at h;cases h
  | true=>
   obtain ⟨z,f,c⟩:=Q3I i k;cases d:(allI oa ob ka kb ta tb v w i).1[i]? with
   | none=>
    have e:allI oa ob ka kb ta tb v w (i+1)=allI oa ob ka kb ta tb v w i:=by rw[allI,k,d]
    rw[e]
    have g:(Z6 oa ta v i).length<=i:=by
     have:=List.getElem?_eq_none_iff.1 d;rw[z.eq,List.length_zip,<-z.len,Nat.min_self] at this;exact this
    rw[Zq g (Nat.le_succ i),Zq (by rw[<-z.len];exact g) (Nat.le_succ i)]
    refine ⟨z,f,fun j p t a=>?_⟩
    by_cases o:j=i
    .subst o;rw[d] at a;cases a
    .exact c j p (by omega) a
   | some p=>
    have e:allI oa ob ka kb ta tb v w (i+1)=Cg oa ob ka kb ta tb (allI oa ob ka kb ta tb v w i) p.1 p.2:=by rw[allI,k,d]
    rw[e] at h⊢;unfold Cg at h;simp only[Bool.and_eq_true,decide_eq_true_eq] at h;obtain ⟨H,s,J⟩:=h;obtain ⟨_,l,C,n⟩:=X37 _ z H;rw[Q7f s,Q7g s] at l;have a:=d;rw[z.eq,List.getElem?_zip_eq_some] at a;obtain ⟨D,E⟩:=a;have M:Z6 oa ta v (i+1)=G3 ta (Z6 oa ta v i) (oa p.1):=by rw[Z6,D]
    have N:Z6 ob tb w (i+1)=G3 tb (Z6 ob tb w i) (ob p.2):=by rw[Z6,E]
    rw[M,N];refine ⟨⟨l.eq,l.len,l.nx,l.ny⟩,f.pre n,fun j q t b=>?_⟩
    by_cases o:j=i
    .subst o
     have:=Lq n d;have b:(I2 ta tb (allI oa ob ka kb ta tb v w j) ((oa p.1).zip (ob p.2))).1[j]? =some q:=b;rw[this] at b;cases b;exact ⟨s,J,C⟩
    .have g:j<(allI oa ob ka kb ta tb v w i).1.length:=by have:=(List.getElem?_eq_some_iff.1 d).1;omega
     have u:=Lq n (List.getElem?_eq_getElem g);have b:(I2 ta tb (allI oa ob ka kb ta tb v w i) ((oa p.1).zip (ob p.2))).1[j]? =some q:=b;rw[u] at b;cases b;obtain ⟨y,A,B⟩:=c j _ (by omega) (List.getElem?_eq_getElem g)
     exact ⟨y,A,fun z L=>(B z L).pre n⟩
theorem X02 {N:Nat} (h:Px ta tb (Z6 oa ta v N) (Z6 ob tb w N) v w)
 (k: ∀(j:Nat) (x y:Nat),(Z6 oa ta v N)[j]? =some x->(Z6 ob tb w N)[j]? =some y->Same2 oa ob ka kb (Px ta tb (Z6 oa ta v N) (Z6 ob tb w N)) x y): ∀i,i<=N->(allI oa ob ka kb ta tb v w i).2=true
 | 0,_=>Q5Z (P2 N) (P2 N) (m:=([],true)) (xs:=[]) (ys:=[]) ⟨rfl,rfl,List.nodup_nil,List.nodup_nil⟩ rfl (List.nil_prefix) (List.nil_prefix) h
 | i+1,l=>by
  have a:=X02 h k i (by omega)
  obtain ⟨z,_,_⟩:=Q3I i a;cases d:(allI oa ob ka kb ta tb v w i).1[i]? with
  | none=>
   have e:allI oa ob ka kb ta tb v w (i+1)=allI oa ob ka kb ta tb v w i:=by rw[allI,a,d]
   rw[e];exact a
  | some p=>
   have e:allI oa ob ka kb ta tb v w (i+1)=Cg oa ob ka kb ta tb (allI oa ob ka kb ta tb v w i) p.1 p.2:=by rw[allI,a,d]
   rw[e];have b:=d;rw[z.eq,List.getElem?_zip_eq_some] at b;obtain ⟨f,g⟩:=b;obtain ⟨c,n,o⟩:=k i p.1 p.2 (Lq (Zr (by omega)) f) (Lq (Zr (by omega)) g)
   have q:Z6 oa ta v (i+1)=G3 ta (Z6 oa ta v i) (oa p.1):=by rw[Z6,f]
   have s:Z6 ob tb w (i+1)=G3 tb (Z6 ob tb w i) (ob p.2):=by rw[Z6,g]
   have:=Q8C (P2 N) (P2 N) ((oa p.1).zip (ob p.2)) z a (by rw[Q7f c,<-q];exact Zr l) (by rw[Q7g c,<-s];exact Zr l) o
   unfold Cg
   simp[this,c,n]
def My (cs:List Cel) (r:Nat):Cel:=cs.getD r Cel.zero
def K6 (l:List Cla) (k:X2) (i:Nat):Bool:= !decide (elem k=[])|| !((U6 l k).getD i Fld.zero).tr
def Pv (l:List Cla) (c:Cel):List Nat:=(List.range c.vals.length).filter (K6 l c.kind)
def Y9 (l:List Cla) (cs:List Cel) (r:Nat):List Val:=(Pv l (My cs r)).map fun i=>(My cs r).vals.getD i Val.zero
def Uf (cs:List Cel) (r:Nat):X2:=(My cs r).kind
def W1 (cs:List Cel) (v:Val):Option Nat:=if v.sort=4/\M5 cs v.ref=true then some v.ref.toNat else none
def L6 (l:List Cla) (cs:List Cel) (v:Val):List Nat:=Z6 (Y9 l cs) (W1 cs) v cs.length
def Qa (l:List Cla) (ca cb:List Cel) (v w:Val) (i:Nat):Wp:=allI (Y9 l ca) (Y9 l cb) (Uf ca) (Uf cb) (W1 ca) (W1 cb) v w i
def Xz (l:List Cla) (ca cb:List Cel) (v w:Val):Bool:=(Qa l ca cb v w ca.length).2
def Q8T (l:List Cla) (cs:List Cel) (v:Val):Bool:=(L6 l cs v).any fun r=>(Y9 l cs r).any fun p=>(L6 l cs p).contains r
def ixO:Option Nat->Int
 | some i=>i
 | none=> -1
def Ti (xs:List Nat) (n:Int):Int:=ixO (xs.findIdx? fun (x:Nat)=>decide ((x:Int)=n))
def Fi (cs:List Cel) (v:Val):Int:=if v.sort=4/\M5 cs v.ref=true then v.ref else-1
def prB (x y:List Nat) (ca cb:List Cel) (p q:Val):Bool:=if p.sort=4/\q.sort=4 then decide (Ti x (Fi ca p)=Ti y (Fi cb q)) else decide (p=q)
def Fk (l:List Cla) (x y:List Nat) (ca cb:List Cel) (a b:Nat):Bool:=decide (Uf ca a=Uf cb b)&&decide ((Y9 l ca a).length=(Y9 l cb b).length)&&((Y9 l ca a).zip (Y9 l cb b)).all fun z=>prB x y ca cb z.1 z.2
def Q8q (l:List Cla) (ca cb:List Cel) (v w:Val):Bool:=
 if v.sort≠4\/w.sort≠4 then decide (v=w) else if (L6 l ca v).length≠(L6 l cb w).length\/(L6 l ca v).length=0 then false
 else ((L6 l ca v).zip (L6 l cb w)).all fun p=>Fk l (L6 l ca v) (L6 l cb w) ca cb p.1 p.2
def Tv (cs:List Cel):Prop:= ∀c∈cs,∀v∈c.vals,v.sort=4->M5 cs v.ref=true
theorem X3N {ok:X2->Bool} {l:List Cla} {cs:List Cel} (h: ∀c∈cs,GoodC ok l cs c):Tv cs:=fun c d v g b=>by
 obtain ⟨i,f,rfl⟩:=List.mem_iff_getElem.1 g;have:=(h c d).fits i f;unfold K3 at this;simp only[Bool.and_eq_true,Bool.not_eq_true',decide_eq_false_iff_not] at this;have a:=this.1;unfold Qd at a
 split at a
 .rename_i e;rw[e] at b;exact absurd b (by decide)
 split at a
 .rename_i e;rw[e] at b;exact absurd b (by simp)
 split at a
 .rename_i e;rw[e.1] at b;exact absurd b (by simp)
 split at a
 .rename_i e;rw[e.1] at b;exact absurd b (by simp)
 split at a
 .unfold L5 at a
  split at a
  .assumption
  .exact absurd rfl a
 .exact absurd rfl a
variable {l : List Cla} {cs ca cb : List Cel}
theorem Yt: ∀p x,W1 cs p=some x->x<cs.length:=fun p x h=>by
 unfold W1 at h
 split at h
 .rename_i a
  cases h;obtain ⟨i,e,b⟩:=W9.1 a.2;rw[e];exact b
 .cases h
theorem Cb {x:Nat} (h:W1 cs v=some x):v.sort=4/\v.ref=x/\x<cs.length:=by
 have b:=Yt _ _ h;unfold W1 at h
 split at h
 .rename_i a
  cases h;obtain ⟨i,e,c⟩:=W9.1 a.2;exact ⟨a.1,by rw[e];rfl,b⟩
 .cases h
theorem Q1A (h:v.sort≠4):W1 cs v=none:=by unfold W1;rw[if_neg (fun e=>h e.1)]
theorem X0b {x:Nat} (h:W1 cs v=some x):Fi cs v=x:=by
 obtain ⟨b,a,c⟩:=Cb h;unfold Fi;rw[if_pos ⟨b,W9.2 ⟨x,a,c⟩⟩,a]
theorem X5n {r:Nat} {p:Val} (h:p∈Y9 l cs r):r<cs.length/\ ∃b:r<cs.length,p∈cs[r].vals:=by
 unfold Y9 Pv at h;simp only[List.mem_map,List.mem_filter,List.mem_range] at h;obtain ⟨i,⟨a,_⟩,e⟩:=h
 by_cases b:r<cs.length
 .have c:My cs r=cs[r]:=by unfold My;rw[List.getD_eq_getElem?_getD,List.getElem?_eq_getElem b];rfl
  rw[c] at a e;refine ⟨b,b,?_⟩;rw[List.getD_eq_getElem?_getD,List.getElem?_eq_getElem a] at e;rw[<-e];exact List.getElem_mem a
 .have c:My cs r=Cel.zero:=by unfold My;rw[List.getD_eq_getElem?_getD,List.getElem?_eq_none (by omega)];rfl
  rw[c] at a;exact absurd a (by simp[Cel.zero])
theorem Q5n {x:Nat} (h:x∈L6 l cs v):x<cs.length:=Ps Yt _ x h
theorem Q1v:(L6 l cs v).length<=cs.length:=Ra Yt _
theorem Q1w:(L6 l cs v).Nodup:=P2 _
theorem Q7R {xs:List Nat} (c:xs.Nodup) {t x:Nat} (h:xs[t]? =some x):Ti xs x=t:=by
 unfold Ti;obtain ⟨d,e⟩:=List.getElem?_eq_some_iff.1 h
 have:xs.findIdx? (fun (y:Nat)=>decide ((y:Int)=(x:Int)))=some t:=by
  rw[List.findIdx?_eq_some_iff_getElem];refine ⟨d,by simp[e],fun j g=>?_⟩
  simp only[decide_eq_true_eq,Bool.not_eq_true];have a:j<xs.length:=by omega
  intro f;have b:xs[j]=x:=by omega
  have:=Ip c (i:=j) (j:=t) (x:=x) (by rw[List.getElem?_eq_getElem a,b]) h
  omega
 rw[this];rfl
theorem X1z {x y:List Nat} (n:x.Nodup) (o:y.Nodup) {p q:Val} (D:p.sort=4-> ∃a,W1 ca p=some a/\a∈x) (m:q.sort=4-> ∃b,W1 cb q=some b/\b∈y):prB x y ca cb p q=true↔Px (W1 ca) (W1 cb) x y p q:=by
 unfold prB Px
 by_cases d:p.sort=4
 .obtain ⟨a,g,C⟩:=D d
  by_cases c:q.sort=4
  .obtain ⟨b,f,k⟩:=m c
   rw[if_pos ⟨d,c⟩,X0b g,X0b f,g,f,decide_eq_true_eq];obtain ⟨t,H,z⟩:=List.mem_iff_getElem.1 C;obtain ⟨s,E,r⟩:=List.mem_iff_getElem.1 k;have j:x[t]? =some a:=by rw[List.getElem?_eq_getElem H,z]
   have i:y[s]? =some b:=by rw[List.getElem?_eq_getElem E,r]
   rw[Q7R n j,Q7R o i];constructor
   .intro h
    have:t=s:=by omega
    subst this;exact ⟨t,j,i⟩
   .rintro ⟨u,A,B⟩
    have J:=Ip n A j;have L:=Ip o B i;omega
  .rw[if_neg (fun e=>c e.2),g,Q1A c,decide_eq_true_eq]
   simp only[iff_false];rintro rfl;exact c d
 .rw[if_neg (fun e=>d e.1),Q1A d,decide_eq_true_eq]
  by_cases c:q.sort=4
  .obtain ⟨b,f,k⟩:=m c
   rw[f];simp only[iff_false];rintro rfl;exact d c
  .rw[Q1A c]
   exact ⟨fun e=>⟨d,e⟩,fun e=>e.2⟩
theorem X8n (ok:Tv cs) {r:Nat} {p:Val} (d:p∈Y9 l cs r) (b:p.sort=4): ∃a,W1 cs p=some a:=by
 obtain ⟨_,e,c⟩:=X5n d;have:=ok _ (List.getElem_mem e) p c b;unfold W1;exact ⟨_,if_pos ⟨b,this⟩⟩
theorem Q64 (ok:Tv cs) {r:Nat} (e:r∈L6 l cs v) {p:Val} (c:p∈Y9 l cs r) (d:p.sort=4): ∃a,W1 cs p=some a/\a∈L6 l cs v:=by
 obtain ⟨a,b⟩:=X8n ok c d;exact ⟨a,b,Q9Q Yt e c b⟩
theorem X0h {α β:Type} {xs:List α} {ys:List β} {p:α×β} (h:p∈xs.zip ys):p.1∈xs/\p.2∈ys:=List.of_mem_zip (a:=p.1) (b:=p.2) h
theorem X4G (h:W1 ca v=none) (i:Nat):Qa l ca cb v w i=Qa l ca cb v w 0:=by
 induction i with
 | zero=>rfl
 | succ i c=>
  have a:(Qa l ca cb v w 0).1=[]:=by
   show (P1 (W1 ca) (W1 cb) ([],true) v w).1=[]
   unfold P1;rw[h];cases W1 cb w<;>rfl
  have b:Qa l ca cb v w (i+1)=match (Qa l ca cb v w i).2,(Qa l ca cb v w i).1[i]? with
   | true,some p=>Cg (Y9 l ca) (Y9 l cb) (Uf ca) (Uf cb) (W1 ca) (W1 cb) (Qa l ca cb v w i) p.1 p.2
   | _,_=>Qa l ca cb v w i:=rfl
  rw[b,c,a];cases (Qa l ca cb v w 0).2<;>rfl
theorem X0i (h:v.sort≠4\/w.sort≠4):Xz l ca cb v w=decide (v=w):=by
 unfold Xz;cases a:W1 ca v with
 | none=>
  rw[X4G a]
  show (P1 (W1 ca) (W1 cb) ([],true) v w).2=_
  unfold P1;rw[a];cases g:W1 cb w with
  | some y=>
   have:=(Cb g).1
   show false=_
   exact (decide_eq_false (by rintro rfl;rcases h with h | h<;>exact h this)).symm
  | none=>
   show (true&&(!decide (v.sort=4)&&decide (v=w)))=_
   by_cases e:v=w
   .subst e
    have:v.sort≠4:=by rcases h with h | h<;>exact h
    simp[this]
   .simp[e]
 | some x=>
  have c:=(Cb a).1;have d:w.sort≠4:=h.resolve_left fun e=>e c;have b: ¬v=w:=by rintro rfl;exact d c
  rw[decide_eq_false b];refine Bool.eq_false_iff.2 fun i=>?_;obtain ⟨_,f,_⟩:=Q3I _ i;unfold Sk at f;rw[a,Q1A d] at f;exact f
theorem X35 (V:Tv ca) (W:Tv cb):Xz l ca cb v w=Q8q l ca cb v w:=by
 unfold Q8q
 by_cases h:v.sort≠4\/w.sort≠4
 .rw[if_pos h];exact X0i h
 rw[if_neg h]
 have Z:v.sort=4:=by
  by_cases e:v.sort=4
  .exact e
  .exact absurd (.inl e) h
 have hw:w.sort=4:=by
  by_cases e:w.sort=4
  .exact e
  .exact absurd (.inr e) h
 have A:Xz l ca cb v w=true->Zip (L6 l ca v) (Z6 (Y9 l cb) (W1 cb) w ca.length) (Qa l ca cb v w ca.length):=fun e=>(Q3I _ e).1
 -- the second one is come to wholly, if all corresponds
 have u:Xz l ca cb v w=true->Z6 (Y9 l cb) (W1 cb) w ca.length=L6 l cb w:=fun e=>by
  have z:=A e;unfold L6;have J:(Z6 (Y9 l cb) (W1 cb) w ca.length).length<=ca.length:=by rw[<-z.len];exact Q1v
  by_cases p:ca.length<=cb.length
  .exact (Zq J p).symm
  .exact Q6g Yt (by omega)
 rw[Bool.eq_iff_iff];constructor
 .intro e
  have z:=A e;rw[u e] at z;obtain ⟨_,f,c⟩:=Q3I _ e
  have k:(L6 l ca v).length≠0:=by
   unfold Sk at f;cases C:W1 ca v with
   | none=>
    rw[C] at f;cases O:W1 cb w with
    | none=>rw[O] at f;exact absurd Z f.1
    | some y=>rw[O] at f;exact f.elim
   | some x=>
    have:=Tt (out:=Y9 l ca) (tq:=W1 ca) (n:=ca.length) C;have:=(List.getElem?_eq_some_iff.1 this).1
    show (Z6 (Y9 l ca) (W1 ca) v ca.length).length≠0
    omega
  rw[if_neg (by rintro (h | h);exact h z.len;exact k h),List.all_eq_true]
  rintro ⟨a,b⟩ X;obtain ⟨t,r,s⟩:=Mj.1 X;have Y:t<ca.length:=Nat.lt_of_lt_of_le (List.getElem?_eq_some_iff.1 r).1 Q1v;have M:(Qa l ca cb v w ca.length).1[t]? =some (a,b):=by rw[z.eq];exact List.getElem?_zip_eq_some.2 ⟨r,s⟩
  obtain ⟨D,E,H⟩:=c t (a,b) Y M;unfold Fk;simp only[Bool.and_eq_true,decide_eq_true_eq,List.all_eq_true];refine ⟨⟨E,D⟩,fun q B=>?_⟩;have i:=X0h B;rw[X1z Q1w Q1w (fun o=>Q64 V (List.mem_of_getElem? r) i.1 o) (fun o=>Q64 W (List.mem_of_getElem? s) i.2 o)];have:=H q B;unfold Qa at z;rw[z.eq] at this;exact X55.1 this
 .intro e
  split at e
  .cases e
  rename_i U
  have m:(L6 l ca v).length=(L6 l cb w).length:=by
   by_cases e:(L6 l ca v).length=(L6 l cb w).length
   .exact e
   .exact absurd (.inl e) U
  have k:(L6 l ca v).length≠0:=fun e=>U (.inr e);rw[List.all_eq_true] at e
  have d: ∀{cs:List Cel} {v:Val},(L6 l cs v).length≠0-> ∃x,W1 cs v=some x:=fun {cs v} L=>by
   cases C:W1 cs v with
   | none=>unfold L6 at L;rw[Q6h C] at L;exact absurd rfl L
   | some x=>exact ⟨x,rfl⟩
  obtain ⟨x0,Q⟩:=d k;obtain ⟨y0,R⟩:=d (m▸k)
  have g:Z6 (Y9 l cb) (W1 cb) w ca.length=L6 l cb w:=by
   by_cases p:cb.length<=ca.length
   .exact Q6g Yt p
   .have J:(Z6 (Y9 l cb) (W1 cb) w ca.length).length<=ca.length:=by
     have h2:=(Zr (out:=Y9 l cb) (tq:=W1 cb) (v:=w) (show ca.length<=cb.length by omega)).length_le
     have h3:(Z6 (Y9 l cb) (W1 cb) w cb.length).length=(L6 l ca v).length:=m.symm;have:=Q1v (l:=l) (cs:=ca) (v:=v);omega
    exact (Zq J (by omega)).symm
  refine X02 (N:=ca.length) ?_ (fun j x y r s=>?_) ca.length (Nat.le_refl _)
  .rw[g]
   unfold Px;rw[Q,R];exact ⟨0,Tt Q,Tt R⟩
  .rw[g] at s⊢
   have:=e (x,y) (Mj.2 ⟨j,r,s⟩);unfold Fk at this;simp only[Bool.and_eq_true,decide_eq_true_eq,List.all_eq_true] at this;obtain ⟨⟨E,D⟩,H⟩:=this;refine ⟨D,E,fun q B=>?_⟩;have i:=X0h B;exact (X1z Q1w Q1w (fun o=>Q64 V (List.mem_of_getElem? r) i.1 o) (fun o=>Q64 W (List.mem_of_getElem? s) i.2 o)).1 (H q B)
theorem Q2D (i:Nat):Qa l ca cb v w (i+1)=match (Qa l ca cb v w i).2,(Qa l ca cb v w i).1[i]? with
 | true,some p=>Cg (Y9 l ca) (Y9 l cb) (Uf ca) (Uf cb) (W1 ca) (W1 cb) (Qa l ca cb v w i) p.1 p.2
 | _,_=>Qa l ca cb v w i:=rfl
theorem X4F {i:Nat} (h:(Qa l ca cb v w i).2=false\/(Qa l ca cb v w i).1.length<=i): ∀{j},i<=j->Qa l ca cb v w j=Qa l ca cb v w i:=by
 intro j b
 induction j with
 | zero=>
  have:i=0:=by omega
  subst this;rfl
 | succ j a=>
  by_cases e:i=j+1
  .subst e;rfl
  .rw[Q2D,a (by omega)]
   rcases h with h | h
   .rw[h]
   .rw[List.getElem?_eq_none (by omega)]
    cases (Qa l ca cb v w i).2<;>rfl
end Go.Hm
