/- Parts of a proof about the given program: its functions as texts of their own, what each computes, plain laws of that. The conditions of each stand in its statement. -/
import Derived.Test.YtlfdfcejjgidpaaGreatDoorB3
import Derived.Shelf.Strings.Builder1
import Derived.Shelf.Strings.Builder2
import Derived.Shelf.Strings.OnBuilder
import Derived.Shelf.Strings.Trim
import Derived.Shelf.Small.Utf8
import Derived.Shelf.Small.Strs
import Derived.Shelf.Small.Wraps
import Derived.Shelf.Strings.BuilderF
import Derived.Shelf.Strings.BuilderK
import Derived.Shelf.Strings.Builder2Cap
import Derived.Shelf.Strings.Search1
import Derived.Shelf.Strings.Search2
import Derived.Shelf.Strings.Search3
import Derived.Shelf.Strings.Cut
import Derived.Shelf.LaysM
import Derived.Shelf.Strings.Shaped
import Derived.Shelf.Strings.Prefix
import Derived.Shelf.Unicode.Decode
import Derived.Shelf.Strings.Runes
import Derived.Shelf.Strings.AsciiSet
import Derived.Shelf.Unicode.DecodeSlow
import Derived.Shelf.Unicode.DecodeAny
import Derived.Shelf.Unicode.DecodeLast
import Derived.Shelf.Slices.Turned
import Derived.Ground.Names2Prog
import Derived.Shelf.Slices.Clone
import Derived.Ground.SlgnProg
import Derived.Shelf.SlicesE.Clone
import Derived.Shelf.Unicode.ValidAny
import Derived.Test.YtlfdfcejjgidpaaGreatDoorProg
import Derived.Test.YtlfdfcejjgidpaaGreatDoorB2
import Derived.Test.YtlfdfcejjgidpaaGreatDoorRows
import Derived.Lib.LaidU8T
import Derived.OpenShut
import Derived.MakeChecks
import Derived.WideShapes
import Derived.Lib.AsciiSet
import Derived.Lib.Join
import Derived.Maps.RangeRun
import Derived.Laws.Bits128
import Derived.Laws.Bits64
set_option linter.unnecessarySimpa false
set_option linter.defProp false
set_option linter.unusedSectionVars false
set_option linter.unusedVariables false
set_option linter.unusedSimpArgs false
namespace Go.Proofs
open Go.Shelf
def Tryz.lays156_ren : Go.Shelf.Ren := ⟨fun | 156 => 185 | 165 => 220 | 166 => 221 | 169 => 222 | 240 => 241 | 241 => 242 | 276 => 253 | 277 => 254 | n => n, fun | 31 => 90 | 9 => 9 | 3 => 3 | 4 => 4 | 0 => 0 | 20 => 20 | 72 => 254 | 76 => 257 | 70 => 252 | 37 => 32 | 75 => 256 | 127 => 268 | 164 => 277 | 5 => 5 | 80 => 259 | n => n, fun | n => n⟩
theorem Tryz.lays156 : Go.Proofs.Lays.n156 Tryz.prog Tryz.lays156_ren := {
  mixed := by kernel_rfl
  f156 := Tryz.func185.trans (congrArg some (by kernel_rfl))
  f165 := Tryz.func220.trans (congrArg some (by kernel_rfl))
  f166 := Tryz.func221.trans (congrArg some (by kernel_rfl))
  f169 := Tryz.func222.trans (congrArg some (by kernel_rfl))
  f240 := Tryz.func241.trans (congrArg some (by kernel_rfl))
  f241 := Tryz.func242.trans (congrArg some (by kernel_rfl))
  f276 := Tryz.func253.trans (congrArg some (by kernel_rfl))
  f277 := Tryz.func254.trans (congrArg some (by kernel_rfl))
  t0 := Tryz.underlying0
  a0 := Tryz.isAgg0
  z0 := Tryz.sizeOf0
  v0 := Tryz.zeroValue0
  t3 := Tryz.underlying3
  a3 := Tryz.isAgg3
  z3 := Tryz.sizeOf3
  v3 := Tryz.zeroValue3
  t4 := Tryz.underlying4
  a4 := Tryz.isAgg4
  z4 := Tryz.sizeOf4
  v4 := Tryz.zeroValue4
  t9 := Tryz.underlying9
  a9 := Tryz.isAgg9
  z9 := Tryz.sizeOf9
  v9 := Tryz.zeroValue9
  t20 := Tryz.underlying20
  a20 := Tryz.isAgg20
  z20 := Tryz.sizeOf20
  v20 := Tryz.zeroValue20
  t31 := Tryz.underlying90
  a31 := Tryz.isAgg90
  z31 := Tryz.sizeOf90
  v31 := Tryz.zeroValue90
  t37 := Tryz.underlying32
  a37 := Tryz.isAgg32
  z37 := Tryz.sizeOf32
  v37 := Tryz.zeroValue32
  t70 := Tryz.underlying252
  a70 := Tryz.isAgg252
  z70 := Tryz.sizeOf252
  v70 := Tryz.zeroValue252
  t72 := Tryz.underlying254
  a72 := Tryz.isAgg254
  z72 := Tryz.sizeOf254
  v72 := Tryz.zeroValue254
  t75 := Tryz.underlying256
  a75 := Tryz.isAgg256
  z75 := Tryz.sizeOf256
  v75 := Tryz.zeroValue256
  t76 := Tryz.underlying257
  a76 := Tryz.isAgg257
  z76 := Tryz.sizeOf257
  v76 := Tryz.zeroValue257
  t127 := Tryz.underlying268
  a127 := Tryz.isAgg268
  z127 := Tryz.sizeOf268
  v127 := Tryz.zeroValue268
  t164 := Tryz.underlying277
  a164 := Tryz.isAgg277
  z164 := Tryz.sizeOf277
  v164 := Tryz.zeroValue277 }
theorem Tryz.Builder_Extra_156 : Builder.Extra Tryz.prog Tryz.lays156_ren := {
  sizeBuilder := by kernel_rfl
  liesBuilder := by kernel_rfl
  t5 := Tryz.underlying5
  a5 := Tryz.isAgg5
  z5 := Tryz.sizeOf5
  v5 := Tryz.zeroValue5
  infoByte := by kernel_rfl
  cellsByte := by kernel_rfl
  sizeByte := by kernel_rfl
  neB5 := by decide }
open Go.RowKit in
theorem Tryz.strings_Join_none (a : Option Addr) (c : Nat) (sep : ByteArray) (w : World) :
    Calls Tryz.prog 185 #[.slice a 0 c, .string sep] w fun e w' => e = .returned (.string ⟨#[]⟩) /\ w' = w := Any.strings_Join_none Tryz.lays156 Tryz.Builder_Extra_156 a c sep w
open Go.RowKit in
theorem Tryz.strings_Join (bk o c : Nat) (xs : List ByteArray) (sep : ByteArray) (w : World) (hcells : ∀ (j : Nat) x, xs[j]? = some x -> w.cell? ⟨bk, o + j, none⟩ = some (.string x)) (hbk : bk < w.heap.size) (hN : xs.length <= 140737488355328) (hcap : xs.length <= c) (hlen : (Lib.join (xs.map (·.data.toList)) sep.data.toList).length <= 140737488355328) :
    Calls Tryz.prog 185 #[.slice (some ⟨bk, o, none⟩) xs.length c, .string sep] w fun e w' => e = .returned (.string ⟨(Lib.join (xs.map (·.data.toList)) sep.data.toList).toArray⟩) /\ Below w.heap.size w w' := Any.strings_Join Tryz.lays156 Tryz.Builder_Extra_156 bk o c xs sep w hcells hbk hN hcap hlen
open Go.RowKit in
def Tryz.lays144_ren : Go.Shelf.Ren := ⟨fun | 144 => 247 | 143 => 259 | 219 => 267 | 217 => 269 | 225 => 265 | 224 => 264 | 267 => 271 | 266 => 272 | 314 => 273 | n => n, fun | 9 => 9 | 4 => 4 | 3 => 3 | 5 => 5 | 46 => 200 | 146 => 289 | 51 => 288 | n => n, fun | 1 => 4 | n => n⟩
theorem Tryz.lays144 : Go.Proofs.Lays.n144 Tryz.prog Tryz.lays144_ren := {
  mixed := by kernel_rfl
  f143 := Tryz.func259.trans (congrArg some (by kernel_rfl))
  f144 := Tryz.func247.trans (congrArg some (by kernel_rfl))
  f217 := Tryz.func269.trans (congrArg some (by kernel_rfl))
  f219 := Tryz.func267.trans (congrArg some (by kernel_rfl))
  f224 := Tryz.func264.trans (congrArg some (by kernel_rfl))
  f225 := Tryz.func265.trans (congrArg some (by kernel_rfl))
  f266 := Tryz.func272.trans (congrArg some (by kernel_rfl))
  f267 := Tryz.func271.trans (congrArg some (by kernel_rfl))
  f314 := Tryz.func273.trans (congrArg some (by kernel_rfl))
  t3 := Tryz.underlying3
  a3 := Tryz.isAgg3
  z3 := Tryz.sizeOf3
  v3 := Tryz.zeroValue3
  t4 := Tryz.underlying4
  a4 := Tryz.isAgg4
  z4 := Tryz.sizeOf4
  v4 := Tryz.zeroValue4
  t5 := Tryz.underlying5
  a5 := Tryz.isAgg5
  z5 := Tryz.sizeOf5
  v5 := Tryz.zeroValue5
  t9 := Tryz.underlying9
  a9 := Tryz.isAgg9
  z9 := Tryz.sizeOf9
  v9 := Tryz.zeroValue9
  t46 := Tryz.underlying200
  a46 := Tryz.isAgg200
  z46 := Tryz.sizeOf200
  v46 := Tryz.zeroValue200
  t51 := Tryz.underlying288
  a51 := Tryz.isAgg288
  z51 := Tryz.sizeOf288
  v51 := Tryz.zeroValue288
  t146 := Tryz.underlying289
  a146 := Tryz.isAgg289
  z146 := Tryz.sizeOf289
  v146 := Tryz.zeroValue289
  g1 := by kernel_rfl }
open Go.RowKit Go.Lib in
theorem Tryz.strings_Contains_one (s : ByteArray) (c : UInt8) (w : World) :
    Calls Tryz.prog 247 #[.string s, .string ⟨#[c]⟩] w fun e w' => e = .returned (.bool (decide (0 <= Lib.indexByte s.data.toList c))) /\ w' = w := Any.strings_Contains_one Tryz.lays144 s c w
def Tryz.lays227_ren : Go.Shelf.Ren := ⟨fun | 227 => 217 | n => n, fun | 9 => 9 | 116 => 247 | 4 => 4 | 0 => 0 | 3 => 3 | 5 => 5 | n => n, fun | n => n⟩
theorem Tryz.lays227 : Go.Proofs.Lays.n227 Tryz.prog Tryz.lays227_ren := {
  mixed := by kernel_rfl
  f227 := Tryz.func217.trans (congrArg some (by kernel_rfl))
  t0 := Tryz.underlying0
  a0 := Tryz.isAgg0
  z0 := Tryz.sizeOf0
  v0 := Tryz.zeroValue0
  t3 := Tryz.underlying3
  a3 := Tryz.isAgg3
  z3 := Tryz.sizeOf3
  v3 := Tryz.zeroValue3
  t4 := Tryz.underlying4
  a4 := Tryz.isAgg4
  z4 := Tryz.sizeOf4
  v4 := Tryz.zeroValue4
  t5 := Tryz.underlying5
  a5 := Tryz.isAgg5
  z5 := Tryz.sizeOf5
  v5 := Tryz.zeroValue5
  t9 := Tryz.underlying9
  a9 := Tryz.isAgg9
  z9 := Tryz.sizeOf9
  v9 := Tryz.zeroValue9
  t116 := Tryz.underlying247
  a116 := Tryz.isAgg247
  z116 := Tryz.sizeOf247 }
open Go.RowKit Go.Lib in
theorem Tryz.strings_makeASCIISet (hv116 : ∀ w, (zeroValue 247).run Tryz.prog w = .ok (.agg (Array.replicate 256 (.bool false))) w) (chars : ByteArray) (w : World) (hs : chars.size < 4294967281) (hascii : ∀ (j : Nat) b, chars.data.toList[j]? = some b -> b.toNat < 128) :
    Calls Tryz.prog 217 #[.string chars] w fun e w' => e = .returned (.tuple #[.agg (Lib.setCells chars.data.toList), .bool true]) /\ w' = w.alloc (.cells (Lib.setCells chars.data.toList) 247) := Any.strings_makeASCIISet Tryz.lays227 hv116 (by kernel_rfl) chars w hs hascii
open Go.RowKit Go.Lib in
def Tryz.lays196_ren : Go.Shelf.Ren := ⟨fun | 196 => 86 | 259 => 148 | n => n, fun | 9 => 9 | 4 => 4 | 3 => 3 | 5 => 5 | 12 => 12 | 119 => 196 | 0 => 0 | 46 => 200 | 139 => 199 | 138 => 198 | 53 => 75 | n => n, fun | 3 => 1 | 4 => 2 | n => n⟩
theorem Tryz.lays196 : Go.Proofs.Lays.n196 Tryz.prog Tryz.lays196_ren := {
  mixed := by kernel_rfl
  f196 := Tryz.func86.trans (congrArg some (by kernel_rfl))
  f259 := Tryz.func148.trans (congrArg some (by kernel_rfl))
  t0 := Tryz.underlying0
  a0 := Tryz.isAgg0
  z0 := Tryz.sizeOf0
  v0 := Tryz.zeroValue0
  t3 := Tryz.underlying3
  a3 := Tryz.isAgg3
  z3 := Tryz.sizeOf3
  v3 := Tryz.zeroValue3
  t4 := Tryz.underlying4
  a4 := Tryz.isAgg4
  z4 := Tryz.sizeOf4
  v4 := Tryz.zeroValue4
  t5 := Tryz.underlying5
  a5 := Tryz.isAgg5
  z5 := Tryz.sizeOf5
  v5 := Tryz.zeroValue5
  t9 := Tryz.underlying9
  a9 := Tryz.isAgg9
  z9 := Tryz.sizeOf9
  v9 := Tryz.zeroValue9
  t12 := Tryz.underlying12
  a12 := Tryz.isAgg12
  z12 := Tryz.sizeOf12
  v12 := Tryz.zeroValue12
  t46 := Tryz.underlying200
  a46 := Tryz.isAgg200
  z46 := Tryz.sizeOf200
  v46 := Tryz.zeroValue200
  t53 := Tryz.underlying75
  a53 := Tryz.isAgg75
  z53 := Tryz.sizeOf75
  v53 := Tryz.zeroValue75
  t119 := Tryz.underlying196
  a119 := Tryz.isAgg196
  z119 := Tryz.sizeOf196
  t138 := Tryz.underlying198
  a138 := Tryz.isAgg198
  z138 := Tryz.sizeOf198
  v138 := Tryz.zeroValue198
  t139 := Tryz.underlying199
  a139 := Tryz.isAgg199
  z139 := Tryz.sizeOf199
  v139 := Tryz.zeroValue199
  g3 := by kernel_rfl
  g4 := by kernel_rfl }
end Go.Proofs
namespace Go.Proofs.Y
open Go.Emb Go.RowKit Go.Kd Go.Hm
variable {w : World} {K : Value -> World -> Prop} {σ : Q2}
theorem X6Z {f:FuncId} {fn:Func} {a:List Value} {V:Value} (c:P.funcs[f]? =some fn) (b:fn.body.isSome=true) (g:(fn.name== "runtime.NumGoroutine")=false)
 (h:Calls P f a.toArray w fun e w'=>e= .returned V/\Below w.heap.size w w') (d: ∀w',Below w.heap.size w w'->K V w'):Q0 P f a w K:=by
 refine Dg c b g (Calls.mono h ?_);rintro e w' ⟨rfl,b⟩;exact d w' b
theorem Q2y {a:Q9} (b:a.length<=V4) (c:Lib.Utf8Tabs G.e G.d w) (h: ∀w',Below w.heap.size w w'->K (.bool (Lib.validD a)) w'):Q0 P F.bg [S a] w K:=
 X6Z Tryz.func86 X7 X7 (by
  have:=Any.utf8_ValidString Tryz.lays196 ⟨a.toArray⟩ w (by rw[Xn];simp only[V4] at b;omega) c
  simp only[List.toList_toArray] at this;exact this) h
theorem X1W {a:Q9} {c:UInt8} (h:K (.bool (decide (0<=Lib.indexByte a c))) w):Q0 P F.df [S a,S [c]] w K:=by
 refine Dg (fn:=Tryz.f247) Tryz.func247 X7 X7 (Calls.mono (Tryz.strings_Contains_one ⟨a.toArray⟩ c w) ?_);rintro e w' ⟨rfl,rfl⟩;exact h
structure Glb (σ : Q2) : Prop where
  ops : Q6i σ
  tabs : ∀ w, X3 w σ -> Lib.Utf8Tabs G.e G.d w
  flt : U0 σ ⟨G.b, 0, none⟩ (M7.map S)
theorem Glb.lift {σ0:Q2} (h:Glb σ0) (k:SLe σ0 σ):Glb σ:=⟨h.ops.le k.le,fun w a=>h.tabs w fun b o e=>a b o (k.le b o e),h.flt.le k.le⟩
def txt (n s:Q9):Bool:=
 if n=[119,111,114,100] then decide (s.length<=64)&&Lib.validD s&& !decide (0<=Lib.indexByte s 10)
 else if n=[110,101,119] then C6 s
 else if n=[105,115]\/n=[99,97,115,116] then right s&& !plain s
 else if n=[97,114,114,97,121] then right s&&decide (Jx s<3)
 else Wa s
theorem X9x {n a:Q9} (ha:a.length<=V4) (hs:X3 w σ) (hg:Glb σ) (h: ∀w' σ',Stp w σ w' σ'->K (.bool (txt n a)) w'):Q0 P F.dq [S n,S a] w K:=X2q (by
 unfold Q5Z;simp only[D0];unfold X8 X4 X2 J9;have ha':a.length<=140737488355320:=by simp only[V4] at ha;omega
 have ha2:a.length<=140737488355328:=by simp only[V4] at ha;omega
 have hv: ∀{w1:World} {K:Value->World->Prop},X3 w1 σ->(∀w',Below w1.heap.size w1 w'->K (.bool (Lib.validD a)) w')->Q0 P F.bg [S a] w1 K:=fun hk h=>Q2y ha (hg.tabs _ hk) h;unfold txt at h;have e:decide ((a.length:Int)<=64)=decide (a.length<=64):=by rw[Bool.eq_iff_iff];simp only[decide_eq_true_eq];omega
 have e3:decide ((Jx a:Int)<3)=decide (Jx a<3):=by rw[Bool.eq_iff_iff];simp only[decide_eq_true_eq];omega
 by_cases h1:n=[119,111,114,100]
 .rw[if_pos h1] at h
  simp only[decide_eq_true h1,↓M1,M1,Mb,reduceIte,e]
  by_cases h2:a.length<=64
  .simp only[decide_eq_true h2,↓M1,M1,Mb,reduceIte] at h⊢
   refine hv hs (H6 hs ?_);intro w1 σ1 hk
   by_cases h3:Lib.validD a=true
   .simp only[h3,↓M1,M1,Mb,reduceIte] at h⊢
    refine X1W ?_
    (repeat' (first | (with_reducible intro _) | (with_reducible refine M0 ?_) | (simp only[↓M2,M2,Mb,reduceIte]) | (with_reducible first | refine ld aS aL aR ?_ | refine Y6 aS aL aR ?_ | refine Z3 aS aL aR ?_ | refine Q6 aL ?_ | refine W3 aR ?_ | refine Z6 aS ?_ | refine H9 aS aL ?_ | refine L6 aS aR ?_ | refine Z9 aS aR aR (Rep.one Q8) ?_ | refine W8 aS aR aR aR ?_ | (refine V6 (fun hh=>?_) (fun hh=>?_)<;>(try simp only[hh,Bool.not_true,Bool.not_false,↓M2,M2,Mb,reduceIte])) | (refine Q4 (fun hh=>?_) (fun hh=>?_)<;>(try simp only[hh,Bool.not_true,Bool.not_false,↓M2,M2,Mb,reduceIte])))))
    all_goals exact aF
   .simp only[eq_false_of_ne_true h3,↓M1,M1,Mb,reduceIte] at h⊢
    (repeat' (first | (with_reducible intro _) | (with_reducible refine M0 ?_) | (simp only[↓M2,M2,Mb,reduceIte]) | (with_reducible first | refine ld aS aL aR ?_ | refine Y6 aS aL aR ?_ | refine Z3 aS aL aR ?_ | refine Q6 aL ?_ | refine W3 aR ?_ | refine Z6 aS ?_ | refine H9 aS aL ?_ | refine L6 aS aR ?_ | refine Z9 aS aR aR (Rep.one Q8) ?_ | refine W8 aS aR aR aR ?_ | (refine V6 (fun hh=>?_) (fun hh=>?_)<;>(try simp only[hh,Bool.not_true,Bool.not_false,↓M2,M2,Mb,reduceIte])) | (refine Q4 (fun hh=>?_) (fun hh=>?_)<;>(try simp only[hh,Bool.not_true,Bool.not_false,↓M2,M2,Mb,reduceIte])))))
    all_goals exact aF
  .simp only[decide_eq_false h2,↓M1,M1,Mb,reduceIte] at h⊢
   (repeat' (first | (with_reducible intro _) | (with_reducible refine M0 ?_) | (simp only[↓M2,M2,Mb,reduceIte]) | (with_reducible first | refine ld aS aL aR ?_ | refine Y6 aS aL aR ?_ | refine Z3 aS aL aR ?_ | refine Q6 aL ?_ | refine W3 aR ?_ | refine Z6 aS ?_ | refine H9 aS aL ?_ | refine L6 aS aR ?_ | refine Z9 aS aR aR (Rep.one Q8) ?_ | refine W8 aS aR aR aR ?_ | (refine V6 (fun hh=>?_) (fun hh=>?_)<;>(try simp only[hh,Bool.not_true,Bool.not_false,↓M2,M2,Mb,reduceIte])) | (refine Q4 (fun hh=>?_) (fun hh=>?_)<;>(try simp only[hh,Bool.not_true,Bool.not_false,↓M2,M2,Mb,reduceIte])))))
   all_goals exact aF
 rw[if_neg h1] at h;simp only[decide_eq_false h1,↓M1,M1,Mb,reduceIte]
 by_cases h2:n=[110,101,119]
 .rw[if_pos h2] at h
  simp only[decide_eq_true h2,↓M1,M1,Mb,reduceIte]
  (repeat' (first | (with_reducible intro _) | (with_reducible refine M0 ?_) | (simp only[↓M2,M2,Mb,reduceIte]) | (with_reducible first | refine ld aS aL aR ?_ | refine Y6 aS aL aR ?_ | refine Z3 aS aL aR ?_ | refine Q6 aL ?_ | refine W3 aR ?_ | refine Z6 aS ?_ | refine H9 aS aL ?_ | refine L6 aS aR ?_ | refine Z9 aS aR aR (Rep.one Q8) ?_ | refine W8 aS aR aR aR ?_ | refine Ke _ au (H6 aS ?_) | (refine V6 (fun hh=>?_) (fun hh=>?_)<;>(try simp only[hh,Bool.not_true,Bool.not_false,↓M2,M2,Mb,reduceIte])) | (refine Q4 (fun hh=>?_) (fun hh=>?_)<;>(try simp only[hh,Bool.not_true,Bool.not_false,↓M2,M2,Mb,reduceIte])))))
  all_goals exact aF
 rw[if_neg h2] at h;simp only[decide_eq_false h2,↓M1,M1,Mb,reduceIte]
 by_cases h3:n=[105,115]\/n=[99,97,115,116]
 .rw[if_pos h3] at h
  have e4:(decide (n=[105,115])||decide (n=[99,97,115,116]))=true:=by simpa using h3
  refine M0 ?_;refine Q4 (fun h4=>?_) (fun h4=>?_)
  .simp only[h4,↓M1,M1,Mb,reduceIte]
   (repeat' (first | (with_reducible intro _) | (with_reducible refine M0 ?_) | (simp only[↓M2,M2,Mb,reduceIte]) | (with_reducible first | refine ld aS aL aR ?_ | refine Y6 aS aL aR ?_ | refine Z3 aS aL aR ?_ | refine Q6 aL ?_ | refine W3 aR ?_ | refine Z6 aS ?_ | refine H9 aS aL ?_ | refine L6 aS aR ?_ | refine Z9 aS aR aR (Rep.one Q8) ?_ | refine W8 aS aR aR aR ?_ | refine Wb _ au (H6 aS ?_) | refine Kf _ ?_ | (refine V6 (fun hh=>?_) (fun hh=>?_)<;>(try simp only[hh,Bool.not_true,Bool.not_false,↓M2,M2,Mb,reduceIte])) | (refine Q4 (fun hh=>?_) (fun hh=>?_)<;>(try simp only[hh,Bool.not_true,Bool.not_false,↓M2,M2,Mb,reduceIte])))))
   all_goals exact aF
  .rw[h4,Bool.false_or] at e4
   simp only[e4,↓M1,M1,Mb,reduceIte]
   (repeat' (first | (with_reducible intro _) | (with_reducible refine M0 ?_) | (simp only[↓M2,M2,Mb,reduceIte]) | (with_reducible first | refine ld aS aL aR ?_ | refine Y6 aS aL aR ?_ | refine Z3 aS aL aR ?_ | refine Q6 aL ?_ | refine W3 aR ?_ | refine Z6 aS ?_ | refine H9 aS aL ?_ | refine L6 aS aR ?_ | refine Z9 aS aR aR (Rep.one Q8) ?_ | refine W8 aS aR aR aR ?_ | refine Wb _ au (H6 aS ?_) | refine Kf _ ?_ | (refine V6 (fun hh=>?_) (fun hh=>?_)<;>(try simp only[hh,Bool.not_true,Bool.not_false,↓M2,M2,Mb,reduceIte])) | (refine Q4 (fun hh=>?_) (fun hh=>?_)<;>(try simp only[hh,Bool.not_true,Bool.not_false,↓M2,M2,Mb,reduceIte])))))
   all_goals exact aF
 rw[if_neg h3] at h;obtain ⟨h3,h4⟩:=not_or.1 h3;refine M0 ?_;simp only[decide_eq_false h3,decide_eq_false h4,↓M1,M1,Mb,reduceIte]
 by_cases h5:n=[97,114,114,97,121]
 .rw[if_pos h5] at h
  simp only[decide_eq_true h5,↓M1,M1,Mb,reduceIte]
  (repeat' (first | (with_reducible intro _) | (with_reducible refine M0 ?_) | (simp only[↓M2,M2,Mb,reduceIte]) | (with_reducible first | refine ld aS aL aR ?_ | refine Y6 aS aL aR ?_ | refine Z3 aS aL aR ?_ | refine Q6 aL ?_ | refine W3 aR ?_ | refine Z6 aS ?_ | refine H9 aS aL ?_ | refine L6 aS aR ?_ | refine Z9 aS aR aR (Rep.one Q8) ?_ | refine W8 aS aR aR aR ?_ | refine Wb _ au (H6 aS ?_) | refine X5q _ au (H6 aS ?_) | (refine V6 (fun hh=>?_) (fun hh=>?_)<;>(try simp only[hh,Bool.not_true,Bool.not_false,↓M2,M2,Mb,reduceIte])) | (refine Q4 (fun hh=>?_) (fun hh=>?_)<;>(try simp only[hh,Bool.not_true,Bool.not_false,↓M2,M2,Mb,reduceIte])))))
  all_goals (try rw[e3])
  all_goals exact aF
 rw[if_neg h5] at h;simp only[decide_eq_false h5,↓M1,M1,Mb,reduceIte];intro _;refine X8F a ha2 (H6 hs fun w1 σ1 hk=>?_)
 by_cases hp:Wa a=true
 .simp only[hp,if_true] at h⊢
  (repeat' (first | (with_reducible intro _) | (with_reducible refine M0 ?_) | (simp only[↓M2,M2,Mb,reduceIte]) | (with_reducible first | refine ld aS aL aR ?_ | refine Y6 aS aL aR ?_ | refine Z3 aS aL aR ?_ | refine Q6 aL ?_ | refine W3 aR ?_ | refine Z6 aS ?_ | refine H9 aS aL ?_ | refine L6 aS aR ?_ | refine Z9 aS aR aR (Rep.one Q8) ?_ | refine W8 aS aR aR aR ?_ | (refine V6 (fun hh=>?_) (fun hh=>?_)<;>(try simp only[hh,Bool.not_true,Bool.not_false,↓M2,M2,Mb,reduceIte])) | (refine Q4 (fun hh=>?_) (fun hh=>?_)<;>(try simp only[hh,Bool.not_true,Bool.not_false,↓M2,M2,Mb,reduceIte])))))
  all_goals exact aF
 .simp only[eq_false_of_ne_true hp,Bool.false_eq_true,if_false] at h⊢
  (repeat' (first | (with_reducible intro _) | (with_reducible refine M0 ?_) | (simp only[↓M2,M2,Mb,reduceIte]) | (with_reducible first | refine ld aS aL aR ?_ | refine Y6 aS aL aR ?_ | refine Z3 aS aL aR ?_ | refine Q6 aL ?_ | refine W3 aR ?_ | refine Z6 aS ?_ | refine H9 aS aL ?_ | refine L6 aS aR ?_ | refine Z9 aS aR aR (Rep.one Q8) ?_ | refine W8 aS aR aR aR ?_ | (refine V6 (fun hh=>?_) (fun hh=>?_)<;>(try simp only[hh,Bool.not_true,Bool.not_false,↓M2,M2,Mb,reduceIte])) | (refine Q4 (fun hh=>?_) (fun hh=>?_)<;>(try simp only[hh,Bool.not_true,Bool.not_false,↓M2,M2,Mb,reduceIte])))))
  all_goals exact aF)
def G1 (i:Ins):Int:=if !(K1 i.op).2.2 then 40 else if (!(K1 i.op).1&&decide (i.n≠0))||(!(K1 i.op).2.1&&decide (i.s≠[]))||((K1 i.op).2.1&& !txt i.op i.s) then 41 else 0
theorem X6t {a:Q9} (c:X3 w σ) (b:Glb σ) (h: ∀w',Below w.heap.size w w'->K (.tuple #[.bool (K1 a).1, .bool (K1 a).2.1, .bool (K1 a).2.2]) w'):Q0 P F.cL [S a] w K:=X87 c b.ops h
theorem X1Z {i:Ins} {cs:List Value} (hs:X3 w σ) (hg:Glb σ) (hi:Zn σ i cs) (h: ∀w' σ',Stp w σ w' σ'->K (I (G1 i)) w'):Q0 P F.dh [.agg cs.toArray] w K:=X18 (by
 obtain ⟨rfl,h1,h2,h3⟩:=hi;unfold Q3X;simp only[D0];unfold J1 X6 X2 J9;unfold G1 at h
 (repeat' (first | (with_reducible intro _) | (with_reducible refine M0 ?_) | (simp only[↓M2,M2,Mb,reduceIte]) | (with_reducible first | refine ld aS aL aR ?_ | refine Y6 aS aL aR ?_ | refine Z3 aS aL aR ?_ | refine Q6 aL ?_ | refine W3 aR ?_ | refine Z6 aS ?_ | refine H9 aS aL ?_ | refine L6 aS aR ?_ | refine Z9 aS aR aR (Rep.one Q8) ?_ | refine W8 aS aR aR aR ?_ | refine X6t au au (H6 aS ?_) | refine X9x au au au ?_ | (refine V6 (fun hh=>?_) (fun hh=>?_)<;>(try simp only[hh,Bool.not_true,Bool.not_false,↓M2,M2,Mb,reduceIte])) | (refine Q4 (fun hh=>?_) (fun hh=>?_)<;>(try simp only[hh,Bool.not_true,Bool.not_false,↓M2,M2,Mb,reduceIte])))))
 all_goals exact aF)
end Go.Proofs.Y
namespace Go.Emb
open Go.Proofs.YtlfdfcejjgidpaaGreatDoor Go.RowKit Go.Hm
variable {P : Program} {W : World}
theorem Q6m {w:World} (c:X3 w (Ni W)) {a:Addr} {v:Value} (h:W.cell? a=some v):w.cell? a=some v:=by
 unfold World.cell? at h⊢;cases b:W.heap[a.block]? with
 | none=>rw[b] at h;cases h
 | some o=>rw[b] at h;rw[c _ o b];exact h
theorem X9A {α:Type} {f:α->List Value} {sz:Nat} (k: ∀a,(f a).length=sz): ∀(l:List α) (cs:List Value),cs.length=l.length*sz->(∀i a,l[i]? =some a->(cs.drop (i*sz)).take sz=f a)->cs=l.flatMap f:=by
 intro l
 induction l with
 | nil=>intro cs h _;simp at h;simp[h]
 | cons a r j=>
  intro cs h hh;have c:=hh 0 a rfl
  have e:=j (cs.drop sz) (by rw[List.length_drop,h,List.length_cons,Nat.succ_mul];omega) (fun i b g=>by
   have:=hh (i+1) b (by simpa using g)
   rw[List.drop_drop]
   rwa [Nat.succ_mul,Nat.add_comm] at this)
  rw[List.flatMap_cons,<-e,<-c]
  simp
theorem Q8F {α H:Type} {enc:TypeId×Value->H} {base:Nat} {w:Nat->Bool} {b:Bool} {f:α->List Value} {g:α->DataW H} {n sz:Nat} {t e:TypeId} {c:Nat} {cs:List Value} {p:List MemPlace} (E:P.underlying t=some (.array n e)) (B:P.cellsOf e=sz) (j:P.cellsOf t=n*sz)
 (l:List α) (C: ∀a,(f a).length=sz) (o: ∀m cs a q,DataW.trod enc P W base w b m e cs=some (g a,q)->cs=f a)
 (h:DataW.trod enc P W base w b c t cs=some (.agg (l.map g),p)):cs=l.flatMap f:=by
 obtain ⟨xs,m,_,k,y,J,z⟩:=DataW.trod_array E h;simp only[Prod.mk.injEq,DataW.agg.injEq] at k;have D:l.length=n:=by have:=congrArg List.length k.1;simp at this;omega
 refine X9A C l cs (by rw[y,j,D]) fun i a s=>?_
 have L:i<l.length:=(List.getElem?_eq_some_iff.1 s).1;have r:=z i Q5;have u:i<xs.length:=by omega
 rw[List.getElem?_eq_getElem u,B] at r
 have A:(xs[i]).1=g a:=by
  have:=congrArg (·[i]?) k.1;simp only[List.getElem?_map,s,List.getElem?_eq_getElem u,Option.map_some,Option.some.injEq] at this;exact this.symm
 exact o m _ a _ (by rw[r];congr 1;exact Prod.ext A rfl)
theorem X0L {n:String} {g:Nat} {cs:Array Value} {l:List Value} (f:P.globalNamed n=some g) (a:W.var? P n=some cs) (j:cs.toList=l):U0 (Ni W) ⟨g,0,none⟩ l:=by
 unfold World.var? at a;rw[f] at a;simp only[Option.bind_some] at a;cases b:W.heap[g]? with
 | none=>rw[b] at a;cases a
 | some o=>
  rw[b] at a;cases o with
  | cells arr e c=>
   cases a;refine ⟨rfl,cs,e,c,b,fun i v h=>?_⟩;subst j
   simpa using h
  | _=>cases a
end Go.Emb
namespace Go.Proofs.Y
open Go.Proofs.YtlfdfcejjgidpaaGreatDoor Go.Emb Go.RowKit Go.Kd Go.Hm
variable {W : World}
def laidAll:List (String×DataW Unit):=[("unicode/utf8.acceptRanges",Rows.laid_unicode_utf8_acceptRanges),("squinch/code.ops",Rows.laid_squinch_code_ops),("squinch/hier.faults",Rows.laid_squinch_hier_faults),("unicode/utf8.first",Rows.laid_unicode_utf8_first)]
theorem Y0V:Rows.laid_squinch_code_ops=(.agg (Mg.map fun o=> .agg [.lit (.string o.name), .lit (.bool o.number), .lit (.bool o.text)]):DataW Unit):=by rfl
theorem X6I:Rows.laid_squinch_hier_faults=(.agg (M7.map fun s=> .lit (.string s)):DataW Unit):=by rfl
theorem Y0t:(Rows.laid_unicode_utf8_acceptRanges:DataW Unit)=Lib.acceptData:=by rfl
theorem X8y:Rows.laid_unicode_utf8_first=Lib.firstData:=by kernel_rfl
def Y1s:Array Field:= #[⟨"name",T.b,0,false, "", "squinch/code",0⟩,⟨"number",T.s,1,false, "", "squinch/code",16⟩,⟨"text",T.s,2,false, "", "squinch/code",17⟩]
theorem Y1y:P.underlying T.al=some (.struct Y1s):=by kernel_rfl
theorem X9T (h:laidMetH P laidAll W):Glb (Ni W):=by
 rw[Go.MakeChecks.laidMetH_plain _ _ _ X7] at h;refine ⟨?_,fun w C=>?_,?_⟩
 .obtain ⟨g,t,cs,l,p,r,k,b,o⟩:=Lib.laidMet.reads h (.tail _ (.head _))
  obtain rfl:=Option.some.inj ((show P.globalNamed "squinch/code.ops"=some G.a by kernel_rfl).symm.trans r)
  obtain rfl:=Option.some.inj ((show (P.globals[G.a]?).map (·.type)=some T.ao by kernel_rfl).symm.trans k)
  rw[Y0V] at o;refine X0L r b (Q8F (f:=cOp) (sz:=3) (n:=42) (e:=T.al) X7 X7 X7 Mg (fun _=>rfl) (fun m cs a q h=>by
  obtain ⟨xs,n,_,j,U,V,B⟩:=DataW.trod_struct Y1y h;simp only[Prod.mk.injEq,DataW.agg.injEq] at j;have u:cs.length=3:=by rw[U];kernel_rfl
  obtain ⟨y,z,A,rfl⟩:=X7K u;obtain ⟨x0,x1,x2,rfl⟩:=X7K (show xs.length=3 by rw[V];rfl)
  have j:=j.1;simp only[List.map_cons,List.map_nil,List.cons.injEq,and_true] at j;obtain ⟨D,E,J⟩:=j;have L:DataW.trod (fun _=>()) P W 0 (fun _=>true) false n T.b (List.take (P.cellsOf T.b) (List.drop 0 [y,z,A]))=some x0:=B 0 _ rfl;have M:DataW.trod (fun _=>()) P W 0 (fun _=>true) false n T.s (List.take (P.cellsOf T.s) (List.drop 1 [y,z,A]))=some x1:=B 1 _ rfl;have N:DataW.trod (fun _=>()) P W 0 (fun _=>true) false n T.s (List.take (P.cellsOf T.s) (List.drop 2 [y,z,A]))=some x2:=B 2 _ rfl;rw[Q1F] at L;rw[Y03] at M N;obtain ⟨⟨⟨s0⟩⟩,q0,Y,_⟩:=DataW.trod_string Z5 L;obtain ⟨b1,Q,Z⟩:=DataW.trod_bool Q7N M;obtain ⟨b2,R,r2⟩:=DataW.trod_bool Q7N N
  simp at q0 Q R
  subst q0 Q R Y Z r2
  simp at D E J
  simp[cOp,<-D,<-E,<-J]) o)
 .have:=utf8Tabs_of_readsT (U8Types.of196 Tryz.lays196) ⟨by kernel_rfl,by kernel_rfl,by kernel_rfl,by kernel_rfl,by kernel_rfl,by kernel_rfl,by kernel_rfl⟩ (X8y▸Lib.laidMet.reads h (.tail _ (.tail _ (.tail _ (.head _))))) (Y0t▸Lib.laidMet.reads h (.head _))
  exact ⟨fun c X=>Q6m C (this.1 c X),fun i O=>⟨Q6m C (this.2 i O).1,Q6m C (this.2 i O).2⟩⟩
 .obtain ⟨g,t,cs,l,p,r,k,b,o⟩:=Lib.laidMet.reads h (.tail _ (.tail _ (.head _)))
  obtain rfl:=Option.some.inj ((show P.globalNamed "squinch/hier.faults"=some G.b by kernel_rfl).symm.trans r)
  obtain rfl:=Option.some.inj ((show (P.globals[G.b]?).map (·.type)=some T.az by kernel_rfl).symm.trans k)
  rw[X6I] at o
  have:=Q8F (f:=fun s=>[S s]) (sz:=1) (n:=6) (e:=T.b) X7 Q1F X7 M7 (fun _=>rfl) (fun m cs a q h=>by
   obtain ⟨⟨⟨s⟩⟩,rfl,j,_⟩:=DataW.trod_string Z5 h;cases j;rfl) o
  exact X0L r b (this.trans (by rfl))
end Go.Proofs.Y
namespace Go.Emb
open Go.Proofs.YtlfdfcejjgidpaaGreatDoor Go.RowKit Go.Hm
theorem X1S {H:Type} {P:Program} {a:List TypeId} {ds:List (DataW H)} (h:(DataW.weightsEach P a ds).all (· <=reachBytes)=true) {j:Nat} {t:TypeId} {d:DataW H} (e:a[j]? =some t) (b:ds[j]? =some d):Wt P t d:=fun n c=>by
 have:=List.all_eq_true.1 h _ (DataW.weights_mem_each e b n c)
 simpa using this
end Go.Emb
namespace Go.Proofs.Y
open Go.Emb Go.RowKit Go.Kd Go.Hm
variable {w : World} {K : Value -> World -> Prop} {σ : Q2}
def Xg (n:Int) (x:Cat):Bool:=decide (0<=x.frm)&&decide (x.frm<x.to)&&decide (x.to<=n)&&decide (0<=x.at_)&&decide (x.at_<n)&&C6 x.cls
theorem X3B {cs:List Value} {c:Cat} {q:Addr} {n:Int} (hs:X3 w σ) (hc:Ld σ c cs) (hq:U0 σ q [I n]) (h: ∀w' σ',Stp w σ w' σ'->K (.bool (Xg n c)) w'):Q0 P F.bC [.agg cs.toArray, .pointer (some q)] w K:=Q6y (by
 obtain ⟨rfl,h1,h2,h3,h4⟩:=hc;unfold Kw J1 X6 X2 X1;unfold Xg at h
 (repeat' (first | (with_reducible intro _) | (with_reducible refine M0 ?_) | (simp only[↓M2,M2,Mb,reduceIte]) | (with_reducible first | refine ld aS aL aR ?_ | refine Y6 aS aL aR ?_ | refine Z3 aS aL aR ?_ | refine Q6 aL ?_ | refine W3 aR ?_ | refine Z6 aS ?_ | refine H9 aS aL ?_ | refine L6 aS aR ?_ | refine Z9 aS aR aR (Rep.one Q8) ?_ | refine W8 aS aR aR aR ?_ | refine Ke _ au (H6 aS ?_) | (refine V6 (fun hh=>?_) (fun hh=>?_)<;>(try simp only[hh,Bool.not_true,Bool.not_false,↓M2,M2,Mb,reduceIte])) | (refine Q4 (fun hh=>?_) (fun hh=>?_)<;>(try simp only[hh,Bool.not_true,Bool.not_false,↓M2,M2,Mb,reduceIte])))))
 all_goals exact aF)
theorem X3C {cs:List Value} {i:Ins} (hs:X3 w σ) (hg:Glb σ) (hc:Zn σ i cs) (h: ∀w' σ',Stp w σ w' σ'->K (.bool (decide (G1 i=0))) w'):Q0 P F.bD [.agg cs.toArray] w K:=Q6z (by
 obtain ⟨rfl,h1,h2,h3⟩:=hc;have hc:Zn σ i [S i.op,I i.n,S i.s]:=⟨rfl,h1,h2,h3⟩;unfold Kx X2
 (repeat' (first | (with_reducible intro _) | (with_reducible refine M0 ?_) | (simp only[↓M2,M2,Mb,reduceIte]) | (with_reducible first | refine ld aS aL aR ?_ | refine Y6 aS aL aR ?_ | refine Z3 aS aL aR ?_ | refine Q6 aL ?_ | refine W3 aR ?_ | refine Z6 aS ?_ | refine H9 aS aL ?_ | refine L6 aS aR ?_ | refine Z9 aS aR aR (Rep.one Q8) ?_ | refine W8 aS aR aR aR ?_ | refine X1Z au au au ?_ | (refine V6 (fun hh=>?_) (fun hh=>?_)<;>(try simp only[hh,Bool.not_true,Bool.not_false,↓M2,M2,Mb,reduceIte])) | (refine Q4 (fun hh=>?_) (fun hh=>?_)<;>(try simp only[hh,Bool.not_true,Bool.not_false,↓M2,M2,Mb,reduceIte])))))
 all_goals exact aF)
def Ye (m:Hm.Met):Bool:=B5 m.name&&m.params.all right&&(decide (m.result=[])||right m.result)&&
 if m.abs then decide (m.locals=0)&&decide (m.code=[])&&decide (m.catches=[])
 else decide (m.code≠[])&&decide ((m.params.length:Int)<m.locals)&&m.code.all (fun i=>decide (G1 i=0))&&m.catches.all (Xg m.code.length)
theorem X6w {cs:List Value} {m:Hm.Met} (hs:X3 w σ) (hg:Glb σ) (hm:F9 σ m cs) (h: ∀w' σ',Stp w σ w' σ'->K (.bool (Ye m)) w'):Q0 P F.bm [.agg cs.toArray] w K:=Q8q (by
 obtain ⟨pv,cv,hv,rfl,g1,g2,g3,g4,g5,g6⟩:=hm;unfold Q0k;simp only[L9];unfold J1 X6 X8 X4 X2 J9 X1;unfold Ye at h;have e1:decide ((0:Int)<m.code.length)=decide (m.code≠[]):=by cases m.code<;>simp
 have e2:decide ((m.code.length:Int)=0)=decide (m.code=[]):=by cases m.code<;>simp;omega
 have e3:decide ((m.catches.length:Int)=0)=decide (m.catches=[]):=by cases m.catches<;>simp;omega
 have hA: ∀{w1:World} {σ1:Q2} {K:Value->World->Prop},X3 w1 σ1->Sl 1 L1 σ1 pv m.params->(∀w' σ',Stp w1 σ1 w' σ'->K (.bool (m.params.all right)) w')->Q0 P F.ab [pv, .func (.func F.a2) #[] #[]] w1 K:=
  fun hs hv h=>Q0d right hs hv (fun σ1 x w1 K _ _ hs hl hK=>J8 (Wb x (Nat.le_trans hl L7) hK)) (H6 hs h)
 have hB: ∀{w1:World} {σ1:Q2} {K:Value->World->Prop},X3 w1 σ1->Glb σ1->Sl 3 Zn σ1 cv m.code->(∀w' σ',Stp w1 σ1 w' σ'->K (.bool (m.code.all fun i=>decide (G1 i=0))) w')->Q0 P F.az [cv, .func (.func F.bD) #[] #[]] w1 K:=
  fun hs hg hv h=>Q5x (fun i=>decide (G1 i=0)) hs hv (fun σ1 x cs w1 K le _ hs hr hl hK=>J8 (X3C hs (hg.lift ⟨le⟩) hr fun w' σ' hk=>hK w' hk.bel)) (H6 hs h)
 have hC: ∀{w1:World} {σ1:Q2} {K:Value->World->Prop} {q:Addr},X3 w1 σ1->Sl 4 Ld σ1 hv m.catches->U0 σ1 q [I m.code.length]->(∀w' σ',Stp w1 σ1 w' σ'->K (.bool (m.catches.all (Xg m.code.length))) w')->Q0 P F.ax [hv, .func (.func F.bC) #[] #[.pointer (some q)]] w1 K:=
  fun hs hv hq h=>Q5v (Xg m.code.length) hs hv (fun σ1 x cs w1 K le _ hs hr hl hK=>J8 (X3B hs hr (hq.le le) fun w' σ' hk=>hK w' hk.bel)) (H6 hs h)
 refine Z6 hs fun a w1 σ1 hk1 ha1=>?_
 (repeat' (first | (with_reducible intro _) | (with_reducible refine M0 ?_) | (simp only[↓M2,M2,Mb,reduceIte]) | (with_reducible first | refine ld aS aL aR ?_ | refine Y6 aS aL aR ?_ | refine Z3 aS aL aR ?_ | refine Q6 aL ?_ | refine W3 aR ?_ | refine Z6 aS ?_ | refine H9 aS aL ?_ | refine L6 aS aR ?_ | refine Z9 aS aR aR (Rep.one Q8) ?_ | refine W8 aS aR aR aR ?_ | refine X0e au (H6 aS ?_) | refine Wb _ au (H6 aS ?_) | refine hA au au ?_ | refine hB au au au ?_ | refine hC au au au ?_ | (refine V6 (fun hh=>?_) (fun hh=>?_)<;>(try simp only[hh,Bool.not_true,Bool.not_false,↓M2,M2,Mb,reduceIte])) | (refine Q4 (fun hh=>?_) (fun hh=>?_)<;>(try simp only[hh,Bool.not_true,Bool.not_false,↓M2,M2,Mb,reduceIte])))))
 all_goals (simp only[<-e1,<-e2,<-e3] at h;clear e1 e2 e3;exact aF))
theorem X50 {cs:List Value} {m:Hm.Met} (c:X3 w σ) (a:Glb σ) (b:F9 σ m cs) (h: ∀w' d,Stp w σ w' d->K (.bool (Ye m)) w'):J6 P (.func (.func F.bm) #[] #[]) [.agg cs.toArray] w K:=J8 (X6w c a b h)
def Kq (f:Fld):Bool:=B5 f.name&&right f.kind
def Gc (c:Cla):Bool:=(c.name::c.super::c.like).all C6&& !((c.super::c.like).any fun y=>decide (c.name=y))&&Qw id [] c.like&&
 !(c.iface&&(!c.abs|| !decide (c.super=L3)|| !decide (c.fields=[])||c.methods.any (fun m=> !m.abs)))&&
 !((c.abs&&c.fin)||(c.methods.any (·.abs)&& !c.abs))&&Qw Fld.name [] c.fields&&Qw Hm.Met.name [] c.methods&&c.fields.all Kq&&c.methods.all Ye
def F2 (c:Cla):Int:=if Wi c then 51 else if Gc c then 0 else 50
theorem X51 {cs:List Value} {f:Fld} (hs:X3 w σ) (hf:K3 σ f cs) (h: ∀w' σ',Stp w σ w' σ'->K (.bool (Kq f)) w'):Q0 P F.bY [.agg cs.toArray] w K:=Q7v (by
 obtain ⟨rfl,h1,h2⟩:=hf;unfold Ab J1 X6;unfold Kq at h
 (repeat' (first | (with_reducible intro _) | (with_reducible refine M0 ?_) | (simp only[↓M2,M2,Mb,reduceIte]) | (with_reducible first | refine ld aS aL aR ?_ | refine Y6 aS aL aR ?_ | refine Z3 aS aL aR ?_ | refine Q6 aL ?_ | refine W3 aR ?_ | refine Z6 aS ?_ | refine H9 aS aL ?_ | refine L6 aS aR ?_ | refine Z9 aS aR aR (Rep.one Q8) ?_ | refine W8 aS aR aR aR ?_ | refine X0e au (H6 aS ?_) | refine Wb _ au (H6 aS ?_) | (refine V6 (fun hh=>?_) (fun hh=>?_)<;>(try simp only[hh,Bool.not_true,Bool.not_false,↓M2,M2,Mb,reduceIte])) | (refine Q4 (fun hh=>?_) (fun hh=>?_)<;>(try simp only[hh,Bool.not_true,Bool.not_false,↓M2,M2,Mb,reduceIte])))))
 all_goals exact aF)
set_option maxRecDepth 9999 in
set_option maxHeartbeats 1600000 in
theorem X8c {cs:List Value} {c:Cla} (hs:X3 w σ) (hg:Glb σ) (hc:M8 σ c cs) (hl:c.like.length<=1000000) (h: ∀w' σ',Stp w σ w' σ'->K (.bool (Gc c)) w'):Q0 P F.d7 [.agg cs.toArray] w K:=Q9B (by
 obtain ⟨lv,fv,mv,rfl,g1,g2,g3,g4,g5⟩:=hc;unfold Q2C;simp only[Y5,X5];unfold J1 X6 X8 X4 X2 J9;unfold Gc at h;refine Z6 hs fun a w1 σ1 hk1 ha1=>?_;rw[fa];refine ld hk1.sat ha1 rfl ?_;rw[fa];refine ld hk1.sat ha1 rfl ?_;refine Xu (R:=L1) (sz:=1) (xs:=[c.name,c.super]) hk1 [_,_] rfl rfl (by simp;exact ⟨rfl,rfl⟩) rfl ⟨⟨rfl,g4⟩,⟨rfl,g5⟩,trivial⟩ fun v w2 hk2 hacc _=>?_
 rw[fa];refine ld hk2.sat ha1 rfl ?_;refine Vn (hk1.trans hk2) hacc (g1.up hk1) rfl (by simp;omega) (by simp;omega) fun v' w3 hn3 hS3 hacc3 _=>?_
 obtain ⟨σ3,hS3,hv3,le3,_⟩:=hacc3.keep hS3;have hv3:Sl 1 L1 σ3 v' (c.name::c.super::c.like):=hv3;have ha3:=ha1.le le3;have le13:SLe σ σ3:=⟨hS3.le⟩;have g1:=g1.lift le13;have g2:=g2.lift le13;have g3:=g3.lift le13;have hg:=hg.lift le13;refine V3 hS3.sat ?_;refine F4 (fun v _=>Sl 1 L1 σ3 v (c.super::c.like)) (fun _ _ _ h _=>h) (fun w hb=>?_) ?_
 .refine Gf hv3 (some (I 1)) none 1 (c.like.length+2) (.inr rfl) (.inl ⟨rfl,by simp⟩) Q5 V5 fun v' hv'=>⟨Below.refl _ _,?_⟩
  simpa using hv'
 refine Y1 (.pointer (some (a.add 0))) (fun w hb=>by rw[fa];exact Y4 rfl) ?_
 refine Y1 (S c.name) (fun t w hb e=>by rw[e];exact ld hb.sat ha3 rfl (Y4 rfl)) ?_
 rintro t16 t17 t18 w4 hb4 f16 rfl rfl;have hS4:=hS3.trans hb4.stp;clear hb4 hk1 hk2 hn3;have hs4:=hS4.sat;refine Q5u hs4 f16 ?_
 have hA: ∀{w1:World} {σ1:Q2} {K:Value->World->Prop},X3 w1 σ1->Sl 7 F9 σ1 mv c.methods->(∀w' σ',Stp w1 σ1 w' σ'->K (.bool (c.methods.any (·.abs))) w')->Q0 P F.a [mv, .func (.func F.cR) #[] #[]] w1 K:=
  fun hs hv h=>Qf (·.abs) hs hv (fun x cs w1 K _ hs hr hl hK=>J8 (Q7q (by
   obtain ⟨pv,cv,hv,rfl,_⟩:=hr;unfold Tx X6;refine Z6 hs fun a w1 σ1 hk1 ha1=>?_
   (repeat' (first | (with_reducible intro _) | (with_reducible refine M0 ?_) | (simp only[↓M2,M2,Mb,reduceIte]) | (with_reducible first | refine ld aS aL aR ?_ | refine Y6 aS aL aR ?_ | refine Z3 aS aL aR ?_ | refine Q6 aL ?_ | refine W3 aR ?_ | refine Z6 aS ?_ | refine H9 aS aL ?_ | refine L6 aS aR ?_ | refine Z9 aS aR aR (Rep.one Q8) ?_ | refine W8 aS aR aR aR ?_ | (refine V6 (fun hh=>?_) (fun hh=>?_)<;>(try simp only[hh,Bool.not_true,Bool.not_false,↓M2,M2,Mb,reduceIte])) | (refine Q4 (fun hh=>?_) (fun hh=>?_)<;>(try simp only[hh,Bool.not_true,Bool.not_false,↓M2,M2,Mb,reduceIte])))))
   exact hK _ hk1.bel))) (H6 hs h)
 have hB: ∀{w1:World} {σ1:Q2} {K:Value->World->Prop},X3 w1 σ1->Sl 7 F9 σ1 mv c.methods->(∀w' σ',Stp w1 σ1 w' σ'->K (.bool (c.methods.any fun m=> !m.abs)) w')->Q0 P F.a [mv, .func (.func F.cS) #[] #[]] w1 K:=
  fun hs hv h=>Qf (fun m=> !m.abs) hs hv (fun x cs w1 K _ hs hr hl hK=>J8 (Q7r (by
   obtain ⟨pv,cv,hv,rfl,_⟩:=hr;unfold Ty X6;refine Z6 hs fun a w1 σ1 hk1 ha1=>?_
   (repeat' (first | (with_reducible intro _) | (with_reducible refine M0 ?_) | (simp only[↓M2,M2,Mb,reduceIte]) | (with_reducible first | refine ld aS aL aR ?_ | refine Y6 aS aL aR ?_ | refine Z3 aS aL aR ?_ | refine Q6 aL ?_ | refine W3 aR ?_ | refine Z6 aS ?_ | refine H9 aS aL ?_ | refine L6 aS aR ?_ | refine Z9 aS aR aR (Rep.one Q8) ?_ | refine W8 aS aR aR aR ?_ | (refine V6 (fun hh=>?_) (fun hh=>?_)<;>(try simp only[hh,Bool.not_true,Bool.not_false,↓M2,M2,Mb,reduceIte])) | (refine Q4 (fun hh=>?_) (fun hh=>?_)<;>(try simp only[hh,Bool.not_true,Bool.not_false,↓M2,M2,Mb,reduceIte])))))
   exact hK _ hk1.bel))) (H6 hs h)
 have hC: ∀{w1:World} {σ1:Q2} {K:Value->World->Prop},X3 w1 σ1->Sl 1 L1 σ1 v' (c.name::c.super::c.like)->(∀w' σ',Stp w1 σ1 w' σ'->K (.bool ((c.name::c.super::c.like).all C6)) w')->Q0 P F.ab [v', .func (.func F.al) #[] #[]] w1 K:=
  fun hs hv h=>Q0d C6 hs hv (fun σ1 x w1 K _ _ hs hl hK=>J8 (Ke x (Nat.le_trans hl L7) hK)) (H6 hs h)
 have hD: ∀{w1:World} {σ1:Q2} {K:Value->World->Prop},X3 w1 σ1->Sl 1 L1 σ1 lv c.like->(∀w' σ',Stp w1 σ1 w' σ'->K (.bool (Qw id [] c.like)) w')->Q0 P F.b1 [lv, .func (.func F.cT) #[] #[]] w1 K:=
  fun hs hv h=>Q9v id hs hv (fun σ1 x w1 K _ hs hl hK=>J8 (Q7s (hK _ (Below.refl _ _)))) (H6 hs h)
 have hE: ∀{w1:World} {σ1:Q2} {K:Value->World->Prop},X3 w1 σ1->Sl 3 K3 σ1 fv c.fields->(∀w' σ',Stp w1 σ1 w' σ'->K (.bool (Qw Fld.name [] c.fields)) w')->Q0 P F.aF [fv, .func (.func F.cU) #[] #[]] w1 K:=
  fun hs hv h=>Q6k Fld.name hs hv (fun σ1 x cs w1 K _ hs hr hl hK=>J8 (Q7t (by
   obtain ⟨rfl,_⟩:=hr;unfold Tz X6;refine Z6 hs fun a w1 σ1 hk1 ha1=>?_
   (repeat' (first | (with_reducible intro _) | (with_reducible refine M0 ?_) | (simp only[↓M2,M2,Mb,reduceIte]) | (with_reducible first | refine ld aS aL aR ?_ | refine Y6 aS aL aR ?_ | refine Z3 aS aL aR ?_ | refine Q6 aL ?_ | refine W3 aR ?_ | refine Z6 aS ?_ | refine H9 aS aL ?_ | refine L6 aS aR ?_ | refine Z9 aS aR aR (Rep.one Q8) ?_ | refine W8 aS aR aR aR ?_ | (refine V6 (fun hh=>?_) (fun hh=>?_)<;>(try simp only[hh,Bool.not_true,Bool.not_false,↓M2,M2,Mb,reduceIte])) | (refine Q4 (fun hh=>?_) (fun hh=>?_)<;>(try simp only[hh,Bool.not_true,Bool.not_false,↓M2,M2,Mb,reduceIte])))))
   exact hK _ hk1.bel))) (H6 hs h)
 have hF: ∀{w1:World} {σ1:Q2} {K:Value->World->Prop},X3 w1 σ1->Sl 7 F9 σ1 mv c.methods->(∀w' σ',Stp w1 σ1 w' σ'->K (.bool (Qw Hm.Met.name [] c.methods)) w')->Q0 P F.aA [mv, .func (.func F.cV) #[] #[]] w1 K:=
  fun hs hv h=>Q5y Hm.Met.name hs hv (fun σ1 x cs w1 K _ hs hr hl hK=>J8 (Q7u (by
   obtain ⟨pv,cv,hv,rfl,_⟩:=hr;unfold Aa X6;refine Z6 hs fun a w1 σ1 hk1 ha1=>?_
   (repeat' (first | (with_reducible intro _) | (with_reducible refine M0 ?_) | (simp only[↓M2,M2,Mb,reduceIte]) | (with_reducible first | refine ld aS aL aR ?_ | refine Y6 aS aL aR ?_ | refine Z3 aS aL aR ?_ | refine Q6 aL ?_ | refine W3 aR ?_ | refine Z6 aS ?_ | refine H9 aS aL ?_ | refine L6 aS aR ?_ | refine Z9 aS aR aR (Rep.one Q8) ?_ | refine W8 aS aR aR aR ?_ | (refine V6 (fun hh=>?_) (fun hh=>?_)<;>(try simp only[hh,Bool.not_true,Bool.not_false,↓M2,M2,Mb,reduceIte])) | (refine Q4 (fun hh=>?_) (fun hh=>?_)<;>(try simp only[hh,Bool.not_true,Bool.not_false,↓M2,M2,Mb,reduceIte])))))
   exact hK _ hk1.bel))) (H6 hs h)
 have hG: ∀{w1:World} {σ1:Q2} {K:Value->World->Prop},X3 w1 σ1->Sl 3 K3 σ1 fv c.fields->(∀w' σ',Stp w1 σ1 w' σ'->K (.bool (c.fields.all Kq)) w')->Q0 P F.ay [fv, .func (.func F.bY) #[] #[]] w1 K:=
  fun hs hv h=>Q5w Kq hs hv (fun σ1 x cs w1 K _ _ hs hr hl hK=>J8 (X51 hs hr fun w' σ' hk=>hK w' hk.bel)) (H6 hs h)
 have hH: ∀{w1:World} {σ1:Q2} {K:Value->World->Prop},X3 w1 σ1->Glb σ1->Sl 7 F9 σ1 mv c.methods->(∀w' σ',Stp w1 σ1 w' σ'->K (.bool (c.methods.all Ye)) w')->Q0 P F.aq [mv, .func (.func F.bm) #[] #[]] w1 K:=
  fun hs hg hv h=>Q3J Ye hs hv (fun σ1 x cs w1 K le _ hs hr hl hK=>X50 hs (hg.lift ⟨le⟩) hr fun w' σ' hk=>hK w' hk.bel) (H6 hs h)
 have e1:decide ((0:Int)<c.fields.length)= !decide (c.fields=[]):=by cases c.fields<;>simp
 have e2:decide (c.super=[79,98,106,101,99,116])=decide (c.super=L3):=rfl
 (repeat' (first | (with_reducible intro _) | (with_reducible refine M0 ?_) | (simp only[↓M2,M2,Mb,reduceIte]) | (with_reducible first | refine ld aS aL aR ?_ | refine Y6 aS aL aR ?_ | refine Z3 aS aL aR ?_ | refine Q6 aL ?_ | refine W3 aR ?_ | refine Z6 aS ?_ | refine H9 aS aL ?_ | refine L6 aS aR ?_ | refine Z9 aS aR aR (Rep.one Q8) ?_ | refine W8 aS aR aR aR ?_ | refine hA au au ?_ | refine hB au au ?_ | refine hC au au ?_ | refine hD au au ?_ | refine hE au au ?_ | refine hF au au ?_ | refine hG au au ?_ | refine hH au au au ?_ | (refine V6 (fun hh=>?_) (fun hh=>?_)<;>(try simp only[hh,Bool.not_true,Bool.not_false,↓M2,M2,Mb,reduceIte])) | (refine Q4 (fun hh=>?_) (fun hh=>?_)<;>(try simp only[hh,Bool.not_true,Bool.not_false,↓M2,M2,Mb,reduceIte])))))
 all_goals (simp only[<-e1,<-e2] at h;clear hA hB hC hD hE hF hG hH e1 e2;exact aF))
theorem X80 {cs:List Value} {c:Cla} (hs:X3 w σ) (hg:Glb σ) (hc:M8 σ c cs) (hl:c.like.length<=1000000) (h: ∀w' σ',Stp w σ w' σ'->K (I (F2 c)) w'):Q0 P F.d6 [.agg cs.toArray] w K:=Q9A (by
 have hc0:=hc;obtain ⟨lv,fv,mv,rfl,g1,g2,g3,g4,g5⟩:=hc;unfold Q2B;unfold F2 at h
 (repeat' (first | (with_reducible intro _) | (with_reducible refine M0 ?_) | (simp only[↓M2,M2,Mb,reduceIte]) | (with_reducible first | refine ld aS aL aR ?_ | refine Y6 aS aL aR ?_ | refine Z3 aS aL aR ?_ | refine Q6 aL ?_ | refine W3 aR ?_ | refine Z6 aS ?_ | refine H9 aS aL ?_ | refine L6 aS aR ?_ | refine Z9 aS aR aR (Rep.one Q8) ?_ | refine W8 aS aR aR aR ?_ | refine X9v au au (H6 aS ?_) | refine X8c au au au au ?_ | (refine V6 (fun hh=>?_) (fun hh=>?_)<;>(try simp only[hh,Bool.not_true,Bool.not_false,↓M2,M2,Mb,reduceIte])) | (refine Q4 (fun hh=>?_) (fun hh=>?_)<;>(try simp only[hh,Bool.not_true,Bool.not_false,↓M2,M2,Mb,reduceIte])))))
 all_goals exact aF)
end Go.Proofs.Y
namespace Go.Emb
open Go.RowKit Go.Hm
structure Tab (σ : Q2) (v : Value) (l : List Cla) : Prop where
  ex : ∃ a lv r m, v = .pointer (some a) /\ U0 σ a [lv, .map (some r)] /\ Sl 8 M8 σ lv l /\ Js σ r m /\ ∀ n, T0 m n = (U2 l n).map (fun i : Nat => I (i : Int))
theorem Tab.lift {σ0 σ:Q2} {v:Value} {l:List Cla} (h:Tab σ0 v l) (k:SLe σ0 σ):Tab σ v l:=by
 obtain ⟨a,g,r,m,b,c,d,e,f⟩:=h.ex;exact ⟨a,g,r,m,b,c.lift k,d.lift k,e.lift k,f⟩
end Go.Emb
namespace Go.Proofs.Y
open Go.Emb Go.RowKit Go.Kd Go.Hm
variable {w : World} {K : Value -> World -> Prop} {σ : Q2} {v : Value} {l : List Cla}
theorem X3A {n:Q9} (b:X3 w σ) (d:Tab σ v l) (h:K (.bool (Q4d l n)) w):Q0 P F.j [v,S n] w K:=Fx (by
 obtain ⟨a,i,r,m,rfl,e,j,f,g⟩:=d.ex;unfold Lo;simp only[D0];unfold X6;rw[C0,fa];refine ld b e rfl ?_;rw[Q6u Z5 (f.is b) n,g n];unfold Q4d at h;cases c:U2 l n<;>rw[c] at h<;>((try simp only[Option.map_some,Option.map_none]);(try simp only[↓M1,M1,Mb,reduceIte]);exact h))
theorem Jw {n:Q9} {c:Cla} (V:X3 w σ) (W:Tab σ v l) (Q:lk l n=some c)
 (h: ∀o s mv w' q,Stp w σ w' q->Sl 1 L1 q o c.like->Sl 3 K3 q s c.fields->Sl 7 F9 q mv c.methods->c.name.length<=V4->c.super.length<=V4->M8 q c [S c.name,S c.super,o, .bool c.iface, .bool c.abs, .bool c.fin,s,mv]->
  K (.agg [S c.name,S c.super,o, .bool c.iface, .bool c.abs, .bool c.fin,s,mv].toArray) w'):Q0 P F.e [v,S n] w K:=Q1R (by
 obtain ⟨a,o,r,m,rfl,E,t2,t3,t4⟩:=W.ex;obtain ⟨_,_,i,R,z⟩:=N1 Q;obtain ⟨y,rfl⟩:=List.getElem?_eq_some_iff.1 z;unfold Ha;simp only[Y5,X5];unfold J3;refine E5 V fun b w1 σ1 f d A=>?_;refine V3 d.sat ?_;refine Y1 (.pointer (some a)) (fun w f=>by rw[C0];exact Y4 rfl) ?_
 refine Y1 (.pointer (some (a.add 0))) (fun t w f e=>by rw[e,fa];exact Y4 rfl) ?_
 refine Y1 (.pointer (some a)) (fun w f=>by rw[C0];exact Y4 rfl) ?_
 refine Y1 (.pointer (some (a.add 1))) (fun t w f e=>by rw[e,fa];exact Y4 rfl) ?_
 refine Y1 o (fun t w f e=>by rw[e];exact ld f.sat (E.up d) rfl (Y4 rfl)) ?_
 refine Y1 (.map (some r)) (fun t w f e=>by rw[e];exact ld f.sat (E.up d) rfl (Y4 rfl)) ?_
 refine Y1 (I i) (fun t w f e=>by rw[e,Q95 Z5 ((t3.up d).is f.sat) n,t4 n,R];exact Y4 rfl) ?_
 rintro t6 t7 Y Z t8 aa ab w2 g rfl rfl rfl rfl H rfl rfl;subst H;have B:=A.step g.stp;refine E4 (t2.up d) y fun p cs U j D=>?_;refine Z3 g.sat U j ?_;have k:=D;obtain ⟨X,s,mv,rfl,J,L,M,N,O⟩:=D;refine Qz B (d.trans g.stp) f rfl rfl (Rep.one k) fun w3 u C=>?_;refine M5 C rfl ?_;exact h _ _ _ w3 σ1 u.stp J L M N O k)
theorem Km {n:Q9} (b:X3 w σ) (c:Tab σ v l) (a:lk l n=none) (h:K (.bool false) w):Q0 P F.j [v,S n] w K:=X3A b c (by rw[Q5b,a];exact h)
theorem Bt {n:Q9} {d:Cla} (b:X3 w σ) (c:Tab σ v l) (a:lk l n=some d) (h:K (.bool true) w):Q0 P F.j [v,S n] w K:=X3A b c (by rw[Q5b,a];exact h)
theorem X6y {c:Cla} {cs:List Value} (hs:X3 w σ) (ht:Tab σ v l) (hc:M8 σ c cs) (h: ∀w' σ',Stp w σ w' σ'->K (I (B8 l c)) w'):Q0 P F.bu [v, .agg cs.toArray] w K:=Q0z (by
 obtain ⟨lv,fv,mv,rfl,g1,g2,g3,g4,g5⟩:=hc;unfold Ds J1 X6 J3 V1 X8 X4 X1;unfold B8 at h;cases hd:lk l c.super with
 | none=>
  simp only[Ji,hd,if_true] at h
  (repeat' (first | (with_reducible intro _) | (with_reducible refine M0 ?_) | (simp only[↓M2,M2,Mb,reduceIte]) | (with_reducible first | refine ld aS aL aR ?_ | refine Y6 aS aL aR ?_ | refine Z3 aS aL aR ?_ | refine Q6 aL ?_ | refine W3 aR ?_ | refine Z6 aS ?_ | refine H9 aS aL ?_ | refine L6 aS aR ?_ | refine Z9 aS aR aR (Rep.one Q8) ?_ | refine W8 aS aR aR aR ?_ | refine Km au au au ?_ | (refine V6 (fun hh=>?_) (fun hh=>?_)<;>(try simp only[hh,Bool.not_true,Bool.not_false,↓M2,M2,Mb,reduceIte])) | (refine Q4 (fun hh=>?_) (fun hh=>?_)<;>(try simp only[hh,Bool.not_true,Bool.not_false,↓M2,M2,Mb,reduceIte])))))
  all_goals exact aF
 | some d=>
  simp only[Ji,hd] at h;obtain ⟨dn,ds,dl,di,da,df,dfs,dms⟩:=d;cases di<;>cases df
  .simp only[Bool.or_self,Bool.false_eq_true,if_false] at h
   (repeat' (first | (with_reducible intro _) | (with_reducible refine M0 ?_) | (simp only[↓M2,M2,Mb,reduceIte]) | (with_reducible first | refine ld aS aL aR ?_ | refine Y6 aS aL aR ?_ | refine Z3 aS aL aR ?_ | refine Q6 aL ?_ | refine W3 aR ?_ | refine Z6 aS ?_ | refine H9 aS aL ?_ | refine L6 aS aR ?_ | refine Z9 aS aR aR (Rep.one Q8) ?_ | refine W8 aS aR aR aR ?_ | refine Bt au au au ?_ | refine Jw au au au ?_ | (refine V6 (fun hh=>?_) (fun hh=>?_)<;>(try simp only[hh,Bool.not_true,Bool.not_false,↓M2,M2,Mb,reduceIte])) | (refine Q4 (fun hh=>?_) (fun hh=>?_)<;>(try simp only[hh,Bool.not_true,Bool.not_false,↓M2,M2,Mb,reduceIte])))))
   rename_i w3 σ3 hk3 _ _ _ _ _ _;have hS:Stp w σ w3 σ3:=by (repeat (first | exact Stp.refl (by (first | assumption | exact Stp.sat Q8 | exact Hst.sat Q8)) | assumption | refine Stp.trans ?_ (by first | assumption | exact Hst.stp Q8)))
   refine V7 c.like.length (fun n w'=> ∃σ',Stp w σ w' σ'/\SLe σ3 σ'/\((c.like.take n).any (I9 l))=false) ⟨σ3,hS,SLe.refl _,by simp⟩ fun n w4 d hn hi=>?_
   obtain ⟨σ4,hS4,le4,hq⟩:=hi;clear hk3;refine Y9 ?_;refine Q4 (fun hh=>?_) (fun hh=>?_)
   .have hn':n<c.like.length:=by simpa using hh
    have hmax:c.like.length<=9223372036854775807:=g1.max;refine X0G (by (first | assumption | exact Sl.lift Q8 (by (repeat (first | exact SLe.refl _ | refine SLe.more ?_ Q8 | refine SLe.more ?_ (Nxt.le Q8) | refine SLe.step ?_ Q8))) | exact U0.lift Q8 (by (repeat (first | exact SLe.refl _ | refine SLe.more ?_ Q8 | refine SLe.more ?_ (Nxt.le Q8) | refine SLe.step ?_ Q8))) | exact Js.lift Q8 (by (repeat (first | exact SLe.refl _ | refine SLe.more ?_ Q8 | refine SLe.more ?_ (Nxt.le Q8) | refine SLe.step ?_ Q8))) | exact RCl_lift Q8 (by (repeat (first | exact SLe.refl _ | refine SLe.more ?_ Q8 | refine SLe.more ?_ (Nxt.le Q8) | refine SLe.step ?_ Q8))) | exact RMe_lift Q8 (by (repeat (first | exact SLe.refl _ | refine SLe.more ?_ Q8 | refine SLe.more ?_ (Nxt.le Q8) | refine SLe.step ?_ Q8))) | exact Glb.lift Q8 (by (repeat (first | exact SLe.refl _ | refine SLe.more ?_ Q8 | refine SLe.more ?_ (Nxt.le Q8) | refine SLe.step ?_ Q8))) | exact Tab.lift Q8 (by (repeat (first | exact SLe.refl _ | refine SLe.more ?_ Q8 | refine SLe.more ?_ (Nxt.le Q8) | refine SLe.step ?_ Q8))) | exact RIn_any Q8 | exact RFd_any Q8 | exact RCa_any Q8)) hn' fun p hl hbig=>?_
    have hq':=E8 (p:=I9 l) hn';rw[hq] at hq';cases hx:lk l c.like[n] with
    | none=>
     simp only[P0 (p:=I9 l) hn' (by simp only[I9,hx]),if_true] at h
     (repeat' (first | (with_reducible intro _) | (with_reducible refine M0 ?_) | (simp only[↓M2,M2,Mb,reduceIte]) | (with_reducible first | refine ld aS aL aR ?_ | refine Y6 aS aL aR ?_ | refine Z3 aS aL aR ?_ | refine Q6 aL ?_ | refine W3 aR ?_ | refine Z6 aS ?_ | refine H9 aS aL ?_ | refine L6 aS aR ?_ | refine Z9 aS aR aR (Rep.one Q8) ?_ | refine W8 aS aR aR aR ?_ | refine Km au au au ?_ | (refine V6 (fun hh=>?_) (fun hh=>?_)<;>(try simp only[hh,Bool.not_true,Bool.not_false,↓M2,M2,Mb,reduceIte])) | (refine Q4 (fun hh=>?_) (fun hh=>?_)<;>(try simp only[hh,Bool.not_true,Bool.not_false,↓M2,M2,Mb,reduceIte])))))
     all_goals exact aF
    | some x=>
     obtain ⟨xn,xs,xl,xi,xa,xf,xfs,xms⟩:=x;cases xi
     .simp only[P0 (p:=I9 l) hn' (by simp only[I9,hx];rfl),if_true] at h
      (repeat' (first | (with_reducible intro _) | (with_reducible refine M0 ?_) | (simp only[↓M2,M2,Mb,reduceIte]) | (with_reducible first | refine ld aS aL aR ?_ | refine Y6 aS aL aR ?_ | refine Z3 aS aL aR ?_ | refine Q6 aL ?_ | refine W3 aR ?_ | refine Z6 aS ?_ | refine H9 aS aL ?_ | refine L6 aS aR ?_ | refine Z9 aS aR aR (Rep.one Q8) ?_ | refine W8 aS aR aR aR ?_ | refine Bt au au au ?_ | refine Jw au au au ?_ | (refine V6 (fun hh=>?_) (fun hh=>?_)<;>(try simp only[hh,Bool.not_true,Bool.not_false,↓M2,M2,Mb,reduceIte])) | (refine Q4 (fun hh=>?_) (fun hh=>?_)<;>(try simp only[hh,Bool.not_true,Bool.not_false,↓M2,M2,Mb,reduceIte])))))
      all_goals exact aF
     ·(repeat' (first | (with_reducible intro _) | (with_reducible refine M0 ?_) | (simp only[↓M2,M2,Mb,reduceIte]) | (with_reducible first | refine ld aS aL aR ?_ | refine Y6 aS aL aR ?_ | refine Z3 aS aL aR ?_ | refine Q6 aL ?_ | refine W3 aR ?_ | refine Z6 aS ?_ | refine H9 aS aL ?_ | refine L6 aS aR ?_ | refine Z9 aS aR aR (Rep.one Q8) ?_ | refine W8 aS aR aR aR ?_ | refine Bt au au au ?_ | refine Jw au au au ?_ | (refine V6 (fun hh=>?_) (fun hh=>?_)<;>(try simp only[hh,Bool.not_true,Bool.not_false,↓M2,M2,Mb,reduceIte])) | (refine Q4 (fun hh=>?_) (fun hh=>?_)<;>(try simp only[hh,Bool.not_true,Bool.not_false,↓M2,M2,Mb,reduceIte])))))
      refine Z4 hmax hn' ⟨_,by (repeat (first | exact Stp.refl (by (first | assumption | exact Stp.sat Q8 | exact Hst.sat Q8)) | assumption | refine Stp.trans ?_ (by first | assumption | exact Hst.stp Q8))),by (repeat (first | exact SLe.refl _ | refine SLe.more ?_ Q8 | refine SLe.more ?_ (Nxt.le Q8) | refine SLe.step ?_ Q8)),by rw[hq'];simp only[I9,hx];rfl⟩
   .have hn': ¬n<c.like.length:=by simpa using hh
    rw[B7 hn'] at hq;simp only[hq,Bool.false_eq_true,if_false] at h;exact h _ _ hS4
  all_goals
   simp only[Bool.or_self,Bool.or_true,Bool.true_or,if_true] at h
   (repeat' (first | (with_reducible intro _) | (with_reducible refine M0 ?_) | (simp only[↓M2,M2,Mb,reduceIte]) | (with_reducible first | refine ld aS aL aR ?_ | refine Y6 aS aL aR ?_ | refine Z3 aS aL aR ?_ | refine Q6 aL ?_ | refine W3 aR ?_ | refine Z6 aS ?_ | refine H9 aS aL ?_ | refine L6 aS aR ?_ | refine Z9 aS aR aR (Rep.one Q8) ?_ | refine W8 aS aR aR aR ?_ | refine Bt au au au ?_ | refine Jw au au au ?_ | (refine V6 (fun hh=>?_) (fun hh=>?_)<;>(try simp only[hh,Bool.not_true,Bool.not_false,↓M2,M2,Mb,reduceIte])) | (refine Q4 (fun hh=>?_) (fun hh=>?_)<;>(try simp only[hh,Bool.not_true,Bool.not_false,↓M2,M2,Mb,reduceIte])))))
   all_goals exact aF)
end Go.Proofs.Y
namespace Go.Emb
open Go.RowKit Go.Hm
variable {w w' : World} {σ : Q2}
theorem X3F {a:Addr} {v:Value} (h:w.cell? a=some v) (b:Below w.heap.size w w'):w'.cell? a=some v:=by
 rw[<-h];exact World.cell?_of_block (b.block a.block (World.block_lt_of_cell? _ _ h))
def Ptr {α:Type} (sz:Nat) (R:Q2->α->List Value->Prop) (σ:Q2) (x:α) (p:Value) (w:World):Prop:=
 ∃a cs,p= .pointer (some a)/\(∀j u,cs[j]? =some u->w.cell? (a.add j)=some u)/\cs.length=sz/\R σ x cs
theorem Ptr.below {α:Type} {sz:Nat} {R:Q2->α->List Value->Prop} {x:α} {p:Value} (h:Ptr sz R σ x p w) (e:Below w.heap.size w w'):Ptr sz R σ x p w':=by
 obtain ⟨a,cs,b,c,d⟩:=h;exact ⟨a,cs,b,fun j u f=>X3F (c j u f) e,d⟩
end Go.Emb
namespace Go.Proofs.Y
open Go.Emb Go.RowKit Go.Kd Go.Hm
variable {w : World} {K : Value -> World -> Prop} {σ : Q2} {v : Value} {l : List Cla}
theorem Q8K {w0:World} {σ0:Q2} {xs:List Cla} (Y:Stp w0 σ0 w σ) (B:J7 w0.heap.size T.c 8 M8 σ w v xs)
 (h: ∀w',Kpt (fun k=>v.ownBlock=some k) w w'->Stp w0 σ0 w' σ->J7 w0.heap.size T.c 8 M8 σ w' v xs.reverse->K (.tuple #[]) w'):Q0 P F.r [v] w K:=Wk (by
 unfold Xi;simp only[Y5,X5];unfold X4 X2 X1
 have U:xs.length<=9223372036854775807:=by
  obtain ⟨a,V,_,g,b,_⟩:=B;simp only[maxLen] at b;omega
 refine Rw B ?_;refine Wh ⟨by omega,by omega⟩ ?_
 refine Wv (fun x w'=> ∃i:Nat,x=(I i,I ((xs.length:Int)-1-i))/\2*i<=xs.length/\Kpt (fun k=>v.ownBlock=some k) w w'/\Stp w0 σ0 w' σ/\J7 w0.heap.size T.c 8 M8 σ w' v (T1 i xs)) (fun x _=>match x.2 with | .int _ n=>(n+1).toNat | _=>0) ⟨0,by simp,by omega,Kpt.refl,Y,B⟩ ?_
 rintro _ d w1 ⟨i,rfl,O,Q,m,c⟩;obtain ⟨R,N⟩:=Q4X xs i O;refine Y9 ?_;refine Q4 (fun hh=>?_) (fun hh=>?_)
 .have aa:(i:Int)<(xs.length:Int)-1-i:=by simpa using hh
  have M:((xs.length:Int)-1-i)=((xs.length-1-i:Nat):Int):=by omega
  have q:i<(T1 i xs).length:=by omega
  have r:xs.length-1-i<(T1 i xs).length:=by omega
  refine V3 m.sat ?_;refine F4 (Ptr 8 M8 σ (T1 i xs)[xs.length-1-i]) (fun _ _ _ h f=>h.below f) (fun w f=>?_) ?_
  .simp only[M]
   exact X15 (c.step f.stp) r fun a cs g b j=>⟨Below.refl _ _,a,cs,rfl,g,b,j⟩
  refine F4 (Ptr 8 M8 σ (T1 i xs)[i]) (fun _ _ _ h f=>h.below f) (fun w f=>?_) ?_
  .exact X15 (c.step f.stp) q fun a cs g b j=>⟨Below.refl _ _,a,cs,rfl,g,b,j⟩
  refine F4 (fun v _=> ∃cs:List Value,v= .agg cs.toArray/\cs.length=8/\M8 σ (T1 i xs)[xs.length-1-i] cs) (fun _ _ _ h _=>h) (fun t w f e=>?_) ?_
  .obtain ⟨a,cs,rfl,g,b,j⟩:=e
   exact Q1a b g ⟨Below.refl _ _,cs,rfl,b,j⟩
  refine F4 (fun v _=> ∃cs:List Value,v= .agg cs.toArray/\cs.length=8/\M8 σ (T1 i xs)[i] cs) (fun _ _ _ h _=>h) (fun t w f e=>?_) ?_
  .obtain ⟨a,cs,rfl,g,b,j⟩:=e
   exact Q1a b g ⟨Below.refl _ _,cs,rfl,b,j⟩
  rintro ab ad ac ae w2 o _ _ ⟨cs,rfl,E,s⟩ ⟨ds,rfl,H,y⟩;refine Q7p (m.trans o.stp) (c.step o.stp) q E s (Rep.one s) fun p u w3 J z C=>?_;simp only[M];refine Q7p z.stp C (by simpa using r) H y (Rep.one y) fun p u w4 L A D=>?_
  refine Zm ⟨by omega,by omega⟩ ?_
  refine Wh ⟨by omega,by omega⟩ ?_
  refine ⟨⟨i+1,by congr 1<;>congr 1<;>omega,by omega,?_,A.stp,?_⟩,?_⟩
  .exact ((Q.trans (Kpt.of_below o.stp.bel)).trans J).trans L
  .have W:(T1 i xs)[i]? =some (T1 i xs)[i]:=List.getElem?_eq_getElem q
   have X:(T1 i xs)[xs.length-1-i]? =some (T1 i xs)[xs.length-1-i]:=List.getElem?_eq_getElem r
   have:T1 (i+1) xs=((T1 i xs).set i (T1 i xs)[xs.length-1-i]).set (xs.length-1-i) (T1 i xs)[i]:=by
    simp only[T1,W,X]
   rw[this];exact D
  .simp only;omega
 .have Z: ¬(i:Int)<(xs.length:Int)-1-i:=by simpa using hh
  rw[X65 xs i O Q5] at c;exact h w1 Q m c)
def sOf:Value->Q9 | .string b=>b.data.toList | _=>[]
theorem X4Y {n:Q9} (Q:X3 w σ) (B:Tab σ v l) (M:Uo l) (W:l.length<=100000) (h: ∀y w' σ',Stp w σ w' σ'->J7 w.heap.size T.c 8 M8 σ' w' y (chain l n).reverse->K y w'):Q0 P F.b0 [v,S n] w K:=Q3b (by
 unfold So
 refine Wv (fun x w'=> ∃(s:Q9) (k:List Cla) (σ':Q2),x.2=S s/\chain l n=k++chain l s/\Stp w σ w' σ'/\W4 w.heap.size T.c 8 M8 σ' w' x.1 k) (fun x _=>(chain l (sOf x.2)).length)
  ⟨n,[],σ,rfl,rfl,Stp.refl Q,W4.nil⟩ ?_
 rintro ⟨Z,_⟩ d w1 ⟨s,k,σ1,rfl,o,a,f⟩;have i:=B.lift ⟨a.le⟩;have z:=Tn l n;have t:sOf (S s)=s:=by simp[sOf]
 simp only[t];cases j:lk l s with
 | none=>
  refine Km a.sat i j ?_;refine Z0 ?_;rw[Em j,List.append_nil] at o;rw[<-o] at f;refine Q8K a (J7.of_acc f) fun U g p q=>?_;exact h _ _ _ p q
 | some c=>
  refine Bt a.sat i j ?_;refine Z1 ?_;refine Jw a.sat i j fun R L mv U σ2 g C D E H J A=>?_;have b:=Kn M s;rw[j] at b;simp only at b
  have N:k.length+1<=l.length+1:=by
   have:=congrArg List.length o;rw[List.length_append,b,List.length_cons] at this;omega
  refine Un (a.trans g) (f.up g) A rfl rfl rfl Q5 Q5 fun u y X σ3 O e r _=>?_;refine Jw e.sat (B.lift ⟨e.le⟩) j fun R L mv Y V m C D E H J A=>?_;refine W3 (v:=S c.super) rfl ?_;refine ⟨⟨c.super,k++[c],V,rfl,?_,e.trans m,r.up m⟩,?_⟩
  .rw[o,b];simp
  .have:sOf (S c.super)=c.super:=by simp[sOf]
   simp only[this,b,List.length_cons];omega)
theorem Q0X {n:Q9} (hs:X3 w σ) (ht:Tab σ v l) (V:Uo l) (X:l.length<=100000) (H: ∀c∈l,Yy c) (h: ∀L w' σ',Stp w σ w' σ'->Sl 3 K3 σ' L (V0 l n)->K L w'):Q0 P F.a5 [v,S n] w K:=Q0x (by
 unfold Dq;simp only[L9];unfold X6 J3 X4 X2 X1;refine X4Y hs ht V X fun v1 w1 σ1 D A=>?_;obtain ⟨Q,u,r,ac,_⟩:=A.keep D;generalize j:(chain l n).reverse=cs at*;have M:cs.length<=l.length+1:=by rw[<-j,List.length_reverse];exact Tn l n
 have k: ∀c∈cs,c.fields.length<=1000000:=fun c t=>(H c (To (by rw[<-j] at t;simpa using t))).2.1
 refine Q6 r ?_;refine O4 cs.length (fun i a w'=> ∃σ',Stp w σ w' σ'/\SLe Q σ'/\W4 w.heap.size T.m 3 K3 σ' w' a ((cs.take i).flatMap (·.fields))) ⟨Q,u,SLe.refl _,W4.nil⟩ fun i a w3 d hi m=>?_;obtain ⟨σ3,f,s,g⟩:=m;refine Y9 ?_;refine Q4 (fun hh=>?_) (fun hh=>?_)
 .have b:i<cs.length:=by simpa using hh
  refine E4 (r.lift s) b fun p cells E o O=>?_;refine Z3 f.sat E o ?_;refine Z9 f.sat (by rfl) o (Rep.one O) fun q w4 R e Z=>?_
  obtain ⟨lv,fv,mv,rfl,f1,U,f3,f4,f5⟩:=O;rw[fa];refine ld e.sat Z rfl ?_;have C:=Jd (fun c:Cla=>c.fields) 1000000 (cs.take i) fun c t=>k c (List.mem_of_mem_take t);rw[List.length_take] at C;have W:=k cs[i] (List.getElem_mem b);have N:min i cs.length*1000000<=100000*1000000:=Nat.mul_le_mul_right _ Q5;refine Vn (f.trans e) (g.up e) (U.up e) rfl Q5 Q5 fun L w5 Y z B _=>?_;refine C2 ?_;refine Z8 Q5 b ⟨R,z,s.more ⟨e.le⟩,?_⟩;rw[List.take_add_one,List.getElem?_eq_getElem b,List.flatMap_append]
  simpa using B
 .have b: ¬i<cs.length:=by simpa using hh
  rw[List.take_of_length_le Q5] at g;obtain ⟨R,y,J,ad,_⟩:=g.keep f;refine h _ _ _ y ?_;unfold V0;rw[j];exact J)
theorem X84 {n f:Q9} (hs:X3 w σ) (ht:Tab σ v l) (ha:Uo l) (hl:l.length<=100000) (hsm: ∀c∈l,Yy c) (h: ∀w' σ',Stp w σ w' σ'->K (I (E1 (Rv l n f))) w'):Q0 P F.bE [v,S n,S f] w K:=Q1O (by
 unfold Ex;refine L6 hs rfl fun q w1 σ1 hk1 hq=>?_;refine Q0X hk1.sat (ht.lift ⟨hk1.le⟩) ha hl hsm fun v' w2 σ2 hk2 hv2=>?_;rw[Zl];refine Q0c (fun x=>decide (x.name=f)) hk2.sat hv2 (fun x cs w3 K _ hs3 hr hl hK=>J8 (Ay ?_)) fun w3 hb=>?_
 .obtain ⟨rfl,_⟩:=hr
  unfold Oh X6 X1;have hq2:=hq.up hk2;refine Z6 hs3 fun a w4 σ4 hk4 ha4=>?_
  (repeat' (first | (with_reducible intro _) | (with_reducible refine M0 ?_) | (simp only[↓M2,M2,Mb,reduceIte]) | (with_reducible first | refine ld aS aL aR ?_ | refine Y6 aS aL aR ?_ | refine Z3 aS aL aR ?_ | refine Q6 aL ?_ | refine W3 aR ?_ | refine Z6 aS ?_ | refine H9 aS aL ?_ | refine L6 aS aR ?_ | refine Z9 aS aR aR (Rep.one Q8) ?_ | refine W8 aS aR aR aR ?_ | (refine V6 (fun hh=>?_) (fun hh=>?_)<;>(try simp only[hh,Bool.not_true,Bool.not_false,↓M2,M2,Mb,reduceIte])) | (refine Q4 (fun hh=>?_) (fun hh=>?_)<;>(try simp only[hh,Bool.not_true,Bool.not_false,↓M2,M2,Mb,reduceIte])))))
  exact hK _ hk4.bel
 .exact h _ _ ((hk1.trans hk2).trans (Stp.of_below hk2.sat hb)))
end Go.Proofs.Y
namespace Go.Hm
open Go.Kd
theorem X0z {α:Type} (p:α->Bool): ∀xs:List α,xs.find? p=(xs.findIdx? p).bind (xs[·]?)
 | []=>rfl
 | x::r=>by
  rw[List.find?_cons,List.findIdx?_cons];cases p x with
  | true=>rfl
  | false=>
   simp only[Bool.false_eq_true,if_false];rw[X0z p r];cases r.findIdx? p<;>simp
def X6g (l:List Cla):Prop:= ∀c∈l,∀u∈c.like,∃d,lk l u=some d
def Nm (c:Cla):Prop:=c.name.length<=100/\(∀f∈c.fields,f.name.length<=100/\f.kind.length<=100)/\ ∀m∈c.methods,m.result.length<=100/\ ∀p∈m.params,p.length<=100
structure Ok (l : List Cla) : Prop where
  acy : Uo l
  len : l.length <= 100000
  sm : ∀ c ∈ l, Yy c
  full : X6g l
  nm : ∀ c ∈ l, Nm c
abbrev oM (o:Option Hm.Met):Hm.Met:=o.getD Hm.Met.zero
abbrev o1 (o:Option (Q9×Hm.Met)):Q9:=(o.map (·.1)).getD []
abbrev o2 (o:Option (Q9×Hm.Met)):Hm.Met:=(o.map (·.2)).getD Hm.Met.zero
theorem Jz {α β:Type} {xs:List α} {f:α->Option β} {n:Nat} (h:n<xs.length) (a:(xs.take n).findSome? f=none):(xs.take (n+1)).findSome? f=f xs[n]:=by
 rw[List.take_add_one,List.getElem?_eq_getElem h,List.findSome?_append,a];simp
theorem Jy {α β:Type} {xs:List α} {f:α->Option β} {n:Nat} {y:β} (h:n<xs.length) (a:(xs.take n).findSome? f=none) (b:f xs[n]=some y):xs.findSome? f=some y:=by
 have:=Jz h a;rw[b] at this;rw[<-List.take_append_drop (n+1) xs,List.findSome?_append,this];rfl
end Go.Hm
namespace Go.Proofs.Y
open Go.Emb Go.RowKit Go.Kd Go.Hm
variable {w : World} {K : Value -> World -> Prop} {σ : Q2} {v : Value} {l : List Cla}
theorem Jg:F9 σ Hm.Met.zero [S [], .slice none 0 0,S [], .bool false,I 0, .slice none 0 0, .slice none 0 0]:=
 ⟨_,_,_,rfl,Sl.nil,Sl.nil,Sl.nil,by decide,by decide,by decide,by decide⟩
theorem Q0a (h:K (.agg [S [], .slice none 0 0,S [], .bool false,I 0, .slice none 0 0, .slice none 0 0].toArray) w):B6 P T.d [] w K:=M9 X7 h
theorem X7w {c:Cla} {cs:List Value} {n:Q9} (hs:X3 w σ) (hc:M8 σ c cs) (hsm:Yy c)
 (h: ∀pv cv hv w' σ',Stp w σ w' σ'->F9 σ' (oM (Qg c n)) [S (oM (Qg c n)).name,pv,S (oM (Qg c n)).result, .bool (oM (Qg c n)).abs,I (oM (Qg c n)).locals,cv,hv]->
  K (.tuple #[.agg [S (oM (Qg c n)).name,pv,S (oM (Qg c n)).result, .bool (oM (Qg c n)).abs,I (oM (Qg c n)).locals,cv,hv].toArray, .bool (Qg c n).isSome]) w'):Q0 P F.dd [.agg cs.toArray,S n] w K:=X4j (by
 obtain ⟨lv,fv,mv,rfl,g1,g2,g3,g4,g5⟩:=hc;unfold Q73 X6 J3 X2;refine Z6 hs fun a w1 σ1 hk1 ha1=>?_;refine L6 hk1.sat rfl fun q w2 σ2 hk2 hq=>?_;refine E5 hk2.sat fun b w3 σ3 hb hk3 hm=>?_;rw[fa];have ha3:=(ha1.up hk2).up hk3;have g3:=((g3.up hk1).up hk2).up hk3;have hq3:=hq.up hk3;refine ld hk3.sat ha3 rfl ?_;rw[Zl];have hS3:=(hk1.trans hk2).trans hk3;have hb0:w.heap.size<=b:=C7 hb (hk1.trans hk2);refine Am (fun x=>decide (x.name=n)) hk3.sat g3 (fun x cs w4 K _ hs4 hr hl hK=>J8 (X1c ?_)) fun w4 hb4=>?_
 .obtain ⟨pv,cv,hv,rfl,_⟩:=hr
  unfold Q41 X6 X1;refine Z6 hs4 fun a w5 σ5 hk5 ha5=>?_
  (repeat' (first | (with_reducible intro _) | (with_reducible refine M0 ?_) | (simp only[↓M2,M2,Mb,reduceIte]) | (with_reducible first | refine ld aS aL aR ?_ | refine Y6 aS aL aR ?_ | refine Z3 aS aL aR ?_ | refine Q6 aL ?_ | refine W3 aR ?_ | refine Z6 aS ?_ | refine H9 aS aL ?_ | refine L6 aS aR ?_ | refine Z9 aS aR aR (Rep.one Q8) ?_ | refine W8 aS aR aR aR ?_ | (refine V6 (fun hh=>?_) (fun hh=>?_)<;>(try simp only[hh,Bool.not_true,Bool.not_false,↓M2,M2,Mb,reduceIte])) | (refine Q4 (fun hh=>?_) (fun hh=>?_)<;>(try simp only[hh,Bool.not_true,Bool.not_false,↓M2,M2,Mb,reduceIte])))))
  exact hK _ hk5.bel
 have hk4:Stp w3 σ3 w4 σ3:=Stp.of_below hk3.sat hb4;have hm:=hm.step hk4;have hS4:=hS3.trans hk4;unfold Qg at h;rw[X0z] at h;refine Y9 ?_;cases hf:c.methods.findIdx? fun x=>decide (x.name=n) with
 | none=>
  rw[hf] at h;simp only[E1];refine Z1 ?_;refine Q0a ?_;refine Qz hm hS4 hb0 rfl rfl (Rep.one (Jg (σ:=σ3))) fun w5 hS5 hm5=>?_;refine M5 hm5 rfl ?_;exact h _ _ _ w5 σ3 hS5.stp Jg
 | some i=>
  rw[hf] at h;have hi:i<c.methods.length:=(List.findIdx?_eq_some_iff_getElem.1 hf).1;simp only[Option.bind_some,List.getElem?_eq_getElem hi] at h;simp only[E1];refine Q4 (fun hh=>absurd (of_decide_eq_true hh) Q5) (fun _=>?_);rw[fa];refine ld hk4.sat ha3 rfl ?_;refine E4 g3 hi fun p cells hl1 hl2 hr=>?_;refine Z3 hk4.sat hl1 hl2 ?_;refine Q8L hk4.sat hr (hsm.2.2.2 _ (List.getElem_mem hi)) fun pv cv hv w5 σ5 hk5 hr5=>?_;refine Qz (hm.step hk5) (hS4.trans hk5) hb0 rfl rfl (Rep.one hr5) fun w6 hS6 hm6=>?_;refine M5 hm6 rfl ?_;exact h _ _ _ w6 σ5 hS6.stp hr5)
theorem X9u {n:Q9} (ok:Ok l): ∀(k:Nat) {c:Cla} {cs:List Value} {w:World} {σ:Q2} {K:Value->World->Prop},A0 l c.name<k->lk l c.name=some c->X3 w σ->Tab σ v l->M8 σ c cs->
 (∀pv W Y w' Z,Stp w σ w' Z->F9 Z (o2 (O3 l c n)) [S (o2 (O3 l c n)).name,pv,S (o2 (O3 l c n)).result, .bool (o2 (O3 l c n)).abs,I (o2 (O3 l c n)).locals,W,Y]->
  K (.tuple #[S (o1 (O3 l c n)), .agg [S (o2 (O3 l c n)).name,pv,S (o2 (O3 l c n)).result, .bool (o2 (O3 l c n)).abs,I (o2 (O3 l c n)).locals,W,Y].toArray, .bool (O3 l c n).isSome]) w')->
 Q0 P F.aZ [v, .agg cs.toArray,S n] w K:=by
 intro k
 induction k with
 | zero=>
  intro c cs w σ K hk;omega
 | succ k ih=>
  intro c cs w σ K hk hc hs ht hr h;refine Q3a ?_;obtain ⟨lv,fv,mv,rfl,g1,g2,g3,g4,g5⟩:=hr;have B:=Q93 ok.acy hc n;generalize hf:(fun u=>match lk l u with | none=>none | some d=>match Qg d n with | some m=>some (u,m) | none=>O3 l d n)=f at B
  unfold Sn;simp only[Y5,L9,D0];unfold X6 J3 V1 X4 X1;refine Z6 hs fun a w1 σ1 C aw=>?_;refine E5 C.sat fun b w2 σ2 hb D a1=>?_;have Q:w.heap.size<=b:=C7 hb C;have ax:=aw.up D;rw[fa];refine ld D.sat ax rfl ?_;have g1:=(g1.up C).up D;refine Q6 g1 ?_;refine V7 c.like.length (fun i w'=> ∃Z,Stp w σ w' Z/\SLe σ2 Z/\Z7 Z w' b [S [], .slice none 0 0,S [], .bool false,I 0, .slice none 0 0, .slice none 0 0]/\(c.like.take i).findSome? f=none) ⟨σ2,C.trans D,SLe.refl _,a1,rfl⟩ fun i w3 d hi af=>?_;obtain ⟨σ3,y,ap,ai,A⟩:=af;have a8:=ht.lift ⟨y.le⟩;refine Y9 ?_;refine Q4 (fun hh=>?_) (fun hh=>?_)
  .have g:i<c.like.length:=by simpa using hh
   refine X0G (g1.lift ap) g fun p a0 ag=>?_;refine Y6 y.sat a0 rfl ?_;obtain ⟨d,X⟩:=ok.full c (N1 hc).2.1 _ (List.getElem_mem g);obtain ⟨ae,az,_⟩:=N1 X;have j:f c.like[i]=match Qg d n with | some m=>some (c.like[i],m) | none=>O3 l d n:=by rw[<-hf];simp only[X]
   refine Jw y.sat a8 X fun a9 aq ba w4 σ4 E f1 f2 f3 f4 f5 a5=>?_;refine X7w E.sat a5 (ok.sm d az) fun pv W Y w5 σ5 H an=>?_;refine J5 (vs:=[_,_]) rfl ?_;refine J5 (vs:=[_,_]) rfl ?_;refine Z9 H.sat (by rfl) rfl (Rep.one an) fun q w6 σ6 J al=>?_
   have t:=((y.trans E).trans H).trans J;have aj:=((ai.step E).step H).step J;have U:=RMe_lift an ⟨J.le⟩;cases ho:Qg d n with
   | some m=>
    rw[ho] at j U al
    (try simp only[ho])
    refine Z1 ?_;refine V3 t.sat ?_;refine F4 (fun v _=>v= .agg [S m.name,pv,S m.result, .bool m.abs,I m.locals,W,Y].toArray) (fun _ _ _ h _=>h) (fun w hb=>Z3 hb.sat al rfl ⟨Below.refl _ _,rfl⟩) ?_;rintro _ w7 ad rfl;refine Qz (aj.step ad.stp) (t.trans ad.stp) Q rfl rfl (Rep.one U) fun w8 av a3=>?_;refine M5 a3 rfl ?_;have R:=B.trans (Jy g A j);rw[R] at h;exact h _ _ _ w8 σ6 av.stp U
   | none=>
    rw[ho] at j
    (try simp only[Option.isSome_none])
    refine Z0 ?_;refine Jw t.sat (ht.lift ⟨t.le⟩) X fun a9 aq ba w7 σ7 z f1 f2 f3 f4 f5 a6=>?_;have bp:=Yf ok.acy hc (by simp[M6,List.getElem_mem g]:c.like[i]∈M6 c) X
    refine ih (by rw[ae];omega) (by rw[ae];exact X) z.sat (ht.lift ⟨(t.trans z).le⟩) a6 fun pv W Y w8 σ8 L ao=>?_
    refine J5 (vs:=[_,_,_]) rfl ?_;refine J5 (vs:=[_,_,_]) rfl ?_;refine J5 (vs:=[_,_,_]) rfl ?_;refine Z9 L.sat (by rfl) rfl (Rep.one ao) fun q w9 σ9 M am=>?_
    have O:=((t.trans z).trans L).trans M;have ak:=((aj.step z).step L).step M;have V:=RMe_lift ao ⟨M.le⟩;cases R:O3 l d n with
    | some r=>
     obtain ⟨s,m⟩:=r;rw[R] at j V am
     (try simp only[R])
     refine Z1 ?_;refine V3 O.sat ?_;refine F4 (fun v _=>v= .agg [S m.name,pv,S m.result, .bool m.abs,I m.locals,W,Y].toArray) (fun _ _ _ h _=>h) (fun w hb=>Z3 hb.sat am rfl ⟨Below.refl _ _,rfl⟩) ?_;rintro _ bs N rfl;refine Qz (ak.step N.stp) (O.trans N.stp) Q rfl rfl (Rep.one V) fun bb ab ah=>?_;refine M5 ah rfl ?_;have ag:=B.trans (Jy g A j);rw[ag] at h;exact h _ _ _ bb σ9 ab.stp V
    | none=>
     rw[R] at j
     (try simp only[Option.isSome_none])
     refine Z0 ?_;refine C2 ?_;refine Z4 (by have:=g1.max;omega) g ⟨σ9,O,?_,ak,?_⟩
     .exact ap.more ⟨fun b o e=>M.le _ _ (L.le _ _ (z.le _ _ (J.le _ _ (H.le _ _ (E.le _ _ e)))))⟩
     .rw[Jz g A];exact j
  .have g: ¬i<c.like.length:=by simpa using hh
   rw[List.take_of_length_le Q5] at A;refine Q0a ?_;refine Qz ai y Q rfl rfl (Rep.one (Jg (σ:=σ3))) fun w5 ar a2=>?_;refine M5 a2 rfl ?_;have R:=B.trans A;rw[R] at h;exact h _ _ _ w5 σ3 ar.stp Jg
end Go.Proofs.Y
namespace Go.Hm
open Go.Kd
theorem X6z {l:List Cla} {n:Q9} {c:Cla} (h:c∈chain l n):lk l c.name=some c:=by
 have key: ∀(f:Nat) (n:Q9),c∈Xh (lk l) f n->lk l c.name=some c:=by
  intro f
  induction f with
  | zero=>intro n h;simp[Xh] at h
  | succ f b=>
   intro n h;simp only[Xh] at h
   split at h
   .simp at h
   .rename_i d a
    rcases List.mem_cons.1 h with rfl | h
    .rw[(N1 a).1];exact a
    .exact b _ h
 exact key _ _ h
theorem Q5X {f:Fld} (h:f.name.length<=100/\f.kind.length<=100):(I8 f).length<=202:=by
 unfold I8
 split<;>simp;omega
theorem Q7m {l:List Cla} (d: ∀c∈l,Nm c) (g: ∀c∈l,Yy c): ∀(f:Nat) (n:Q9),(Ya (lk l) f n).length<=f*300000000
 | 0,_=>by simp[Ya]
 | f+1,n=>by
  simp only[Ya]
  split
  .simp
  .rename_i c j
   obtain ⟨e,b,_⟩:=N1 j;have a:=d c b;have h:=g c b;have m:=Q7m d g f c.super;have o:=Jd I8 202 c.fields fun f k=>Q5X (a.2.1 f k);have p:c.fields.length*202<=1000000*202:=Nat.mul_le_mul_right _ h.2.1;have i:=a.1;rw[e] at i
   split
   .simp
   .simp only[List.length_append,List.length_cons,List.length_nil,Nat.add_mul];omega
theorem Q7l {l:List Cla} (ok:Ok l) (n:Q9):(E3 l n).length<=30000300000000:=by
 have:=Q7m ok.nm ok.sm (l.length+1) n;have a:(l.length+1)*300000000<=100001*300000000:=Nat.mul_le_mul_right _ (by have:=ok.len;omega)
 unfold E3;omega
theorem Q2z {c:Cla} (h:Nm c) (a:Yy c) (i:Nat):((c.fields.take i).flatMap I8).length<=202000000:=by
 have b:=Jd I8 202 (c.fields.take i) fun f d=>Q5X (h.2.1 f (List.mem_of_mem_take d));rw[List.length_take] at b;have e:min i c.fields.length*202<=1000000*202:=Nat.mul_le_mul_right _ (by have:=a.2.1;omega)
 omega
end Go.Hm
namespace Go.Proofs.Y
open Go.Emb Go.RowKit Go.Kd Go.Hm
variable {w : World} {K : Value -> World -> Prop} {σ : Q2} {v : Value} {l : List Cla}
theorem X6p {k n:Q9} (hs:X3 w σ) (ht:Tab σ v l) (ok:Ok l)
 (h: ∀pv Z hv w' H,Stp w σ w' H->F9 H (o2 (N3 l k n)) [S (o2 (N3 l k n)).name,pv,S (o2 (N3 l k n)).result, .bool (o2 (N3 l k n)).abs,I (o2 (N3 l k n)).locals,Z,hv]->
  K (.tuple #[S (o1 (N3 l k n)), .agg [S (o2 (N3 l k n)).name,pv,S (o2 (N3 l k n)).result, .bool (o2 (N3 l k n)).abs,I (o2 (N3 l k n)).locals,Z,hv].toArray, .bool (N3 l k n).isSome]) w'):
 Q0 P F.bt [v,S k,S n] w K:=Q0y (by
 unfold Dr;simp only[Y5,X5,L9,D0];unfold J3 V1 X4 X1;refine E5 hs fun b w1 σ1 E N aj=>?_;refine X4Y N.sat (ht.lift ⟨N.le⟩) ok.acy ok.len fun v1 w2 σ2 ai af=>?_;have a7:=aj.step ai;have bg:=aj.lt;refine Q8K (N.trans ai) (af.mono N.bel.size) fun w3 a5 a4 ag=>?_;rw[List.reverse_reverse] at ag;obtain ⟨σ3,ae,Q,bk,a1⟩:=ag.keep a4;have bh:=Tn l k;have av:v1.ownBlock≠some b:=fun e=>by have:=af.own e;omega
 have am:Z7 σ3 w3 b [S [], .slice none 0 0,S [], .bool false,I 0, .slice none 0 0, .slice none 0 0]:=by
  have:=a7.kp a5 av;exact ⟨(a1 b fun e=>av e.symm).trans this.1,this.2⟩
 refine Q6 Q ?_;unfold N3 at h;refine V7 (chain l k).length (fun i w'=> ∃H,Stp w σ w' H/\SLe σ3 H/\Z7 H w' b [S [], .slice none 0 0,S [], .bool false,I 0, .slice none 0 0, .slice none 0 0]/\((chain l k).take i).findSome? (fun c=>(Qg c n).map (c.name,·))=none) ⟨σ3,ae,SLe.refl _,am,rfl⟩ fun i w5 d hi C=>?_;obtain ⟨σ5,J,R,an,y⟩:=C;refine Y9 ?_;refine Q4 (fun hh=>?_) (fun hh=>?_)
 .have a:i<(chain l k).length:=by simpa using hh
  refine E4 (Q.lift R) a fun p cells X z hr=>?_;refine Z3 J.sat X z ?_;refine Z9 J.sat (by rfl) z (Rep.one hr) fun q w6 σ6 A aw=>?_
  refine Z3 A.sat aw z ?_;have ar:=To (List.getElem_mem a);refine X7w A.sat (Rep.up A.le hr) (ok.sm _ ar) fun pv Z hv w7 σ7 j az=>?_;refine J5 (vs:=[_,_]) rfl ?_;refine J5 (vs:=[_,_]) rfl ?_;refine Z9 j.sat (by rfl) rfl (Rep.one az) fun q8 w8 σ8 u ax=>?_
  have V:=((J.trans A).trans j).trans u;have ap:=((an.step A).step j).step u;have B:=RMe_lift az ⟨u.le⟩;cases D:Qg (chain l k)[i] n with
  | some m=>
   rw[D] at B ax
   (try simp only[D])
   refine Z1 ?_;obtain ⟨lv,fv,mv,rfl,g⟩:=hr;refine V3 V.sat ?_;refine Y1 (.pointer (some (q.add 0))) (fun w E=>by rw[fa];exact Y4 rfl) ?_
   refine Y1 (S (chain l k)[i].name) (fun t w E e=>by rw[e];exact ld E.sat ((aw.up j).up u) rfl (Y4 rfl)) ?_
   refine F4 (fun v _=>v= .agg [S m.name,pv,S m.result, .bool m.abs,I m.locals,Z,hv].toArray) (fun _ _ _ h _=>h) (fun w E=>Z3 E.sat ax rfl ⟨Below.refl _ _,rfl⟩) ?_;rintro _ _ _ w9 ah rfl rfl rfl;refine Qz (ap.step ah.stp) (V.trans ah.stp) E rfl rfl (Rep.one B) fun a2 ac ak=>?_;refine M5 ak rfl ?_;rw[Jy (f:=fun c=>(Qg c n).map (c.name,·)) a y (by simp only[D];rfl)] at h
   exact h _ _ _ a2 σ8 ac.stp B
  | none=>
   (try simp only[D])
   refine Z0 ?_;refine C2 ?_;refine Z4 (by have:=ok.len;omega) a ⟨σ8,V,R.more ⟨fun b o e=>u.le _ _ (j.le _ _ (A.le _ _ e))⟩,ap,?_⟩
   rw[Jz a y];simp only[D];rfl
 .have a: ¬i<(chain l k).length:=by simpa using hh
  rw[List.take_of_length_le Q5] at y;rw[y] at h;clear am ae hh;refine Q6 (Q.lift R) ?_;refine V7 (chain l k).length (fun i w'=> ∃H,Stp w σ w' H/\SLe σ3 H/\Z7 H w' b [S [], .slice none 0 0,S [], .bool false,I 0, .slice none 0 0, .slice none 0 0]/\((chain l k).take i).findSome? (fun c=>O3 l c n)=none) ⟨σ5,J,R,an,rfl⟩ fun i w6 d hi C=>?_;obtain ⟨σ6,L,a0,ao,y⟩:=C;refine Y9 ?_;refine Q4 (fun hh=>?_) (fun hh=>?_)
  .have a:i<(chain l k).length:=by simpa using hh
   refine E4 (Q.lift a0) a fun p cells X z hr=>?_;refine Z3 L.sat X z ?_;refine Z9 L.sat (by rfl) z (Rep.one hr) fun q w7 σ7 j a9=>?_
   refine Z3 j.sat a9 z ?_;have M:=L.trans j;have a6:=X6z (List.getElem_mem a);refine X9u ok _ (Nat.lt_succ_self _) a6 j.sat (ht.lift ⟨M.le⟩) (Rep.up j.le hr) fun pv Z hv w8 σ8 u B=>?_;refine J5 (vs:=[_,_,_]) rfl ?_;refine J5 (vs:=[_,_,_]) rfl ?_;refine J5 (vs:=[_,_,_]) rfl ?_;refine Z9 u.sat (by rfl) rfl (Rep.one B) fun q9 w9 σ9 O ay=>?_
   have W:=(M.trans u).trans O;have aq:=((ao.step j).step u).step O;have Y:=RMe_lift B ⟨O.le⟩;cases D:O3 l (chain l k)[i] n with
   | some r=>
    obtain ⟨s,m⟩:=r;rw[D] at Y ay
    (try simp only[D])
    refine Z1 ?_;refine V3 W.sat ?_;refine F4 (fun v _=>v= .agg [S m.name,pv,S m.result, .bool m.abs,I m.locals,Z,hv].toArray) (fun _ _ _ h _=>h) (fun w E=>Z3 E.sat ay rfl ⟨Below.refl _ _,rfl⟩) ?_;rintro _ a2 U rfl;refine Qz (aq.step U.stp) (W.trans U.stp) E rfl rfl (Rep.one Y) fun ba ad al=>?_;refine M5 al rfl ?_;have:=Jy (f:=fun c=>O3 l c n) a y D;unfold O3 at this;rw[this] at h;exact h _ _ _ ba σ9 ad.stp Y
   | none=>
    (try simp only[D])
    refine Z0 ?_;refine C2 ?_;refine Z4 (by have:=ok.len;omega) a ⟨σ9,W,a0.more ⟨fun b o e=>O.le _ _ (u.le _ _ (j.le _ _ e))⟩,aq,?_⟩
    rw[Jz a y];exact D
  .have a: ¬i<(chain l k).length:=by simpa using hh
   rw[List.take_of_length_le Q5] at y;refine Q0a ?_;refine Qz ao L E rfl rfl (Rep.one (Jg (σ:=σ6))) fun w7 M a8=>?_;refine M5 a8 rfl ?_;unfold O3 at y;rw[y] at h;exact h _ _ _ w7 σ6 M.stp Jg)
theorem X4S {n:Q9} (hs:X3 w σ) (ht:Tab σ v l) (h: ∀w' σ',Stp w σ w' σ'->K (.bool (Za l n)) w'):Q0 P F.bj [v,S n] w K:=Ax (by
 unfold Og X8;unfold Za at h;cases hd:lk l n with
 | none=>
  rw[hd] at h
  (repeat' (first | (with_reducible intro _) | (with_reducible refine M0 ?_) | (simp only[↓M2,M2,Mb,reduceIte]) | (with_reducible first | refine ld aS aL aR ?_ | refine Y6 aS aL aR ?_ | refine Z3 aS aL aR ?_ | refine Q6 aL ?_ | refine W3 aR ?_ | refine Z6 aS ?_ | refine H9 aS aL ?_ | refine L6 aS aR ?_ | refine Z9 aS aR aR (Rep.one Q8) ?_ | refine W8 aS aR aR aR ?_ | refine Km au au au ?_ | (refine V6 (fun hh=>?_) (fun hh=>?_)<;>(try simp only[hh,Bool.not_true,Bool.not_false,↓M2,M2,Mb,reduceIte])) | (refine Q4 (fun hh=>?_) (fun hh=>?_)<;>(try simp only[hh,Bool.not_true,Bool.not_false,↓M2,M2,Mb,reduceIte])))))
  all_goals exact aF
 | some d=>
  rw[hd] at h
  (repeat' (first | (with_reducible intro _) | (with_reducible refine M0 ?_) | (simp only[↓M2,M2,Mb,reduceIte]) | (with_reducible first | refine ld aS aL aR ?_ | refine Y6 aS aL aR ?_ | refine Z3 aS aL aR ?_ | refine Q6 aL ?_ | refine W3 aR ?_ | refine Z6 aS ?_ | refine H9 aS aL ?_ | refine L6 aS aR ?_ | refine Z9 aS aR aR (Rep.one Q8) ?_ | refine W8 aS aR aR aR ?_ | refine Bt au au au ?_ | refine Jw au au au ?_ | (refine V6 (fun hh=>?_) (fun hh=>?_)<;>(try simp only[hh,Bool.not_true,Bool.not_false,↓M2,M2,Mb,reduceIte])) | (refine Q4 (fun hh=>?_) (fun hh=>?_)<;>(try simp only[hh,Bool.not_true,Bool.not_false,↓M2,M2,Mb,reduceIte])))))
  all_goals exact aF)
end Go.Proofs.Y
namespace Go.Kd
def brk (b:UInt8):Bool:=[(91:UInt8),93].contains b
def Q5m:Nat->Q9->Q9
 | 0,s=>s
 | n+1,s=>match s.getLast? with
  | some b=>if brk b then Q5m n (s.take (s.length-1)) else s
  | none=>s
def Gm (s:Q9):Q9:=Q5m s.length s
theorem X4B: ∀(n m:Nat) (s:Q9),s.length<=n->s.length<=m->Q5m n s=Q5m m s:=by
 intro n
 induction n with
 | zero=>
  intro m s h _;have:s=[]:=List.eq_nil_of_length_eq_zero (by omega)
  subst this;cases m<;>rfl
 | succ n a=>
  intro m s h d;cases m with
  | zero=>
   have:s=[]:=List.eq_nil_of_length_eq_zero (by omega)
   subst this;rfl
  | succ m=>
   simp only[Q5m];cases c:s.getLast? with
   | none=>rfl
   | some b=>
    simp only
    split
    .exact a m _ (by rw[List.length_take];omega) (by rw[List.length_take];omega)
    .rfl
theorem Q5n (s:Q9):Gm s=match s.getLast? with | some b=>if brk b then Gm (s.take (s.length-1)) else s | none=>s:=by
 unfold Gm;cases d:s with
 | nil=>rfl
 | cons c r=>
  rw[<-d];obtain ⟨n,e⟩: ∃n,s.length=n+1:=⟨r.length,by rw[d];rfl⟩
  have a:s.length-1=n:=by omega
  rw[e];simp only[Q5m,a];cases f:s.getLast? with
  | none=>rfl
  | some b=>
   simp only
   split
   .rw[show n+1-1=n by omega];exact X4B n (s.take n).length _ (by rw[List.length_take];omega) (Nat.le_refl _)
   .rfl
theorem X5t {s:Q9} (h:name s=true): ∃b,s.getLast?=some b/\K9 b.toNat=true:=by
 cases s with
 | nil=>simp[name] at h
 | cons c r=>
  refine ⟨(c::r).getLast (by simp),List.getLast?_eq_some_getLast (by simp),?_⟩
  simp only[name,Bool.and_eq_true,List.all_eq_true] at h;exact h.2 _ (List.getLast_mem _)
theorem X4K {b:UInt8} (h:K9 b.toNat=true):brk b=false:=by
 have a:b≠91:=by rintro rfl;revert h;decide
 have c:b≠93:=by rintro rfl;revert h;decide
 simp[brk,a,c]
theorem Mf {s:Q9} (h:(plain s||C6 s)=true):name s=true:=by
 simp only[Bool.or_eq_true] at h
 rcases h with h | h
 .simp only[plain,Bool.or_eq_true,decide_eq_true_eq] at h
  rcases h with (h | h) | h<;>subst h<;>decide
 .cases s with
  | nil=>simp[C6] at h
  | cons c r=>simp only[C6,Bool.and_eq_true] at h;exact h.1
end Go.Kd
namespace Go.Proofs.Y
open Go.Emb Go.RowKit Go.Kd Go.Hm
variable {w : World} {K : Value -> World -> Prop} {σ : Q2} {v : Value} {l : List Cla}
theorem X7l {s:Q9} (h:arr s=true):Gm s=Gm (Kd.cutA s):=by
 have f:2<=s.length/\s.drop (s.length-2)=[91,93]:=by simpa [arr] using h
 obtain ⟨g,e⟩:=f;have a:s=Kd.cutA s++[91,93]:=by unfold Kd.cutA;rw[<-e,List.take_append_drop]
 have i:(Kd.cutA s).length+2=s.length:=by unfold Kd.cutA;rw[List.length_take];omega
 have b:s.getLast?=some 93:=by rw[a];simp
 have c:s.take (s.length-1)=Kd.cutA s++[91]:=by
  conv=>lhs;rw[a]
  rw[List.take_append,List.length_append]
  simp
  exact List.take_of_length_le Q5
 rw[Q5n s,b];simp only[show brk 93=true from rfl,if_true,c]
 rw[Q5n];have d:(Kd.cutA s++[91]).getLast?=some 91:=by simp
 rw[d];simp only[show brk 91=true from rfl,if_true]
 congr 1
 simp
theorem X68 {s:Q9}:(plain (base s).1||C6 (base s).1)=true->Gm s=(base s).1:=by
 have key: ∀(n:Nat) (s:Q9),s.length<=n->(plain (base s).1||C6 (base s).1)=true->Gm s=(base s).1:=by
  intro n
  induction n with
  | zero=>
   intro s h a;have:s=[]:=List.eq_nil_of_length_eq_zero Q5;subst this;rfl
  | succ n g=>
   intro s h a
   by_cases c:arr s=true
   .have d:base s=((base (Kd.cutA s)).1,(base (Kd.cutA s)).2+1):=by rw[Zj s,c];simp
    rw[d] at a⊢;rw[X7l c];exact g _ (by have:=Xp c;omega) a
   .have d:base s=(s,0):=by rw[Zj s,eq_false_of_ne_true c];simp
    rw[d] at a⊢;obtain ⟨b,e,f⟩:=X5t (Mf a);rw[Q5n,e]
    simp[X4K f]
 exact key _ s (Nat.le_refl _)
instance z_asciiSet:TZ P T.an 256 256 (.agg (Array.replicate 256 (.bool false))):=⟨X7⟩
theorem X20 (h: ∀w',Below w.heap.size w w'->K (.tuple #[.agg (Lib.setCells [91,93]), .bool true]) w'):Q0 P F.cQ [S [91,93]] w K:=by
 refine Dg (fn:=Tryz.f217) Tryz.func217 X7 X7 (Calls.mono (Tryz.strings_makeASCIISet (fun w=>Yu z_asciiSet w) ⟨[91,93].toArray⟩ w L7 (by
  intro j b a;have:b∈[(91:UInt8),93]:=List.mem_of_getElem? a
  simp at this;rcases this with rfl | rfl<;>decide)) ?_)
 rintro e w' ⟨rfl,rfl⟩;exact h _ ((Below.refl _ _).alloc (Nat.le_refl _) _)
theorem Q6O {q:Addr} {b:UInt8} (c:X3 w σ) (a:U0 σ q (Lib.setCells [91,93]).toList) (h:K (.bool (brk b)) w):Q0 P F.aD [.pointer (some q), .int .u8 b.toNat] w K:=Sf (by
 unfold Jl J3;rw[C0];have d:=b.toNat_lt;rw[X0H Q5 Q5];refine ld c a ?_ h;have:=Lib.setCells_at [91,93] b;rw[<-Array.getElem?_toList] at this
 simpa [brk] using this)
theorem Q6l {q:Addr} {s:Q9} (n:X3 w σ) (k:s.length<=V4) (m:U0 σ q (Lib.setCells [91,93]).toList) (h:K (S (Gm s)) w):Q0 P F.ar [S s, .pointer (some q)] w K:=Pr (by
 unfold Lx X4 X2;refine M0 ?_;refine Wv (fun x w'=>w'=w/\ ∃u:Q9,x=S u/\u.length<=V4/\Gm u=Gm s) (fun x _=>(sOf x).length) ⟨rfl,s,rfl,k,rfl⟩ ?_;rintro _ d _ ⟨rfl,u,rfl,g,f⟩;have e:sOf (S u)=u:=by simp[sOf]
 simp only[e];refine Oy Z5 ?_;refine Vo ?_;refine Q4 (fun hh=>?_) (fun hh=>?_)
 .have j:0<u.length:=by simpa using hh
  have o:u.length<=9223372036854775807:=Nat.le_trans g L7;refine Oy Z5 ?_;refine Wh ⟨by omega,by omega⟩ ?_
  have i:((u.length:Int)-1).toNat=u.length-1:=by omega
  rw[Uc Z5 Q5 Q5];simp only[i];have b:u.getLast?=some (u[u.length-1]'(by omega)):=by rw[List.getLast?_eq_getElem?,List.getElem?_eq_getElem]
  have a:=Q5n u;rw[b] at a;simp only at a;refine Q6O n m ?_;cases c:brk (u[u.length-1]'(by omega)) with
  | true=>
   rw[c] at a;simp only[↓M1,M1,Mb,reduceIte];rw[Qi Q5 Q5,Yq Z5 Q5 Q5];simp only[i];refine ⟨⟨trivial,_,rfl,by rw[List.length_take];omega,?_⟩,?_⟩
   .rw[<-f,a];simp
   .have:sOf (S (u.take (u.length-1)))=u.take (u.length-1):=by simp[sOf]
    simp only[this,List.length_take];omega
  | false=>
   rw[c] at a;simp only[↓M1,M1,Mb,reduceIte];intro _;rw[<-f,a] at h
   simpa using h
 .have j: ¬0<u.length:=by simpa using hh
  have:u=[]:=List.eq_nil_of_length_eq_zero Q5;subst this;intro _;rw[<-f] at h;exact h)
theorem X1Y {s:Q9} (hs:X3 w σ) (hl:s.length<=V4) (h: ∀w' σ',Stp w σ w' σ'->K (S (Gm s)) w'):Q0 P F.c9 [S s,S [91,93]] w K:=Q3z (by
 unfold Cm;simp only[L9,D0];unfold X8 X4 X2 J9
 by_cases hs0:s=[]
 .subst hs0
  (repeat' (first | (with_reducible intro _) | (with_reducible refine M0 ?_) | (simp only[↓M2,M2,Mb,reduceIte]) | (with_reducible first | refine ld aS aL aR ?_ | refine Y6 aS aL aR ?_ | refine Z3 aS aL aR ?_ | refine Q6 aL ?_ | refine W3 aR ?_ | refine Z6 aS ?_ | refine H9 aS aL ?_ | refine L6 aS aR ?_ | refine Z9 aS aR aR (Rep.one Q8) ?_ | refine W8 aS aR aR aR ?_ | (refine V6 (fun hh=>?_) (fun hh=>?_)<;>(try simp only[hh,Bool.not_true,Bool.not_false,↓M2,M2,Mb,reduceIte])) | (refine Q4 (fun hh=>?_) (fun hh=>?_)<;>(try simp only[hh,Bool.not_true,Bool.not_false,↓M2,M2,Mb,reduceIte])))))
  all_goals first | exact h _ _ (by (repeat (first | exact Stp.refl (by (first | assumption | exact Stp.sat Q8 | exact Hst.sat Q8)) | assumption | refine Stp.trans ?_ (by first | assumption | exact Hst.stp Q8)))) | (exfalso;simp_all)
 have d1:decide (s=[])=false:=decide_eq_false hs0;simp only[d1,show decide (([91,93]:Q9)=[])=false from rfl,show decide ((([91,93]:Q9).length:Int)=1)=false from rfl,↓M1,M1,Mb,reduceIte]
 refine X20 (H6 hs fun w1 σ1 hk1=>?_);simp only[↓M1,M1,Mb,reduceIte];have hsz:(Lib.setCells [91,93]).toList.length=256:=by rw[Array.length_toList];exact Lib.setCells_size _
 have hone: ∀u∈(Lib.setCells [91,93]).toList,u.oneCell'=true:=by
  have:=Lib.setCells_one [91,93];rw[Array.all_eq_true'] at this;intro u hu;exact this u (by simpa using hu)
 have htr: ∀{w:World} {σ:Q2} {K:Value->World->Prop} {q:Addr},X3 w σ->U0 σ q (Lib.setCells [91,93]).toList->K (S (Gm s)) w->Q0 P F.ar [S s, .pointer (some q)] w K:=fun hs hq h=>Q6l hs hl hq h;have hta:Lib.setCells [91,93]=(Lib.setCells [91,93]).toList.toArray:=Array.toArray_toList.symm;generalize (Lib.setCells [91,93]).toList=cs at*;rw[hta];refine Z9 hk1.sat (by show (Array.replicate 256 (Value.bool false)).size=256;exact Array.size_replicate) hsz hone fun q w2 σ2 hk2 hq=>?_
 refine htr hk2.sat hq ?_;exact h _ _ (hk1.trans hk2))
theorem Q6N {s:Q9} (hs:X3 w σ) (ht:Tab σ v l) (hl:s.length<=V4) (h: ∀w' σ',Stp w σ w' σ'->K (.bool (H7 l s)) w'):Q0 P F.ae [v,S s] w K:=Q39 (by
 unfold Sm X8 J9;unfold H7 at h;refine K2 ?_;refine Q4 (fun hh=>?_) (fun hh=>?_)
 .have e:decide (s=I1)=true:=hh
  rw[e] at h;exact h _ _ (Stp.refl hs)
 .have e:decide (s=I1)=false:=hh
  rw[e] at h;refine X1Y hs hl fun w1 σ1 hk1=>?_;refine Wb s (Nat.le_trans hl L7) (H6 hk1.sat fun w2 σ2 hk2=>?_);cases hr:right s with
  | false=>
   rw[hr] at h
   (repeat' (first | (with_reducible intro _) | (with_reducible refine M0 ?_) | (simp only[↓M2,M2,Mb,reduceIte]) | (with_reducible first | refine ld aS aL aR ?_ | refine Y6 aS aL aR ?_ | refine Z3 aS aL aR ?_ | refine Q6 aL ?_ | refine W3 aR ?_ | refine Z6 aS ?_ | refine H9 aS aL ?_ | refine L6 aS aR ?_ | refine Z9 aS aR aR (Rep.one Q8) ?_ | refine W8 aS aR aR aR ?_ | (refine V6 (fun hh=>?_) (fun hh=>?_)<;>(try simp only[hh,Bool.not_true,Bool.not_false,↓M2,M2,Mb,reduceIte])) | (refine Q4 (fun hh=>?_) (fun hh=>?_)<;>(try simp only[hh,Bool.not_true,Bool.not_false,↓M2,M2,Mb,reduceIte])))))
   all_goals exact aF
  | true=>
   rw[hr] at h
   have hr2:(plain (base s).1||C6 (base s).1)=true:=by
    simp only[right,Bool.and_eq_true] at hr;exact hr.2
   rw[X68 hr2]
   (repeat' (first | (with_reducible intro _) | (with_reducible refine M0 ?_) | (simp only[↓M2,M2,Mb,reduceIte]) | (with_reducible first | refine ld aS aL aR ?_ | refine Y6 aS aL aR ?_ | refine Z3 aS aL aR ?_ | refine Q6 aL ?_ | refine W3 aR ?_ | refine Z6 aS ?_ | refine H9 aS aL ?_ | refine L6 aS aR ?_ | refine Z9 aS aR aR (Rep.one Q8) ?_ | refine W8 aS aR aR aR ?_ | refine Kf _ ?_ | refine X3A au au ?_ | (refine V6 (fun hh=>?_) (fun hh=>?_)<;>(try simp only[hh,Bool.not_true,Bool.not_false,↓M2,M2,Mb,reduceIte])) | (refine Q4 (fun hh=>?_) (fun hh=>?_)<;>(try simp only[hh,Bool.not_true,Bool.not_false,↓M2,M2,Mb,reduceIte])))))
   all_goals exact aF)
theorem X85 (ok:Ok l): ∀(k:Nat) {n:Q9} {w:World} {σ:Q2} {K:Value->World->Prop},(lk l n=none\/A0 l n<k)->n.length<=V4->X3 w σ->Tab σ v l->(∀w' σ',Stp w σ w' σ'->K (S (E3 l n)) w')->Q0 P F.ak [v,S n] w K:=by
 intro k
 induction k with
 | zero=>
  intro n w σ K hk hl hs ht h
  have hd:lk l n=none:=hk.resolve_right (by omega)
  refine Rx ?_
  unfold Ux
  simp only[L9]
  unfold X6 J3 X8 X4 X2 J9 X1
  rw[Aw hd] at h
  (repeat' (first | (with_reducible intro _) | (with_reducible refine M0 ?_) | (simp only[↓M2,M2,Mb,reduceIte]) | (with_reducible first | refine ld aS aL aR ?_ | refine Y6 aS aL aR ?_ | refine Z3 aS aL aR ?_ | refine Q6 aL ?_ | refine W3 aR ?_ | refine Z6 aS ?_ | refine H9 aS aL ?_ | refine L6 aS aR ?_ | refine Z9 aS aR aR (Rep.one (by assumption)) ?_ | refine W8 aS aR aR aR ?_ | refine Km au au au ?_ | (refine V6 (fun hh=>?_) (fun hh=>?_)<;>(try simp only[hh,Bool.not_true,Bool.not_false,↓M2,M2,Mb,reduceIte])) | (refine Q4 (fun hh=>?_) (fun hh=>?_)<;>(try simp only[hh,Bool.not_true,Bool.not_false,↓M2,M2,Mb,reduceIte])))))
  all_goals exact h _ _ (by (repeat (first | exact Stp.refl (by (first | assumption | exact Stp.sat (by assumption) | exact Hst.sat (by assumption))) | assumption | refine Stp.trans ?_ (by first | assumption | exact Hst.stp (by assumption)))))
 | succ k ih=>
  intro n w σ K hk hl hs ht h
  refine Rx ?_
  unfold Ux
  simp only[L9]
  unfold X6 J3 X8 X4 X2 J9 X1
  cases hd:lk l n with
  | none=>
   rw[Aw hd] at h
   (repeat' (first | (with_reducible intro _) | (with_reducible refine M0 ?_) | (simp only[↓M2,M2,Mb,reduceIte]) | (with_reducible first | refine ld aS aL aR ?_ | refine Y6 aS aL aR ?_ | refine Z3 aS aL aR ?_ | refine Q6 aL ?_ | refine W3 aR ?_ | refine Z6 aS ?_ | refine H9 aS aL ?_ | refine L6 aS aR ?_ | refine Z9 aS aR aR (Rep.one (by assumption)) ?_ | refine W8 aS aR aR aR ?_ | refine Km au au au ?_ | (refine V6 (fun hh=>?_) (fun hh=>?_)<;>(try simp only[hh,Bool.not_true,Bool.not_false,↓M2,M2,Mb,reduceIte])) | (refine Q4 (fun hh=>?_) (fun hh=>?_)<;>(try simp only[hh,Bool.not_true,Bool.not_false,↓M2,M2,Mb,reduceIte])))))
   all_goals exact h _ _ (by (repeat (first | exact Stp.refl (by (first | assumption | exact Stp.sat (by assumption) | exact Hst.sat (by assumption))) | assumption | refine Stp.trans ?_ (by first | assumption | exact Hst.stp (by assumption)))))
  | some c=>
   have hp:=Q9f ok.acy n
   rw[hd] at hp
   simp only at hp
   obtain ⟨hcn,hmem,_⟩:=N1 hd
   have hnm:=ok.nm c hmem
   have hsm:=ok.sm c hmem
   have hlen:=Q7l ok c.super
   refine Bt hs ht hd ?_
   simp only[↓M1,M1,Mb,reduceIte]
   refine Q4 (fun hh=>?_) (fun hh=>?_)
   .have:n=L3:=of_decide_eq_true hh
    rw[if_pos this] at hp
    rw[hp] at h
    exact h _ _ (Stp.refl hs)
   have: ¬n=L3:=of_decide_eq_false hh
   rw[if_neg this] at hp
   refine Jw hs ht hd fun lv fv mv w1 σ1 hk1 f1 f2 f3 f4 f5 hr=>?_
   refine Z9 hk1.sat (by rfl) rfl (Rep.one hr) fun q w2 σ2 hk2 hq=>?_
   have hn100:n.length<=100:=by rw[<-hcn];exact hnm.1
   refine H4 (by simp only[List.length_cons,List.length_nil];omega) ?_
   simp only[fa]
   refine ld hk2.sat hq rfl ?_
   have hk':lk l c.super=none\/A0 l c.super<k:=by
    cases hd2:lk l c.super with
    | none=>exact .inl rfl
    | some e=>
     right
     have:=Yf ok.acy hd (by simp[M6]) hd2
     rcases hk with hk | hk
     .rw[hk] at hd;cases hd
     .omega
   refine ih hk' f5 hk2.sat (ht.lift ⟨(hk1.trans hk2).le⟩) fun w3 σ3 hk3=>?_
   refine H4 (by simp only[List.length_append,List.length_cons,List.length_nil];omega) ?_
   refine H4 (by simp only[List.length_append,List.length_cons,List.length_nil];omega) ?_
   refine ld hk3.sat (hq.up hk3) rfl ?_
   have f2:=(f2.up hk2).up hk3
   have hS3:=(hk1.trans hk2).trans hk3
   refine Q6 f2 ?_
   refine O4 c.fields.length (fun i a w'=> ∃σ',Stp w σ w' σ'/\SLe σ3 σ'/\a=S (n++[40]++E3 l c.super++[41]++(c.fields.take i).flatMap I8)) ⟨σ3,hS3,SLe.refl _,by simp⟩ fun i a w4 d hi hinv=>?_
   obtain ⟨σ4,hS4,le4,rfl⟩:=hinv
   have hfl:=Q2z hnm hsm i
   refine Y9 ?_
   refine Q4 (fun hh=>?_) (fun hh=>?_)
   .have hi':i<c.fields.length:=by simpa using hh
    have hff:=hnm.2.1 _ (List.getElem_mem hi')
    have hmax:c.fields.length<=9223372036854775807:=f2.max
    refine M0 ?_
    refine Q4i (f2.lift le4) hi' fun p hl1 hr1=>?_
    refine Z3 hS4.sat hl1 rfl ?_
    refine Z9 hS4.sat (by rfl) rfl (Rep.one hr1) fun q5 w5 σ5 hk5 hq5=>?_
    rw[fa]
    refine ld hk5.sat hq5 rfl ?_
    have e5:(c.fields.take (i+1)).flatMap I8=(c.fields.take i).flatMap I8++I8 c.fields[i]:=by
     rw[List.take_add_one,List.getElem?_eq_getElem hi',List.flatMap_append];simp
    cases htr:c.fields[i].tr with
    | true=>
     simp only[↓M1,M1,Mb,reduceIte]
     intro _
     refine Z8 hmax hi' ⟨σ5,hS4.trans hk5,le4.more ⟨hk5.le⟩,?_⟩
     rw[e5];simp[I8,htr]
    | false=>
     simp only[↓M1,M1,Mb,reduceIte]
     refine ld hk5.sat hq5 rfl ?_
     refine H4 (by simp only[List.length_append,List.length_cons,List.length_nil];omega) ?_
     refine H4 (by simp only[List.length_append,List.length_cons,List.length_nil];omega) ?_
     refine ld hk5.sat hq5 rfl ?_
     refine H4 (by simp only[List.length_append,List.length_cons,List.length_nil];omega) ?_
     refine H4 (by simp only[List.length_append,List.length_cons,List.length_nil];omega) ?_
     intro _
     (try simp only[↓M1,M1,Mb,reduceIte])
     refine Z8 hmax hi' ⟨σ5,hS4.trans hk5,le4.more ⟨hk5.le⟩,?_⟩
     rw[e5];simp[I8,htr]
   .have hi': ¬i<c.fields.length:=by simpa using hh
    rw[List.take_of_length_le (by omega)] at hfl⊢
    refine H4 (by simp only[List.length_append,List.length_cons,List.length_nil];omega) ?_
    rw[hp] at h
    exact h _ _ hS4
end Go.Proofs.Y
namespace Go.Emb
open Go.RowKit Go.Hm
variable {P : Program} {w w1 w' w'' : World} {σ σ' : Q2}
theorem Q94 (m:List (List UInt8×Value)) (k n:List UInt8) (v:Value):T0 (putS m k v) n=if k=n then some v else T0 m n:=by
 induction m with
 | nil=>simp[putS,T0]
 | cons p r b=>
  simp only[putS]
  by_cases h:p.1=k
  .rw[if_pos h]
   simp only[T0]
   by_cases a:k=n
   .simp[a]
   .rw[if_neg a,if_neg a,if_neg (by rw[h];exact a)]
  .rw[if_neg h]
   simp only[T0]
   by_cases a:p.1=n
   .rw[if_pos a,if_pos a,if_neg (by intro e;exact h (a.trans e.symm))]
   .rw[if_neg a,if_neg a];exact b
theorem J7.shift {B sz:Nat} {e:TypeId} {v:Value} {xs:List (List UInt8)} (h:J7 B e sz L1 σ w v xs) (m: ∀k,v.ownBlock=some k->σ' k=none):J7 B e sz L1 σ' w v xs:=by
 obtain ⟨a,f,rfl,n,o,c,p⟩:=h;refine ⟨a,f,rfl,n,o,fun b d=>⟨(c b d).1,(c b d).2.1,(c b d).2.2.1,m _ (by subst d;rfl)⟩,fun q=>?_⟩
 obtain ⟨g,j,i,rfl,r,y,s,t,u⟩:=p q;exact ⟨g,j,i,rfl,r,m g rfl,s,t,u⟩
theorem Kpt.sat {D:Nat->Prop} (a:X3 w σ) (d:Kpt D w w') (c: ∀k,D k->σ k=none):X3 w' σ:=fun b o e=>by
 rw[d.block b (a.lt e) fun h=>by rw[c b h] at e;cases e];exact a b o e
theorem Nxt.kpt {D D':Nat->Prop} (h:Nxt D w σ w' σ') (a:Kpt D' w' w'') (b: ∀k,D' k->D k) (c: ∀k,D' k->σ' k=none):Nxt D w σ w'' σ':=
 ⟨h.kp.trans (a.mono fun k _ h=>b k h),h.le,h.old,a.sat h.sat c⟩
theorem X9D {t V:TypeId} {e:TypeId} {m:Nat} {z:Value} {cs:List Bool} [ts:TS P t e] [tz:TZ P e 1 m z] {B:Nat} {A:World} {i σ':Q2} {g u:Value} {xs:List (List UInt8)} {s:List UInt8}
 (D:J7 B e 1 L1 i A g xs) (hB:B<=A.heap.size) (J:J7 B e 1 L1 i w1 g xs) (r:Nxt (fun k=>g.ownBlock=some k) A i w1 σ') (O:Sl 1 L1 σ' u [s]) (Q:(z.cells.size==1&&decide (0<1))=true)
 (j:(xs.length+1)*m<=140737488355328) (M:xs.length+1<=1000000000000):
 U4 P .append [t,t] V cs [g,u] w1 (dk (TQa B e 1 L1 i g xs s) (VQa A.heap.size B e 1 L1 i g xs s) w1):=by
 have y: ∀k,g.ownBlock=some k->σ' k=none:=fun k c=>(r.old k (D.mem c).2.1).trans (D.mem c).2.2;refine Il r.sat (Nat.le_trans hB r.kp.size) (J.shift y) O Q (by simpa using j) (by simpa using M) fun W X C N q f=>?_
 have b:J7 B e 1 L1 i X W (xs++[s]):=q.shift fun k c=>by
  have:=(q.mem c).2.2;cases hh:i k with
  | none=>rfl
  | some o=>rw[r.le.le _ _ hh] at this;cases this
 refine ⟨⟨C.mono fun k _ h=>h.1,fun h=>?_,fun a d H h=>?_⟩,b,?_⟩
 .rcases f with ⟨a,d,n,p⟩ | ⟨j,_⟩
  .rw[p] at b;rw[n];exact b.pre rfl
  .exact h.below j
 .rcases f with ⟨Y,E,n,p⟩ | ⟨j,_⟩
  .rw[n] at H;injection H with R q2 U
   subst R U;rw[p] at b;exact b
  .exact h.below j
 .rcases f with ⟨a,d,n,p⟩ | ⟨j,L⟩
  .exact .inl ⟨a,d,n,p⟩
  .exact .inr ⟨fun k c=>Nat.le_trans r.kp.size (L k c),fun k c=>(D.mem c).2.1⟩
end Go.Emb
namespace Go.Hm
open Go.Kd
def En (l:List Cla) (n:Q9):List Cla:=(Qy l n).filterMap (lk l)
theorem X2H {l:List Cla} (h: ∀c∈l,Yy c) (a:List Q9):weigh l a<=l.length*1000001:=by
 unfold weigh
 induction l with
 | nil=>simp
 | cons c r d=>
  have e:=d fun c b=>h c (by simp[b])
  have f:=(h c (by simp)).1
  simp only[List.map_cons,List.sum_cons,List.length_cons,Nat.add_mul];have g:(M6 c).length=c.like.length+1:=rfl
  split<;>omega
end Go.Hm
namespace Go.Proofs.Y
open Go.Emb Go.RowKit Go.Kd Go.Hm
variable {w : World} {K : Value -> World -> Prop} {σ : Q2} {v : Value} {l : List Cla}
theorem X3h {β:Type} {n:Q9} {f:Value} (L:β->Cla->Bool×β) (s0:β) (N:β->World->Prop) (D:Nat->Prop) (hs:X3 w σ) (ht:Tab σ v l) (hl:l.length<=100000) (bv: ∀c∈l,Yy c) (hn:n.length<=V4)
 (hD: ∀k,D k->k<w.heap.size/\σ k=none) (al: ∀s w1 w2,N s w1->(∀k,D k->w2.heap[k]? =w1.heap[k]?)->N s w2) (h0:N s0 w)
 (hf: ∀s c cs (w1:World) (σ1:Q2) (K:Value->World->Prop),SLe σ σ1->X3 w1 σ1->(∀k,D k->σ1 k=none)->N s w1->M8 σ1 c cs->lk l c.name=some c->(∀w',Kpt D w1 w'->N (L s c).2 w'->K (.bool (L s c).1) w')->J6 P f [.agg cs.toArray] w1 K)
 (h: ∀w' σ',Nxt D w σ w' σ'->N (W1 L s0 (En l n) 0).2 w'->K (.bool (W1 L s0 (En l n) 0).1.isSome) w'):Q0 P F.z [v,S n,f] w K:=Q1Q (by
 unfold Ez;simp only[Y5,X5,L9,D0];unfold J3 X8 X4 X2;refine Xu (R:=L1) (sz:=1) (xs:=[n]) (Stp.refl hs) [S n] rfl rfl (by simp;rfl) rfl ⟨⟨rfl,hn⟩,trivial⟩ fun x0 w1 az be _=>?_
 refine Q7i az.sat fun r w2 hr ab cc=>?_;have b4:=J7.of_acc (be.up ab);have bd:=az.trans ab;have bs:w.heap.size<=r:=Nat.le_trans az.bel.size hr
 have bx: ∀b,weigh l b<=100001000000:=fun b=>by
  have:=X2H bv b;have h2:l.length*1000001<=100000*1000001:=Nat.mul_le_mul_right _ hl;omega
 refine Q1b (fun d x w1=> ∃(C b:List Q9) (s:β) (σ1:Q2) (m:List (Q9×Value)),d=C.length+weigh l b/\d<=1+weigh l []/\Nxt D w σ w1 σ1/\J7 w.heap.size T.b 1 L1 σ1 w1 x C/\P8 σ1 w1 r m/\(∀k,(T0 m k).isSome=decide (k∈b))/\x.ownBlock≠some r/\N s w1/\
  Qy l n=Nk (lk l) d C b/\(∃i,W1 L s0 (En l n) 0=W1 L s (((Qy l n).drop b.length).filterMap (lk l)) i)) (1+weigh l []) ?_ ?_
 .refine ⟨[n],[],s0,σ,[],by simp,Nat.le_refl _,Nxt.of_stp bd,b4,cc,by simp[T0],?_,al _ _ _ h0 fun k o=>bd.bel.block k (hD k o).1,rfl,0,by simp[En]⟩
  intro e;have:=be.mem r e;omega
 rintro aq d x dd w3 ⟨C,b,s,σ3,m,hd,c3,A,av,ad,Q,co,ay,hv,i,y⟩ bg;have cw:=bx [];have a4:=A.sat;obtain ⟨a7,B⟩:=Q53 (lk l) d C b;rw[<-hv] at B;have aa:(Qy l n).drop b.length=a7:=by rw[B];simp
 rw[aa] at y;refine Rw av ?_;refine Vo ?_;cases ag:C with
 | nil=>
  subst ag;refine Q4 (fun hh=>absurd (of_decide_eq_true hh) V5) (fun _=>?_);have:Qy l n=b:=by rw[hv];cases d<;>rfl
  have hp:a7=[]:=by rw[this] at B;simpa using B
  rw[hp] at y;rw[y] at h;exact h _ _ A ay
 | cons t g=>
  subst ag;refine Q4 (fun _=>?_) (fun hh=>absurd (of_decide_eq_false hh) V5);simp only[List.length_cons] at hd;refine X15 (n:=0) av V5 fun a cs X h2 h3=>?_;obtain ⟨rfl,cl⟩:=h3;simp only[List.getElem_cons_zero] at X cl;have Z:=X 0 _ rfl;rw[add_zero] at Z;refine Zk Z ?_;refine Y11 av 1 V5 fun x' Y bp=>?_;simp only[List.drop_succ_cons,List.drop_zero] at Y
  have J:x'.ownBlock≠some r:=by
   rcases bp with e | e<;>rw[e]
   .exact co
   .simp
  rw[Q6u Z5 ad.2 t];have b7:d=(g.length+weigh l b)+1:=by omega
  have p:=hv;rw[b7] at p;simp only[Nk] at p
  have skip:(lk l t=none\/t∈b)->Qy l n=Nk (lk l) (g.length+weigh l b) g b:=by
   rintro (e | e)
   .rw[e] at p;exact p
   .cases e2:lk l t with
    | none=>rw[e2] at p;exact p
    | some c=>rw[e2] at p;simp only[if_pos e] at p;exact p
  have af:(lk l t=none\/t∈b)->aq x' w3:=fun ck=>
   bg (g.length+weigh l b) x' w3 Q5 ⟨g,b,s,σ3,m,rfl,by omega,A,Y,ad,Q,J,ay,skip ck,i,by rw[aa];exact y⟩
  have a5:=ht.lift A.le;have U:=Q t;cases bm:T0 m t with
  | some u=>
   rw[bm] at U;have ai:t∈b:=by simpa using U
   simp only[↓M2,M2,Mb,reduceIte];exact af (.inr ai)
  | none=>
   rw[bm] at U;have ai:t∉b:=by simpa using U
   simp only[↓M2,M2,Mb,reduceIte];cases H:lk l t with
   | none=>
    refine Km a4 a5 H ?_;simp only[↓M2,M2,Mb,reduceIte];exact af (.inl H)
   | some c=>
    obtain ⟨aw,bj,_⟩:=N1 H;refine Bt a4 a5 H ?_;simp only[↓M2,M2,Mb,reduceIte];refine Q1e Z5 ad t (I 1) fun w4 bw cd=>?_;have ac:Kpt (fun k=>k=r) w3 w4:=Kpt.of_upd bw rfl;have ci:X3 w4 σ3:=ac.sat a4 fun k o=>by rw[o];exact ad.1
    have bf:=Y.kp ac fun k o e=>J (e▸o);have b8:=al _ _ _ ay fun k o=>bw.block k (by have:=(hD k o).1;omega)
    have c9:r<w3.heap.size:=ad.lt;refine Jw ci a5 H fun lv fv mv w5 σ5 bl f1 f2 f3 f4 f5 br=>?_;refine Z9 bl.sat (by rfl) rfl (Rep.one br) fun q w6 M W a2=>?_
    refine Z3 W.sat a2 rfl ?_;have z:=bl.trans W
    have bb: ∀k,D k->k<w4.heap.size:=fun k o=>by
     have X:=(hD k o).1;have h2:=A.kp.size;have h3:=ac.size;omega
    have b9:=al _ _ _ b8 fun k o=>z.bel.block k (bb k o);have a6:SLe σ M:=A.le.more ⟨z.le⟩
    have bc: ∀k,D k->M k=none:=fun k o=>by
     rw[z.old k (bb k o),A.old k (hD k o).1];exact (hD k o).2
    refine hf s c _ w6 M _ a6 W.sat bc b9 (RCl_lift br ⟨W.le⟩) (by rw[aw];exact H) fun w7 aj bk=>?_
    have bu:X3 w7 M:=aj.sat W.sat bc
    have ak:Nxt D w σ w7 M:=⟨((A.kp.more ac fun j e=>by rw[e];exact bs).trans (Kpt.of_below z.bel)).trans aj,a6,fun k o=>by
     rw[z.old k (by have:=A.kp.size;have:=ac.size;omega)];exact A.old k o,bu⟩
    have ao: ∀k,w.heap.size<=k-> ¬D k:=fun k o e=>by have:=(hD k e).1;omega
    have V:=(bf.up z).kp aj fun k o=>ao k ((bf.mem o).1);have bo:=(cd.up z).kp aj (ao r bs)
    have bn: ∀k,(T0 (putS m t (I 1)) k).isSome=decide (k∈b++[t]):=fun k=>by
     rw[Q94]
     by_cases e:t=k
     .subst e;simp
     .rw[if_neg e,Q k];simp[Ne.symm e]
    rw[H] at p;simp only[if_neg ai] at p;obtain ⟨bz,a1⟩:=Q53 (lk l) (g.length+weigh l b) (g++M6 c) (b++[t])
    have bq:a7=t::bz:=by
     have:=B.symm.trans (p.trans a1)
     simpa using this
    rw[bq] at y;simp only[List.filterMap_cons,H,W1] at y;cases E:(L s c).1 with
    | true=>
     rw[E] at y;simp only[if_true] at y;refine Z1 ?_;have:=h w7 M ak;rw[y] at this;exact this bk
    | false=>
     rw[E] at y;simp only[Bool.false_eq_true,if_false] at y;refine Z0 ?_;have ap:w.heap.size<=w7.heap.size:=ak.kp.size;have ae: ∀k,x'.ownBlock=some k->M k=none:=fun k o=>(V.mem o).2.2;have hw:=Q2w l b c bj (by rw[aw];exact ai)
     rw[aw] at hw;have de:=bx b;have ch:g.length<=100001000001:=by omega
     have cb:=(bv c bj).1;have cv:=bo.lt
     refine Q13 (TQa w.heap.size T.b 1 L1 M x' g c.super) (fun w1=>Kpt (fun k=>x'.ownBlock=some k) w7 w1/\X3 w1 M/\J7 w.heap.size T.b 1 L1 M w1 x' g)
      ⟨.of_below (Below.refl _ _).drew,bu.below (Below.refl _ _).drew,V.below (Below.refl _ _).drew⟩ (fun w1 w2 E ht=>⟨E.1.trans ht.1,ht.1.sat E.2.1 ae,ht.2.1 E.2.2⟩) ?_
     refine Y1 (.pointer (some (q.add 1))) (fun w E=>by rw[fa];exact ⟨TQa.refl,rfl⟩) ?_
     refine Y1 (.pointer (some (q.add 2))) (fun w E=>by rw[fa];exact ⟨TQa.refl,rfl⟩) ?_
     refine Y1 (S c.super) (fun t w E e=>by rw[e];exact ld E.2.1 a2 rfl ⟨TQa.refl,rfl⟩) ?_
     refine F4 (fun u w1=> ∃σ',Nxt (fun k=>x'.ownBlock=some k) w7 M w1 σ'/\Sl 1 L1 σ' u [c.super]) (fun u w1 w2 e ht=>by obtain ⟨σ',X,h2⟩:=e;exact ⟨σ',X.kpt ht.1 (fun _ o=>o) (fun k o=>(X.old k (V.mem o).2.1).trans (ae k o)),h2⟩) (fun t w1 E e=>?_) ?_
     .rw[e]
      refine C1 (R:=L1) (sz:=1) E.2.1 [S c.super] [c.super] rfl rfl (by simp;rfl) rfl ⟨⟨rfl,f5⟩,trivial⟩ fun u w2 σ2 ab hu=>?_
      have cf:Nxt (fun k=>x'.ownBlock=some k) w7 M w1 M:=⟨E.1,SLe.refl _,fun _ _=>rfl,E.2.1⟩;exact ⟨TQa.below ab.bel,σ2,cf.trans (Nxt.of_stp ab),hu⟩
     refine F4 (VQa w7.heap.size w.heap.size T.b 1 L1 M x' g c.super) (fun _ _ _ X ht=>X.stable ht) (fun u w1 E e=>?_) ?_
     .obtain ⟨σ',X,h2⟩:=e
      exact X9D V ap E.2.2 X h2 rfl Q5 Q5
     refine Y1 lv (fun t w E e=>by rw[e];exact ld E.2.1 a2 rfl ⟨TQa.refl,rfl⟩) ?_
     rintro dg dj dh di cp dl w8 O _ _ _ _ ⟨b5,bh⟩ rfl
     have a3:cp.ownBlock≠some r:=by
      rcases bh with ⟨a,b3,e1,e2⟩ | ⟨e1,_⟩
      .rw[e2];rw[e1] at J;cases a<;>exact J
      .intro e;have:=e1 r e;omega
     refine Il O.2.1 (Nat.le_trans ap O.1.size) b5 (f1.up W) rfl (by rw[List.length_append,List.length_cons,List.length_nil];omega) (by rw[List.length_append,List.length_cons,List.length_nil];omega) fun b1 w9 a0 cj b6 bi=>?_
     have cn:b1.ownBlock≠some r:=by
      rcases bi with ⟨a,b3,e1,e2⟩ | ⟨_,e1⟩
      .rw[e2];rw[e1] at a3;cases a<;>exact a3
      .intro e;have:=e1 r e;have:=O.1.size;omega
     have cg:Nxt D w σ w9 M:=⟨(ak.kp.more O.1 fun j e=>(V.mem e).1).more a0 fun j e=>e.2.1,a6,ak.old,cj⟩;have ce:=(bo.kp O.1 J).kp a0 fun e=>a3 e.1
     have ca:=al _ w7 w9 bk fun k o=>by
      have X:=(hD k o).1;rw[a0.block k (by have:=O.1.size;omega) fun e=>by have:=e.2.1;omega,O.1.block k Q5 fun e=>by have:=(V.mem e).1;omega]
     have cy:(g++M6 c).length=g.length+1+c.like.length:=by simp[M6];omega
     have ct:(M6 c).length=c.like.length+1:=rfl
     have ax:Nk (lk l) (g.length+weigh l b) (g++M6 c) (b++[t])=Nk (lk l) ((g++M6 c).length+weigh l (b++[t])) (g++M6 c) (b++[t]):=by
      have:=X6n l ((g++M6 c).length+weigh l (b++[t])) (g++M6 c) (b++[t]) (Nat.le_refl _) (g.length+weigh l b-((g++M6 c).length+weigh l (b++[t])));rw[<-this];congr 1;omega
     refine bg ((g++M6 c).length+weigh l (b++[t])) b1 w9 Q5 ⟨g++M6 c,b++[t],(L s c).2,M,_,rfl,by omega,cg,?_,ce,bn,cn,ca,p.trans ax,i+1,?_⟩
     .have:g++M6 c=(g++[c.super])++c.like:=by simp[M6]
      rw[this];exact b6
     .rw[y,B,bq];simp)
end Go.Proofs.Y
namespace Go.Emb
open Go.RowKit Go.Hm
theorem Nxt.stp {w w':World} {σ a:Q2} (h:Nxt (fun _=>False) w σ w' a):Stp w σ w' a:=⟨h.kp.below fun _=>id,h.sat,h.le.le,h.old⟩
end Go.Emb
namespace Go.Hm
open Go.Kd Go.Emb
theorem Q9o {α:Type} (p:α->Bool): ∀(xs:List α) (i:Nat),(W1 (fun (_:Unit) x=>(p x,())) () xs i).1.isSome=xs.any p
 | [],_=>rfl
 | x::r,i=>by
  simp only[W1,List.any_cons];cases p x with
  | true=>simp
  | false=>simpa using Q9o p r (i+1)
theorem X0k {l:List Cla} (n b:Q9):((En l n).any fun c=>decide (c.name=b))=(Qy l n).contains b:=by
 have key: ∀vs:List Q9,(∀x∈vs,∃c,lk l x=some c)->((vs.filterMap (lk l)).any fun c=>decide (c.name=b))=vs.contains b:=by
  intro vs
  induction vs with
  | nil=>intro _;rfl
  | cons x r f=>
   intro h;obtain ⟨c,a⟩:=h x V5;rw[List.filterMap_cons,a];simp only[List.any_cons,List.contains_cons];rw[f fun y e=>h y (by simp[e]),(N1 a).1]
   congr 1
   rw[Bool.eq_iff_iff,beq_iff_eq,decide_eq_true_eq];exact ⟨Eq.symm,Eq.symm⟩
 exact key _ fun x d=>(Nh.1 d).right
end Go.Hm
namespace Go.Proofs.Y
open Go.Emb Go.RowKit Go.Kd Go.Hm
variable {w : World} {K : Value -> World -> Prop} {σ : Q2} {v : Value} {l : List Cla}
theorem X2N {n:Q9} {f:Value} (p:Cla->Bool) (hs:X3 w σ) (ht:Tab σ v l) (hl:l.length<=100000) (hsm: ∀c∈l,Yy c) (hn:n.length<=V4)
 (hf: ∀c cs (w1:World) (σ1:Q2) (K:Value->World->Prop),SLe σ σ1->X3 w1 σ1->M8 σ1 c cs->(∀w' σ',Stp w1 σ1 w' σ'->K (.bool (p c)) w')->J6 P f [.agg cs.toArray] w1 K)
 (h: ∀w' σ',Stp w σ w' σ'->K (.bool ((En l n).any p)) w'):Q0 P F.z [v,S n,f] w K:=by
 refine X3h (fun (_:Unit) c=>(p c,())) () (fun _ _=>True) (fun _=>False) hs ht hl hsm hn (fun _ e=>e.elim) (fun _ _ _ _ _=>trivial) trivial (fun s c cs w1 σ1 K le hs1 _ _ hr _ hK=>hf c cs w1 σ1 K le hs1 hr fun w' σ' hk=>hK w' (.of_below hk.bel) trivial) fun w' σ' hn _=>?_;rw[Q9o];exact h w' σ' hn.stp
theorem X6u {n b:Q9} {q:Addr} (hs:X3 w σ) (ht:Tab σ v l) (ok:Ok l) (hn:n.length<=V4) (hq:U0 σ q [S b]) (h: ∀w' σ',Stp w σ w' σ'->K (.bool ((Qy l n).contains b)) w'):
 Q0 P F.z [v,S n, .func (.func F.bF) #[] #[.pointer (some q)]] w K:=by
 refine X2N (fun c=>decide (c.name=b)) hs ht ok.len ok.sm hn (fun c cs w1 σ1 K le hs1 hr hK=>J8 (Q1P ?_)) (by rw[X0k];exact h)
 obtain ⟨lv,fv,mv,rfl,_⟩:=hr;unfold Ey X6 X1;have hq1:=hq.lift le;refine Z6 hs1 fun a w2 σ2 hk2 ha2=>?_
 (repeat' (first | (with_reducible intro _) | (with_reducible refine M0 ?_) | (simp only[↓M2,M2,Mb,reduceIte]) | (with_reducible first | refine ld aS aL aR ?_ | refine Y6 aS aL aR ?_ | refine Z3 aS aL aR ?_ | refine Q6 aL ?_ | refine W3 aR ?_ | refine Z6 aS ?_ | refine H9 aS aL ?_ | refine L6 aS aR ?_ | refine Z9 aS aR aR (Rep.one Q8) ?_ | refine W8 aS aR aR aR ?_ | (refine V6 (fun hh=>?_) (fun hh=>?_)<;>(try simp only[hh,Bool.not_true,Bool.not_false,↓M2,M2,Mb,reduceIte])) | (refine Q4 (fun hh=>?_) (fun hh=>?_)<;>(try simp only[hh,Bool.not_true,Bool.not_false,↓M2,M2,Mb,reduceIte])))))
 exact hK _ _ hk2
theorem Y0y {a b:Q9} (E:X3 w σ) (u:Tab σ v l) (ok:Ok l) (s:a.length<=V4) (D:b.length<=V4) (h: ∀w' H,Stp w σ w' H->K (.bool (Vm l a b)) w'):Q0 P F.ce [v,S a,S b] w K:=Q4B (by
 unfold Bz X8 J9 X1;unfold Vm at h;refine L6 E rfl fun q w1 σ1 k C=>?_;refine Q6N k.sat (u.lift ⟨k.le⟩) s fun J O d=>?_;have i:=k.trans d;cases y:H7 l a with
 | false=>
  simp only[y,↓M2,M2,Mb,reduceIte,Bool.not_false,Bool.true_or,if_true] at h⊢;exact h _ _ i
 | true=>
  simp only[y,↓M2,M2,Mb,reduceIte,Bool.not_true,Bool.false_or] at h⊢;refine Y6 d.sat (C.up d) rfl ?_;refine Q6N d.sat (u.lift ⟨i.le⟩) D fun L Q e=>?_;have c:=i.trans e;cases z:H7 l b with
  | false=>
   simp only[z,↓M2,M2,Mb,reduceIte,Bool.not_false,if_true] at h⊢;exact h _ _ c
  | true=>
   simp only[z,↓M2,M2,Mb,reduceIte,Bool.not_true,Bool.false_eq_true,if_false] at h⊢;have m:=(C.up d).up e;refine Y6 e.sat m rfl ?_;refine K2 ?_
   by_cases f:a=b
   .rw[if_pos f] at h
    simp only[decide_eq_true f,↓M2,M2,Mb,reduceIte];exact h _ _ c
   rw[if_neg f] at h;simp only[decide_eq_false f,↓M2,M2,Mb,reduceIte];refine Kf a ?_;cases A:plain a with
   | true=>
    simp only[A,↓M2,M2,Mb,reduceIte,Bool.true_or,if_true] at h⊢;exact h _ _ c
   | false=>
    simp only[A,↓M2,M2,Mb,reduceIte,Bool.false_or] at h⊢;refine Y6 e.sat m rfl ?_;refine Kf b ?_;cases B:plain b with
    | true=>
     simp only[B,↓M2,M2,Mb,reduceIte,if_true] at h⊢;exact h _ _ c
    | false=>
     simp only[B,↓M2,M2,Mb,reduceIte,Bool.false_eq_true,if_false] at h⊢
     by_cases p:a=I1
     .rw[if_pos p] at h
      have r:decide (a=[110,117,108,108])=true:=decide_eq_true p;simp only[r,↓M2,M2,Mb,reduceIte];exact h _ _ c
     rw[if_neg p] at h;have r:decide (a=[110,117,108,108])=false:=decide_eq_false p;simp only[r,↓M2,M2,Mb,reduceIte];refine Q7c a (Nat.le_trans s L7) (H6 e.sat fun M R g=>?_);have j:=c.trans g;have n:=m.up g;refine Jb ?_
     by_cases o:elem a=[]
     .rw[if_neg (by simpa using o)] at h
      simp only[decide_eq_true o,↓M2,M2,Mb,reduceIte];exact X6u g.sat (u.lift ⟨j.le⟩) ok s n fun N U t=>h _ _ (j.trans t)
     .rw[if_pos o] at h
      simp only[decide_eq_false o,↓M2,M2,Mb,reduceIte];refine Y6 g.sat n rfl ?_;refine K2 ?_;exact h _ _ j)
theorem X8a {c:Cla} {cs:List Value} (hs:X3 w σ) (ht:Tab σ v l) (hl:l.length<=100000) (hsm: ∀c∈l,Yy c) (hc:M8 σ c cs) (h: ∀w' σ',Stp w σ w' σ'->K (.bool (Yk l c)) w'):Q0 P F.bG [v, .agg cs.toArray] w K:=Q1S (by
 obtain ⟨lv,fv,mv,rfl,g1,g2,g3,g4,g5⟩:=hc;unfold Hb J1 X6 X8;obtain ⟨a,_,_,_,rfl,_⟩:=ht.ex;refine L6 hs rfl fun q w1 σ1 hk1 hq=>?_;refine Z6 hk1.sat fun q2 w2 σ2 hk2 hq2=>?_;rw[Zl,fa];have hS2:=hk1.trans hk2
 have back: ∀{n:Q9} {w3:World} {σ3:Q2} {K:Value->World->Prop},SLe σ2 σ3->X3 w3 σ3->n.length<=V4->(∀w' σ',Stp w3 σ3 w' σ'->K (.bool ((Qy l n).contains c.name)) w')->
  J6 P (.func (.func F.bk) #[] #[.pointer (some q), .pointer (some q2)]) [S n] w3 K:=by
  intro n w3 σ3 K le hs3 hn hK;refine J8 (Az ?_);unfold Oi;refine Y6 hs3 ((hq.up hk2).lift le) rfl ?_;rw[Zl];have le3:SLe σ σ3:=SLe.more ⟨hS2.le⟩ le;refine X2N (fun d=>decide (d.name=c.name)) hs3 (ht.lift le3) hl hsm hn (fun d ds w4 σ4 K le4 hs4 hr hK=>J8 (Pj ?_)) (by rw[X0k];exact hK)
  obtain ⟨lv,fv,mv,rfl,_⟩:=hr;unfold Lp X6 X1;have hq4:=(hq2.lift le).lift le4;refine Z6 hs4 fun a w5 σ5 hk5 ha5=>?_
  (repeat' (first | (with_reducible intro _) | (with_reducible refine M0 ?_) | (simp only[↓M2,M2,Mb,reduceIte]) | (with_reducible first | refine ld aS aL aR ?_ | refine Y6 aS aL aR ?_ | refine Z3 aS aL aR ?_ | refine Q6 aL ?_ | refine W3 aR ?_ | refine Z6 aS ?_ | refine H9 aS aL ?_ | refine L6 aS aR ?_ | refine Z9 aS aR aR (Rep.one Q8) ?_ | refine W8 aS aR aR aR ?_ | (refine V6 (fun hh=>?_) (fun hh=>?_)<;>(try simp only[hh,Bool.not_true,Bool.not_false,↓M2,M2,Mb,reduceIte])) | (refine Q4 (fun hh=>?_) (fun hh=>?_)<;>(try simp only[hh,Bool.not_true,Bool.not_false,↓M2,M2,Mb,reduceIte])))))
  exact hK _ _ hk5
 refine ld hk2.sat hq2 rfl ?_;unfold Yk at h;simp only[M6,List.any_cons] at h;refine back (SLe.refl _) hk2.sat g5 fun w3 σ3 hk3=>?_;cases e1:(Qy l c.super).contains c.name with
 | true=>
  rw[e1] at h;simp only[↓M2,M2,Mb,reduceIte];exact h _ _ (hS2.trans hk3)
 | false=>
  rw[e1,Bool.false_or] at h;simp only[↓M2,M2,Mb,reduceIte];refine ld hk3.sat (hq2.up hk3) rfl ?_;refine Yc (fun n=>(Qy l n).contains c.name) hk3.sat (((g1.up hk1).up hk2).up hk3) (fun x w4 K _ hs4 hx hK=>back ⟨hk3.le⟩ hs4 hx fun w' σ' hk=>hK _ hk.bel) fun w4 hb=>?_
  (try simp only[↓M2,M2,Mb,reduceIte])
  exact h _ _ ((hS2.trans hk3).trans (Stp.of_below hk3.sat hb)))
end Go.Proofs.Y
namespace Go.Emb
open Go.RowKit Go.Hm
variable {P : Program} {w : World} {K : Value -> World -> Prop} {σ σ' : Q2}
theorem Sl.at {α:Type} {R:Q2->α->List Value->Prop} {sz:Nat} {v:Value} {xs:List α} (h:Sl sz R σ v xs) {i:Nat} (o:i<xs.length):
 ∃p cs,U0 σ p cs/\cs.length=sz/\R σ xs[i] cs/\ ∀{P:Program} {t e:TypeId} {c:Nat} {z:Value} {w:World} {K:Value->World->Prop} [TS P t e] [TZ P e sz c z],K (.pointer (some p)) w->indexAddr P t v (I i) w K:=by
 obtain ⟨a,d,rfl,q,r,k,m⟩:=h;cases a with
 | none=>have:=k rfl;omega
 | some b=>
  obtain ⟨cs,f,g,j⟩:=(m b rfl).2 i xs[i] (by simp[o])
  refine ⟨_,cs,f,g,j,?_⟩;intro P t e c z w K _ _ n;rw[Kz Q5 Q5]
  simpa using n
abbrev ints (xs:List Nat):List Int:=xs.map fun n:Nat=>(n:Int)
theorem W4.grow {α:Type} {R:Q2->α->List Value->Prop} [hr:Rep R] {B sz:Nat} {e:TypeId} {v:Value} {xs:List α} (h:W4 B e sz R σ w v xs) (f:SLe σ σ') (c: ∀k,v.ownBlock=some k->σ' k=none):W4 B e sz R σ' w v xs:=by
 obtain ⟨cells,a,g,b⟩:=h;exact ⟨cells,a,c,fun i x d=>hr.up f.le (b i x d)⟩
end Go.Emb
namespace Go.Proofs.Y
open Go.Emb Go.RowKit Go.Kd Go.Hm
variable {w : World} {K : Value -> World -> Prop} {σ : Q2} {v : Value} {l : List Cla}
theorem X1X {B i:Nat} {xs:List Nat} {x:Value} (o:J7 B T.e 1 O5 σ w x (ints xs)) (h:K (.bool (decide (i∈xs))) w):Q0 P F.aJ [x,I i] w K:=Fy (by
 unfold Ur X2
 have j:xs.length<=9223372036854775807:=by
  obtain ⟨a,r,_,m,p,_⟩:=o;simp only[maxLen,ints,List.length_map] at p m;omega
 refine Pp ?_;unfold Lv J3 V1 X4 X1;refine Rw o ?_;have g:(ints xs).length=xs.length:=by simp
 refine V7 xs.length (fun n w'=>w'=w/\i∉xs.take n) ⟨rfl,by simp⟩ fun n w' d u f=>?_
 obtain ⟨rfl,f⟩:=f;rw[g];refine Y9 ?_;refine Q4 (fun hh=>?_) (fun hh=>?_)
 .have b:n<xs.length:=by simpa using hh
  refine X15 o (by rw[g];exact b) fun a cs m p t=>?_
  obtain ⟨rfl,_⟩:=t;have q:=m 0 _ rfl;rw[add_zero] at q;refine Zk q ?_;simp only[List.getElem_map];refine E7 ?_;refine Q4 (fun c=>?_) (fun c=>?_)
  .have e:(i:Int)=xs[n]:=by simpa using c
   have:i=xs[n]:=by omega
   have k:decide (i∈xs)=true:=decide_eq_true (by rw[this];exact List.getElem_mem b)
   rw[k] at h;refine T2 ?_;rw[decide_eq_true (by omega:(0:Int)<=n)]
   exact h
  .have e: ¬(i:Int)=xs[n]:=by simpa using c
   refine C2 ?_;refine Z4 j b ⟨rfl,?_⟩;rw[List.take_add_one,List.getElem?_eq_getElem b];simp only[Option.toList_some,List.mem_append,List.mem_singleton,not_or];exact ⟨f,fun s=>e (by rw[s])⟩
 .have b: ¬n<xs.length:=by simpa using hh
  rw[List.take_of_length_le Q5] at f;rw[decide_eq_false f] at h;refine T2 ?_;exact h)
theorem X9z {w0:World} {σ0 σb:Q2} {pf pt pw:Addr} {A frm:Nat} (ha:Uo l) (ho:Yr l) (hl:l.length<=100000) (b1: ∀c∈l,Yy c) (hf:0<frm) (ht:Tab σb v l) (a3:U0 σb pf [I frm]) (bz:U0 σb pt [v])
 (b0:U0 σb pw [.func (.func F.a1) #[] #[.pointer (some pf), .pointer (some ⟨A,0,none⟩), .pointer (some pt), .pointer (some pw)]]) (bn:w0.heap.size<=A):
 ∀(k:Nat) {i:Nat} {out:List Nat} {x:Value} {w1:World} {σ1:Q2} {K:Value->World->Prop},i<l.length->(i<frm\/A0 l (J0 l i)<k)->SLe σb σ1->Stp w0 σ0 w1 σ1->Z7 σ1 w1 A [x]->W4 w0.heap.size T.e 1 O5 σ1 w1 x (ints out)->x.ownBlock≠some A->Few l out->
  (∀w2 σ2 x',SLe σ1 σ2->Stp w0 σ0 w2 σ2->Z7 σ2 w2 A [x']->W4 w0.heap.size T.e 1 O5 σ2 w2 x' (ints (Uh l frm out i))->x'.ownBlock≠some A->K (.tuple #[]) w2)->
  J6 P (.func (.func F.a1) #[] #[.pointer (some pf), .pointer (some ⟨A,0,none⟩), .pointer (some pt), .pointer (some pw)]) [I i] w1 K:=by
 obtain ⟨a,lv,r,m,rfl,t1,t2,t3,t4⟩:=ht.ex;intro k
 induction k with
 | zero=>
  intro i out x w1 σ1 K hi hk X N hm f hx Y h;have z:i<frm:=hk.resolve_right Q5;refine J8 (Ou ?_);unfold Je;simp only[Y5,X5];unfold J3 V1 X8 X4 X1;refine Y6 N.sat (a3.lift X) rfl ?_;refine Y9 ?_;rw[decide_eq_true (by omega:(i:Int)<frm)]
  simp only[↓M2,M2,Mb,reduceIte];have:Uh l frm out i=out:=Vg _ _ z;rw[this] at h;exact h _ _ _ (SLe.refl _) N hm f hx
 | succ k ih=>
  intro i out x w1 σ1 K hi hk X N hm f hx Y h;refine J8 (Ou ?_);unfold Je;simp only[Y5,X5];unfold J3 V1 X8 X4 X1;refine Y6 N.sat (a3.lift X) rfl ?_;refine Y9 ?_;have y:=X39 ha ho hf out hi
  by_cases z:i<frm
  .rw[decide_eq_true (by omega:(i:Int)<frm)]
   simp only[↓M2,M2,Mb,reduceIte];rw[if_pos z] at y;rw[y] at h;exact h _ _ _ (SLe.refl _) N hm f hx
  rw[if_neg z] at y;rw[decide_eq_false (by omega: ¬(i:Int)<frm)]
  simp only[↓M2,M2,Mb,reduceIte];refine Q4j hm rfl ?_;refine X1X (J7.of_acc f) ?_
  by_cases U:i∈out
  .rw[if_pos U] at y
   rw[y] at h;simp only[decide_eq_true U,↓M2,M2,Mb,reduceIte];exact h _ _ _ (SLe.refl _) N hm f hx
  rw[if_neg U] at y;simp only[decide_eq_false U,↓M2,M2,Mb,reduceIte];have ct:A0 l (J0 l i)<k+1:=hk.resolve_left z;have t1:=t1.lift X;have t2:=t2.lift X;have t3:=t3.lift X;have M:=bz.lift X;obtain ⟨p,cs,a1,cp,bx,a2⟩:=t2.at hi;obtain ⟨b6,fv,mv,rfl,f1,f2,f3,f4,f5⟩:=bx;have ap:l.getD i Cla.zero=l[i]:=by rw[List.getD_eq_getElem?_getD,List.getElem?_eq_getElem hi];rfl
  have cm:=hm.lt;refine V3 N.sat ?_;refine Y1 (.pointer (some a)) (fun w b=>Y6 b.sat M rfl (Y4 rfl)) ?_;refine Y1 (.pointer (some a)) (fun t w b e=>by rw[e,C0];exact Y4 rfl) ?_
  refine Y1 (.pointer (some (a.add 0))) (fun t w b e=>by rw[e,fa];exact Y4 rfl) ?_
  refine Y1 lv (fun t w b e=>by rw[e];exact ld b.sat t1 rfl (Y4 rfl)) ?_
  refine Y1 (.pointer (some p)) (fun t w b e=>by rw[e];exact a2 (Y4 rfl)) ?_
  refine Y1 (.pointer (some (p.add 1))) (fun t w b e=>by rw[e,fa];exact Y4 rfl) ?_
  refine Y1 (S l[i].super) (fun t w b e=>by rw[e];exact ld b.sat a1 rfl (Y4 rfl)) ?_
  refine F4 (fun u w=>X3 w σ1/\W4 w0.heap.size T.b 1 L1 σ1 w u [l[i].super]/\ ∀k,u.ownBlock=some k->w1.heap.size<=k) (fun u w2 w3 h b=>⟨h.1.below b,h.2.1.up (Stp.of_below h.1 b),h.2.2⟩) (fun t w b e=>?_) ?_
  .rw[e]
   refine Xu (R:=L1) (sz:=1) (xs:=[l[i].super]) (N.trans b.stp) [S l[i].super] rfl rfl (by simp;rfl) rfl ⟨⟨rfl,f5⟩,trivial⟩ fun u w2 aw hu bw=>?_
   exact ⟨aw.bel,aw.sat,hu,fun k hk=>Nat.le_trans b.stp.bel.size (bw k hk)⟩
  refine Y1 (.pointer (some a)) (fun w b=>Y6 b.sat M rfl (Y4 rfl)) ?_;refine Y1 (.pointer (some a)) (fun t w b e=>by rw[e,C0];exact Y4 rfl) ?_
  refine Y1 (.pointer (some (a.add 0))) (fun t w b e=>by rw[e,fa];exact Y4 rfl) ?_
  refine Y1 lv (fun t w b e=>by rw[e];exact ld b.sat t1 rfl (Y4 rfl)) ?_
  refine Y1 (.pointer (some p)) (fun t w b e=>by rw[e];exact a2 (Y4 rfl)) ?_
  refine Y1 (.pointer (some (p.add 2))) (fun t w b e=>by rw[e,fa];exact Y4 rfl) ?_
  refine Y1 b6 (fun t w b e=>by rw[e];exact ld b.sat a1 rfl (Y4 rfl)) ?_
  rintro cy cz c0 c1 c2 c3 c4 c5 c6 c7 c8 c9 da db dc w2 Q _ _ _ _ _ _ _ ⟨cu,b2,L⟩ _ _ _ _ _ _ bf;subst bf;have bg:=N.trans Q.stp;have bp:=(b1 _ (List.getElem_mem hi)).1;have a8: ∀j,x.ownBlock=some j->j<w1.heap.size:=fun j C=>(f.mem j C).2.1;have bq:=hm.step Q.stp;have ab:=f.step Q.stp;refine Vn bg b2 f1 rfl (by simp only[List.length_cons,List.length_nil];omega) (by simp only[List.length_cons,List.length_nil];omega) fun bc w3 az bh b3 aq=>?_
  have Z: ∀j,bc.ownBlock=some j->w1.heap.size<=j:=fun j C=>by
   rcases aq with e | e
   .exact L j (e▸C)
   .exact Nat.le_trans Q.stp.bel.size (e j C)
  have ax:=bq.nx az fun e=>by have:=L _ e;omega
  have E:=ab.nx az fun j C e=>by have:=L _ e;have:=a8 j C;omega
  obtain ⟨σ4,bi,W,ba,aa⟩:=b3.keep bh;have W:Sl 1 L1 σ4 bc (M6 l[i]):=W;have br:Z7 σ4 w3 A [x]:=⟨(aa A fun e=>by have:=Z A e.symm;omega).trans ax.1,ax.2⟩
  have ac:W4 w0.heap.size T.e 1 O5 σ4 w3 x (ints out):=E.grow ⟨ba⟩ fun j C=>(aa j fun e=>by have:=Z j e.symm;have:=a8 j C;omega).trans (E.mem j C).2.2
  have a9:SLe σ1 σ4:=⟨ba⟩;refine Q6 W ?_
  refine V7 (M6 l[i]).length (fun n w'=> ∃σ' x',SLe σ4 σ'/\Stp w0 σ0 w' σ'/\Z7 σ' w' A [x']/\W4 w0.heap.size T.e 1 O5 σ' w' x' (ints (((M6 l[i]).take n).foldl (fun out u=>Uh l frm out ((U2 l u).getD 0)) out))/\x'.ownBlock≠some A/\Few l (((M6 l[i]).take n).foldl (fun out u=>Uh l frm out ((U2 l u).getD 0)) out))
   ⟨σ4,x,SLe.refl _,bi,br,ac,hx,Y⟩ fun n w5 d hn av=>?_
  obtain ⟨σ5,x5,aj,O,V,B,ai,o⟩:=av;refine Y9 ?_;have s:=a9.more aj;refine Q4 (fun hh=>?_) (fun hh=>?_)
  .have J:n<(M6 l[i]).length:=by simpa using hh
   refine X0G (W.lift aj) J fun q hq cr=>?_;refine Y6 O.sat hq rfl ?_
   have e1:((M6 l[i]).take (n+1)).foldl (fun out u=>Uh l frm out ((U2 l u).getD 0)) out=Uh l frm (((M6 l[i]).take n).foldl (fun out u=>Uh l frm out ((U2 l u).getD 0)) out) ((U2 l (M6 l[i])[n]).getD 0):=by
    rw[List.take_add_one,List.getElem?_eq_getElem J,List.foldl_append];rfl
   refine V3 O.sat ?_;refine Y1 _ (fun w b=>Y6 b.sat (b0.lift (X.more s)) rfl (Y4 rfl)) ?_;refine Y1 (.pointer (some a)) (fun w b=>Y6 b.sat (M.lift s) rfl (Y4 rfl)) ?_;refine Y1 (.pointer (some a)) (fun t w b e=>by rw[e,C0];exact Y4 rfl) ?_
   refine Y1 (.pointer (some (a.add 1))) (fun t w b e=>by rw[e,fa];exact Y4 rfl) ?_
   refine Y1 (.map (some r)) (fun t w b e=>by rw[e];exact ld b.sat (t1.lift s) rfl (Y4 rfl)) ?_
   refine Y1 (I ((U2 l (M6 l[i])[n]).getD 0:Nat)) (fun t w b e=>by
    rw[e,Q95 Z5 ((t3.lift s).is b.sat) _,t4];cases U2 l (M6 l[i])[n]<;>exact Y4 rfl) ?_
   rintro dd df dg dh di dj w6 af rfl _ _ _ _ rfl;have co:l.length<=9223372036854775807:=by omega
   refine ih ?_ ?_ (X.more s) (O.trans af.stp) (V.step af.stp) (B.step af.stp) ai o fun w7 σ7 x7 b5 bj bs ad b4=>?_
   .cases C:U2 l (M6 l[i])[n] with
    | none=>simp only[Option.getD_none];omega
    | some j=>exact (K6 C).1
   .cases C:U2 l (M6 l[i])[n] with
    | none=>exact .inl hf
    | some j=>
     right;have:=Q5q ha ho hi (u:=(M6 l[i])[n]) (by rw[ap];exact List.getElem_mem J) C
     simp only[Option.getD_some];omega
   .refine C2 ?_
    refine Z4 (by have:(M6 l[i]).length=l[i].like.length+1:=rfl;omega) J ⟨σ7,x7,aj.more b5,bj,bs,?_,b4,?_⟩
    .rw[e1];exact ad
    .rw[e1]
     cases C:U2 l (M6 l[i])[n] with
     | none=>simp only[Option.getD_none];rw[show Uh l frm _ 0=_ from Vg _ _ hf];exact o
     | some j=>exact Q1M ha ho hf _ _ _ (K6 C).1 o
  .have J: ¬n<(M6 l[i]).length:=by simpa using hh
   rw[List.take_of_length_le Q5] at B o;rw[ap] at y;refine Q4j V rfl ?_;have cn:=o.len;refine Un (x:=(i:Int)) O B ⟨rfl,by omega,by omega⟩ rfl rfl rfl (by rw[List.length_map];omega) (by rw[List.length_map];omega) fun u x8 w8 σ8 a0 bk H ar=>?_
   have ay:=V.nx a0 ai
   have a6:x8.ownBlock≠some A:=fun e=>by
    rcases ar with e2 | e2
    .exact ai (e2▸e)
    .have:=e2 A e;have:=V.lt;omega
   have a7:x8.cells= #[x8]/\x8.oneCell'=true:=by
    obtain ⟨cells,h1,_⟩:=H
    rcases h1.2 with ⟨rfl,_⟩ | ⟨g,ch,ci,rfl,_⟩<;>exact ⟨rfl,rfl⟩
   refine st0 ay V5 a7.1 a7.2 fun w9 a4 bu=>?_;have bl:=a4.stp bk bn ay.1
   have ae:W4 w0.heap.size T.e 1 O5 σ8 w9 x8 (ints (Uh l frm out i)):=by
    rw[y];have:=H.kp (Kpt.of_upd (D:=fun k=>k=A) a4 rfl) fun k hk e=>a6 (e▸hk)
    simpa [ints] using this
   exact h w9 σ8 x8 (s.more a0.le) bl bu ae a6
theorem X8b {frm:Nat} (hs:X3 w σ) (ht:Tab σ v l) (ha:Uo l) (ho:Yr l) (hl:l.length<=100000) (ai: ∀c∈l,Yy c) (hf:0<frm) (ac:frm<=l.length) (h: ∀v' w' σ',Stp w σ w' σ'->Sl 1 O5 σ' v' (ints (O9 l frm))->(O9 l frm).length<=l.length->(∀y∈O9 l frm,y<l.length)->K v' w'):Q0 P F.bH [v,I frm] w K:=Q1T (by
 unfold Hc X6 V1 X4 X1;have aj:=ht;obtain ⟨a,lv,r,m,rfl,t1,t2,t3,t4⟩:=ht.ex;refine L6 hs rfl fun pt w1 σ1 q ah=>?_;refine L6 q.sat rfl fun pf w2 σ2 k ag=>?_;refine E5 k.sat fun B w3 σ3 aa n M=>?_;refine E5 n.sat fun X w4 σ4 ab s O=>?_;rw[Zl];have N:=M.step s;have ax:=M.lt;have H:=((q.trans k).trans n).trans s;have L:w.heap.size<=B:=C7 aa (q.trans k);have t:w.heap.size<=X:=C7 ab ((q.trans k).trans n);refine st0 O (by simp[Value.cells]) rfl rfl fun w5 R ad=>?_
 have Y:=R.stp H t O.1;have u:=N.upd R Q5;obtain ⟨E,J,U,o,V⟩:=ad.keep Y t;have ae:Z7 E w5 B [.slice none 0 0]:=⟨(V B Q5).trans u.1,u.2⟩;have o:SLe σ4 E:=⟨o⟩;have z:=((ag.up n).up s).lift o;have A:=(((ah.up k).up n).up s).lift o;have e:SLe σ E:=SLe.more ⟨H.le⟩ o;have t1:=t1.lift e;have t2:=t2.lift e;refine Y6 J.sat z rfl ?_;have a7:(List.range l.length).length=l.length:=List.length_range;have hz:([Value.nilFunc].set 0 (Value.func (Fn.func F.a1) #[] #[.pointer (some pf), .pointer (some ⟨B,0,none⟩), .pointer (some pt), .pointer (some ⟨X,0,none⟩)]))=[Value.func (Fn.func F.a1) #[] #[.pointer (some pf), .pointer (some ⟨B,0,none⟩), .pointer (some pt), .pointer (some ⟨X,0,none⟩)]]:=rfl
 refine Q1b (fun d x w'=> ∃(i:Nat) (σ':Q2) (x':Value),x=I i/\frm<=i/\i<=l.length/\d=l.length-i/\SLe E σ'/\Stp w σ w' σ'/\Z7 σ' w' B [x']/\W4 w.heap.size T.e 1 O5 σ' w' x' (ints (((List.range i).drop frm).foldl (fun out i=>Uh l frm out i) []))/\x'.ownBlock≠some B/\Few l (((List.range i).drop frm).foldl (fun out i=>Uh l frm out i) [])) _
  ⟨frm,E, .slice none 0 0,rfl,Nat.le_refl _,ac,rfl,SLe.refl _,J,ae,by rw[List.drop_eq_nil_of_le V5];exact W4.nil,by simp[Value.ownBlock],by rw[List.drop_eq_nil_of_le V5];exact ⟨by simp,by simp⟩⟩ ?_
 rintro W d x dd w7 ⟨i,σ7,x7,rfl,a4,a5,rfl,f,g,Q,j,al,b⟩ Z;refine Y6 g.sat (A.lift f) rfl ?_;rw[C0,fa];refine ld g.sat (t1.lift f) rfl ?_;refine Q6 (t2.lift f) ?_;refine Y9 ?_;refine Q4 (fun hh=>?_) (fun hh=>?_)
 .have p:i<l.length:=by simpa using hh
  refine Y6 g.sat (U.lift f) rfl ?_;refine X9z (w0:=w) (σ0:=σ) (σb:=E) ha ho hl ai hf (aj.lift e) z A U L (A0 l (J0 l i)+1) p (.inr (Nat.lt_succ_self _)) f g Q j al b fun w8 σ8 x8 an C af D am=>?_;refine Zm ⟨by omega,by omega⟩ ?_
  have e1:((List.range (i+1)).drop frm).foldl (fun out i=>Uh l frm out i) []=Uh l frm (((List.range i).drop frm).foldl (fun out i=>Uh l frm out i) []) i:=by
   rw[List.range_succ,List.drop_append_of_le_length (by simp;omega),List.foldl_append];rfl
  refine Z _ _ _ (by omega:l.length-(i+1)<l.length-i) ⟨i+1,σ8,x8,by simp,by omega,by omega,rfl,f.more an,C,af,?_,am,?_⟩
  .rw[e1];exact D
  .rw[e1];exact Q1M ha ho hf _ _ _ p b
 .have p:i=l.length:=by
   have: ¬i<l.length:=by simpa using hh
   omega
  subst p;refine Q4j Q rfl ?_;obtain ⟨σ8,C,ak,_,_⟩:=j.keep g;exact h _ _ _ C ak b.len b.2)
end Go.Proofs.Y
namespace Go.Hm
open Go.Kd
theorem X23 (x:Q9) (r:List Q9):G7 (x::r)=x++Lib.joinTail [44] r:=by
 induction r generalizing x with
 | nil=>simp[G7,Lib.joinTail]
 | cons y r a=>
  simp only[G7];rw[a y]
  simp[Lib.joinTail]
theorem Q5R (xs:List Q9):Lib.join xs [44]=G7 xs:=by
 cases xs with
 | nil=>rfl
 | cons x r=>rw[Lib.join_cons,X23]
theorem Ic: ∀xs:List Q9,(∀x∈xs,x.length<=100)->(G7 xs).length<=xs.length*101
 | [],_=>by simp[G7]
 | [a],h=>by have:=h a (by simp);simp[G7];omega
 | a::b::r,h=>by
  have d:=h a (by simp)
  have e:=Ic (b::r) fun x c=>h x (by simp[c])
  simp only[G7,List.length_append,List.length_cons,List.length_nil,Nat.add_mul] at*;omega
def NmM (m:Hm.Met):Prop:=m.result.length<=100/\ ∀p∈m.params,p.length<=100
end Go.Hm
namespace Go.Proofs.Y
open Go.Emb Go.RowKit Go.Kd Go.Hm
variable {w : World} {K : Value -> World -> Prop} {σ : Q2} {v : Value}
theorem X83 {xs:List Q9} {pv:Value} (L:X3 w σ) (M:Sl 1 L1 σ pv xs) (J:xs.length<=1000000) (N: ∀x∈xs,x.length<=100) (h: ∀w',Below w.heap.size w w'->K (S (G7 xs)) w'):Q0 P F.dw [pv,S [44]] w K:=by
 obtain ⟨a,g,rfl,C,R,D,E⟩:=M;have q:=Ic xs N;have z:xs.length*101<=1000000*101:=Nat.mul_le_mul_right _ J;cases a with
 | none=>
  have Q:=D rfl;have d:xs=[]:=List.eq_nil_of_length_eq_zero Q5;subst d;refine Dg (fn:=Tryz.f185) Tryz.func185 X7 X7 (Calls.mono (Tryz.strings_Join_none none g ⟨[44].toArray⟩ w) ?_);rintro e w' ⟨rfl,rfl⟩;exact h _ (Below.refl _ _)
 | some b=>
  obtain ⟨f,t⟩:=E b rfl
  by_cases d:xs=[]
  .subst d
   refine Dg (fn:=Tryz.f185) Tryz.func185 X7 X7 (Calls.mono (Tryz.strings_Join_none (some b) g ⟨[44].toArray⟩ w) ?_);rintro e w' ⟨rfl,rfl⟩;exact h _ (Below.refl _ _)
  have f:=f (List.length_pos_iff.2 d);obtain ⟨m,o,U⟩:=b;simp only at f;subst f
  have c: ∀(j:Nat) (x:ByteArray),(xs.map fun s=>(⟨s.toArray⟩:ByteArray))[j]? =some x->w.cell? ⟨m,o+j,none⟩=some (.string x):=by
   intro j x n;rw[List.getElem?_map] at n;cases k:xs[j]? with
   | none=>rw[k] at n;cases n
   | some s=>
    rw[k] at n;cases n;obtain ⟨cs,A,O,B⟩:=t j s k;obtain ⟨rfl,_⟩:=B;have:=A.cell L (i:=0) (v:=S s) rfl;rw[add_zero] at this;have e:(⟨m,o,none⟩:Addr).add (j*1)=⟨m,o+j,none⟩:=by unfold Addr.add;split<;>simp_all
    rw[e] at this;exact this
  have p:m<w.heap.size:=by
   obtain ⟨x,r,rfl⟩: ∃x r,xs=x::r:=by cases xs with | nil=>exact absurd rfl d | cons x r=>exact ⟨x,r,rfl⟩
   have:=c 0 ⟨x.toArray⟩ V5;exact World.block_lt_of_cell? _ _ this
  have y:(xs.map fun s=>(⟨s.toArray⟩:ByteArray)).map (·.data.toList)=xs:=by rw[List.map_map];simp[Function.comp_def]
  have u:=Tryz.strings_Join m o g (xs.map fun s=>(⟨s.toArray⟩:ByteArray)) ⟨[44].toArray⟩ w c p (by rw[List.length_map];omega) (by rw[List.length_map];exact C) (by rw[y];show (Lib.join xs [44]).length<=_;rw[Q5R];omega)
  rw[y,List.length_map] at u;refine Dg (fn:=Tryz.f185) Tryz.func185 X7 X7 (Calls.mono u ?_);rintro e w' ⟨rfl,H⟩;have:=h w' H;rw[<-Q5R] at this;exact this
theorem X4U {m:Hm.Met} {cs:List Value} (q:X3 w σ) (p:F9 σ m cs) (d:SmM m) (i:NmM m) (h: ∀w' r,Stp w σ w' r->K (S (Jh m)) w'):Q0 P F.cJ [.agg cs.toArray] w K:=X16 (by
 obtain ⟨pv,s,C,rfl,n,u,y,z,A,B⟩:=p;unfold Q3V;simp only[Y5,X5];unfold J9 X1;refine Z6 q fun a w1 σ1 c j=>?_;have o:=Ic m.params i.2;have k:m.params.length*101<=1000000*101:=Nat.mul_le_mul_right _ d.1;refine V3 c.sat ?_;refine Y1 (.pointer (some (a.add 1))) (fun w b=>by rw[fa];exact Y4 rfl) ?_
 refine Y1 (.pointer (some (a.add 2))) (fun w b=>by rw[fa];exact Y4 rfl) ?_
 refine Y1 pv (fun t w b e=>by rw[e];exact ld b.sat j rfl (Y4 rfl)) ?_
 refine Y1 (S (G7 m.params)) (fun t w b e=>by rw[e];exact X83 b.sat (n.up c) d.1 i.2 fun w' f=>Q6S f rfl) ?_
 refine Y1 (S ([40]++G7 m.params)) (fun t w b e=>by rw[e];exact H4 (by simp only[List.length_cons,List.length_nil];omega) (Y4 rfl)) ?_
 refine Y1 (S ([40]++G7 m.params++[41])) (fun t w b e=>by rw[e];exact H4 (by simp only[List.length_append,List.length_cons,List.length_nil];omega) (Y4 rfl)) ?_
 refine Y1 (S m.result) (fun t w b e=>by rw[e];exact ld b.sat j rfl (Y4 rfl)) ?_
 rintro D M E H J L N O g _ _ _ _ _ rfl rfl;have:=i.1;refine H4 (by simp only[List.length_append,List.length_cons,List.length_nil];omega) ?_
 exact h _ _ (c.trans g.stp))
end Go.Proofs.Y
namespace Go.Emb
open Go.RowKit Go.Hm
variable {P : Program} {w w' : World} {K : Value -> World -> Prop}
theorem Q1f {α:Type} (f:α->α) (e:α): ∀l:List α,(l++[e]).modify l.length f=l++[f e]
 | []=>rfl
 | x::r=>by simp[Q1f f e r]
theorem Q3T (k:List UInt8) (e:MapEntry) (b:e.key=S k): ∀(a:List MapEntry) (i:Nat),Instr.findNow .string (S k) a i=some none->Instr.findNow .string (S k) (a++[e]) i=some (some (i+a.length,e.val))
 | [],i,_=>by
  simp[Instr.findNow,b,Instr.sameNow,Bo]
 | x::r,i,h=>by
  simp only[Instr.findNow,List.cons_append] at h⊢
  split at h
  .cases h
  .rename_i c
   rw[Q3T k e b r (i+1) h]
   simp;omega
  .cases h
theorem Q5V (k:List UInt8) (u:Value): ∀(a:List MapEntry) (i j:Nat) (v:Value),Instr.findNow .string (S k) a i=some (some (j,v))->i<=j/\j-i<a.length/\Instr.findNow .string (S k) (a.modify (j-i) fun e=>{e with val:=u}) i=some (some (j,u))
 | [],i,j,v,h=>by simp[Instr.findNow] at h
 | x::r,i,j,v,h=>by
  simp only[Instr.findNow] at h
  split at h
  .rename_i b
   cases h;refine ⟨Nat.le_refl _,by simp,?_⟩
   simp only[Nat.sub_self,List.modify_zero_cons,Instr.findNow,b]
  .rename_i b
   obtain ⟨d,f,c⟩:=Q5V k u r (i+1) j v h;refine ⟨by omega,by simp;omega,?_⟩
   rw[show j-i=(j-(i+1))+1 by omega]
   simp only[List.modify_succ_cons,Instr.findNow,b];exact c
  .cases h
theorem Nz {t p q:TypeId} [tm:TM P t p q] (n:P.underlying p=some .string) {r:Nat} {b:Array MapEntry} {a:Nat} {k:List UInt8} {i:Nat} {v:Value} {e:MapEntry} (o:w.heap[r]? =some (.map b a))
 (s:Instr.findNow .string (S k) b.toList 0=some (some (i,v))) (m:b[i]? =some e) (d:e.key=S k):
 (Instr.mapEntry t (.map (some r)) (S k)).run P w= .ok (.tuple #[v,goInt e.born]) {w with heap:=w.heap.setIfInBounds r (.map b a)}:=by
 have u:(getObj r).run P w= .ok (.map b a) w:=by simp[getObj,Sem.run,o]
 have c:(Instr.keyThatStays (S k) (S k)).run P w= .ok (S k) w:=by
  simp[Instr.keyThatStays,Instr.sameBits,Bo]
 have g:(b.modify i fun e=>{e with key:=S k})=b:=by
  apply Array.ext';apply List.ext_getElem?;intro j;simp only[Array.toList_modify,List.getElem?_modify]
  by_cases f:i=j
  .subst f
   rw[Array.getElem?_toList,m]
   simp[<-d]
  .cases b.toList[j]? <;>simp[f]
 have l:(setObj r (.map b a)).run P w= .ok () {w with heap:=w.heap.setIfInBounds r (.map b a)}:=by
  simp[setObj,Sem.run,o]
 simp only[Instr.mapEntry,Sem.run_bind,run_underlying tm.h,Result.andThen_ok,Instr.findKey,run_underlying n,s,Xm n,u,Sem.run_pure];simp only[m,Option.map_some,Option.getD_some,d,c,Result.andThen_ok,g,l]
theorem Q6G {r:Nat} {o:Obj} (h:w.heap[r]? =some o):({w with heap:=w.heap.setIfInBounds r o}:World)=w:=by
 have:w.heap.setIfInBounds r o=w.heap:=by
  apply Array.ext';apply List.ext_getElem?;intro j;simp only[Array.toList_setIfInBounds,List.getElem?_set]
  by_cases a:r=j
  .subst a
   rw[if_pos rfl];have:=h;rw[<-Array.getElem?_toList] at this;rw[this,if_pos (by have:=(Array.getElem?_eq_some_iff.1 h).1;simpa using this)]
  .rw[if_neg a]
 rw[this]
theorem Q8z {r:Nat} {o b:Obj} (h:w.heap[r]? =some b):Upd w r {w with heap:=w.heap.setIfInBounds r o}/\({w with heap:=w.heap.setIfInBounds r o}:World).heap[r]? =some o:=by
 have a:=(Array.getElem?_eq_some_iff.1 h).1;exact ⟨⟨rfl,rfl,rfl,by simp,fun k c=>by simp only[Array.getElem?_setIfInBounds];rw[if_neg Q5]⟩,by simp[Array.getElem?_setIfInBounds,a]⟩
structure Ent3 (P : Program) (t : TypeId) (r : Nat) (k : List UInt8) (u : Value) (m : List (List UInt8 × Value)) (O0 O1 O2 : Obj) (stamp : Nat) : Prop where
  same : O0 = O2 -> O1 = O0
  put : G0 (some O2) (putS m k u)
  entry : ∀ {w : World} {K : Value -> World -> Prop}, (w.heap[r]? = some O0 \/ w.heap[r]? = some O1 \/ w.heap[r]? = some O2) -> (∀ x w', Upd w r w' -> (w.heap[r]? = some O0 -> w'.heap[r]? = some O1) -> (w.heap[r]? ≠ some O0 -> w'.heap[r]? = w.heap[r]?) -> K (.tuple #[x, I stamp]) w') -> mapEntry P t (.map (some r)) (S k) w K
  store : ∀ {w : World} {K : Value -> World -> Prop}, (w.heap[r]? = some O1 \/ w.heap[r]? = some O2) -> (∀ w', Upd w r w' -> w'.heap[r]? = some O2 -> K undef w') -> entryStore P t (.map (some r)) (I stamp) u w K
theorem Y1q {t kt et:TypeId} {ag:Nat} {z:Value} [tm:TM P t kt et] [tz:TZ P et 1 ag z] (X:P.underlying kt=some .string) {r:Nat} {m:List (List UInt8×Value)} (hm:G0 (w.heap[r]?) m) (k:List UInt8) (u:Value):
 ∃O O1 O2 A,w.heap[r]? =some O/\Ent3 P t r k u m O O1 O2 A:=by
 obtain ⟨q,g,h1,h2,Z,h4⟩:=hm;obtain ⟨r',q1,q2,q3,q4⟩:=Ts k q.toList m 0 h2
 -- the array behind it, the place, the stamp
 have R: ∀(f:Array MapEntry) (d i:Nat) (s:MapEntry) (v1:Value),Instr.findNow .string (S k) f.toList 0=some (some (i,v1))->f[i]? =some s->s.key=S k->(f.toList.map (·.born)).Pairwise (· < ·)->
  (Obj.map q g= .map (f.modify i fun e=>{e with val:=u}) d->Obj.map f d=Obj.map q g)->G0 (some (.map (f.modify i fun e=>{e with val:=u}) d)) (putS m k u)->
  (∀{w:World},w.heap[r]? =some (.map q g)-> ∃x,(Instr.mapEntry t (.map (some r)) (S k)).run P w= .ok (.tuple #[x,I s.born]) {w with heap:=w.heap.setIfInBounds r (.map f d)})->
  ∃O O1 O2 A,w.heap[r]? =some O/\Ent3 P t r k u m O O1 O2 A:=by
  intro f d i s v1 f1 f2 f3 f4 f5 f6 f7;obtain ⟨_,J,f8⟩:=Q5V k u f.toList 0 i v1 f1;simp only[Nat.sub_zero] at J f8;have a4:i<f.size:=by simpa using J
  have f9:(f.modify i fun e=>{e with val:=u})[i]? =some {s with val:=u}:=by
   rw[Array.getElem?_modify,if_pos rfl,f2];rfl
  have aj:Instr.findNow .string (S k) (f.modify i fun e=>{e with val:=u}).toList 0=some (some (i,u)):=by
   rw[Array.toList_modify];exact f8
  have L: ∀(l:Array MapEntry),l.toList.map (·.born)=f.toList.map (·.born)->l.findIdx? (fun e=>(e.born:Int)==s.born)=some i:=by
   intro l D;obtain ⟨le⟩:=l;have e0:(Array.mk le).findIdx? (fun e=>(e.born:Int)==s.born)=le.findIdx? (fun e=>(e.born:Int)==s.born):=List.findIdx?_toArray ..;rw[e0,List.findIdx?_eq_some_iff_getElem];generalize W:(Array.mk le)=l at*;have ao:le=l.toList:=by rw[<-W]
   subst ao;have a5:l.toList.length=f.toList.length:=by have:=congrArg List.length D;simpa using this
   have U: ∀j (hj:j<l.toList.length),(l.toList[j]).born=(f.toList[j]'(by omega)).born:=fun j hj=>by
    have h5:(l.toList.map (·.born))[j]? =(f.toList.map (·.born))[j]? :=by rw[D]
    rw[List.getElem?_map,List.getElem?_map,List.getElem?_eq_getElem hj,List.getElem?_eq_getElem Q5] at h5
    simpa using h5
   have V:f.toList[i]=s:=by
    have:=f2;rw[<-Array.getElem?_toList,List.getElem?_eq_getElem J] at this
    simpa using this
   refine ⟨by omega,by rw[U i Q5,V];simp,fun j hj=>?_⟩
   have an:j<f.toList.length:=by omega
   have:=(List.pairwise_iff_getElem.1 f4) j i (by simpa using an) (by simpa using J) hj
   simp only[List.getElem_map] at this;rw[U j Q5];rw[V] at this;simp only[beq_iff_eq];omega
  have H:(f.modify i fun e=>{e with val:=u}).toList.map (·.born)=f.toList.map (·.born):=by
   apply List.ext_getElem?;intro j;simp only[Array.toList_modify,List.getElem?_map,List.getElem?_modify]
   by_cases M:i=j<;>cases f.toList[j]? <;>simp[M]
  have ap:(f.modify i fun e=>{e with val:=u}).modify i (fun e=>{e with val:=u})=f.modify i fun e=>{e with val:=u}:=by
   apply Array.ext';apply List.ext_getElem?;intro j;simp only[Array.toList_modify,List.getElem?_modify]
   by_cases M:i=j<;>cases f.toList[j]? <;>simp[M]
  have B: ∀(l:Array MapEntry) {w:World},l.toList.map (·.born)=f.toList.map (·.born)->w.heap[r]? =some (.map l d)->(Instr.entryStore t (.map (some r)) (I s.born) u).run P w= .ok () {w with heap:=w.heap.setIfInBounds r (.map (l.modify i fun e=>{e with val:=u}) d)}:=by
   intro l w D hw;have hg:(getObj r).run P w= .ok (.map l d) w:=by simp[getObj,Sem.run,hw]
   have E: ∀o,(setObj r (.map o d)).run P w= .ok () {w with heap:=w.heap.setIfInBounds r (.map o d)}:=by
    intro o;simp[setObj,Sem.run,hw]
   simp only[Instr.entryStore,Sem.run_bind,hg,Result.andThen_ok,asInt,Sem.run_pure,asIntOf,L l D,E]
  refine ⟨.map q g, .map f d, .map (f.modify i fun e=>{e with val:=u}) d,s.born,h1,f5,f6,?_,?_⟩
  .intro w K hw N
   unfold mapEntry
   rcases hw with hw | hw | hw
   .obtain ⟨x,hx⟩:=f7 hw
    rw[Y8 hx];obtain ⟨u1,u2⟩:=Q8z (o:= .map f d) hw;exact N x _ u1 (fun _=>u2) fun h=>absurd hw h
   .have:=Nz (P:=P) (t:=t) X hw f1 f2 f3
    rw[Q6G hw] at this;rw[Y8 this];refine N _ w ⟨rfl,rfl,rfl,rfl,fun _ _=>rfl⟩ (fun h0=>?_) fun _=>rfl;exact hw
   .have:=Nz (P:=P) (t:=t) X hw aj f9 f3
    rw[Q6G hw] at this;rw[Y8 this];refine N _ w ⟨rfl,rfl,rfl,rfl,fun _ _=>rfl⟩ (fun h0=>?_) fun _=>rfl;rw[h0] at hw;cases hw;rw[h0,f5 rfl]
  .intro w K hw N
   unfold entryStore
   rcases hw with hw | hw
   .rw[Wg (B f rfl hw)]
    obtain ⟨u1,u2⟩:=Q8z (o:= .map (f.modify i fun e=>{e with val:=u}) d) hw
    exact N _ u1 u2
   .have:=B _ H hw
    rw[ap,Q6G hw] at this;rw[Wg this];exact N _ ⟨rfl,rfl,rfl,rfl,fun _ _=>rfl⟩ hw
 cases r' with
 | none=>
  obtain ⟨i,hi,bg,be,ar⟩:=tz.info;have hz: ∀w:World,(zeroValue et).run P w= .ok z w:=fun w=>Yu tz w;refine R (q.push {key:=S k,val:=z,born:=g}) (g+1) q.size {key:=S k,val:=z,born:=g} z ?_ V5 rfl ?_ ?_ ?_ ?_
  .have:=Q3T k {key:=S k,val:=z,born:=g} rfl q.toList 0 q1
   simpa using this
  .simp only[Array.toList_push,List.map_append,List.map_cons,List.map_nil]
   rw[List.pairwise_append];refine ⟨Z,by simp,?_⟩
   intro a ha b D
   simp at D;subst D
   obtain ⟨e,he,rfl⟩:=List.mem_map.1 ha;exact h4 e he
  .intro e
   injection e with s Y
   omega
  .refine ⟨_,_,rfl,?_,?_,?_⟩
   .rw[q4 rfl]
    simp only[Array.toList_modify,Array.toList_push];rw[<-Array.length_toList,Q1f]
    simp[h2]
   .have:((q.push {key:=S k,val:=z,born:=g}).modify q.size fun e=>{e with val:=u}).toList.map (·.born)=q.toList.map (·.born)++[g]:=by
     simp only[Array.toList_modify,Array.toList_push];rw[<-Array.length_toList,Q1f]
     simp
    rw[this,List.pairwise_append];refine ⟨Z,by simp,?_⟩
    intro a ha b D
    simp at D;subst D
    obtain ⟨e,he,rfl⟩:=List.mem_map.1 ha;exact h4 e he
   .intro e he
    simp only[Array.toList_modify,Array.toList_push] at he;rw[<-Array.length_toList,Q1f] at he
    rcases List.mem_append.1 he with he | he
    .have:=h4 e he;omega
    .simp at he;subst he;simp
  .intro w hw
   have hg:(getObj r).run P w= .ok (.map q g) w:=by simp[getObj,Sem.run,hw]
   have E: ∀o c,(setObj r (.map o c)).run P w= .ok () {w with heap:=w.heap.setIfInBounds r (.map o c)}:=by
    intro o c;simp[setObj,Sem.run,hw]
   refine ⟨z,?_⟩;simp only[Instr.mapEntry,Sem.run_bind,run_underlying tm.h,Result.andThen_ok,Instr.findKey,run_underlying X,q1,Xm X,hg,Sem.run_pure,hz,E];rfl
 | some p=>
  obtain ⟨j,v⟩:=p;obtain ⟨z1,z2,z3⟩:=q3 j v rfl;obtain ⟨e,s,Y⟩:=z2;simp only[Nat.sub_zero] at s z3;have Q:q[j]? =some e:=by rw[<-Array.getElem?_toList];exact s
  refine R q g j e v q1 Q Y Z (fun _=>rfl) ?_ fun hw=>⟨v,Nz X hw q1 Q Y⟩;refine ⟨_,_,rfl,?_,?_,?_⟩
  .have:=z3 u
   rw[<-this,Array.toList_modify]
   congr 1
   apply List.ext_getElem?;intro n;simp only[List.getElem?_modify]
   by_cases C:j=n
   .subst C;rw[s];simp[Y]
   .simp[C]
  .have:(q.modify j fun e=>{e with val:=u}).toList.map (·.born)=q.toList.map (·.born):=by
    apply List.ext_getElem?;intro n;simp only[Array.toList_modify,List.getElem?_map,List.getElem?_modify]
    by_cases C:j=n<;>cases q.toList[n]? <;>simp[C]
   rw[this];exact Z
  .intro x hx
   have:x.born∈(q.modify j fun e=>{e with val:=u}).toList.map (·.born):=List.mem_map.2 ⟨x,hx,rfl⟩
   have D:(q.modify j fun e=>{e with val:=u}).toList.map (·.born)=q.toList.map (·.born):=by
    apply List.ext_getElem?;intro n;simp only[Array.toList_modify,List.getElem?_map,List.getElem?_modify]
    by_cases C:j=n<;>cases q.toList[n]? <;>simp[C]
   rw[D] at this;obtain ⟨y,hy,e⟩:=List.mem_map.1 this;rw[<-e];exact h4 y hy
end Go.Emb
namespace Go.Hm
open Go.Kd Go.Emb
abbrev T7:=List (Q9×Q9)
def P9:T7->Q9->Option Q9
 | [],_=>none
 | p::r,k=>if p.1=k then some p.2 else P9 r k
def Pi:T7->Q9->Q9->T7
 | [],k,v=>[(k,v)]
 | p::r,k,v=>if p.1=k then (k,v)::r else p::Pi r k v
def vals (m:T7):List (List UInt8×Value):=m.map fun p=>(p.1,S p.2)
theorem X5w (m:T7) (k:Q9):T0 (vals m) k=(P9 m k).map S:=by
 induction m with
 | nil=>rfl
 | cons p r a=>
  simp only[vals,List.map_cons,T0,P9]
  split
  .rfl
  .exact a
theorem X13 (m:T7) (k v:Q9):putS (vals m) k (S v)=vals (Pi m k v):=by
 induction m with
 | nil=>rfl
 | cons p r a=>
  simp only[vals,List.map_cons,putS,Pi]
  split
  .rfl
  .rw[List.map_cons];congr 1
theorem Q4l (m:T7) (k v n:Q9):P9 (Pi m k v) n=if k=n then some v else P9 m n:=by
 induction m with
 | nil=>simp[Pi,P9]
 | cons p r b=>
  simp only[Pi]
  by_cases h:p.1=k
  .rw[if_pos h]
   simp only[P9]
   by_cases a:k=n
   .simp[a]
   .rw[if_neg a,if_neg a,if_neg (by rw[h];exact a)]
  .rw[if_neg h]
   simp only[P9]
   by_cases a:p.1=n
   .rw[if_pos a,if_pos a,if_neg (by intro e;exact h (a.trans e.symm))]
   .rw[if_neg a,if_neg a];exact b
def Oa (d:Q9) (s:T7×T7) (m:Hm.Met):Bool×(T7×T7):=
 ((match P9 s.1 m.name with | some x=> !decide (x=Jh m) | none=>false),(Pi s.1 m.name (Jh m),Pi s.2 m.name d))
end Go.Hm
namespace Go.Emb
open Go.RowKit Go.Hm
theorem G0.of_below {w w':World} {r:Nat} {m:List (List UInt8×Value)} (h:G0 (w.heap[r]?) m) (e:Below w.heap.size w w'):G0 (w'.heap[r]?) m:=by
 obtain ⟨c,a,b,d⟩:=h;rw[e.block r (Array.getElem?_eq_some_iff.1 b).1];exact ⟨c,a,b,d⟩
theorem X6e {P:Program} {w:World} {K:Value->World->Prop} {t c b:TypeId} {sz a:Nat} {z:Value} [tm:TM P t c b] [tz:TZ P b sz a z] (d:P.underlying c=some .string) {r:Nat} {m:List (List UInt8×Value)} (f:G0 (w.heap[r]?) m) (k:List UInt8)
 (h:K (.tuple #[(T0 m k).getD z, .bool (T0 m k).isSome]) w):lookup P t (.map (some r)) (S k) true w K:=by
 rw[Q6u d f k];cases e:T0 m k<;>rw[e] at h<;>exact h
theorem G0.lt {w:World} {r:Nat} {m:List (List UInt8×Value)} (h:G0 (w.heap[r]?) m):r<w.heap.size:=by
 obtain ⟨c,a,b,d⟩:=h;exact (Array.getElem?_eq_some_iff.1 b).1
end Go.Emb
namespace Go.Proofs.Y
open Go.Emb Go.RowKit Go.Kd Go.Hm
variable {w : World} {K : Value -> World -> Prop} {σ : Q2}
theorem Y14 {m:Hm.Met} {cs ds:List Value} {pa pb q:Addr} {b o:Nat} {s:T7×T7} {d:Q9} (hs:X3 w σ) (hm:F9 σ m cs) (ab:SmM m) (hn:NmM m) (Y:U0 σ pa [.map (some b)]) (aq:U0 σ pb [.map (some o)]) (hq:U0 σ q (S d::ds))
 (ar:σ b=none) (av:σ o=none) (X:b≠o) (p:G0 (w.heap[b]?) (vals s.1)) (y:G0 (w.heap[o]?) (vals s.2))
 (h: ∀w',Kpt (fun k=>k=b\/k=o) w w'->G0 (w'.heap[b]?) (vals (Oa d s m).2.1)->G0 (w'.heap[o]?) (vals (Oa d s m).2.2)->K (.bool (Oa d s m).1) w'):
 Q0 P F.aL [.agg cs.toArray, .pointer (some pa), .pointer (some q), .pointer (some pb)] w K:=Gj (by
 have W:=hm;obtain ⟨pv,cv,hv,rfl,g1,g2,g3,g4,g5,g6⟩:=hm;unfold Vr;simp only[Y5,X5,N2,Jn,D0];unfold X6 X8 X1;refine Z6 hs fun a w1 σ1 f U=>?_;have am:=p.lt;have an:=y.lt;have p:=p.of_below f.bel;have y:=y.of_below f.bel;have Z:σ1 b=none:=(f.old b am).trans ar;have J:σ1 o=none:=(f.old o an).trans av;refine Y6 f.sat (Y.up f) rfl ?_;rw[fa];refine ld f.sat U rfl ?_;refine X6e Z5 p m.name ?_
 have ao:(.tuple #[(T0 (vals s.1) m.name).getD (.string ⟨#[]⟩), .bool (T0 (vals s.1) m.name).isSome]:Value)= .tuple #[S ((P9 s.1 m.name).getD []), .bool (P9 s.1 m.name).isSome]:=by
  rw[X5w];cases P9 s.1 m.name<;>rfl
 rw[ao];refine J5 (vs:=[_,_]) rfl ?_;refine J5 (vs:=[_,_]) rfl ?_;obtain ⟨L,M,r,A,af,E⟩:=Y1q (P:=P) (t:=T.a0) Z5 p m.name (S (Jh m));have V:=p.lt
 refine Q13 (fun c i=>Kpt (fun k=>k=b) c i/\(i.heap[b]? =c.heap[b]? \/(c.heap[b]? =some L/\L≠r/\i.heap[b]? =some M)\/i.heap[b]? =some r))
  (fun c=>Kpt (fun k=>k=b) w1 c/\X3 c σ1/\(c.heap[b]? =some L\/c.heap[b]? =some M\/c.heap[b]? =some r))
  ⟨.of_below (Below.refl _ _).drew,f.sat.below (Below.refl _ _).drew, .inl af⟩ (fun c i g C=>⟨g.1.trans C.1,C.1.sat g.2.1 (fun k hk=>hk▸Z),by
   rcases C.2 with e | ⟨_,_,e⟩ | e
   .rw[e];exact g.2.2
   .exact .inr (.inl e)
   .exact .inr (.inr e)⟩) ?_
 refine Y1 (.pointer (some (a.add 0))) (fun w g=>by rw[fa];exact ⟨⟨Kpt.refl, .inl rfl⟩,rfl⟩) ?_
 refine Y1 (.pointer (some (a.add 0))) (fun w g=>by rw[fa];exact ⟨⟨Kpt.refl, .inl rfl⟩,rfl⟩) ?_
 refine Y1 (.pointer (some (q.add 0))) (fun w g=>by rw[fa];exact ⟨⟨Kpt.refl, .inl rfl⟩,rfl⟩) ?_
 refine Y1 (.map (some b)) (fun w g=>Y6 g.2.1 (Y.up f) rfl ⟨⟨Kpt.refl, .inl rfl⟩,rfl⟩) ?_;refine Y1 (S m.name) (fun t w g e=>by rw[e];exact ld g.2.1 U rfl ⟨⟨Kpt.refl, .inl rfl⟩,rfl⟩) ?_
 refine Y1 (.map (some o)) (fun w g=>Y6 g.2.1 (aq.up f) rfl ⟨⟨Kpt.refl, .inl rfl⟩,rfl⟩) ?_;refine Y1 (S m.name) (fun t w g e=>by rw[e];exact ld g.2.1 U rfl ⟨⟨Kpt.refl, .inl rfl⟩,rfl⟩) ?_
 refine Y1 (.agg [S m.name,pv,S m.result, .bool m.abs,I m.locals,cv,hv].toArray) (fun w g=>Z3 g.2.1 U rfl ⟨⟨Kpt.refl, .inl rfl⟩,rfl⟩) ?_
 refine Y1 (S (Jh m)) (fun t c g e=>by
  rw[e];exact X4U g.2.1 (RMe_lift W ⟨f.le⟩) ab hn fun i σ3 z=>⟨⟨.of_below z.bel, .inl (z.bel.block b (Nat.lt_of_lt_of_le V g.1.size))⟩,rfl⟩) ?_
 refine Y1 (S d) (fun t w g e=>by rw[e];exact ld g.2.1 (hq.up f) rfl ⟨⟨Kpt.refl, .inl rfl⟩,rfl⟩) ?_
 have st: ∀{c i:World},(c.heap[b]? =some M\/c.heap[b]? =some r)->(i.heap[b]? =c.heap[b]? \/(c.heap[b]? =some L/\L≠r/\i.heap[b]? =some M)\/i.heap[b]? =some r)->(i.heap[b]? =some M\/i.heap[b]? =some r):=by
  intro c i j h2
  rcases h2 with e | ⟨_,_,e⟩ | e
  .rw[e];exact j
  .exact .inl e
  .exact .inr e
 refine F4 (fun u c=>(∃x,u= .tuple #[x,I A])/\(c.heap[b]? =some M\/c.heap[b]? =some r)) (fun u c i j C=>⟨j.1,st j.2 C.2⟩) (fun ac aw c g e1 e2=>?_) ?_
 .rw[e1,e2]
  refine E.entry g.2.2 fun x i n aj ak=>?_
  by_cases Q:c.heap[b]? =some L
  .have j:=aj Q
   refine ⟨⟨Kpt.of_upd n rfl,?_⟩,⟨x,rfl⟩, .inl j⟩
   by_cases B:L=r
   .left;rw[j,Q,E.same B]
   .exact .inr (.inl ⟨Q,B,j⟩)
  .have j:=ak Q
   refine ⟨⟨Kpt.of_upd n rfl, .inl j⟩,⟨x,rfl⟩,?_⟩;rw[j];exact g.2.2.resolve_left Q
 refine F4 (fun u c=>u=I A/\(c.heap[b]? =some M\/c.heap[b]? =some r)) (fun u c i j C=>⟨j.1,st j.2 C.2⟩) (fun t c g e=>?_) ?_
 .obtain ⟨⟨x,rfl⟩,j⟩:=e
  exact J5 (vs:=[_,_]) rfl ⟨⟨Kpt.refl, .inl rfl⟩,rfl,j⟩
 refine F4 (fun _ c=>c.heap[b]? =some r) (fun u c i j C=>?_) (fun ac ay ax c g e1 e2 e3=>?_) ?_
 .rcases C.2 with e | ⟨e,B,_⟩ | e
  .exact e.trans j
  .rw[j] at e;cases e;exact absurd rfl B
  .exact e
 .rw[e1,e3,e2.1]
  refine E.store e2.2 fun i n h3=>⟨⟨Kpt.of_upd n rfl, .inr (.inr h3)⟩,h3⟩
 rintro bb bd bg ac aw bc be bf ax bh bi ay bj c N _ _ _ _ _ rfl rfl _ _ rfl _ _ ag
 have ah:G0 (c.heap[b]?) (vals (Pi s.1 m.name (Jh m))):=by
  rw[ag,<-X13];exact E.put
 have ai:G0 (c.heap[o]?) (vals s.2):=by
  rw[N.1.block o y.lt fun e=>X e.symm];exact y
 refine Q1e Z5 ⟨J,ai⟩ m.name (S d) fun i n ap=>?_;have R:G0 (i.heap[o]?) (vals (Pi s.2 m.name d)):=by rw[<-X13];exact ap.2
 have H:G0 (i.heap[b]?) (vals (Pi s.1 m.name (Jh m))):=by rw[n.block b X];exact ah
 have z:Kpt (fun k=>k=b\/k=o) w i:=((Kpt.of_below f.bel).trans (N.1.mono fun k _ h=> .inl h)).trans (Kpt.of_upd n (.inr rfl));have aa:X3 i σ1:=(Kpt.of_upd (D:=fun k=>k=o) n rfl).sat N.2.1 fun k hk=>hk▸J;unfold Oa at h;cases ho:P9 s.1 m.name with
 | none=>
  rw[ho] at h;simp only[Option.isSome_none,↓M2,M2,Mb,reduceIte];exact h i z H R
 | some x=>
  rw[ho] at h;simp only[Option.isSome_some,Option.getD_some,↓M2,M2,Mb,reduceIte];refine Z3 aa U rfl ?_;refine X4U aa (RMe_lift W ⟨f.le⟩) ab hn fun w4 σ4 O=>?_;simp only[↓M2,M2,Mb,reduceIte];exact h w4 (z.trans (Kpt.of_below O.bel)) (H.of_below O.bel) (R.of_below O.bel))
end Go.Proofs.Y
namespace Go.Hm
open Go.Kd Go.Emb
def Ta (s:T7×T7) (c:Cla):Bool×(T7×T7):=((W1 (Oa c.name) s c.methods 0).1.isSome,(W1 (Oa c.name) s c.methods 0).2)
def Ia (a:List Hm.Met):Prop:= ∃x∈a,∃y∈a,x.name=y.name/\Jh x≠Jh y
theorem Q9d (a:List Hm.Met):Rt a=true↔Ia a:=by
 simp[Rt,Ia]
structure Gd (pre : List Hm.Met) (s : T7 × T7) : Prop where
  a : ∀ m ∈ pre, P9 s.1 m.name = some (Jh m)
  b : ∀ k x, P9 s.1 k = some x -> ∃ m ∈ pre, m.name = k /\ Jh m = x
  c : ∀ k, (P9 s.2 k).isSome = true ↔ ∃ m ∈ pre, m.name = k
theorem Gd.no {b:List Hm.Met} {s:T7×T7} (h:Gd b s): ¬Ia b:=by
 rintro ⟨x,g,y,i,d,e⟩;have c:=h.a x g;have f:=h.a y i;rw[d,f] at c;exact e (Option.some.inj c).symm
theorem Gd.step {n:List Hm.Met} {s:T7×T7} (h:Gd n s) (d:Q9) (m:Hm.Met):((Oa d s m).1=true->Ia (n++[m]))/\((Oa d s m).1=false->Gd (n++[m]) (Oa d s m).2):=by
 unfold Oa;constructor
 .intro g
  cases o:P9 s.1 m.name with
  | none=>rw[o] at g;cases g
  | some x=>
   rw[o] at g;obtain ⟨y,hy,f,p⟩:=h.b _ _ o;exact ⟨y,by simp[hy],m,by simp,f,by rw[p];simpa using g⟩
 .intro g
  have i: ∀x,P9 s.1 m.name=some x->x=Jh m:=fun x j=>by rw[j] at g;simpa using g
  refine ⟨fun y hy=>?_,fun k x j=>?_,fun k=>?_⟩
  .simp only[Q4l]
   rcases List.mem_append.1 hy with hy | hy
   .have:=h.a y hy
    by_cases e:m.name=y.name
    .rw[if_pos e];congr 1;exact (i _ (by rw[e];exact this)).symm
    .rw[if_neg e];exact this
   .simp at hy;subst hy;simp
  .simp only[Q4l] at j
   by_cases e:m.name=k
   .rw[if_pos e] at j;cases j;exact ⟨m,by simp,e,rfl⟩
   .rw[if_neg e] at j
    obtain ⟨y,hy,f⟩:=h.b _ _ j;exact ⟨y,by simp[hy],f⟩
  .simp only[Q4l]
   by_cases e:m.name=k
   .rw[if_pos e];exact ⟨fun _=>⟨m,by simp,e⟩,fun _=>rfl⟩
   .rw[if_neg e,h.c k]
    constructor
    .rintro ⟨y,hy,f⟩;exact ⟨y,by simp[hy],f⟩
    .rintro ⟨y,hy,f⟩
     rcases List.mem_append.1 hy with hy | hy
     .exact ⟨y,hy,f⟩
     .simp at hy;subst hy;exact absurd f e
theorem Ia.mono {a b:List Hm.Met} (h:Ia a) (c: ∀x∈a,x∈b):Ia b:=by
 obtain ⟨x,d,y,f,e⟩:=h;exact ⟨x,c x d,y,c y f,e⟩
theorem Q7F (d:Q9): ∀(b a:List Hm.Met) (s:T7×T7) (i:Nat),Gd a s->((W1 (Oa d) s b i).1.isSome=true->Ia (a++b))/\((W1 (Oa d) s b i).1.isSome=false->Gd (a++b) (W1 (Oa d) s b i).2)
 | [],a,s,i,h=>by simpa [W1] using h
 | m::r,a,s,i,h=>by
  obtain ⟨g,j⟩:=h.step d m;simp only[W1];cases c:(Oa d s m).1 with
  | true=>
   simp only[if_true,Option.isSome_some];exact ⟨fun _=>(g c).mono fun x f=>by simp at f⊢;rcases f with h | h<;>simp[h],fun e=>by cases e⟩
  | false=>
   simp only[Bool.false_eq_true,if_false];have:=Q7F d r (a++[m]) (Oa d s m).2 (i+1) (j c);rw[show a++m::r=(a++[m])++r by simp]
   exact this
theorem Q7E: ∀(cs:List Cla) (a:List Hm.Met) (s:T7×T7) (i:Nat),Gd a s->((W1 Ta s cs i).1.isSome=true->Ia (a++cs.flatMap (·.methods)))/\((W1 Ta s cs i).1.isSome=false->Gd (a++cs.flatMap (·.methods)) (W1 Ta s cs i).2)
 | [],a,s,i,h=>by simpa [W1] using h
 | c::r,a,s,i,h=>by
  obtain ⟨d,f⟩:=Q7F c.name c.methods a s 0 h;simp only[W1];cases b:(Ta s c).1 with
  | true=>
   simp only[if_true,Option.isSome_some];exact ⟨fun _=>(d b).mono (by simp;intro x hx;rcases hx with hx | hx;exact .inl hx;exact .inr (.inl hx)),fun e=>by cases e⟩
  | false=>
   simp only[Bool.false_eq_true,if_false];have:=Q7E r (a++c.methods) (Ta s c).2 (i+1) (f b);rw[List.flatMap_cons,<-List.append_assoc];exact this
theorem X9S:Gd [] ([],[]):=⟨by simp,by simp[P9],by simp[P9]⟩
theorem X3t (l:List Cla) (n:Q9):Dl l n=(En l n).flatMap (·.methods):=by
 unfold Dl En
 induction Qy l n with
 | nil=>rfl
 | cons u r a=>
  rw[List.flatMap_cons,List.filterMap_cons];cases b:lk l u with
  | none=>simpa [b] using a
  | some c=>simp only[Option.map_some,Option.getD_some,List.flatMap_cons];rw[a]
end Go.Hm
namespace Go.Emb
open Go.RowKit Go.Hm
variable {P : Program} {w w1 w' : World} {K : Value -> World -> Prop} {σ σ' : Q2}
def It (σ:Q2) (w:World) (b r:Nat) (e:Array MapEntry) (a:Nat) (c:Array Nat):Prop:=σ b=none/\ ∃d,a<=d/\w.heap[b]? =some (.mapIter (some r) a c d)
theorem It.step {b r:Nat} {d:Array MapEntry} {a:Nat} {c:Array Nat} (h:It σ w b r d a c) (k:Stp w σ w' σ'):It σ' w' b r d a c:=by
 obtain ⟨i,g,j,e⟩:=h;have f:=(Array.getElem?_eq_some_iff.1 e).1;exact ⟨(k.old b f).trans i,g,j,(k.bel.block b f).trans e⟩
theorem Y1j {t i e:TypeId} [tm:TM P t i e] {r:Nat} {c:Array MapEntry} {a:Nat} (d:X3 w σ) (g:w.heap[r]? =some (.map c a))
 (h: ∀b w' σ',w.heap.size<=b->Stp w σ w' σ'->It σ' w' b r c a #[]->K (.pointer (some ⟨b,0,none⟩)) w'):rng P t (.map (some r)) w K:=by
 unfold rng;have f:(getObj r).run P w= .ok (.map c a) w:=by simp[getObj,Sem.run,g]
 rw[Y8 (v:= .pointer (some ⟨w.heap.size,0,none⟩)) (w':=w.alloc (.mapIter (some r) a #[] a)) (by
  simp only[Instr.range,Sem.run_bind,run_underlying tm.h,Result.andThen_ok,f,Sem.run_pure]
  simp)]
 exact h _ _ _ (Nat.le_refl _) (Stp.own d _) ⟨d.none (Nat.le_refl _),a,Nat.le_refl _,heap_alloc_new w _⟩
theorem Y1f {t:TypeId} {b r:Nat} {es:Array MapEntry} {clock:Nat} {seen:Array Nat} (hi:It σ w b r es clock seen) (hm:w.heap[r]? =some (.map es clock)) (hold: ∀x∈es.toList,x.born<clock)
 (h0:(∀e∈es.toList,e.born∈seen)->K (.tuple #[.bool false]) w)
 (h1: ∀e w',e∈es.toList->e.born∉seen->Kpt (fun k=>k=b) w w'->It σ w' b r es clock (seen.push e.born)->w'.heap[b]? =some (.mapIter (some r) clock (seen.push e.born) clock)->K (.tuple #[.bool true,e.key,e.val]) w'):L8 P (.pointer (some ⟨b,0,none⟩)) false t w K:=by
 obtain ⟨hb,c0,hc,hh⟩:=hi;unfold L8
 rcases run_next_at (P:=P) w t b r clock c0 seen es clock hh hm hold hc with ⟨hz,hrun⟩ | ⟨e,he,w1,hw1,hrun⟩
 .rw[Y8 hrun]
  refine h0 fun e he=>Classical.byContradiction fun hn=>?_
  have:e∈(leftOf es seen).toList:=by
   unfold leftOf;simp only[Array.toList_filter,List.mem_filter];exact ⟨he,by simpa using hn⟩
  have hl:(leftOf es seen).toList.length=0:=by simpa using hz
  rw[List.eq_nil_of_length_eq_zero hl] at this;cases this
 .rw[Y8 hrun]
  have he':e∈es.toList/\e.born∉seen:=by
   unfold leftOf at he;simp only[Array.toList_filter,List.mem_filter] at he;exact ⟨he.1,by simpa using he.2⟩
  have hh1:w1.heap[b]? =some (.mapIter (some r) clock seen c0):=by rcases hw1 with rfl | rfl<;>exact hh
  obtain ⟨u1,u2⟩:=Q8z (w:=w1) (o:= .mapIter (some r) clock (seen.push e.born) clock) hh1;refine h1 e _ he'.1 he'.2 ?_ ⟨hb,clock,Nat.le_refl _,u2⟩ u2
  have k1:Kpt (fun k=>k=b) w w1:=by
   rcases hw1 with rfl | rfl
   .exact Kpt.refl
   .exact .of_below (Below.refl _ _).drew
  exact k1.trans (Kpt.of_upd u1 rfl)
theorem Y0j {b r:Nat} {d:Array MapEntry} {a:Nat} {c:Array Nat} {e:MapEntry} (hh:w.heap[b]? =some (.mapIter (some r) a (c.push e.born) a)) (g:w.heap[r]? =some (.map d a)) (f:e∈d.toList) (i:(d.toList.map (·.born)).Nodup)
 (h:K (.tuple #[e.key,e.val]) w):X3O P (.pointer (some ⟨b,0,none⟩)) w K:=by
 unfold X3O;rw[Y8 (run_entry_at w b r a c d a e hh g f i)];exact h
end Go.Emb
namespace Go.Proofs.Y
open Go.Emb Go.RowKit Go.Kd Go.Hm
variable {w : World} {K : Value -> World -> Prop} {σ : Q2} {v : Value} {l : List Cla}
theorem Yw (o:Option Nat):decide ((0:Int)<=E1 o)=o.isSome:=by
 cases o with
 | none=>rfl
 | some i=>simp[E1]
theorem Q83 {q:Addr} {s:Q9} (c:X3 w σ) (g:Tab σ v l) (f:U0 σ q [v]) (d:s.length<=V4) (h: ∀w' σ',Stp w σ w' σ'->K (.bool (B2 l s)) w'):J6 P (.func (.func F.ao) #[] #[.pointer (some q)]) [S s] w K:=J8 (Pk (by
 unfold Lq X8 J9;unfold B2 at h;refine Jb ?_
 by_cases a:s=I1
 .have e:decide (s=[110,117,108,108])=true:=decide_eq_true a
  simp only[e,decide_eq_true a,↓M2,M2,Mb,reduceIte] at h⊢;exact h _ _ (Stp.refl c)
 .have e:decide (s=[110,117,108,108])=false:=decide_eq_false a
  simp only[e,decide_eq_false a,↓M2,M2,Mb,reduceIte] at h⊢;refine Y6 c f rfl ?_;refine Q6N c g d fun w1 σ1 b=>?_
  (try simp only[↓M2,M2,Mb,reduceIte])
  exact h _ _ b))
theorem X3D {q p:Addr} {s:Q9} (b:X3 w σ) (f:Tab σ v l) (e:U0 σ q [v]) (d:U0 σ p [.func (.func F.ao) #[] #[.pointer (some q)]]) (c:s.length<=V4) (h: ∀w' σ',Stp w σ w' σ'->K (.bool (!B2 l s)) w'):J6 P (.func (.func F.ap) #[] #[.pointer (some p)]) [S s] w K:=J8 (Pl (by
 unfold Lr;refine Y6 b d rfl ?_;refine Q83 b f e c fun w1 σ1 a=>?_;refine Nj ?_;exact h _ _ a))
theorem X2B {c:Cla} {cs:List Value} {pa H:Addr} {b e:Nat} {s:T7×T7} (W:X3 w σ) (Q:M8 σ c cs) (B:Yy c) (U:Nm c) (u:U0 σ pa [.map (some b)]) (y:U0 σ H [.map (some e)])
 (z:σ b=none) (A:σ e=none) (t:b≠e) (i:G0 (w.heap[b]?) (vals s.1)) (j:G0 (w.heap[e]?) (vals s.2))
 (h: ∀w',Kpt (fun k=>k=b\/k=e) w w'->G0 (w'.heap[b]?) (vals (Ta s c).2.1)/\G0 (w'.heap[e]?) (vals (Ta s c).2.2)->K (.bool (Ta s c).1) w'):
 J6 P (.func (.func F.b9) #[] #[.pointer (some pa), .pointer (some H)]) [.agg cs.toArray] w K:=J8 (Pm (by
 obtain ⟨lv,Y,mv,rfl,Z,g2,L,g4,g5⟩:=Q;unfold Ls X6;refine Z6 W fun q w1 σ1 a D=>?_;rw[fa];refine ld a.sat D rfl ?_;rw[Zl];have p:=i.lt;have r:=j.lt;have n:σ1 b=none:=(a.old b p).trans z;have o:σ1 e=none:=(a.old e r).trans A
 refine Wy (Oa c.name) s (fun s w'=>X3 w' σ1/\G0 (w'.heap[b]?) (vals s.1)/\G0 (w'.heap[e]?) (vals s.2)) (fun k=>k=b\/k=e) (fun _ _ h=>h.1) ⟨a.sat,i.of_below a.bel,j.of_below a.bel⟩ (L.up a)
  (fun s x cs J K E f g V C O=>J8 ?_) fun J f g=>?_
 .refine Y14 (s:=s) (d:=c.name) g.1 V (B.2.2.2 x E) (U.2.2 x E) (u.up a) (y.up a) D n o t g.2.1 g.2.2 fun X m M N=>?_
  exact O X (f.trans m) ⟨m.sat g.1 fun k R=>by rcases R with rfl | rfl<;>assumption,M,N⟩
 .exact h J ((Kpt.of_below a.bel).trans f) g.2))
end Go.Proofs.Y
namespace Go.Emb
open Go.RowKit Go.Hm
theorem Stp.nx {D:Nat->Prop} {w w1 f:World} {σ σ1 g:Q2} (a:Stp w σ w1 σ1) (c:Nxt D w1 σ1 f g) (hD: ∀k,D k->w.heap.size<=k):Stp w σ f g:=
 ⟨⟨c.kp.os.trans a.bel.os,c.kp.tape.trans a.bel.tape,c.kp.output.trans a.bel.output,Nat.le_trans a.bel.size c.kp.size,fun k d=>(c.kp.block k (Nat.lt_of_lt_of_le d a.bel.size) fun e=>by have:=hD k e;omega).trans (a.bel.block k d)⟩,
  c.sat,fun b o e=>c.le.le b o (a.le b o e),fun k d=>(c.old k (Nat.lt_of_lt_of_le d a.bel.size)).trans (a.old k d)⟩
end Go.Emb
namespace Go.Hm
open Go.Kd Go.Emb
theorem X8H {d:Array MapEntry} {m:T7} (h:d.toList.map (fun e=>(e.key,e.val))=(vals m).map (fun p=>(S p.1,p.2))):
 (∀e∈d.toList,∃k,e.key=S k/\(P9 m k).isSome=true)/\ ∀k,(P9 m k).isSome=true-> ∃e∈d.toList,e.key=S k:=by
 have c: ∀(m:T7) k,(P9 m k).isSome=true↔k∈m.map (·.1):=by
  intro m
  induction m with
  | nil=>intro k;simp[P9]
  | cons p r n=>
   intro k;simp only[P9,List.map_cons,List.mem_cons]
   by_cases e:p.1=k
   .simp[e]
   .rw[if_neg e,n k]
    constructor
    .exact .inr
    .rintro (h | h)
     .exact absurd h.symm e
     .exact h
 constructor
 .intro e f
  have b:(e.key,e.val)∈d.toList.map (fun e=>(e.key,e.val)):=List.mem_map.2 ⟨e,f,rfl⟩;rw[h] at b;obtain ⟨p,j,a⟩:=List.mem_map.1 b;obtain ⟨q,g,rfl⟩:=List.mem_map.1 j;simp only[Prod.mk.injEq] at a;exact ⟨q.1,a.1.symm,(c m _).2 (List.mem_map.2 ⟨q,g,rfl⟩)⟩
 .intro k i
  obtain ⟨q,g,rfl⟩:=List.mem_map.1 ((c m k).1 i);have b:(S q.1,S q.2)∈(vals m).map (fun p=>(S p.1,p.2)):=List.mem_map.2 ⟨(q.1,S q.2),List.mem_map.2 ⟨q,g,rfl⟩,rfl⟩;rw[<-h] at b;obtain ⟨e,f,a⟩:=List.mem_map.1 b;simp only[Prod.mk.injEq] at a;exact ⟨e,f,a.1⟩
def Bl (l:List Cla) (m:Hm.Met):Bool:=(!B2 l m.result&& !decide (m.result=[]))||m.params.any fun s=> !B2 l s
end Go.Hm
namespace Go.Proofs.Y
open Go.Emb Go.RowKit Go.Kd Go.Hm
variable {w : World} {K : Value -> World -> Prop} {σ : Q2} {v : Value} {l : List Cla}
set_option maxRecDepth 9999 in
set_option maxHeartbeats 1000000 in
theorem X4Z {c:Cla} {cs:List Value} (hs:X3 w σ) (ht:Tab σ v l) (ok:Ok l) (hc:M8 σ c cs) (fi:Yy c) (hn:Nm c) (h: ∀w' W,Stp w σ w' W->K (I (O7 l c)) w'):Q0 P F.bl [v, .agg cs.toArray] w K:=Q00 (by
 obtain ⟨lv,fv,mv,rfl,g1,g2,g3,g4,g5⟩:=hc;unfold Oj;simp only[L9,D0];unfold J1 X6 J3 V1 X4 X2 J9 X1;obtain ⟨a,_,_,_,hv,_⟩:=ht.ex;unfold O7 at h;refine L6 hs (by rw[hv];rfl) fun q2 w1 σ1 a4 y=>?_
 refine Z6 a4.sat fun q3 w2 σ2 aq A=>?_;have dz:=a4.trans aq;have y:=y.up aq;have g1:=(g1.up a4).up aq;have g2:=(g2.up a4).up aq;have g3:=(g3.up a4).up aq;have a6:=g2.max;have cd:=g3.max;rw[fa];refine ld aq.sat A rfl ?_;refine Q6 g2 ?_;refine V7 c.fields.length (fun n w'=> ∃W,Stp w σ w' W/\SLe σ2 W/\((c.fields.take n).any fun f=>(Rv l c.super f.name).isSome)=false) ⟨σ2,dz,SLe.refl _,by simp⟩ fun n w3 d a7 ag=>?_
 obtain ⟨σ3,ay,cg,H⟩:=ag;refine Y9 ?_;refine Q4 (fun hh=>?_) (fun hh=>?_)
 .have g:n<c.fields.length:=by simpa using hh
  refine Q4i (g2.lift cg) g fun p ar Z=>?_;refine Z3 ay.sat ar rfl ?_;refine Z9 ay.sat (by rfl) rfl (Rep.one Z) fun q4 w4 σ4 V ec=>?_
  have aa:SLe σ2 σ4:=cg.more ⟨V.le⟩;have az:=ay.trans V;refine Y6 V.sat (y.lift aa) rfl ?_;rw[fa];refine ld V.sat (A.lift aa) rfl ?_;rw[fa];refine ld V.sat ec rfl ?_;refine X84 V.sat (ht.lift ⟨az.le⟩) ok.acy ok.len ok.sm fun w5 σ5 cb=>?_;refine T2 ?_;rw[Yw];refine Q4 (fun al=>?_) (fun al=>?_)
  .have:Uz l c=true:=P0 g al
   rw[if_pos this] at h;exact h _ _ (az.trans cb)
  .refine C2 ?_
   refine Z4 a6 g ⟨σ5,az.trans cb,aa.more ⟨cb.le⟩,?_⟩;rw[E8 g,H,al];rfl
 have g: ¬n<c.fields.length:=by simpa using hh
 rw[B7 g] at H;have d9:Uz l c=false:=H;rw[if_neg (by rw[d9];simp)] at h
 rw[Zl];clear H hh g a7;refine W8 ay.sat (by rfl) rfl rfl fun q7 w4 σ4 V a9=>?_
 have aa:SLe σ2 σ4:=cg.more ⟨V.le⟩;have az:=ay.trans V;have y:=y.lift aa;have A:=A.lift aa;have g1:=g1.lift aa;have g2:=g2.lift aa;have g3:=g3.lift aa;rw[fa];refine ld V.sat A rfl ?_;refine Q6 g2 ?_;refine V7 c.fields.length (fun n w'=> ∃W,Stp w σ w' W/\SLe σ4 W/\((c.fields.take n).any fun f=> !B2 l f.kind)=false) ⟨σ4,az,SLe.refl _,by simp⟩ fun n w5 d a7 ag=>?_
 obtain ⟨σ5,a0,av,H⟩:=ag;refine Y9 ?_;refine Q4 (fun hh=>?_) (fun hh=>?_)
 .have g:n<c.fields.length:=by simpa using hh
  refine Q4i (g2.lift av) g fun p ar Z=>?_;refine Z3 a0.sat ar rfl ?_;refine Z9 a0.sat (by rfl) rfl (Rep.one Z) fun q9 w6 σ6 a5 ed=>?_
  have aj:SLe σ4 σ6:=av.more ⟨a5.le⟩;have Q:=a0.trans a5;refine Y6 a5.sat (a9.lift aj) rfl ?_;rw[fa];refine ld a5.sat ed rfl ?_;refine Q83 a5.sat (ht.lift ⟨Q.le⟩) (y.lift aj) Z.2.2 fun w7 σ7 E=>?_;refine Nj ?_;refine Q4 (fun al=>?_) (fun al=>?_)
  .have:Qd l c=true:=by
    unfold Qd;rw[P0 (p:=fun f:Fld=> !B2 l f.kind) g al];rfl
   rw[if_pos this] at h;exact h _ _ (Q.trans E)
  .refine C2 ?_
   refine Z4 a6 g ⟨σ7,Q.trans E,aj.more ⟨E.le⟩,?_⟩;rw[E8 g,H,al];rfl
 have g: ¬n<c.fields.length:=by simpa using hh
 rw[B7 g] at H;have d6:=H;clear H hh g a7;have y:=y.lift av;have A:=A.lift av;have a9:=a9.lift av;have g3:=g3.lift av;rw[fa];refine ld a0.sat A rfl ?_;refine Q6 g3 ?_;refine V7 c.methods.length (fun n w'=> ∃W,Stp w σ w' W/\SLe σ5 W/\((c.methods.take n).any (Bl l))=false) ⟨σ5,a0,SLe.refl _,by simp⟩ fun n w6 d a7 ag=>?_
 obtain ⟨σ6,Q,aj,H⟩:=ag;refine Y9 ?_;refine Q4 (fun hh=>?_) (fun hh=>?_)
 .have g:n<c.methods.length:=by simpa using hh
  refine E4 (g3.lift aj) g fun p cells ar c4 Z=>?_;refine Z3 Q.sat ar c4 ?_;refine Z9 Q.sat (by rfl) c4 (Rep.one Z) fun fm w7 σ7 E Y=>?_
  obtain ⟨pv,cv,fk,rfl,m1,m2,m3,m4,m5,m6⟩:=Z;have ch:SLe σ5 σ7:=aj.more ⟨E.le⟩;have cx:=Q.trans E
  have D:Bl l c.methods[n]=true-> ∀{w8:World} {σ8:Q2},Stp w σ w8 σ8->K (.int .i64 65) w8:=fun hb w8 σ8 q=>by
   have:Qd l c=true:=by
    unfold Qd;have:=P0 (p:=Bl l) g hb;unfold Bl at this;rw[this,Bool.or_true]
   rw[if_pos this] at h;exact h _ _ q
  have z:Bl l c.methods[n]=false-> ∀{w8:World} {σ8:Q2},Stp w σ w8 σ8->SLe σ5 σ8->UpI c.methods.length (fun n w'=> ∃W,Stp w σ w' W/\SLe σ5 W/\((c.methods.take n).any (Bl l))=false) (.int .i64 (IntKind.i64.wrap (n+1))) w8/\UpM c.methods.length (.int .i64 (IntKind.i64.wrap (n+1)))<UpM c.methods.length (I n):=fun hb w8 σ8 q ab=>
   Z4 cd g ⟨σ8,q,ab,by rw[E8 g,H,hb];rfl⟩
  unfold Bl at D z;refine Y6 E.sat (a9.lift ch) rfl ?_;rw[fa];refine ld E.sat Y rfl ?_;refine Q83 E.sat (ht.lift ⟨cx.le⟩) (y.lift ch) m5 fun w8 σ8 M=>?_;have q:=cx.trans M;have ab:SLe σ5 σ8:=ch.more ⟨M.le⟩;have Y:=Y.up M;have m1:=(m1.up E).up M
  -- what the parameters come to
  have bx: ∀{w8:World} {σ8:Q2} {K:Value->World->Prop},Stp w σ w8 σ8->SLe σ5 σ8->Sl 1 L1 σ8 pv c.methods[n].params->(∀w' W,Stp w8 σ8 w' W->K (.bool (c.methods[n].params.any fun s=> !B2 l s)) w')->Q0 P F.c [pv, .func (.func F.ap) #[] #[.pointer (some q7)]] w8 K:=by
   intro w8 σ8 K q ab m1 hK;refine Yc (fun s=> !B2 l s) q.sat m1 (fun x w9 K _ eg hx dy=>X3D eg (ht.lift ⟨q.le⟩) (y.lift ab) (a9.lift ab) hx fun w' W hk=>dy w' hk.bel) fun w9 hb=>hK w9 σ8 (Stp.of_below q.sat hb)
  cases e1:B2 l c.methods[n].result with
  | true=>
   rw[e1] at D z;simp only[↓M2,M2,Mb,reduceIte];refine ld M.sat Y rfl ?_
   (try simp only[↓M2,M2,Mb,reduceIte])
   refine bx q ab m1 fun w9 σ9 J=>?_;cases e2:c.methods[n].params.any fun s=> !B2 l s with
   | true=>
    rw[e2] at D;simp only[↓M2,M2,Mb,reduceIte];exact D rfl (q.trans J)
   | false=>
    rw[e2] at z;simp only[↓M2,M2,Mb,reduceIte];exact z rfl (q.trans J) (ab.more ⟨J.le⟩)
  | false=>
   rw[e1] at D z;simp only[↓M2,M2,Mb,reduceIte];refine ld M.sat Y rfl ?_;simp only[↓M2,M2,Mb,reduceIte]
   by_cases e3:c.methods[n].result=[]
   .rw[decide_eq_true e3] at D z
    simp only[decide_eq_true e3,↓M2,M2,Mb,reduceIte];refine ld M.sat Y rfl ?_
    (try simp only[↓M2,M2,Mb,reduceIte])
    refine bx q ab m1 fun w9 σ9 J=>?_;cases e2:c.methods[n].params.any fun s=> !B2 l s with
    | true=>
     rw[e2] at D;simp only[↓M2,M2,Mb,reduceIte];exact D rfl (q.trans J)
    | false=>
     rw[e2] at z;simp only[↓M2,M2,Mb,reduceIte];exact z rfl (q.trans J) (ab.more ⟨J.le⟩)
   .rw[decide_eq_false e3] at D
    simp only[decide_eq_false e3,↓M2,M2,Mb,reduceIte];exact D rfl q
 have g: ¬n<c.methods.length:=by simpa using hh
 rw[B7 g] at H
 have ce:Qd l c=false:=by
  unfold Qd;unfold Bl at H;rw[d6,H];rfl
 rw[if_neg (by rw[ce];simp)] at h
 clear H hh g a7;have y:=y.lift aj;have A:=A.lift aj;refine Q7i Q.sat fun r1 w7 Z E t=>?_;refine Q7i E.sat fun N w8 ee M u=>?_;have ar:=t.lt;have t:=t.up M;have eb:r1≠N:=by omega
 have q:=(Q.trans E).trans M;have eu:w.heap.size<=r1:=Nat.le_trans Q.bel.size Z;have ew:w.heap.size<=N:=C7 ee (Q.trans E);refine E5 M.sat fun b1 w9 σ9 d1 J B=>?_;refine E5 J.sat fun b2 ei fy d2 ah C=>?_;have ep:=B.lt;have er:=t.lt;have et:=u.lt;have t:=(t.up J).up ah;have u:=(u.up J).up ah;have B:=B.up ah;have cr:=(q.trans J).trans ah;have bs:w.heap.size<=b1:=C7 d1 q;have bu:w.heap.size<=b2:=C7 d2 (q.trans J);refine st0 B (by simp[Value.cells]) rfl rfl fun dm ci B=>?_
 have ct:=ci.stp cr bs B.1;have C:=C.upd ci Q5;have dc:Kpt (fun k=>k=b1) ei dm:=Kpt.of_upd ci rfl;have t:=t.kp dc Q5;have u:=u.kp dc Q5;refine st0 C (by simp[Value.cells]) rfl rfl fun aw cj C=>?_
 have cu:=cj.stp ct bu C.1;have B:=B.upd cj Q5;have de:Kpt (fun k=>k=b2) dm aw:=Kpt.of_upd cj rfl;have t:=t.kp de Q5;have u:=u.kp de Q5;obtain ⟨ck,cw,a1,dh,am⟩:=B.keep cu bs;have C:Z7 ck aw b2 _:=⟨(am b2 Q5).trans C.1,C.2⟩;have t:P8 ck aw r1 []:=⟨(am r1 Q5).trans t.1,t.2⟩;have u:P8 ck aw N []:=⟨(am N Q5).trans u.1,u.2⟩;obtain ⟨be,ae,bi,b3,bc⟩:=C.keep cw bu;have t:P8 be aw r1 []:=⟨(bc r1 Q5).trans t.1,t.2⟩;have u:P8 be aw N []:=⟨(bc N Q5).trans u.1,u.2⟩;have a1:=a1.le b3;have a1:U0 be ⟨b1,0,none⟩ [.map (some r1)]:=a1;have bi:U0 be ⟨b2,0,none⟩ [.map (some N)]:=bi;have di:SLe σ6 be:=⟨fun b o e=>b3 b o (dh b o (ah.le b o (J.le b o (M.le b o (E.le b o e)))))⟩;clear B C;have y:=y.lift di;have A:=A.lift di;refine Y6 ae.sat y rfl ?_;rw[fa];refine ld ae.sat A rfl ?_;rw[Zl]
 refine X3h Ta ([],[]) (fun s w'=>G0 (w'.heap[r1]?) (vals s.1)/\G0 (w'.heap[N]?) (vals s.2)) (fun k=>k=r1\/k=N) ae.sat (ht.lift ⟨ae.le⟩) ok.len ok.sm g4
  (fun k hk=>by rcases hk with rfl | rfl;exact ⟨t.lt,t.1⟩;exact ⟨u.lt,u.1⟩) (fun s wa wb hi hk=>by rw[hk r1 (.inl rfl),hk N (.inr rfl)];exact hi) ⟨t.2,u.2⟩
  (fun s d ds wa σa K le eh c7 hi hr d3 hK=>?_) fun fp cl ai bv=>?_
 .have c0:=(N1 d3).2.1
  exact X2B eh hr (ok.sm d c0) (ok.nm d c0) (a1.lift le) (bi.lift le) (c7 r1 (.inl rfl)) (c7 N (.inr rfl)) eb hi.1 hi.2 hK
 have O:=ae.nx ai fun k hk=>by rcases hk with rfl | rfl<;>assumption
 obtain ⟨dj,dl⟩:=Q7E (En l c.name) [] ([],[]) 0 X9S;rw[List.nil_append,<-X3t] at dj dl;cases c8:(W1 Ta ([],[]) (En l c.name) 0).1.isSome with
 | true=>
  have:Wd l c=true:=(Q9d _).2 (dj c8);rw[if_pos this] at h;refine Z1 ?_;exact h _ _ O
 | false=>
  have bm:=dl c8
  have:Wd l c=false:=by
   cases e:Wd l c with
   | false=>rfl
   | true=>exact absurd ((Q9d _).1 e) bm.no
  rw[if_neg (by rw[this];simp)] at h
  refine Z0 ?_;have y:=y.lift ai.le;have A:=A.lift ai.le;rw[fa];refine ld O.sat A rfl ?_;unfold Cw at h;cases cy:c.abs with
  | true=>
   rw[cy] at h;refine Z1 ?_;exact h _ _ O
  | false=>
   rw[cy] at h;simp only[Bool.not_false,Bool.true_and] at h;refine Z0 ?_;refine Y6 O.sat (bi.lift ai.le) rfl ?_;generalize fj:(W1 Ta ([],[]) (En l c.name) 0).2=st at bm bv;obtain ⟨es,ak,e1,e2,e3,e4⟩:=bv.2;have db:cl N=none:=(ai.old N u.lt).trans u.1;obtain ⟨df,dg⟩:=X8H e2;refine Y1j (tm:=inferInstance) O.sat e1 fun ib fq ek d4 ao d5=>?_;have b0:=(Array.getElem?_eq_some_iff.1 e1).1
   refine Q1b (fun d _ w'=> ∃(W:Q2) (U:Array Nat),d=es.toList.countP (fun e=> !U.contains e.born)/\Stp w σ w' W/\SLe cl W/\W N=none/\w'.heap[N]? =some (.map es ak)/\It W w' ib N es ak U/\ ∀e∈es.toList,e.born∈U-> ∀k,e.key=S k->Vu l c.name k=false) _
    ⟨ek, #[],rfl,O.trans ao,⟨ao.le⟩,(ao.old N b0).trans db,(ao.bel.block N b0).trans e1,d5,by simp⟩ ?_
   rintro b4 d x dd fr ⟨dq,U,rfl,br,ap,c9,a2,a3,a8⟩ d0;have c3:w.heap.size<=ib:=Nat.le_trans O.bel.size d4;refine Y1f a3 a2 e4 (fun cz=>?_) fun e dn bk ba bw b9 c2=>?_
   .refine J5 (vs:=[_]) rfl ?_
    refine Z0 ?_
    have:((Dl l c.name).any fun m=>Vu l c.name m.name)=false:=by
     rw[List.any_eq_false];intro m hm;obtain ⟨e,he,bl⟩:=dg m.name ((bm.c m.name).2 ⟨m,hm,rfl⟩);rw[a8 e he (cz e he) _ bl];simp
    rw[this] at h;exact h _ _ br
   .refine J5 (vs:=[_,_,_]) rfl ?_
    refine Z1 ?_
    have an:dn.heap[N]? =some (.map es ak):=by
     rw[bw.block N (Array.getElem?_eq_some_iff.1 a2).1 Q5];exact a2
    have b8:=a3.1;have af:Stp w σ dn dq:=br.kp bw fun k hk=>by rw[hk];exact ⟨c3,b8⟩
    refine Y0j c2 an bk (e3.imp fun cc=>Nat.ne_of_lt cc) ?_;refine J5 (vs:=[_,_]) rfl ?_;obtain ⟨k,bl,d7⟩:=df e bk;have e6:SLe cl dq:=ap;refine Y6 af.sat (y.lift ap) rfl ?_;rw[fa];refine ld af.sat (A.lift ap) rfl ?_;rw[bl];refine X6p af.sat (ht.lift ⟨af.le⟩) ok fun pv cv hv fs fz L da=>?_;refine J5 (vs:=[_,_,_]) rfl ?_;refine J5 (vs:=[_,_,_]) rfl ?_;refine J5 (vs:=[_,_,_]) rfl ?_;refine Z9 L.sat (by rfl) rfl (Rep.one da) fun fn ej el X bz=>?_
    have ax:=(af.trans L).trans X
    have R:Vu l c.name k=true-> ∀{w8:World} {σ8:Q2},Stp w σ w8 σ8->K (.int .i64 67) w8:=fun hb w8 σ8 q=>by
     obtain ⟨m,hm,ce⟩:=(bm.c k).1 d7;have:((Dl l c.name).any fun m=>Vu l c.name m.name)=true:=List.any_eq_true.2 ⟨m,hm,by rw[ce];exact hb⟩
     rw[this] at h;exact h _ _ q
    have b7:Vu l c.name k=false->b4 () ej:=fun hb=>by
     have c5: ∀e':MapEntry,e'.born∈U.push e.born↔e'.born∈U\/e'.born=e.born:=fun e'=>by simp
     refine d0 _ _ _ ?_ ⟨el,U.push e.born,rfl,ax,ap.more ⟨fun b o h=>X.le _ _ (L.le _ _ h)⟩,?_,?_,(b9.step L).step X,fun e' c1 ef k' ca=>?_⟩
     .refine Q8O (fun x _ hx=>?_) ⟨e,bk,?_,?_⟩
      .simp only[Bool.not_eq_true',Array.contains_push,Bool.or_eq_false_iff] at hx⊢
       exact hx.1
      .simpa using ba
      .simp
     .have bb:=(Array.getElem?_eq_some_iff.1 an).1
      rw[X.old N (Nat.lt_of_lt_of_le bb L.bel.size),L.old N bb];exact c9
     .have bb:=(Array.getElem?_eq_some_iff.1 an).1
      rw[X.bel.block N (Nat.lt_of_lt_of_le bb L.bel.size),L.bel.block N bb];exact an
     .rcases (c5 e').1 ef with h1 | h1
      .exact a8 e' c1 h1 k' ca
      .have:e'=e:=by
        have ea:(es.toList.map (·.born)).Nodup:=e3.imp fun cc=>Nat.ne_of_lt cc;obtain ⟨i,hi,rfl⟩:=List.getElem_of_mem c1;obtain ⟨j,hj,rfl⟩:=List.getElem_of_mem bk;have h5:(es.toList.map (·.born))[i]'(by simpa using hi)=(es.toList.map (·.born))[j]'(by simpa using hj):=by simpa using h1
        have:=(List.getElem_inj ea).1 h5;subst this;rfl
       subst this;rw[bl] at ca
       have:k=k':=by
        have:=ca
        simp at this
        exact this
       rw[<-this];exact hb
    unfold Vu at R b7;cases c6:N3 l c.name k with
    | none=>
     rw[c6] at R;simp only[↓M2,M2,Mb,reduceIte,Option.isSome_none];exact R rfl ax
    | some r=>
     rw[c6] at R b7 bz;simp only[↓M2,M2,Mb,reduceIte,Option.isSome_some];refine ld X.sat bz rfl ?_
     (try simp only[↓M2,M2,Mb,reduceIte])
     cases bn:r.2.abs with
     | true=>
      exact Q4 (fun _=>R bn ax) (fun e=>absurd (bn.symm.trans e) V5)
     | false=>
      exact Q4 (fun e=>absurd (bn.symm.trans e) V5) (fun _=>b7 bn))
end Go.Proofs.Y
namespace Go.Emb
open Go.RowKit Go.Hm
variable {P : Program} {w w' : World} {K : Value -> World -> Prop} {σ : Q2}
theorem Y19 {t e:TypeId} {n a:Nat} {z:Value} [ta:TA P t n e] [tz:TZ P e 1 a z] [tg:TG P e false] {cs:List Value} {i:Nat} {v:Value} (d:i<n) (c:cs[i]? =some v) (h:K v w):P7 P t (.agg cs.toArray) (I i) w K:=by
 unfold P7;have b:(0:Int)<=i/\(i:Int)<n:=⟨by omega,by omega⟩
 rw[Y8 (v:=v) (w':=w) (by
  simp only[Instr.index,asIntOf,Sem.run_bind,Sem.run_pure,Result.andThen_ok,run_underlying ta.h,b,and_self,if_true,H2 tz,part,Ul tg]
  simp[c])]
 exact h
theorem X3s {α:Type} {R:Q2->α->List Value->Prop} {B sz:Nat} {e:TypeId} {v:Value} {xs:List α} {a t:TypeId} {cs:List Bool} [ts:TS P a e] (h:W4 B e sz R σ w v xs) (b:K (I xs.length) w):U4 P .len [a] t cs [v] w K:=Rw (J7.of_acc h) b
theorem Lf {α:Type} {R:Q2->α->List Value->Prop} {B sz:Nat} {e:TypeId} {v:Value} {xs:List α} (h:W4 B e sz R σ w v xs):v.cells= #[v]/\v.oneCell'=true:=by
 obtain ⟨cells,c,_⟩:=h
 rcases c.2 with ⟨rfl,_⟩ | ⟨g,a,b,rfl,_⟩<;>exact ⟨rfl,rfl⟩
end Go.Emb
namespace Go.Proofs.Y
open Go.Emb Go.RowKit Go.Kd Go.Hm
variable {w : World} {K : Value -> World -> Prop} {σ : Q2} {v : Value}
theorem X82 (C:X3 w σ) (A:Glb σ) (h: ∀u w' σ',Stp w σ w' σ'->W4 w.heap.size T.c 8 M8 σ' w' u Xr->K u w'):Q0 P F.di [] w K:=X1b (by
 unfold Q40 X2;refine M9 (cells:= #[S L3,S [], .slice none 0 0, .bool false, .bool false, .bool false, .slice none 0 0, .slice none 0 0]) X7 ?_;refine M9 (cells:= #[S Wx,S B9, .bool false]) X7 ?_;refine C1 (R:=K3) (sz:=3) C [.agg #[S Wx,S B9, .bool false]] [⟨Wx,B9,false⟩] rfl rfl (by simp;rfl) rfl ⟨⟨rfl,by decide,by decide⟩,trivial⟩ fun H w1 σ1 e o=>?_
 have p:=o;obtain ⟨y,b,rfl,_⟩:=p;refine M9 (cells:= #[S B0,S L3, .slice none 0 0, .bool false, .bool false, .bool false, .slice y 1 b, .slice none 0 0]) X7 ?_
 refine Xu (R:=M8) (sz:=8) e [.agg #[S L3,S [], .slice none 0 0, .bool false, .bool false, .bool false, .slice none 0 0, .slice none 0 0], .agg #[S B0,S L3, .slice none 0 0, .bool false, .bool false, .bool false, .slice y 1 b, .slice none 0 0]]
  [⟨L3,[],[],false,false,false,[],[]⟩,⟨B0,L3,[],false,false,false,[⟨Wx,B9,false⟩],[]⟩] rfl rfl (by simp;exact ⟨rfl,rfl⟩) rfl
  ⟨⟨_,_,_,rfl,Sl.nil,Sl.nil,Sl.nil,by decide,by decide⟩,⟨_,_,_,rfl,Sl.nil,o,Sl.nil,by decide,by decide⟩,trivial⟩ fun J L k i _=>?_
 have t:=A.lift ⟨e.le⟩;refine Z3 (cs:=M7.map S) k.sat t.flt rfl ?_;refine O4 6 (fun n a w'=> ∃σ',Stp w σ w' σ'/\W4 w.heap.size T.c 8 M8 σ' w' a ([⟨L3,[],[],false,false,false,[],[]⟩,⟨B0,L3,[],false,false,false,[⟨Wx,B9,false⟩],[]⟩]++(M7.take n).map fun n=>⟨n,B0,[],false,false,true,[],[]⟩)) ⟨σ1,e.trans k,i⟩ fun n a M d E j=>?_;obtain ⟨O,g,c⟩:=j;have z:M7.length=6:=rfl;refine Y9 ?_;refine Q4 (fun hh=>?_) (fun hh=>?_)
 .have f:n<6:=by have:=of_decide_eq_true hh;omega
  refine Y19 (v:=S (M7[n]'(by omega))) f (by rw[List.getElem?_map,List.getElem?_eq_getElem Q5];rfl) ?_
  refine M9 (cells:= #[S (M7[n]'(by omega)),S B0, .slice none 0 0, .bool false, .bool false, .bool true, .slice none 0 0, .slice none 0 0]) X7 ?_
  have m:(M7[n]'(by omega)).length<=10:=by
   have: ∀x∈M7,x.length<=10:=by decide
   exact this _ (List.getElem_mem _)
  refine Un (x:=⟨M7[n]'(by omega),B0,[],false,false,true,[],[]⟩) g c ⟨_,_,_,rfl,Sl.nil,Sl.nil,Sl.nil,Nat.le_trans m L7,(by decide:B0.length<=V4)⟩ rfl rfl rfl (by simp;omega) (by simp;omega) fun s u N D B q r _=>?_
  refine C2 ?_;refine Z8 Q5 f ⟨D,q,?_⟩;rw[List.take_add_one,List.getElem?_eq_getElem Q5,List.map_append,<-List.append_assoc];exact r
 .have f: ¬n<6:=by have:=of_decide_eq_false hh;omega
  rw[List.take_of_length_le Q5] at c;exact h _ _ _ g c)
end Go.Proofs.Y
namespace Go.Hm
open Go.Kd
def B3 {α:Type} (f:α->Int):List α->Nat->Option (Nat×Int)
 | [],_=>none
 | x::r,i=>if f x=0 then B3 f r (i+1) else some (i,f x)
theorem Yg {α:Type} {f:α->Int}: ∀{l:List α} {i:Nat},B3 f l i=none-> ∀x∈l,f x=0
 | [],_,_=>by simp
 | x::r,i,h=>by
  simp only[B3] at h
  split at h
  .rename_i a
   intro y hy
   rcases List.mem_cons.1 hy with rfl | hy
   .exact a
   .exact Yg h y hy
  .cases h
def Kp (a:List Cla):Option Nat:=(List.range a.length).find? fun i=>(U2 (a.take i) (J0 a i)).isSome
def Q3 (l:List Cla):List Cla:=Xr++l
def Pe (a:Cla->Int) (l:List Cla):Option (Int×Int):=match B3 a l 0 with
 | some (i,e)=>some (i,e)
 | none=>match Kp (Q3 l) with
  | some i=>some ((i:Int)-8,60)
  | none=>match B3 (fun c=>(B8 (Q3 l) c:Int)) l 0 with
   | some (i,e)=>some (i,e)
   | none=>match l.findIdx? (Yk (Q3 l)) with
    | some i=>some (i,63)
    | none=>match (O9 (Q3 l) 8).find? fun j=> !decide (O7 (Q3 l) ((Q3 l).getD j Cla.zero)=0) with
     | some j=>some ((j:Int)-8,O7 (Q3 l) ((Q3 l).getD j Cla.zero))
     | none=>none
theorem Q6v {s:Q9} (h:name s=true):s.length<=32:=by
 cases s with
 | nil=>simp
 | cons c r=>simp only[name,Bool.and_eq_true,decide_eq_true_eq] at h;exact h.1.1
theorem X6B {s:Q9} (h:C6 s=true):s.length<=32:=Q6v (Mf (by rw[h,Bool.or_true]))
theorem X43 {s:Q9} (h:B5 s=true):s.length<=32:=by
 cases s with
 | nil=>simp
 | cons c r=>simp only[B5,Bool.and_eq_true] at h;exact Q6v h.1
theorem Q1I {a:List Cla} (h:Kp a=none):Yr a:=by
 unfold Kp at h;rw[List.find?_eq_none] at h;unfold Yr;rw[List.nodup_iff_pairwise_ne,List.pairwise_iff_getElem];intro i j g b k e;simp only[List.length_map] at g b;have:=h j (by simp;exact b)
 apply this;simp only[List.getElem_map] at e;cases f:U2 (a.take j) (J0 a j) with
 | some _=>rfl
 | none=>
  have c:=List.findIdx?_eq_none_iff.1 f a[i] (List.mem_take_iff_getElem.2 ⟨i,by omega,rfl⟩)
  have d:J0 a j=a[j].name:=by unfold J0;rw[List.getD_eq_getElem?_getD,List.getElem?_eq_getElem b];rfl
  rw[d] at c
  simp[e] at c
theorem Eb: ∀c∈Xr,Yy c/\Nm c/\c.like=[]:=by
 have h: ∀c∈Xr,(c.like=[]/\c.methods=[]/\c.fields.length<=1/\c.name.length<=100/\ ∀f∈c.fields,f.name.length<=100/\f.kind.length<=100):=by decide
 intro c g;obtain ⟨b,a,i,d,e⟩:=h c g;refine ⟨⟨by rw[b];simp,by omega,by rw[a];simp,by rw[a];simp⟩,⟨d,e,by rw[a];simp⟩,b⟩
theorem X6M: ∀c∈Xr,(c.name=L3/\M6 c=[[]])\/(c.name=B0/\M6 c=[L3])\/(c.name∈M7/\M6 c=[B0]):=by decide
theorem X01 {l:List Cla} (o:Yr (Q3 l)) (y: ∀c∈l,c.name≠[]) (w: ∀c∈l,Yk (Q3 l) c=false):Uo (Q3 l):=by
 have k:lk (Q3 l) []=none:=by
  cases h:lk (Q3 l) [] with
  | none=>rfl
  | some c=>
   obtain ⟨e,hm,_⟩:=N1 h
   rcases List.mem_append.1 hm with hm | hm
   .have: ∀c∈Xr,c.name≠[]:=by decide
    exact absurd e (this c hm)
   .exact absurd e (y c hm)
 have j:lk (Q3 l) L3=some ⟨L3,[],[],false,false,false,[],[]⟩:=o.lk (c:=⟨L3,[],[],false,false,false,[],[]⟩) (List.mem_append_left _ (by decide))
 have g:lk (Q3 l) B0=some ⟨B0,L3,[],false,false,false,[⟨Wx,B9,false⟩],[]⟩:=o.lk (c:=⟨B0,L3,[],false,false,false,[⟨Wx,B9,false⟩],[]⟩) (List.mem_append_left _ (by decide))
 have p: ∀b,¬Reach (lk (Q3 l)) [] b:=fun b h=>by obtain ⟨c,d⟩:=h.left;rw[k] at d;cases d
 have q: ∀b,Reach (lk (Q3 l)) L3 b->b=L3:=by
  intro b h;cases h with
  | refl=>rfl
  | step d f i=>
   rw[j] at d;cases d
   simp[M6] at f;subst f
   exact absurd i (p b)
 have z: ∀b,Reach (lk (Q3 l)) B0 b->b=B0\/b=L3:=by
  intro b h;cases h with
  | refl=>exact .inl rfl
  | step d f i=>
   rw[g] at d;cases d
   simp[M6] at f;subst f
   exact .inr (q b i)
 rintro a ⟨c,d,u,f,i⟩;obtain ⟨e,hm,_⟩:=N1 d
 rcases List.mem_append.1 hm with hm | hm
 .rcases X6M c hm with ⟨m,n⟩ | ⟨m,n⟩ | ⟨m,n⟩<;>rw[n] at f<;>simp at f<;>subst f
  .exact p _ i
  .have:=q _ i
   rw[<-e,m] at this;exact absurd this (by decide)
  .have s: ∀x∈M7,x≠B0/\x≠L3:=by decide
   obtain ⟨t,v⟩:=s _ m;rw[<-e] at i
   rcases z _ i with h | h
   .exact t h
   .exact v h
 .have:=w c hm
  unfold Yk at this;have r:=List.any_eq_false.1 this u f;apply r;rw[List.contains_iff_mem,Nh,e];exact i
end Go.Hm
namespace Go.Proofs.Y
open Go.Emb Go.RowKit Go.Kd Go.Hm
theorem Q0J {s:Q9} (h:right s=true):s.length<=38:=by
 simp only[right,Bool.and_eq_true,decide_eq_true_eq] at h;have e:=Q52 s
 have:(base s).1.length<=32:=by
  have d:=h.2;have b:=Mf d;cases a:(base s).1 with
  | nil=>simp
  | cons c r=>
   rw[a] at b;simp only[name,Bool.and_eq_true,decide_eq_true_eq] at b;exact b.1.1
 omega
theorem An {c:Cla} (h:F2 c=0):Yy c/\Nm c/\c.name≠[]:=by
 unfold F2 at h
 split at h
 .cases h
 .rename_i b
  split at h
  .rename_i j
   simp only[Wi,Bool.or_eq_true,decide_eq_true_eq,not_or,List.any_eq_true,not_exists,not_and] at b;obtain ⟨⟨⟨k,s⟩,t⟩,u⟩:=b;simp only[Gc,Bool.and_eq_true] at j;obtain ⟨⟨⟨⟨⟨⟨⟨⟨o,v⟩,w⟩,y⟩,z⟩,A⟩,B⟩,q⟩,r⟩:=j;have a:C6 c.name=true:=List.all_eq_true.1 o c.name V5
   have d: ∀m∈c.methods,m.params.length<=32/\m.catches.length<=32/\m.code.length<=200:=fun m b=>by
    have:=k m b;simp only[Dc,Bool.or_eq_true,decide_eq_true_eq,not_or] at this;omega
   refine ⟨⟨by omega,by omega,by omega,fun m b=>by have:=d m b;unfold SmM;omega⟩,⟨by have:=X6B a;omega,fun f l=>?_,fun m b=>?_⟩,fun e=>by rw[e] at a;simp[C6] at a⟩
   .have:=List.all_eq_true.1 q f l
    simp only[Kq,Bool.and_eq_true] at this;have g:=X43 this.1;have i:=Q0J this.2;omega
   .have:=List.all_eq_true.1 r m b
    simp only[Ye,Bool.and_eq_true,Bool.or_eq_true,decide_eq_true_eq,List.all_eq_true] at this;obtain ⟨⟨⟨_,g⟩,i⟩,_⟩:=this;refine ⟨?_,fun p n=>by have:=Q0J (g p n);omega⟩
    rcases i with e | e
    .rw[e];simp
    .have:=Q0J e;omega
  .cases h
end Go.Proofs.Y
namespace Go.Hm
open Go.Kd
theorem Da {α:Type} {f:α->Int} {xs:List α} {n:Nat} (h:n<xs.length) (a:B3 f xs 0=B3 f (xs.drop n) n):B3 f xs 0=if f xs[n]=0 then B3 f (xs.drop (n+1)) (n+1) else some (n,f xs[n]):=by
 rw[a,List.drop_eq_getElem_cons h];rfl
theorem X3Q {a:List Cla} {n:Nat} (h:n<a.length) (k:Q9):U2 (a.take (n+1)) k=match U2 (a.take n) k with
 | some i=>some i
 | none=>if a[n].name=k then some n else none:=by
 unfold U2;rw[List.take_add_one,List.getElem?_eq_getElem h];simp only[Option.toList_some,List.findIdx?_append];cases (a.take n).findIdx? fun c=>decide (c.name=k) with
 | some i=>rfl
 | none=>
  simp only[Option.none_or,List.findIdx?_cons,List.findIdx?_nil,List.length_take]
  by_cases e:a[n].name=k
  .simp[e];omega
  .simp[e]
end Go.Hm
namespace Go.Proofs.Y
open Go.Emb Go.RowKit Go.Kd Go.Hm
variable {w : World} {K : Value -> World -> Prop} {σ : Q2} {v : Value} {l : List Cla}
theorem Q1G {a:List Cla} {n:Nat} (h:n<a.length):J0 a n=a[n].name:=by unfold J0;rw[List.getD_eq_getElem?_getD,List.getElem?_eq_getElem h];rfl
set_option maxRecDepth 9999 in
set_option maxHeartbeats 1000000 in
theorem Y0v {lv:Value} (hs:X3 w σ) (hg:Glb σ) (hl:Sl 8 M8 σ lv l) (hlen:l.length<=1000) (hsm: ∀c∈l,Yy c)
 (h1: ∀i e w' σ',Pe F2 l=some (i,e)->Stp w σ w' σ'->K (.tuple #[.pointer none,I i,I e]) w')
 (h0: ∀v w' σ',Pe F2 l=none->Stp w σ w' σ'->Tab σ' v (Q3 l)->Ok (Q3 l)->Yr (Q3 l)->K (.tuple #[v,I 0,I 0]) w'):Q0 P F.dt [lv] w K:=X4i (by
 unfold Q72;simp only[Y5,X5,L9];unfold X6 J3 V1 X4 X2 X1;have hgl:Xr.length=8:=rfl;have hal:(Q3 l).length=8+l.length:=by simp[Q3,hgl]
 refine X82 hs hg fun x0 w1 σ1 hk1 ha1=>?_;refine Q7i hk1.sat fun r w2 hr hk2 hm2=>?_;have ha2:=ha1.up hk2;have hx0:x0.cells= #[x0]/\x0.oneCell'=true:=Lf ha1
 have hx0s: ∃a n c,x0= .slice a n c:=by
  obtain ⟨cells,q1,_⟩:=ha1
  rcases q1.2 with ⟨rfl,_⟩ | ⟨g,cap,cur,rfl,_⟩<;>exact ⟨_,_,_,rfl⟩
 have hx0r:x0.ownBlock≠some r:=fun e=>by have:=(ha1.mem r e).2.1;omega
 obtain ⟨a0,n0,c0,hx0e⟩:=hx0s;rw[hx0e];refine M9 (cells:= #[.slice a0 n0 c0, .map (some r)]) X7 ?_;rw[<-hx0e];refine Sc (cs:=[x0, .map (some r)]) hk2.sat fun bt w3 σ3 hbt hk3 hbm=>?_;have hS3:=(hk1.trans hk2).trans hk3;have ha3:=ha2.up hk3;have hm3:=hm2.up hk3;have hrw:w.heap.size<=r:=Nat.le_trans hk1.bel.size hr;have hrl:r<w2.heap.size:=hm2.lt;have hbtw:w.heap.size<=bt:=C7 hbt (hk1.trans hk2);have hrbt:r≠bt:=by omega
 have hx0b:x0.ownBlock≠some bt:=fun e=>by have:=(ha2.mem bt e).2.1;omega
 rw[C0,fa];refine Yj hbm rfl ?_;refine X3s ha3 ?_;rw[hgl];have hl3:=hl.up hS3;refine Q6 hl3 ?_
 -- classes, each by itself
 refine V7 l.length (fun n w'=> ∃σ' x,Stp w σ w' σ'/\SLe σ3 σ'/\Z7 σ' w' bt [x, .map (some r)]/\W4 w.heap.size T.c 8 M8 σ' w' x (Xr++l.take n)/\P8 σ' w' r []/\x.ownBlock≠some bt/\x.ownBlock≠some r/\B3 F2 l 0=B3 F2 (l.drop n) n)
  ⟨σ3,x0,hS3,SLe.refl _,hbm,by simpa using ha3,hm3,hx0b,hx0r,rfl⟩ fun n w4 d hn hinv=>?_
 obtain ⟨σ4,x,hS4,le4,hb4,ha4,hm4,hxb,hxr,hfb⟩:=hinv;refine Y9 ?_;refine Q4 (fun hh=>?_) (fun hh=>?_)
 .have hn':n<l.length:=by simpa using hh
  refine E4 (hl3.lift le4) hn' fun p cells hl1 hl2 hr1=>?_;refine Z3 hS4.sat hl1 hl2 ?_;refine Z9 hS4.sat (by rfl) hl2 (Rep.one hr1) fun q w5 σ5 hk5 hq5=>?_
  have hS5:=hS4.trans hk5;have hr5:=RCl_lift hr1 ⟨hk5.le⟩;refine Z3 hk5.sat hq5 hl2 ?_;have hsmn:=hsm _ (List.getElem_mem hn');refine X80 hk5.sat (hg.lift ⟨hS5.le⟩) hr5 hsmn.1 fun w6 σ6 hk6=>?_;have hS6:=hS5.trans hk6;have hfb2:=Da hn' hfb;refine Lb ?_;refine Q4 (fun hh2=>?_) (fun hh2=>?_)
  .have hne: ¬F2 l[n]=0:=by simpa using hh2
   rw[if_neg hne] at hfb2;refine h1 _ _ _ _ ?_ hS6;unfold Pe;rw[hfb2]
  .have hz:F2 l[n]=0:=by simpa using hh2
   rw[if_pos hz] at hfb2;have hk56:=hk5.trans hk6;have hb6:=hb4.up hk56;have ha6:=ha4.up hk56;have hm6:=hm4.up hk56;have hq6:=hq5.up hk6;have hr6:=RCl_lift hr5 ⟨hk6.le⟩;have hxs: ∀k,x.ownBlock=some k->k<w6.heap.size:=fun k hk=>(ha6.mem k hk).2.1;refine V3 hk6.sat ?_;refine Y1 (.pointer (some ⟨bt,0,none⟩)) (fun w hb=>by rw[C0];exact Y4 rfl) ?_
   refine Y1 (.pointer (some ((⟨bt,0,none⟩:Addr).add 0))) (fun t w hb e=>by rw[e,fa];exact Y4 rfl) ?_
   refine Y1 x (fun t w hb e=>by rw[e];exact Yj (hb6.step hb.stp) rfl (Y4 rfl)) ?_
   refine Y1 (.agg cells.toArray) (fun w hb=>Z3 hb.sat hq6 hl2 (Y4 rfl)) ?_
   refine Zq (Φ:=fun σ' v=> ∃ds:List Value,v= .agg ds.toArray/\ds.length=8/\M8 σ' l[n] ds) (fun t w hb e=>by
    rw[e];exact X6v hb.sat hr6 hsmn fun lv fv mv w' σ' hk hrc=>Er hb hk ⟨_,rfl,rfl,hrc⟩) ?_
   refine Zq (w:=w6) (σ:=σ6) (Φ:=fun σ' v=>Sl 8 M8 σ' v [l[n]]) (fun t w hb e=>by
    obtain ⟨σ',hk,ds,rfl,hd1,hd2⟩:=e;refine C1 (R:=M8) (sz:=8) hk.sat [.agg ds.toArray] [l[n]] rfl rfl (by simpa [Value.cells] using hd1) rfl ⟨by simpa [Value.cells] using hd2,trivial⟩ fun u w2 σ2 hk2 hu=>?_
    exact ⟨hk2.bel,σ2,hk.trans hk2,hu⟩) ?_
   rintro t43 t44 t45 t46 t47 t48 w7 hb7 _ _ e45 _ _ ⟨σ8,hk8,hu8⟩;subst e45;have hS8:=hS6.trans hk8;have hb8:=hb6.up hk8;have ha8:=ha6.up hk8;have hm8:=hm6.up hk8;have hbl:=hb6.lt;have hml:=hm6.lt;refine Vn hS8 ha8 hu8 rfl (by simp[hgl];omega) (by simp[hgl];omega) fun x' w9 hn9 hS9 ha9 hat9=>?_
   have hb9:=hb8.nx hn9 hxb;have hm9:=hm8.nx hn9 hxr
   have hxb':x'.ownBlock≠some bt:=fun e=>by
    rcases hat9 with e2 | e2
    .exact hxb (e2▸e)
    .have:=e2 bt e;have:=hk8.bel.size;omega
   have hxr':x'.ownBlock≠some r:=fun e=>by
    rcases hat9 with e2 | e2
    .exact hxr (e2▸e)
    .have:=e2 r e;have:=hk8.bel.size;omega
   obtain ⟨hxc1,hxc2⟩:=Lf ha9;rw[C0,fa];refine Vy hb9 V5 hxc1 hxc2 fun w10 u10 hb10=>?_;have hS10:=u10.stp hS9 hbtw hb9.1;have k10:Kpt (fun k=>k=bt) w9 w10:=Kpt.of_upd u10 rfl;refine C2 ?_;refine Z4 hl3.max hn' ⟨σ8,x',hS10,le4.more ⟨fun b o e=>hk8.le _ _ (hk56.le _ _ e)⟩,hb10,?_,hm9.kp k10 hrbt,hxb',hxr',hfb2⟩;have:=ha9.kp k10 fun k hk e=>hxb' (e▸hk);rw[List.take_add_one,List.getElem?_eq_getElem hn',<-List.append_assoc];exact this
 have hn': ¬n<l.length:=by simpa using hh
 rw[List.take_of_length_le Q5] at ha4;rw[List.drop_eq_nil_of_le Q5] at hfb;have hfb:B3 F2 l 0=none:=hfb;have hck:=Yg hfb;have hcf: ∀c∈l,Yy c/\Nm c/\c.name≠[]:=fun c hc=>An (hck c hc)
 have hsmall: ∀c∈Q3 l,Yy c:=fun c hc=>by
  rcases List.mem_append.1 hc with hc | hc
  .exact (Eb c hc).1
  .exact (hcf c hc).1
 have hnmall: ∀c∈Q3 l,Nm c:=fun c hc=>by
  rcases List.mem_append.1 hc with hc | hc
  .exact (Eb c hc).2.1
  .exact (hcf c hc).2.1
 have hlenall:(Q3 l).length<=100000:=by omega
 unfold Pe at h1 h0;rw[hfb] at h1 h0;simp only at h1 h0
 -- from now on the classes stay
 obtain ⟨σ5,hS5,hv5,le5,old5⟩:=ha4.keep hS4;have hb5:Z7 σ5 w4 bt _:=⟨(old5 bt fun e=>hxb e.symm).trans hb4.1,hb4.2⟩;have hm5:P8 σ5 w4 r []:=⟨(old5 r fun e=>hxr e.symm).trans hm4.1,hm4.2⟩;obtain ⟨σ6,hS6,hb6,le6,old6⟩:=hb5.keep hS5 hbtw;have hm6:P8 σ6 w4 r []:=⟨(old6 r hrbt).trans hm5.1,hm5.2⟩;have hv6:Sl 8 M8 σ6 x (Q3 l):=hv5.le le6;clear hb5 hb4 ha4;rw[C0,fa];refine ld hS6.sat hb6 rfl ?_;refine Q6 hv6 ?_
 refine V7 (Q3 l).length (fun n w'=> ∃σ' m,Stp w σ w' σ'/\SLe σ6 σ'/\P8 σ' w' r m/\(∀k,T0 m k=(U2 ((Q3 l).take n) k).map (fun i:Nat=>I (i:Int)))/\ ∀j,j<n->(U2 ((Q3 l).take j) (J0 (Q3 l) j)).isSome=false)
  ⟨σ6,[],hS6,SLe.refl _,hm6,by simp[T0,U2],by intro j hj;omega⟩ fun n w5 d hn2 hinv=>?_
 obtain ⟨σ7,m,hS7,le7,hm7,hlm,hnd⟩:=hinv;refine Y9 ?_;refine Q4 (fun hh2=>?_) (fun hh2=>?_)
 .have hn3:n<(Q3 l).length:=by simpa using hh2
  refine E4 (hv6.lift le7) hn3 fun p cells hl1 hl2 hr1=>?_;refine Z3 hS7.sat hl1 hl2 ?_;refine Z9 hS7.sat (by rfl) hl2 (Rep.one hr1) fun q w6 σ8 hk8 hq8=>?_
  obtain ⟨lv',fv,mv,rfl,f1,f2,f3,f4,f5⟩:=hr1;have hS8:=hS7.trans hk8;have le8:SLe σ6 σ8:=le7.more ⟨hk8.le⟩;have hm8:=hm7.up hk8;have hb8:=hb6.lift le8;rw[fa];refine ld hk8.sat hq8 rfl ?_;refine Fx ?_;unfold Lo;simp only[D0];unfold X6;rw[C0,fa];refine ld hk8.sat hb8 rfl ?_;refine X6e Z5 hm8.2 _ ?_;refine J5 (vs:=[_,_]) rfl ?_;refine J5 (vs:=[_,_]) rfl ?_;have hna:=Q1G hn3;have hfd:=hlm (Q3 l)[n].name;cases hfc:U2 ((Q3 l).take n) (Q3 l)[n].name with
  | some i=>
   rw[hfc] at hfd;rw[hfd];refine Z1 ?_
   have hdup:Kp (Q3 l)=some n:=by
    unfold Kp;rw[List.find?_range_eq_some];refine ⟨by rw[hna,hfc];rfl,by simpa using hn3,fun j hj=>by rw[hnd j hj];rfl⟩
   refine Wh ⟨by omega,by omega⟩ ?_
   refine h1 _ _ _ _ ?_ hS8;rw[hdup];rfl
  | none=>
   rw[hfc] at hfd;rw[hfd];refine Z0 ?_;refine V3 hk8.sat ?_;refine Y1 (.pointer (some ⟨bt,0,none⟩)) (fun w hb=>by rw[C0];exact Y4 rfl) ?_
   refine Y1 (.pointer (some ((⟨bt,0,none⟩:Addr).add 1))) (fun t w hb e=>by rw[e,fa];exact Y4 rfl) ?_
   refine Y1 (.pointer (some (q.add 0))) (fun w hb=>by rw[fa];exact Y4 rfl) ?_
   refine Y1 (.map (some r)) (fun t w hb e=>by rw[e];exact ld hb.sat hb8 rfl (Y4 rfl)) ?_
   refine Y1 (S (Q3 l)[n].name) (fun t w hb e=>by rw[e];exact ld hb.sat hq8 rfl (Y4 rfl)) ?_
   rintro t71 t72 t74 t73 t75 w9 hb9 _ _ _ rfl rfl;refine Q1e Z5 (hm8.up hb9.stp) _ (I n) fun w10 u10 hm10=>?_;have hS9:=hS8.trans hb9.stp;have hS10:=u10.stp hS9 hrw hm10.1;refine C2 ?_;refine Z4 Q5 hn3 ⟨σ8,_,hS10,le8,hm10,fun k=>?_,fun j hj=>?_⟩
   .rw[Q94,X3Q hn3 k]
    by_cases e:(Q3 l)[n].name=k
    .subst e
     rw[if_pos rfl,hfc];simp
    .rw[if_neg e,hlm k]
     cases U2 ((Q3 l).take n) k with
     | some i=>rfl
     | none=>simp[e]
   .by_cases e:j=n
    .subst e;rw[hna,hfc];rfl
    .exact hnd j Q5
 have hn3: ¬n<(Q3 l).length:=by simpa using hh2
 have hne:n=(Q3 l).length:=by omega
 subst hne;rw[List.take_of_length_le (Nat.le_refl _)] at hlm
 have hdup:Kp (Q3 l)=none:=by
  unfold Kp;rw[List.find?_eq_none];intro j hj;rw[hnd j (by simpa using hj)];simp
 rw[hdup] at h1 h0;simp only at h1 h0;have hown:=Q1I hdup;obtain ⟨σ8,hS8,hm8,le8,_⟩:=hm7.keep hS7 hrw;have le68:SLe σ6 σ8:=le7.more ⟨le8⟩;have ht8:Tab σ8 (.pointer (some ⟨bt,0,none⟩)) (Q3 l):=⟨⟨bt,0,none⟩,x,r,m,rfl,hb6.lift le68,hv6.lift le68,hm8,hlm⟩;have hb8:=hb6.lift le68;have hv8:=hv6.lift le68;clear hm7 hm8 hh2 hn3 hn2 hh hn' hn hnd;have hdr:(Q3 l).drop 8=l:=by simp[Q3,hgl]
 rw[C0,fa];refine ld hS8.sat hb8 rfl ?_;refine Gf hv8 (some (I (8:Nat))) none 8 (Q3 l).length (.inr rfl) (.inl ⟨rfl,rfl⟩) Q5 (Nat.le_refl _) fun v9 hv9=>?_;rw[hdr,List.take_of_length_le Q5] at hv9;refine Q6 hv9 ?_;refine V7 l.length (fun n w'=> ∃σ',Stp w σ w' σ'/\SLe σ8 σ'/\B3 (fun c=>(B8 (Q3 l) c:Int)) l 0=B3 (fun c=>(B8 (Q3 l) c:Int)) (l.drop n) n) ⟨σ8,hS8,SLe.refl _,rfl⟩ fun n w6 d hn hinv=>?_;obtain ⟨σ9,hS9,le9,hfu⟩:=hinv;refine Y9 ?_;refine Q4 (fun hh=>?_) (fun hh=>?_)
 .have hn':n<l.length:=by simpa using hh
  refine E4 (hv9.lift le9) hn' fun p cells hl1 hl2 hr1=>?_;refine Z3 hS9.sat hl1 hl2 ?_;refine Z9 hS9.sat (by rfl) hl2 (Rep.one hr1) fun q w7 σ10 hk10 hq10=>?_
  have hS10:=hS9.trans hk10;refine Z3 hk10.sat hq10 hl2 ?_;have hfu2:=Da hn' hfu;refine X6y hk10.sat (ht8.lift (le9.more ⟨hk10.le⟩)) (RCl_lift hr1 ⟨hk10.le⟩) fun w8 σ11 hk11=>?_;refine Lb ?_;refine Q4 (fun hh2=>?_) (fun hh2=>?_)
  .have hne: ¬(B8 (Q3 l) l[n]:Int)=0:=by simpa using hh2
   rw[if_neg hne] at hfu2;refine h1 _ _ _ _ ?_ (hS10.trans hk11);rw[hfu2]
  .have hz:(B8 (Q3 l) l[n]:Int)=0:=by simpa using hh2
   rw[if_pos hz] at hfu2;refine C2 ?_;exact Z4 hl3.max hn' ⟨σ11,hS10.trans hk11,le9.more ⟨fun b o e=>hk11.le _ _ (hk10.le _ _ e)⟩,hfu2⟩
 have hn': ¬n<l.length:=by simpa using hh
 rw[List.drop_eq_nil_of_le Q5] at hfu;have hfu:B3 (fun c=>(B8 (Q3 l) c:Int)) l 0=none:=hfu;rw[hfu] at h1 h0;simp only at h1 h0;have hup:=Yg hfu;have ht9:=ht8.lift le9;clear hh hn' hn;rw[C0,fa];refine ld hS9.sat (hb8.lift le9) rfl ?_;refine Gf (hv8.lift le9) (some (I (8:Nat))) none 8 (Q3 l).length (.inr rfl) (.inl ⟨rfl,rfl⟩) Q5 (Nat.le_refl _) fun v10 hv10=>?_;rw[hdr,List.take_of_length_le Q5] at hv10;rw[Zl];refine Q0b (Yk (Q3 l)) hS9.sat hv10 (fun c cs w7 K hc hs7 hr hlen hK=>J8 (first:=[.pointer (some ⟨bt,0,none⟩)]) (caps:=[]) ?_) fun w7 hb7=>?_
 .exact X8a hs7 ht9 hlenall hsmall hr fun w' σ' hk=>hK w' hk.bel
 have hS10:=hS9.trans (Stp.of_below hS9.sat hb7);refine T2 ?_;rw[Yw];cases hlo:l.findIdx? (Yk (Q3 l)) with
 | some i=>
  refine Z1 ?_;refine h1 _ _ _ _ ?_ hS10;rw[hlo];rfl
 | none=>
  rw[hlo] at h1 h0;simp only at h1 h0;refine Z0 ?_;have hlo': ∀c∈l,Yk (Q3 l) c=false:=fun c hc=>List.findIdx?_eq_none_iff.1 hlo c hc;have hacy:=X01 hown (fun c hc=>(hcf c hc).2.2) hlo'
  have hfull:X6g (Q3 l):=fun c hc u hu=>by
   rcases List.mem_append.1 hc with hc | hc
   .rw[(Eb c hc).2.2] at hu;simp at hu
   .have:=hup c hc
    unfold B8 at this
    split at this
    .simp at this
    .split at this
     .simp at this
     .rename_i hnb
      have hnb:c.like.any (I9 (Q3 l))=false:=eq_false_of_ne_true hnb;have:=List.any_eq_false.1 hnb u hu;unfold I9 at this;cases hd:lk (Q3 l) u with
      | none=>rw[hd] at this;simp at this
      | some d=>exact ⟨d,rfl⟩
  have hok:Ok (Q3 l):=⟨hacy,hlenall,hsmall,hfull,hnmall⟩;refine X8b (frm:=8) hS10.sat (ht9.lift ⟨(Stp.of_below hS9.sat hb7).le⟩) hacy hown hlenall hsmall Q5 Q5 fun v11 w8 σ11 hk11 hv11 hol hoi=>?_;have hS11:=hS10.trans hk11;have ht11:=ht9.lift ⟨fun b o e=>hk11.le _ _ e⟩;refine Q6 hv11 ?_;have hil:(ints (O9 (Q3 l) 8)).length=(O9 (Q3 l) 8).length:=by simp
  rw[hil];refine V7 (O9 (Q3 l) 8).length (fun n w'=> ∃σ',Stp w σ w' σ'/\SLe σ11 σ'/\ ∀j∈(O9 (Q3 l) 8).take n,O7 (Q3 l) ((Q3 l).getD j Cla.zero)=0) ⟨σ11,hS11,SLe.refl _,by simp⟩ fun n w9 d hn hinv=>?_
  obtain ⟨σ12,hS12,le12,hno⟩:=hinv;refine Y9 ?_;refine Q4 (fun hh=>?_) (fun hh=>?_)
  .have hn':n<(O9 (Q3 l) 8).length:=by simpa using hh
   refine E4 (hv11.lift le12) (by rw[hil];exact hn') fun p cells hl1 hl2 hr1=>?_
   obtain ⟨rfl,_⟩:=hr1;refine Y6 hS12.sat hl1 rfl ?_;simp only[List.getElem_map];rw[C0,fa];have le8x:SLe σ8 σ12:=le9.more (SLe.more ⟨hk11.le⟩ le12);refine ld hS12.sat (hb8.lift le8x) rfl ?_;have hji:=hoi _ (List.getElem_mem hn');refine E4 (hv8.lift le8x) hji fun p2 cells hl1 hl2 hr1=>?_;refine Z3 hS12.sat hl1 hl2 ?_;have hat:(Q3 l).getD (O9 (Q3 l) 8)[n] Cla.zero=(Q3 l)[(O9 (Q3 l) 8)[n]]:=by rw[List.getD_eq_getElem?_getD,List.getElem?_eq_getElem hji];rfl
   have hmem:=List.getElem_mem hji;refine X4Z hS12.sat (ht11.lift le12) hok hr1 (hsmall _ hmem) (hnmall _ hmem) fun w10 σ13 hk13=>?_;have hS13:=hS12.trans hk13;refine Lb ?_;refine Q4 (fun hh2=>?_) (fun hh2=>?_)
   .have hne: ¬O7 (Q3 l) (Q3 l)[(O9 (Q3 l) 8)[n]]=0:=by simpa using hh2
    refine Wh ⟨by omega,by omega⟩ ?_
    have hfind:(O9 (Q3 l) 8).find? (fun j=> !decide (O7 (Q3 l) ((Q3 l).getD j Cla.zero)=0))=some (O9 (Q3 l) 8)[n]:=by
     rw[List.find?_eq_some_iff_getElem];refine ⟨by rw[hat];simpa using hne,n,hn',rfl,fun j hj=>?_⟩
     have:=hno _ (List.mem_take_iff_getElem.2 ⟨j,by omega,rfl⟩)
     rw[this];simp
    have:=h1 (((O9 (Q3 l) 8)[n]:Int)-8) (O7 (Q3 l) (Q3 l)[(O9 (Q3 l) 8)[n]]) w10 σ13 (by rw[hfind];simp only[hat]) hS13
    exact this
   .have hz:O7 (Q3 l) (Q3 l)[(O9 (Q3 l) 8)[n]]=0:=by simpa using hh2
    refine C2 ?_;refine Z4 Q5 hn' ⟨σ13,hS13,le12.more ⟨hk13.le⟩,fun j hj=>?_⟩;rw[List.take_add_one,List.getElem?_eq_getElem hn'] at hj
    rcases List.mem_append.1 hj with hj | hj
    .exact hno j hj
    .simp at hj;subst hj;rw[hat];exact hz
  .have hn': ¬n<(O9 (Q3 l) 8).length:=by simpa using hh
   rw[List.take_of_length_le Q5] at hno
   have hfind:(O9 (Q3 l) 8).find? (fun j=> !decide (O7 (Q3 l) ((Q3 l).getD j Cla.zero)=0))=none:=by
    rw[List.find?_eq_none];intro j hj;rw[hno j hj];simp
   rw[hfind] at h0;exact h0 _ _ _ rfl hS12 (ht11.lift le12) hok hown)
end Go.Proofs.Y
namespace Go.Hm
open Go.Kd
def X5g (m:Hm.Met):Bool:= !(decide (50<m.code.length)||decide (8<m.params.length)||decide (8<m.catches.length))
def X6J (c:Cla):Bool:= !(decide (6<c.like.length)||decide (6<c.fields.length)||decide (6<c.methods.length))&&c.methods.all X5g
def X6K (l:List Cla):Bool:= !decide (12<l.length)&&l.all X6J
def sA:Q9:=[65]
theorem X5h {l:List Cla} (h:X6K l=true):l.length<=12/\ ∀c∈l,X6J c=true:=by
 simp only[X6K,Bool.and_eq_true,Bool.not_eq_true',decide_eq_false_iff_not,List.all_eq_true] at h;exact ⟨by omega,h.2⟩
theorem X9O {l:List Cla} (h:X6K l=true): ∀c∈l,Yy c:=by
 intro c e;have:=(X5h h).2 c e;simp only[X6J,X5g,Bool.and_eq_true,Bool.not_eq_true',Bool.or_eq_false_iff,decide_eq_false_iff_not,List.all_eq_true] at this;obtain ⟨⟨⟨a,b⟩,g⟩,d⟩:=this;refine ⟨by omega,by omega,by omega,fun m f=>?_⟩
 obtain ⟨⟨p,q⟩,r⟩:=d m f;exact ⟨by omega,by omega,by omega⟩
end Go.Hm
namespace Go.Proofs.Y
open Go.Emb Go.RowKit Go.Kd Go.Hm
variable {w : World} {K : Value -> World -> Prop} {v : Value}
theorem Y17:P.underlying T.z=some (.pointer T.a4):=by kernel_rfl
theorem X7f (d:Nat) (o:Option Addr):(Op.equalIn (d+1) T.z (.pointer o) (.pointer none)).run P w= .ok o.isNone w:=by
 cases o<;>simp[Op.equalIn,run_underlying Y17]
theorem Y0o {a:Addr} {b c:Operand} (h:K (.bool false) w):Z2 P .eql T.z b c (.pointer (some a)) (.pointer none) w K:=by
 have e:(Op.equal T.z (.pointer (some a)) (.pointer none)).run P w= .ok false w:=X7f 9999 _;unfold Z2;rw[Y8 (v:= .bool false) (w':=w) (by simp[eqGuard,Go.binOp,e])]
 exact h
end Go.Proofs.Y
namespace Go.Hm
open Go.Kd
theorem X0M {l:List Cla} {frm:Nat}: ∀(f:Nat) (out:List Nat) (i:Nat),(∀y∈out,y∈Zc l frm f out i)/\(0<f->frm<=i->i∈Zc l frm f out i):=by
 intro f
 induction f with
 | zero=>intro out i;exact ⟨fun y a=>a,fun h=>by omega⟩
 | succ f e=>
  intro out i
  have b: ∀(d:List Q9) (o:List Nat),∀y∈o,y∈d.foldl (fun out n=>Zc l frm f out ((U2 l n).getD 0)) o:=by
   intro d
   induction d with
   | nil=>intro o y a;exact a
   | cons u r c=>intro o y a;exact c _ y ((e o _).1 y a)
  simp only[Zc]
  split
  .exact ⟨fun y a=>a,fun _ h=>by omega⟩
  .split
   .rename_i h;exact ⟨fun y a=>a,fun _ _=>h⟩
   .exact ⟨fun y a=>List.mem_append_left _ (b _ _ y a),fun _ _=>by simp⟩
theorem X5y {l:List Cla} {frm i:Nat} (d:frm<=i) (e:i<l.length):i∈O9 l frm:=by
 unfold O9
 have key: ∀(is out:List Nat),(∀y∈out,y∈is.foldl (fun out i=>Zc l frm (l.length+1) out i) out)/\(i∈is->i∈is.foldl (fun out i=>Zc l frm (l.length+1) out i) out):=by
  intro is
  induction is with
  | nil=>intro out;exact ⟨fun y b=>b,fun h=>by simp at h⟩
  | cons a r c=>
   intro out;refine ⟨fun y b=>(c _).1 y ((X0M _ _ _).1 y b),fun h=>?_⟩
   rcases List.mem_cons.1 h with rfl | h
   .exact (c _).1 _ ((X0M _ _ _).2 (by omega) d)
   .exact (c _).2 h
 refine (key _ _).2 ?_;rw[List.mem_drop_iff_getElem];exact ⟨i-frm,by simp;omega,by simp;omega⟩
theorem X54 {s:Q9} (h:C6 s=true):name s=true:=Mf (by rw[h,Bool.or_true])
theorem X0U {a:Q9} (h:name a=true):arr a=false:=by
 cases e:arr a with
 | false=>rfl
 | true=>
  exfalso
  have d:2<=a.length/\a.drop (a.length-2)=[91,93]:=by simpa [arr] using e
  have b:(93:UInt8)∈a:=List.mem_of_mem_drop (i:=a.length-2) (by rw[d.2];simp)
  cases a with
  | nil=>simp at b
  | cons c r=>
   simp only[name,Bool.and_eq_true,List.all_eq_true] at h;have:=h.2 _ b
   revert this;decide
end Go.Hm
namespace Go.Proofs.Y
open Go.Emb Go.RowKit Go.Kd Go.Hm
theorem X5A {a:Q9} (h:name a=true):base a=(a,0):=by rw[Zj,X0U h];simp
theorem Eo {s:Q9} (h:C6 s=true):arr s=false/\base s=(s,0)/\right s=true/\plain s=false/\elem s=[]/\s≠I1/\s≠[]:=by
 have c:=Hm.X54 h;have a:=X0U c;have b:=X5A c;refine ⟨a,b,?_,?_,by simp[elem,a],?_,?_⟩
 .simp[right,b,h]
 .cases d:plain s with
  | false=>rfl
  | true=>
   simp only[plain,Bool.or_eq_true,decide_eq_true_eq] at d
   rcases d with (e | e) | e<;>subst e<;>revert h<;>decide
 .rintro rfl;revert h;decide
 .rintro rfl;revert h;decide
structure Wf (l : List Cla) : Prop where
  ck : ∀ c ∈ l, F2 c = 0
  own : Yr (Q3 l)
  acy : Uo (Q3 l)
  up : ∀ c ∈ l, B8 (Q3 l) c = 0
  mem : ∀ c ∈ l, O7 (Q3 l) c = 0
theorem Y18 {l:List Cla} (h:Pe F2 l=none):Wf l:=by
 unfold Pe at h
 split at h
 .cases h
 rename_i j
 split at h
 .cases h
 rename_i k
 split at h
 .cases h
 rename_i m
 split at h
 .cases h
 rename_i n
 split at h
 .cases h
 rename_i o;have d:=Yg j;have a:=Q1I k;have g: ∀c∈l,Yk (Q3 l) c=false:=fun c b=>List.findIdx?_eq_none_iff.1 n c b;refine ⟨d,a,X01 a (fun c b=>(An (d c b)).2.2) g,fun c b=>by have:=Yg m c b;omega,fun c b=>?_⟩
 obtain ⟨i,p,rfl⟩:=List.getElem_of_mem b;have f:Xr.length=8:=rfl;have:=List.find?_eq_none.1 o (8+i) (X5y Q5 (by simp[Q3,f];omega))
 have e:(Q3 l).getD (8+i) Cla.zero=l[i]:=by
  rw[List.getD_eq_getElem?_getD,Q3,List.getElem?_append_right Q5,f,show 8+i-8=i by omega,List.getElem?_eq_getElem p];rfl
 rw[e] at this
 simpa using this
section
variable {l : List Cla} (wf : Wf l)
include wf
theorem Wf.names {c:Cla} (hc:c∈Q3 l):C6 c.name=true:=by
 rcases List.mem_append.1 hc with hc | hc
 .have: ∀c∈Xr,C6 c.name=true:=by decide+kernel
  exact this c hc
 .have:=wf.ck c hc
  unfold F2 at this
  split at this
  .cases this
  .split at this
   .rename_i a
    simp only[Gc,Bool.and_eq_true] at a;obtain ⟨⟨⟨⟨⟨⟨⟨⟨b,_⟩,_⟩,_⟩,_⟩,_⟩,_⟩,_⟩,_⟩:=a;exact List.all_eq_true.1 b c.name V5
   .cases this
theorem Wf.lkn {n:Q9} {c:Cla} (h:lk (Q3 l) n=some c):C6 n=true:=by
 obtain ⟨e,a,_⟩:=N1 h;rw[<-e];exact wf.names a
theorem Wf.root:lk (Q3 l) L3=some ⟨L3,[],[],false,false,false,[],[]⟩:=wf.own.lk (c:=⟨L3,[],[],false,false,false,[],[]⟩) (List.mem_append_left _ L7)
theorem Wf.fault:lk (Q3 l) B0=some ⟨B0,L3,[],false,false,false,[⟨Wx,B9,false⟩],[]⟩:=wf.own.lk (c:=⟨B0,L3,[],false,false,false,[⟨Wx,B9,false⟩],[]⟩) (List.mem_append_left _ L7)
theorem Wf.super {c:Cla} (hc:c∈Q3 l):c.name=L3\/ ∃d,lk (Q3 l) c.super=some d:=by
 rcases List.mem_append.1 hc with hc | hc
 .have: ∀c∈Xr,c.name=L3\/c.super=L3\/c.super=B0:=by decide
  rcases this c hc with h | h | h
  .exact .inl h
  .exact .inr ⟨_,h▸wf.root⟩
  .exact .inr ⟨_,h▸wf.fault⟩
 .right
  have:=wf.up c hc;unfold B8 at this
  split at this
  .cases this
  .rename_i h
   unfold Ji at h;cases a:lk (Q3 l) c.super with
   | none=>rw[a] at h;simp at h
   | some d=>exact ⟨d,rfl⟩
theorem Wf.toRoot: ∀(k:Nat) {n:Q9} {c:Cla},A0 (Q3 l) n<k->lk (Q3 l) n=some c->Hm.Reach (lk (Q3 l)) n L3:=by
 intro k
 induction k with
 | zero=>intro n c h;omega
 | succ k i=>
  intro n c j a;obtain ⟨e,g,_⟩:=N1 a
  rcases wf.super g with h | ⟨d,b⟩
  .rw[<-e,h];exact .refl wf.root
  .have f:c.super∈M6 c:=by simp[M6]
   exact .step a f (i (by have:=Yf wf.acy a f b;omega) b)
theorem Wf.kind {n:Q9} {c:Cla} (h:lk (Q3 l) n=some c):H7 (Q3 l) n=true:=by
 obtain ⟨d,a,b,e,f,g,i⟩:=Eo (wf.lkn h);have:Q4d (Q3 l) n=true:=by rw[Q5b,h];rfl
 simp[H7,b,a,this]
theorem Wf.sub_iff {a b:Q9}:Vm (Q3 l) a b=true↔H7 (Q3 l) a=true/\H7 (Q3 l) b=true/\(a=b\/(plain a=false/\plain b=false/\(a=I1\/(elem a≠[]/\b=L3)\/(lk (Q3 l) a≠none/\Hm.Reach (lk (Q3 l)) a b)))):=by
 unfold Vm;cases j:H7 (Q3 l) a<;>cases k:H7 (Q3 l) b<;>simp
 by_cases e:a=b
 .simp[e]
 cases pa:plain a<;>cases m:plain b<;>simp[e]
 by_cases g:a=I1
 .simp[g]
 simp only[g,false_or]
 by_cases d:elem a=[]
 .simp only[d,if_true,not_true_eq_false,false_and,false_or,Nh]
  constructor
  .intro h;obtain ⟨c,i⟩:=h.left;exact ⟨by rw[i];simp,h⟩
  .intro h;exact h.2
 .simp only[d,if_false,not_false_eq_true,true_and]
  constructor
  .exact .inl
  .rintro (h | ⟨h,_⟩)
   .exact h
   .cases f:lk (Q3 l) a with
    | none=>exact absurd f h
    | some c=>exact absurd (Eo (wf.lkn f)).2.2.2.2.1 d
theorem Wf.sub_class {a b:Q9} {c:Cla} (e:lk (Q3 l) a=some c):Vm (Q3 l) a b=true↔Hm.Reach (lk (Q3 l)) a b:=by
 obtain ⟨k,m,n,g,i,j,o⟩:=Eo (wf.lkn e);rw[wf.sub_iff];constructor
 .rintro ⟨_,_,rfl | ⟨_,_,h | ⟨h,_⟩ | ⟨_,h⟩⟩⟩
  .exact .refl e
  .exact absurd h j
  .exact absurd i h
  .exact h
 .intro h
  obtain ⟨d,f⟩:=h.right;exact ⟨wf.kind e,wf.kind f, .inr ⟨g,(Eo (wf.lkn f)).2.2.2.1, .inr (.inr ⟨by rw[e];simp,h⟩)⟩⟩
end
end Go.Proofs.Y
namespace Go.Proofs.Y
open Go.Emb Go.RowKit Go.Kd Go.Hm
theorem X22 {L:List Cla} (f:Uo L): ∀(k:Nat) {n:Q9} {c:Cla},A0 L n<k->c∈chain L n->Hm.Reach (lk L) n c.name/\lk L c.name=some c:=by
 intro k
 induction k with
 | zero=>intro n c h;omega
 | succ k o=>
  intro n c p hc;rw[Kn f] at hc;cases a:lk L n with
  | none=>rw[a] at hc;simp at hc
  | some d=>
   rw[a] at hc;have b:=(N1 a).1
   rcases List.mem_cons.1 hc with rfl | hc
   .rw[b];exact ⟨.refl a,a⟩
   .cases g:lk L d.super with
    | none=>rw[Em g] at hc;simp at hc
    | some e=>
     have i:d.super∈M6 d:=by simp[M6]
     obtain ⟨j,m⟩:=o (by have:=Yf f a i g;omega) hc
     exact ⟨.step a i j,m⟩
theorem X6R {l:List Cla} {a:Q9} (h:H7 (Q3 l) a=true) (g:plain a=false):a=I1\/elem a≠[]\/ ∃c,lk (Q3 l) a=some c:=by
 simp only[H7,Bool.or_eq_true,decide_eq_true_eq,Bool.and_eq_true] at h
 rcases h with h | ⟨e,h⟩
 .exact .inl h
 .by_cases d:elem a=[]
  .right;right
   have b:arr a=false:=by
    cases b:arr a with
    | false=>rfl
    | true=>
     have i:=Q9n b e;have:elem a=Kd.cutA a:=by simp[elem,b,e]
     rw[this] at d;have:=Xp b;rw[d] at this;simp at this;omega
   have f:base a=(a,0):=by rw[Zj,b];simp
   rw[f,g] at h;have h:Q4d (Q3 l) a=true:=by simpa using h
   rw[Q5b] at h;exact Option.isSome_iff_exists.1 h
  .exact .inr (.inl d)
section
variable {l : List Cla} (wf : Wf l)
include wf
theorem Wf.kRoot:H7 (Q3 l) L3=true:=wf.kind wf.root
theorem Wf.lkArr {a:Q9} {c:Cla} (h:lk (Q3 l) a=some c):elem a=[]:=(Eo (wf.lkn h)).2.2.2.2.1
theorem Wf.none_null:lk (Q3 l) I1=none:=by
 cases h:lk (Q3 l) I1 with
 | none=>rfl
 | some c=>exact absurd (wf.lkn h) L7
theorem Wf.sub_root {a:Q9} (h:H7 (Q3 l) a=true) (b:plain a=false):Vm (Q3 l) a L3=true:=by
 rw[wf.sub_iff];refine ⟨h,wf.kRoot, .inr ⟨b,by decide,?_⟩⟩
 rcases X6R h b with e | e | ⟨c,e⟩
 .exact .inl e
 .exact .inr (.inl ⟨e,rfl⟩)
 .exact .inr (.inr ⟨by rw[e];simp,wf.toRoot _ (Nat.lt_succ_self _) e⟩)
theorem Wf.sub_refl {a:Q9} (h:H7 (Q3 l) a=true):Vm (Q3 l) a a=true:=wf.sub_iff.2 ⟨h,h, .inl rfl⟩
end
end Go.Proofs.Y
namespace Go.Proofs.Y
open Go.Emb Go.RowKit Go.Kd Go.Hm
section
variable {l : List Cla} (wf : Wf l)
include wf
end
end Go.Proofs.Y
namespace Go.Hm
open Go.Kd
end Go.Hm
namespace Go.Proofs.Y
open Go.Emb Go.RowKit Go.Kd Go.Hm
section
variable {l : List Cla} (wf : Wf l)
include wf
end
end Go.Proofs.Y
namespace Go.Proofs.Y
open Go.Emb Go.RowKit Go.Kd Go.Hm
end Go.Proofs.Y
namespace Go.Proofs.Y
open Go.Emb Go.RowKit Go.Kd Go.Hm
section
variable {l : List Cla} (wf : Wf l)
include wf
end
end Go.Proofs.Y
namespace Go.Hm
open Go.Kd
structure Val where
  sort : Int
  n : Int
  s : Q9
  ref : Int
deriving DecidableEq
structure Cel where
  kind : Q9
  vals : List Val
deriving DecidableEq
def Val.zero:Val:=⟨0,0,[],0⟩
def Cel.zero:Cel:=⟨[],[]⟩
def R9 (k:Q9):Val:=if k=Zh then ⟨1,0,[],0⟩ else if k=Ww then ⟨2,0,[],0⟩ else if k=B9 then ⟨3,0,[],0⟩ else Val.zero
def U9 (cs:List Cel):Int:=(cs.map fun c=>1+(c.vals.length:Int)).sum
def D9 (room:Int) (cs:List Cel):Int:=room-U9 cs
def M4 (cs:List Cel) (r:Int):Bool:=decide (0<=r)&&decide (r<cs.length)
def Oz (cs:List Cel) (r:Int):Cel:=cs.getD r.toNat Cel.zero
def O8 (cs:List Cel) (r:Int):Q9:=if M4 cs r then (Oz cs r).kind else []
def Um (cs:List Cel) (r:Int):Int:=if M4 cs r then (Oz cs r).vals.length else 0
def K5 (ok:Q9->Bool) (cs:List Cel) (v:Val):Q9:=
 if v=Val.zero then I1 else if v=⟨1,v.n,[],0⟩ then Zh else if v=⟨2,v.n,[],0⟩/\(v.n=0\/v.n=1) then Ww
 else if v=⟨3,0,v.s,0⟩/\ok v.s=true then B9 else if v=⟨4,0,[],v.ref⟩ then O8 cs v.ref else []
def P1 (ok:Q9->Bool) (l:List Cla) (cs:List Cel) (v:Val) (k:Q9):Bool:= !decide (K5 ok cs v=[])&&Vm l (K5 ok cs v) k
def Vf (l:List Cla) (room:Int) (cs:List Cel) (k:Q9):List Cel×Int:=
 if Za l k=false then (cs,91) else if D9 room cs<1+((V0 l k).length:Int) then (cs,90) else (cs++[⟨k,(V0 l k).map fun f=>R9 f.kind⟩],0)
def Qm (l:List Cla) (e:Q9):Bool:= !decide (e=I1)&&H7 l e&&decide (Jx e<=2)
def Lg (l:List Cla) (room:Int) (cs:List Cel) (e:Q9) (n:Int):List Cel×Int:=
 if Qm l e=false then (cs,91) else if n<0 then (cs,93) else if D9 room cs<=n then (cs,90) else (cs++[⟨e++[91,93],List.replicate n.toNat (R9 e)⟩],0)
def C9 (cs:List Cel) (r a:Int):Int:=if M4 cs r then (if 0<=a/\a<((Oz cs r).vals.length:Int) then 0 else 93) else 92
def Lz (cs:List Cel) (r a:Int):Val:=if C9 cs r a=0 then (Oz cs r).vals.getD a.toNat Val.zero else Val.zero
def Wz (l:List Cla) (k:Q9) (i:Nat):Q9:=if elem k=[] then ((V0 l k).getD i Fld.zero).kind else elem k
def Qh (cs:List Cel) (r a:Int) (v:Val):List Cel:=cs.set r.toNat ⟨(Oz cs r).kind,(Oz cs r).vals.set a.toNat v⟩
def G5 (ok:Q9->Bool) (l:List Cla) (cs:List Cel) (r a:Int) (v:Val):List Cel×Int:=
 if C9 cs r a≠0 then (cs,C9 cs r a) else if P1 ok l cs v (Wz l (Oz cs r).kind a.toNat) then (Qh cs r a v,0) else (cs,91)
def Qx (n:Int) (v:Val):Bool:=decide (v.sort=4)&&decide (n<=v.ref)
def Q10 (cs:List Cel) (n:Int):List Cel:=
 if (cs.take (max n 0).toNat).any (fun c=>c.vals.any (Qx (max n 0))) then cs else cs.take (max n 0).toNat
structure ActH where
  kind : Int
  s : Q9
  n : Int
  ref : Int
  v : Val
deriving DecidableEq
def T8 (ok:Q9->Bool) (l:List Cla) (room:Int) (cs:List Cel) (x:ActH):List Cel:=
 if x.kind=0 then (Vf l room cs x.s).1 else if x.kind=1 then (Lg l room cs x.s x.n).1 else if x.kind=2 then (G5 ok l cs x.ref x.n x.v).1
 else if x.kind=4 then Q10 cs x.ref else cs
structure GoodC (ok : Q9 -> Bool) (l : List Cla) (cs : List Cel) (c : Cel) : Prop where
  is : elem c.kind ≠ [] \/ (Za l c.kind = true /\ c.vals.length = (V0 l c.kind).length)
  kd : H7 l c.kind = true
  fits : ∀ i (h : i < c.vals.length), P1 ok l cs c.vals[i] (Wz l c.kind i) = true
structure GoodH (ok : Q9 -> Bool) (l : List Cla) (room : Int) (cs : List Cel) : Prop where
  cells : ∀ c ∈ cs, GoodC ok l cs c
  left : 0 <= D9 room cs
theorem Ja (a b:List Cel):U9 (a++b)=U9 a+U9 b:=by simp[U9]
theorem C4 (a:List Cel):0<=U9 a:=by
 unfold U9
 induction a with
 | nil=>simp
 | cons c r b=>simp only[List.map_cons,List.sum_cons];omega
theorem Xs (a:List Cel):(a.length:Int)<=U9 a:=by
 unfold U9
 induction a with
 | nil=>simp
 | cons c r b=>simp only[List.map_cons,List.sum_cons,List.length_cons];omega
theorem W7 {cs:List Cel} {r:Int}:M4 cs r=true↔ ∃i:Nat,r=i/\i<cs.length:=by
 simp only[M4,Bool.and_eq_true,decide_eq_true_eq];constructor
 .rintro ⟨a,b⟩;exact ⟨r.toNat,by omega,by omega⟩
 .rintro ⟨i,rfl,h⟩;omega
theorem L5 {cs:List Cel} {i:Nat} (h:i<cs.length):Oz cs (i:Int)=cs[i]:=by
 unfold Oz;rw[Int.toNat_natCast,List.getD_eq_getElem?_getD,List.getElem?_eq_getElem h];rfl
theorem Qu {cs:List Cel} {i:Nat} (h:i<cs.length):O8 cs (i:Int)=cs[i].kind:=by
 unfold O8;rw[if_pos (W7.2 ⟨i,rfl,h⟩),L5 h]
theorem X6W {ok:Q9->Bool} {cs a:List Cel} {v:Val} (h:v.sort=4->O8 cs v.ref≠[]->O8 a v.ref=O8 cs v.ref) (c:K5 ok cs v≠[]):K5 ok a v=K5 ok cs v:=by
 unfold K5 at*
 split
 .rfl
 .split
  .rfl
  .split
   .rfl
   .split
    .rfl
    .split
     .rename_i d e f g b
      rw[if_neg d,if_neg e,if_neg f,if_neg g,if_pos b] at c;exact h (by rw[b]) c
     .rfl
theorem Ig {ok:Q9->Bool} {l:List Cla} {cs a:List Cel} {v:Val} {k:Q9} (h:v.sort=4->O8 cs v.ref≠[]->O8 a v.ref=O8 cs v.ref) (b:P1 ok l cs v k=true):P1 ok l a v k=true:=by
 unfold P1 at*
 have c:K5 ok cs v≠[]:=by
  intro e;rw[e] at b;simp at b
 rw[X6W h c];exact b
theorem X3Z {cs more:List Cel} {r:Int} (h:O8 cs r≠[]):O8 (cs++more) r=O8 cs r:=by
 have c:M4 cs r=true:=by
  cases b:M4 cs r with
  | true=>rfl
  | false=>unfold O8 at h;rw[b] at h;simp at h
 obtain ⟨i,rfl,a⟩:=W7.1 c;rw[Qu a,Qu (by simp;omega),List.getElem_append_left a]
theorem GoodC.app {ok:Q9->Bool} {l:List Cla} {cs more:List Cel} {c:Cel} (h:GoodC ok l cs c):GoodC ok l (cs++more) c:=
 ⟨h.is,h.kd,fun i a=>Ig (fun _ b=>X3Z b) (h.fits i a)⟩
section
variable {ok : Q9 -> Bool} {l : List Cla} {room : Int} {cs : List Cel}
theorem GoodH.snoc (h:GoodH ok l room cs) {c:Cel} (a:GoodC ok l (cs++[c]) c) (b:1+(c.vals.length:Int)<=D9 room cs):GoodH ok l room (cs++[c]):=by
 refine ⟨fun d hd=>?_,?_⟩
 .rcases List.mem_append.1 hd with hd | hd
  .exact (h.cells d hd).app
  .simp at hd;subst hd;exact a
 .unfold D9 at*;rw[Ja];simp only[U9,List.map_cons,List.map_nil,List.sum_cons,List.sum_nil] at*;omega
end
end Go.Hm
namespace Go.Proofs.Y
open Go.Emb Go.RowKit Go.Kd Go.Hm
section
variable {l : List Cla} (wf : Wf l)
include wf
theorem Wf.field_kinds {n:Q9} {f:Fld} (h:f∈V0 (Q3 l) n):B2 (Q3 l) f.kind=true:=by
 unfold V0 at h;obtain ⟨c,g,e⟩:=List.mem_flatMap.1 h;have j:=(X22 wf.acy _ (Nat.lt_succ_self _) (by simpa using g)).2
 obtain ⟨_,b,_⟩:=N1 j
 rcases List.mem_append.1 b with i | hl
 .have d: ∀c∈Xr,∀f∈c.fields,f.kind=B9:=by decide
  rw[d c i f e]
  have:H7 (Q3 l) B9=true:=by
   have m:right B9=true:=by decide
   have k:plain (base B9).1=true:=by decide
   simp[H7,m,k]
  simp[B2,this];decide
 .have:=wf.mem c hl
  unfold O7 at this
  split at this
  .cases this
  .split at this
   .cases this
   .rename_i a
    have a:Qd (Q3 l) c=false:=eq_false_of_ne_true a;unfold Qd at a;rw[Bool.or_eq_false_iff] at a;have:=List.any_eq_false.1 a.1 f e
    simpa using this
theorem Wf.zero_fits {ok:Q9->Bool} (g:ok []=true) {cs:List Cel} {k:Q9} (h:B2 (Q3 l) k=true):P1 ok (Q3 l) cs (R9 k) k=true:=by
 have a:H7 (Q3 l) k=true/\k≠I1:=by
  simp only[B2,Bool.and_eq_true,Bool.not_eq_true',decide_eq_false_iff_not] at h;exact ⟨h.2,h.1⟩
 by_cases c:k=Zh
 .subst c
  have:P1 ok (Q3 l) cs (R9 Zh) Zh=Vm (Q3 l) Zh Zh:=by
   unfold P1;simp[R9,K5,Val.zero,Zh]
  rw[this];exact wf.sub_refl a.1
 by_cases d:k=Ww
 .subst d
  have:P1 ok (Q3 l) cs (R9 Ww) Ww=Vm (Q3 l) Ww Ww:=by
   unfold P1;simp[R9,K5,Val.zero,Ww,Zh]
  rw[this];exact wf.sub_refl a.1
 by_cases f:k=B9
 .subst f
  have:P1 ok (Q3 l) cs (R9 B9) B9=Vm (Q3 l) B9 B9:=by
   unfold P1;simp[R9,K5,Val.zero,Ww,Zh,B9,g]
  rw[this];exact wf.sub_refl a.1
 .have i:R9 k=Val.zero:=by simp[R9,c,d,f]
  have:P1 ok (Q3 l) cs (R9 k) k=Vm (Q3 l) I1 k:=by
   rw[i];unfold P1 K5;simp[I1]
  rw[this]
  have b:plain k=false:=by
   cases b:plain k with
   | false=>rfl
   | true=>
    simp only[plain,Bool.or_eq_true,decide_eq_true_eq] at b
    rcases b with (e | e) | e
    .exact absurd e c
    .exact absurd e d
    .exact absurd e f
  exact wf.sub_iff.2 ⟨by simp[H7],a.1, .inr ⟨by decide,b, .inl rfl⟩⟩
end
theorem X04 (a:Q9):arr (a++[91,93])=true:=by
 simp[arr]
theorem X05 (a:Q9):Kd.cutA (a++[91,93])=a:=by
 simp[Kd.cutA]
theorem Q3F (a:Q9):base (a++[91,93])=((base a).1,(base a).2+1):=by
 rw[Zj,X04,if_pos rfl,X05]
theorem X3x {a:Q9} (h:right a=true) (b:(base a).2<=2):right (a++[91,93])=true:=by
 unfold right at*;rw[Q3F];simp only[Bool.and_eq_true,decide_eq_true_eq] at*;exact ⟨by omega,h.2⟩
theorem X4N {a:Q9} (h:right (a++[91,93])=true):elem (a++[91,93])=a:=by
 unfold elem;rw[X04,h,X05];rfl
theorem X3N {l:List Cla} {e:Q9}:Qm l e=true↔B2 l e=true/\right (e++[91,93])=true:=by
 unfold Qm B2;simp only[Bool.and_eq_true,Bool.not_eq_true',decide_eq_false_iff_not,decide_eq_true_eq];constructor
 .rintro ⟨⟨b,h2⟩,a⟩
  have c:right e=true:=by
   unfold H7 at h2;simp only[Bool.or_eq_true,Bool.and_eq_true,decide_eq_true_eq] at h2
   rcases h2 with h2 | h2
   .exact absurd h2 b
   .exact h2.1
  unfold Jx at a;rw[if_pos c] at a;exact ⟨⟨b,h2⟩,X3x c a⟩
 .rintro ⟨⟨b,h2⟩,a⟩
  refine ⟨⟨b,h2⟩,?_⟩;unfold right at a;rw[Q3F] at a;simp only[Bool.and_eq_true,decide_eq_true_eq] at a;unfold Jx
  split
  .omega
  .omega
section
variable {ok : Q9 -> Bool} {l : List Cla} {room : Int} {cs : List Cel}
theorem GoodH.obj (wf:Wf l) (f:ok []=true) (h:GoodH ok (Q3 l) room cs) (k:Q9):GoodH ok (Q3 l) room (Vf (Q3 l) room cs k).1:=by
 unfold Vf
 split
 .exact h
 split
 .exact h
 rename_i a j;have a:Za (Q3 l) k=true:=by simpa using a
 have e: ∃c,lk (Q3 l) k=some c:=by
  unfold Za at a;cases b:lk (Q3 l) k with
  | none=>rw[b] at a;cases a
  | some c=>exact ⟨c,rfl⟩
 obtain ⟨c,b⟩:=e;have g:elem k=[]:=wf.lkArr b;refine h.snoc ⟨.inr ⟨a,by simp⟩,wf.kind b,fun i d=>?_⟩ (by simp only[List.length_map];omega)
 simp only[List.length_map] at d;simp only[List.getElem_map,Wz,g,if_pos];rw[List.getD_eq_getElem?_getD,List.getElem?_eq_getElem d];exact wf.zero_fits f (wf.field_kinds (List.getElem_mem d))
theorem GoodH.arr (wf:Wf l) (k:ok []=true) (h:GoodH ok (Q3 l) room cs) (e:Q9) (n:Int):GoodH ok (Q3 l) room (Lg (Q3 l) room cs e n).1:=by
 unfold Lg
 split
 .exact h
 split
 .exact h
 split
 .exact h
 rename_i c m o;have c:Qm (Q3 l) e=true:=by simpa using c
 obtain ⟨j,f⟩:=X3N.1 c;have g:=X4N f
 have b:e≠[]:=by
  rintro rfl
  revert f;decide
 have a:H7 (Q3 l) (e++[91,93])=true:=by
  have a:=j;unfold B2 at a;simp only[Bool.and_eq_true,Bool.not_eq_true',decide_eq_false_iff_not] at a;obtain ⟨d,hk2⟩:=a;unfold H7 at hk2⊢;simp only[Bool.or_eq_true,Bool.and_eq_true,decide_eq_true_eq] at hk2⊢
  rcases hk2 with hk2 | hk2
  .exact absurd hk2 d
  .right;rw[Q3F];exact ⟨f,hk2.2⟩
 refine h.snoc ⟨.inl (by simp only;rw[g];exact b),a,fun i p=>?_⟩ (by simp only[List.length_replicate];omega)
 simp only[List.getElem_replicate,Wz,g,if_neg b];exact wf.zero_fits k j
theorem Q7d {r b x:Int} {v:Val} (g:M4 cs r=true):O8 (Qh cs r b v) x=O8 cs x:=by
 obtain ⟨i,rfl,f⟩:=W7.1 g;have a:(Qh cs i b v).length=cs.length:=by simp[Qh]
 cases c:M4 cs x with
 | false=>
  have:M4 (Qh cs i b v) x=false:=by unfold M4 at*;rw[a];exact c
  unfold O8;rw[c,this];rfl
 | true=>
  obtain ⟨j,rfl,d⟩:=W7.1 c;rw[Qu d,Qu (by rw[a];exact d)]
  simp only[Qh,Int.toNat_natCast,L5 f,List.getElem_set]
  split
  .rename_i e;subst e;rfl
  .rfl
theorem Ee {r a:Int} (h:C9 cs r a=0): ∃i j:Nat,r=i/\a=j/\ ∃(b:i<cs.length),j<(cs[i]).vals.length:=by
 unfold C9 at h
 split at h
 .rename_i d
  obtain ⟨i,rfl,b⟩:=W7.1 d
  split at h
  .rename_i c
   rw[L5 b] at c;exact ⟨i,a.toNat,rfl,by omega,b,by omega⟩
  .cases h
 .cases h
theorem GoodH.set (h:GoodH ok (Q3 l) room cs) (r m:Int) (v:Val):GoodH ok (Q3 l) room (G5 ok (Q3 l) cs r m v).1:=by
 unfold G5
 split
 .exact h
 rename_i s;have s:C9 cs r m=0:=by simpa using s
 split
 .rename_i t
  obtain ⟨i,j,rfl,rfl,g,C⟩:=Ee s;have A:M4 cs (i:Int)=true:=W7.2 ⟨i,rfl,g⟩;rw[L5 g,Int.toNat_natCast] at t;refine ⟨fun c y=>?_,?_⟩
  .have b: ∀{u:Val} {k:Q9},P1 ok (Q3 l) cs u k=true->P1 ok (Q3 l) (Qh cs i j v) u k=true:=fun B=>Ig (fun _ _=>Q7d A) B
   have a: ∀d∈cs,GoodC ok (Q3 l) (Qh cs i j v) d:=fun d o=>⟨(h.cells d o).is,(h.cells d o).kd,fun q n=>b ((h.cells d o).fits q n)⟩;have f:c∈cs.set i ⟨cs[i].kind,cs[i].vals.set j v⟩:=by simpa [Qh,L5 g] using y
   rcases List.mem_or_eq_of_mem_set f with f | rfl
   .exact a c f
   .have p:=a _ (List.getElem_mem g)
    refine ⟨by simpa using p.is,p.kd,fun q n=>?_⟩
    simp only[List.length_set] at n;simp only[List.getElem_set]
    split
    .rename_i e;subst e;exact b t
    .exact p.fits q n
  .have e:U9 (Qh cs i j v)=U9 cs:=by
    unfold U9
    congr 1
    have z:(Qh cs i j v).map (fun c=>1+(c.vals.length:Int))=cs.map (fun c=>1+(c.vals.length:Int)):=by
     unfold Qh;rw[List.map_set,L5 g];simp only[List.length_set,Int.toNat_natCast];have w:1+(cs[i].vals.length:Int)=(cs.map (fun c=>1+(c.vals.length:Int)))[i]'(by simpa using g):=by simp
     rw[w,List.set_getElem_self]
    exact z
   have:=h.left;unfold D9 at*;rw[e];exact this
 .exact h
theorem GoodH.cut (h:GoodH ok (Q3 l) room cs) (n:Int):GoodH ok (Q3 l) room (Q10 cs n):=by
 unfold Q10
 split
 .exact h
 rename_i hn;have hn:=eq_false_of_ne_true hn;generalize hm:max n 0=m at*;have hm0:0<=m:=by omega
 refine ⟨fun c hc=>?_,?_⟩
 .have hcs:=List.mem_of_mem_take hc
  refine ⟨(h.cells c hcs).is,(h.cells c hcs).kd,fun i hi=>Ig (fun h4 hk=>?_) ((h.cells c hcs).fits i hi)⟩;have h1:=List.any_eq_false.1 hn c hc;have h2: ¬Qx m c.vals[i]=true:=fun e=>h1 (List.any_eq_true.2 ⟨_,List.getElem_mem hi,e⟩)
  have hr:M4 cs c.vals[i].ref=true:=by
   cases he:M4 cs c.vals[i].ref with
   | true=>rfl
   | false=>unfold O8 at hk;rw[he] at hk;simp at hk
  obtain ⟨j,hj,hjl⟩:=W7.1 hr
  have hjm:(j:Int)<m:=by
   simp only[Qx,Bool.and_eq_true,decide_eq_true_eq,not_and] at h2;have:=h2 h4;omega
  rw[hj,Qu hjl,Qu (by rw[List.length_take];omega)]
  simp
 .have:U9 cs=U9 (cs.take m.toNat)+U9 (cs.drop m.toNat):=by rw[<-Ja,List.take_append_drop]
  have h3:=C4 (cs.drop m.toNat);have:=h.left;unfold D9 at*;omega
theorem GoodH.act (wf:Wf l) (a:ok []=true) (h:GoodH ok (Q3 l) room cs) (x:ActH):GoodH ok (Q3 l) room (T8 ok (Q3 l) room cs x):=by
 unfold T8
 split
 .exact GoodH.obj wf a h _
 split
 .exact GoodH.arr wf a h _ _
 split
 .exact GoodH.set h _ _ _
 split
 .exact GoodH.cut h _
 .exact h
theorem GoodH.empty (a:0<=room):GoodH ok l room []:=⟨by simp,by simpa [D9,U9] using a⟩
end
end Go.Proofs.Y
namespace Go.Emb
open Go.RowKit Go.Hm
variable {w : World} {σ σ1 σ' : Q2}
def O6 (_:Q2) (v:Val) (cs:List Value):Prop:=cs=[I v.sort,I v.n,S v.s,I v.ref]/\Qj v.sort/\Qj v.n/\v.s.length<=V4/\Qj v.ref
instance:Rep O6:=⟨fun _ h=>h,fun h u hu=>by rw[h.1] at hu;simp at hu;rcases hu with rfl | rfl | rfl | rfl<;>rfl⟩
def Xt (σ:Q2) (c:Cel) (cs:List Value):Prop:= ∃v,cs=[S c.kind,v]/\Sl 4 O6 σ v c.vals/\c.kind.length<=V4
instance:Rep Xt:=⟨fun hk ⟨v,h1,h2,h3⟩=>⟨v,h1,h2.le hk,h3⟩,fun ⟨v,h1,h2,h3⟩ u hu=>by
 rw[h1] at hu;simp at hu;rcases hu with rfl | rfl
 .rfl
 .exact Yl h2⟩
def Q7S (_:Q2) (x:List UInt8×Value) (cs:List Value):Prop:=cs=[S x.1,x.2]/\x.1.length<=V4/\ ∃a n c,x.2= .slice a n c
instance:Rep Q7S:=⟨fun _ h=>h,fun ⟨h1,_,a,n,c,h2⟩ u hu=>by
 rw[h1,h2] at hu;simp at hu;rcases hu with rfl | rfl<;>rfl⟩
def X7q (vs:List Value):Prop:=vs.Pairwise fun a b=> ∀k,a.ownBlock=some k->b.ownBlock≠some k
def Q6I (B:Nat) (e:TypeId) (σ:Q2) (w:World) (vs:List Value) (cs:List Cel):Prop:=vs.length=cs.length/\ ∀i (h:i<vs.length) (a:i<cs.length),J7 B e 4 O6 σ w vs[i] cs[i].vals
theorem Q6I.freeze {B:Nat} {e:TypeId}: ∀{vs:List Value} {cs:List Cel} {σ:Q2},X3 w σ->Q6I B e σ w vs cs->X7q vs->
 ∃σ',X3 w σ'/\SLe σ σ'/\(∀i (h:i<vs.length) (z:i<cs.length),Sl 4 O6 σ' vs[i] cs[i].vals)/\ ∀k,(∀v∈vs,v.ownBlock≠some k)->σ' k=σ k
 | [],cs,σ,f,h,g=>⟨σ,f,SLe.refl _,fun i h=>absurd h (Nat.not_lt_zero i),fun _ _=>rfl⟩
 | v::vs,[],σ,f,h,g=>by have:=h.1;simp at this
 | v::vs,c::cs,σ,f,h,g=>by
  obtain ⟨σ1,s,m,o,o1⟩:=(h.2 0 V5 V5).freeze f;obtain ⟨j,l⟩:=List.pairwise_cons.1 g
  have q:Q6I B e σ1 w vs cs:=⟨by simpa using h.1,fun i d a=>by
   have:=h.2 (i+1) (by simpa using d) (by simpa using a)
   simp only[List.getElem_cons_succ] at this;refine this.shiftR m fun k b=>?_;rw[o1 k fun e=>j _ (List.getElem_mem d) k e.symm b];exact (this.mem b).2.2⟩
  obtain ⟨y,t,n,p,o2⟩:=Q6I.freeze s q l;refine ⟨y,t,m.more n,fun i d a=>?_,fun k b=>?_⟩
  .cases i with
   | zero=>exact o.lift n
   | succ i=>exact p i (by simpa using d) (by simpa using a)
  .rw[o2 k fun u r=>b u (by simp[r]),o1 k fun e=>b v V5 e.symm]
def Jf (vs:List Value) (cs:List Cel):List (List UInt8×Value):=List.zipWith (fun v c=>(c.kind,v)) vs cs
theorem Cy {vs:List Value} {cs:List Cel} (h:vs.length=cs.length):(Jf vs cs).length=cs.length:=by simp[Jf,h]
end Go.Emb
namespace Go.Proofs.Y
open Go.Emb Go.RowKit Go.Kd Go.Hm
variable {w : World} {σ σ' : Q2}
def E2 (σ:Q2) (hp tv:Value) (room:Int) (cs:List Cel):Prop:= ∃a lv,hp= .pointer (some a)/\U0 σ a [tv,I room,I (U9 cs),lv]/\Sl 2 Xt σ lv cs
theorem E2.lift {hp tv:Value} {room:Int} {cs:List Cel} (h:E2 σ hp tv room cs) (b:SLe σ σ'):E2 σ' hp tv room cs:=by
 obtain ⟨a,lv,c,d,f⟩:=h;exact ⟨a,lv,c,d.lift b,f.lift b⟩
structure RowsIs (B : Nat) (D : Nat -> Prop) (σ : Q2) (w : World) (lv : Value) (cs : List Cel) : Prop where
  ex : ∃ vs, J7 B T.p 2 Q7S σ w lv (Jf vs cs) /\ Q6I B T.f σ w vs cs /\ X7q (lv :: vs) /\ ∀ k, D k ↔ ∃ v ∈ lv :: vs, v.ownBlock = some k
structure HeapIs (B : Nat) (D : Nat -> Prop) (σ : Q2) (w : World) (hp tv : Value) (room : Int) (cs : List Cel) : Prop where
  ex : ∃ b lv E, hp = .pointer (some ⟨b, 0, none⟩) /\ B <= b /\ Z7 σ w b [tv, I room, I (U9 cs), lv] /\ RowsIs B E σ w lv cs /\ ¬ E b /\ ∀ k, D k ↔ (k = b \/ E k)
variable {w' : World} {B : Nat} {D E : Nat -> Prop} {lv hp tv : Value} {room : Int} {cs : List Cel}
theorem RowsIs.mem (h:RowsIs B D σ w lv cs) {k:Nat} (a:D k):B<=k/\k<w.heap.size/\σ k=none:=by
 obtain ⟨vs,d,c,f,hD⟩:=h.ex;obtain ⟨v,hv,a⟩:=(hD k).1 a
 rcases List.mem_cons.1 hv with rfl | hv
 .exact d.mem a
 .obtain ⟨i,b,rfl⟩:=List.getElem_of_mem hv
  exact (c.2 i b (by rw[<-c.1];exact b)).mem a
theorem RowsIs.nx (h:RowsIs B D σ w lv cs) (k:Nxt E w σ w' σ') (c: ∀k,D k-> ¬E k):RowsIs B D σ' w' lv cs:=by
 obtain ⟨vs,l,d,f,hD⟩:=h.ex;exact ⟨vs,l.nx k fun i a=>c i ((hD i).2 ⟨lv,by simp,a⟩),⟨d.1,fun i a b=>(d.2 i a b).nx k fun j g=>c j ((hD j).2 ⟨vs[i],by simp[List.getElem_mem a],g⟩)⟩,f,hD⟩
theorem RowsIs.up (h:RowsIs B D σ w lv cs) (k:Stp w σ w' σ'):RowsIs B D σ' w' lv cs:=
 h.nx (E:=fun _=>False) (.of_stp k) fun _ _=>id
theorem RowsIs.freeze (h:RowsIs B D σ w lv cs) (A:X3 w σ): ∃σ',X3 w σ'/\SLe σ σ'/\Sl 2 Xt σ' lv cs/\ ∀k,¬D k->σ' k=σ k:=by
 obtain ⟨vs,p,g,y,hD⟩:=h.ex;obtain ⟨b,d⟩:=List.pairwise_cons.1 y;obtain ⟨σ1,C,q,s,o1⟩:=g.freeze A d
 have f:J7 B T.p 2 Q7S σ1 w lv (Jf vs cs):=p.shiftR q fun k a=>by
  rw[o1 k fun v j e=>b v j k a e];exact (p.mem a).2.2
 obtain ⟨J,H,r,t,o2⟩:=f.freeze C;refine ⟨J,H,q.more r,t.conv (R':=Xt) (ys:=cs) (by rw[Cy g.1]) fun i L o c z=>?_,fun k a=>?_⟩
 .have l:i<vs.length:=by rw[g.1];exact o
  obtain ⟨m,n,_⟩:=z;have e:(Jf vs cs)[i]=(cs[i].kind,vs[i]):=by simp[Jf]
  rw[e] at m n;exact ⟨vs[i],m,(s i l o).lift r,n⟩
 .rw[o2 k fun e=>a ((hD k).2 ⟨lv,by simp,e.symm⟩),o1 k fun v j e=>a ((hD k).2 ⟨v,by simp[j],e⟩)]
theorem HeapIs.mem (h:HeapIs B D σ w hp tv room cs) {k:Nat} (hk:D k):B<=k/\k<w.heap.size/\σ k=none:=by
 obtain ⟨b,lv,E,rfl,hB,a,c,hE,hD⟩:=h.ex
 rcases (hD k).1 hk with rfl | hk
 .exact ⟨hB,a.lt,a.1⟩
 .exact c.mem hk
theorem HeapIs.nx {F:Nat->Prop} (h:HeapIs B D σ w hp tv room cs) (k:Nxt F w σ w' σ') (a: ∀k,D k-> ¬F k):HeapIs B D σ' w' hp tv room cs:=by
 obtain ⟨b,lv,E,rfl,hB,d,f,hE,hD⟩:=h.ex;exact ⟨b,lv,E,rfl,hB,d.nx k (a b ((hD b).2 (.inl rfl))),f.nx k fun i c=>a i ((hD i).2 (.inr c)),hE,hD⟩
theorem HeapIs.up (h:HeapIs B D σ w hp tv room cs) (k:Stp w σ w' σ'):HeapIs B D σ' w' hp tv room cs:=
 h.nx (F:=fun _=>False) (.of_stp k) fun _ _=>id
theorem HeapIs.freeze (h:HeapIs B D σ w hp tv room cs) (l:X3 w σ): ∃σ',X3 w σ'/\SLe σ σ'/\E2 σ' hp tv room cs/\ ∀k,¬D k->σ' k=σ k:=by
 obtain ⟨b,lv,E,rfl,hB,d,j,hE,hD⟩:=h.ex;obtain ⟨σ1,o,m,g,o1⟩:=j.freeze l;have a:Z7 σ1 w b [tv,I room,I (U9 cs),lv]:=⟨by rw[o1 b hE];exact d.1,d.2⟩
 obtain ⟨q,p,f,i,n⟩:=a.freeze o;exact ⟨q,p,m.more f,⟨_,lv,rfl,i,g.lift f⟩,fun k c=>by rw[n k fun e=>c ((hD k).2 (.inl e)),o1 k fun e=>c ((hD k).2 (.inr e))]⟩
end Go.Proofs.Y
namespace Go.Emb
open Go.RowKit Go.Hm
variable {H : Type} {enc : TypeId × Value -> H} {P : Program} {W : World} {t : TypeId} {cs : List Value} {fuel : Nat} {x : DataW H × List MemPlace}
theorem X8O {c:Array Field} (j:P.underlying t=some (.struct c)) (h:DataW.trod enc P W 0 (fun _=>true) true fuel t cs=some x) (z:Wt P t x.1) (i:Nat) {o m:Nat} {b:TypeId}
 (s:(c[i]?).map (fun f=>(f.type,f.offset))=some (b,o)) (q:P.cellsOf b=m): ∃n y,DataW.trod enc P W 0 (fun _=>true) true n b ((cs.drop o).take m)=some y/\Wt P b y.1:=by
 obtain ⟨xs,n,_,rfl,A,k,l⟩:=DataW.trod_struct j h;obtain ⟨f,a,r⟩:=Option.map_eq_some_iff.1 s;cases r;have e:=l i f a;have g:i<xs.length:=by rw[k];exact (Array.getElem?_eq_some_iff.1 a).1
 rw[List.getElem?_eq_getElem g,q] at e;refine ⟨n,_,e,fun m w=>z m ?_⟩;simp only[DataW.weights,j];exact X3p (i:=i) (u:=f.type) (by rw[List.getElem?_map,Array.getElem?_toList,a];rfl) (by rw[List.getElem?_map,List.getElem?_eq_getElem g];rfl) m w
def Ah (_:Q2) (x:ActH) (cs:List Value):Prop:=cs=[I x.kind,S x.s,I x.n,I x.ref,I x.v.sort,I x.v.n,S x.v.s,I x.v.ref]/\(Qj x.kind/\x.s.length<=V4/\Qj x.n/\Qj x.ref)/\Qj x.v.sort/\Qj x.v.n/\x.v.s.length<=V4/\Qj x.v.ref
instance:Rep Ah:=⟨fun _ h=>h,fun h u hu=>by rw[h.1] at hu;simp at hu;rcases hu with rfl | rfl | rfl | rfl | rfl | rfl | rfl | rfl<;>rfl⟩
end Go.Emb
namespace Go.Proofs.Y
open Go.Emb Go.RowKit Go.Kd Go.Hm
variable {H : Type} {enc : TypeId × Value -> H} {W : World} {cs : List Value} {fuel : Nat} {x : DataW H × List MemPlace}
def Y0D:Array Field:= #[⟨"Sort",T.e,0,false, "", "",0⟩,⟨"N",T.a1,1,false, "", "",8⟩,⟨"S",T.b,2,false, "", "",16⟩,⟨"Ref",T.e,3,false, "", "",32⟩]
theorem Q7M:P.underlying T.f=some (.struct Y0D):=by kernel_rfl
theorem X3n:P.underlying T.a1=some (.int .i64):=by kernel_rfl
theorem X5E (h:DataW.trod enc P W 0 (fun _=>true) true fuel T.f cs=some x) (a:Wt P T.f x.1): ∃y,O6 (Ni W) y cs:=by
 obtain ⟨z,A,B,C,rfl⟩:=Y0H (X0W Q7M X7 h);obtain ⟨_,_,f,w0⟩:=We (o:=0) Q7M h a 0 rfl Q5g;obtain ⟨_,_,g,w1⟩:=We (o:=1) Q7M h a 1 rfl X7;obtain ⟨_,_,i,w⟩:=We (o:=2) Q7M h a 2 rfl Q1F;obtain ⟨_,_,j,D⟩:=We (o:=3) Q7M h a 3 rfl Q5g;obtain ⟨q,q0,k⟩:=Fv La f;obtain ⟨r,b,l⟩:=Fv X3n g;obtain ⟨s,c,m⟩:=X5F Z5 i w;obtain ⟨u,e,n⟩:=Fv La j
 simp at q0 b c e
 subst q0 b c e;exact ⟨⟨q,r,s,u⟩,rfl,k,l,m,n⟩
def Y0B:Array Field:= #[⟨"Kind",T.e,0,false, "", "",0⟩,⟨"S",T.b,1,false, "", "",8⟩,⟨"N",T.a1,2,false, "", "",24⟩,⟨"Ref",T.e,3,false, "", "",32⟩,⟨"V",T.f,4,false, "", "",40⟩]
theorem Q5o:P.underlying T.n=some (.struct Y0B):=by kernel_rfl
theorem Y04 (h:DataW.trod enc P W 0 (fun _=>true) true fuel T.n cs=some x) (a:Wt P T.n x.1): ∃y,Ah (Ni W) y cs:=by
 obtain ⟨N,O,Q,R,U,V,X,Y,rfl⟩:=Y0I (X0W Q5o X7 h);obtain ⟨_,_,l,w0⟩:=We (o:=0) Q5o h a 0 rfl Q5g;obtain ⟨_,_,n,w1⟩:=We (o:=1) Q5o h a 1 rfl Q1F;obtain ⟨_,_,q,Z⟩:=We (o:=2) Q5o h a 2 rfl X7;obtain ⟨_,_,r,w3⟩:=We (o:=3) Q5o h a 3 rfl Q5g;obtain ⟨_,_,s,M⟩:=X8O (o:=4) (m:=4) Q5o h a 4 rfl X7;obtain ⟨C,q0,u⟩:=Fv La l;obtain ⟨D,b,w⟩:=X5F Z5 n w1;obtain ⟨E,c,z⟩:=Fv X3n q;obtain ⟨J,e,A⟩:=Fv La r;obtain ⟨L,f,B⟩:=X5E s M
 simp at q0 b c e f
 obtain ⟨g,i,j,k⟩:=f;subst q0 b c e g i j k;exact ⟨⟨C,D,E,J,L⟩,rfl,⟨u,w,z,A⟩,B⟩
theorem X6a:P.underlying T.a7=some (.slice T.n):=by kernel_rfl
variable {v : Value} {d : DataW H} {p : List MemPlace}
set_option maxRecDepth 100000 in
theorem X8D {base:Nat} (g:Value.okWide P W .any base T.a7 v) (h:DataW.Trod enc P W 0 (fun _=>true) true T.a7 v d p) (b:Wt P T.a7 d): ∃l,Sl 8 Ah (Ni W) v l:=by
 obtain ⟨a,n,c,rfl⟩:=WideShapes.okWide_slice X6a g;unfold DataW.Trod at h;obtain ⟨fuel,h⟩:=h;obtain ⟨u,l,e,f⟩:=X7P (R:=Ah) (sz:=8) X6a X7 L7 (fun _ _ _ h b=>Y04 h b) h b
 simp[Value.cells] at e
 subst e;exact ⟨l,f⟩
theorem X6b:P.underlying T.l=some (.slice T.f):=by kernel_rfl
set_option maxRecDepth 100000 in
theorem X8E {base:Nat} (g:Value.okWide P W .any base T.l v) (h:DataW.Trod enc P W 0 (fun _=>true) true T.l v d p) (b:Wt P T.l d): ∃l,Sl 4 O6 (Ni W) v l:=by
 obtain ⟨a,n,c,rfl⟩:=WideShapes.okWide_slice X6b g;unfold DataW.Trod at h;obtain ⟨fuel,h⟩:=h;obtain ⟨u,l,e,f⟩:=X7P (R:=O6) (sz:=4) X6b X7 L7 (fun _ _ _ h b=>X5E h b) h b
 simp[Value.cells] at e
 subst e;exact ⟨l,f⟩
def Y0C:Array Field:= #[⟨"Objects",T.e,0,false, "", "",0⟩,⟨"Bytes",T.e,1,false, "", "",8⟩]
theorem Q9S:P.underlying T.a3=some (.struct Y0C):=by kernel_rfl
theorem Y0f {l:List Value} (h:l.length=2): ∃a b,l=[a,b]:=by
 match l,h with
 | [a,b],_=>exact ⟨a,b,rfl⟩
set_option maxRecDepth 100000 in
theorem X9V {base:Nat} (f:Value.okWide P W .any base T.a3 v) (h:DataW.Trod enc P W 0 (fun _=>true) true T.a3 v d p) (c:Wt P T.a3 d): ∃o b:Int,v= .agg [I o,I b].toArray/\Qj o/\Qj b:=by
 have a:=f;unfold Value.okWide at a;rw[Q9S] at a;obtain ⟨cs,rfl,_⟩:=a;unfold DataW.Trod at h;obtain ⟨fuel,h⟩:=h;obtain ⟨cs⟩:=cs;simp only[Value.cells] at h;obtain ⟨n,q,rfl⟩:=Y0f (X0W Q9S X7 h);obtain ⟨_,_,g,w0⟩:=We (o:=0) Q9S h c 0 rfl Q5g;obtain ⟨_,_,i,w1⟩:=We (o:=1) Q9S h c 1 rfl Q5g;obtain ⟨l,q0,j⟩:=Fv La g;obtain ⟨m,e,k⟩:=Fv La i
 simp at q0 e
 subst q0 e;exact ⟨l,m,rfl,j,k⟩
end Go.Proofs.Y
namespace Go.Hm
open Go.Kd
def Mi (xs:List Nat) (n:Option Nat):List Nat:=match n with
 | none=>xs
 | some n=>if n∈xs then xs else xs++[n]
def Ym (tq:Val->Option Nat) (xs:List Nat) (vs:List Val):List Nat:=vs.foldl (fun xs v=>Mi xs (tq v)) xs
def L2 (out:Nat->List Val) (tq:Val->Option Nat) (v:Val):Nat->List Nat
 | 0=>Mi [] (tq v)
 | i+1=>match (L2 out tq v i)[i]? with
  | some r=>Ym tq (L2 out tq v i) (out r)
  | none=>L2 out tq v i
theorem X0Z {α:Type} {xs ys:List α} (h:xs<+:ys) {i:Nat} {x:α} (a:xs[i]? =some x):ys[i]? =some x:=by
 obtain ⟨t,rfl⟩:=h;rw[List.getElem?_append_left (List.getElem?_eq_some_iff.1 a).1];exact a
theorem X78 {xs:List Nat} {n:Option Nat}:xs<+:Mi xs n:=by
 unfold Mi;cases n with
 | none=>exact List.prefix_refl _
 | some n=>
  simp only
  split
  .exact List.prefix_refl _
  .exact List.prefix_append _ _
theorem Q7o {xs:List Nat} {n:Option Nat} (h:xs.Nodup):(Mi xs n).Nodup:=by
 unfold Mi;cases n with
 | none=>exact h
 | some n=>
  simp only
  split
  .exact h
  .rename_i hn
   rw[List.nodup_append];exact ⟨h,by simp,fun a d b c e=>by simp at c;subst c;exact hn (e▸d)⟩
theorem X11 {xs:List Nat} {n:Option Nat} {x:Nat}:x∈Mi xs n↔x∈xs\/n=some x:=by
 unfold Mi;cases n with
 | none=>simp
 | some n=>
  simp only
  split
  .rename_i hn
   constructor
   .exact .inl
   .rintro (h | h)
    .exact h
    .cases h;exact hn
  .simp only[List.mem_append,List.mem_singleton,Option.some.injEq]
   exact or_congr Iff.rfl eq_comm
section
variable {out : Nat -> List Val} {tq : Val -> Option Nat} {v : Val}
theorem Q1K: ∀(vs:List Val) (xs:List Nat),xs<+:Ym tq xs vs
 | [],xs=>List.prefix_refl _
 | v::vs,xs=>(X78 (n:=tq v)).trans (Q1K vs _)
theorem Pg: ∀(vs:List Val) {xs:List Nat},xs.Nodup->(Ym tq xs vs).Nodup
 | [],_,h=>h
 | v::vs,_,h=>Pg vs (Q7o h)
theorem Ik: ∀(vs:List Val) {xs:List Nat} {x:Nat},x∈Ym tq xs vs↔x∈xs\/ ∃v∈vs,tq v=some x
 | [],xs,x=>by simp[Ym]
 | v::vs,xs,x=>by
  show x∈Ym tq (Mi xs (tq v)) vs↔_
  rw[Ik vs,X11];simp only[List.mem_cons,exists_eq_or_imp];rw[or_assoc]
theorem Mo: ∀i,(L2 out tq v i).Nodup
 | 0=>Q7o List.nodup_nil
 | i+1=>by
  unfold L2
  split
  .exact Pg _ (Mo i)
  .exact Mo i
theorem X2x (i:Nat):L2 out tq v i<+:L2 out tq v (i+1):=by
 rw[L2]
 split
 .exact Q1K _ _
 .exact List.prefix_refl _
theorem Q2q {i j:Nat} (h:i<=j):L2 out tq v i<+:L2 out tq v j:=by
 induction j with
 | zero=>
  have:i=0:=by omega
  subst this;exact List.prefix_refl _
 | succ j a=>
  by_cases e:i=j+1
  .subst e;exact List.prefix_refl _
  .exact (a (by omega)).trans (X2x j)
theorem Q2p {i:Nat} (h:(L2 out tq v i).length<=i): ∀{j},i<=j->L2 out tq v j=L2 out tq v i:=by
 intro j c
 induction j with
 | zero=>
  have:i=0:=by omega
  subst this;rfl
 | succ j b=>
  by_cases e:i=j+1
  .subst e;rfl
  .have a:=b (by omega)
   rw[L2,a,List.getElem?_eq_none (by omega)]
theorem Iw {S:Nat->Prop} (a: ∀x,tq v=some x->S x) (b: ∀r,S r-> ∀p∈out r,∀x,tq p=some x->S x): ∀i,∀x∈L2 out tq v i,S x
 | 0,x,hx=>by
  unfold L2 at hx
  rcases X11.1 hx with hx | hx
  .cases hx
  .exact a x hx
 | i+1,x,hx=>by
  unfold L2 at hx
  split at hx
  .rename_i r d
   rcases (Ik _).1 hx with hx | ⟨p,c,hx⟩
   .exact Iw a b i x hx
   .exact b r (Iw a b i r (List.mem_of_getElem? d)) p c x hx
  .exact Iw a b i x hx
theorem X0V {n:Nat} {xs:List Nat} (h:xs.Nodup) (a: ∀x∈xs,x<n):xs.length<=n:=Go.Emb.I0 n xs h a
variable {n : Nat} (hn : ∀ p x, tq p = some x -> x < n)
include hn
theorem Ae (i:Nat): ∀x∈L2 out tq v i,x<n:=Iw (S:=fun x=>x<n) (fun x h=>hn _ x h) (fun _ _ p _ x h=>hn p x h) i
theorem Iu (i:Nat):(L2 out tq v i).length<=n:=X0V (Mo i) (Ae hn i)
theorem X1o {r:Nat} (k:r∈L2 out tq v n) {p:Val} (i:p∈out r) {x:Nat} (l:tq p=some x):x∈L2 out tq v n:=by
 obtain ⟨j,b,e⟩:=List.mem_iff_getElem.1 k;have h:j<n:=Nat.lt_of_lt_of_le b (Iu hn n)
 -- round j+1 has put all of r's
 have a:j<(L2 out tq v j).length:=by
  refine Nat.lt_of_not_le fun d=>?_;have:=Q2p d (j:=n) (by omega)
  rw[this] at b;omega
 have c:(L2 out tq v j)[j]? =some r:=by
  have f:=X0Z (Q2q (out:=out) (tq:=tq) (v:=v) (show j<=n by omega)) (List.getElem?_eq_getElem a)
  rw[List.getElem?_eq_getElem b,e] at f;rw[List.getElem?_eq_getElem a,<-Option.some.inj f]
 have g:x∈L2 out tq v (j+1):=by
  rw[L2,c];exact (Ik _).2 (.inr ⟨p,i,l⟩)
 exact (Q2q (show j+1<=n by omega)).subset g
omit hn in
theorem X2y {x:Nat} (h:tq v=some x):(L2 out tq v n)[0]? =some x:=by
 have a:(L2 out tq v 0)[0]? =some x:=by unfold L2;rw[h];rfl
 exact X0Z (Q2q (Nat.zero_le n)) a
end
end Go.Hm
namespace Go.Hm
open Go.Kd
abbrev Prs:=List (Nat×Nat)×Bool
theorem X3a {xs:List Nat} {x:Nat} (h:x∈xs):Mi xs (some x)=xs:=by unfold Mi;simp only;rw[if_pos h]
theorem X12 {xs:List Nat} {x:Nat} (h:x∉xs):Mi xs (some x)=xs++[x]:=by unfold Mi;simp only;rw[if_neg h]
def Xk (cs:List Cel) (r:Nat):Cel:=cs.getD r Cel.zero
def P4 (l:List Cla) (k:Q9) (i:Nat):Bool:= !decide (elem k=[])|| !((V0 l k).getD i Fld.zero).tr
def Q5j (l:List Cla) (c:Cel):List Nat:=(List.range c.vals.length).filter (P4 l c.kind)
def N0 (l:List Cla) (cs:List Cel) (r:Nat):List Val:=(Q5j l (Xk cs r)).map fun i=>(Xk cs r).vals.getD i Val.zero
def Ed (cs:List Cel) (r:Nat):Q9:=(Xk cs r).kind
def G4 (cs:List Cel) (v:Val):Option Nat:=if v.sort=4/\M4 cs v.ref=true then some v.ref.toNat else none
def I6 (l:List Cla) (cs:List Cel) (v:Val):List Nat:=L2 (N0 l cs) (G4 cs) v cs.length
def ixO:Option Nat->Int
 | some i=>i
 | none=> -1
def T9 (xs:List Nat) (n:Int):Int:=ixO (xs.findIdx? fun (x:Nat)=>decide ((x:Int)=n))
def toI (cs:List Cel) (v:Val):Int:=if v.sort=4/\M4 cs v.ref=true then v.ref else-1
def Q07 (cs:List Cel):Prop:= ∀c∈cs,∀v∈c.vals,v.sort=4->M4 cs v.ref=true
theorem X5m {ok:Q9->Bool} {l:List Cla} {cs:List Cel} (h: ∀c∈cs,GoodC ok l cs c):Q07 cs:=fun c d v g b=>by
 obtain ⟨i,f,rfl⟩:=List.mem_iff_getElem.1 g;have:=(h c d).fits i f;unfold P1 at this;simp only[Bool.and_eq_true,Bool.not_eq_true',decide_eq_false_iff_not] at this;have a:=this.1;unfold K5 at a
 split at a
 .rename_i e;rw[e] at b;exact absurd b (by decide)
 split at a
 .rename_i e;rw[e] at b;exact absurd b (by simp)
 split at a
 .rename_i e;rw[e.1] at b;exact absurd b (by simp)
 split at a
 .rename_i e;rw[e.1] at b;exact absurd b (by simp)
 split at a
 .unfold O8 at a
  split at a
  .assumption
  .exact absurd rfl a
 .exact absurd rfl a
variable {l : List Cla} {cs : List Cel} {v : Val}
theorem Mt: ∀p x,G4 cs p=some x->x<cs.length:=fun p x h=>by
 unfold G4 at h
 split at h
 .rename_i a
  cases h;obtain ⟨i,e,b⟩:=W7.1 a.2;rw[e];exact b
 .cases h
theorem X1K {x:Nat} (h:G4 cs v=some x):v.sort=4/\v.ref=x/\x<cs.length:=by
 have b:=Mt _ _ h;unfold G4 at h
 split at h
 .rename_i a
  cases h;obtain ⟨i,e,c⟩:=W7.1 a.2;exact ⟨a.1,by rw[e];rfl,b⟩
 .cases h
theorem X97 {x:Nat} (b:v.sort=4) (a:v.ref=x) (h:x<cs.length):G4 cs v=some x:=by
 unfold G4;rw[if_pos ⟨b,W7.2 ⟨x,a,h⟩⟩,a];rfl
theorem X0X {r:Nat} {p:Val} (h:p∈N0 l cs r):r<cs.length/\ ∃b:r<cs.length,p∈cs[r].vals:=by
 unfold N0 Q5j at h;simp only[List.mem_map,List.mem_filter,List.mem_range] at h;obtain ⟨i,⟨a,_⟩,e⟩:=h
 by_cases b:r<cs.length
 .have c:Xk cs r=cs[r]:=by unfold Xk;rw[List.getD_eq_getElem?_getD,List.getElem?_eq_getElem b];rfl
  rw[c] at a e;refine ⟨b,b,?_⟩;rw[List.getD_eq_getElem?_getD,List.getElem?_eq_getElem a] at e;rw[<-e];exact List.getElem_mem a
 .have c:Xk cs r=Cel.zero:=by unfold Xk;rw[List.getD_eq_getElem?_getD,List.getElem?_eq_none (by omega)];rfl
  rw[c] at a;exact absurd a (by simp[Cel.zero])
theorem Q2r {x:Nat} (h:x∈I6 l cs v):x<cs.length:=Ae Mt _ x h
theorem X1p:(I6 l cs v).length<=cs.length:=Iu Mt _
theorem Y08 (ok:Q07 cs) {r:Nat} {p:Val} (d:p∈N0 l cs r) (b:p.sort=4): ∃a,G4 cs p=some a:=by
 obtain ⟨_,e,c⟩:=X0X d;have:=ok _ (List.getElem_mem e) p c b;unfold G4;exact ⟨_,if_pos ⟨b,this⟩⟩
theorem Y07 (ok:Q07 cs) {r:Nat} (e:r∈I6 l cs v) {p:Val} (c:p∈N0 l cs r) (d:p.sort=4): ∃a,G4 cs p=some a/\a∈I6 l cs v:=by
 obtain ⟨a,b⟩:=Y08 ok c d;exact ⟨a,b,X1o Mt e c b⟩
end Go.Hm
namespace Go.Hm
open Go.Kd
def Bg:Nat->Nat->Q9
 | 0,v=>[UInt8.ofNat v]
 | f+1,v=>if v<128 then [UInt8.ofNat v] else UInt8.ofNat (v % 128+128)::Bg f (v / 128)
def U6 (v:Nat):Q9:=Bg v v
theorem X1Q: ∀(f g v:Nat),v<=f->v<=g->Bg f v=Bg g v
 | 0,g,v,h,_=>by
  have:v=0:=by omega
  subst this;cases g<;>simp[Bg]
 | f+1,0,v,_,h=>by
  have:v=0:=by omega
  subst this
  simp[Bg]
 | f+1,g+1,v,a,b=>by
  unfold Bg
  by_cases e:v<128
  .rw[if_pos e,if_pos e]
  .rw[if_neg e,if_neg e,X1Q f g (v / 128) (by omega) (by omega)]
theorem Q8C {v:Nat} (h:v<128):U6 v=[UInt8.ofNat v]:=by
 unfold U6;cases v with
 | zero=>rfl
 | succ n=>rw[Bg,if_pos h]
theorem Q8B {v:Nat} (h:128<=v):U6 v=UInt8.ofNat (v % 128+128)::U6 (v / 128):=by
 obtain ⟨k,rfl⟩: ∃k,v=k+1:=⟨v-1,by omega⟩
 unfold U6;rw[Bg,if_neg (by omega),X1Q k _ _ (by omega) (Nat.le_refl _)]
theorem X3o {v:Nat}:1<=(U6 v).length:=by
 by_cases h:v<128
 .rw[Q8C h];simp
 .rw[Q8B (by omega)];simp
theorem X1R: ∀(f k v:Nat),v<128 ^ (k+1)->(Bg f v).length<=k+1
 | 0,k,v,_=>by simp[Bg]
 | f+1,0,v,h=>by rw[Bg,if_pos (by simpa using h)];simp
 | f+1,k+1,v,h=>by
  rw[Bg]
  split
  .simp
  .have:=X1R f k (v / 128) (by rw[Nat.pow_succ] at h;omega)
   simpa using this
theorem G6 {v:Nat} (h:v<18446744073709551616):(U6 v).length<=10:=X1R v 9 v (by
 have:(18446744073709551616:Nat)<=128 ^ (9+1):=by decide
 omega)
def Wl (n:Int):Nat:=(n % 18446744073709551616).toNat
theorem Ng (n:Int):Wl n<18446744073709551616:=by unfold Wl;omega
theorem Q2u {n:Nat} (h:n<18446744073709551616):Wl n=n:=by unfold Wl;omega
def Ob (n:Int):Nat:=if 0<=n then (2*n).toNat else (2*(-(n+1))+1).toNat
def M3 (s:Q9):Q9:=U6 s.length++s
def Et (b:Bool):Q9:=[if b then 1 else 0]
def H3 (num:Int->Int) (v:Val):Q9:=
 U6 (Wl v.sort)++
  (if v.sort=1 then U6 (Ob v.n) else if v.sort=2 then Et (decide (v.n=1)) else if v.sort=3 then M3 v.s else if v.sort=4 then U6 (Wl (num v.ref)) else [])
def Yb {α:Type} [DecidableEq α] (o:List α) (x:α):List α:=if x∈o then o else o++[x]
def F0 {α:Type} [DecidableEq α] (o xs:List α):List α:=xs.foldl Yb o
def L4 (l:List Cla) (cs:List Cel) (vs:List Val):List Nat:=vs.foldl (fun o v=>F0 o (I6 l cs v)) []
def U5 (cs:List Cel) (rs:List Nat):List Q9:=F0 [] (rs.map (Ed cs))
def Q1H (rs:List Nat) (n:Int):Int:=(((rs.findIdx? fun (x:Nat)=>decide ((x:Int)=n)).getD 0:Nat):Int)
def Zd (l:List Cla) (k:Q9):Q9:=M3 k++M3 (E3 l k)
def Yh (cs:List Cel) (a:List Q9) (r:Nat):Q9:=U6 (Wl (Emb.E1 (a.findIdx? fun k=>decide (k=Ed cs r))))++(if elem (Ed cs r)=[] then [] else U6 (Xk cs r).vals.length)
def Nc (num:Int->Int) (l:List Cla) (cs:List Cel) (vs:List Val) (rs:List Nat):Q9:=
 let a:=U5 cs rs
 U6 a.length++a.flatMap (Zd l)++U6 rs.length++rs.flatMap (Yh cs a)++rs.flatMap (fun r=>(N0 l cs r).flatMap (H3 num))++U6 vs.length++vs.flatMap (H3 num)
section
variable {α : Type} [DecidableEq α] {o xs : List α} {x : α}
theorem X4J {y:α}:y∈Yb o x↔y∈o\/y=x:=by
 unfold Yb
 split
 .rename_i h
  exact ⟨.inl,fun e=>e.elim id fun e=>e▸h⟩
 .simp
theorem X6j (h:o.Nodup):(Yb o x).Nodup:=by
 unfold Yb
 split
 .exact h
 .rename_i f
  exact List.nodup_append.2 ⟨h,by simp,fun a d b c e=>f (by simp at c;rw[<-c,<-e];exact d)⟩
theorem Ib {y:α}: ∀{xs o:List α},y∈F0 o xs↔y∈o\/y∈xs
 | [],o=>by simp[F0]
 | x::xs,o=>by
  show y∈F0 (Yb o x) xs↔_
  rw[Ib,X4J,List.mem_cons,or_assoc]
theorem Q3E: ∀{xs o:List α},o.Nodup->(F0 o xs).Nodup
 | [],o,h=>h
 | x::xs,o,h=>Q3E (xs:=xs) (X6j h)
theorem Aj {i:Nat} (a:i<xs.length):F0 o (xs.take (i+1))=Yb (F0 o (xs.take i)) xs[i]:=by
 unfold F0;rw[List.take_add_one,List.getElem?_eq_getElem a,Option.toList_some,List.foldl_append];rfl
end
section
variable {l : List Cla} {cs : List Cel} {vs : List Val} {v : Val}
theorem Ix {r:Nat}:r∈L4 l cs vs↔ ∃v∈vs,r∈I6 l cs v:=by
 have: ∀(vs:List Val) (o:List Nat),r∈vs.foldl (fun o v=>F0 o (I6 l cs v)) o↔r∈o\/ ∃v∈vs,r∈I6 l cs v:=by
  intro vs
  induction vs with
  | nil=>intro o;simp
  | cons a vs b=>
   intro o;rw[List.foldl_cons,b,Ib];simp only[List.mem_cons,exists_eq_or_imp,or_assoc]
 rw[L4,this]
 simp
theorem Fz:(L4 l cs vs).Nodup:=by
 have: ∀(vs:List Val) (o:List Nat),o.Nodup->(vs.foldl (fun o v=>F0 o (I6 l cs v)) o).Nodup:=by
  intro vs
  induction vs with
  | nil=>intro o h;exact h
  | cons a vs b=>intro o h;exact b _ (Q3E h)
 exact this vs [] List.nodup_nil
theorem Eg {r:Nat} (h:r∈L4 l cs vs):r<cs.length:=by
 obtain ⟨v,_,h⟩:=Ix.1 h;exact Q2r h
end
end Go.Hm
namespace Go.Emb
open Go.RowKit Go.Hm
variable {P : Program} {w : World} {K : Value -> World -> Prop}
theorem X4L (n:Int):(BitVec.ofInt 64 n &&& BitVec.ofInt 64 1).toNat=(n % 2).toNat:=by
 rw[BitVec.toNat_and,BitVec.toNat_ofInt,BitVec.toNat_ofInt];have e:((1:Int) % ((2 ^ 64:Nat):Int)).toNat=1:=by decide
 rw[e,Nat.and_one_is_mod];omega
theorem Y0i {t:TypeId} {a b:Operand} {n:Int} (h:K (I (n % 2)) w):Z2 P .and t a b (I n) (I 1) w K:=by
 have e:Z2 P .and t a b (I n) (I 1) w K=K (I (n % 2)) w:=Y8 (by
  have d:(BitVec.ofInt IntKind.i64.bits n &&& BitVec.ofInt IntKind.i64.bits 1).toNat=(n % 2).toNat:=X4L n;have f:IntKind.i64.wrap ((n % 2).toNat:Int)=n % 2:=by rw[Qi Q5 Q5];omega
  have c:((n % 2 ^ IntKind.i64.bits).toNat &&& 1 % 2 ^ IntKind.i64.bits)=(n % 2).toNat:=by
   show ((n % 18446744073709551616).toNat &&& 1)=_
   rw[Nat.and_one_is_mod];omega
  simp[eqGuard,binOp,Op.intBits,c]
  rw[show max (n % 2) 0=n % 2 by omega,Qi Q5 Q5])
 rw[e];exact h
end Go.Emb
namespace Go.Proofs.Y
open Go.Emb Go.RowKit Go.Kd Go.Hm
variable {w w' : World} {K : Value -> World -> Prop} {σ σ' : Q2} {hp tv : Value} {room : Int} {cs : List Cel}
theorem X9R:(P.fieldsOf T.f).toList=[⟨"Sort",T.e,0,false, "", "",0⟩,⟨"N",T.a1,1,false, "", "",8⟩,⟨"S",T.b,2,false, "", "",16⟩,⟨"Ref",T.e,3,false, "", "",32⟩]:=by kernel_rfl
set_option maxRecDepth 100000 in
theorem X8q (a b:Val):(Op.eqFields 9999 [I a.sort,I a.n,S a.s,I a.ref].toArray [I b.sort,I b.n,S b.s,I b.ref].toArray (P.fieldsOf T.f).toList).run P w= .ok (decide (a=b)) w:=by
 rw[X9R]
 have:=Q16 (P:=P) (w:=w) (d:=9999) (xs:=[I a.sort,I a.n,S a.s,I a.ref].toArray) (ys:=[I b.sort,I b.n,S b.s,I b.ref].toArray) (f:=⟨"Sort",T.e,0,false, "", "",0⟩) L7 rfl rfl (Q8d (k:= .i64) X7 _ _)
  (Q16 (f:=⟨"N",T.a1,1,false, "", "",8⟩) L7 rfl rfl (Q8d (k:= .i64) X7 _ _) (Q16 (f:=⟨"S",T.b,2,false, "", "",16⟩) L7 rfl rfl (X8r Z5 _ _) (Q16 (f:=⟨"Ref",T.e,3,false, "", "",32⟩) L7 rfl rfl (Q8d (k:= .i64) X7 _ _) X8p)))
 rw[this]
 congr 1
 obtain ⟨c,e,g,h⟩:=a;obtain ⟨i,j,m,o⟩:=b
 simp[Bool.decide_and]
theorem Ge {a b d:Int} {c:Q9}: ∀u∈[I a,I b,S c,I d],u.oneCell'=true:=by
 intro u e;simp only[List.mem_cons,List.not_mem_nil,or_false] at e
 rcases e with rfl | rfl | rfl | rfl<;>rfl
set_option maxRecDepth 100000 in
theorem Bh {j k:Operand} {a b d e f i:Int} {c g:Q9} (h:K (.bool (decide ((⟨a,b,c,d⟩:Val)=⟨e,f,g,i⟩))) w):Z2 P .eql T.f j k (.agg [I a,I b,S c,I d].toArray) (.agg [I e,I f,S g,I i].toArray) w K:=
 X8s X7 X7 X7 (X8q ⟨a,b,c,d⟩ ⟨e,f,g,i⟩) h
theorem Sl.elV {v:Value} {xs:List Val} (h:Sl 4 O6 σ v xs) {i:Nat} (c:i<xs.length):U0 σ (K4 4 v i) [I xs[i].sort,I xs[i].n,S xs[i].s,I xs[i].ref]/\O6 σ xs[i] [I xs[i].sort,I xs[i].n,S xs[i].s,I xs[i].ref]:=by
 obtain ⟨cs,a,d,rfl,b⟩:=h.el c;exact ⟨a,rfl,b⟩
theorem Sl.elO {v:Value} {xs:List Cel} (h:Sl 2 Xt σ v xs) {i:Nat} (e:i<xs.length): ∃a,U0 σ (K4 2 v i) [S xs[i].kind,a]/\Sl 4 O6 σ a xs[i].vals/\xs[i].kind.length<=V4:=by
 obtain ⟨cs,b,f,a,rfl,c,d⟩:=h.el e;exact ⟨a,b,c,d⟩
theorem X0d (b:X3 w σ) (hh:E2 σ hp tv room cs) (h:K tv w):Q0 P F.aX [hp] w K:=Q37 (by
 obtain ⟨a,e,rfl,c,d⟩:=hh;unfold Sj X6;rw[C0,fa];exact ld b c rfl h)
theorem X89 (c:X3 w σ) (hh:E2 σ hp tv room cs) (e:0<=D9 room cs) (f:room<=1048576) (h: ∀w',Below w.heap.size w w'->K (I (D9 room cs)) w'):Q0 P F.aE [hp] w K:=Q4y (by
 obtain ⟨a,k,rfl,i,j⟩:=hh;unfold Bw;simp only[Y5,X5];unfold X1;have g:=C4 cs;unfold D9 at*;refine V3 c ?_
 (repeat refine Y3 Vq ?_)
 (intros;(repeat (rename_i d;subst d));(try simp only[↓M2,M2,Mb,reduceIte]))
 rename_i m b;rw[Qi Q5 Q5];exact h _ b.stp.bel)
theorem X0b (c:X3 w σ) (hh:E2 σ hp tv room cs) {r:Int} (h:K (.bool (M4 cs r)) w):Q0 P F.aI [hp,I r] w K:=Q5G (by
 obtain ⟨a,f,rfl,d,e⟩:=hh;unfold Gr J1 X8 X4 X2 X1;refine T2 ?_;unfold M4 at h;cases b:decide ((0:Int)<=r) with
 | false=>
  rw[b] at h
  (try simp only[↓M1,M1,Mb,reduceIte])
  exact h
 | true=>
  rw[b] at h
  (try simp only[↓M1,M1,Mb,reduceIte])
  refine ld c d rfl ?_;refine Q6 e ?_;refine Y9 ?_
  (try simp only[↓M1,M1,Mb,reduceIte])
  exact h)
theorem Q0e (d:X3 w σ) (hh:E2 σ hp tv room cs) {r:Int} (h:K (S (O8 cs r)) w):Q0 P F.x [hp,I r] w K:=Q4x (by
 unfold Bv X6;refine X0b d hh ?_;unfold O8 at h;cases b:M4 cs r with
 | false=>rw[b] at h;(try simp only[↓M1,M1,Mb,reduceIte]);exact h
 | true=>
  rw[b] at h;obtain ⟨i,rfl,c⟩:=W7.1 b;rw[L5 c] at h;obtain ⟨a,j,rfl,f,e⟩:=hh;obtain ⟨k,g,_,_⟩:=Sl.elO e c
  (try simp only[↓M1,M1,Mb,reduceIte])
  refine ld d f rfl ?_;refine Y7 e c ?_
  (try simp only[↓M1,M1,Mb,reduceIte])
  exact ld d g rfl h)
theorem X2O (d:X3 w σ) (hh:E2 σ hp tv room cs) {r:Int} (h:K (I (Um cs r)) w):Q0 P F.ba [hp,I r] w K:=Q4z (by
 unfold Bx X6 X4;refine X0b d hh ?_;unfold Um at h;cases b:M4 cs r with
 | false=>rw[b] at h;(try simp only[↓M1,M1,Mb,reduceIte]);exact h
 | true=>
  rw[b] at h;obtain ⟨i,rfl,c⟩:=W7.1 b;rw[L5 c] at h;obtain ⟨a,k,rfl,f,e⟩:=hh;obtain ⟨m,g,j,_⟩:=Sl.elO e c
  (try simp only[↓M1,M1,Mb,reduceIte])
  refine ld d f rfl ?_;refine Y7 e c ?_
  (try simp only[↓M1,M1,Mb,reduceIte])
  refine ld d g rfl ?_;exact Q6 j h)
theorem X2P (e:X3 w σ) (hh:E2 σ hp tv room cs) {r i:Int} (h:K (I (C9 cs r i)) w):Q0 P F.aY [hp,I r,I i] w K:=Q38 (by
 unfold Sk J1 X8 X4 X2 X1;refine X0b e hh ?_;unfold C9 at h;cases c:M4 cs r with
 | false=>rw[c] at h;(try simp only[↓M1,M1,Mb,reduceIte]);exact h
 | true=>
  rw[c] at h;obtain ⟨j,rfl,d⟩:=W7.1 c;rw[L5 d] at h;obtain ⟨a,o,rfl,k,g⟩:=hh;obtain ⟨p,m,n,_⟩:=Sl.elO g d
  (try simp only[↓M1,M1,Mb,reduceIte])
  by_cases f:i<0
  .rw[decide_eq_true f]
   (try simp only[↓M1,M1,Mb,reduceIte])
   rw[if_pos rfl,if_neg Q5] at h;exact h
  .rw[decide_eq_false f]
   (try simp only[↓M1,M1,Mb,reduceIte])
   refine ld e k rfl ?_;refine Y7 g d ?_
   (try simp only[↓M1,M1,Mb,reduceIte])
   refine ld e m rfl ?_;refine Q6 n ?_;refine T2 ?_
   (try simp only[↓M1,M1,Mb,reduceIte])
   refine Q4 (fun b=>?_) (fun b=>?_)
   .have b:(cs[j].vals.length:Int)<=i:=by simpa using b
    rw[if_pos rfl,if_neg Q5] at h;exact h
   .have b: ¬(cs[j].vals.length:Int)<=i:=by simpa using b
    rw[if_pos rfl,if_pos Q5] at h;exact h)
theorem X0a (t:X3 w σ) (hh:E2 σ hp tv room cs) {r i:Int} (h: ∀w' σ',Stp w σ w' σ'->K (.tuple #[.agg [I (Lz cs r i).sort,I (Lz cs r i).n,S (Lz cs r i).s,I (Lz cs r i).ref].toArray,I (C9 cs r i)]) w'):Q0 P F.aj [hp,I r,I i] w K:=Q5E (by
 unfold Gp X6 J3 X2;refine E5 t fun b w1 σ1 u c o=>?_;have k:=hh.lift ⟨c.le⟩;refine X2P c.sat k ?_;refine Lb ?_;unfold Lz at h
 by_cases g:C9 cs r i=0
 .have e:decide (C9 cs r i=0)=true:=decide_eq_true g
  rw[if_pos g,g] at h;obtain ⟨a,E,rfl,z,v⟩:=k;simp only[e,Bool.not_true,↓M1,M1,Mb,reduceIte];obtain ⟨j,m,rfl,rfl,p,q⟩:=Ee g;rw[L5 p,Int.toNat_natCast] at h;obtain ⟨H,A,y,_⟩:=Sl.elO v p;obtain ⟨B,C⟩:=Sl.elV y q;refine ld c.sat z rfl ?_;refine Y7 v p ?_
  (try simp only[↓M1,M1,Mb,reduceIte])
  refine ld c.sat A rfl ?_;refine Y7 y q ?_;refine Z3 c.sat B rfl ?_;refine Qz o c (C7 u (Stp.refl t)) rfl rfl (Rep.one C) fun D d f=>?_;refine M5 f rfl ?_;have e:cs[j].vals.getD m Val.zero=cs[j].vals[m]:=by rw[List.getD_eq_getElem?_getD,List.getElem?_eq_getElem q];rfl
  rw[e] at h;exact h _ _ d.stp
 .have e:decide (C9 cs r i=0)=false:=by simpa using g
  rw[if_neg g] at h;simp only[e,Bool.not_false,↓M1,M1,Mb,reduceIte];refine M9 (cells:= #[I 0,I 0,S [],I 0]) X7 ?_;refine Qz (ds:=[I 0,I 0,S [],I 0]) o c (C7 u (Stp.refl t)) rfl rfl Ge fun D d f=>?_;refine M5 f rfl ?_;exact h _ _ d.stp)
theorem X4W {k:Q9} (o:X3 w σ) (h: ∀w' σ',Stp w σ w' σ'->K (.agg [I (R9 k).sort,I (R9 k).n,S (R9 k).s,I (R9 k).ref].toArray) w'):Q0 P F.d1 [S k] w K:=X2r (by
 unfold Q60 J9;refine E5 o fun b w1 σ1 q g i=>?_;have hB:=C7 q (Stp.refl o);unfold R9 at h
 have a: ∀(n:Int) (t:K (.agg [I n,I 0,S [],I 0].toArray)=K (.agg [I n,I 0,S [],I 0].toArray)),(∀w' σ',Stp w σ w' σ'->K (.agg [I n,I 0,S [],I 0].toArray) w')->U8 P T.f (.pointer (some ⟨b,0,none⟩)) (.agg #[I n,I 0,S [],I 0]) w1 fun _ m=>J4 P T.f (.pointer (some ⟨b,0,none⟩)) m fun r=>K r m:=fun n _ p=>
  Qz (ds:=[I n,I 0,S [],I 0]) i g hB rfl rfl Ge fun m f j=>M5 j rfl (p _ _ f.stp)
 refine K2 ?_
 by_cases c:k=Zh
 .simp only[if_pos c] at h
  rw[show decide (k=[105,110,116])=true from decide_eq_true c]
  refine Z1 ?_;refine M9 (cells:= #[I 1,I 0,S [],I 0]) X7 ?_;exact a 1 rfl h
 simp only[if_neg c] at h;rw[show decide (k=[105,110,116])=false from decide_eq_false c]
 refine Z0 ?_;refine K2 ?_
 by_cases d:k=Ww
 .simp only[if_pos d] at h
  rw[show decide (k=[98,111,111,108])=true from decide_eq_true d]
  refine Z1 ?_;refine M9 (cells:= #[I 2,I 0,S [],I 0]) X7 ?_;exact a 2 rfl h
 simp only[if_neg d] at h;rw[show decide (k=[98,111,111,108])=false from decide_eq_false d]
 refine Z0 ?_;refine K2 ?_
 by_cases e:k=B9
 .simp only[if_pos e] at h
  rw[show decide (k=[116,101,120,116])=true from decide_eq_true e]
  refine Z1 ?_;refine M9 (cells:= #[I 3,I 0,S [],I 0]) X7 ?_;exact a 3 rfl h
 .simp only[if_neg e] at h
  rw[show decide (k=[116,101,120,116])=false from decide_eq_false e]
  refine Z0 ?_;refine M9 (cells:= #[I 0,I 0,S [],I 0]) X7 ?_;exact a 0 rfl h)
def V8 (s:Q9):Bool:=decide (s.length<=4096)&&Lib.validD s
theorem X40 (hh:E2 σ hp tv room cs) (r:Int):(O8 cs r).length<=V4:=by
 unfold O8
 split
 .rename_i c
  obtain ⟨i,rfl,b⟩:=W7.1 c;rw[L5 b];obtain ⟨a,f,rfl,e,d⟩:=hh;exact (Sl.elO d b).choose_spec.2.2
 .exact Nat.zero_le _
theorem X8N (hh:E2 σ hp tv room cs) (v:Val):(K5 V8 cs v).length<=V4:=by
 unfold K5
 split
 .decide
 split
 .decide
 split
 .decide
 split
 .decide
 split
 .exact X40 hh _
 .exact Nat.zero_le _
theorem X0N (n:Int):n=n % 2↔n=0\/n=1:=by omega
set_option maxHeartbeats 1000000 in
theorem X9r (Y:X3 w σ) (X:Glb σ) (hh:E2 σ hp tv room cs) {v:Val} (W:v.s.length<=V4) (h: ∀w' σ',Stp w σ w' σ'->K (S (K5 V8 cs v)) w'):Q0 P F.bB [hp, .agg [I v.sort,I v.n,S v.s,I v.ref].toArray] w K:=Q6x (by
 unfold Kv J1 X6 X4 X2 X1;refine Z6 Y fun q w1 σ1 g k=>?_;have f:=g.sat;refine Z3 f k rfl ?_;refine M9 (cells:= #[I 0,I 0,S [],I 0]) X7 ?_;refine Bh ?_;unfold K5 at h
 by_cases t:v=Val.zero
 .rw[if_pos t] at h
  have:decide ((⟨v.sort,v.n,v.s,v.ref⟩:Val)=⟨0,0,[],0⟩)=true:=decide_eq_true t;rw[this];exact Z1 (h _ _ g)
 rw[if_neg t] at h;have:decide ((⟨v.sort,v.n,v.s,v.ref⟩:Val)=⟨0,0,[],0⟩)=false:=decide_eq_false t;rw[this];refine Z0 ?_;refine Z3 f k rfl ?_;refine U7 ?_;refine ld f k rfl ?_;refine M9 (cells:= #[I 1,I v.n,S [],I 0]) X7 ?_;refine Bh ?_
 by_cases u:v=⟨1,v.n,[],0⟩
 .rw[if_pos u] at h
  have:decide ((⟨v.sort,v.n,v.s,v.ref⟩:Val)=⟨1,v.n,[],0⟩)=true:=decide_eq_true u;rw[this];exact Z1 (h _ _ g)
 rw[if_neg u] at h;have:decide ((⟨v.sort,v.n,v.s,v.ref⟩:Val)=⟨1,v.n,[],0⟩)=false:=decide_eq_false u;rw[this];refine Z0 ?_;refine Z3 f k rfl ?_;refine U7 ?_;refine ld f k rfl ?_;refine Y0i ?_;refine M9 (cells:= #[I 2,I (v.n % 2),S [],I 0]) X7 ?_;refine Bh ?_
 have p:(v=⟨2,v.n % 2,[],0⟩)↔(v=⟨2,v.n,[],0⟩/\(v.n=0\/v.n=1)):=by
  obtain ⟨a,b,c,d⟩:=v;simp only[Val.mk.injEq,true_and];constructor
  .rintro ⟨C,D,p⟩;exact ⟨⟨C,p⟩,(X0N b).1 D⟩
  .rintro ⟨⟨C,p⟩,D⟩;exact ⟨C,(X0N b).2 D,p⟩
 by_cases y:v=⟨2,v.n % 2,[],0⟩
 .rw[if_pos (p.1 y)] at h
  have:decide ((⟨v.sort,v.n,v.s,v.ref⟩:Val)=⟨2,v.n % 2,[],0⟩)=true:=decide_eq_true y;rw[this];exact Z1 (h _ _ g)
 rw[if_neg (fun e=>y (p.2 e))] at h;have:decide ((⟨v.sort,v.n,v.s,v.ref⟩:Val)=⟨2,v.n % 2,[],0⟩)=false:=decide_eq_false y;rw[this];refine Z0 ?_;refine Z3 f k rfl ?_;refine U7 ?_;refine ld f k rfl ?_;refine M9 (cells:= #[I 3,I 0,S v.s,I 0]) X7 ?_;refine Bh ?_
 have j: ∀{B R},Stp w σ B R->SLe σ1 R->(∀w' σ',Stp w σ w' σ'->K (S (if v=⟨4,0,[],v.ref⟩ then O8 cs v.ref else [])) w')->Q7 P T.f (.pointer (some q)) B fun J w=>
  Q7 P T.e (.pointer (some (q.add 3))) w fun L w=>
  B6 P T.f [(0,(.int .i64 4)),(3,L)] w fun M w=>
  Z2 P .eql T.f (.tmp 40) (.tmp 43) J M w fun N w=>
  X0 N (
   Q7 P T.e (.pointer (some (q.add 3))) w fun O w=>
   Q0 P F.x [hp,O] w fun Q w=>
   K Q w) (
   K (.string ⟨#[]⟩) w):=by
  intro B R i H h;have m:=k.lift H;refine Z3 i.sat m rfl ?_;refine ld i.sat m rfl ?_;refine M9 (cells:= #[I 4,I 0,S [],I v.ref]) X7 ?_;refine Bh ?_
  by_cases A:v=⟨4,0,[],v.ref⟩
  .rw[if_pos A] at h
   have:decide ((⟨v.sort,v.n,v.s,v.ref⟩:Val)=⟨4,0,[],v.ref⟩)=true:=decide_eq_true A;rw[this];refine Z1 ?_;refine ld i.sat m rfl ?_;exact Q0e i.sat (hh.lift ⟨i.le⟩) (h _ _ i)
  .rw[if_neg A] at h
   have:decide ((⟨v.sort,v.n,v.s,v.ref⟩:Val)=⟨4,0,[],v.ref⟩)=false:=decide_eq_false A;rw[this];exact Z0 (h _ _ i)
 by_cases z:v=⟨3,0,v.s,0⟩
 .have:decide ((⟨v.sort,v.n,v.s,v.ref⟩:Val)=⟨3,0,v.s,0⟩)=true:=decide_eq_true z
  rw[this]
  (try simp only[↓M1,M1,Mb,reduceIte])
  refine ld f k rfl ?_;refine Oy Z5 ?_;refine Q9U ?_
  by_cases U:v.s.length<=4096
  .rw[decide_eq_true (show (v.s.length:Int)<=4096 by omega)]
   (try simp only[↓M1,M1,Mb,reduceIte])
   refine ld f k rfl ?_;refine Q2y W (X.tabs _ (fun b o e=>f b o (g.le b o e))) fun B E=>?_;have r:=g.trans (Stp.of_below f E);cases V:Lib.validD v.s with
   | true=>
    (try simp only[↓M1,M1,Mb,reduceIte])
    rw[if_pos ⟨z,by simp[V8,V,U]⟩] at h
    exact h _ _ r
   | false=>
    (try simp only[↓M1,M1,Mb,reduceIte])
    rw[if_neg (by rintro ⟨_,e⟩;simp[V8,V] at e)] at h
    exact j r (SLe.refl _) h
  .rw[decide_eq_false (show¬(v.s.length:Int)<=4096 by omega)]
   (try simp only[↓M1,M1,Mb,reduceIte])
   rw[if_neg (by rintro ⟨_,e⟩;simp[V8,U] at e)] at h
   exact j g (SLe.refl _) h
 .have:decide ((⟨v.sort,v.n,v.s,v.ref⟩:Val)=⟨3,0,v.s,0⟩)=false:=decide_eq_false z
  rw[this]
  (try simp only[↓M1,M1,Mb,reduceIte])
  rw[if_neg (fun e=>z e.1)] at h;exact j g (SLe.refl _) h)
theorem Q0P {β:Type} {xs:List Val} {v f:Value} (b:β->Val->Bool×β) (m:β) (a:β->World->Prop) (D:Nat->Prop) (l: ∀s w,a s w->X3 w σ) (y:a m w) (u:Sl 4 O6 σ v xs)
 (z: ∀s x cs (w1:World) (K:Value->World->Prop),x∈xs->Kpt D w w1->a s w1->O6 σ x cs->cs.length=4->(∀w',Kpt D w w'->a (b s x).2 w'->K (.bool (b s x).1) w')->J6 P f [.agg cs.toArray] w1 K)
 (h: ∀w',Kpt D w w'->a (W1 b m xs 0).2 w'->K (I (E1 (W1 b m xs 0).1)) w'):Q0 P F.a8 [v,f] w K:=Vl (by
 unfold Qr J3 V1 X4 X1
 ((try simp only[↓M1,M1,Mb,reduceIte]);repeat ((first | refine ld Q8 Q8 rfl ?_ | refine Y6 Q8 Q8 rfl ?_ | refine Q6 Q8 ?_);(try simp only[↓M1,M1,Mb,reduceIte])))
 refine V7 xs.length (fun n w'=>Kpt D w w'/\ ∃s,a s w'/\W1 b m xs 0=W1 b s (xs.drop n) n) ⟨Kpt.refl,m,y,rfl⟩ fun n w1 d E i=>?_;obtain ⟨t,s,i,e⟩:=i;have r:=l s w1 i
 ((try simp only[↓M1,M1,Mb,reduceIte]);repeat ((first | refine ld Q8 Q8 rfl ?_ | refine Y6 Q8 Q8 rfl ?_ | refine Q6 Q8 ?_);(try simp only[↓M1,M1,Mb,reduceIte])))
 refine Q4 (fun q=>?_) (fun q=>?_)
 .have c:n<xs.length:=by simpa using q
  refine E4 u c fun p cs A g B=>?_;refine Z3 r A g ?_;refine z s xs[n] cs w1 _ (List.getElem_mem c) t i B g fun C k j=>?_;rw[List.drop_eq_getElem_cons c] at e;simp only[W1] at e;refine Q4 (fun o=>?_) (fun o=>?_)
  .rw[o] at e
   have:=h C k;rw[e] at this;exact this j
  .rw[o] at e
   ((try simp only[↓M1,M1,Mb,reduceIte]);repeat ((first | refine ld Q8 Q8 rfl ?_ | refine Y6 Q8 Q8 rfl ?_ | refine Q6 Q8 ?_);(try simp only[↓M1,M1,Mb,reduceIte])))
   exact Z4 u.max c ⟨k,_,j,by simpa using e⟩
 .have c: ¬n<xs.length:=by simpa using q
  rw[List.drop_eq_nil_of_le Q5] at e;have:=h w1 t;rw[e] at this;exact this i)
theorem Py {β:Type} {xs:List Val} {v f:Value} (b:β->Val->Bool×β) (d:β) (a:β->World->Prop) (D:Nat->Prop) (c: ∀s w,a s w->X3 w σ) (e:a d w) (k:Sl 4 O6 σ v xs)
 (g: ∀s x cs (w1:World) (K:Value->World->Prop),x∈xs->Kpt D w w1->a s w1->O6 σ x cs->cs.length=4->(∀w',Kpt D w w'->a (b s x).2 w'->K (.bool (b s x).1) w')->J6 P f [.agg cs.toArray] w1 K)
 (h: ∀w',Kpt D w w'->a (W1 b d xs 0).2 w'->K (.bool (W1 b d xs 0).1.isSome) w'):Q0 P F.h [v,f] w K:=Jr (by
 unfold T6 X2;refine Q0P b d a D c e k g fun w1 j i=>?_
 (try simp only[↓M1,M1,Mb,reduceIte])
 rw[Be];exact h w1 j i)
theorem Li {xs:List Val} {v f:Value} (p:Val->Bool) (hs:X3 w σ) (hv:Sl 4 O6 σ v xs)
 (hf: ∀x cs (w1:World) (K:Value->World->Prop),x∈xs->X3 w1 σ->O6 σ x cs->cs.length=4->(∀w',Below w1.heap.size w1 w'->K (.bool (p x)) w')->J6 P f [.agg cs.toArray] w1 K)
 (h: ∀w',Below w.heap.size w w'->K (.bool (xs.any p)) w'):Q0 P F.h [v,f] w K:=by
 refine Py (fun (_:Unit) x=>(p x,())) () (fun _ w'=>Below w.heap.size w w') (fun _=>False) (fun _ w' hb=>hs.below hb) (Below.refl _ _) hv (fun s x cs w1 K hx hk hi hr hl hK=>hf x cs w1 K hx (hs.below hi) hr hl fun w' hb=>hK w' (.of_below (bt hi hb)) (bt hi hb)) fun w' hk hi=>?_;rw[Xc]
 simpa using h w' hi
variable {l : List Cla}
theorem X9p (p:X3 w σ) (j:Glb σ) (hh:E2 σ hp tv room cs) (r:Tab σ tv l) (ok:Ok l) {v:Val} {k:Q9} (i:v.s.length<=V4) (m:k.length<=V4) (h: ∀w' σ',Stp w σ w' σ'->K (.bool (P1 V8 l cs v k)) w'):Q0 P F.cc [hp, .agg [I v.sort,I v.n,S v.s,I v.ref].toArray,S k] w K:=Q4w (by
 unfold Bu J1 X8 J9;refine Z6 p fun q w1 σ1 c o=>?_;refine Z3 c.sat o rfl ?_;refine X9r c.sat (j.lift ⟨c.le⟩) (hh.lift ⟨c.le⟩) i fun A C f=>?_;have b:=c.trans f;refine Jb ?_;unfold P1 at h;have d:=X8N hh v;generalize K5 V8 cs v=t at*
 by_cases e:t=[]
 .rw[decide_eq_true e] at h⊢
  (try simp only[↓M1,M1,Mb,reduceIte])
  exact h _ _ b
 .rw[decide_eq_false e] at h⊢
  obtain ⟨a,z,rfl,u,y⟩:=hh
  (try simp only[↓M1,M1,Mb,reduceIte])
  refine ld b.sat (u.lift ⟨b.le⟩) rfl ?_;refine Y0y b.sat (r.lift ⟨b.le⟩) ok d m fun B D g=>?_
  (try simp only[↓M1,M1,Mb,reduceIte])
  exact h _ _ (b.trans g))
theorem X9w (y:X3 w σ) (hh:E2 σ hp tv room cs) (z:Tab σ tv l) (ok:Ok l) {k:Q9} {o:Value} {i:Nat} (u:k.length<=V4) (E:o.cells= #[o]/\o.oneCell'=true) (n:elem k=[]->i<(V0 l k).length)
 (h: ∀w' σ',Stp w σ w' σ'->K (S (Wz l k i)) w'):Q0 P F.cd [hp, .agg [S k,o].toArray,I i] w K:=Q4A (by
 unfold By;simp only[Y5,X5];unfold X6 J9;refine Z6 y fun q w1 σ1 c s=>?_
 (try simp only[↓M1,M1,Mb,reduceIte])
 refine Y6 c.sat s rfl ?_;refine Q7c k (Nat.le_trans u L7) fun M p=>?_;have d:=Stp.of_below c.sat p;have b:=c.trans d;refine Jb ?_;unfold Wz at h
 by_cases e:elem k=[]
 .simp only[if_pos e] at h
  rw[decide_eq_true e]
  (try simp only[↓M1,M1,Mb,reduceIte])
  obtain ⟨a,J,rfl,B,H⟩:=hh;have r:=d.sat;have v:=s.up d;have C:=B.lift ⟨b.le⟩;refine V3 r ?_
  (repeat refine Y3 Vq ?_)
  (intros;(repeat (rename_i A;subst A));(try simp only[↓M2,M2,Mb,reduceIte]))
  rename_i N g;have f:=b.trans g.stp;refine Q0X g.sat (z.lift ⟨f.le⟩) ok.acy ok.len ok.sm fun L O Q j m=>?_;refine Y7 m (n e) ?_;obtain ⟨D,_⟩:=m.elF (n e)
  (try simp only[↓M1,M1,Mb,reduceIte])
  refine ld j.sat D rfl ?_;have t:(V0 l k).getD i Fld.zero=(V0 l k)[i]'(n e):=by rw[List.getD_eq_getElem?_getD,List.getElem?_eq_getElem (n e)];rfl
  rw[t] at h;exact h _ _ (f.trans j)
 .simp only[if_neg e] at h
  rw[decide_eq_false e]
  (try simp only[↓M1,M1,Mb,reduceIte])
  exact h _ _ b)
end Go.Proofs.Y
