/- Parts of a proof about the given program: its functions as texts of their own, what each computes, plain laws of that. The conditions of each stand in its statement. -/
import Derived.Test.YtlfdfcejjgidpaaGreatDoorB3
import Derived.Shelf.Strings.Builder1
import Derived.Shelf.Strings.Builder2
import Derived.Shelf.Strings.OnBuilder
import Derived.Shelf.Strings.Trim
import Derived.Shelf.Small.Utf8
import Derived.Shelf.Small.Strs
import Derived.Shelf.Small.Wraps
import Derived.Shelf.Strings.BuilderF
import Derived.Shelf.Strings.BuilderK
import Derived.Shelf.Strings.Builder2Cap
import Derived.Shelf.Strings.Search1
import Derived.Shelf.Strings.Search2
import Derived.Shelf.Strings.Search3
import Derived.Shelf.Strings.Cut
import Derived.Shelf.LaysM
import Derived.Shelf.Strings.Shaped
import Derived.Shelf.Strings.Prefix
import Derived.Shelf.Unicode.Decode
import Derived.Shelf.Strings.Runes
import Derived.Shelf.Strings.AsciiSet
import Derived.Shelf.Unicode.DecodeSlow
import Derived.Shelf.Unicode.DecodeAny
import Derived.Shelf.Unicode.DecodeLast
import Derived.Shelf.Slices.Turned
import Derived.Ground.Names2Prog
import Derived.Shelf.Slices.Clone
import Derived.Ground.SlgnProg
import Derived.Shelf.SlicesE.Clone
import Derived.Shelf.Unicode.ValidAny
import Derived.Test.YtlfdfcejjgidpaaGreatDoorProg
import Derived.Test.YtlfdfcejjgidpaaGreatDoorB2
import Derived.Test.YtlfdfcejjgidpaaGreatDoorRows
import Derived.Lib.LaidU8T
import Derived.OpenShut
import Derived.MakeChecks
import Derived.WideShapes
import Derived.Lib.AsciiSet
import Derived.Lib.Join
import Derived.Maps.RangeRun
import Derived.Laws.Bits128
import Derived.Laws.Bits64
set_option linter.unnecessarySimpa false
set_option linter.defProp false
set_option linter.unusedSectionVars false
set_option linter.unusedVariables false
set_option linter.unusedSimpArgs false
namespace Go.Proofs
open Go.Shelf
def Tryz.lays156_ren : Go.Shelf.Ren := ⟨fun | 156 => 185 | 165 => 220 | 166 => 221 | 169 => 222 | 240 => 241 | 241 => 242 | 276 => 253 | 277 => 254 | n => n, fun | 31 => 90 | 9 => 9 | 3 => 3 | 4 => 4 | 0 => 0 | 20 => 20 | 72 => 254 | 76 => 257 | 70 => 252 | 37 => 32 | 75 => 256 | 127 => 268 | 164 => 277 | 5 => 5 | 80 => 259 | n => n, fun | n => n⟩
theorem Tryz.lays156 : Go.Proofs.Lays.n156 Tryz.prog Tryz.lays156_ren := {
  mixed := by kernel_rfl
  f156 := Tryz.func185.trans (congrArg some (by kernel_rfl))
  f165 := Tryz.func220.trans (congrArg some (by kernel_rfl))
  f166 := Tryz.func221.trans (congrArg some (by kernel_rfl))
  f169 := Tryz.func222.trans (congrArg some (by kernel_rfl))
  f240 := Tryz.func241.trans (congrArg some (by kernel_rfl))
  f241 := Tryz.func242.trans (congrArg some (by kernel_rfl))
  f276 := Tryz.func253.trans (congrArg some (by kernel_rfl))
  f277 := Tryz.func254.trans (congrArg some (by kernel_rfl))
  t0 := Tryz.underlying0
  a0 := Tryz.isAgg0
  z0 := Tryz.sizeOf0
  v0 := Tryz.zeroValue0
  t3 := Tryz.underlying3
  a3 := Tryz.isAgg3
  z3 := Tryz.sizeOf3
  v3 := Tryz.zeroValue3
  t4 := Tryz.underlying4
  a4 := Tryz.isAgg4
  z4 := Tryz.sizeOf4
  v4 := Tryz.zeroValue4
  t9 := Tryz.underlying9
  a9 := Tryz.isAgg9
  z9 := Tryz.sizeOf9
  v9 := Tryz.zeroValue9
  t20 := Tryz.underlying20
  a20 := Tryz.isAgg20
  z20 := Tryz.sizeOf20
  v20 := Tryz.zeroValue20
  t31 := Tryz.underlying90
  a31 := Tryz.isAgg90
  z31 := Tryz.sizeOf90
  v31 := Tryz.zeroValue90
  t37 := Tryz.underlying32
  a37 := Tryz.isAgg32
  z37 := Tryz.sizeOf32
  v37 := Tryz.zeroValue32
  t70 := Tryz.underlying252
  a70 := Tryz.isAgg252
  z70 := Tryz.sizeOf252
  v70 := Tryz.zeroValue252
  t72 := Tryz.underlying254
  a72 := Tryz.isAgg254
  z72 := Tryz.sizeOf254
  v72 := Tryz.zeroValue254
  t75 := Tryz.underlying256
  a75 := Tryz.isAgg256
  z75 := Tryz.sizeOf256
  v75 := Tryz.zeroValue256
  t76 := Tryz.underlying257
  a76 := Tryz.isAgg257
  z76 := Tryz.sizeOf257
  v76 := Tryz.zeroValue257
  t127 := Tryz.underlying268
  a127 := Tryz.isAgg268
  z127 := Tryz.sizeOf268
  v127 := Tryz.zeroValue268
  t164 := Tryz.underlying277
  a164 := Tryz.isAgg277
  z164 := Tryz.sizeOf277
  v164 := Tryz.zeroValue277 }
theorem Tryz.Builder_Extra_156 : Builder.Extra Tryz.prog Tryz.lays156_ren := {
  sizeBuilder := by kernel_rfl
  liesBuilder := by kernel_rfl
  t5 := Tryz.underlying5
  a5 := Tryz.isAgg5
  z5 := Tryz.sizeOf5
  v5 := Tryz.zeroValue5
  infoByte := by kernel_rfl
  cellsByte := by kernel_rfl
  sizeByte := by kernel_rfl
  neB5 := by decide }
open Go.RowKit in
theorem Tryz.strings_Join_none (a : Option Addr) (c : Nat) (sep : ByteArray) (w : World) :
    Calls Tryz.prog 185 #[.slice a 0 c, .string sep] w fun e w' => e = .returned (.string ⟨#[]⟩) /\ w' = w := Any.strings_Join_none Tryz.lays156 Tryz.Builder_Extra_156 a c sep w
open Go.RowKit in
theorem Tryz.strings_Join (bk o c : Nat) (xs : List ByteArray) (sep : ByteArray) (w : World) (hcells : ∀ (j : Nat) x, xs[j]? = some x -> w.cell? ⟨bk, o + j, none⟩ = some (.string x)) (hbk : bk < w.heap.size) (hN : xs.length <= 140737488355328) (hcap : xs.length <= c) (hlen : (Lib.join (xs.map (·.data.toList)) sep.data.toList).length <= 140737488355328) :
    Calls Tryz.prog 185 #[.slice (some ⟨bk, o, none⟩) xs.length c, .string sep] w fun e w' => e = .returned (.string ⟨(Lib.join (xs.map (·.data.toList)) sep.data.toList).toArray⟩) /\ Below w.heap.size w w' := Any.strings_Join Tryz.lays156 Tryz.Builder_Extra_156 bk o c xs sep w hcells hbk hN hcap hlen
open Go.RowKit in
def Tryz.lays144_ren : Go.Shelf.Ren := ⟨fun | 144 => 247 | 143 => 259 | 219 => 267 | 217 => 269 | 225 => 265 | 224 => 264 | 267 => 271 | 266 => 272 | 314 => 273 | n => n, fun | 9 => 9 | 4 => 4 | 3 => 3 | 5 => 5 | 46 => 200 | 146 => 289 | 51 => 288 | n => n, fun | 1 => 4 | n => n⟩
theorem Tryz.lays144 : Go.Proofs.Lays.n144 Tryz.prog Tryz.lays144_ren := {
  mixed := by kernel_rfl
  f143 := Tryz.func259.trans (congrArg some (by kernel_rfl))
  f144 := Tryz.func247.trans (congrArg some (by kernel_rfl))
  f217 := Tryz.func269.trans (congrArg some (by kernel_rfl))
  f219 := Tryz.func267.trans (congrArg some (by kernel_rfl))
  f224 := Tryz.func264.trans (congrArg some (by kernel_rfl))
  f225 := Tryz.func265.trans (congrArg some (by kernel_rfl))
  f266 := Tryz.func272.trans (congrArg some (by kernel_rfl))
  f267 := Tryz.func271.trans (congrArg some (by kernel_rfl))
  f314 := Tryz.func273.trans (congrArg some (by kernel_rfl))
  t3 := Tryz.underlying3
  a3 := Tryz.isAgg3
  z3 := Tryz.sizeOf3
  v3 := Tryz.zeroValue3
  t4 := Tryz.underlying4
  a4 := Tryz.isAgg4
  z4 := Tryz.sizeOf4
  v4 := Tryz.zeroValue4
  t5 := Tryz.underlying5
  a5 := Tryz.isAgg5
  z5 := Tryz.sizeOf5
  v5 := Tryz.zeroValue5
  t9 := Tryz.underlying9
  a9 := Tryz.isAgg9
  z9 := Tryz.sizeOf9
  v9 := Tryz.zeroValue9
  t46 := Tryz.underlying200
  a46 := Tryz.isAgg200
  z46 := Tryz.sizeOf200
  v46 := Tryz.zeroValue200
  t51 := Tryz.underlying288
  a51 := Tryz.isAgg288
  z51 := Tryz.sizeOf288
  v51 := Tryz.zeroValue288
  t146 := Tryz.underlying289
  a146 := Tryz.isAgg289
  z146 := Tryz.sizeOf289
  v146 := Tryz.zeroValue289
  g1 := by kernel_rfl }
open Go.RowKit Go.Lib in
theorem Tryz.strings_Contains_one (s : ByteArray) (c : UInt8) (w : World) :
    Calls Tryz.prog 247 #[.string s, .string ⟨#[c]⟩] w fun e w' => e = .returned (.bool (decide (0 <= Lib.indexByte s.data.toList c))) /\ w' = w := Any.strings_Contains_one Tryz.lays144 s c w
def Tryz.lays227_ren : Go.Shelf.Ren := ⟨fun | 227 => 217 | n => n, fun | 9 => 9 | 116 => 247 | 4 => 4 | 0 => 0 | 3 => 3 | 5 => 5 | n => n, fun | n => n⟩
theorem Tryz.lays227 : Go.Proofs.Lays.n227 Tryz.prog Tryz.lays227_ren := {
  mixed := by kernel_rfl
  f227 := Tryz.func217.trans (congrArg some (by kernel_rfl))
  t0 := Tryz.underlying0
  a0 := Tryz.isAgg0
  z0 := Tryz.sizeOf0
  v0 := Tryz.zeroValue0
  t3 := Tryz.underlying3
  a3 := Tryz.isAgg3
  z3 := Tryz.sizeOf3
  v3 := Tryz.zeroValue3
  t4 := Tryz.underlying4
  a4 := Tryz.isAgg4
  z4 := Tryz.sizeOf4
  v4 := Tryz.zeroValue4
  t5 := Tryz.underlying5
  a5 := Tryz.isAgg5
  z5 := Tryz.sizeOf5
  v5 := Tryz.zeroValue5
  t9 := Tryz.underlying9
  a9 := Tryz.isAgg9
  z9 := Tryz.sizeOf9
  v9 := Tryz.zeroValue9
  t116 := Tryz.underlying247
  a116 := Tryz.isAgg247
  z116 := Tryz.sizeOf247 }
open Go.RowKit Go.Lib in
theorem Tryz.strings_makeASCIISet (hv116 : ∀ w, (zeroValue 247).run Tryz.prog w = .ok (.agg (Array.replicate 256 (.bool false))) w) (chars : ByteArray) (w : World) (hs : chars.size < 4294967281) (hascii : ∀ (j : Nat) b, chars.data.toList[j]? = some b -> b.toNat < 128) :
    Calls Tryz.prog 217 #[.string chars] w fun e w' => e = .returned (.tuple #[.agg (Lib.setCells chars.data.toList), .bool true]) /\ w' = w.alloc (.cells (Lib.setCells chars.data.toList) 247) := Any.strings_makeASCIISet Tryz.lays227 hv116 (by kernel_rfl) chars w hs hascii
open Go.RowKit Go.Lib in
def Tryz.lays196_ren : Go.Shelf.Ren := ⟨fun | 196 => 86 | 259 => 148 | n => n, fun | 9 => 9 | 4 => 4 | 3 => 3 | 5 => 5 | 12 => 12 | 119 => 196 | 0 => 0 | 46 => 200 | 139 => 199 | 138 => 198 | 53 => 75 | n => n, fun | 3 => 1 | 4 => 2 | n => n⟩
theorem Tryz.lays196 : Go.Proofs.Lays.n196 Tryz.prog Tryz.lays196_ren := {
  mixed := by kernel_rfl
  f196 := Tryz.func86.trans (congrArg some (by kernel_rfl))
  f259 := Tryz.func148.trans (congrArg some (by kernel_rfl))
  t0 := Tryz.underlying0
  a0 := Tryz.isAgg0
  z0 := Tryz.sizeOf0
  v0 := Tryz.zeroValue0
  t3 := Tryz.underlying3
  a3 := Tryz.isAgg3
  z3 := Tryz.sizeOf3
  v3 := Tryz.zeroValue3
  t4 := Tryz.underlying4
  a4 := Tryz.isAgg4
  z4 := Tryz.sizeOf4
  v4 := Tryz.zeroValue4
  t5 := Tryz.underlying5
  a5 := Tryz.isAgg5
  z5 := Tryz.sizeOf5
  v5 := Tryz.zeroValue5
  t9 := Tryz.underlying9
  a9 := Tryz.isAgg9
  z9 := Tryz.sizeOf9
  v9 := Tryz.zeroValue9
  t12 := Tryz.underlying12
  a12 := Tryz.isAgg12
  z12 := Tryz.sizeOf12
  v12 := Tryz.zeroValue12
  t46 := Tryz.underlying200
  a46 := Tryz.isAgg200
  z46 := Tryz.sizeOf200
  v46 := Tryz.zeroValue200
  t53 := Tryz.underlying75
  a53 := Tryz.isAgg75
  z53 := Tryz.sizeOf75
  v53 := Tryz.zeroValue75
  t119 := Tryz.underlying196
  a119 := Tryz.isAgg196
  z119 := Tryz.sizeOf196
  t138 := Tryz.underlying198
  a138 := Tryz.isAgg198
  z138 := Tryz.sizeOf198
  v138 := Tryz.zeroValue198
  t139 := Tryz.underlying199
  a139 := Tryz.isAgg199
  z139 := Tryz.sizeOf199
  v139 := Tryz.zeroValue199
  g3 := by kernel_rfl
  g4 := by kernel_rfl }
end Go.Proofs
namespace Go.Proofs.Y
open Go.Emb Go.RowKit Go.Kd Go.Hm
variable {w : World} {K : Value -> World -> Prop} {σ : Q3}
theorem X5F {f:FuncId} {fn:Func} {a:List Value} {V:Value} (c:P.funcs[f]? =some fn) (b:fn.body.isSome=true) (g:(fn.name== "runtime.NumGoroutine")=false)
 (h:Calls P f a.toArray w fun e w'=>e= .returned V/\Below w.heap.size w w') (d: ∀w',Below w.heap.size w w'->K V w'):Q0 P f a w K:=by
 refine Ou c b g (Calls.mono h ?_);rintro e w' ⟨rfl,b⟩;exact d w' b
theorem Q1H {a:Q9} (b:a.length<=V5) (c:Lib.Utf8Tabs G.e G.d w) (h: ∀w',Below w.heap.size w w'->K (.bool (Lib.validD a)) w'):Q0 P F.b6 [S a] w K:=
 X5F Tryz.func86 X4 X4 (by
  have:=Any.utf8_ValidString Tryz.lays196 ⟨a.toArray⟩ w (by rw[Xa];simp only[V5] at b;omega) c
  simp only[List.toList_toArray] at this;exact this) h
theorem X0v {a:Q9} {c:UInt8} (h:K (.bool (decide (0<=Lib.indexByte a c))) w):Q0 P F.cV [S a,S [c]] w K:=by
 refine Ou (fn:=Tryz.f247) Tryz.func247 X4 X4 (Calls.mono (Tryz.strings_Contains_one ⟨a.toArray⟩ c w) ?_);rintro e w' ⟨rfl,rfl⟩;exact h
structure Glb (σ : Q3) : Prop where
  ops : Q5c σ
  tabs : ∀ w, X3 w σ -> Lib.Utf8Tabs G.e G.d w
  flt : U0 σ ⟨G.b, 0, none⟩ (L7.map S)
theorem Glb.lift {σ0:Q3} (h:Glb σ0) (k:SLe σ0 σ):Glb σ:=⟨h.ops.le k.le,fun w a=>h.tabs w fun b o e=>a b o (k.le b o e),h.flt.le k.le⟩
def txt (n s:Q9):Bool:=
 if n=[119,111,114,100] then decide (s.length<=64)&&Lib.validD s&& !decide (0<=Lib.indexByte s 10)
 else if n=[110,101,119] then S1 s
 else if n=[105,115]\/n=[99,97,115,116] then right s&& !plain s
 else if n=[97,114,114,97,121] then right s&&decide (Jm s<3)
 else Vp s
theorem X8a {n a:Q9} (ha:a.length<=V5) (hs:X3 w σ) (hg:Glb σ) (h: ∀w' σ',Stp w σ w' σ'->K (.bool (txt n a)) w'):Q0 P F.d5 [S n,S a] w K:=X10 (by
 unfold Q4V;simp only[M8];unfold X5 X6 X1 U6;have ha':a.length<=140737488355320:=by simp only[V5] at ha;omega
 have ha2:a.length<=140737488355328:=by simp only[V5] at ha;omega
 have hv: ∀{w1:World} {K:Value->World->Prop},X3 w1 σ->(∀w',Below w1.heap.size w1 w'->K (.bool (Lib.validD a)) w')->Q0 P F.b6 [S a] w1 K:=fun hk h=>Q1H ha (hg.tabs _ hk) h;unfold txt at h;have e:decide ((a.length:Int)<=64)=decide (a.length<=64):=by rw[Bool.eq_iff_iff];simp only[decide_eq_true_eq];omega
 have e3:decide ((Jm a:Int)<3)=decide (Jm a<3):=by rw[Bool.eq_iff_iff];simp only[decide_eq_true_eq];omega
 by_cases h1:n=[119,111,114,100]
 .rw[if_pos h1] at h
  simp only[decide_eq_true h1,↓M1,M1,Mb,reduceIte,e]
  by_cases h2:a.length<=64
  .simp only[decide_eq_true h2,↓M1,M1,Mb,reduceIte] at h⊢
   refine hv hs (E2 hs ?_);intro w1 σ1 hk
   by_cases h3:Lib.validD a=true
   .simp only[h3,↓M1,M1,Mb,reduceIte] at h⊢
    refine X0v ?_
    (repeat' (first | (with_reducible intro _) | (with_reducible refine L4 ?_) | (simp only[↓M2,M2,Mb,reduceIte]) | (with_reducible first | refine ld aS aL aR ?_ | refine Y3 aS aL aR ?_ | refine Y8 aS aL aR ?_ | refine Q6 aL ?_ | refine V6 aR ?_ | refine Z6 aS ?_ | refine E8 aS aL ?_ | refine W6 aS aR ?_ | refine Z5 aS aR aR (Rep.one Q7) ?_ | refine V8 aS aR aR aR ?_ | (refine U9 (fun hh=>?_) (fun hh=>?_)<;>(try simp only[hh,Bool.not_true,Bool.not_false,↓M2,M2,Mb,reduceIte])) | (refine Q4 (fun hh=>?_) (fun hh=>?_)<;>(try simp only[hh,Bool.not_true,Bool.not_false,↓M2,M2,Mb,reduceIte])))))
    all_goals exact aF
   .simp only[eq_false_of_ne_true h3,↓M1,M1,Mb,reduceIte] at h⊢
    (repeat' (first | (with_reducible intro _) | (with_reducible refine L4 ?_) | (simp only[↓M2,M2,Mb,reduceIte]) | (with_reducible first | refine ld aS aL aR ?_ | refine Y3 aS aL aR ?_ | refine Y8 aS aL aR ?_ | refine Q6 aL ?_ | refine V6 aR ?_ | refine Z6 aS ?_ | refine E8 aS aL ?_ | refine W6 aS aR ?_ | refine Z5 aS aR aR (Rep.one Q7) ?_ | refine V8 aS aR aR aR ?_ | (refine U9 (fun hh=>?_) (fun hh=>?_)<;>(try simp only[hh,Bool.not_true,Bool.not_false,↓M2,M2,Mb,reduceIte])) | (refine Q4 (fun hh=>?_) (fun hh=>?_)<;>(try simp only[hh,Bool.not_true,Bool.not_false,↓M2,M2,Mb,reduceIte])))))
    all_goals exact aF
  .simp only[decide_eq_false h2,↓M1,M1,Mb,reduceIte] at h⊢
   (repeat' (first | (with_reducible intro _) | (with_reducible refine L4 ?_) | (simp only[↓M2,M2,Mb,reduceIte]) | (with_reducible first | refine ld aS aL aR ?_ | refine Y3 aS aL aR ?_ | refine Y8 aS aL aR ?_ | refine Q6 aL ?_ | refine V6 aR ?_ | refine Z6 aS ?_ | refine E8 aS aL ?_ | refine W6 aS aR ?_ | refine Z5 aS aR aR (Rep.one Q7) ?_ | refine V8 aS aR aR aR ?_ | (refine U9 (fun hh=>?_) (fun hh=>?_)<;>(try simp only[hh,Bool.not_true,Bool.not_false,↓M2,M2,Mb,reduceIte])) | (refine Q4 (fun hh=>?_) (fun hh=>?_)<;>(try simp only[hh,Bool.not_true,Bool.not_false,↓M2,M2,Mb,reduceIte])))))
   all_goals exact aF
 rw[if_neg h1] at h;simp only[decide_eq_false h1,↓M1,M1,Mb,reduceIte]
 by_cases h2:n=[110,101,119]
 .rw[if_pos h2] at h
  simp only[decide_eq_true h2,↓M1,M1,Mb,reduceIte]
  (repeat' (first | (with_reducible intro _) | (with_reducible refine L4 ?_) | (simp only[↓M2,M2,Mb,reduceIte]) | (with_reducible first | refine ld aS aL aR ?_ | refine Y3 aS aL aR ?_ | refine Y8 aS aL aR ?_ | refine Q6 aL ?_ | refine V6 aR ?_ | refine Z6 aS ?_ | refine E8 aS aL ?_ | refine W6 aS aR ?_ | refine Z5 aS aR aR (Rep.one Q7) ?_ | refine V8 aS aR aR aR ?_ | refine Gp _ au (E2 aS ?_) | (refine U9 (fun hh=>?_) (fun hh=>?_)<;>(try simp only[hh,Bool.not_true,Bool.not_false,↓M2,M2,Mb,reduceIte])) | (refine Q4 (fun hh=>?_) (fun hh=>?_)<;>(try simp only[hh,Bool.not_true,Bool.not_false,↓M2,M2,Mb,reduceIte])))))
  all_goals exact aF
 rw[if_neg h2] at h;simp only[decide_eq_false h2,↓M1,M1,Mb,reduceIte]
 by_cases h3:n=[105,115]\/n=[99,97,115,116]
 .rw[if_pos h3] at h
  have e4:(decide (n=[105,115])||decide (n=[99,97,115,116]))=true:=by simpa using h3
  refine L4 ?_;refine Q4 (fun h4=>?_) (fun h4=>?_)
  .simp only[h4,↓M1,M1,Mb,reduceIte]
   (repeat' (first | (with_reducible intro _) | (with_reducible refine L4 ?_) | (simp only[↓M2,M2,Mb,reduceIte]) | (with_reducible first | refine ld aS aL aR ?_ | refine Y3 aS aL aR ?_ | refine Y8 aS aL aR ?_ | refine Q6 aL ?_ | refine V6 aR ?_ | refine Z6 aS ?_ | refine E8 aS aL ?_ | refine W6 aS aR ?_ | refine Z5 aS aR aR (Rep.one Q7) ?_ | refine V8 aS aR aR aR ?_ | refine Vq _ au (E2 aS ?_) | refine Gq _ ?_ | (refine U9 (fun hh=>?_) (fun hh=>?_)<;>(try simp only[hh,Bool.not_true,Bool.not_false,↓M2,M2,Mb,reduceIte])) | (refine Q4 (fun hh=>?_) (fun hh=>?_)<;>(try simp only[hh,Bool.not_true,Bool.not_false,↓M2,M2,Mb,reduceIte])))))
   all_goals exact aF
  .rw[h4,Bool.false_or] at e4
   simp only[e4,↓M1,M1,Mb,reduceIte]
   (repeat' (first | (with_reducible intro _) | (with_reducible refine L4 ?_) | (simp only[↓M2,M2,Mb,reduceIte]) | (with_reducible first | refine ld aS aL aR ?_ | refine Y3 aS aL aR ?_ | refine Y8 aS aL aR ?_ | refine Q6 aL ?_ | refine V6 aR ?_ | refine Z6 aS ?_ | refine E8 aS aL ?_ | refine W6 aS aR ?_ | refine Z5 aS aR aR (Rep.one Q7) ?_ | refine V8 aS aR aR aR ?_ | refine Vq _ au (E2 aS ?_) | refine Gq _ ?_ | (refine U9 (fun hh=>?_) (fun hh=>?_)<;>(try simp only[hh,Bool.not_true,Bool.not_false,↓M2,M2,Mb,reduceIte])) | (refine Q4 (fun hh=>?_) (fun hh=>?_)<;>(try simp only[hh,Bool.not_true,Bool.not_false,↓M2,M2,Mb,reduceIte])))))
   all_goals exact aF
 rw[if_neg h3] at h;obtain ⟨h3,h4⟩:=not_or.1 h3;refine L4 ?_;simp only[decide_eq_false h3,decide_eq_false h4,↓M1,M1,Mb,reduceIte]
 by_cases h5:n=[97,114,114,97,121]
 .rw[if_pos h5] at h
  simp only[decide_eq_true h5,↓M1,M1,Mb,reduceIte]
  (repeat' (first | (with_reducible intro _) | (with_reducible refine L4 ?_) | (simp only[↓M2,M2,Mb,reduceIte]) | (with_reducible first | refine ld aS aL aR ?_ | refine Y3 aS aL aR ?_ | refine Y8 aS aL aR ?_ | refine Q6 aL ?_ | refine V6 aR ?_ | refine Z6 aS ?_ | refine E8 aS aL ?_ | refine W6 aS aR ?_ | refine Z5 aS aR aR (Rep.one Q7) ?_ | refine V8 aS aR aR aR ?_ | refine Vq _ au (E2 aS ?_) | refine X44 _ au (E2 aS ?_) | (refine U9 (fun hh=>?_) (fun hh=>?_)<;>(try simp only[hh,Bool.not_true,Bool.not_false,↓M2,M2,Mb,reduceIte])) | (refine Q4 (fun hh=>?_) (fun hh=>?_)<;>(try simp only[hh,Bool.not_true,Bool.not_false,↓M2,M2,Mb,reduceIte])))))
  all_goals (try rw[e3])
  all_goals exact aF
 rw[if_neg h5] at h;simp only[decide_eq_false h5,↓M1,M1,Mb,reduceIte];intro _;refine X7j a ha2 (E2 hs fun w1 σ1 hk=>?_)
 by_cases hp:Vp a=true
 .simp only[hp,if_true] at h⊢
  (repeat' (first | (with_reducible intro _) | (with_reducible refine L4 ?_) | (simp only[↓M2,M2,Mb,reduceIte]) | (with_reducible first | refine ld aS aL aR ?_ | refine Y3 aS aL aR ?_ | refine Y8 aS aL aR ?_ | refine Q6 aL ?_ | refine V6 aR ?_ | refine Z6 aS ?_ | refine E8 aS aL ?_ | refine W6 aS aR ?_ | refine Z5 aS aR aR (Rep.one Q7) ?_ | refine V8 aS aR aR aR ?_ | (refine U9 (fun hh=>?_) (fun hh=>?_)<;>(try simp only[hh,Bool.not_true,Bool.not_false,↓M2,M2,Mb,reduceIte])) | (refine Q4 (fun hh=>?_) (fun hh=>?_)<;>(try simp only[hh,Bool.not_true,Bool.not_false,↓M2,M2,Mb,reduceIte])))))
  all_goals exact aF
 .simp only[eq_false_of_ne_true hp,Bool.false_eq_true,if_false] at h⊢
  (repeat' (first | (with_reducible intro _) | (with_reducible refine L4 ?_) | (simp only[↓M2,M2,Mb,reduceIte]) | (with_reducible first | refine ld aS aL aR ?_ | refine Y3 aS aL aR ?_ | refine Y8 aS aL aR ?_ | refine Q6 aL ?_ | refine V6 aR ?_ | refine Z6 aS ?_ | refine E8 aS aL ?_ | refine W6 aS aR ?_ | refine Z5 aS aR aR (Rep.one Q7) ?_ | refine V8 aS aR aR aR ?_ | (refine U9 (fun hh=>?_) (fun hh=>?_)<;>(try simp only[hh,Bool.not_true,Bool.not_false,↓M2,M2,Mb,reduceIte])) | (refine Q4 (fun hh=>?_) (fun hh=>?_)<;>(try simp only[hh,Bool.not_true,Bool.not_false,↓M2,M2,Mb,reduceIte])))))
  all_goals exact aF)
def F6 (i:Ins):Int:=if !(I7 i.op).2.2 then 40 else if (!(I7 i.op).1&&decide (i.n≠0))||(!(I7 i.op).2.1&&decide (i.s≠[]))||((I7 i.op).2.1&& !txt i.op i.s) then 41 else 0
theorem X5a {a:Q9} (c:X3 w σ) (b:Glb σ) (h: ∀w',Below w.heap.size w w'->K (.tuple #[.bool (I7 a).1, .bool (I7 a).2.1, .bool (I7 a).2.2]) w'):Q0 P F.cs [S a] w K:=X6N c b.ops h
theorem X0y {i:Ins} {cs:List Value} (hs:X3 w σ) (hg:Glb σ) (hi:Zc σ i cs) (h: ∀w' σ',Stp w σ w' σ'->K (I (F6 i)) w'):Q0 P F.cX [.agg cs.toArray] w K:=Q9M (by
 obtain ⟨rfl,h1,h2,h3⟩:=hi;unfold Q2Y;simp only[M8];unfold Z8 X9 X1 U6;unfold F6 at h
 (repeat' (first | (with_reducible intro _) | (with_reducible refine L4 ?_) | (simp only[↓M2,M2,Mb,reduceIte]) | (with_reducible first | refine ld aS aL aR ?_ | refine Y3 aS aL aR ?_ | refine Y8 aS aL aR ?_ | refine Q6 aL ?_ | refine V6 aR ?_ | refine Z6 aS ?_ | refine E8 aS aL ?_ | refine W6 aS aR ?_ | refine Z5 aS aR aR (Rep.one Q7) ?_ | refine V8 aS aR aR aR ?_ | refine X5a au au (E2 aS ?_) | refine X8a au au au ?_ | (refine U9 (fun hh=>?_) (fun hh=>?_)<;>(try simp only[hh,Bool.not_true,Bool.not_false,↓M2,M2,Mb,reduceIte])) | (refine Q4 (fun hh=>?_) (fun hh=>?_)<;>(try simp only[hh,Bool.not_true,Bool.not_false,↓M2,M2,Mb,reduceIte])))))
 all_goals exact aF)
end Go.Proofs.Y
namespace Go.Emb
open Go.Proofs.YtlfdfcejjgidpaaGreatDoor Go.RowKit Go.Hm
variable {P : Program} {W : World}
theorem Q5g {w:World} (c:X3 w (Mn W)) {a:Addr} {v:Value} (h:W.cell? a=some v):w.cell? a=some v:=by
 unfold World.cell? at h⊢;cases b:W.heap[a.block]? with
 | none=>rw[b] at h;cases h
 | some o=>rw[b] at h;rw[c _ o b];exact h
theorem X8d {α:Type} {f:α->List Value} {sz:Nat} (k: ∀a,(f a).length=sz): ∀(l:List α) (cs:List Value),cs.length=l.length*sz->(∀i a,l[i]? =some a->(cs.drop (i*sz)).take sz=f a)->cs=l.flatMap f:=by
 intro l
 induction l with
 | nil=>intro cs h _;simp at h;simp[h]
 | cons a r j=>
  intro cs h hh;have c:=hh 0 a rfl
  have e:=j (cs.drop sz) (by rw[List.length_drop,h,List.length_cons,Nat.succ_mul];omega) (fun i b g=>by
   have:=hh (i+1) b (by simpa using g)
   rw[List.drop_drop]
   rwa [Nat.succ_mul,Nat.add_comm] at this)
  rw[List.flatMap_cons,<-e,<-c]
  simp
theorem Q7r {α H:Type} {enc:TypeId×Value->H} {base:Nat} {w:Nat->Bool} {b:Bool} {f:α->List Value} {g:α->DataW H} {n sz:Nat} {t e:TypeId} {c:Nat} {cs:List Value} {p:List MemPlace} (E:P.underlying t=some (.array n e)) (B:P.cellsOf e=sz) (j:P.cellsOf t=n*sz)
 (l:List α) (C: ∀a,(f a).length=sz) (o: ∀m cs a q,DataW.trod enc P W base w b m e cs=some (g a,q)->cs=f a)
 (h:DataW.trod enc P W base w b c t cs=some (.agg (l.map g),p)):cs=l.flatMap f:=by
 obtain ⟨xs,m,_,k,y,J,z⟩:=DataW.trod_array E h;simp only[Prod.mk.injEq,DataW.agg.injEq] at k;have D:l.length=n:=by have:=congrArg List.length k.1;simp at this;omega
 refine X8d C l cs (by rw[y,j,D]) fun i a s=>?_
 have L:i<l.length:=(List.getElem?_eq_some_iff.1 s).1;have r:=z i Q5;have u:i<xs.length:=by omega
 rw[List.getElem?_eq_getElem u,B] at r
 have A:(xs[i]).1=g a:=by
  have:=congrArg (·[i]?) k.1;simp only[List.getElem?_map,s,List.getElem?_eq_getElem u,Option.map_some,Option.some.injEq] at this;exact this.symm
 exact o m _ a _ (by rw[r];congr 1;exact Prod.ext A rfl)
theorem Q9r {n:String} {g:Nat} {cs:Array Value} {l:List Value} (f:P.globalNamed n=some g) (a:W.var? P n=some cs) (j:cs.toList=l):U0 (Mn W) ⟨g,0,none⟩ l:=by
 unfold World.var? at a;rw[f] at a;simp only[Option.bind_some] at a;cases b:W.heap[g]? with
 | none=>rw[b] at a;cases a
 | some o=>
  rw[b] at a;cases o with
  | cells arr e c=>
   cases a;refine ⟨rfl,cs,e,c,b,fun i v h=>?_⟩;subst j
   simpa using h
  | _=>cases a
end Go.Emb
namespace Go.Proofs.Y
open Go.Proofs.YtlfdfcejjgidpaaGreatDoor Go.Emb Go.RowKit Go.Kd Go.Hm
variable {W : World}
def laidAll:List (String×DataW Unit):=[("unicode/utf8.acceptRanges",Rows.laid_unicode_utf8_acceptRanges),("squinch/code.ops",Rows.laid_squinch_code_ops),("squinch/hier.faults",Rows.laid_squinch_hier_faults),("unicode/utf8.first",Rows.laid_unicode_utf8_first)]
theorem X9v:Rows.laid_squinch_code_ops=(.agg (Lr.map fun o=> .agg [.lit (.string o.name), .lit (.bool o.number), .lit (.bool o.text)]):DataW Unit):=by rfl
theorem X5p:Rows.laid_squinch_hier_faults=(.agg (L7.map fun s=> .lit (.string s)):DataW Unit):=by rfl
theorem X93:(Rows.laid_unicode_utf8_acceptRanges:DataW Unit)=Lib.acceptData:=by rfl
theorem X7d:Rows.laid_unicode_utf8_first=Lib.firstData:=by kernel_rfl
def Y02:Array Field:= #[⟨"name",T.b,0,false, "", "squinch/code",0⟩,⟨"number",T.r,1,false, "", "squinch/code",16⟩,⟨"text",T.r,2,false, "", "squinch/code",17⟩]
theorem Y08:P.underlying T.al=some (.struct Y02):=by kernel_rfl
theorem X8w (h:laidMetH P laidAll W):Glb (Mn W):=by
 rw[Go.MakeChecks.laidMetH_plain _ _ _ X4] at h;refine ⟨?_,fun w C=>?_,?_⟩
 .obtain ⟨g,t,cs,l,p,r,k,b,o⟩:=Lib.laidMet.reads h (.tail _ (.head _))
  obtain rfl:=Option.some.inj ((show P.globalNamed "squinch/code.ops"=some G.a by kernel_rfl).symm.trans r)
  obtain rfl:=Option.some.inj ((show (P.globals[G.a]?).map (·.type)=some T.ao by kernel_rfl).symm.trans k)
  rw[X9v] at o;refine Q9r r b (Q7r (f:=cOp) (sz:=3) (n:=42) (e:=T.al) X4 X4 X4 Lr (fun _=>rfl) (fun m cs a q h=>by
  obtain ⟨xs,n,_,j,V,X,B⟩:=DataW.trod_struct Y08 h;simp only[Prod.mk.injEq,DataW.agg.injEq] at j;have u:cs.length=3:=by rw[V];kernel_rfl
  obtain ⟨y,z,A,rfl⟩:=X6s u;obtain ⟨x0,x1,x2,rfl⟩:=X6s (show xs.length=3 by rw[X];rfl)
  have j:=j.1;simp only[List.map_cons,List.map_nil,List.cons.injEq,and_true] at j;obtain ⟨D,E,J⟩:=j;have L:DataW.trod (fun _=>()) P W 0 (fun _=>true) false n T.b (List.take (P.cellsOf T.b) (List.drop 0 [y,z,A]))=some x0:=B 0 _ rfl;have M:DataW.trod (fun _=>()) P W 0 (fun _=>true) false n T.r (List.take (P.cellsOf T.r) (List.drop 1 [y,z,A]))=some x1:=B 1 _ rfl;have N:DataW.trod (fun _=>()) P W 0 (fun _=>true) false n T.r (List.take (P.cellsOf T.r) (List.drop 2 [y,z,A]))=some x2:=B 2 _ rfl;rw[Q0Y] at L;rw[X8F] at M N;obtain ⟨⟨⟨s0⟩⟩,Q,Z,_⟩:=DataW.trod_string Y6 L;obtain ⟨b1,R,r1⟩:=DataW.trod_bool Q6E M;obtain ⟨b2,U,r2⟩:=DataW.trod_bool Q6E N
  simp at Q R U
  subst Q R U Z r1 r2
  simp at D E J
  simp[cOp,<-D,<-E,<-J]) o)
 .have:=utf8Tabs_of_readsT (U8Types.of196 Tryz.lays196) ⟨by kernel_rfl,by kernel_rfl,by kernel_rfl,by kernel_rfl,by kernel_rfl,by kernel_rfl,by kernel_rfl⟩ (X7d▸Lib.laidMet.reads h (.tail _ (.tail _ (.tail _ (.head _))))) (X93▸Lib.laidMet.reads h (.head _))
  exact ⟨fun c Y=>Q5g C (this.1 c Y),fun i O=>⟨Q5g C (this.2 i O).1,Q5g C (this.2 i O).2⟩⟩
 .obtain ⟨g,t,cs,l,p,r,k,b,o⟩:=Lib.laidMet.reads h (.tail _ (.tail _ (.head _)))
  obtain rfl:=Option.some.inj ((show P.globalNamed "squinch/hier.faults"=some G.b by kernel_rfl).symm.trans r)
  obtain rfl:=Option.some.inj ((show (P.globals[G.b]?).map (·.type)=some T.az by kernel_rfl).symm.trans k)
  rw[X5p] at o
  have:=Q7r (f:=fun s=>[S s]) (sz:=1) (n:=6) (e:=T.b) X4 Q0Y X4 L7 (fun _=>rfl) (fun m cs a q h=>by
   obtain ⟨⟨⟨s⟩⟩,rfl,j,_⟩:=DataW.trod_string Y6 h;cases j;rfl) o
  exact Q9r r b (this.trans (by rfl))
end Go.Proofs.Y
namespace Go.Emb
open Go.Proofs.YtlfdfcejjgidpaaGreatDoor Go.RowKit Go.Hm
theorem X4S {H:Type} {P:Program} {a:List TypeId} {ds:List (DataW H)} (h:(DataW.weightsEach P a ds).all (· <=reachBytes)=true) {j:Nat} {t:TypeId} {d:DataW H} (e:a[j]? =some t) (b:ds[j]? =some d):Wt P t d:=fun n c=>by
 have:=List.all_eq_true.1 h _ (DataW.weights_mem_each e b n c)
 simpa using this
end Go.Emb
namespace Go.Proofs.Y
open Go.Emb Go.RowKit Go.Kd Go.Hm
variable {w : World} {K : Value -> World -> Prop} {σ : Q3}
def Qu (n:Int) (x:Cat):Bool:=decide (0<=x.frm)&&decide (x.frm<x.to)&&decide (x.to<=n)&&decide (0<=x.at_)&&decide (x.at_<n)&&S1 x.cls
theorem X28 {cs:List Value} {c:Cat} {q:Addr} {n:Int} (hs:X3 w σ) (hc:Wp σ c cs) (hq:U0 σ q [I n]) (h: ∀w' σ',Stp w σ w' σ'->K (.bool (Qu n c)) w'):Q0 P F.bp [.agg cs.toArray, .pointer (some q)] w K:=Q5r (by
 obtain ⟨rfl,h1,h2,h3,h4⟩:=hc;unfold Ih Z8 X9 X1 X2;unfold Qu at h
 (repeat' (first | (with_reducible intro _) | (with_reducible refine L4 ?_) | (simp only[↓M2,M2,Mb,reduceIte]) | (with_reducible first | refine ld aS aL aR ?_ | refine Y3 aS aL aR ?_ | refine Y8 aS aL aR ?_ | refine Q6 aL ?_ | refine V6 aR ?_ | refine Z6 aS ?_ | refine E8 aS aL ?_ | refine W6 aS aR ?_ | refine Z5 aS aR aR (Rep.one Q7) ?_ | refine V8 aS aR aR aR ?_ | refine Gp _ au (E2 aS ?_) | (refine U9 (fun hh=>?_) (fun hh=>?_)<;>(try simp only[hh,Bool.not_true,Bool.not_false,↓M2,M2,Mb,reduceIte])) | (refine Q4 (fun hh=>?_) (fun hh=>?_)<;>(try simp only[hh,Bool.not_true,Bool.not_false,↓M2,M2,Mb,reduceIte])))))
 all_goals exact aF)
theorem X29 {cs:List Value} {i:Ins} (hs:X3 w σ) (hg:Glb σ) (hc:Zc σ i cs) (h: ∀w' σ',Stp w σ w' σ'->K (.bool (decide (F6 i=0))) w'):Q0 P F.bq [.agg cs.toArray] w K:=Q5s (by
 obtain ⟨rfl,h1,h2,h3⟩:=hc;have hc:Zc σ i [S i.op,I i.n,S i.s]:=⟨rfl,h1,h2,h3⟩;unfold Ii X1
 (repeat' (first | (with_reducible intro _) | (with_reducible refine L4 ?_) | (simp only[↓M2,M2,Mb,reduceIte]) | (with_reducible first | refine ld aS aL aR ?_ | refine Y3 aS aL aR ?_ | refine Y8 aS aL aR ?_ | refine Q6 aL ?_ | refine V6 aR ?_ | refine Z6 aS ?_ | refine E8 aS aL ?_ | refine W6 aS aR ?_ | refine Z5 aS aR aR (Rep.one Q7) ?_ | refine V8 aS aR aR aR ?_ | refine X0y au au au ?_ | (refine U9 (fun hh=>?_) (fun hh=>?_)<;>(try simp only[hh,Bool.not_true,Bool.not_false,↓M2,M2,Mb,reduceIte])) | (refine Q4 (fun hh=>?_) (fun hh=>?_)<;>(try simp only[hh,Bool.not_true,Bool.not_false,↓M2,M2,Mb,reduceIte])))))
 all_goals exact aF)
def Xp (m:Hm.Met):Bool:=C7 m.name&&m.params.all right&&(decide (m.result=[])||right m.result)&&
 if m.abs then decide (m.locals=0)&&decide (m.code=[])&&decide (m.catches=[])
 else decide (m.code≠[])&&decide ((m.params.length:Int)<m.locals)&&m.code.all (fun i=>decide (F6 i=0))&&m.catches.all (Qu m.code.length)
theorem X5d {cs:List Value} {m:Hm.Met} (hs:X3 w σ) (hg:Glb σ) (hm:F0 σ m cs) (h: ∀w' σ',Stp w σ w' σ'->K (.bool (Xp m)) w'):Q0 P F.bc [.agg cs.toArray] w K:=Q7d (by
 obtain ⟨pv,cv,hv,rfl,g1,g2,g3,g4,g5,g6⟩:=hm;unfold Af;simp only[M0];unfold Z8 X9 X5 X6 X1 U6 X2;unfold Xp at h;have e1:decide ((0:Int)<m.code.length)=decide (m.code≠[]):=by cases m.code<;>simp
 have e2:decide ((m.code.length:Int)=0)=decide (m.code=[]):=by cases m.code<;>simp;omega
 have e3:decide ((m.catches.length:Int)=0)=decide (m.catches=[]):=by cases m.catches<;>simp;omega
 have hA: ∀{w1:World} {σ1:Q3} {K:Value->World->Prop},X3 w1 σ1->Sl 1 L5 σ1 pv m.params->(∀w' σ',Stp w1 σ1 w' σ'->K (.bool (m.params.all right)) w')->Q0 P F.aa [pv, .func (.func F.a1) #[] #[]] w1 K:=
  fun hs hv h=>Tz right hs hv (fun σ1 x w1 K _ _ hs hl hK=>J6 (Vq x (Nat.le_trans hl L2) hK)) (E2 hs h)
 have hB: ∀{w1:World} {σ1:Q3} {K:Value->World->Prop},X3 w1 σ1->Glb σ1->Sl 3 Zc σ1 cv m.code->(∀w' σ',Stp w1 σ1 w' σ'->K (.bool (m.code.all fun i=>decide (F6 i=0))) w')->Q0 P F.aw [cv, .func (.func F.bq) #[] #[]] w1 K:=
  fun hs hg hv h=>Q4t (fun i=>decide (F6 i=0)) hs hv (fun σ1 x cs w1 K le _ hs hr hl hK=>J6 (X29 hs (hg.lift ⟨le⟩) hr fun w' σ' hk=>hK w' hk.bel)) (E2 hs h)
 have hC: ∀{w1:World} {σ1:Q3} {K:Value->World->Prop} {q:Addr},X3 w1 σ1->Sl 4 Wp σ1 hv m.catches->U0 σ1 q [I m.code.length]->(∀w' σ',Stp w1 σ1 w' σ'->K (.bool (m.catches.all (Qu m.code.length))) w')->Q0 P F.au [hv, .func (.func F.bp) #[] #[.pointer (some q)]] w1 K:=
  fun hs hv hq h=>Q4r (Qu m.code.length) hs hv (fun σ1 x cs w1 K le _ hs hr hl hK=>J6 (X28 hs hr (hq.le le) fun w' σ' hk=>hK w' hk.bel)) (E2 hs h)
 refine Z6 hs fun a w1 σ1 hk1 ha1=>?_
 (repeat' (first | (with_reducible intro _) | (with_reducible refine L4 ?_) | (simp only[↓M2,M2,Mb,reduceIte]) | (with_reducible first | refine ld aS aL aR ?_ | refine Y3 aS aL aR ?_ | refine Y8 aS aL aR ?_ | refine Q6 aL ?_ | refine V6 aR ?_ | refine Z6 aS ?_ | refine E8 aS aL ?_ | refine W6 aS aR ?_ | refine Z5 aS aR aR (Rep.one Q7) ?_ | refine V8 aS aR aR aR ?_ | refine Q8U au (E2 aS ?_) | refine Vq _ au (E2 aS ?_) | refine hA au au ?_ | refine hB au au au ?_ | refine hC au au au ?_ | (refine U9 (fun hh=>?_) (fun hh=>?_)<;>(try simp only[hh,Bool.not_true,Bool.not_false,↓M2,M2,Mb,reduceIte])) | (refine Q4 (fun hh=>?_) (fun hh=>?_)<;>(try simp only[hh,Bool.not_true,Bool.not_false,↓M2,M2,Mb,reduceIte])))))
 all_goals (simp only[<-e1,<-e2,<-e3] at h;clear e1 e2 e3;exact aF))
theorem X3E {cs:List Value} {m:Hm.Met} (c:X3 w σ) (a:Glb σ) (b:F0 σ m cs) (h: ∀w' d,Stp w σ w' d->K (.bool (Xp m)) w'):J0 P (.func (.func F.bc) #[] #[]) [.agg cs.toArray] w K:=J6 (X5d c a b h)
def Gz (f:Fld):Bool:=C7 f.name&&right f.kind
def By (c:Cla):Bool:=(c.name::c.super::c.like).all S1&& !((c.super::c.like).any fun y=>decide (c.name=y))&&Qf id [] c.like&&
 !(c.iface&&(!c.abs|| !decide (c.super=W3)|| !decide (c.fields=[])||c.methods.any (fun m=> !m.abs)))&&
 !((c.abs&&c.fin)||(c.methods.any (·.abs)&& !c.abs))&&Qf Fld.name [] c.fields&&Qf Hm.Met.name [] c.methods&&c.fields.all Gz&&c.methods.all Xp
def B3 (c:Cla):Int:=if Vv c then 51 else if By c then 0 else 50
theorem X3F {cs:List Value} {f:Fld} (hs:X3 w σ) (hf:I8 σ f cs) (h: ∀w' σ',Stp w σ w' σ'->K (.bool (Gz f)) w'):Q0 P F.bI [.agg cs.toArray] w K:=Q6p (by
 obtain ⟨rfl,h1,h2⟩:=hf;unfold Pp Z8 X9;unfold Gz at h
 (repeat' (first | (with_reducible intro _) | (with_reducible refine L4 ?_) | (simp only[↓M2,M2,Mb,reduceIte]) | (with_reducible first | refine ld aS aL aR ?_ | refine Y3 aS aL aR ?_ | refine Y8 aS aL aR ?_ | refine Q6 aL ?_ | refine V6 aR ?_ | refine Z6 aS ?_ | refine E8 aS aL ?_ | refine W6 aS aR ?_ | refine Z5 aS aR aR (Rep.one Q7) ?_ | refine V8 aS aR aR aR ?_ | refine Q8U au (E2 aS ?_) | refine Vq _ au (E2 aS ?_) | (refine U9 (fun hh=>?_) (fun hh=>?_)<;>(try simp only[hh,Bool.not_true,Bool.not_false,↓M2,M2,Mb,reduceIte])) | (refine Q4 (fun hh=>?_) (fun hh=>?_)<;>(try simp only[hh,Bool.not_true,Bool.not_false,↓M2,M2,Mb,reduceIte])))))
 all_goals exact aF)
set_option maxRecDepth 9999 in
set_option maxHeartbeats 1600000 in
theorem X6S {cs:List Value} {c:Cla} (hs:X3 w σ) (hg:Glb σ) (hc:M3 σ c cs) (hl:c.like.length<=1000000) (h: ∀w' σ',Stp w σ w' σ'->K (.bool (By c)) w'):Q0 P F.cO [.agg cs.toArray] w K:=Q8h (by
 obtain ⟨lv,fv,mv,rfl,g1,g2,g3,g4,g5⟩:=hc;unfold Q1K;simp only[Y5,X8];unfold Z8 X9 X5 X6 X1 U6;unfold By at h;refine Z6 hs fun a w1 σ1 hk1 ha1=>?_;rw[fa];refine ld hk1.sat ha1 rfl ?_;rw[fa];refine ld hk1.sat ha1 rfl ?_;refine Jk (R:=L5) (sz:=1) (xs:=[c.name,c.super]) hk1 [_,_] rfl rfl (by simp;exact ⟨rfl,rfl⟩) rfl ⟨⟨rfl,g4⟩,⟨rfl,g5⟩,trivial⟩ fun v w2 hk2 hacc _=>?_
 rw[fa];refine ld hk2.sat ha1 rfl ?_;refine Mo (hk1.trans hk2) hacc (g1.up hk1) rfl (by simp;omega) (by simp;omega) fun v' w3 hn3 hS3 hacc3 _=>?_
 obtain ⟨σ3,hS3,hv3,le3,_⟩:=hacc3.keep hS3;have hv3:Sl 1 L5 σ3 v' (c.name::c.super::c.like):=hv3;have ha3:=ha1.le le3;have le13:SLe σ σ3:=⟨hS3.le⟩;have g1:=g1.lift le13;have g2:=g2.lift le13;have g3:=g3.lift le13;have hg:=hg.lift le13;refine W2 hS3.sat ?_;refine F3 (fun v _=>Sl 1 L5 σ3 v (c.super::c.like)) (fun _ _ _ h _=>h) (fun w hb=>?_) ?_
 .refine Fa hv3 (some (I 1)) none 1 (c.like.length+2) (.inr rfl) (.inl ⟨rfl,by simp⟩) Q5 U8 fun v' hv'=>⟨Below.refl _ _,?_⟩
  simpa using hv'
 refine X7 (.pointer (some (a.add 0))) (fun w hb=>by rw[fa];exact Y2 rfl) ?_
 refine X7 (S c.name) (fun t w hb e=>by rw[e];exact ld hb.sat ha3 rfl (Y2 rfl)) ?_
 rintro t16 t17 t18 w4 hb4 f16 rfl rfl;have hS4:=hS3.trans hb4.stp;clear hb4 hk1 hk2 hn3;have hs4:=hS4.sat;refine Q4q hs4 f16 ?_
 have hA: ∀{w1:World} {σ1:Q3} {K:Value->World->Prop},X3 w1 σ1->Sl 7 F0 σ1 mv c.methods->(∀w' σ',Stp w1 σ1 w' σ'->K (.bool (c.methods.any (·.abs))) w')->Q0 P F.a [mv, .func (.func F.cy) #[] #[]] w1 K:=
  fun hs hv h=>T5 (·.abs) hs hv (fun x cs w1 K _ hs hr hl hK=>J6 (Q6k (by
   obtain ⟨pv,cv,hv,rfl,_⟩:=hr;unfold Pl X9;refine Z6 hs fun a w1 σ1 hk1 ha1=>?_
   (repeat' (first | (with_reducible intro _) | (with_reducible refine L4 ?_) | (simp only[↓M2,M2,Mb,reduceIte]) | (with_reducible first | refine ld aS aL aR ?_ | refine Y3 aS aL aR ?_ | refine Y8 aS aL aR ?_ | refine Q6 aL ?_ | refine V6 aR ?_ | refine Z6 aS ?_ | refine E8 aS aL ?_ | refine W6 aS aR ?_ | refine Z5 aS aR aR (Rep.one Q7) ?_ | refine V8 aS aR aR aR ?_ | (refine U9 (fun hh=>?_) (fun hh=>?_)<;>(try simp only[hh,Bool.not_true,Bool.not_false,↓M2,M2,Mb,reduceIte])) | (refine Q4 (fun hh=>?_) (fun hh=>?_)<;>(try simp only[hh,Bool.not_true,Bool.not_false,↓M2,M2,Mb,reduceIte])))))
   exact hK _ hk1.bel))) (E2 hs h)
 have hB: ∀{w1:World} {σ1:Q3} {K:Value->World->Prop},X3 w1 σ1->Sl 7 F0 σ1 mv c.methods->(∀w' σ',Stp w1 σ1 w' σ'->K (.bool (c.methods.any fun m=> !m.abs)) w')->Q0 P F.a [mv, .func (.func F.cz) #[] #[]] w1 K:=
  fun hs hv h=>T5 (fun m=> !m.abs) hs hv (fun x cs w1 K _ hs hr hl hK=>J6 (Q6l (by
   obtain ⟨pv,cv,hv,rfl,_⟩:=hr;unfold Pm X9;refine Z6 hs fun a w1 σ1 hk1 ha1=>?_
   (repeat' (first | (with_reducible intro _) | (with_reducible refine L4 ?_) | (simp only[↓M2,M2,Mb,reduceIte]) | (with_reducible first | refine ld aS aL aR ?_ | refine Y3 aS aL aR ?_ | refine Y8 aS aL aR ?_ | refine Q6 aL ?_ | refine V6 aR ?_ | refine Z6 aS ?_ | refine E8 aS aL ?_ | refine W6 aS aR ?_ | refine Z5 aS aR aR (Rep.one Q7) ?_ | refine V8 aS aR aR aR ?_ | (refine U9 (fun hh=>?_) (fun hh=>?_)<;>(try simp only[hh,Bool.not_true,Bool.not_false,↓M2,M2,Mb,reduceIte])) | (refine Q4 (fun hh=>?_) (fun hh=>?_)<;>(try simp only[hh,Bool.not_true,Bool.not_false,↓M2,M2,Mb,reduceIte])))))
   exact hK _ hk1.bel))) (E2 hs h)
 have hC: ∀{w1:World} {σ1:Q3} {K:Value->World->Prop},X3 w1 σ1->Sl 1 L5 σ1 v' (c.name::c.super::c.like)->(∀w' σ',Stp w1 σ1 w' σ'->K (.bool ((c.name::c.super::c.like).all S1)) w')->Q0 P F.aa [v', .func (.func F.ak) #[] #[]] w1 K:=
  fun hs hv h=>Tz S1 hs hv (fun σ1 x w1 K _ _ hs hl hK=>J6 (Gp x (Nat.le_trans hl L2) hK)) (E2 hs h)
 have hD: ∀{w1:World} {σ1:Q3} {K:Value->World->Prop},X3 w1 σ1->Sl 1 L5 σ1 lv c.like->(∀w' σ',Stp w1 σ1 w' σ'->K (.bool (Qf id [] c.like)) w')->Q0 P F.aU [lv, .func (.func F.cA) #[] #[]] w1 K:=
  fun hs hv h=>Q8a id hs hv (fun σ1 x w1 K _ hs hl hK=>J6 (Q6m (hK _ (Below.refl _ _)))) (E2 hs h)
 have hE: ∀{w1:World} {σ1:Q3} {K:Value->World->Prop},X3 w1 σ1->Sl 3 I8 σ1 fv c.fields->(∀w' σ',Stp w1 σ1 w' σ'->K (.bool (Qf Fld.name [] c.fields)) w')->Q0 P F.aC [fv, .func (.func F.cB) #[] #[]] w1 K:=
  fun hs hv h=>Q5e Fld.name hs hv (fun σ1 x cs w1 K _ hs hr hl hK=>J6 (Q6n (by
   obtain ⟨rfl,_⟩:=hr;unfold Pn X9;refine Z6 hs fun a w1 σ1 hk1 ha1=>?_
   (repeat' (first | (with_reducible intro _) | (with_reducible refine L4 ?_) | (simp only[↓M2,M2,Mb,reduceIte]) | (with_reducible first | refine ld aS aL aR ?_ | refine Y3 aS aL aR ?_ | refine Y8 aS aL aR ?_ | refine Q6 aL ?_ | refine V6 aR ?_ | refine Z6 aS ?_ | refine E8 aS aL ?_ | refine W6 aS aR ?_ | refine Z5 aS aR aR (Rep.one Q7) ?_ | refine V8 aS aR aR aR ?_ | (refine U9 (fun hh=>?_) (fun hh=>?_)<;>(try simp only[hh,Bool.not_true,Bool.not_false,↓M2,M2,Mb,reduceIte])) | (refine Q4 (fun hh=>?_) (fun hh=>?_)<;>(try simp only[hh,Bool.not_true,Bool.not_false,↓M2,M2,Mb,reduceIte])))))
   exact hK _ hk1.bel))) (E2 hs h)
 have hF: ∀{w1:World} {σ1:Q3} {K:Value->World->Prop},X3 w1 σ1->Sl 7 F0 σ1 mv c.methods->(∀w' σ',Stp w1 σ1 w' σ'->K (.bool (Qf Hm.Met.name [] c.methods)) w')->Q0 P F.ax [mv, .func (.func F.cC) #[] #[]] w1 K:=
  fun hs hv h=>Q4u Hm.Met.name hs hv (fun σ1 x cs w1 K _ hs hr hl hK=>J6 (Q6o (by
   obtain ⟨pv,cv,hv,rfl,_⟩:=hr;unfold Po X9;refine Z6 hs fun a w1 σ1 hk1 ha1=>?_
   (repeat' (first | (with_reducible intro _) | (with_reducible refine L4 ?_) | (simp only[↓M2,M2,Mb,reduceIte]) | (with_reducible first | refine ld aS aL aR ?_ | refine Y3 aS aL aR ?_ | refine Y8 aS aL aR ?_ | refine Q6 aL ?_ | refine V6 aR ?_ | refine Z6 aS ?_ | refine E8 aS aL ?_ | refine W6 aS aR ?_ | refine Z5 aS aR aR (Rep.one Q7) ?_ | refine V8 aS aR aR aR ?_ | (refine U9 (fun hh=>?_) (fun hh=>?_)<;>(try simp only[hh,Bool.not_true,Bool.not_false,↓M2,M2,Mb,reduceIte])) | (refine Q4 (fun hh=>?_) (fun hh=>?_)<;>(try simp only[hh,Bool.not_true,Bool.not_false,↓M2,M2,Mb,reduceIte])))))
   exact hK _ hk1.bel))) (E2 hs h)
 have hG: ∀{w1:World} {σ1:Q3} {K:Value->World->Prop},X3 w1 σ1->Sl 3 I8 σ1 fv c.fields->(∀w' σ',Stp w1 σ1 w' σ'->K (.bool (c.fields.all Gz)) w')->Q0 P F.av [fv, .func (.func F.bI) #[] #[]] w1 K:=
  fun hs hv h=>Q4s Gz hs hv (fun σ1 x cs w1 K _ _ hs hr hl hK=>J6 (X3F hs hr fun w' σ' hk=>hK w' hk.bel)) (E2 hs h)
 have hH: ∀{w1:World} {σ1:Q3} {K:Value->World->Prop},X3 w1 σ1->Glb σ1->Sl 7 F0 σ1 mv c.methods->(∀w' σ',Stp w1 σ1 w' σ'->K (.bool (c.methods.all Xp)) w')->Q0 P F.ap [mv, .func (.func F.bc) #[] #[]] w1 K:=
  fun hs hg hv h=>Q2L Xp hs hv (fun σ1 x cs w1 K le _ hs hr hl hK=>X3E hs (hg.lift ⟨le⟩) hr fun w' σ' hk=>hK w' hk.bel) (E2 hs h)
 have e1:decide ((0:Int)<c.fields.length)= !decide (c.fields=[]):=by cases c.fields<;>simp
 have e2:decide (c.super=[79,98,106,101,99,116])=decide (c.super=W3):=rfl
 (repeat' (first | (with_reducible intro _) | (with_reducible refine L4 ?_) | (simp only[↓M2,M2,Mb,reduceIte]) | (with_reducible first | refine ld aS aL aR ?_ | refine Y3 aS aL aR ?_ | refine Y8 aS aL aR ?_ | refine Q6 aL ?_ | refine V6 aR ?_ | refine Z6 aS ?_ | refine E8 aS aL ?_ | refine W6 aS aR ?_ | refine Z5 aS aR aR (Rep.one Q7) ?_ | refine V8 aS aR aR aR ?_ | refine hA au au ?_ | refine hB au au ?_ | refine hC au au ?_ | refine hD au au ?_ | refine hE au au ?_ | refine hF au au ?_ | refine hG au au ?_ | refine hH au au au ?_ | (refine U9 (fun hh=>?_) (fun hh=>?_)<;>(try simp only[hh,Bool.not_true,Bool.not_false,↓M2,M2,Mb,reduceIte])) | (refine Q4 (fun hh=>?_) (fun hh=>?_)<;>(try simp only[hh,Bool.not_true,Bool.not_false,↓M2,M2,Mb,reduceIte])))))
 all_goals (simp only[<-e1,<-e2] at h;clear hA hB hC hD hE hF hG hH e1 e2;exact aF))
theorem X6H {cs:List Value} {c:Cla} (hs:X3 w σ) (hg:Glb σ) (hc:M3 σ c cs) (hl:c.like.length<=1000000) (h: ∀w' σ',Stp w σ w' σ'->K (I (B3 c)) w'):Q0 P F.cN [.agg cs.toArray] w K:=Q8g (by
 have hc0:=hc;obtain ⟨lv,fv,mv,rfl,g1,g2,g3,g4,g5⟩:=hc;unfold Q1J;unfold B3 at h
 (repeat' (first | (with_reducible intro _) | (with_reducible refine L4 ?_) | (simp only[↓M2,M2,Mb,reduceIte]) | (with_reducible first | refine ld aS aL aR ?_ | refine Y3 aS aL aR ?_ | refine Y8 aS aL aR ?_ | refine Q6 aL ?_ | refine V6 aR ?_ | refine Z6 aS ?_ | refine E8 aS aL ?_ | refine W6 aS aR ?_ | refine Z5 aS aR aR (Rep.one Q7) ?_ | refine V8 aS aR aR aR ?_ | refine X88 au au (E2 aS ?_) | refine X6S au au au au ?_ | (refine U9 (fun hh=>?_) (fun hh=>?_)<;>(try simp only[hh,Bool.not_true,Bool.not_false,↓M2,M2,Mb,reduceIte])) | (refine Q4 (fun hh=>?_) (fun hh=>?_)<;>(try simp only[hh,Bool.not_true,Bool.not_false,↓M2,M2,Mb,reduceIte])))))
 all_goals exact aF)
end Go.Proofs.Y
namespace Go.Emb
open Go.RowKit Go.Hm
structure Tab (σ : Q3) (v : Value) (l : List Cla) : Prop where
  ex : ∃ a lv r m, v = .pointer (some a) /\ U0 σ a [lv, .map (some r)] /\ Sl 8 M3 σ lv l /\ Jf σ r m /\ ∀ n, P4 m n = (J9 l n).map (fun i : Nat => I (i : Int))
theorem Tab.lift {σ0 σ:Q3} {v:Value} {l:List Cla} (h:Tab σ0 v l) (k:SLe σ0 σ):Tab σ v l:=by
 obtain ⟨a,g,r,m,b,c,d,e,f⟩:=h.ex;exact ⟨a,g,r,m,b,c.lift k,d.lift k,e.lift k,f⟩
end Go.Emb
namespace Go.Proofs.Y
open Go.Emb Go.RowKit Go.Kd Go.Hm
variable {w : World} {K : Value -> World -> Prop} {σ : Q3} {v : Value} {l : List Cla}
theorem X27 {n:Q9} (b:X3 w σ) (d:Tab σ v l) (h:K (.bool (Q3e l n)) w):Q0 P F.j [v,S n] w K:=Bv (by
 obtain ⟨a,i,r,m,rfl,e,j,f,g⟩:=d.ex;unfold La;simp only[M8];unfold X9;rw[H2,fa];refine ld b e rfl ?_;rw[Q5o Y6 (f.is b) n,g n];unfold Q3e at h;cases c:J9 l n<;>rw[c] at h<;>((try simp only[Option.map_some,Option.map_none]);(try simp only[↓M1,M1,Mb,reduceIte]);exact h))
theorem Jl {n:Q9} {c:Cla} (V:X3 w σ) (W:Tab σ v l) (Q:lk l n=some c)
 (h: ∀o s mv w' q,Stp w σ w' q->Sl 1 L5 q o c.like->Sl 3 I8 q s c.fields->Sl 7 F0 q mv c.methods->c.name.length<=V5->c.super.length<=V5->M3 q c [S c.name,S c.super,o, .bool c.iface, .bool c.abs, .bool c.fin,s,mv]->
  K (.agg [S c.name,S c.super,o, .bool c.iface, .bool c.abs, .bool c.fin,s,mv].toArray) w'):Q0 P F.e [v,S n] w K:=Q1a (by
 obtain ⟨a,o,r,m,rfl,E,t2,t3,t4⟩:=W.ex;obtain ⟨_,_,i,R,z⟩:=M5 Q;obtain ⟨y,rfl⟩:=List.getElem?_eq_some_iff.1 z;unfold Em;simp only[Y5,X8];unfold J5;refine D6 V fun b w1 σ1 f d A=>?_;refine W2 d.sat ?_;refine X7 (.pointer (some a)) (fun w f=>by rw[H2];exact Y2 rfl) ?_
 refine X7 (.pointer (some (a.add 0))) (fun t w f e=>by rw[e,fa];exact Y2 rfl) ?_
 refine X7 (.pointer (some a)) (fun w f=>by rw[H2];exact Y2 rfl) ?_
 refine X7 (.pointer (some (a.add 1))) (fun t w f e=>by rw[e,fa];exact Y2 rfl) ?_
 refine X7 o (fun t w f e=>by rw[e];exact ld f.sat (E.up d) rfl (Y2 rfl)) ?_
 refine X7 (.map (some r)) (fun t w f e=>by rw[e];exact ld f.sat (E.up d) rfl (Y2 rfl)) ?_
 refine X7 (I i) (fun t w f e=>by rw[e,Q7R Y6 ((t3.up d).is f.sat) n,t4 n,R];exact Y2 rfl) ?_
 rintro t6 t7 Y Z t8 aa ab w2 g rfl rfl rfl rfl H rfl rfl;subst H;have B:=A.step g.stp;refine E4 (t2.up d) y fun p cs U j D=>?_;refine Y8 g.sat U j ?_;have k:=D;obtain ⟨X,s,mv,rfl,J,L,M,N,O⟩:=D;refine Qm B (d.trans g.stp) f rfl rfl (Rep.one k) fun w3 u C=>?_;refine W9 C rfl ?_;exact h _ _ _ w3 σ1 u.stp J L M N O k)
theorem Gv {n:Q9} (b:X3 w σ) (c:Tab σ v l) (a:lk l n=none) (h:K (.bool false) w):Q0 P F.j [v,S n] w K:=X27 b c (by rw[Q49,a];exact h)
theorem Cy {n:Q9} {d:Cla} (b:X3 w σ) (c:Tab σ v l) (a:lk l n=some d) (h:K (.bool true) w):Q0 P F.j [v,S n] w K:=X27 b c (by rw[Q49,a];exact h)
theorem X5f {c:Cla} {cs:List Value} (hs:X3 w σ) (ht:Tab σ v l) (hc:M3 σ c cs) (h: ∀w' σ',Stp w σ w' σ'->K (I (B1 l c)) w'):Q0 P F.bi [v, .agg cs.toArray] w K:=Ay (by
 obtain ⟨lv,fv,mv,rfl,g1,g2,g3,g4,g5⟩:=hc;unfold Dg Z8 X9 J5 V1 X5 X6 X2;unfold B1 at h;cases hd:lk l c.super with
 | none=>
  simp only[Zw,hd,if_true] at h
  (repeat' (first | (with_reducible intro _) | (with_reducible refine L4 ?_) | (simp only[↓M2,M2,Mb,reduceIte]) | (with_reducible first | refine ld aS aL aR ?_ | refine Y3 aS aL aR ?_ | refine Y8 aS aL aR ?_ | refine Q6 aL ?_ | refine V6 aR ?_ | refine Z6 aS ?_ | refine E8 aS aL ?_ | refine W6 aS aR ?_ | refine Z5 aS aR aR (Rep.one Q7) ?_ | refine V8 aS aR aR aR ?_ | refine Gv au au au ?_ | (refine U9 (fun hh=>?_) (fun hh=>?_)<;>(try simp only[hh,Bool.not_true,Bool.not_false,↓M2,M2,Mb,reduceIte])) | (refine Q4 (fun hh=>?_) (fun hh=>?_)<;>(try simp only[hh,Bool.not_true,Bool.not_false,↓M2,M2,Mb,reduceIte])))))
  all_goals exact aF
 | some d=>
  simp only[Zw,hd] at h;obtain ⟨dn,ds,dl,di,da,df,dfs,dms⟩:=d;cases di<;>cases df
  .simp only[Bool.or_self,Bool.false_eq_true,if_false] at h
   (repeat' (first | (with_reducible intro _) | (with_reducible refine L4 ?_) | (simp only[↓M2,M2,Mb,reduceIte]) | (with_reducible first | refine ld aS aL aR ?_ | refine Y3 aS aL aR ?_ | refine Y8 aS aL aR ?_ | refine Q6 aL ?_ | refine V6 aR ?_ | refine Z6 aS ?_ | refine E8 aS aL ?_ | refine W6 aS aR ?_ | refine Z5 aS aR aR (Rep.one Q7) ?_ | refine V8 aS aR aR aR ?_ | refine Cy au au au ?_ | refine Jl au au au ?_ | (refine U9 (fun hh=>?_) (fun hh=>?_)<;>(try simp only[hh,Bool.not_true,Bool.not_false,↓M2,M2,Mb,reduceIte])) | (refine Q4 (fun hh=>?_) (fun hh=>?_)<;>(try simp only[hh,Bool.not_true,Bool.not_false,↓M2,M2,Mb,reduceIte])))))
   rename_i w3 σ3 hk3 _ _ _ _ _ _;have hS:Stp w σ w3 σ3:=by (repeat (first | exact Stp.refl (by (first | assumption | exact Stp.sat Q7 | exact Hst.sat Q7)) | assumption | refine Stp.trans ?_ (by first | assumption | exact Hst.stp Q7)))
   refine V3 c.like.length (fun n w'=> ∃σ',Stp w σ w' σ'/\SLe σ3 σ'/\((c.like.take n).any (I5 l))=false) ⟨σ3,hS,SLe.refl _,by simp⟩ fun n w4 d hn hi=>?_
   obtain ⟨σ4,hS4,le4,hq⟩:=hi;clear hk3;refine Z4 ?_;refine Q4 (fun hh=>?_) (fun hh=>?_)
   .have hn':n<c.like.length:=by simpa using hh
    have hmax:c.like.length<=9223372036854775807:=g1.max;refine Q9k (by (first | assumption | exact Sl.lift Q7 (by (repeat (first | exact SLe.refl _ | refine SLe.more ?_ Q7 | refine SLe.more ?_ (Nxt.le Q7) | refine SLe.step ?_ Q7))) | exact U0.lift Q7 (by (repeat (first | exact SLe.refl _ | refine SLe.more ?_ Q7 | refine SLe.more ?_ (Nxt.le Q7) | refine SLe.step ?_ Q7))) | exact Jf.lift Q7 (by (repeat (first | exact SLe.refl _ | refine SLe.more ?_ Q7 | refine SLe.more ?_ (Nxt.le Q7) | refine SLe.step ?_ Q7))) | exact RCl_lift Q7 (by (repeat (first | exact SLe.refl _ | refine SLe.more ?_ Q7 | refine SLe.more ?_ (Nxt.le Q7) | refine SLe.step ?_ Q7))) | exact RMe_lift Q7 (by (repeat (first | exact SLe.refl _ | refine SLe.more ?_ Q7 | refine SLe.more ?_ (Nxt.le Q7) | refine SLe.step ?_ Q7))) | exact Glb.lift Q7 (by (repeat (first | exact SLe.refl _ | refine SLe.more ?_ Q7 | refine SLe.more ?_ (Nxt.le Q7) | refine SLe.step ?_ Q7))) | exact Tab.lift Q7 (by (repeat (first | exact SLe.refl _ | refine SLe.more ?_ Q7 | refine SLe.more ?_ (Nxt.le Q7) | refine SLe.step ?_ Q7))) | exact RIn_any Q7 | exact RFd_any Q7 | exact RCa_any Q7)) hn' fun p hl hbig=>?_
    have hq':=D9 (p:=I5 l) hn';rw[hq] at hq';cases hx:lk l c.like[n] with
    | none=>
     simp only[K4 (p:=I5 l) hn' (by simp only[I5,hx]),if_true] at h
     (repeat' (first | (with_reducible intro _) | (with_reducible refine L4 ?_) | (simp only[↓M2,M2,Mb,reduceIte]) | (with_reducible first | refine ld aS aL aR ?_ | refine Y3 aS aL aR ?_ | refine Y8 aS aL aR ?_ | refine Q6 aL ?_ | refine V6 aR ?_ | refine Z6 aS ?_ | refine E8 aS aL ?_ | refine W6 aS aR ?_ | refine Z5 aS aR aR (Rep.one Q7) ?_ | refine V8 aS aR aR aR ?_ | refine Gv au au au ?_ | (refine U9 (fun hh=>?_) (fun hh=>?_)<;>(try simp only[hh,Bool.not_true,Bool.not_false,↓M2,M2,Mb,reduceIte])) | (refine Q4 (fun hh=>?_) (fun hh=>?_)<;>(try simp only[hh,Bool.not_true,Bool.not_false,↓M2,M2,Mb,reduceIte])))))
     all_goals exact aF
    | some x=>
     obtain ⟨xn,xs,xl,xi,xa,xf,xfs,xms⟩:=x;cases xi
     .simp only[K4 (p:=I5 l) hn' (by simp only[I5,hx];rfl),if_true] at h
      (repeat' (first | (with_reducible intro _) | (with_reducible refine L4 ?_) | (simp only[↓M2,M2,Mb,reduceIte]) | (with_reducible first | refine ld aS aL aR ?_ | refine Y3 aS aL aR ?_ | refine Y8 aS aL aR ?_ | refine Q6 aL ?_ | refine V6 aR ?_ | refine Z6 aS ?_ | refine E8 aS aL ?_ | refine W6 aS aR ?_ | refine Z5 aS aR aR (Rep.one Q7) ?_ | refine V8 aS aR aR aR ?_ | refine Cy au au au ?_ | refine Jl au au au ?_ | (refine U9 (fun hh=>?_) (fun hh=>?_)<;>(try simp only[hh,Bool.not_true,Bool.not_false,↓M2,M2,Mb,reduceIte])) | (refine Q4 (fun hh=>?_) (fun hh=>?_)<;>(try simp only[hh,Bool.not_true,Bool.not_false,↓M2,M2,Mb,reduceIte])))))
      all_goals exact aF
     ·(repeat' (first | (with_reducible intro _) | (with_reducible refine L4 ?_) | (simp only[↓M2,M2,Mb,reduceIte]) | (with_reducible first | refine ld aS aL aR ?_ | refine Y3 aS aL aR ?_ | refine Y8 aS aL aR ?_ | refine Q6 aL ?_ | refine V6 aR ?_ | refine Z6 aS ?_ | refine E8 aS aL ?_ | refine W6 aS aR ?_ | refine Z5 aS aR aR (Rep.one Q7) ?_ | refine V8 aS aR aR aR ?_ | refine Cy au au au ?_ | refine Jl au au au ?_ | (refine U9 (fun hh=>?_) (fun hh=>?_)<;>(try simp only[hh,Bool.not_true,Bool.not_false,↓M2,M2,Mb,reduceIte])) | (refine Q4 (fun hh=>?_) (fun hh=>?_)<;>(try simp only[hh,Bool.not_true,Bool.not_false,↓M2,M2,Mb,reduceIte])))))
      refine Z0 hmax hn' ⟨_,by (repeat (first | exact Stp.refl (by (first | assumption | exact Stp.sat Q7 | exact Hst.sat Q7)) | assumption | refine Stp.trans ?_ (by first | assumption | exact Hst.stp Q7))),by (repeat (first | exact SLe.refl _ | refine SLe.more ?_ Q7 | refine SLe.more ?_ (Nxt.le Q7) | refine SLe.step ?_ Q7)),by rw[hq'];simp only[I5,hx];rfl⟩
   .have hn': ¬n<c.like.length:=by simpa using hh
    rw[C9 hn'] at hq;simp only[hq,Bool.false_eq_true,if_false] at h;exact h _ _ hS4
  all_goals
   simp only[Bool.or_self,Bool.or_true,Bool.true_or,if_true] at h
   (repeat' (first | (with_reducible intro _) | (with_reducible refine L4 ?_) | (simp only[↓M2,M2,Mb,reduceIte]) | (with_reducible first | refine ld aS aL aR ?_ | refine Y3 aS aL aR ?_ | refine Y8 aS aL aR ?_ | refine Q6 aL ?_ | refine V6 aR ?_ | refine Z6 aS ?_ | refine E8 aS aL ?_ | refine W6 aS aR ?_ | refine Z5 aS aR aR (Rep.one Q7) ?_ | refine V8 aS aR aR aR ?_ | refine Cy au au au ?_ | refine Jl au au au ?_ | (refine U9 (fun hh=>?_) (fun hh=>?_)<;>(try simp only[hh,Bool.not_true,Bool.not_false,↓M2,M2,Mb,reduceIte])) | (refine Q4 (fun hh=>?_) (fun hh=>?_)<;>(try simp only[hh,Bool.not_true,Bool.not_false,↓M2,M2,Mb,reduceIte])))))
   all_goals exact aF)
end Go.Proofs.Y
namespace Go.Emb
open Go.RowKit Go.Hm
variable {w w' : World} {σ : Q3}
theorem X2c {a:Addr} {v:Value} (h:w.cell? a=some v) (b:Below w.heap.size w w'):w'.cell? a=some v:=by
 rw[<-h];exact World.cell?_of_block (b.block a.block (World.block_lt_of_cell? _ _ h))
def Ptr {α:Type} (sz:Nat) (R:Q3->α->List Value->Prop) (σ:Q3) (x:α) (p:Value) (w:World):Prop:=
 ∃a cs,p= .pointer (some a)/\(∀j u,cs[j]? =some u->w.cell? (a.add j)=some u)/\cs.length=sz/\R σ x cs
theorem Ptr.below {α:Type} {sz:Nat} {R:Q3->α->List Value->Prop} {x:α} {p:Value} (h:Ptr sz R σ x p w) (e:Below w.heap.size w w'):Ptr sz R σ x p w':=by
 obtain ⟨a,cs,b,c,d⟩:=h;exact ⟨a,cs,b,fun j u f=>X2c (c j u f) e,d⟩
end Go.Emb
namespace Go.Proofs.Y
open Go.Emb Go.RowKit Go.Kd Go.Hm
variable {w : World} {K : Value -> World -> Prop} {σ : Q3} {v : Value} {l : List Cla}
theorem Q7w {w0:World} {σ0:Q3} {xs:List Cla} (Y:Stp w0 σ0 w σ) (B:J8 w0.heap.size T.c 8 M3 σ w v xs)
 (h: ∀w',Kpt (fun k=>v.ownBlock=some k) w w'->Stp w0 σ0 w' σ->J8 w0.heap.size T.c 8 M3 σ w' v xs.reverse->K (.tuple #[]) w'):Q0 P F.r [v] w K:=Vx (by
 unfold Qw;simp only[Y5,X8];unfold X6 X1 X2
 have U:xs.length<=9223372036854775807:=by
  obtain ⟨a,V,_,g,b,_⟩:=B;simp only[maxLen] at b;omega
 refine Cp B ?_;refine Zb ⟨by omega,by omega⟩ ?_
 refine Mg (fun x w'=> ∃i:Nat,x=(I i,I ((xs.length:Int)-1-i))/\2*i<=xs.length/\Kpt (fun k=>v.ownBlock=some k) w w'/\Stp w0 σ0 w' σ/\J8 w0.heap.size T.c 8 M3 σ w' v (P5 i xs)) (fun x _=>match x.2 with | .int _ n=>(n+1).toNat | _=>0) ⟨0,by simp,by omega,Kpt.refl,Y,B⟩ ?_
 rintro _ d w1 ⟨i,rfl,O,Q,m,c⟩;obtain ⟨R,N⟩:=Q3U xs i O;refine Z4 ?_;refine Q4 (fun hh=>?_) (fun hh=>?_)
 .have aa:(i:Int)<(xs.length:Int)-1-i:=by simpa using hh
  have M:((xs.length:Int)-1-i)=((xs.length-1-i:Nat):Int):=by omega
  have q:i<(P5 i xs).length:=by omega
  have r:xs.length-1-i<(P5 i xs).length:=by omega
  refine W2 m.sat ?_;refine F3 (Ptr 8 M3 σ (P5 i xs)[xs.length-1-i]) (fun _ _ _ h f=>h.below f) (fun w f=>?_) ?_
  .simp only[M]
   exact Q9J (c.step f.stp) r fun a cs g b j=>⟨Below.refl _ _,a,cs,rfl,g,b,j⟩
  refine F3 (Ptr 8 M3 σ (P5 i xs)[i]) (fun _ _ _ h f=>h.below f) (fun w f=>?_) ?_
  .exact Q9J (c.step f.stp) q fun a cs g b j=>⟨Below.refl _ _,a,cs,rfl,g,b,j⟩
  refine F3 (fun v _=> ∃cs:List Value,v= .agg cs.toArray/\cs.length=8/\M3 σ (P5 i xs)[xs.length-1-i] cs) (fun _ _ _ h _=>h) (fun t w f e=>?_) ?_
  .obtain ⟨a,cs,rfl,g,b,j⟩:=e
   exact Q0A b g ⟨Below.refl _ _,cs,rfl,b,j⟩
  refine F3 (fun v _=> ∃cs:List Value,v= .agg cs.toArray/\cs.length=8/\M3 σ (P5 i xs)[i] cs) (fun _ _ _ h _=>h) (fun t w f e=>?_) ?_
  .obtain ⟨a,cs,rfl,g,b,j⟩:=e
   exact Q0A b g ⟨Below.refl _ _,cs,rfl,b,j⟩
  rintro ab ad ac ae w2 o _ _ ⟨cs,rfl,E,s⟩ ⟨ds,rfl,H,y⟩;refine Q6j (m.trans o.stp) (c.step o.stp) q E s (Rep.one s) fun p u w3 J z C=>?_;simp only[M];refine Q6j z.stp C (by simpa using r) H y (Rep.one y) fun p u w4 L A D=>?_
  refine Uc ⟨by omega,by omega⟩ ?_
  refine Zb ⟨by omega,by omega⟩ ?_
  refine ⟨⟨i+1,by congr 1<;>congr 1<;>omega,by omega,?_,A.stp,?_⟩,?_⟩
  .exact ((Q.trans (Kpt.of_below o.stp.bel)).trans J).trans L
  .have W:(P5 i xs)[i]? =some (P5 i xs)[i]:=List.getElem?_eq_getElem q
   have X:(P5 i xs)[xs.length-1-i]? =some (P5 i xs)[xs.length-1-i]:=List.getElem?_eq_getElem r
   have:P5 (i+1) xs=((P5 i xs).set i (P5 i xs)[xs.length-1-i]).set (xs.length-1-i) (P5 i xs)[i]:=by
    simp only[P5,W,X]
   rw[this];exact D
  .simp only;omega
 .have Z: ¬(i:Int)<(xs.length:Int)-1-i:=by simpa using hh
  rw[X4L xs i O Q5] at c;exact h w1 Q m c)
def sOf:Value->Q9 | .string b=>b.data.toList | _=>[]
theorem X3C {n:Q9} (Q:X3 w σ) (B:Tab σ v l) (M:Ue l) (W:l.length<=100000) (h: ∀y w' σ',Stp w σ w' σ'->J8 w.heap.size T.c 8 M3 σ' w' y (chain l n).reverse->K y w'):Q0 P F.aT [v,S n] w K:=Q2h (by
 unfold Rr
 refine Mg (fun x w'=> ∃(s:Q9) (k:List Cla) (σ':Q3),x.2=S s/\chain l n=k++chain l s/\Stp w σ w' σ'/\W1 w.heap.size T.c 8 M3 σ' w' x.1 k) (fun x _=>(chain l (sOf x.2)).length)
  ⟨n,[],σ,rfl,rfl,Stp.refl Q,W1.nil⟩ ?_
 rintro ⟨Z,_⟩ d w1 ⟨s,k,σ1,rfl,o,a,f⟩;have i:=B.lift ⟨a.le⟩;have z:=Pc l n;have t:sOf (S s)=s:=by simp[sOf]
 simp only[t];cases j:lk l s with
 | none=>
  refine Gv a.sat i j ?_;refine Z7 ?_;rw[Eb j,List.append_nil] at o;rw[<-o] at f;refine Q7w a (J8.of_acc f) fun U g p q=>?_;exact h _ _ _ p q
 | some c=>
  refine Cy a.sat i j ?_;refine J1 ?_;refine Jl a.sat i j fun R L mv U σ2 g C D E H J A=>?_;have b:=Gw M s;rw[j] at b;simp only at b
  have N:k.length+1<=l.length+1:=by
   have:=congrArg List.length o;rw[List.length_append,b,List.length_cons] at this;omega
  refine Ud (a.trans g) (f.up g) A rfl rfl rfl Q5 Q5 fun u y X σ3 O e r _=>?_;refine Jl e.sat (B.lift ⟨e.le⟩) j fun R L mv Y V m C D E H J A=>?_;refine V6 (v:=S c.super) rfl ?_;refine ⟨⟨c.super,k++[c],V,rfl,?_,e.trans m,r.up m⟩,?_⟩
  .rw[o,b];simp
  .have:sOf (S c.super)=c.super:=by simp[sOf]
   simp only[this,b,List.length_cons];omega)
theorem Q0p {n:Q9} (hs:X3 w σ) (ht:Tab σ v l) (V:Ue l) (X:l.length<=100000) (H: ∀c∈l,Yi c) (h: ∀L w' σ',Stp w σ w' σ'->Sl 3 I8 σ' L (U2 l n)->K L w'):Q0 P F.a4 [v,S n] w K:=Aw (by
 unfold De;simp only[M0];unfold X9 J5 X6 X1 X2;refine X3C hs ht V X fun v1 w1 σ1 D A=>?_;obtain ⟨Q,u,r,ac,_⟩:=A.keep D;generalize j:(chain l n).reverse=cs at*;have M:cs.length<=l.length+1:=by rw[<-j,List.length_reverse];exact Pc l n
 have k: ∀c∈cs,c.fields.length<=1000000:=fun c t=>(H c (Pd (by rw[<-j] at t;simpa using t))).2.1
 refine Q6 r ?_;refine H7 cs.length (fun i a w'=> ∃σ',Stp w σ w' σ'/\SLe Q σ'/\W1 w.heap.size T.n 3 I8 σ' w' a ((cs.take i).flatMap (·.fields))) ⟨Q,u,SLe.refl _,W1.nil⟩ fun i a w3 d hi m=>?_;obtain ⟨σ3,f,s,g⟩:=m;refine Z4 ?_;refine Q4 (fun hh=>?_) (fun hh=>?_)
 .have b:i<cs.length:=by simpa using hh
  refine E4 (r.lift s) b fun p cells E o O=>?_;refine Y8 f.sat E o ?_;refine Z5 f.sat (by rfl) o (Rep.one O) fun q w4 R e Z=>?_
  obtain ⟨lv,fv,mv,rfl,f1,U,f3,f4,f5⟩:=O;rw[fa];refine ld e.sat Z rfl ?_;have C:=Zr (fun c:Cla=>c.fields) 1000000 (cs.take i) fun c t=>k c (List.mem_of_mem_take t);rw[List.length_take] at C;have W:=k cs[i] (List.getElem_mem b);have N:min i cs.length*1000000<=100000*1000000:=Nat.mul_le_mul_right _ Q5;refine Mo (f.trans e) (g.up e) (U.up e) rfl Q5 Q5 fun L w5 Y z B _=>?_;refine C4 ?_;refine U5 Q5 b ⟨R,z,s.more ⟨e.le⟩,?_⟩;rw[List.take_add_one,List.getElem?_eq_getElem b,List.flatMap_append]
  simpa using B
 .have b: ¬i<cs.length:=by simpa using hh
  rw[List.take_of_length_le Q5] at g;obtain ⟨R,y,J,ad,_⟩:=g.keep f;refine h _ _ _ y ?_;unfold U2;rw[j];exact J)
theorem X6L {n f:Q9} (hs:X3 w σ) (ht:Tab σ v l) (ha:Ue l) (hl:l.length<=100000) (hsm: ∀c∈l,Yi c) (h: ∀w' σ',Stp w σ w' σ'->K (I (D2 (Ra l n f))) w'):Q0 P F.br [v,S n,S f] w K:=Q17 (by
 unfold Ej;refine W6 hs rfl fun q w1 σ1 hk1 hq=>?_;refine Q0p hk1.sat (ht.lift ⟨hk1.le⟩) ha hl hsm fun v' w2 σ2 hk2 hv2=>?_;rw[Za];refine Ty (fun x=>decide (x.name=f)) hk2.sat hv2 (fun x cs w3 K _ hs3 hr hl hK=>J6 (Tk ?_)) fun w3 hb=>?_
 .obtain ⟨rfl,_⟩:=hr
  unfold Nu X9 X2;have hq2:=hq.up hk2;refine Z6 hs3 fun a w4 σ4 hk4 ha4=>?_
  (repeat' (first | (with_reducible intro _) | (with_reducible refine L4 ?_) | (simp only[↓M2,M2,Mb,reduceIte]) | (with_reducible first | refine ld aS aL aR ?_ | refine Y3 aS aL aR ?_ | refine Y8 aS aL aR ?_ | refine Q6 aL ?_ | refine V6 aR ?_ | refine Z6 aS ?_ | refine E8 aS aL ?_ | refine W6 aS aR ?_ | refine Z5 aS aR aR (Rep.one Q7) ?_ | refine V8 aS aR aR aR ?_ | (refine U9 (fun hh=>?_) (fun hh=>?_)<;>(try simp only[hh,Bool.not_true,Bool.not_false,↓M2,M2,Mb,reduceIte])) | (refine Q4 (fun hh=>?_) (fun hh=>?_)<;>(try simp only[hh,Bool.not_true,Bool.not_false,↓M2,M2,Mb,reduceIte])))))
  exact hK _ hk4.bel
 .exact h _ _ ((hk1.trans hk2).trans (Stp.of_below hk2.sat hb)))
end Go.Proofs.Y
namespace Go.Hm
open Go.Kd
theorem Q9e {α:Type} (p:α->Bool): ∀xs:List α,xs.find? p=(xs.findIdx? p).bind (xs[·]?)
 | []=>rfl
 | x::r=>by
  rw[List.find?_cons,List.findIdx?_cons];cases p x with
  | true=>rfl
  | false=>
   simp only[Bool.false_eq_true,if_false];rw[Q9e p r];cases r.findIdx? p<;>simp
def X4X (l:List Cla):Prop:= ∀c∈l,∀u∈c.like,∃d,lk l u=some d
def Nm (c:Cla):Prop:=c.name.length<=100/\(∀f∈c.fields,f.name.length<=100/\f.kind.length<=100)/\ ∀m∈c.methods,m.result.length<=100/\ ∀p∈m.params,p.length<=100
structure Ok (l : List Cla) : Prop where
  acy : Ue l
  len : l.length <= 100000
  sm : ∀ c ∈ l, Yi c
  full : X4X l
  nm : ∀ c ∈ l, Nm c
abbrev oM (o:Option Hm.Met):Hm.Met:=o.getD Hm.Met.zero
abbrev o1 (o:Option (Q9×Hm.Met)):Q9:=(o.map (·.1)).getD []
abbrev o2 (o:Option (Q9×Hm.Met)):Hm.Met:=(o.map (·.2)).getD Hm.Met.zero
theorem Jo {α β:Type} {xs:List α} {f:α->Option β} {n:Nat} (h:n<xs.length) (a:(xs.take n).findSome? f=none):(xs.take (n+1)).findSome? f=f xs[n]:=by
 rw[List.take_add_one,List.getElem?_eq_getElem h,List.findSome?_append,a];simp
theorem Jn {α β:Type} {xs:List α} {f:α->Option β} {n:Nat} {y:β} (h:n<xs.length) (a:(xs.take n).findSome? f=none) (b:f xs[n]=some y):xs.findSome? f=some y:=by
 have:=Jo h a;rw[b] at this;rw[<-List.take_append_drop (n+1) xs,List.findSome?_append,this];rfl
end Go.Hm
namespace Go.Proofs.Y
open Go.Emb Go.RowKit Go.Kd Go.Hm
variable {w : World} {K : Value -> World -> Prop} {σ : Q3} {v : Value} {l : List Cla}
theorem Zu:F0 σ Hm.Met.zero [S [], .slice none 0 0,S [], .bool false,I 0, .slice none 0 0, .slice none 0 0]:=
 ⟨_,_,_,rfl,Sl.nil,Sl.nil,Sl.nil,by decide,by decide,by decide,by decide⟩
theorem Tw (h:K (.agg [S [], .slice none 0 0,S [], .bool false,I 0, .slice none 0 0, .slice none 0 0].toArray) w):R9 P T.d [] w K:=W5 X4 h
theorem X6f {c:Cla} {cs:List Value} {n:Q9} (hs:X3 w σ) (hc:M3 σ c cs) (hsm:Yi c)
 (h: ∀pv cv hv w' σ',Stp w σ w' σ'->F0 σ' (oM (T6 c n)) [S (oM (T6 c n)).name,pv,S (oM (T6 c n)).result, .bool (oM (T6 c n)).abs,I (oM (T6 c n)).locals,cv,hv]->
  K (.tuple #[.agg [S (oM (T6 c n)).name,pv,S (oM (T6 c n)).result, .bool (oM (T6 c n)).abs,I (oM (T6 c n)).locals,cv,hv].toArray, .bool (T6 c n).isSome]) w'):Q0 P F.cT [.agg cs.toArray,S n] w K:=X2R (by
 obtain ⟨lv,fv,mv,rfl,g1,g2,g3,g4,g5⟩:=hc;unfold Q60 X9 J5 X1;refine Z6 hs fun a w1 σ1 hk1 ha1=>?_;refine W6 hk1.sat rfl fun q w2 σ2 hk2 hq=>?_;refine D6 hk2.sat fun b w3 σ3 hb hk3 hm=>?_;rw[fa];have ha3:=(ha1.up hk2).up hk3;have g3:=((g3.up hk1).up hk2).up hk3;have hq3:=hq.up hk3;refine ld hk3.sat ha3 rfl ?_;rw[Za];have hS3:=(hk1.trans hk2).trans hk3;have hb0:w.heap.size<=b:=S9 hb (hk1.trans hk2);refine Ta (fun x=>decide (x.name=n)) hk3.sat g3 (fun x cs w4 K _ hs4 hr hl hK=>J6 (Q9Q ?_)) fun w4 hb4=>?_
 .obtain ⟨pv,cv,hv,rfl,_⟩:=hr
  unfold Q32 X9 X2;refine Z6 hs4 fun a w5 σ5 hk5 ha5=>?_
  (repeat' (first | (with_reducible intro _) | (with_reducible refine L4 ?_) | (simp only[↓M2,M2,Mb,reduceIte]) | (with_reducible first | refine ld aS aL aR ?_ | refine Y3 aS aL aR ?_ | refine Y8 aS aL aR ?_ | refine Q6 aL ?_ | refine V6 aR ?_ | refine Z6 aS ?_ | refine E8 aS aL ?_ | refine W6 aS aR ?_ | refine Z5 aS aR aR (Rep.one Q7) ?_ | refine V8 aS aR aR aR ?_ | (refine U9 (fun hh=>?_) (fun hh=>?_)<;>(try simp only[hh,Bool.not_true,Bool.not_false,↓M2,M2,Mb,reduceIte])) | (refine Q4 (fun hh=>?_) (fun hh=>?_)<;>(try simp only[hh,Bool.not_true,Bool.not_false,↓M2,M2,Mb,reduceIte])))))
  exact hK _ hk5.bel
 have hk4:Stp w3 σ3 w4 σ3:=Stp.of_below hk3.sat hb4;have hm:=hm.step hk4;have hS4:=hS3.trans hk4;unfold T6 at h;rw[Q9e] at h;refine Z4 ?_;cases hf:c.methods.findIdx? fun x=>decide (x.name=n) with
 | none=>
  rw[hf] at h;simp only[D2];refine J1 ?_;refine Tw ?_;refine Qm hm hS4 hb0 rfl rfl (Rep.one (Zu (σ:=σ3))) fun w5 hS5 hm5=>?_;refine W9 hm5 rfl ?_;exact h _ _ _ w5 σ3 hS5.stp Zu
 | some i=>
  rw[hf] at h;have hi:i<c.methods.length:=(List.findIdx?_eq_some_iff_getElem.1 hf).1;simp only[Option.bind_some,List.getElem?_eq_getElem hi] at h;simp only[D2];refine Q4 (fun hh=>absurd (of_decide_eq_true hh) Q5) (fun _=>?_);rw[fa];refine ld hk4.sat ha3 rfl ?_;refine E4 g3 hi fun p cells hl1 hl2 hr=>?_;refine Y8 hk4.sat hl1 hl2 ?_;refine Q7x hk4.sat hr (hsm.2.2.2 _ (List.getElem_mem hi)) fun pv cv hv w5 σ5 hk5 hr5=>?_;refine Qm (hm.step hk5) (hS4.trans hk5) hb0 rfl rfl (Rep.one hr5) fun w6 hS6 hm6=>?_;refine W9 hm6 rfl ?_;exact h _ _ _ w6 σ5 hS6.stp hr5)
theorem X87 {n:Q9} (ok:Ok l): ∀(k:Nat) {c:Cla} {cs:List Value} {w:World} {σ:Q3} {K:Value->World->Prop},Qg l c.name<k->lk l c.name=some c->X3 w σ->Tab σ v l->M3 σ c cs->
 (∀pv W Y w' Z,Stp w σ w' Z->F0 Z (o2 (M7 l c n)) [S (o2 (M7 l c n)).name,pv,S (o2 (M7 l c n)).result, .bool (o2 (M7 l c n)).abs,I (o2 (M7 l c n)).locals,W,Y]->
  K (.tuple #[S (o1 (M7 l c n)), .agg [S (o2 (M7 l c n)).name,pv,S (o2 (M7 l c n)).result, .bool (o2 (M7 l c n)).abs,I (o2 (M7 l c n)).locals,W,Y].toArray, .bool (M7 l c n).isSome]) w')->
 Q0 P F.aS [v, .agg cs.toArray,S n] w K:=by
 intro k
 induction k with
 | zero=>
  intro c cs w σ K hk;omega
 | succ k ih=>
  intro c cs w σ K hk hc hs ht hr h;refine Q2g ?_;obtain ⟨lv,fv,mv,rfl,g1,g2,g3,g4,g5⟩:=hr;have B:=Q7P ok.acy hc n;generalize hf:(fun u=>match lk l u with | none=>none | some d=>match T6 d n with | some m=>some (u,m) | none=>M7 l d n)=f at B
  unfold Rq;simp only[Y5,M0,M8];unfold X9 J5 V1 X6 X2;refine Z6 hs fun a w1 σ1 C aw=>?_;refine D6 C.sat fun b w2 σ2 hb D a1=>?_;have Q:w.heap.size<=b:=S9 hb C;have ax:=aw.up D;rw[fa];refine ld D.sat ax rfl ?_;have g1:=(g1.up C).up D;refine Q6 g1 ?_;refine V3 c.like.length (fun i w'=> ∃Z,Stp w σ w' Z/\SLe σ2 Z/\Y9 Z w' b [S [], .slice none 0 0,S [], .bool false,I 0, .slice none 0 0, .slice none 0 0]/\(c.like.take i).findSome? f=none) ⟨σ2,C.trans D,SLe.refl _,a1,rfl⟩ fun i w3 d hi af=>?_;obtain ⟨σ3,y,ap,ai,A⟩:=af;have a8:=ht.lift ⟨y.le⟩;refine Z4 ?_;refine Q4 (fun hh=>?_) (fun hh=>?_)
  .have g:i<c.like.length:=by simpa using hh
   refine Q9k (g1.lift ap) g fun p a0 ag=>?_;refine Y3 y.sat a0 rfl ?_;obtain ⟨d,X⟩:=ok.full c (M5 hc).2.1 _ (List.getElem_mem g);obtain ⟨ae,az,_⟩:=M5 X;have j:f c.like[i]=match T6 d n with | some m=>some (c.like[i],m) | none=>M7 l d n:=by rw[<-hf];simp only[X]
   refine Jl y.sat a8 X fun a9 aq ba w4 σ4 E f1 f2 f3 f4 f5 a5=>?_;refine X6f E.sat a5 (ok.sm d az) fun pv W Y w5 σ5 H an=>?_;refine Z2 (vs:=[_,_]) rfl ?_;refine Z2 (vs:=[_,_]) rfl ?_;refine Z5 H.sat (by rfl) rfl (Rep.one an) fun q w6 σ6 J al=>?_
   have t:=((y.trans E).trans H).trans J;have aj:=((ai.step E).step H).step J;have U:=RMe_lift an ⟨J.le⟩;cases ho:T6 d n with
   | some m=>
    rw[ho] at j U al
    (try simp only[ho])
    refine J1 ?_;refine W2 t.sat ?_;refine F3 (fun v _=>v= .agg [S m.name,pv,S m.result, .bool m.abs,I m.locals,W,Y].toArray) (fun _ _ _ h _=>h) (fun w hb=>Y8 hb.sat al rfl ⟨Below.refl _ _,rfl⟩) ?_;rintro _ w7 ad rfl;refine Qm (aj.step ad.stp) (t.trans ad.stp) Q rfl rfl (Rep.one U) fun w8 av a3=>?_;refine W9 a3 rfl ?_;have R:=B.trans (Jn g A j);rw[R] at h;exact h _ _ _ w8 σ6 av.stp U
   | none=>
    rw[ho] at j
    (try simp only[Option.isSome_none])
    refine Z7 ?_;refine Jl t.sat (ht.lift ⟨t.le⟩) X fun a9 aq ba w7 σ7 z f1 f2 f3 f4 f5 a6=>?_;have bp:=Yg ok.acy hc (by simp[L6,List.getElem_mem g]:c.like[i]∈L6 c) X
    refine ih (by rw[ae];omega) (by rw[ae];exact X) z.sat (ht.lift ⟨(t.trans z).le⟩) a6 fun pv W Y w8 σ8 L ao=>?_
    refine Z2 (vs:=[_,_,_]) rfl ?_;refine Z2 (vs:=[_,_,_]) rfl ?_;refine Z2 (vs:=[_,_,_]) rfl ?_;refine Z5 L.sat (by rfl) rfl (Rep.one ao) fun q w9 σ9 M am=>?_
    have O:=((t.trans z).trans L).trans M;have ak:=((aj.step z).step L).step M;have V:=RMe_lift ao ⟨M.le⟩;cases R:M7 l d n with
    | some r=>
     obtain ⟨s,m⟩:=r;rw[R] at j V am
     (try simp only[R])
     refine J1 ?_;refine W2 O.sat ?_;refine F3 (fun v _=>v= .agg [S m.name,pv,S m.result, .bool m.abs,I m.locals,W,Y].toArray) (fun _ _ _ h _=>h) (fun w hb=>Y8 hb.sat am rfl ⟨Below.refl _ _,rfl⟩) ?_;rintro _ bs N rfl;refine Qm (ak.step N.stp) (O.trans N.stp) Q rfl rfl (Rep.one V) fun bb ab ah=>?_;refine W9 ah rfl ?_;have ag:=B.trans (Jn g A j);rw[ag] at h;exact h _ _ _ bb σ9 ab.stp V
    | none=>
     rw[R] at j
     (try simp only[Option.isSome_none])
     refine Z7 ?_;refine C4 ?_;refine Z0 (by have:=g1.max;omega) g ⟨σ9,O,?_,ak,?_⟩
     .exact ap.more ⟨fun b o e=>M.le _ _ (L.le _ _ (z.le _ _ (J.le _ _ (H.le _ _ (E.le _ _ e)))))⟩
     .rw[Jo g A];exact j
  .have g: ¬i<c.like.length:=by simpa using hh
   rw[List.take_of_length_le Q5] at A;refine Tw ?_;refine Qm ai y Q rfl rfl (Rep.one (Zu (σ:=σ3))) fun w5 ar a2=>?_;refine W9 a2 rfl ?_;have R:=B.trans A;rw[R] at h;exact h _ _ _ w5 σ3 ar.stp Zu
end Go.Proofs.Y
namespace Go.Hm
open Go.Kd
theorem X5g {l:List Cla} {n:Q9} {c:Cla} (h:c∈chain l n):lk l c.name=some c:=by
 have key: ∀(f:Nat) (n:Q9),c∈Qv (lk l) f n->lk l c.name=some c:=by
  intro f
  induction f with
  | zero=>intro n h;simp[Qv] at h
  | succ f b=>
   intro n h;simp only[Qv] at h
   split at h
   .simp at h
   .rename_i d a
    rcases List.mem_cons.1 h with rfl | h
    .rw[(M5 a).1];exact a
    .exact b _ h
 exact key _ _ h
theorem Q4T {f:Fld} (h:f.name.length<=100/\f.kind.length<=100):(Yd f).length<=202:=by
 unfold Yd
 split<;>simp;omega
theorem Q6h {l:List Cla} (d: ∀c∈l,Nm c) (g: ∀c∈l,Yi c): ∀(f:Nat) (n:Q9),(Xm (lk l) f n).length<=f*300000000
 | 0,_=>by simp[Xm]
 | f+1,n=>by
  simp only[Xm]
  split
  .simp
  .rename_i c j
   obtain ⟨e,b,_⟩:=M5 j;have a:=d c b;have h:=g c b;have m:=Q6h d g f c.super;have o:=Zr Yd 202 c.fields fun f k=>Q4T (a.2.1 f k);have p:c.fields.length*202<=1000000*202:=Nat.mul_le_mul_right _ h.2.1;have i:=a.1;rw[e] at i
   split
   .simp
   .simp only[List.length_append,List.length_cons,List.length_nil,Nat.add_mul];omega
theorem X2K {l:List Cla} (ok:Ok l) (n:Q9):(B6 l n).length<=30000300000000:=by
 have:=Q6h ok.nm ok.sm (l.length+1) n;have a:(l.length+1)*300000000<=100001*300000000:=Nat.mul_le_mul_right _ (by have:=ok.len;omega)
 unfold B6;omega
theorem Q8b {c:Cla} (h:Nm c) (a:Yi c) (i:Nat):((c.fields.take i).flatMap Yd).length<=202000000:=by
 have b:=Zr Yd 202 (c.fields.take i) fun f d=>Q4T (h.2.1 f (List.mem_of_mem_take d));rw[List.length_take] at b;have e:min i c.fields.length*202<=1000000*202:=Nat.mul_le_mul_right _ (by have:=a.2.1;omega)
 omega
end Go.Hm
namespace Go.Proofs.Y
open Go.Emb Go.RowKit Go.Kd Go.Hm
variable {w : World} {K : Value -> World -> Prop} {σ : Q3} {v : Value} {l : List Cla}
theorem X56 {k n:Q9} (hs:X3 w σ) (ht:Tab σ v l) (ok:Ok l)
 (h: ∀pv Z hv w' H,Stp w σ w' H->F0 H (o2 (M6 l k n)) [S (o2 (M6 l k n)).name,pv,S (o2 (M6 l k n)).result, .bool (o2 (M6 l k n)).abs,I (o2 (M6 l k n)).locals,Z,hv]->
  K (.tuple #[S (o1 (M6 l k n)), .agg [S (o2 (M6 l k n)).name,pv,S (o2 (M6 l k n)).result, .bool (o2 (M6 l k n)).abs,I (o2 (M6 l k n)).locals,Z,hv].toArray, .bool (M6 l k n).isSome]) w'):
 Q0 P F.bh [v,S k,S n] w K:=Ax (by
 unfold Df;simp only[Y5,X8,M0,M8];unfold J5 V1 X6 X2;refine D6 hs fun b w1 σ1 E N aj=>?_;refine X3C N.sat (ht.lift ⟨N.le⟩) ok.acy ok.len fun v1 w2 σ2 ai af=>?_;have a7:=aj.step ai;have bg:=aj.lt;refine Q7w (N.trans ai) (af.mono N.bel.size) fun w3 a5 a4 ag=>?_;rw[List.reverse_reverse] at ag;obtain ⟨σ3,ae,Q,bk,a1⟩:=ag.keep a4;have bh:=Pc l k;have av:v1.ownBlock≠some b:=fun e=>by have:=af.own e;omega
 have am:Y9 σ3 w3 b [S [], .slice none 0 0,S [], .bool false,I 0, .slice none 0 0, .slice none 0 0]:=by
  have:=a7.kp a5 av;exact ⟨(a1 b fun e=>av e.symm).trans this.1,this.2⟩
 refine Q6 Q ?_;unfold M6 at h;refine V3 (chain l k).length (fun i w'=> ∃H,Stp w σ w' H/\SLe σ3 H/\Y9 H w' b [S [], .slice none 0 0,S [], .bool false,I 0, .slice none 0 0, .slice none 0 0]/\((chain l k).take i).findSome? (fun c=>(T6 c n).map (c.name,·))=none) ⟨σ3,ae,SLe.refl _,am,rfl⟩ fun i w5 d hi C=>?_;obtain ⟨σ5,J,R,an,y⟩:=C;refine Z4 ?_;refine Q4 (fun hh=>?_) (fun hh=>?_)
 .have a:i<(chain l k).length:=by simpa using hh
  refine E4 (Q.lift R) a fun p cells X z hr=>?_;refine Y8 J.sat X z ?_;refine Z5 J.sat (by rfl) z (Rep.one hr) fun q w6 σ6 A aw=>?_
  refine Y8 A.sat aw z ?_;have ar:=Pd (List.getElem_mem a);refine X6f A.sat (Rep.up A.le hr) (ok.sm _ ar) fun pv Z hv w7 σ7 j az=>?_;refine Z2 (vs:=[_,_]) rfl ?_;refine Z2 (vs:=[_,_]) rfl ?_;refine Z5 j.sat (by rfl) rfl (Rep.one az) fun q8 w8 σ8 u ax=>?_
  have V:=((J.trans A).trans j).trans u;have ap:=((an.step A).step j).step u;have B:=RMe_lift az ⟨u.le⟩;cases D:T6 (chain l k)[i] n with
  | some m=>
   rw[D] at B ax
   (try simp only[D])
   refine J1 ?_;obtain ⟨lv,fv,mv,rfl,g⟩:=hr;refine W2 V.sat ?_;refine X7 (.pointer (some (q.add 0))) (fun w E=>by rw[fa];exact Y2 rfl) ?_
   refine X7 (S (chain l k)[i].name) (fun t w E e=>by rw[e];exact ld E.sat ((aw.up j).up u) rfl (Y2 rfl)) ?_
   refine F3 (fun v _=>v= .agg [S m.name,pv,S m.result, .bool m.abs,I m.locals,Z,hv].toArray) (fun _ _ _ h _=>h) (fun w E=>Y8 E.sat ax rfl ⟨Below.refl _ _,rfl⟩) ?_;rintro _ _ _ w9 ah rfl rfl rfl;refine Qm (ap.step ah.stp) (V.trans ah.stp) E rfl rfl (Rep.one B) fun a2 ac ak=>?_;refine W9 ak rfl ?_;rw[Jn (f:=fun c=>(T6 c n).map (c.name,·)) a y (by simp only[D];rfl)] at h
   exact h _ _ _ a2 σ8 ac.stp B
  | none=>
   (try simp only[D])
   refine Z7 ?_;refine C4 ?_;refine Z0 (by have:=ok.len;omega) a ⟨σ8,V,R.more ⟨fun b o e=>u.le _ _ (j.le _ _ (A.le _ _ e))⟩,ap,?_⟩
   rw[Jo a y];simp only[D];rfl
 .have a: ¬i<(chain l k).length:=by simpa using hh
  rw[List.take_of_length_le Q5] at y;rw[y] at h;clear am ae hh;refine Q6 (Q.lift R) ?_;refine V3 (chain l k).length (fun i w'=> ∃H,Stp w σ w' H/\SLe σ3 H/\Y9 H w' b [S [], .slice none 0 0,S [], .bool false,I 0, .slice none 0 0, .slice none 0 0]/\((chain l k).take i).findSome? (fun c=>M7 l c n)=none) ⟨σ5,J,R,an,rfl⟩ fun i w6 d hi C=>?_;obtain ⟨σ6,L,a0,ao,y⟩:=C;refine Z4 ?_;refine Q4 (fun hh=>?_) (fun hh=>?_)
  .have a:i<(chain l k).length:=by simpa using hh
   refine E4 (Q.lift a0) a fun p cells X z hr=>?_;refine Y8 L.sat X z ?_;refine Z5 L.sat (by rfl) z (Rep.one hr) fun q w7 σ7 j a9=>?_
   refine Y8 j.sat a9 z ?_;have M:=L.trans j;have a6:=X5g (List.getElem_mem a);refine X87 ok _ (Nat.lt_succ_self _) a6 j.sat (ht.lift ⟨M.le⟩) (Rep.up j.le hr) fun pv Z hv w8 σ8 u B=>?_;refine Z2 (vs:=[_,_,_]) rfl ?_;refine Z2 (vs:=[_,_,_]) rfl ?_;refine Z2 (vs:=[_,_,_]) rfl ?_;refine Z5 u.sat (by rfl) rfl (Rep.one B) fun q9 w9 σ9 O ay=>?_
   have W:=(M.trans u).trans O;have aq:=((ao.step j).step u).step O;have Y:=RMe_lift B ⟨O.le⟩;cases D:M7 l (chain l k)[i] n with
   | some r=>
    obtain ⟨s,m⟩:=r;rw[D] at Y ay
    (try simp only[D])
    refine J1 ?_;refine W2 W.sat ?_;refine F3 (fun v _=>v= .agg [S m.name,pv,S m.result, .bool m.abs,I m.locals,Z,hv].toArray) (fun _ _ _ h _=>h) (fun w E=>Y8 E.sat ay rfl ⟨Below.refl _ _,rfl⟩) ?_;rintro _ a2 U rfl;refine Qm (aq.step U.stp) (W.trans U.stp) E rfl rfl (Rep.one Y) fun ba ad al=>?_;refine W9 al rfl ?_;have:=Jn (f:=fun c=>M7 l c n) a y D;unfold M7 at this;rw[this] at h;exact h _ _ _ ba σ9 ad.stp Y
   | none=>
    (try simp only[D])
    refine Z7 ?_;refine C4 ?_;refine Z0 (by have:=ok.len;omega) a ⟨σ9,W,a0.more ⟨fun b o e=>O.le _ _ (u.le _ _ (j.le _ _ e))⟩,aq,?_⟩
    rw[Jo a y];exact D
  .have a: ¬i<(chain l k).length:=by simpa using hh
   rw[List.take_of_length_le Q5] at y;refine Tw ?_;refine Qm ao L E rfl rfl (Rep.one (Zu (σ:=σ6))) fun w7 M a8=>?_;refine W9 a8 rfl ?_;unfold M7 at y;rw[y] at h;exact h _ _ _ w7 σ6 M.stp Zu)
theorem X3x {n:Q9} (hs:X3 w σ) (ht:Tab σ v l) (h: ∀w' σ',Stp w σ w' σ'->K (.bool (Yk l n)) w'):Q0 P F.b9 [v,S n] w K:=Tj (by
 unfold Nt X5;unfold Yk at h;cases hd:lk l n with
 | none=>
  rw[hd] at h
  (repeat' (first | (with_reducible intro _) | (with_reducible refine L4 ?_) | (simp only[↓M2,M2,Mb,reduceIte]) | (with_reducible first | refine ld aS aL aR ?_ | refine Y3 aS aL aR ?_ | refine Y8 aS aL aR ?_ | refine Q6 aL ?_ | refine V6 aR ?_ | refine Z6 aS ?_ | refine E8 aS aL ?_ | refine W6 aS aR ?_ | refine Z5 aS aR aR (Rep.one Q7) ?_ | refine V8 aS aR aR aR ?_ | refine Gv au au au ?_ | (refine U9 (fun hh=>?_) (fun hh=>?_)<;>(try simp only[hh,Bool.not_true,Bool.not_false,↓M2,M2,Mb,reduceIte])) | (refine Q4 (fun hh=>?_) (fun hh=>?_)<;>(try simp only[hh,Bool.not_true,Bool.not_false,↓M2,M2,Mb,reduceIte])))))
  all_goals exact aF
 | some d=>
  rw[hd] at h
  (repeat' (first | (with_reducible intro _) | (with_reducible refine L4 ?_) | (simp only[↓M2,M2,Mb,reduceIte]) | (with_reducible first | refine ld aS aL aR ?_ | refine Y3 aS aL aR ?_ | refine Y8 aS aL aR ?_ | refine Q6 aL ?_ | refine V6 aR ?_ | refine Z6 aS ?_ | refine E8 aS aL ?_ | refine W6 aS aR ?_ | refine Z5 aS aR aR (Rep.one Q7) ?_ | refine V8 aS aR aR aR ?_ | refine Cy au au au ?_ | refine Jl au au au ?_ | (refine U9 (fun hh=>?_) (fun hh=>?_)<;>(try simp only[hh,Bool.not_true,Bool.not_false,↓M2,M2,Mb,reduceIte])) | (refine Q4 (fun hh=>?_) (fun hh=>?_)<;>(try simp only[hh,Bool.not_true,Bool.not_false,↓M2,M2,Mb,reduceIte])))))
  all_goals exact aF)
end Go.Proofs.Y
namespace Go.Kd
def brk (b:UInt8):Bool:=[(91:UInt8),93].contains b
def Q4i:Nat->Q9->Q9
 | 0,s=>s
 | n+1,s=>match s.getLast? with
  | some b=>if brk b then Q4i n (s.take (s.length-1)) else s
  | none=>s
def Fj (s:Q9):Q9:=Q4i s.length s
theorem X3c: ∀(n m:Nat) (s:Q9),s.length<=n->s.length<=m->Q4i n s=Q4i m s:=by
 intro n
 induction n with
 | zero=>
  intro m s h _;have:s=[]:=List.eq_nil_of_length_eq_zero (by omega)
  subst this;cases m<;>rfl
 | succ n a=>
  intro m s h d;cases m with
  | zero=>
   have:s=[]:=List.eq_nil_of_length_eq_zero (by omega)
   subst this;rfl
  | succ m=>
   simp only[Q4i];cases c:s.getLast? with
   | none=>rfl
   | some b=>
    simp only
    split
    .exact a m _ (by rw[List.length_take];omega) (by rw[List.length_take];omega)
    .rfl
theorem Q4j (s:Q9):Fj s=match s.getLast? with | some b=>if brk b then Fj (s.take (s.length-1)) else s | none=>s:=by
 unfold Fj;cases d:s with
 | nil=>rfl
 | cons c r=>
  rw[<-d];obtain ⟨n,e⟩: ∃n,s.length=n+1:=⟨r.length,by rw[d];rfl⟩
  have a:s.length-1=n:=by omega
  rw[e];simp only[Q4i,a];cases f:s.getLast? with
  | none=>rfl
  | some b=>
   simp only
   split
   .rw[show n+1-1=n by omega];exact X3c n (s.take n).length _ (by rw[List.length_take];omega) (Nat.le_refl _)
   .rfl
theorem X47 {s:Q9} (h:name s=true): ∃b,s.getLast?=some b/\K3 b.toNat=true:=by
 cases s with
 | nil=>simp[name] at h
 | cons c r=>
  refine ⟨(c::r).getLast (by simp),List.getLast?_eq_some_getLast (by simp),?_⟩
  simp only[name,Bool.and_eq_true,List.all_eq_true] at h;exact h.2 _ (List.getLast_mem _)
theorem X3p {b:UInt8} (h:K3 b.toNat=true):brk b=false:=by
 have a:b≠91:=by rintro rfl;revert h;decide
 have c:b≠93:=by rintro rfl;revert h;decide
 simp[brk,a,c]
theorem Lq {s:Q9} (h:(plain s||S1 s)=true):name s=true:=by
 simp only[Bool.or_eq_true] at h
 rcases h with h | h
 .simp only[plain,Bool.or_eq_true,decide_eq_true_eq] at h
  rcases h with (h | h) | h<;>subst h<;>decide
 .cases s with
  | nil=>simp[S1] at h
  | cons c r=>simp only[S1,Bool.and_eq_true] at h;exact h.1
end Go.Kd
namespace Go.Proofs.Y
open Go.Emb Go.RowKit Go.Kd Go.Hm
variable {w : World} {K : Value -> World -> Prop} {σ : Q3} {v : Value} {l : List Cla}
theorem X64 {s:Q9} (h:arr s=true):Fj s=Fj (Kd.cutA s):=by
 have f:2<=s.length/\s.drop (s.length-2)=[91,93]:=by simpa [arr] using h
 obtain ⟨g,e⟩:=f;have a:s=Kd.cutA s++[91,93]:=by unfold Kd.cutA;rw[<-e,List.take_append_drop]
 have i:(Kd.cutA s).length+2=s.length:=by unfold Kd.cutA;rw[List.length_take];omega
 have b:s.getLast?=some 93:=by rw[a];simp
 have c:s.take (s.length-1)=Kd.cutA s++[91]:=by
  conv=>lhs;rw[a]
  rw[List.take_append,List.length_append]
  simp
  exact List.take_of_length_le Q5
 rw[Q4j s,b];simp only[show brk 93=true from rfl,if_true,c]
 rw[Q4j];have d:(Kd.cutA s++[91]).getLast?=some 91:=by simp
 rw[d];simp only[show brk 91=true from rfl,if_true]
 congr 1
 simp
theorem X4O {s:Q9}:(plain (base s).1||S1 (base s).1)=true->Fj s=(base s).1:=by
 have key: ∀(n:Nat) (s:Q9),s.length<=n->(plain (base s).1||S1 (base s).1)=true->Fj s=(base s).1:=by
  intro n
  induction n with
  | zero=>
   intro s h a;have:s=[]:=List.eq_nil_of_length_eq_zero Q5;subst this;rfl
  | succ n g=>
   intro s h a
   by_cases c:arr s=true
   .have d:base s=((base (Kd.cutA s)).1,(base (Kd.cutA s)).2+1):=by rw[Yy s,c];simp
    rw[d] at a⊢;rw[X64 c];exact g _ (by have:=Xc c;omega) a
   .have d:base s=(s,0):=by rw[Yy s,eq_false_of_ne_true c];simp
    rw[d] at a⊢;obtain ⟨b,e,f⟩:=X47 (Lq a);rw[Q4j,e]
    simp[X3p f]
 exact key _ s (Nat.le_refl _)
instance z_asciiSet:TZ P T.an 256 256 (.agg (Array.replicate 256 (.bool false))):=⟨X4⟩
theorem X0z (h: ∀w',Below w.heap.size w w'->K (.tuple #[.agg (Lib.setCells [91,93]), .bool true]) w'):Q0 P F.cx [S [91,93]] w K:=by
 refine Ou (fn:=Tryz.f217) Tryz.func217 X4 X4 (Calls.mono (Tryz.strings_makeASCIISet (fun w=>Yc z_asciiSet w) ⟨[91,93].toArray⟩ w L2 (by
  intro j b a;have:b∈[(91:UInt8),93]:=List.mem_of_getElem? a
  simp at this;rcases this with rfl | rfl<;>decide)) ?_)
 rintro e w' ⟨rfl,rfl⟩;exact h _ ((Below.refl _ _).alloc (Nat.le_refl _) _)
theorem Q5I {q:Addr} {b:UInt8} (c:X3 w σ) (a:U0 σ q (Lib.setCells [91,93]).toList) (h:K (.bool (brk b)) w):Q0 P F.aA [.pointer (some q), .int .u8 b.toNat] w K:=Rj (by
 unfold Ja J5;rw[H2];have d:=b.toNat_lt;rw[Q9l Q5 Q5];refine ld c a ?_ h;have:=Lib.setCells_at [91,93] b;rw[<-Array.getElem?_toList] at this
 simpa [brk] using this)
theorem Q5f {q:Addr} {s:Q9} (n:X3 w σ) (k:s.length<=V5) (m:U0 σ q (Lib.setCells [91,93]).toList) (h:K (S (Fj s)) w):Q0 P F.ar [S s, .pointer (some q)] w K:=Kf (by
 unfold Lj X6 X1;refine L4 ?_;refine Mg (fun x w'=>w'=w/\ ∃u:Q9,x=S u/\u.length<=V5/\Fj u=Fj s) (fun x _=>(sOf x).length) ⟨rfl,s,rfl,k,rfl⟩ ?_;rintro _ d _ ⟨rfl,u,rfl,g,f⟩;have e:sOf (S u)=u:=by simp[sOf]
 simp only[e];refine Kr Y6 ?_;refine Cq ?_;refine Q4 (fun hh=>?_) (fun hh=>?_)
 .have j:0<u.length:=by simpa using hh
  have o:u.length<=9223372036854775807:=Nat.le_trans g L2;refine Kr Y6 ?_;refine Zb ⟨by omega,by omega⟩ ?_
  have i:((u.length:Int)-1).toNat=u.length-1:=by omega
  rw[Jr Y6 Q5 Q5];simp only[i];have b:u.getLast?=some (u[u.length-1]'(by omega)):=by rw[List.getLast?_eq_getElem?,List.getElem?_eq_getElem]
  have a:=Q4j u;rw[b] at a;simp only at a;refine Q5I n m ?_;cases c:brk (u[u.length-1]'(by omega)) with
  | true=>
   rw[c] at a;simp only[↓M1,M1,Mb,reduceIte];rw[Ql Q5 Q5,Xz Y6 Q5 Q5];simp only[i];refine ⟨⟨trivial,_,rfl,by rw[List.length_take];omega,?_⟩,?_⟩
   .rw[<-f,a];simp
   .have:sOf (S (u.take (u.length-1)))=u.take (u.length-1):=by simp[sOf]
    simp only[this,List.length_take];omega
  | false=>
   rw[c] at a;simp only[↓M1,M1,Mb,reduceIte];intro _;rw[<-f,a] at h
   simpa using h
 .have j: ¬0<u.length:=by simpa using hh
  have:u=[]:=List.eq_nil_of_length_eq_zero Q5;subst this;intro _;rw[<-f] at h;exact h)
theorem X0x {s:Q9} (hs:X3 w σ) (hl:s.length<=V5) (h: ∀w' σ',Stp w σ w' σ'->K (S (Fj s)) w'):Q0 P F.bT [S s,S [91,93]] w K:=Q2B (by
 unfold Sm;simp only[M0,M8];unfold X5 X6 X1 U6
 by_cases hs0:s=[]
 .subst hs0
  (repeat' (first | (with_reducible intro _) | (with_reducible refine L4 ?_) | (simp only[↓M2,M2,Mb,reduceIte]) | (with_reducible first | refine ld aS aL aR ?_ | refine Y3 aS aL aR ?_ | refine Y8 aS aL aR ?_ | refine Q6 aL ?_ | refine V6 aR ?_ | refine Z6 aS ?_ | refine E8 aS aL ?_ | refine W6 aS aR ?_ | refine Z5 aS aR aR (Rep.one Q7) ?_ | refine V8 aS aR aR aR ?_ | (refine U9 (fun hh=>?_) (fun hh=>?_)<;>(try simp only[hh,Bool.not_true,Bool.not_false,↓M2,M2,Mb,reduceIte])) | (refine Q4 (fun hh=>?_) (fun hh=>?_)<;>(try simp only[hh,Bool.not_true,Bool.not_false,↓M2,M2,Mb,reduceIte])))))
  all_goals first | exact h _ _ (by (repeat (first | exact Stp.refl (by (first | assumption | exact Stp.sat Q7 | exact Hst.sat Q7)) | assumption | refine Stp.trans ?_ (by first | assumption | exact Hst.stp Q7)))) | (exfalso;simp_all)
 have d1:decide (s=[])=false:=decide_eq_false hs0;simp only[d1,show decide (([91,93]:Q9)=[])=false from rfl,show decide ((([91,93]:Q9).length:Int)=1)=false from rfl,↓M1,M1,Mb,reduceIte]
 refine X0z (E2 hs fun w1 σ1 hk1=>?_);simp only[↓M1,M1,Mb,reduceIte];have hsz:(Lib.setCells [91,93]).toList.length=256:=by rw[Array.length_toList];exact Lib.setCells_size _
 have hone: ∀u∈(Lib.setCells [91,93]).toList,u.oneCell'=true:=by
  have:=Lib.setCells_one [91,93];rw[Array.all_eq_true'] at this;intro u hu;exact this u (by simpa using hu)
 have htr: ∀{w:World} {σ:Q3} {K:Value->World->Prop} {q:Addr},X3 w σ->U0 σ q (Lib.setCells [91,93]).toList->K (S (Fj s)) w->Q0 P F.ar [S s, .pointer (some q)] w K:=fun hs hq h=>Q5f hs hl hq h;have hta:Lib.setCells [91,93]=(Lib.setCells [91,93]).toList.toArray:=Array.toArray_toList.symm;generalize (Lib.setCells [91,93]).toList=cs at*;rw[hta];refine Z5 hk1.sat (by show (Array.replicate 256 (Value.bool false)).size=256;exact Array.size_replicate) hsz hone fun q w2 σ2 hk2 hq=>?_
 refine htr hk2.sat hq ?_;exact h _ _ (hk1.trans hk2))
theorem Q5H {s:Q9} (hs:X3 w σ) (ht:Tab σ v l) (hl:s.length<=V5) (h: ∀w' σ',Stp w σ w' σ'->K (.bool (E3 l s)) w'):Q0 P F.ac [v,S s] w K:=Q2f (by
 unfold Rp X5 U6;unfold E3 at h;refine K6 ?_;refine Q4 (fun hh=>?_) (fun hh=>?_)
 .have e:decide (s=G3)=true:=hh
  rw[e] at h;exact h _ _ (Stp.refl hs)
 .have e:decide (s=G3)=false:=hh
  rw[e] at h;refine X0x hs hl fun w1 σ1 hk1=>?_;refine Vq s (Nat.le_trans hl L2) (E2 hk1.sat fun w2 σ2 hk2=>?_);cases hr:right s with
  | false=>
   rw[hr] at h
   (repeat' (first | (with_reducible intro _) | (with_reducible refine L4 ?_) | (simp only[↓M2,M2,Mb,reduceIte]) | (with_reducible first | refine ld aS aL aR ?_ | refine Y3 aS aL aR ?_ | refine Y8 aS aL aR ?_ | refine Q6 aL ?_ | refine V6 aR ?_ | refine Z6 aS ?_ | refine E8 aS aL ?_ | refine W6 aS aR ?_ | refine Z5 aS aR aR (Rep.one Q7) ?_ | refine V8 aS aR aR aR ?_ | (refine U9 (fun hh=>?_) (fun hh=>?_)<;>(try simp only[hh,Bool.not_true,Bool.not_false,↓M2,M2,Mb,reduceIte])) | (refine Q4 (fun hh=>?_) (fun hh=>?_)<;>(try simp only[hh,Bool.not_true,Bool.not_false,↓M2,M2,Mb,reduceIte])))))
   all_goals exact aF
  | true=>
   rw[hr] at h
   have hr2:(plain (base s).1||S1 (base s).1)=true:=by
    simp only[right,Bool.and_eq_true] at hr;exact hr.2
   rw[X4O hr2]
   (repeat' (first | (with_reducible intro _) | (with_reducible refine L4 ?_) | (simp only[↓M2,M2,Mb,reduceIte]) | (with_reducible first | refine ld aS aL aR ?_ | refine Y3 aS aL aR ?_ | refine Y8 aS aL aR ?_ | refine Q6 aL ?_ | refine V6 aR ?_ | refine Z6 aS ?_ | refine E8 aS aL ?_ | refine W6 aS aR ?_ | refine Z5 aS aR aR (Rep.one Q7) ?_ | refine V8 aS aR aR aR ?_ | refine Gq _ ?_ | refine X27 au au ?_ | (refine U9 (fun hh=>?_) (fun hh=>?_)<;>(try simp only[hh,Bool.not_true,Bool.not_false,↓M2,M2,Mb,reduceIte])) | (refine Q4 (fun hh=>?_) (fun hh=>?_)<;>(try simp only[hh,Bool.not_true,Bool.not_false,↓M2,M2,Mb,reduceIte])))))
   all_goals exact aF)
theorem X6M (ok:Ok l): ∀(k:Nat) {n:Q9} {w:World} {σ:Q3} {K:Value->World->Prop},(lk l n=none\/Qg l n<k)->n.length<=V5->X3 w σ->Tab σ v l->(∀w' σ',Stp w σ w' σ'->K (S (B6 l n)) w')->Q0 P F.aj [v,S n] w K:=by
 intro k
 induction k with
 | zero=>
  intro n w σ K hk hl hs ht h
  have hd:lk l n=none:=hk.resolve_right (by omega)
  refine Rb ?_
  unfold Up
  simp only[M0]
  unfold X9 J5 X5 X6 X1 U6 X2
  rw[Q53 hd] at h
  (repeat' (first | (with_reducible intro _) | (with_reducible refine L4 ?_) | (simp only[↓M2,M2,Mb,reduceIte]) | (with_reducible first | refine ld aS aL aR ?_ | refine Y3 aS aL aR ?_ | refine Y8 aS aL aR ?_ | refine Q6 aL ?_ | refine V6 aR ?_ | refine Z6 aS ?_ | refine E8 aS aL ?_ | refine W6 aS aR ?_ | refine Z5 aS aR aR (Rep.one (by assumption)) ?_ | refine V8 aS aR aR aR ?_ | refine Gv au au au ?_ | (refine U9 (fun hh=>?_) (fun hh=>?_)<;>(try simp only[hh,Bool.not_true,Bool.not_false,↓M2,M2,Mb,reduceIte])) | (refine Q4 (fun hh=>?_) (fun hh=>?_)<;>(try simp only[hh,Bool.not_true,Bool.not_false,↓M2,M2,Mb,reduceIte])))))
  all_goals exact h _ _ (by (repeat (first | exact Stp.refl (by (first | assumption | exact Stp.sat (by assumption) | exact Hst.sat (by assumption))) | assumption | refine Stp.trans ?_ (by first | assumption | exact Hst.stp (by assumption)))))
 | succ k ih=>
  intro n w σ K hk hl hs ht h
  refine Rb ?_
  unfold Up
  simp only[M0]
  unfold X9 J5 X5 X6 X1 U6 X2
  cases hd:lk l n with
  | none=>
   rw[Q53 hd] at h
   (repeat' (first | (with_reducible intro _) | (with_reducible refine L4 ?_) | (simp only[↓M2,M2,Mb,reduceIte]) | (with_reducible first | refine ld aS aL aR ?_ | refine Y3 aS aL aR ?_ | refine Y8 aS aL aR ?_ | refine Q6 aL ?_ | refine V6 aR ?_ | refine Z6 aS ?_ | refine E8 aS aL ?_ | refine W6 aS aR ?_ | refine Z5 aS aR aR (Rep.one (by assumption)) ?_ | refine V8 aS aR aR aR ?_ | refine Gv au au au ?_ | (refine U9 (fun hh=>?_) (fun hh=>?_)<;>(try simp only[hh,Bool.not_true,Bool.not_false,↓M2,M2,Mb,reduceIte])) | (refine Q4 (fun hh=>?_) (fun hh=>?_)<;>(try simp only[hh,Bool.not_true,Bool.not_false,↓M2,M2,Mb,reduceIte])))))
   all_goals exact h _ _ (by (repeat (first | exact Stp.refl (by (first | assumption | exact Stp.sat (by assumption) | exact Hst.sat (by assumption))) | assumption | refine Stp.trans ?_ (by first | assumption | exact Hst.stp (by assumption)))))
  | some c=>
   have hp:=X4n ok.acy n
   rw[hd] at hp
   simp only at hp
   obtain ⟨hcn,hmem,_⟩:=M5 hd
   have hnm:=ok.nm c hmem
   have hsm:=ok.sm c hmem
   have hlen:=X2K ok c.super
   refine Cy hs ht hd ?_
   simp only[↓M1,M1,Mb,reduceIte]
   refine Q4 (fun hh=>?_) (fun hh=>?_)
   .have:n=W3:=of_decide_eq_true hh
    rw[if_pos this] at hp
    rw[hp] at h
    exact h _ _ (Stp.refl hs)
   have: ¬n=W3:=of_decide_eq_false hh
   rw[if_neg this] at hp
   refine Jl hs ht hd fun lv fv mv w1 σ1 hk1 f1 f2 f3 f4 f5 hr=>?_
   refine Z5 hk1.sat (by rfl) rfl (Rep.one hr) fun q w2 σ2 hk2 hq=>?_
   have hn100:n.length<=100:=by rw[<-hcn];exact hnm.1
   refine Zq (by simp only[List.length_cons,List.length_nil];omega) ?_
   simp only[fa]
   refine ld hk2.sat hq rfl ?_
   have hk':lk l c.super=none\/Qg l c.super<k:=by
    cases hd2:lk l c.super with
    | none=>exact .inl rfl
    | some e=>
     right
     have:=Yg ok.acy hd (by simp[L6]) hd2
     rcases hk with hk | hk
     .rw[hk] at hd;cases hd
     .omega
   refine ih hk' f5 hk2.sat (ht.lift ⟨(hk1.trans hk2).le⟩) fun w3 σ3 hk3=>?_
   refine Zq (by simp only[List.length_append,List.length_cons,List.length_nil];omega) ?_
   refine Zq (by simp only[List.length_append,List.length_cons,List.length_nil];omega) ?_
   refine ld hk3.sat (hq.up hk3) rfl ?_
   have f2:=(f2.up hk2).up hk3
   have hS3:=(hk1.trans hk2).trans hk3
   refine Q6 f2 ?_
   refine H7 c.fields.length (fun i a w'=> ∃σ',Stp w σ w' σ'/\SLe σ3 σ'/\a=S (n++[40]++B6 l c.super++[41]++(c.fields.take i).flatMap Yd)) ⟨σ3,hS3,SLe.refl _,by simp⟩ fun i a w4 d hi hinv=>?_
   obtain ⟨σ4,hS4,le4,rfl⟩:=hinv
   have hfl:=Q8b hnm hsm i
   refine Z4 ?_
   refine Q4 (fun hh=>?_) (fun hh=>?_)
   .have hi':i<c.fields.length:=by simpa using hh
    have hff:=hnm.2.1 _ (List.getElem_mem hi')
    have hmax:c.fields.length<=9223372036854775807:=f2.max
    refine L4 ?_
    refine Q68 (f2.lift le4) hi' fun p hl1 hr1=>?_
    refine Y8 hS4.sat hl1 rfl ?_
    refine Z5 hS4.sat (by rfl) rfl (Rep.one hr1) fun q5 w5 σ5 hk5 hq5=>?_
    rw[fa]
    refine ld hk5.sat hq5 rfl ?_
    have e5:(c.fields.take (i+1)).flatMap Yd=(c.fields.take i).flatMap Yd++Yd c.fields[i]:=by
     rw[List.take_add_one,List.getElem?_eq_getElem hi',List.flatMap_append];simp
    cases htr:c.fields[i].tr with
    | true=>
     simp only[↓M1,M1,Mb,reduceIte]
     intro _
     refine U5 hmax hi' ⟨σ5,hS4.trans hk5,le4.more ⟨hk5.le⟩,?_⟩
     rw[e5];simp[Yd,htr]
    | false=>
     simp only[↓M1,M1,Mb,reduceIte]
     refine ld hk5.sat hq5 rfl ?_
     refine Zq (by simp only[List.length_append,List.length_cons,List.length_nil];omega) ?_
     refine Zq (by simp only[List.length_append,List.length_cons,List.length_nil];omega) ?_
     refine ld hk5.sat hq5 rfl ?_
     refine Zq (by simp only[List.length_append,List.length_cons,List.length_nil];omega) ?_
     refine Zq (by simp only[List.length_append,List.length_cons,List.length_nil];omega) ?_
     intro _
     (try simp only[↓M1,M1,Mb,reduceIte])
     refine U5 hmax hi' ⟨σ5,hS4.trans hk5,le4.more ⟨hk5.le⟩,?_⟩
     rw[e5];simp[Yd,htr]
   .have hi': ¬i<c.fields.length:=by simpa using hh
    rw[List.take_of_length_le (by omega)] at hfl⊢
    refine Zq (by simp only[List.length_append,List.length_cons,List.length_nil];omega) ?_
    rw[hp] at h
    exact h _ _ hS4
end Go.Proofs.Y
namespace Go.Emb
open Go.RowKit Go.Hm
variable {P : Program} {w w1 w' w'' : World} {σ σ' : Q3}
theorem Q7Q (m:List (List UInt8×Value)) (k n:List UInt8) (v:Value):P4 (putS m k v) n=if k=n then some v else P4 m n:=by
 induction m with
 | nil=>simp[putS,P4]
 | cons p r b=>
  simp only[putS]
  by_cases h:p.1=k
  .rw[if_pos h]
   simp only[P4]
   by_cases a:k=n
   .simp[a]
   .rw[if_neg a,if_neg a,if_neg (by rw[h];exact a)]
  .rw[if_neg h]
   simp only[P4]
   by_cases a:p.1=n
   .rw[if_pos a,if_pos a,if_neg (by intro e;exact h (a.trans e.symm))]
   .rw[if_neg a,if_neg a];exact b
theorem J8.shift {B sz:Nat} {e:TypeId} {v:Value} {xs:List (List UInt8)} (h:J8 B e sz L5 σ w v xs) (m: ∀k,v.ownBlock=some k->σ' k=none):J8 B e sz L5 σ' w v xs:=by
 obtain ⟨a,f,rfl,n,o,c,p⟩:=h;refine ⟨a,f,rfl,n,o,fun b d=>⟨(c b d).1,(c b d).2.1,(c b d).2.2.1,m _ (by subst d;rfl)⟩,fun q=>?_⟩
 obtain ⟨g,j,i,rfl,r,y,s,t,u⟩:=p q;exact ⟨g,j,i,rfl,r,m g rfl,s,t,u⟩
theorem Kpt.sat {D:Nat->Prop} (a:X3 w σ) (d:Kpt D w w') (c: ∀k,D k->σ k=none):X3 w' σ:=fun b o e=>by
 rw[d.block b (a.lt e) fun h=>by rw[c b h] at e;cases e];exact a b o e
theorem Nxt.kpt {D D':Nat->Prop} (h:Nxt D w σ w' σ') (a:Kpt D' w' w'') (b: ∀k,D' k->D k) (c: ∀k,D' k->σ' k=none):Nxt D w σ w'' σ':=
 ⟨h.kp.trans (a.mono fun k _ h=>b k h),h.le,h.old,a.sat h.sat c⟩
theorem X8g {t V:TypeId} {e:TypeId} {m:Nat} {z:Value} {cs:List Bool} [ts:TS P t e] [tz:TZ P e 1 m z] {B:Nat} {A:World} {i σ':Q3} {g u:Value} {xs:List (List UInt8)} {s:List UInt8}
 (D:J8 B e 1 L5 i A g xs) (hB:B<=A.heap.size) (J:J8 B e 1 L5 i w1 g xs) (r:Nxt (fun k=>g.ownBlock=some k) A i w1 σ') (O:Sl 1 L5 σ' u [s]) (Q:(z.cells.size==1&&decide (0<1))=true)
 (j:(xs.length+1)*m<=140737488355328) (M:xs.length+1<=1000000000000):
 U4 P .append [t,t] V cs [g,u] w1 (dk (Tu B e 1 L5 i g xs s) (VQa A.heap.size B e 1 L5 i g xs s) w1):=by
 have y: ∀k,g.ownBlock=some k->σ' k=none:=fun k c=>(r.old k (D.mem c).2.1).trans (D.mem c).2.2;refine Q15 r.sat (Nat.le_trans hB r.kp.size) (J.shift y) O Q (by simpa using j) (by simpa using M) fun W X C N q f=>?_
 have b:J8 B e 1 L5 i X W (xs++[s]):=q.shift fun k c=>by
  have:=(q.mem c).2.2;cases hh:i k with
  | none=>rfl
  | some o=>rw[r.le.le _ _ hh] at this;cases this
 refine ⟨⟨C.mono fun k _ h=>h.1,fun h=>?_,fun a d H h=>?_⟩,b,?_⟩
 .rcases f with ⟨a,d,n,p⟩ | ⟨j,_⟩
  .rw[p] at b;rw[n];exact b.pre rfl
  .exact h.below j
 .rcases f with ⟨Y,E,n,p⟩ | ⟨j,_⟩
  .rw[n] at H;injection H with R q2 U
   subst R U;rw[p] at b;exact b
  .exact h.below j
 .rcases f with ⟨a,d,n,p⟩ | ⟨j,L⟩
  .exact .inl ⟨a,d,n,p⟩
  .exact .inr ⟨fun k c=>Nat.le_trans r.kp.size (L k c),fun k c=>(D.mem c).2.1⟩
end Go.Emb
namespace Go.Hm
open Go.Kd
def Ec (l:List Cla) (n:Q9):List Cla:=(Qk l n).filterMap (lk l)
theorem X1e {l:List Cla} (h: ∀c∈l,Yi c) (a:List Q9):weigh l a<=l.length*1000001:=by
 unfold weigh
 induction l with
 | nil=>simp
 | cons c r d=>
  have e:=d fun c b=>h c (by simp[b])
  have f:=(h c (by simp)).1
  simp only[List.map_cons,List.sum_cons,List.length_cons,Nat.add_mul];have g:(L6 c).length=c.like.length+1:=rfl
  split<;>omega
end Go.Hm
namespace Go.Proofs.Y
open Go.Emb Go.RowKit Go.Kd Go.Hm
variable {w : World} {K : Value -> World -> Prop} {σ : Q3} {v : Value} {l : List Cla}
theorem X1L {β:Type} {n:Q9} {f:Value} (L:β->Cla->Bool×β) (s0:β) (N:β->World->Prop) (D:Nat->Prop) (hs:X3 w σ) (ht:Tab σ v l) (hl:l.length<=100000) (bv: ∀c∈l,Yi c) (hn:n.length<=V5)
 (hD: ∀k,D k->k<w.heap.size/\σ k=none) (al: ∀s w1 w2,N s w1->(∀k,D k->w2.heap[k]? =w1.heap[k]?)->N s w2) (h0:N s0 w)
 (hf: ∀s c cs (w1:World) (σ1:Q3) (K:Value->World->Prop),SLe σ σ1->X3 w1 σ1->(∀k,D k->σ1 k=none)->N s w1->M3 σ1 c cs->lk l c.name=some c->(∀w',Kpt D w1 w'->N (L s c).2 w'->K (.bool (L s c).1) w')->J0 P f [.agg cs.toArray] w1 K)
 (h: ∀w' σ',Nxt D w σ w' σ'->N (V4 L s0 (Ec l n) 0).2 w'->K (.bool (V4 L s0 (Ec l n) 0).1.isSome) w'):Q0 P F.y [v,S n,f] w K:=Q19 (by
 unfold El;simp only[Y5,X8,M0,M8];unfold J5 X5 X6 X1;refine Jk (R:=L5) (sz:=1) (xs:=[n]) (Stp.refl hs) [S n] rfl rfl (by simp;rfl) rfl ⟨⟨rfl,hn⟩,trivial⟩ fun x0 w1 az be _=>?_
 refine Q6f az.sat fun r w2 hr ab cc=>?_;have b4:=J8.of_acc (be.up ab);have bd:=az.trans ab;have bs:w.heap.size<=r:=Nat.le_trans az.bel.size hr
 have bx: ∀b,weigh l b<=100001000000:=fun b=>by
  have:=X1e bv b;have h2:l.length*1000001<=100000*1000001:=Nat.mul_le_mul_right _ hl;omega
 refine Q0B (fun d x w1=> ∃(C b:List Q9) (s:β) (σ1:Q3) (m:List (Q9×Value)),d=C.length+weigh l b/\d<=1+weigh l []/\Nxt D w σ w1 σ1/\J8 w.heap.size T.b 1 L5 σ1 w1 x C/\P2 σ1 w1 r m/\(∀k,(P4 m k).isSome=decide (k∈b))/\x.ownBlock≠some r/\N s w1/\
  Qk l n=Ms (lk l) d C b/\(∃i,V4 L s0 (Ec l n) 0=V4 L s (((Qk l n).drop b.length).filterMap (lk l)) i)) (1+weigh l []) ?_ ?_
 .refine ⟨[n],[],s0,σ,[],by simp,Nat.le_refl _,Nxt.of_stp bd,b4,cc,by simp[P4],?_,al _ _ _ h0 fun k o=>bd.bel.block k (hD k o).1,rfl,0,by simp[Ec]⟩
  intro e;have:=be.mem r e;omega
 rintro aq d x dd w3 ⟨C,b,s,σ3,m,hd,c3,A,av,ad,Q,co,ay,hv,i,y⟩ bg;have cw:=bx [];have a4:=A.sat;obtain ⟨a7,B⟩:=Q40 (lk l) d C b;rw[<-hv] at B;have aa:(Qk l n).drop b.length=a7:=by rw[B];simp
 rw[aa] at y;refine Cp av ?_;refine Cq ?_;cases ag:C with
 | nil=>
  subst ag;refine Q4 (fun hh=>absurd (of_decide_eq_true hh) U8) (fun _=>?_);have:Qk l n=b:=by rw[hv];cases d<;>rfl
  have hp:a7=[]:=by rw[this] at B;simpa using B
  rw[hp] at y;rw[y] at h;exact h _ _ A ay
 | cons t g=>
  subst ag;refine Q4 (fun _=>?_) (fun hh=>absurd (of_decide_eq_false hh) U8);simp only[List.length_cons] at hd;refine Q9J (n:=0) av U8 fun a cs X h2 h3=>?_;obtain ⟨rfl,cl⟩:=h3;simp only[List.getElem_cons_zero] at X cl;have Z:=X 0 _ rfl;rw[add_zero] at Z;refine Yz Z ?_;refine X9B av 1 U8 fun x' Y bp=>?_;simp only[List.drop_succ_cons,List.drop_zero] at Y
  have J:x'.ownBlock≠some r:=by
   rcases bp with e | e<;>rw[e]
   .exact co
   .simp
  rw[Q5o Y6 ad.2 t];have b7:d=(g.length+weigh l b)+1:=by omega
  have p:=hv;rw[b7] at p;simp only[Ms] at p
  have skip:(lk l t=none\/t∈b)->Qk l n=Ms (lk l) (g.length+weigh l b) g b:=by
   rintro (e | e)
   .rw[e] at p;exact p
   .cases e2:lk l t with
    | none=>rw[e2] at p;exact p
    | some c=>rw[e2] at p;simp only[if_pos e] at p;exact p
  have af:(lk l t=none\/t∈b)->aq x' w3:=fun ck=>
   bg (g.length+weigh l b) x' w3 Q5 ⟨g,b,s,σ3,m,rfl,by omega,A,Y,ad,Q,J,ay,skip ck,i,by rw[aa];exact y⟩
  have a5:=ht.lift A.le;have U:=Q t;cases bm:P4 m t with
  | some u=>
   rw[bm] at U;have ai:t∈b:=by simpa using U
   simp only[↓M2,M2,Mb,reduceIte];exact af (.inr ai)
  | none=>
   rw[bm] at U;have ai:t∉b:=by simpa using U
   simp only[↓M2,M2,Mb,reduceIte];cases H:lk l t with
   | none=>
    refine Gv a4 a5 H ?_;simp only[↓M2,M2,Mb,reduceIte];exact af (.inl H)
   | some c=>
    obtain ⟨aw,bj,_⟩:=M5 H;refine Cy a4 a5 H ?_;simp only[↓M2,M2,Mb,reduceIte];refine Q0E Y6 ad t (I 1) fun w4 bw cd=>?_;have ac:Kpt (fun k=>k=r) w3 w4:=Kpt.of_upd bw rfl;have ci:X3 w4 σ3:=ac.sat a4 fun k o=>by rw[o];exact ad.1
    have bf:=Y.kp ac fun k o e=>J (e▸o);have b8:=al _ _ _ ay fun k o=>bw.block k (by have:=(hD k o).1;omega)
    have c9:r<w3.heap.size:=ad.lt;refine Jl ci a5 H fun lv fv mv w5 σ5 bl f1 f2 f3 f4 f5 br=>?_;refine Z5 bl.sat (by rfl) rfl (Rep.one br) fun q w6 M W a2=>?_
    refine Y8 W.sat a2 rfl ?_;have z:=bl.trans W
    have bb: ∀k,D k->k<w4.heap.size:=fun k o=>by
     have X:=(hD k o).1;have h2:=A.kp.size;have h3:=ac.size;omega
    have b9:=al _ _ _ b8 fun k o=>z.bel.block k (bb k o);have a6:SLe σ M:=A.le.more ⟨z.le⟩
    have bc: ∀k,D k->M k=none:=fun k o=>by
     rw[z.old k (bb k o),A.old k (hD k o).1];exact (hD k o).2
    refine hf s c _ w6 M _ a6 W.sat bc b9 (RCl_lift br ⟨W.le⟩) (by rw[aw];exact H) fun w7 aj bk=>?_
    have bu:X3 w7 M:=aj.sat W.sat bc
    have ak:Nxt D w σ w7 M:=⟨((A.kp.more ac fun j e=>by rw[e];exact bs).trans (Kpt.of_below z.bel)).trans aj,a6,fun k o=>by
     rw[z.old k (by have:=A.kp.size;have:=ac.size;omega)];exact A.old k o,bu⟩
    have ao: ∀k,w.heap.size<=k-> ¬D k:=fun k o e=>by have:=(hD k e).1;omega
    have V:=(bf.up z).kp aj fun k o=>ao k ((bf.mem o).1);have bo:=(cd.up z).kp aj (ao r bs)
    have bn: ∀k,(P4 (putS m t (I 1)) k).isSome=decide (k∈b++[t]):=fun k=>by
     rw[Q7Q]
     by_cases e:t=k
     .subst e;simp
     .rw[if_neg e,Q k];simp[Ne.symm e]
    rw[H] at p;simp only[if_neg ai] at p;obtain ⟨bz,a1⟩:=Q40 (lk l) (g.length+weigh l b) (g++L6 c) (b++[t])
    have bq:a7=t::bz:=by
     have:=B.symm.trans (p.trans a1)
     simpa using this
    rw[bq] at y;simp only[List.filterMap_cons,H,V4] at y;cases E:(L s c).1 with
    | true=>
     rw[E] at y;simp only[if_true] at y;refine J1 ?_;have:=h w7 M ak;rw[y] at this;exact this bk
    | false=>
     rw[E] at y;simp only[Bool.false_eq_true,if_false] at y;refine Z7 ?_;have ap:w.heap.size<=w7.heap.size:=ak.kp.size;have ae: ∀k,x'.ownBlock=some k->M k=none:=fun k o=>(V.mem o).2.2;have hw:=Q1F l b c bj (by rw[aw];exact ai)
     rw[aw] at hw;have de:=bx b;have ch:g.length<=100001000001:=by omega
     have cb:=(bv c bj).1;have cv:=bo.lt
     refine Q0t (Tu w.heap.size T.b 1 L5 M x' g c.super) (fun w1=>Kpt (fun k=>x'.ownBlock=some k) w7 w1/\X3 w1 M/\J8 w.heap.size T.b 1 L5 M w1 x' g)
      ⟨.of_below (Below.refl _ _).drew,bu.below (Below.refl _ _).drew,V.below (Below.refl _ _).drew⟩ (fun w1 w2 E ht=>⟨E.1.trans ht.1,ht.1.sat E.2.1 ae,ht.2.1 E.2.2⟩) ?_
     refine X7 (.pointer (some (q.add 1))) (fun w E=>by rw[fa];exact ⟨Tu.refl,rfl⟩) ?_
     refine X7 (.pointer (some (q.add 2))) (fun w E=>by rw[fa];exact ⟨Tu.refl,rfl⟩) ?_
     refine X7 (S c.super) (fun t w E e=>by rw[e];exact ld E.2.1 a2 rfl ⟨Tu.refl,rfl⟩) ?_
     refine F3 (fun u w1=> ∃σ',Nxt (fun k=>x'.ownBlock=some k) w7 M w1 σ'/\Sl 1 L5 σ' u [c.super]) (fun u w1 w2 e ht=>by obtain ⟨σ',X,h2⟩:=e;exact ⟨σ',X.kpt ht.1 (fun _ o=>o) (fun k o=>(X.old k (V.mem o).2.1).trans (ae k o)),h2⟩) (fun t w1 E e=>?_) ?_
     .rw[e]
      refine B9 (R:=L5) (sz:=1) E.2.1 [S c.super] [c.super] rfl rfl (by simp;rfl) rfl ⟨⟨rfl,f5⟩,trivial⟩ fun u w2 σ2 ab hu=>?_
      have cf:Nxt (fun k=>x'.ownBlock=some k) w7 M w1 M:=⟨E.1,SLe.refl _,fun _ _=>rfl,E.2.1⟩;exact ⟨Tu.below ab.bel,σ2,cf.trans (Nxt.of_stp ab),hu⟩
     refine F3 (VQa w7.heap.size w.heap.size T.b 1 L5 M x' g c.super) (fun _ _ _ X ht=>X.stable ht) (fun u w1 E e=>?_) ?_
     .obtain ⟨σ',X,h2⟩:=e
      exact X8g V ap E.2.2 X h2 rfl Q5 Q5
     refine X7 lv (fun t w E e=>by rw[e];exact ld E.2.1 a2 rfl ⟨Tu.refl,rfl⟩) ?_
     rintro dg dj dh di cp dl w8 O _ _ _ _ ⟨b5,bh⟩ rfl
     have a3:cp.ownBlock≠some r:=by
      rcases bh with ⟨a,b3,e1,e2⟩ | ⟨e1,_⟩
      .rw[e2];rw[e1] at J;cases a<;>exact J
      .intro e;have:=e1 r e;omega
     refine Q15 O.2.1 (Nat.le_trans ap O.1.size) b5 (f1.up W) rfl (by rw[List.length_append,List.length_cons,List.length_nil];omega) (by rw[List.length_append,List.length_cons,List.length_nil];omega) fun b1 w9 a0 cj b6 bi=>?_
     have cn:b1.ownBlock≠some r:=by
      rcases bi with ⟨a,b3,e1,e2⟩ | ⟨_,e1⟩
      .rw[e2];rw[e1] at a3;cases a<;>exact a3
      .intro e;have:=e1 r e;have:=O.1.size;omega
     have cg:Nxt D w σ w9 M:=⟨(ak.kp.more O.1 fun j e=>(V.mem e).1).more a0 fun j e=>e.2.1,a6,ak.old,cj⟩;have ce:=(bo.kp O.1 J).kp a0 fun e=>a3 e.1
     have ca:=al _ w7 w9 bk fun k o=>by
      have X:=(hD k o).1;rw[a0.block k (by have:=O.1.size;omega) fun e=>by have:=e.2.1;omega,O.1.block k Q5 fun e=>by have:=(V.mem e).1;omega]
     have cy:(g++L6 c).length=g.length+1+c.like.length:=by simp[L6];omega
     have ct:(L6 c).length=c.like.length+1:=rfl
     have ax:Ms (lk l) (g.length+weigh l b) (g++L6 c) (b++[t])=Ms (lk l) ((g++L6 c).length+weigh l (b++[t])) (g++L6 c) (b++[t]):=by
      have:=X54 l ((g++L6 c).length+weigh l (b++[t])) (g++L6 c) (b++[t]) (Nat.le_refl _) (g.length+weigh l b-((g++L6 c).length+weigh l (b++[t])));rw[<-this];congr 1;omega
     refine bg ((g++L6 c).length+weigh l (b++[t])) b1 w9 Q5 ⟨g++L6 c,b++[t],(L s c).2,M,_,rfl,by omega,cg,?_,ce,bn,cn,ca,p.trans ax,i+1,?_⟩
     .have:g++L6 c=(g++[c.super])++c.like:=by simp[L6]
      rw[this];exact b6
     .rw[y,B,bq];simp)
end Go.Proofs.Y
namespace Go.Emb
open Go.RowKit Go.Hm
theorem Nxt.stp {w w':World} {σ a:Q3} (h:Nxt (fun _=>False) w σ w' a):Stp w σ w' a:=⟨h.kp.below fun _=>id,h.sat,h.le.le,h.old⟩
end Go.Emb
namespace Go.Hm
open Go.Kd Go.Emb
theorem Q84 {α:Type} (p:α->Bool): ∀(xs:List α) (i:Nat),(V4 (fun (_:Unit) x=>(p x,())) () xs i).1.isSome=xs.any p
 | [],_=>rfl
 | x::r,i=>by
  simp only[V4,List.any_cons];cases p x with
  | true=>simp
  | false=>simpa using Q84 p r (i+1)
theorem Q8Z {l:List Cla} (n b:Q9):((Ec l n).any fun c=>decide (c.name=b))=(Qk l n).contains b:=by
 have key: ∀vs:List Q9,(∀x∈vs,∃c,lk l x=some c)->((vs.filterMap (lk l)).any fun c=>decide (c.name=b))=vs.contains b:=by
  intro vs
  induction vs with
  | nil=>intro _;rfl
  | cons x r f=>
   intro h;obtain ⟨c,a⟩:=h x U8;rw[List.filterMap_cons,a];simp only[List.any_cons,List.contains_cons];rw[f fun y e=>h y (by simp[e]),(M5 a).1]
   congr 1
   rw[Bool.eq_iff_iff,beq_iff_eq,decide_eq_true_eq];exact ⟨Eq.symm,Eq.symm⟩
 exact key _ fun x d=>(Ml.1 d).right
end Go.Hm
namespace Go.Proofs.Y
open Go.Emb Go.RowKit Go.Kd Go.Hm
variable {w : World} {K : Value -> World -> Prop} {σ : Q3} {v : Value} {l : List Cla}
theorem X1m {n:Q9} {f:Value} (p:Cla->Bool) (hs:X3 w σ) (ht:Tab σ v l) (hl:l.length<=100000) (hsm: ∀c∈l,Yi c) (hn:n.length<=V5)
 (hf: ∀c cs (w1:World) (σ1:Q3) (K:Value->World->Prop),SLe σ σ1->X3 w1 σ1->M3 σ1 c cs->(∀w' σ',Stp w1 σ1 w' σ'->K (.bool (p c)) w')->J0 P f [.agg cs.toArray] w1 K)
 (h: ∀w' σ',Stp w σ w' σ'->K (.bool ((Ec l n).any p)) w'):Q0 P F.y [v,S n,f] w K:=by
 refine X1L (fun (_:Unit) c=>(p c,())) () (fun _ _=>True) (fun _=>False) hs ht hl hsm hn (fun _ e=>e.elim) (fun _ _ _ _ _=>trivial) trivial (fun s c cs w1 σ1 K le hs1 _ _ hr _ hK=>hf c cs w1 σ1 K le hs1 hr fun w' σ' hk=>hK w' (.of_below hk.bel) trivial) fun w' σ' hn _=>?_;rw[Q84];exact h w' σ' hn.stp
theorem X5b {n b:Q9} {q:Addr} (hs:X3 w σ) (ht:Tab σ v l) (ok:Ok l) (hn:n.length<=V5) (hq:U0 σ q [S b]) (h: ∀w' σ',Stp w σ w' σ'->K (.bool ((Qk l n).contains b)) w'):
 Q0 P F.y [v,S n, .func (.func F.bs) #[] #[.pointer (some q)]] w K:=by
 refine X1m (fun c=>decide (c.name=b)) hs ht ok.len ok.sm hn (fun c cs w1 σ1 K le hs1 hr hK=>J6 (Q18 ?_)) (by rw[Q8Z];exact h)
 obtain ⟨lv,fv,mv,rfl,_⟩:=hr;unfold Ek X9 X2;have hq1:=hq.lift le;refine Z6 hs1 fun a w2 σ2 hk2 ha2=>?_
 (repeat' (first | (with_reducible intro _) | (with_reducible refine L4 ?_) | (simp only[↓M2,M2,Mb,reduceIte]) | (with_reducible first | refine ld aS aL aR ?_ | refine Y3 aS aL aR ?_ | refine Y8 aS aL aR ?_ | refine Q6 aL ?_ | refine V6 aR ?_ | refine Z6 aS ?_ | refine E8 aS aL ?_ | refine W6 aS aR ?_ | refine Z5 aS aR aR (Rep.one Q7) ?_ | refine V8 aS aR aR aR ?_ | (refine U9 (fun hh=>?_) (fun hh=>?_)<;>(try simp only[hh,Bool.not_true,Bool.not_false,↓M2,M2,Mb,reduceIte])) | (refine Q4 (fun hh=>?_) (fun hh=>?_)<;>(try simp only[hh,Bool.not_true,Bool.not_false,↓M2,M2,Mb,reduceIte])))))
 exact hK _ _ hk2
theorem X97 {a b:Q9} (E:X3 w σ) (u:Tab σ v l) (ok:Ok l) (s:a.length<=V5) (D:b.length<=V5) (h: ∀w' H,Stp w σ w' H->K (.bool (Vc l a b)) w'):Q0 P F.bY [v,S a,S b] w K:=Q3A (by
 unfold Be X5 U6 X2;unfold Vc at h;refine W6 E rfl fun q w1 σ1 k C=>?_;refine Q5H k.sat (u.lift ⟨k.le⟩) s fun J O d=>?_;have i:=k.trans d;cases y:E3 l a with
 | false=>
  simp only[y,↓M2,M2,Mb,reduceIte,Bool.not_false,Bool.true_or,if_true] at h⊢;exact h _ _ i
 | true=>
  simp only[y,↓M2,M2,Mb,reduceIte,Bool.not_true,Bool.false_or] at h⊢;refine Y3 d.sat (C.up d) rfl ?_;refine Q5H d.sat (u.lift ⟨i.le⟩) D fun L Q e=>?_;have c:=i.trans e;cases z:E3 l b with
  | false=>
   simp only[z,↓M2,M2,Mb,reduceIte,Bool.not_false,if_true] at h⊢;exact h _ _ c
  | true=>
   simp only[z,↓M2,M2,Mb,reduceIte,Bool.not_true,Bool.false_eq_true,if_false] at h⊢;have m:=(C.up d).up e;refine Y3 e.sat m rfl ?_;refine K6 ?_
   by_cases f:a=b
   .rw[if_pos f] at h
    simp only[decide_eq_true f,↓M2,M2,Mb,reduceIte];exact h _ _ c
   rw[if_neg f] at h;simp only[decide_eq_false f,↓M2,M2,Mb,reduceIte];refine Gq a ?_;cases A:plain a with
   | true=>
    simp only[A,↓M2,M2,Mb,reduceIte,Bool.true_or,if_true] at h⊢;exact h _ _ c
   | false=>
    simp only[A,↓M2,M2,Mb,reduceIte,Bool.false_or] at h⊢;refine Y3 e.sat m rfl ?_;refine Gq b ?_;cases B:plain b with
    | true=>
     simp only[B,↓M2,M2,Mb,reduceIte,if_true] at h⊢;exact h _ _ c
    | false=>
     simp only[B,↓M2,M2,Mb,reduceIte,Bool.false_eq_true,if_false] at h⊢
     by_cases p:a=G3
     .rw[if_pos p] at h
      have r:decide (a=[110,117,108,108])=true:=decide_eq_true p;simp only[r,↓M2,M2,Mb,reduceIte];exact h _ _ c
     rw[if_neg p] at h;have r:decide (a=[110,117,108,108])=false:=decide_eq_false p;simp only[r,↓M2,M2,Mb,reduceIte];refine Q69 a (Nat.le_trans s L2) (E2 e.sat fun M R g=>?_);have j:=c.trans g;have n:=m.up g;refine Vd ?_
     by_cases o:elem a=[]
     .rw[if_neg (by simpa using o)] at h
      simp only[decide_eq_true o,↓M2,M2,Mb,reduceIte];exact X5b g.sat (u.lift ⟨j.le⟩) ok s n fun N U t=>h _ _ (j.trans t)
     .rw[if_pos o] at h
      simp only[decide_eq_false o,↓M2,M2,Mb,reduceIte];refine Y3 g.sat n rfl ?_;refine K6 ?_;exact h _ _ j)
theorem X6Q {c:Cla} {cs:List Value} (hs:X3 w σ) (ht:Tab σ v l) (hl:l.length<=100000) (hsm: ∀c∈l,Yi c) (hc:M3 σ c cs) (h: ∀w' σ',Stp w σ w' σ'->K (.bool (Xt l c)) w'):Q0 P F.bt [v, .agg cs.toArray] w K:=Q1b (by
 obtain ⟨lv,fv,mv,rfl,g1,g2,g3,g4,g5⟩:=hc;unfold En Z8 X9 X5;obtain ⟨a,_,_,_,rfl,_⟩:=ht.ex;refine W6 hs rfl fun q w1 σ1 hk1 hq=>?_;refine Z6 hk1.sat fun q2 w2 σ2 hk2 hq2=>?_;rw[Za,fa];have hS2:=hk1.trans hk2
 have back: ∀{n:Q9} {w3:World} {σ3:Q3} {K:Value->World->Prop},SLe σ2 σ3->X3 w3 σ3->n.length<=V5->(∀w' σ',Stp w3 σ3 w' σ'->K (.bool ((Qk l n).contains c.name)) w')->
  J0 P (.func (.func F.ba) #[] #[.pointer (some q), .pointer (some q2)]) [S n] w3 K:=by
  intro n w3 σ3 K le hs3 hn hK;refine J6 (Tl ?_);unfold Nv;refine Y3 hs3 ((hq.up hk2).lift le) rfl ?_;rw[Za];have le3:SLe σ σ3:=SLe.more ⟨hS2.le⟩ le;refine X1m (fun d=>decide (d.name=c.name)) hs3 (ht.lift le3) hl hsm hn (fun d ds w4 σ4 K le4 hs4 hr hK=>J6 (Ix ?_)) (by rw[Q8Z];exact hK)
  obtain ⟨lv,fv,mv,rfl,_⟩:=hr;unfold Lb X9 X2;have hq4:=(hq2.lift le).lift le4;refine Z6 hs4 fun a w5 σ5 hk5 ha5=>?_
  (repeat' (first | (with_reducible intro _) | (with_reducible refine L4 ?_) | (simp only[↓M2,M2,Mb,reduceIte]) | (with_reducible first | refine ld aS aL aR ?_ | refine Y3 aS aL aR ?_ | refine Y8 aS aL aR ?_ | refine Q6 aL ?_ | refine V6 aR ?_ | refine Z6 aS ?_ | refine E8 aS aL ?_ | refine W6 aS aR ?_ | refine Z5 aS aR aR (Rep.one Q7) ?_ | refine V8 aS aR aR aR ?_ | (refine U9 (fun hh=>?_) (fun hh=>?_)<;>(try simp only[hh,Bool.not_true,Bool.not_false,↓M2,M2,Mb,reduceIte])) | (refine Q4 (fun hh=>?_) (fun hh=>?_)<;>(try simp only[hh,Bool.not_true,Bool.not_false,↓M2,M2,Mb,reduceIte])))))
  exact hK _ _ hk5
 refine ld hk2.sat hq2 rfl ?_;unfold Xt at h;simp only[L6,List.any_cons] at h;refine back (SLe.refl _) hk2.sat g5 fun w3 σ3 hk3=>?_;cases e1:(Qk l c.super).contains c.name with
 | true=>
  rw[e1] at h;simp only[↓M2,M2,Mb,reduceIte];exact h _ _ (hS2.trans hk3)
 | false=>
  rw[e1,Bool.false_or] at h;simp only[↓M2,M2,Mb,reduceIte];refine ld hk3.sat (hq2.up hk3) rfl ?_;refine Xn (fun n=>(Qk l n).contains c.name) hk3.sat (((g1.up hk1).up hk2).up hk3) (fun x w4 K _ hs4 hx hK=>back ⟨hk3.le⟩ hs4 hx fun w' σ' hk=>hK _ hk.bel) fun w4 hb=>?_
  (try simp only[↓M2,M2,Mb,reduceIte])
  exact h _ _ ((hS2.trans hk3).trans (Stp.of_below hk3.sat hb)))
end Go.Proofs.Y
namespace Go.Emb
open Go.RowKit Go.Hm
variable {P : Program} {w : World} {K : Value -> World -> Prop} {σ σ' : Q3}
theorem Sl.at {α:Type} {R:Q3->α->List Value->Prop} {sz:Nat} {v:Value} {xs:List α} (h:Sl sz R σ v xs) {i:Nat} (o:i<xs.length):
 ∃p cs,U0 σ p cs/\cs.length=sz/\R σ xs[i] cs/\ ∀{P:Program} {t e:TypeId} {c:Nat} {z:Value} {w:World} {K:Value->World->Prop} [TS P t e] [TZ P e sz c z],K (.pointer (some p)) w->indexAddr P t v (I i) w K:=by
 obtain ⟨a,d,rfl,q,r,k,m⟩:=h;cases a with
 | none=>have:=k rfl;omega
 | some b=>
  obtain ⟨cs,f,g,j⟩:=(m b rfl).2 i xs[i] (by simp[o])
  refine ⟨_,cs,f,g,j,?_⟩;intro P t e c z w K _ _ n;rw[Ij Q5 Q5]
  simpa using n
abbrev ints (xs:List Nat):List Int:=xs.map fun n:Nat=>(n:Int)
theorem W1.grow {α:Type} {R:Q3->α->List Value->Prop} [hr:Rep R] {B sz:Nat} {e:TypeId} {v:Value} {xs:List α} (h:W1 B e sz R σ w v xs) (f:SLe σ σ') (c: ∀k,v.ownBlock=some k->σ' k=none):W1 B e sz R σ' w v xs:=by
 obtain ⟨cells,a,g,b⟩:=h;exact ⟨cells,a,c,fun i x d=>hr.up f.le (b i x d)⟩
end Go.Emb
namespace Go.Proofs.Y
open Go.Emb Go.RowKit Go.Kd Go.Hm
variable {w : World} {K : Value -> World -> Prop} {σ : Q3} {v : Value} {l : List Cla}
theorem X0w {B i:Nat} {xs:List Nat} {x:Value} (o:J8 B T.e 1 G4 σ w x (ints xs)) (h:K (.bool (decide (i∈xs))) w):Q0 P F.aF [x,I i] w K:=Bw (by
 unfold Uh X1
 have j:xs.length<=9223372036854775807:=by
  obtain ⟨a,r,_,m,p,_⟩:=o;simp only[maxLen,ints,List.length_map] at p m;omega
 refine Ke ?_;unfold Li J5 V1 X6 X2;refine Cp o ?_;have g:(ints xs).length=xs.length:=by simp
 refine V3 xs.length (fun n w'=>w'=w/\i∉xs.take n) ⟨rfl,by simp⟩ fun n w' d u f=>?_
 obtain ⟨rfl,f⟩:=f;rw[g];refine Z4 ?_;refine Q4 (fun hh=>?_) (fun hh=>?_)
 .have b:n<xs.length:=by simpa using hh
  refine Q9J o (by rw[g];exact b) fun a cs m p t=>?_
  obtain ⟨rfl,_⟩:=t;have q:=m 0 _ rfl;rw[add_zero] at q;refine Yz q ?_;simp only[List.getElem_map];refine C5 ?_;refine Q4 (fun c=>?_) (fun c=>?_)
  .have e:(i:Int)=xs[n]:=by simpa using c
   have:i=xs[n]:=by omega
   have k:decide (i∈xs)=true:=decide_eq_true (by rw[this];exact List.getElem_mem b)
   rw[k] at h;refine Xg ?_;rw[decide_eq_true (by omega:(0:Int)<=n)]
   exact h
  .have e: ¬(i:Int)=xs[n]:=by simpa using c
   refine C4 ?_;refine Z0 j b ⟨rfl,?_⟩;rw[List.take_add_one,List.getElem?_eq_getElem b];simp only[Option.toList_some,List.mem_append,List.mem_singleton,not_or];exact ⟨f,fun s=>e (by rw[s])⟩
 .have b: ¬n<xs.length:=by simpa using hh
  rw[List.take_of_length_le Q5] at f;rw[decide_eq_false f] at h;refine Xg ?_;exact h)
theorem X8c {w0:World} {σ0 σb:Q3} {pf pt pw:Addr} {A frm:Nat} (ha:Ue l) (ho:Ya l) (hl:l.length<=100000) (b1: ∀c∈l,Yi c) (hf:0<frm) (ht:Tab σb v l) (a3:U0 σb pf [I frm]) (bz:U0 σb pt [v])
 (b0:U0 σb pw [.func (.func F.a0) #[] #[.pointer (some pf), .pointer (some ⟨A,0,none⟩), .pointer (some pt), .pointer (some pw)]]) (bn:w0.heap.size<=A):
 ∀(k:Nat) {i:Nat} {out:List Nat} {x:Value} {w1:World} {σ1:Q3} {K:Value->World->Prop},i<l.length->(i<frm\/Qg l (Z3 l i)<k)->SLe σb σ1->Stp w0 σ0 w1 σ1->Y9 σ1 w1 A [x]->W1 w0.heap.size T.e 1 G4 σ1 w1 x (ints out)->x.ownBlock≠some A->Few l out->
  (∀w2 σ2 x',SLe σ1 σ2->Stp w0 σ0 w2 σ2->Y9 σ2 w2 A [x']->W1 w0.heap.size T.e 1 G4 σ2 w2 x' (ints (Jx l frm out i))->x'.ownBlock≠some A->K (.tuple #[]) w2)->
  J0 P (.func (.func F.a0) #[] #[.pointer (some pf), .pointer (some ⟨A,0,none⟩), .pointer (some pt), .pointer (some pw)]) [I i] w1 K:=by
 obtain ⟨a,lv,r,m,rfl,t1,t2,t3,t4⟩:=ht.ex;intro k
 induction k with
 | zero=>
  intro i out x w1 σ1 K hi hk X N hm f hx Y h;have z:i<frm:=hk.resolve_right Q5;refine J6 (Od ?_);unfold Zs;simp only[Y5,X8];unfold J5 V1 X5 X6 X2;refine Y3 N.sat (a3.lift X) rfl ?_;refine Z4 ?_;rw[decide_eq_true (by omega:(i:Int)<frm)]
  simp only[↓M2,M2,Mb,reduceIte];have:Jx l frm out i=out:=Uw _ _ z;rw[this] at h;exact h _ _ _ (SLe.refl _) N hm f hx
 | succ k ih=>
  intro i out x w1 σ1 K hi hk X N hm f hx Y h;refine J6 (Od ?_);unfold Zs;simp only[Y5,X8];unfold J5 V1 X5 X6 X2;refine Y3 N.sat (a3.lift X) rfl ?_;refine Z4 ?_;have y:=X1E ha ho hf out hi
  by_cases z:i<frm
  .rw[decide_eq_true (by omega:(i:Int)<frm)]
   simp only[↓M2,M2,Mb,reduceIte];rw[if_pos z] at y;rw[y] at h;exact h _ _ _ (SLe.refl _) N hm f hx
  rw[if_neg z] at y;rw[decide_eq_false (by omega: ¬(i:Int)<frm)]
  simp only[↓M2,M2,Mb,reduceIte];refine Q3j hm rfl ?_;refine X0w (J8.of_acc f) ?_
  by_cases U:i∈out
  .rw[if_pos U] at y
   rw[y] at h;simp only[decide_eq_true U,↓M2,M2,Mb,reduceIte];exact h _ _ _ (SLe.refl _) N hm f hx
  rw[if_neg U] at y;simp only[decide_eq_false U,↓M2,M2,Mb,reduceIte];have ct:Qg l (Z3 l i)<k+1:=hk.resolve_left z;have t1:=t1.lift X;have t2:=t2.lift X;have t3:=t3.lift X;have M:=bz.lift X;obtain ⟨p,cs,a1,cp,bx,a2⟩:=t2.at hi;obtain ⟨b6,fv,mv,rfl,f1,f2,f3,f4,f5⟩:=bx;have ap:l.getD i Cla.zero=l[i]:=by rw[List.getD_eq_getElem?_getD,List.getElem?_eq_getElem hi];rfl
  have cm:=hm.lt;refine W2 N.sat ?_;refine X7 (.pointer (some a)) (fun w b=>Y3 b.sat M rfl (Y2 rfl)) ?_;refine X7 (.pointer (some a)) (fun t w b e=>by rw[e,H2];exact Y2 rfl) ?_
  refine X7 (.pointer (some (a.add 0))) (fun t w b e=>by rw[e,fa];exact Y2 rfl) ?_
  refine X7 lv (fun t w b e=>by rw[e];exact ld b.sat t1 rfl (Y2 rfl)) ?_
  refine X7 (.pointer (some p)) (fun t w b e=>by rw[e];exact a2 (Y2 rfl)) ?_
  refine X7 (.pointer (some (p.add 1))) (fun t w b e=>by rw[e,fa];exact Y2 rfl) ?_
  refine X7 (S l[i].super) (fun t w b e=>by rw[e];exact ld b.sat a1 rfl (Y2 rfl)) ?_
  refine F3 (fun u w=>X3 w σ1/\W1 w0.heap.size T.b 1 L5 σ1 w u [l[i].super]/\ ∀k,u.ownBlock=some k->w1.heap.size<=k) (fun u w2 w3 h b=>⟨h.1.below b,h.2.1.up (Stp.of_below h.1 b),h.2.2⟩) (fun t w b e=>?_) ?_
  .rw[e]
   refine Jk (R:=L5) (sz:=1) (xs:=[l[i].super]) (N.trans b.stp) [S l[i].super] rfl rfl (by simp;rfl) rfl ⟨⟨rfl,f5⟩,trivial⟩ fun u w2 aw hu bw=>?_
   exact ⟨aw.bel,aw.sat,hu,fun k hk=>Nat.le_trans b.stp.bel.size (bw k hk)⟩
  refine X7 (.pointer (some a)) (fun w b=>Y3 b.sat M rfl (Y2 rfl)) ?_;refine X7 (.pointer (some a)) (fun t w b e=>by rw[e,H2];exact Y2 rfl) ?_
  refine X7 (.pointer (some (a.add 0))) (fun t w b e=>by rw[e,fa];exact Y2 rfl) ?_
  refine X7 lv (fun t w b e=>by rw[e];exact ld b.sat t1 rfl (Y2 rfl)) ?_
  refine X7 (.pointer (some p)) (fun t w b e=>by rw[e];exact a2 (Y2 rfl)) ?_
  refine X7 (.pointer (some (p.add 2))) (fun t w b e=>by rw[e,fa];exact Y2 rfl) ?_
  refine X7 b6 (fun t w b e=>by rw[e];exact ld b.sat a1 rfl (Y2 rfl)) ?_
  rintro cy cz c0 c1 c2 c3 c4 c5 c6 c7 c8 c9 da db dc w2 Q _ _ _ _ _ _ _ ⟨cu,b2,L⟩ _ _ _ _ _ _ bf;subst bf;have bg:=N.trans Q.stp;have bp:=(b1 _ (List.getElem_mem hi)).1;have a8: ∀j,x.ownBlock=some j->j<w1.heap.size:=fun j C=>(f.mem j C).2.1;have bq:=hm.step Q.stp;have ab:=f.step Q.stp;refine Mo bg b2 f1 rfl (by simp only[List.length_cons,List.length_nil];omega) (by simp only[List.length_cons,List.length_nil];omega) fun bc w3 az bh b3 aq=>?_
  have Z: ∀j,bc.ownBlock=some j->w1.heap.size<=j:=fun j C=>by
   rcases aq with e | e
   .exact L j (e▸C)
   .exact Nat.le_trans Q.stp.bel.size (e j C)
  have ax:=bq.nx az fun e=>by have:=L _ e;omega
  have E:=ab.nx az fun j C e=>by have:=L _ e;have:=a8 j C;omega
  obtain ⟨σ4,bi,W,ba,aa⟩:=b3.keep bh;have W:Sl 1 L5 σ4 bc (L6 l[i]):=W;have br:Y9 σ4 w3 A [x]:=⟨(aa A fun e=>by have:=Z A e.symm;omega).trans ax.1,ax.2⟩
  have ac:W1 w0.heap.size T.e 1 G4 σ4 w3 x (ints out):=E.grow ⟨ba⟩ fun j C=>(aa j fun e=>by have:=Z j e.symm;have:=a8 j C;omega).trans (E.mem j C).2.2
  have a9:SLe σ1 σ4:=⟨ba⟩;refine Q6 W ?_
  refine V3 (L6 l[i]).length (fun n w'=> ∃σ' x',SLe σ4 σ'/\Stp w0 σ0 w' σ'/\Y9 σ' w' A [x']/\W1 w0.heap.size T.e 1 G4 σ' w' x' (ints (((L6 l[i]).take n).foldl (fun out u=>Jx l frm out ((J9 l u).getD 0)) out))/\x'.ownBlock≠some A/\Few l (((L6 l[i]).take n).foldl (fun out u=>Jx l frm out ((J9 l u).getD 0)) out))
   ⟨σ4,x,SLe.refl _,bi,br,ac,hx,Y⟩ fun n w5 d hn av=>?_
  obtain ⟨σ5,x5,aj,O,V,B,ai,o⟩:=av;refine Z4 ?_;have s:=a9.more aj;refine Q4 (fun hh=>?_) (fun hh=>?_)
  .have J:n<(L6 l[i]).length:=by simpa using hh
   refine Q9k (W.lift aj) J fun q hq cr=>?_;refine Y3 O.sat hq rfl ?_
   have e1:((L6 l[i]).take (n+1)).foldl (fun out u=>Jx l frm out ((J9 l u).getD 0)) out=Jx l frm (((L6 l[i]).take n).foldl (fun out u=>Jx l frm out ((J9 l u).getD 0)) out) ((J9 l (L6 l[i])[n]).getD 0):=by
    rw[List.take_add_one,List.getElem?_eq_getElem J,List.foldl_append];rfl
   refine W2 O.sat ?_;refine X7 _ (fun w b=>Y3 b.sat (b0.lift (X.more s)) rfl (Y2 rfl)) ?_;refine X7 (.pointer (some a)) (fun w b=>Y3 b.sat (M.lift s) rfl (Y2 rfl)) ?_;refine X7 (.pointer (some a)) (fun t w b e=>by rw[e,H2];exact Y2 rfl) ?_
   refine X7 (.pointer (some (a.add 1))) (fun t w b e=>by rw[e,fa];exact Y2 rfl) ?_
   refine X7 (.map (some r)) (fun t w b e=>by rw[e];exact ld b.sat (t1.lift s) rfl (Y2 rfl)) ?_
   refine X7 (I ((J9 l (L6 l[i])[n]).getD 0:Nat)) (fun t w b e=>by
    rw[e,Q7R Y6 ((t3.lift s).is b.sat) _,t4];cases J9 l (L6 l[i])[n]<;>exact Y2 rfl) ?_
   rintro dd df dg dh di dj w6 af rfl _ _ _ _ rfl;have co:l.length<=9223372036854775807:=by omega
   refine ih ?_ ?_ (X.more s) (O.trans af.stp) (V.step af.stp) (B.step af.stp) ai o fun w7 σ7 x7 b5 bj bs ad b4=>?_
   .cases C:J9 l (L6 l[i])[n] with
    | none=>simp only[Option.getD_none];omega
    | some j=>exact (K0 C).1
   .cases C:J9 l (L6 l[i])[n] with
    | none=>exact .inl hf
    | some j=>
     right;have:=Q4m ha ho hi (u:=(L6 l[i])[n]) (by rw[ap];exact List.getElem_mem J) C
     simp only[Option.getD_some];omega
   .refine C4 ?_
    refine Z0 (by have:(L6 l[i]).length=l[i].like.length+1:=rfl;omega) J ⟨σ7,x7,aj.more b5,bj,bs,?_,b4,?_⟩
    .rw[e1];exact ad
    .rw[e1]
     cases C:J9 l (L6 l[i])[n] with
     | none=>simp only[Option.getD_none];rw[show Jx l frm _ 0=_ from Uw _ _ hf];exact o
     | some j=>exact Q14 ha ho hf _ _ _ (K0 C).1 o
  .have J: ¬n<(L6 l[i]).length:=by simpa using hh
   rw[List.take_of_length_le Q5] at B o;rw[ap] at y;refine Q3j V rfl ?_;have cn:=o.len;refine Ud (x:=(i:Int)) O B ⟨rfl,by omega,by omega⟩ rfl rfl rfl (by rw[List.length_map];omega) (by rw[List.length_map];omega) fun u x8 w8 σ8 a0 bk H ar=>?_
   have ay:=V.nx a0 ai
   have a6:x8.ownBlock≠some A:=fun e=>by
    rcases ar with e2 | e2
    .exact ai (e2▸e)
    .have:=e2 A e;have:=V.lt;omega
   have a7:x8.cells= #[x8]/\x8.oneCell'=true:=by
    obtain ⟨cells,h1,_⟩:=H
    rcases h1.2 with ⟨rfl,_⟩ | ⟨g,ch,ci,rfl,_⟩<;>exact ⟨rfl,rfl⟩
   refine st0 ay U8 a7.1 a7.2 fun w9 a4 bu=>?_;have bl:=a4.stp bk bn ay.1
   have ae:W1 w0.heap.size T.e 1 G4 σ8 w9 x8 (ints (Jx l frm out i)):=by
    rw[y];have:=H.kp (Kpt.of_upd (D:=fun k=>k=A) a4 rfl) fun k hk e=>a6 (e▸hk)
    simpa [ints] using this
   exact h w9 σ8 x8 (s.more a0.le) bl bu ae a6
theorem X6R {frm:Nat} (hs:X3 w σ) (ht:Tab σ v l) (ha:Ue l) (ho:Ya l) (hl:l.length<=100000) (ai: ∀c∈l,Yi c) (hf:0<frm) (ac:frm<=l.length) (h: ∀v' w' σ',Stp w σ w' σ'->Sl 1 G4 σ' v' (ints (N2 l frm))->(N2 l frm).length<=l.length->(∀y∈N2 l frm,y<l.length)->K v' w'):Q0 P F.bu [v,I frm] w K:=Q1c (by
 unfold Eo X9 V1 X6 X2;have aj:=ht;obtain ⟨a,lv,r,m,rfl,t1,t2,t3,t4⟩:=ht.ex;refine W6 hs rfl fun pt w1 σ1 q ah=>?_;refine W6 q.sat rfl fun pf w2 σ2 k ag=>?_;refine D6 k.sat fun B w3 σ3 aa n M=>?_;refine D6 n.sat fun X w4 σ4 ab s O=>?_;rw[Za];have N:=M.step s;have ax:=M.lt;have H:=((q.trans k).trans n).trans s;have L:w.heap.size<=B:=S9 aa (q.trans k);have t:w.heap.size<=X:=S9 ab ((q.trans k).trans n);refine st0 O (by simp[Value.cells]) rfl rfl fun w5 R ad=>?_
 have Y:=R.stp H t O.1;have u:=N.upd R Q5;obtain ⟨E,J,U,o,V⟩:=ad.keep Y t;have ae:Y9 E w5 B [.slice none 0 0]:=⟨(V B Q5).trans u.1,u.2⟩;have o:SLe σ4 E:=⟨o⟩;have z:=((ag.up n).up s).lift o;have A:=(((ah.up k).up n).up s).lift o;have e:SLe σ E:=SLe.more ⟨H.le⟩ o;have t1:=t1.lift e;have t2:=t2.lift e;refine Y3 J.sat z rfl ?_;have a7:(List.range l.length).length=l.length:=List.length_range;have hz:([Value.nilFunc].set 0 (Value.func (Fn.func F.a0) #[] #[.pointer (some pf), .pointer (some ⟨B,0,none⟩), .pointer (some pt), .pointer (some ⟨X,0,none⟩)]))=[Value.func (Fn.func F.a0) #[] #[.pointer (some pf), .pointer (some ⟨B,0,none⟩), .pointer (some pt), .pointer (some ⟨X,0,none⟩)]]:=rfl
 refine Q0B (fun d x w'=> ∃(i:Nat) (σ':Q3) (x':Value),x=I i/\frm<=i/\i<=l.length/\d=l.length-i/\SLe E σ'/\Stp w σ w' σ'/\Y9 σ' w' B [x']/\W1 w.heap.size T.e 1 G4 σ' w' x' (ints (((List.range i).drop frm).foldl (fun out i=>Jx l frm out i) []))/\x'.ownBlock≠some B/\Few l (((List.range i).drop frm).foldl (fun out i=>Jx l frm out i) [])) _
  ⟨frm,E, .slice none 0 0,rfl,Nat.le_refl _,ac,rfl,SLe.refl _,J,ae,by rw[List.drop_eq_nil_of_le U8];exact W1.nil,by simp[Value.ownBlock],by rw[List.drop_eq_nil_of_le U8];exact ⟨by simp,by simp⟩⟩ ?_
 rintro W d x dd w7 ⟨i,σ7,x7,rfl,a4,a5,rfl,f,g,Q,j,al,b⟩ Z;refine Y3 g.sat (A.lift f) rfl ?_;rw[H2,fa];refine ld g.sat (t1.lift f) rfl ?_;refine Q6 (t2.lift f) ?_;refine Z4 ?_;refine Q4 (fun hh=>?_) (fun hh=>?_)
 .have p:i<l.length:=by simpa using hh
  refine Y3 g.sat (U.lift f) rfl ?_;refine X8c (w0:=w) (σ0:=σ) (σb:=E) ha ho hl ai hf (aj.lift e) z A U L (Qg l (Z3 l i)+1) p (.inr (Nat.lt_succ_self _)) f g Q j al b fun w8 σ8 x8 an C af D am=>?_;refine Uc ⟨by omega,by omega⟩ ?_
  have e1:((List.range (i+1)).drop frm).foldl (fun out i=>Jx l frm out i) []=Jx l frm (((List.range i).drop frm).foldl (fun out i=>Jx l frm out i) []) i:=by
   rw[List.range_succ,List.drop_append_of_le_length (by simp;omega),List.foldl_append];rfl
  refine Z _ _ _ (by omega:l.length-(i+1)<l.length-i) ⟨i+1,σ8,x8,by simp,by omega,by omega,rfl,f.more an,C,af,?_,am,?_⟩
  .rw[e1];exact D
  .rw[e1];exact Q14 ha ho hf _ _ _ p b
 .have p:i=l.length:=by
   have: ¬i<l.length:=by simpa using hh
   omega
  subst p;refine Q3j Q rfl ?_;obtain ⟨σ8,C,ak,_,_⟩:=j.keep g;exact h _ _ _ C ak b.len b.2)
end Go.Proofs.Y
namespace Go.Hm
open Go.Kd
theorem X0C (x:Q9) (r:List Q9):F9 (x::r)=x++Lib.joinTail [44] r:=by
 induction r generalizing x with
 | nil=>simp[F9,Lib.joinTail]
 | cons y r a=>
  simp only[F9];rw[a y]
  simp[Lib.joinTail]
theorem Q4N (xs:List Q9):Lib.join xs [44]=F9 xs:=by
 cases xs with
 | nil=>rfl
 | cons x r=>rw[Lib.join_cons,X0C]
theorem Fx: ∀xs:List Q9,(∀x∈xs,x.length<=100)->(F9 xs).length<=xs.length*101
 | [],_=>by simp[F9]
 | [a],h=>by have:=h a (by simp);simp[F9];omega
 | a::b::r,h=>by
  have d:=h a (by simp)
  have e:=Fx (b::r) fun x c=>h x (by simp[c])
  simp only[F9,List.length_append,List.length_cons,List.length_nil,Nat.add_mul] at*;omega
def NmM (m:Hm.Met):Prop:=m.result.length<=100/\ ∀p∈m.params,p.length<=100
end Go.Hm
namespace Go.Proofs.Y
open Go.Emb Go.RowKit Go.Kd Go.Hm
variable {w : World} {K : Value -> World -> Prop} {σ : Q3} {v : Value}
theorem X6K {xs:List Q9} {pv:Value} (L:X3 w σ) (M:Sl 1 L5 σ pv xs) (J:xs.length<=1000000) (N: ∀x∈xs,x.length<=100) (h: ∀w',Below w.heap.size w w'->K (S (F9 xs)) w'):Q0 P F.dc [pv,S [44]] w K:=by
 obtain ⟨a,g,rfl,C,R,D,E⟩:=M;have q:=Fx xs N;have z:xs.length*101<=1000000*101:=Nat.mul_le_mul_right _ J;cases a with
 | none=>
  have Q:=D rfl;have d:xs=[]:=List.eq_nil_of_length_eq_zero Q5;subst d;refine Ou (fn:=Tryz.f185) Tryz.func185 X4 X4 (Calls.mono (Tryz.strings_Join_none none g ⟨[44].toArray⟩ w) ?_);rintro e w' ⟨rfl,rfl⟩;exact h _ (Below.refl _ _)
 | some b=>
  obtain ⟨f,t⟩:=E b rfl
  by_cases d:xs=[]
  .subst d
   refine Ou (fn:=Tryz.f185) Tryz.func185 X4 X4 (Calls.mono (Tryz.strings_Join_none (some b) g ⟨[44].toArray⟩ w) ?_);rintro e w' ⟨rfl,rfl⟩;exact h _ (Below.refl _ _)
  have f:=f (List.length_pos_iff.2 d);obtain ⟨m,o,U⟩:=b;simp only at f;subst f
  have c: ∀(j:Nat) (x:ByteArray),(xs.map fun s=>(⟨s.toArray⟩:ByteArray))[j]? =some x->w.cell? ⟨m,o+j,none⟩=some (.string x):=by
   intro j x n;rw[List.getElem?_map] at n;cases k:xs[j]? with
   | none=>rw[k] at n;cases n
   | some s=>
    rw[k] at n;cases n;obtain ⟨cs,A,O,B⟩:=t j s k;obtain ⟨rfl,_⟩:=B;have:=A.cell L (i:=0) (v:=S s) rfl;rw[add_zero] at this;have e:(⟨m,o,none⟩:Addr).add (j*1)=⟨m,o+j,none⟩:=by unfold Addr.add;split<;>simp_all
    rw[e] at this;exact this
  have p:m<w.heap.size:=by
   obtain ⟨x,r,rfl⟩: ∃x r,xs=x::r:=by cases xs with | nil=>exact absurd rfl d | cons x r=>exact ⟨x,r,rfl⟩
   have:=c 0 ⟨x.toArray⟩ U8;exact World.block_lt_of_cell? _ _ this
  have y:(xs.map fun s=>(⟨s.toArray⟩:ByteArray)).map (·.data.toList)=xs:=by rw[List.map_map];simp[Function.comp_def]
  have u:=Tryz.strings_Join m o g (xs.map fun s=>(⟨s.toArray⟩:ByteArray)) ⟨[44].toArray⟩ w c p (by rw[List.length_map];omega) (by rw[List.length_map];exact C) (by rw[y];show (Lib.join xs [44]).length<=_;rw[Q4N];omega)
  rw[y,List.length_map] at u;refine Ou (fn:=Tryz.f185) Tryz.func185 X4 X4 (Calls.mono u ?_);rintro e w' ⟨rfl,H⟩;have:=h w' H;rw[<-Q4N] at this;exact this
theorem X3z {m:Hm.Met} {cs:List Value} (q:X3 w σ) (p:F0 σ m cs) (d:SmM m) (i:NmM m) (h: ∀w' r,Stp w σ w' r->K (S (Zv m)) w'):Q0 P F.cq [.agg cs.toArray] w K:=Q9K (by
 obtain ⟨pv,s,C,rfl,n,u,y,z,A,B⟩:=p;unfold Q2W;simp only[Y5,X8];unfold U6 X2;refine Z6 q fun a w1 σ1 c j=>?_;have o:=Fx m.params i.2;have k:m.params.length*101<=1000000*101:=Nat.mul_le_mul_right _ d.1;refine W2 c.sat ?_;refine X7 (.pointer (some (a.add 1))) (fun w b=>by rw[fa];exact Y2 rfl) ?_
 refine X7 (.pointer (some (a.add 2))) (fun w b=>by rw[fa];exact Y2 rfl) ?_
 refine X7 pv (fun t w b e=>by rw[e];exact ld b.sat j rfl (Y2 rfl)) ?_
 refine X7 (S (F9 m.params)) (fun t w b e=>by rw[e];exact X6K b.sat (n.up c) d.1 i.2 fun w' f=>Q5O f rfl) ?_
 refine X7 (S ([40]++F9 m.params)) (fun t w b e=>by rw[e];exact Zq (by simp only[List.length_cons,List.length_nil];omega) (Y2 rfl)) ?_
 refine X7 (S ([40]++F9 m.params++[41])) (fun t w b e=>by rw[e];exact Zq (by simp only[List.length_append,List.length_cons,List.length_nil];omega) (Y2 rfl)) ?_
 refine X7 (S m.result) (fun t w b e=>by rw[e];exact ld b.sat j rfl (Y2 rfl)) ?_
 rintro D M E H J L N O g _ _ _ _ _ rfl rfl;have:=i.1;refine Zq (by simp only[List.length_append,List.length_cons,List.length_nil];omega) ?_
 exact h _ _ (c.trans g.stp))
end Go.Proofs.Y
namespace Go.Emb
open Go.RowKit Go.Hm
variable {P : Program} {w w' : World} {K : Value -> World -> Prop}
theorem Q0F {α:Type} (f:α->α) (e:α): ∀l:List α,(l++[e]).modify l.length f=l++[f e]
 | []=>rfl
 | x::r=>by simp[Q0F f e r]
theorem Q2U (k:List UInt8) (e:MapEntry) (b:e.key=S k): ∀(a:List MapEntry) (i:Nat),Instr.findNow .string (S k) a i=some none->Instr.findNow .string (S k) (a++[e]) i=some (some (i+a.length,e.val))
 | [],i,_=>by
  simp[Instr.findNow,b,Instr.sameNow,Cu]
 | x::r,i,h=>by
  simp only[Instr.findNow,List.cons_append] at h⊢
  split at h
  .cases h
  .rename_i c
   rw[Q2U k e b r (i+1) h]
   simp;omega
  .cases h
theorem Q4R (k:List UInt8) (u:Value): ∀(a:List MapEntry) (i j:Nat) (v:Value),Instr.findNow .string (S k) a i=some (some (j,v))->i<=j/\j-i<a.length/\Instr.findNow .string (S k) (a.modify (j-i) fun e=>{e with val:=u}) i=some (some (j,u))
 | [],i,j,v,h=>by simp[Instr.findNow] at h
 | x::r,i,j,v,h=>by
  simp only[Instr.findNow] at h
  split at h
  .rename_i b
   cases h;refine ⟨Nat.le_refl _,by simp,?_⟩
   simp only[Nat.sub_self,List.modify_zero_cons,Instr.findNow,b]
  .rename_i b
   obtain ⟨d,f,c⟩:=Q4R k u r (i+1) j v h;refine ⟨by omega,by simp;omega,?_⟩
   rw[show j-i=(j-(i+1))+1 by omega]
   simp only[List.modify_succ_cons,Instr.findNow,b];exact c
  .cases h
theorem Nk {t p q:TypeId} [tm:TM P t p q] (n:P.underlying p=some .string) {r:Nat} {b:Array MapEntry} {a:Nat} {k:List UInt8} {i:Nat} {v:Value} {e:MapEntry} (o:w.heap[r]? =some (.map b a))
 (s:Instr.findNow .string (S k) b.toList 0=some (some (i,v))) (m:b[i]? =some e) (d:e.key=S k):
 (Instr.mapEntry t (.map (some r)) (S k)).run P w= .ok (.tuple #[v,goInt e.born]) {w with heap:=w.heap.setIfInBounds r (.map b a)}:=by
 have u:(getObj r).run P w= .ok (.map b a) w:=by simp[getObj,Sem.run,o]
 have c:(Instr.keyThatStays (S k) (S k)).run P w= .ok (S k) w:=by
  simp[Instr.keyThatStays,Instr.sameBits,Cu]
 have g:(b.modify i fun e=>{e with key:=S k})=b:=by
  apply Array.ext';apply List.ext_getElem?;intro j;simp only[Array.toList_modify,List.getElem?_modify]
  by_cases f:i=j
  .subst f
   rw[Array.getElem?_toList,m]
   simp[<-d]
  .cases b.toList[j]? <;>simp[f]
 have l:(setObj r (.map b a)).run P w= .ok () {w with heap:=w.heap.setIfInBounds r (.map b a)}:=by
  simp[setObj,Sem.run,o]
 simp only[Instr.mapEntry,Sem.run_bind,run_underlying tm.h,Result.andThen_ok,Instr.findKey,run_underlying n,s,Qz n,u,Sem.run_pure];simp only[m,Option.map_some,Option.getD_some,d,c,Result.andThen_ok,g,l]
theorem Q5z {r:Nat} {o:Obj} (h:w.heap[r]? =some o):({w with heap:=w.heap.setIfInBounds r o}:World)=w:=by
 have:w.heap.setIfInBounds r o=w.heap:=by
  apply Array.ext';apply List.ext_getElem?;intro j;simp only[Array.toList_setIfInBounds,List.getElem?_set]
  by_cases a:r=j
  .subst a
   rw[if_pos rfl];have:=h;rw[<-Array.getElem?_toList] at this;rw[this,if_pos (by have:=(Array.getElem?_eq_some_iff.1 h).1;simpa using this)]
  .rw[if_neg a]
 rw[this]
theorem Q7m {r:Nat} {o b:Obj} (h:w.heap[r]? =some b):Upd w r {w with heap:=w.heap.setIfInBounds r o}/\({w with heap:=w.heap.setIfInBounds r o}:World).heap[r]? =some o:=by
 have a:=(Array.getElem?_eq_some_iff.1 h).1;exact ⟨⟨rfl,rfl,rfl,by simp,fun k c=>by simp only[Array.getElem?_setIfInBounds];rw[if_neg Q5]⟩,by simp[Array.getElem?_setIfInBounds,a]⟩
structure Ent3 (P : Program) (t : TypeId) (r : Nat) (k : List UInt8) (u : Value) (m : List (List UInt8 × Value)) (O0 O1 O2 : Obj) (stamp : Nat) : Prop where
  same : O0 = O2 -> O1 = O0
  put : F5 (some O2) (putS m k u)
  entry : ∀ {w : World} {K : Value -> World -> Prop}, (w.heap[r]? = some O0 \/ w.heap[r]? = some O1 \/ w.heap[r]? = some O2) -> (∀ x w', Upd w r w' -> (w.heap[r]? = some O0 -> w'.heap[r]? = some O1) -> (w.heap[r]? ≠ some O0 -> w'.heap[r]? = w.heap[r]?) -> K (.tuple #[x, I stamp]) w') -> mapEntry P t (.map (some r)) (S k) w K
  store : ∀ {w : World} {K : Value -> World -> Prop}, (w.heap[r]? = some O1 \/ w.heap[r]? = some O2) -> (∀ w', Upd w r w' -> w'.heap[r]? = some O2 -> K undef w') -> entryStore P t (.map (some r)) (I stamp) u w K
theorem Y00 {t kt et:TypeId} {ag:Nat} {z:Value} [tm:TM P t kt et] [tz:TZ P et 1 ag z] (X:P.underlying kt=some .string) {r:Nat} {m:List (List UInt8×Value)} (hm:F5 (w.heap[r]?) m) (k:List UInt8) (u:Value):
 ∃O O1 O2 A,w.heap[r]? =some O/\Ent3 P t r k u m O O1 O2 A:=by
 obtain ⟨q,g,h1,h2,Z,h4⟩:=hm;obtain ⟨r',q1,q2,q3,q4⟩:=Pg k q.toList m 0 h2
 -- the array behind it, the place, the stamp
 have R: ∀(f:Array MapEntry) (d i:Nat) (s:MapEntry) (v1:Value),Instr.findNow .string (S k) f.toList 0=some (some (i,v1))->f[i]? =some s->s.key=S k->(f.toList.map (·.born)).Pairwise (· < ·)->
  (Obj.map q g= .map (f.modify i fun e=>{e with val:=u}) d->Obj.map f d=Obj.map q g)->F5 (some (.map (f.modify i fun e=>{e with val:=u}) d)) (putS m k u)->
  (∀{w:World},w.heap[r]? =some (.map q g)-> ∃x,(Instr.mapEntry t (.map (some r)) (S k)).run P w= .ok (.tuple #[x,I s.born]) {w with heap:=w.heap.setIfInBounds r (.map f d)})->
  ∃O O1 O2 A,w.heap[r]? =some O/\Ent3 P t r k u m O O1 O2 A:=by
  intro f d i s v1 f1 f2 f3 f4 f5 f6 f7;obtain ⟨_,J,f8⟩:=Q4R k u f.toList 0 i v1 f1;simp only[Nat.sub_zero] at J f8;have a4:i<f.size:=by simpa using J
  have f9:(f.modify i fun e=>{e with val:=u})[i]? =some {s with val:=u}:=by
   rw[Array.getElem?_modify,if_pos rfl,f2];rfl
  have aj:Instr.findNow .string (S k) (f.modify i fun e=>{e with val:=u}).toList 0=some (some (i,u)):=by
   rw[Array.toList_modify];exact f8
  have L: ∀(l:Array MapEntry),l.toList.map (·.born)=f.toList.map (·.born)->l.findIdx? (fun e=>(e.born:Int)==s.born)=some i:=by
   intro l D;obtain ⟨le⟩:=l;have e0:(Array.mk le).findIdx? (fun e=>(e.born:Int)==s.born)=le.findIdx? (fun e=>(e.born:Int)==s.born):=List.findIdx?_toArray ..;rw[e0,List.findIdx?_eq_some_iff_getElem];generalize W:(Array.mk le)=l at*;have ao:le=l.toList:=by rw[<-W]
   subst ao;have a5:l.toList.length=f.toList.length:=by have:=congrArg List.length D;simpa using this
   have U: ∀j (hj:j<l.toList.length),(l.toList[j]).born=(f.toList[j]'(by omega)).born:=fun j hj=>by
    have h5:(l.toList.map (·.born))[j]? =(f.toList.map (·.born))[j]? :=by rw[D]
    rw[List.getElem?_map,List.getElem?_map,List.getElem?_eq_getElem hj,List.getElem?_eq_getElem Q5] at h5
    simpa using h5
   have V:f.toList[i]=s:=by
    have:=f2;rw[<-Array.getElem?_toList,List.getElem?_eq_getElem J] at this
    simpa using this
   refine ⟨by omega,by rw[U i Q5,V];simp,fun j hj=>?_⟩
   have an:j<f.toList.length:=by omega
   have:=(List.pairwise_iff_getElem.1 f4) j i (by simpa using an) (by simpa using J) hj
   simp only[List.getElem_map] at this;rw[U j Q5];rw[V] at this;simp only[beq_iff_eq];omega
  have H:(f.modify i fun e=>{e with val:=u}).toList.map (·.born)=f.toList.map (·.born):=by
   apply List.ext_getElem?;intro j;simp only[Array.toList_modify,List.getElem?_map,List.getElem?_modify]
   by_cases M:i=j<;>cases f.toList[j]? <;>simp[M]
  have ap:(f.modify i fun e=>{e with val:=u}).modify i (fun e=>{e with val:=u})=f.modify i fun e=>{e with val:=u}:=by
   apply Array.ext';apply List.ext_getElem?;intro j;simp only[Array.toList_modify,List.getElem?_modify]
   by_cases M:i=j<;>cases f.toList[j]? <;>simp[M]
  have B: ∀(l:Array MapEntry) {w:World},l.toList.map (·.born)=f.toList.map (·.born)->w.heap[r]? =some (.map l d)->(Instr.entryStore t (.map (some r)) (I s.born) u).run P w= .ok () {w with heap:=w.heap.setIfInBounds r (.map (l.modify i fun e=>{e with val:=u}) d)}:=by
   intro l w D hw;have hg:(getObj r).run P w= .ok (.map l d) w:=by simp[getObj,Sem.run,hw]
   have E: ∀o,(setObj r (.map o d)).run P w= .ok () {w with heap:=w.heap.setIfInBounds r (.map o d)}:=by
    intro o;simp[setObj,Sem.run,hw]
   simp only[Instr.entryStore,Sem.run_bind,hg,Result.andThen_ok,asInt,Sem.run_pure,asIntOf,L l D,E]
  refine ⟨.map q g, .map f d, .map (f.modify i fun e=>{e with val:=u}) d,s.born,h1,f5,f6,?_,?_⟩
  .intro w K hw N
   unfold mapEntry
   rcases hw with hw | hw | hw
   .obtain ⟨x,hx⟩:=f7 hw
    rw[Y4 hx];obtain ⟨u1,u2⟩:=Q7m (o:= .map f d) hw;exact N x _ u1 (fun _=>u2) fun h=>absurd hw h
   .have:=Nk (P:=P) (t:=t) X hw f1 f2 f3
    rw[Q5z hw] at this;rw[Y4 this];refine N _ w ⟨rfl,rfl,rfl,rfl,fun _ _=>rfl⟩ (fun h0=>?_) fun _=>rfl;exact hw
   .have:=Nk (P:=P) (t:=t) X hw aj f9 f3
    rw[Q5z hw] at this;rw[Y4 this];refine N _ w ⟨rfl,rfl,rfl,rfl,fun _ _=>rfl⟩ (fun h0=>?_) fun _=>rfl;rw[h0] at hw;cases hw;rw[h0,f5 rfl]
  .intro w K hw N
   unfold entryStore
   rcases hw with hw | hw
   .rw[Vt (B f rfl hw)]
    obtain ⟨u1,u2⟩:=Q7m (o:= .map (f.modify i fun e=>{e with val:=u}) d) hw
    exact N _ u1 u2
   .have:=B _ H hw
    rw[ap,Q5z hw] at this;rw[Vt this];exact N _ ⟨rfl,rfl,rfl,rfl,fun _ _=>rfl⟩ hw
 cases r' with
 | none=>
  obtain ⟨i,hi,bg,be,ar⟩:=tz.info;have hz: ∀w:World,(zeroValue et).run P w= .ok z w:=fun w=>Yc tz w;refine R (q.push {key:=S k,val:=z,born:=g}) (g+1) q.size {key:=S k,val:=z,born:=g} z ?_ U8 rfl ?_ ?_ ?_ ?_
  .have:=Q2U k {key:=S k,val:=z,born:=g} rfl q.toList 0 q1
   simpa using this
  .simp only[Array.toList_push,List.map_append,List.map_cons,List.map_nil]
   rw[List.pairwise_append];refine ⟨Z,by simp,?_⟩
   intro a ha b D
   simp at D;subst D
   obtain ⟨e,he,rfl⟩:=List.mem_map.1 ha;exact h4 e he
  .intro e
   injection e with s Y
   omega
  .refine ⟨_,_,rfl,?_,?_,?_⟩
   .rw[q4 rfl]
    simp only[Array.toList_modify,Array.toList_push];rw[<-Array.length_toList,Q0F]
    simp[h2]
   .have:((q.push {key:=S k,val:=z,born:=g}).modify q.size fun e=>{e with val:=u}).toList.map (·.born)=q.toList.map (·.born)++[g]:=by
     simp only[Array.toList_modify,Array.toList_push];rw[<-Array.length_toList,Q0F]
     simp
    rw[this,List.pairwise_append];refine ⟨Z,by simp,?_⟩
    intro a ha b D
    simp at D;subst D
    obtain ⟨e,he,rfl⟩:=List.mem_map.1 ha;exact h4 e he
   .intro e he
    simp only[Array.toList_modify,Array.toList_push] at he;rw[<-Array.length_toList,Q0F] at he
    rcases List.mem_append.1 he with he | he
    .have:=h4 e he;omega
    .simp at he;subst he;simp
  .intro w hw
   have hg:(getObj r).run P w= .ok (.map q g) w:=by simp[getObj,Sem.run,hw]
   have E: ∀o c,(setObj r (.map o c)).run P w= .ok () {w with heap:=w.heap.setIfInBounds r (.map o c)}:=by
    intro o c;simp[setObj,Sem.run,hw]
   refine ⟨z,?_⟩;simp only[Instr.mapEntry,Sem.run_bind,run_underlying tm.h,Result.andThen_ok,Instr.findKey,run_underlying X,q1,Qz X,hg,Sem.run_pure,hz,E];rfl
 | some p=>
  obtain ⟨j,v⟩:=p;obtain ⟨z1,z2,z3⟩:=q3 j v rfl;obtain ⟨e,s,Y⟩:=z2;simp only[Nat.sub_zero] at s z3;have Q:q[j]? =some e:=by rw[<-Array.getElem?_toList];exact s
  refine R q g j e v q1 Q Y Z (fun _=>rfl) ?_ fun hw=>⟨v,Nk X hw q1 Q Y⟩;refine ⟨_,_,rfl,?_,?_,?_⟩
  .have:=z3 u
   rw[<-this,Array.toList_modify]
   congr 1
   apply List.ext_getElem?;intro n;simp only[List.getElem?_modify]
   by_cases C:j=n
   .subst C;rw[s];simp[Y]
   .simp[C]
  .have:(q.modify j fun e=>{e with val:=u}).toList.map (·.born)=q.toList.map (·.born):=by
    apply List.ext_getElem?;intro n;simp only[Array.toList_modify,List.getElem?_map,List.getElem?_modify]
    by_cases C:j=n<;>cases q.toList[n]? <;>simp[C]
   rw[this];exact Z
  .intro x hx
   have:x.born∈(q.modify j fun e=>{e with val:=u}).toList.map (·.born):=List.mem_map.2 ⟨x,hx,rfl⟩
   have D:(q.modify j fun e=>{e with val:=u}).toList.map (·.born)=q.toList.map (·.born):=by
    apply List.ext_getElem?;intro n;simp only[Array.toList_modify,List.getElem?_map,List.getElem?_modify]
    by_cases C:j=n<;>cases q.toList[n]? <;>simp[C]
   rw[D] at this;obtain ⟨y,hy,e⟩:=List.mem_map.1 this;rw[<-e];exact h4 y hy
end Go.Emb
namespace Go.Hm
open Go.Kd Go.Emb
abbrev T0:=List (Q9×Q9)
def P3:T0->Q9->Option Q9
 | [],_=>none
 | p::r,k=>if p.1=k then some p.2 else P3 r k
def Iw:T0->Q9->Q9->T0
 | [],k,v=>[(k,v)]
 | p::r,k,v=>if p.1=k then (k,v)::r else p::Iw r k v
def vals (m:T0):List (List UInt8×Value):=m.map fun p=>(p.1,S p.2)
theorem X4a (m:T0) (k:Q9):P4 (vals m) k=(P3 m k).map S:=by
 induction m with
 | nil=>rfl
 | cons p r a=>
  simp only[vals,List.map_cons,P4,P3]
  split
  .rfl
  .exact a
theorem Q9H (m:T0) (k v:Q9):putS (vals m) k (S v)=vals (Iw m k v):=by
 induction m with
 | nil=>rfl
 | cons p r a=>
  simp only[vals,List.map_cons,putS,Iw]
  split
  .rfl
  .rw[List.map_cons];congr 1
theorem Q3l (m:T0) (k v n:Q9):P3 (Iw m k v) n=if k=n then some v else P3 m n:=by
 induction m with
 | nil=>simp[Iw,P3]
 | cons p r b=>
  simp only[Iw]
  by_cases h:p.1=k
  .rw[if_pos h]
   simp only[P3]
   by_cases a:k=n
   .simp[a]
   .rw[if_neg a,if_neg a,if_neg (by rw[h];exact a)]
  .rw[if_neg h]
   simp only[P3]
   by_cases a:p.1=n
   .rw[if_pos a,if_pos a,if_neg (by intro e;exact h (a.trans e.symm))]
   .rw[if_neg a,if_neg a];exact b
def Nl (d:Q9) (s:T0×T0) (m:Hm.Met):Bool×(T0×T0):=
 ((match P3 s.1 m.name with | some x=> !decide (x=Zv m) | none=>false),(Iw s.1 m.name (Zv m),Iw s.2 m.name d))
end Go.Hm
namespace Go.Emb
open Go.RowKit Go.Hm
theorem F5.of_below {w w':World} {r:Nat} {m:List (List UInt8×Value)} (h:F5 (w.heap[r]?) m) (e:Below w.heap.size w w'):F5 (w'.heap[r]?) m:=by
 obtain ⟨c,a,b,d⟩:=h;rw[e.block r (Array.getElem?_eq_some_iff.1 b).1];exact ⟨c,a,b,d⟩
theorem X4U {P:Program} {w:World} {K:Value->World->Prop} {t c b:TypeId} {sz a:Nat} {z:Value} [tm:TM P t c b] [tz:TZ P b sz a z] (d:P.underlying c=some .string) {r:Nat} {m:List (List UInt8×Value)} (f:F5 (w.heap[r]?) m) (k:List UInt8)
 (h:K (.tuple #[(P4 m k).getD z, .bool (P4 m k).isSome]) w):lookup P t (.map (some r)) (S k) true w K:=by
 rw[Q5o d f k];cases e:P4 m k<;>rw[e] at h<;>exact h
theorem F5.lt {w:World} {r:Nat} {m:List (List UInt8×Value)} (h:F5 (w.heap[r]?) m):r<w.heap.size:=by
 obtain ⟨c,a,b,d⟩:=h;exact (Array.getElem?_eq_some_iff.1 b).1
end Go.Emb
namespace Go.Proofs.Y
open Go.Emb Go.RowKit Go.Kd Go.Hm
variable {w : World} {K : Value -> World -> Prop} {σ : Q3}
theorem X9E {m:Hm.Met} {cs ds:List Value} {pa pb q:Addr} {b o:Nat} {s:T0×T0} {d:Q9} (hs:X3 w σ) (hm:F0 σ m cs) (ab:SmM m) (hn:NmM m) (Y:U0 σ pa [.map (some b)]) (aq:U0 σ pb [.map (some o)]) (hq:U0 σ q (S d::ds))
 (ar:σ b=none) (av:σ o=none) (X:b≠o) (p:F5 (w.heap[b]?) (vals s.1)) (y:F5 (w.heap[o]?) (vals s.2))
 (h: ∀w',Kpt (fun k=>k=b\/k=o) w w'->F5 (w'.heap[b]?) (vals (Nl d s m).2.1)->F5 (w'.heap[o]?) (vals (Nl d s m).2.2)->K (.bool (Nl d s m).1) w'):
 Q0 P F.aH [.agg cs.toArray, .pointer (some pa), .pointer (some q), .pointer (some pb)] w K:=Fg (by
 have W:=hm;obtain ⟨pv,cv,hv,rfl,g1,g2,g3,g4,g5,g6⟩:=hm;unfold Vg;simp only[Y5,X8,O7,Uk,M8];unfold X9 X5 X2;refine Z6 hs fun a w1 σ1 f U=>?_;have am:=p.lt;have an:=y.lt;have p:=p.of_below f.bel;have y:=y.of_below f.bel;have Z:σ1 b=none:=(f.old b am).trans ar;have J:σ1 o=none:=(f.old o an).trans av;refine Y3 f.sat (Y.up f) rfl ?_;rw[fa];refine ld f.sat U rfl ?_;refine X4U Y6 p m.name ?_
 have ao:(.tuple #[(P4 (vals s.1) m.name).getD (.string ⟨#[]⟩), .bool (P4 (vals s.1) m.name).isSome]:Value)= .tuple #[S ((P3 s.1 m.name).getD []), .bool (P3 s.1 m.name).isSome]:=by
  rw[X4a];cases P3 s.1 m.name<;>rfl
 rw[ao];refine Z2 (vs:=[_,_]) rfl ?_;refine Z2 (vs:=[_,_]) rfl ?_;obtain ⟨L,M,r,A,af,E⟩:=Y00 (P:=P) (t:=T.a0) Y6 p m.name (S (Zv m));have V:=p.lt
 refine Q0t (fun c i=>Kpt (fun k=>k=b) c i/\(i.heap[b]? =c.heap[b]? \/(c.heap[b]? =some L/\L≠r/\i.heap[b]? =some M)\/i.heap[b]? =some r))
  (fun c=>Kpt (fun k=>k=b) w1 c/\X3 c σ1/\(c.heap[b]? =some L\/c.heap[b]? =some M\/c.heap[b]? =some r))
  ⟨.of_below (Below.refl _ _).drew,f.sat.below (Below.refl _ _).drew, .inl af⟩ (fun c i g C=>⟨g.1.trans C.1,C.1.sat g.2.1 (fun k hk=>hk▸Z),by
   rcases C.2 with e | ⟨_,_,e⟩ | e
   .rw[e];exact g.2.2
   .exact .inr (.inl e)
   .exact .inr (.inr e)⟩) ?_
 refine X7 (.pointer (some (a.add 0))) (fun w g=>by rw[fa];exact ⟨⟨Kpt.refl, .inl rfl⟩,rfl⟩) ?_
 refine X7 (.pointer (some (a.add 0))) (fun w g=>by rw[fa];exact ⟨⟨Kpt.refl, .inl rfl⟩,rfl⟩) ?_
 refine X7 (.pointer (some (q.add 0))) (fun w g=>by rw[fa];exact ⟨⟨Kpt.refl, .inl rfl⟩,rfl⟩) ?_
 refine X7 (.map (some b)) (fun w g=>Y3 g.2.1 (Y.up f) rfl ⟨⟨Kpt.refl, .inl rfl⟩,rfl⟩) ?_;refine X7 (S m.name) (fun t w g e=>by rw[e];exact ld g.2.1 U rfl ⟨⟨Kpt.refl, .inl rfl⟩,rfl⟩) ?_
 refine X7 (.map (some o)) (fun w g=>Y3 g.2.1 (aq.up f) rfl ⟨⟨Kpt.refl, .inl rfl⟩,rfl⟩) ?_;refine X7 (S m.name) (fun t w g e=>by rw[e];exact ld g.2.1 U rfl ⟨⟨Kpt.refl, .inl rfl⟩,rfl⟩) ?_
 refine X7 (.agg [S m.name,pv,S m.result, .bool m.abs,I m.locals,cv,hv].toArray) (fun w g=>Y8 g.2.1 U rfl ⟨⟨Kpt.refl, .inl rfl⟩,rfl⟩) ?_
 refine X7 (S (Zv m)) (fun t c g e=>by
  rw[e];exact X3z g.2.1 (RMe_lift W ⟨f.le⟩) ab hn fun i σ3 z=>⟨⟨.of_below z.bel, .inl (z.bel.block b (Nat.lt_of_lt_of_le V g.1.size))⟩,rfl⟩) ?_
 refine X7 (S d) (fun t w g e=>by rw[e];exact ld g.2.1 (hq.up f) rfl ⟨⟨Kpt.refl, .inl rfl⟩,rfl⟩) ?_
 have st: ∀{c i:World},(c.heap[b]? =some M\/c.heap[b]? =some r)->(i.heap[b]? =c.heap[b]? \/(c.heap[b]? =some L/\L≠r/\i.heap[b]? =some M)\/i.heap[b]? =some r)->(i.heap[b]? =some M\/i.heap[b]? =some r):=by
  intro c i j h2
  rcases h2 with e | ⟨_,_,e⟩ | e
  .rw[e];exact j
  .exact .inl e
  .exact .inr e
 refine F3 (fun u c=>(∃x,u= .tuple #[x,I A])/\(c.heap[b]? =some M\/c.heap[b]? =some r)) (fun u c i j C=>⟨j.1,st j.2 C.2⟩) (fun ac aw c g e1 e2=>?_) ?_
 .rw[e1,e2]
  refine E.entry g.2.2 fun x i n aj ak=>?_
  by_cases Q:c.heap[b]? =some L
  .have j:=aj Q
   refine ⟨⟨Kpt.of_upd n rfl,?_⟩,⟨x,rfl⟩, .inl j⟩
   by_cases B:L=r
   .left;rw[j,Q,E.same B]
   .exact .inr (.inl ⟨Q,B,j⟩)
  .have j:=ak Q
   refine ⟨⟨Kpt.of_upd n rfl, .inl j⟩,⟨x,rfl⟩,?_⟩;rw[j];exact g.2.2.resolve_left Q
 refine F3 (fun u c=>u=I A/\(c.heap[b]? =some M\/c.heap[b]? =some r)) (fun u c i j C=>⟨j.1,st j.2 C.2⟩) (fun t c g e=>?_) ?_
 .obtain ⟨⟨x,rfl⟩,j⟩:=e
  exact Z2 (vs:=[_,_]) rfl ⟨⟨Kpt.refl, .inl rfl⟩,rfl,j⟩
 refine F3 (fun _ c=>c.heap[b]? =some r) (fun u c i j C=>?_) (fun ac ay ax c g e1 e2 e3=>?_) ?_
 .rcases C.2 with e | ⟨e,B,_⟩ | e
  .exact e.trans j
  .rw[j] at e;cases e;exact absurd rfl B
  .exact e
 .rw[e1,e3,e2.1]
  refine E.store e2.2 fun i n h3=>⟨⟨Kpt.of_upd n rfl, .inr (.inr h3)⟩,h3⟩
 rintro bb bd bg ac aw bc be bf ax bh bi ay bj c N _ _ _ _ _ rfl rfl _ _ rfl _ _ ag
 have ah:F5 (c.heap[b]?) (vals (Iw s.1 m.name (Zv m))):=by
  rw[ag,<-Q9H];exact E.put
 have ai:F5 (c.heap[o]?) (vals s.2):=by
  rw[N.1.block o y.lt fun e=>X e.symm];exact y
 refine Q0E Y6 ⟨J,ai⟩ m.name (S d) fun i n ap=>?_;have R:F5 (i.heap[o]?) (vals (Iw s.2 m.name d)):=by rw[<-Q9H];exact ap.2
 have H:F5 (i.heap[b]?) (vals (Iw s.1 m.name (Zv m))):=by rw[n.block b X];exact ah
 have z:Kpt (fun k=>k=b\/k=o) w i:=((Kpt.of_below f.bel).trans (N.1.mono fun k _ h=> .inl h)).trans (Kpt.of_upd n (.inr rfl));have aa:X3 i σ1:=(Kpt.of_upd (D:=fun k=>k=o) n rfl).sat N.2.1 fun k hk=>hk▸J;unfold Nl at h;cases ho:P3 s.1 m.name with
 | none=>
  rw[ho] at h;simp only[Option.isSome_none,↓M2,M2,Mb,reduceIte];exact h i z H R
 | some x=>
  rw[ho] at h;simp only[Option.isSome_some,Option.getD_some,↓M2,M2,Mb,reduceIte];refine Y8 aa U rfl ?_;refine X3z aa (RMe_lift W ⟨f.le⟩) ab hn fun w4 σ4 O=>?_;simp only[↓M2,M2,Mb,reduceIte];exact h w4 (z.trans (Kpt.of_below O.bel)) (H.of_below O.bel) (R.of_below O.bel))
end Go.Proofs.Y
namespace Go.Hm
open Go.Kd Go.Emb
def Ko (s:T0×T0) (c:Cla):Bool×(T0×T0):=((V4 (Nl c.name) s c.methods 0).1.isSome,(V4 (Nl c.name) s c.methods 0).2)
def Fw (a:List Hm.Met):Prop:= ∃x∈a,∃y∈a,x.name=y.name/\Zv x≠Zv y
theorem Q7Y (a:List Hm.Met):Hy a=true↔Fw a:=by
 simp[Hy,Fw]
structure Gd (pre : List Hm.Met) (s : T0 × T0) : Prop where
  a : ∀ m ∈ pre, P3 s.1 m.name = some (Zv m)
  b : ∀ k x, P3 s.1 k = some x -> ∃ m ∈ pre, m.name = k /\ Zv m = x
  c : ∀ k, (P3 s.2 k).isSome = true ↔ ∃ m ∈ pre, m.name = k
theorem Gd.no {b:List Hm.Met} {s:T0×T0} (h:Gd b s): ¬Fw b:=by
 rintro ⟨x,g,y,i,d,e⟩;have c:=h.a x g;have f:=h.a y i;rw[d,f] at c;exact e (Option.some.inj c).symm
theorem Gd.step {n:List Hm.Met} {s:T0×T0} (h:Gd n s) (d:Q9) (m:Hm.Met):((Nl d s m).1=true->Fw (n++[m]))/\((Nl d s m).1=false->Gd (n++[m]) (Nl d s m).2):=by
 unfold Nl;constructor
 .intro g
  cases o:P3 s.1 m.name with
  | none=>rw[o] at g;cases g
  | some x=>
   rw[o] at g;obtain ⟨y,hy,f,p⟩:=h.b _ _ o;exact ⟨y,by simp[hy],m,by simp,f,by rw[p];simpa using g⟩
 .intro g
  have i: ∀x,P3 s.1 m.name=some x->x=Zv m:=fun x j=>by rw[j] at g;simpa using g
  refine ⟨fun y hy=>?_,fun k x j=>?_,fun k=>?_⟩
  .simp only[Q3l]
   rcases List.mem_append.1 hy with hy | hy
   .have:=h.a y hy
    by_cases e:m.name=y.name
    .rw[if_pos e];congr 1;exact (i _ (by rw[e];exact this)).symm
    .rw[if_neg e];exact this
   .simp at hy;subst hy;simp
  .simp only[Q3l] at j
   by_cases e:m.name=k
   .rw[if_pos e] at j;cases j;exact ⟨m,by simp,e,rfl⟩
   .rw[if_neg e] at j
    obtain ⟨y,hy,f⟩:=h.b _ _ j;exact ⟨y,by simp[hy],f⟩
  .simp only[Q3l]
   by_cases e:m.name=k
   .rw[if_pos e];exact ⟨fun _=>⟨m,by simp,e⟩,fun _=>rfl⟩
   .rw[if_neg e,h.c k]
    constructor
    .rintro ⟨y,hy,f⟩;exact ⟨y,by simp[hy],f⟩
    .rintro ⟨y,hy,f⟩
     rcases List.mem_append.1 hy with hy | hy
     .exact ⟨y,hy,f⟩
     .simp at hy;subst hy;exact absurd f e
theorem Fw.mono {a b:List Hm.Met} (h:Fw a) (c: ∀x∈a,x∈b):Fw b:=by
 obtain ⟨x,d,y,f,e⟩:=h;exact ⟨x,c x d,y,c y f,e⟩
theorem Q6z (d:Q9): ∀(b a:List Hm.Met) (s:T0×T0) (i:Nat),Gd a s->((V4 (Nl d) s b i).1.isSome=true->Fw (a++b))/\((V4 (Nl d) s b i).1.isSome=false->Gd (a++b) (V4 (Nl d) s b i).2)
 | [],a,s,i,h=>by simpa [V4] using h
 | m::r,a,s,i,h=>by
  obtain ⟨g,j⟩:=h.step d m;simp only[V4];cases c:(Nl d s m).1 with
  | true=>
   simp only[if_true,Option.isSome_some];exact ⟨fun _=>(g c).mono fun x f=>by simp at f⊢;rcases f with h | h<;>simp[h],fun e=>by cases e⟩
  | false=>
   simp only[Bool.false_eq_true,if_false];have:=Q6z d r (a++[m]) (Nl d s m).2 (i+1) (j c);rw[show a++m::r=(a++[m])++r by simp]
   exact this
theorem Q6y: ∀(cs:List Cla) (a:List Hm.Met) (s:T0×T0) (i:Nat),Gd a s->((V4 Ko s cs i).1.isSome=true->Fw (a++cs.flatMap (·.methods)))/\((V4 Ko s cs i).1.isSome=false->Gd (a++cs.flatMap (·.methods)) (V4 Ko s cs i).2)
 | [],a,s,i,h=>by simpa [V4] using h
 | c::r,a,s,i,h=>by
  obtain ⟨d,f⟩:=Q6z c.name c.methods a s 0 h;simp only[V4];cases b:(Ko s c).1 with
  | true=>
   simp only[if_true,Option.isSome_some];exact ⟨fun _=>(d b).mono (by simp;intro x hx;rcases hx with hx | hx;exact .inl hx;exact .inr (.inl hx)),fun e=>by cases e⟩
  | false=>
   simp only[Bool.false_eq_true,if_false];have:=Q6y r (a++c.methods) (Ko s c).2 (i+1) (f b);rw[List.flatMap_cons,<-List.append_assoc];exact this
theorem X8v:Gd [] ([],[]):=⟨by simp,by simp[P3],by simp[P3]⟩
theorem X20 (l:List Cla) (n:Q9):Oz l n=(Ec l n).flatMap (·.methods):=by
 unfold Oz Ec
 induction Qk l n with
 | nil=>rfl
 | cons u r a=>
  rw[List.flatMap_cons,List.filterMap_cons];cases b:lk l u with
  | none=>simpa [b] using a
  | some c=>simp only[Option.map_some,Option.getD_some,List.flatMap_cons];rw[a]
end Go.Hm
namespace Go.Emb
open Go.RowKit Go.Hm
variable {P : Program} {w w1 w' : World} {K : Value -> World -> Prop} {σ σ' : Q3}
def It (σ:Q3) (w:World) (b r:Nat) (e:Array MapEntry) (a:Nat) (c:Array Nat):Prop:=σ b=none/\ ∃d,a<=d/\w.heap[b]? =some (.mapIter (some r) a c d)
theorem It.step {b r:Nat} {d:Array MapEntry} {a:Nat} {c:Array Nat} (h:It σ w b r d a c) (k:Stp w σ w' σ'):It σ' w' b r d a c:=by
 obtain ⟨i,g,j,e⟩:=h;have f:=(Array.getElem?_eq_some_iff.1 e).1;exact ⟨(k.old b f).trans i,g,j,(k.bel.block b f).trans e⟩
theorem X9S {t i e:TypeId} [tm:TM P t i e] {r:Nat} {c:Array MapEntry} {a:Nat} (d:X3 w σ) (g:w.heap[r]? =some (.map c a))
 (h: ∀b w' σ',w.heap.size<=b->Stp w σ w' σ'->It σ' w' b r c a #[]->K (.pointer (some ⟨b,0,none⟩)) w'):rng P t (.map (some r)) w K:=by
 unfold rng;have f:(getObj r).run P w= .ok (.map c a) w:=by simp[getObj,Sem.run,g]
 rw[Y4 (v:= .pointer (some ⟨w.heap.size,0,none⟩)) (w':=w.alloc (.mapIter (some r) a #[] a)) (by
  simp only[Instr.range,Sem.run_bind,run_underlying tm.h,Result.andThen_ok,f,Sem.run_pure]
  simp)]
 exact h _ _ _ (Nat.le_refl _) (Stp.own d _) ⟨d.none (Nat.le_refl _),a,Nat.le_refl _,heap_alloc_new w _⟩
theorem X9O {t:TypeId} {b r:Nat} {es:Array MapEntry} {clock:Nat} {seen:Array Nat} (hi:It σ w b r es clock seen) (hm:w.heap[r]? =some (.map es clock)) (hold: ∀x∈es.toList,x.born<clock)
 (h0:(∀e∈es.toList,e.born∈seen)->K (.tuple #[.bool false]) w)
 (h1: ∀e w',e∈es.toList->e.born∉seen->Kpt (fun k=>k=b) w w'->It σ w' b r es clock (seen.push e.born)->w'.heap[b]? =some (.mapIter (some r) clock (seen.push e.born) clock)->K (.tuple #[.bool true,e.key,e.val]) w'):W7 P (.pointer (some ⟨b,0,none⟩)) false t w K:=by
 obtain ⟨hb,c0,hc,hh⟩:=hi;unfold W7
 rcases run_next_at (P:=P) w t b r clock c0 seen es clock hh hm hold hc with ⟨hz,hrun⟩ | ⟨e,he,w1,hw1,hrun⟩
 .rw[Y4 hrun]
  refine h0 fun e he=>Classical.byContradiction fun hn=>?_
  have:e∈(leftOf es seen).toList:=by
   unfold leftOf;simp only[Array.toList_filter,List.mem_filter];exact ⟨he,by simpa using hn⟩
  have hl:(leftOf es seen).toList.length=0:=by simpa using hz
  rw[List.eq_nil_of_length_eq_zero hl] at this;cases this
 .rw[Y4 hrun]
  have he':e∈es.toList/\e.born∉seen:=by
   unfold leftOf at he;simp only[Array.toList_filter,List.mem_filter] at he;exact ⟨he.1,by simpa using he.2⟩
  have hh1:w1.heap[b]? =some (.mapIter (some r) clock seen c0):=by rcases hw1 with rfl | rfl<;>exact hh
  obtain ⟨u1,u2⟩:=Q7m (w:=w1) (o:= .mapIter (some r) clock (seen.push e.born) clock) hh1;refine h1 e _ he'.1 he'.2 ?_ ⟨hb,clock,Nat.le_refl _,u2⟩ u2
  have k1:Kpt (fun k=>k=b) w w1:=by
   rcases hw1 with rfl | rfl
   .exact Kpt.refl
   .exact .of_below (Below.refl _ _).drew
  exact k1.trans (Kpt.of_upd u1 rfl)
theorem X8T {b r:Nat} {d:Array MapEntry} {a:Nat} {c:Array Nat} {e:MapEntry} (hh:w.heap[b]? =some (.mapIter (some r) a (c.push e.born) a)) (g:w.heap[r]? =some (.map d a)) (f:e∈d.toList) (i:(d.toList.map (·.born)).Nodup)
 (h:K (.tuple #[e.key,e.val]) w):X2l P (.pointer (some ⟨b,0,none⟩)) w K:=by
 unfold X2l;rw[Y4 (run_entry_at w b r a c d a e hh g f i)];exact h
end Go.Emb
namespace Go.Proofs.Y
open Go.Emb Go.RowKit Go.Kd Go.Hm
variable {w : World} {K : Value -> World -> Prop} {σ : Q3} {v : Value} {l : List Cla}
theorem Ye (o:Option Nat):decide ((0:Int)<=D2 o)=o.isSome:=by
 cases o with
 | none=>rfl
 | some i=>simp[D2]
theorem Q6R {q:Addr} {s:Q9} (c:X3 w σ) (g:Tab σ v l) (f:U0 σ q [v]) (d:s.length<=V5) (h: ∀w' σ',Stp w σ w' σ'->K (.bool (C3 l s)) w'):J0 P (.func (.func F.an) #[] #[.pointer (some q)]) [S s] w K:=J6 (Iy (by
 unfold Lc X5 U6;unfold C3 at h;refine Vd ?_
 by_cases a:s=G3
 .have e:decide (s=[110,117,108,108])=true:=decide_eq_true a
  simp only[e,decide_eq_true a,↓M2,M2,Mb,reduceIte] at h⊢;exact h _ _ (Stp.refl c)
 .have e:decide (s=[110,117,108,108])=false:=decide_eq_false a
  simp only[e,decide_eq_false a,↓M2,M2,Mb,reduceIte] at h⊢;refine Y3 c f rfl ?_;refine Q5H c g d fun w1 σ1 b=>?_
  (try simp only[↓M2,M2,Mb,reduceIte])
  exact h _ _ b))
theorem X2a {q p:Addr} {s:Q9} (b:X3 w σ) (f:Tab σ v l) (e:U0 σ q [v]) (d:U0 σ p [.func (.func F.an) #[] #[.pointer (some q)]]) (c:s.length<=V5) (h: ∀w' σ',Stp w σ w' σ'->K (.bool (!C3 l s)) w'):J0 P (.func (.func F.ao) #[] #[.pointer (some p)]) [S s] w K:=J6 (Iz (by
 unfold Ld;refine Y3 b d rfl ?_;refine Q6R b f e c fun w1 σ1 a=>?_;refine Mq ?_;exact h _ _ a))
theorem X1a {c:Cla} {cs:List Value} {pa H:Addr} {b e:Nat} {s:T0×T0} (W:X3 w σ) (Q:M3 σ c cs) (B:Yi c) (U:Nm c) (u:U0 σ pa [.map (some b)]) (y:U0 σ H [.map (some e)])
 (z:σ b=none) (A:σ e=none) (t:b≠e) (i:F5 (w.heap[b]?) (vals s.1)) (j:F5 (w.heap[e]?) (vals s.2))
 (h: ∀w',Kpt (fun k=>k=b\/k=e) w w'->F5 (w'.heap[b]?) (vals (Ko s c).2.1)/\F5 (w'.heap[e]?) (vals (Ko s c).2.2)->K (.bool (Ko s c).1) w'):
 J0 P (.func (.func F.b0) #[] #[.pointer (some pa), .pointer (some H)]) [.agg cs.toArray] w K:=J6 (Ka (by
 obtain ⟨lv,Y,mv,rfl,Z,g2,L,g4,g5⟩:=Q;unfold Lf X9;refine Z6 W fun q w1 σ1 a D=>?_;rw[fa];refine ld a.sat D rfl ?_;rw[Za];have p:=i.lt;have r:=j.lt;have n:σ1 b=none:=(a.old b p).trans z;have o:σ1 e=none:=(a.old e r).trans A
 refine Wk (Nl c.name) s (fun s w'=>X3 w' σ1/\F5 (w'.heap[b]?) (vals s.1)/\F5 (w'.heap[e]?) (vals s.2)) (fun k=>k=b\/k=e) (fun _ _ h=>h.1) ⟨a.sat,i.of_below a.bel,j.of_below a.bel⟩ (L.up a)
  (fun s x cs J K E f g V C O=>J6 ?_) fun J f g=>?_
 .refine X9E (s:=s) (d:=c.name) g.1 V (B.2.2.2 x E) (U.2.2 x E) (u.up a) (y.up a) D n o t g.2.1 g.2.2 fun X m M N=>?_
  exact O X (f.trans m) ⟨m.sat g.1 fun k R=>by rcases R with rfl | rfl<;>assumption,M,N⟩
 .exact h J ((Kpt.of_below a.bel).trans f) g.2))
end Go.Proofs.Y
namespace Go.Emb
open Go.RowKit Go.Hm
theorem Stp.nx {D:Nat->Prop} {w w1 f:World} {σ σ1 g:Q3} (a:Stp w σ w1 σ1) (c:Nxt D w1 σ1 f g) (hD: ∀k,D k->w.heap.size<=k):Stp w σ f g:=
 ⟨⟨c.kp.os.trans a.bel.os,c.kp.tape.trans a.bel.tape,c.kp.output.trans a.bel.output,Nat.le_trans a.bel.size c.kp.size,fun k d=>(c.kp.block k (Nat.lt_of_lt_of_le d a.bel.size) fun e=>by have:=hD k e;omega).trans (a.bel.block k d)⟩,
  c.sat,fun b o e=>c.le.le b o (a.le b o e),fun k d=>(c.old k (Nat.lt_of_lt_of_le d a.bel.size)).trans (a.old k d)⟩
end Go.Emb
namespace Go.Hm
open Go.Kd Go.Emb
theorem X7l {d:Array MapEntry} {m:T0} (h:d.toList.map (fun e=>(e.key,e.val))=(vals m).map (fun p=>(S p.1,p.2))):
 (∀e∈d.toList,∃k,e.key=S k/\(P3 m k).isSome=true)/\ ∀k,(P3 m k).isSome=true-> ∃e∈d.toList,e.key=S k:=by
 have c: ∀(m:T0) k,(P3 m k).isSome=true↔k∈m.map (·.1):=by
  intro m
  induction m with
  | nil=>intro k;simp[P3]
  | cons p r n=>
   intro k;simp only[P3,List.map_cons,List.mem_cons]
   by_cases e:p.1=k
   .simp[e]
   .rw[if_neg e,n k]
    constructor
    .exact .inr
    .rintro (h | h)
     .exact absurd h.symm e
     .exact h
 constructor
 .intro e f
  have b:(e.key,e.val)∈d.toList.map (fun e=>(e.key,e.val)):=List.mem_map.2 ⟨e,f,rfl⟩;rw[h] at b;obtain ⟨p,j,a⟩:=List.mem_map.1 b;obtain ⟨q,g,rfl⟩:=List.mem_map.1 j;simp only[Prod.mk.injEq] at a;exact ⟨q.1,a.1.symm,(c m _).2 (List.mem_map.2 ⟨q,g,rfl⟩)⟩
 .intro k i
  obtain ⟨q,g,rfl⟩:=List.mem_map.1 ((c m k).1 i);have b:(S q.1,S q.2)∈(vals m).map (fun p=>(S p.1,p.2)):=List.mem_map.2 ⟨(q.1,S q.2),List.mem_map.2 ⟨q,g,rfl⟩,rfl⟩;rw[<-h] at b;obtain ⟨e,f,a⟩:=List.mem_map.1 b;simp only[Prod.mk.injEq] at a;exact ⟨e,f,a.1⟩
def Cs (l:List Cla) (m:Hm.Met):Bool:=(!C3 l m.result&& !decide (m.result=[]))||m.params.any fun s=> !C3 l s
end Go.Hm
namespace Go.Proofs.Y
open Go.Emb Go.RowKit Go.Kd Go.Hm
variable {w : World} {K : Value -> World -> Prop} {σ : Q3} {v : Value} {l : List Cla}
set_option maxRecDepth 9999 in
set_option maxHeartbeats 1000000 in
theorem X3D {c:Cla} {cs:List Value} (hs:X3 w σ) (ht:Tab σ v l) (ok:Ok l) (hc:M3 σ c cs) (fi:Yi c) (hn:Nm c) (h: ∀w' W,Stp w σ w' W->K (I (N1 l c)) w'):Q0 P F.bb [v, .agg cs.toArray] w K:=Tm (by
 obtain ⟨lv,fv,mv,rfl,g1,g2,g3,g4,g5⟩:=hc;unfold Nw;simp only[M0,M8];unfold Z8 X9 J5 V1 X6 X1 U6 X2;obtain ⟨a,_,_,_,hv,_⟩:=ht.ex;unfold N1 at h;refine W6 hs (by rw[hv];rfl) fun q2 w1 σ1 a4 y=>?_
 refine Z6 a4.sat fun q3 w2 σ2 aq A=>?_;have dz:=a4.trans aq;have y:=y.up aq;have g1:=(g1.up a4).up aq;have g2:=(g2.up a4).up aq;have g3:=(g3.up a4).up aq;have a6:=g2.max;have cd:=g3.max;rw[fa];refine ld aq.sat A rfl ?_;refine Q6 g2 ?_;refine V3 c.fields.length (fun n w'=> ∃W,Stp w σ w' W/\SLe σ2 W/\((c.fields.take n).any fun f=>(Ra l c.super f.name).isSome)=false) ⟨σ2,dz,SLe.refl _,by simp⟩ fun n w3 d a7 ag=>?_
 obtain ⟨σ3,ay,cg,H⟩:=ag;refine Z4 ?_;refine Q4 (fun hh=>?_) (fun hh=>?_)
 .have g:n<c.fields.length:=by simpa using hh
  refine Q68 (g2.lift cg) g fun p ar Z=>?_;refine Y8 ay.sat ar rfl ?_;refine Z5 ay.sat (by rfl) rfl (Rep.one Z) fun q4 w4 σ4 V ec=>?_
  have aa:SLe σ2 σ4:=cg.more ⟨V.le⟩;have az:=ay.trans V;refine Y3 V.sat (y.lift aa) rfl ?_;rw[fa];refine ld V.sat (A.lift aa) rfl ?_;rw[fa];refine ld V.sat ec rfl ?_;refine X6L V.sat (ht.lift ⟨az.le⟩) ok.acy ok.len ok.sm fun w5 σ5 cb=>?_;refine Xg ?_;rw[Ye];refine Q4 (fun al=>?_) (fun al=>?_)
  .have:Uq l c=true:=K4 g al
   rw[if_pos this] at h;exact h _ _ (az.trans cb)
  .refine C4 ?_
   refine Z0 a6 g ⟨σ5,az.trans cb,aa.more ⟨cb.le⟩,?_⟩;rw[D9 g,H,al];rfl
 have g: ¬n<c.fields.length:=by simpa using hh
 rw[C9 g] at H;have d9:Uq l c=false:=H;rw[if_neg (by rw[d9];simp)] at h
 rw[Za];clear H hh g a7;refine V8 ay.sat (by rfl) rfl rfl fun q7 w4 σ4 V a9=>?_
 have aa:SLe σ2 σ4:=cg.more ⟨V.le⟩;have az:=ay.trans V;have y:=y.lift aa;have A:=A.lift aa;have g1:=g1.lift aa;have g2:=g2.lift aa;have g3:=g3.lift aa;rw[fa];refine ld V.sat A rfl ?_;refine Q6 g2 ?_;refine V3 c.fields.length (fun n w'=> ∃W,Stp w σ w' W/\SLe σ4 W/\((c.fields.take n).any fun f=> !C3 l f.kind)=false) ⟨σ4,az,SLe.refl _,by simp⟩ fun n w5 d a7 ag=>?_
 obtain ⟨σ5,a0,av,H⟩:=ag;refine Z4 ?_;refine Q4 (fun hh=>?_) (fun hh=>?_)
 .have g:n<c.fields.length:=by simpa using hh
  refine Q68 (g2.lift av) g fun p ar Z=>?_;refine Y8 a0.sat ar rfl ?_;refine Z5 a0.sat (by rfl) rfl (Rep.one Z) fun q9 w6 σ6 a5 ed=>?_
  have aj:SLe σ4 σ6:=av.more ⟨a5.le⟩;have Q:=a0.trans a5;refine Y3 a5.sat (a9.lift aj) rfl ?_;rw[fa];refine ld a5.sat ed rfl ?_;refine Q6R a5.sat (ht.lift ⟨Q.le⟩) (y.lift aj) Z.2.2 fun w7 σ7 E=>?_;refine Mq ?_;refine Q4 (fun al=>?_) (fun al=>?_)
  .have:T3 l c=true:=by
    unfold T3;rw[K4 (p:=fun f:Fld=> !C3 l f.kind) g al];rfl
   rw[if_pos this] at h;exact h _ _ (Q.trans E)
  .refine C4 ?_
   refine Z0 a6 g ⟨σ7,Q.trans E,aj.more ⟨E.le⟩,?_⟩;rw[D9 g,H,al];rfl
 have g: ¬n<c.fields.length:=by simpa using hh
 rw[C9 g] at H;have d6:=H;clear H hh g a7;have y:=y.lift av;have A:=A.lift av;have a9:=a9.lift av;have g3:=g3.lift av;rw[fa];refine ld a0.sat A rfl ?_;refine Q6 g3 ?_;refine V3 c.methods.length (fun n w'=> ∃W,Stp w σ w' W/\SLe σ5 W/\((c.methods.take n).any (Cs l))=false) ⟨σ5,a0,SLe.refl _,by simp⟩ fun n w6 d a7 ag=>?_
 obtain ⟨σ6,Q,aj,H⟩:=ag;refine Z4 ?_;refine Q4 (fun hh=>?_) (fun hh=>?_)
 .have g:n<c.methods.length:=by simpa using hh
  refine E4 (g3.lift aj) g fun p cells ar c4 Z=>?_;refine Y8 Q.sat ar c4 ?_;refine Z5 Q.sat (by rfl) c4 (Rep.one Z) fun fm w7 σ7 E Y=>?_
  obtain ⟨pv,cv,fk,rfl,m1,m2,m3,m4,m5,m6⟩:=Z;have ch:SLe σ5 σ7:=aj.more ⟨E.le⟩;have cx:=Q.trans E
  have D:Cs l c.methods[n]=true-> ∀{w8:World} {σ8:Q3},Stp w σ w8 σ8->K (.int .i64 65) w8:=fun hb w8 σ8 q=>by
   have:T3 l c=true:=by
    unfold T3;have:=K4 (p:=Cs l) g hb;unfold Cs at this;rw[this,Bool.or_true]
   rw[if_pos this] at h;exact h _ _ q
  have z:Cs l c.methods[n]=false-> ∀{w8:World} {σ8:Q3},Stp w σ w8 σ8->SLe σ5 σ8->UpI c.methods.length (fun n w'=> ∃W,Stp w σ w' W/\SLe σ5 W/\((c.methods.take n).any (Cs l))=false) (.int .i64 (IntKind.i64.wrap (n+1))) w8/\UpM c.methods.length (.int .i64 (IntKind.i64.wrap (n+1)))<UpM c.methods.length (I n):=fun hb w8 σ8 q ab=>
   Z0 cd g ⟨σ8,q,ab,by rw[D9 g,H,hb];rfl⟩
  unfold Cs at D z;refine Y3 E.sat (a9.lift ch) rfl ?_;rw[fa];refine ld E.sat Y rfl ?_;refine Q6R E.sat (ht.lift ⟨cx.le⟩) (y.lift ch) m5 fun w8 σ8 M=>?_;have q:=cx.trans M;have ab:SLe σ5 σ8:=ch.more ⟨M.le⟩;have Y:=Y.up M;have m1:=(m1.up E).up M
  -- what the parameters come to
  have bx: ∀{w8:World} {σ8:Q3} {K:Value->World->Prop},Stp w σ w8 σ8->SLe σ5 σ8->Sl 1 L5 σ8 pv c.methods[n].params->(∀w' W,Stp w8 σ8 w' W->K (.bool (c.methods[n].params.any fun s=> !C3 l s)) w')->Q0 P F.c [pv, .func (.func F.ao) #[] #[.pointer (some q7)]] w8 K:=by
   intro w8 σ8 K q ab m1 hK;refine Xn (fun s=> !C3 l s) q.sat m1 (fun x w9 K _ eg hx dy=>X2a eg (ht.lift ⟨q.le⟩) (y.lift ab) (a9.lift ab) hx fun w' W hk=>dy w' hk.bel) fun w9 hb=>hK w9 σ8 (Stp.of_below q.sat hb)
  cases e1:C3 l c.methods[n].result with
  | true=>
   rw[e1] at D z;simp only[↓M2,M2,Mb,reduceIte];refine ld M.sat Y rfl ?_
   (try simp only[↓M2,M2,Mb,reduceIte])
   refine bx q ab m1 fun w9 σ9 J=>?_;cases e2:c.methods[n].params.any fun s=> !C3 l s with
   | true=>
    rw[e2] at D;simp only[↓M2,M2,Mb,reduceIte];exact D rfl (q.trans J)
   | false=>
    rw[e2] at z;simp only[↓M2,M2,Mb,reduceIte];exact z rfl (q.trans J) (ab.more ⟨J.le⟩)
  | false=>
   rw[e1] at D z;simp only[↓M2,M2,Mb,reduceIte];refine ld M.sat Y rfl ?_;simp only[↓M2,M2,Mb,reduceIte]
   by_cases e3:c.methods[n].result=[]
   .rw[decide_eq_true e3] at D z
    simp only[decide_eq_true e3,↓M2,M2,Mb,reduceIte];refine ld M.sat Y rfl ?_
    (try simp only[↓M2,M2,Mb,reduceIte])
    refine bx q ab m1 fun w9 σ9 J=>?_;cases e2:c.methods[n].params.any fun s=> !C3 l s with
    | true=>
     rw[e2] at D;simp only[↓M2,M2,Mb,reduceIte];exact D rfl (q.trans J)
    | false=>
     rw[e2] at z;simp only[↓M2,M2,Mb,reduceIte];exact z rfl (q.trans J) (ab.more ⟨J.le⟩)
   .rw[decide_eq_false e3] at D
    simp only[decide_eq_false e3,↓M2,M2,Mb,reduceIte];exact D rfl q
 have g: ¬n<c.methods.length:=by simpa using hh
 rw[C9 g] at H
 have ce:T3 l c=false:=by
  unfold T3;unfold Cs at H;rw[d6,H];rfl
 rw[if_neg (by rw[ce];simp)] at h
 clear H hh g a7;have y:=y.lift aj;have A:=A.lift aj;refine Q6f Q.sat fun r1 w7 Z E t=>?_;refine Q6f E.sat fun N w8 ee M u=>?_;have ar:=t.lt;have t:=t.up M;have eb:r1≠N:=by omega
 have q:=(Q.trans E).trans M;have eu:w.heap.size<=r1:=Nat.le_trans Q.bel.size Z;have ew:w.heap.size<=N:=S9 ee (Q.trans E);refine D6 M.sat fun b1 w9 σ9 d1 J B=>?_;refine D6 J.sat fun b2 ei fy d2 ah C=>?_;have ep:=B.lt;have er:=t.lt;have et:=u.lt;have t:=(t.up J).up ah;have u:=(u.up J).up ah;have B:=B.up ah;have cr:=(q.trans J).trans ah;have bs:w.heap.size<=b1:=S9 d1 q;have bu:w.heap.size<=b2:=S9 d2 (q.trans J);refine st0 B (by simp[Value.cells]) rfl rfl fun dm ci B=>?_
 have ct:=ci.stp cr bs B.1;have C:=C.upd ci Q5;have dc:Kpt (fun k=>k=b1) ei dm:=Kpt.of_upd ci rfl;have t:=t.kp dc Q5;have u:=u.kp dc Q5;refine st0 C (by simp[Value.cells]) rfl rfl fun aw cj C=>?_
 have cu:=cj.stp ct bu C.1;have B:=B.upd cj Q5;have de:Kpt (fun k=>k=b2) dm aw:=Kpt.of_upd cj rfl;have t:=t.kp de Q5;have u:=u.kp de Q5;obtain ⟨ck,cw,a1,dh,am⟩:=B.keep cu bs;have C:Y9 ck aw b2 _:=⟨(am b2 Q5).trans C.1,C.2⟩;have t:P2 ck aw r1 []:=⟨(am r1 Q5).trans t.1,t.2⟩;have u:P2 ck aw N []:=⟨(am N Q5).trans u.1,u.2⟩;obtain ⟨be,ae,bi,b3,bc⟩:=C.keep cw bu;have t:P2 be aw r1 []:=⟨(bc r1 Q5).trans t.1,t.2⟩;have u:P2 be aw N []:=⟨(bc N Q5).trans u.1,u.2⟩;have a1:=a1.le b3;have a1:U0 be ⟨b1,0,none⟩ [.map (some r1)]:=a1;have bi:U0 be ⟨b2,0,none⟩ [.map (some N)]:=bi;have di:SLe σ6 be:=⟨fun b o e=>b3 b o (dh b o (ah.le b o (J.le b o (M.le b o (E.le b o e)))))⟩;clear B C;have y:=y.lift di;have A:=A.lift di;refine Y3 ae.sat y rfl ?_;rw[fa];refine ld ae.sat A rfl ?_;rw[Za]
 refine X1L Ko ([],[]) (fun s w'=>F5 (w'.heap[r1]?) (vals s.1)/\F5 (w'.heap[N]?) (vals s.2)) (fun k=>k=r1\/k=N) ae.sat (ht.lift ⟨ae.le⟩) ok.len ok.sm g4
  (fun k hk=>by rcases hk with rfl | rfl;exact ⟨t.lt,t.1⟩;exact ⟨u.lt,u.1⟩) (fun s wa wb hi hk=>by rw[hk r1 (.inl rfl),hk N (.inr rfl)];exact hi) ⟨t.2,u.2⟩
  (fun s d ds wa σa K le eh c7 hi hr d3 hK=>?_) fun fp cl ai bv=>?_
 .have c0:=(M5 d3).2.1
  exact X1a eh hr (ok.sm d c0) (ok.nm d c0) (a1.lift le) (bi.lift le) (c7 r1 (.inl rfl)) (c7 N (.inr rfl)) eb hi.1 hi.2 hK
 have O:=ae.nx ai fun k hk=>by rcases hk with rfl | rfl<;>assumption
 obtain ⟨dj,dl⟩:=Q6y (Ec l c.name) [] ([],[]) 0 X8v;rw[List.nil_append,<-X20] at dj dl;cases c8:(V4 Ko ([],[]) (Ec l c.name) 0).1.isSome with
 | true=>
  have:Vs l c=true:=(Q7Y _).2 (dj c8);rw[if_pos this] at h;refine J1 ?_;exact h _ _ O
 | false=>
  have bm:=dl c8
  have:Vs l c=false:=by
   cases e:Vs l c with
   | false=>rfl
   | true=>exact absurd ((Q7Y _).1 e) bm.no
  rw[if_neg (by rw[this];simp)] at h
  refine Z7 ?_;have y:=y.lift ai.le;have A:=A.lift ai.le;rw[fa];refine ld O.sat A rfl ?_;unfold Sy at h;cases cy:c.abs with
  | true=>
   rw[cy] at h;refine J1 ?_;exact h _ _ O
  | false=>
   rw[cy] at h;simp only[Bool.not_false,Bool.true_and] at h;refine Z7 ?_;refine Y3 O.sat (bi.lift ai.le) rfl ?_;generalize fj:(V4 Ko ([],[]) (Ec l c.name) 0).2=st at bm bv;obtain ⟨es,ak,e1,e2,e3,e4⟩:=bv.2;have db:cl N=none:=(ai.old N u.lt).trans u.1;obtain ⟨df,dg⟩:=X7l e2;refine X9S (tm:=inferInstance) O.sat e1 fun ib fq ek d4 ao d5=>?_;have b0:=(Array.getElem?_eq_some_iff.1 e1).1
   refine Q0B (fun d _ w'=> ∃(W:Q3) (U:Array Nat),d=es.toList.countP (fun e=> !U.contains e.born)/\Stp w σ w' W/\SLe cl W/\W N=none/\w'.heap[N]? =some (.map es ak)/\It W w' ib N es ak U/\ ∀e∈es.toList,e.born∈U-> ∀k,e.key=S k->Vj l c.name k=false) _
    ⟨ek, #[],rfl,O.trans ao,⟨ao.le⟩,(ao.old N b0).trans db,(ao.bel.block N b0).trans e1,d5,by simp⟩ ?_
   rintro b4 d x dd fr ⟨dq,U,rfl,br,ap,c9,a2,a3,a8⟩ d0;have c3:w.heap.size<=ib:=Nat.le_trans O.bel.size d4;refine X9O a3 a2 e4 (fun cz=>?_) fun e dn bk ba bw b9 c2=>?_
   .refine Z2 (vs:=[_]) rfl ?_
    refine Z7 ?_
    have:((Oz l c.name).any fun m=>Vj l c.name m.name)=false:=by
     rw[List.any_eq_false];intro m hm;obtain ⟨e,he,bl⟩:=dg m.name ((bm.c m.name).2 ⟨m,hm,rfl⟩);rw[a8 e he (cz e he) _ bl];simp
    rw[this] at h;exact h _ _ br
   .refine Z2 (vs:=[_,_,_]) rfl ?_
    refine J1 ?_
    have an:dn.heap[N]? =some (.map es ak):=by
     rw[bw.block N (Array.getElem?_eq_some_iff.1 a2).1 Q5];exact a2
    have b8:=a3.1;have af:Stp w σ dn dq:=br.kp bw fun k hk=>by rw[hk];exact ⟨c3,b8⟩
    refine X8T c2 an bk (e3.imp fun cc=>Nat.ne_of_lt cc) ?_;refine Z2 (vs:=[_,_]) rfl ?_;obtain ⟨k,bl,d7⟩:=df e bk;have e6:SLe cl dq:=ap;refine Y3 af.sat (y.lift ap) rfl ?_;rw[fa];refine ld af.sat (A.lift ap) rfl ?_;rw[bl];refine X56 af.sat (ht.lift ⟨af.le⟩) ok fun pv cv hv fs fz L da=>?_;refine Z2 (vs:=[_,_,_]) rfl ?_;refine Z2 (vs:=[_,_,_]) rfl ?_;refine Z2 (vs:=[_,_,_]) rfl ?_;refine Z5 L.sat (by rfl) rfl (Rep.one da) fun fn ej el X bz=>?_
    have ax:=(af.trans L).trans X
    have R:Vj l c.name k=true-> ∀{w8:World} {σ8:Q3},Stp w σ w8 σ8->K (.int .i64 67) w8:=fun hb w8 σ8 q=>by
     obtain ⟨m,hm,ce⟩:=(bm.c k).1 d7;have:((Oz l c.name).any fun m=>Vj l c.name m.name)=true:=List.any_eq_true.2 ⟨m,hm,by rw[ce];exact hb⟩
     rw[this] at h;exact h _ _ q
    have b7:Vj l c.name k=false->b4 () ej:=fun hb=>by
     have c5: ∀e':MapEntry,e'.born∈U.push e.born↔e'.born∈U\/e'.born=e.born:=fun e'=>by simp
     refine d0 _ _ _ ?_ ⟨el,U.push e.born,rfl,ax,ap.more ⟨fun b o h=>X.le _ _ (L.le _ _ h)⟩,?_,?_,(b9.step L).step X,fun e' c1 ef k' ca=>?_⟩
     .refine Q7A (fun x _ hx=>?_) ⟨e,bk,?_,?_⟩
      .simp only[Bool.not_eq_true',Array.contains_push,Bool.or_eq_false_iff] at hx⊢
       exact hx.1
      .simpa using ba
      .simp
     .have bb:=(Array.getElem?_eq_some_iff.1 an).1
      rw[X.old N (Nat.lt_of_lt_of_le bb L.bel.size),L.old N bb];exact c9
     .have bb:=(Array.getElem?_eq_some_iff.1 an).1
      rw[X.bel.block N (Nat.lt_of_lt_of_le bb L.bel.size),L.bel.block N bb];exact an
     .rcases (c5 e').1 ef with h1 | h1
      .exact a8 e' c1 h1 k' ca
      .have:e'=e:=by
        have ea:(es.toList.map (·.born)).Nodup:=e3.imp fun cc=>Nat.ne_of_lt cc;obtain ⟨i,hi,rfl⟩:=List.getElem_of_mem c1;obtain ⟨j,hj,rfl⟩:=List.getElem_of_mem bk;have h5:(es.toList.map (·.born))[i]'(by simpa using hi)=(es.toList.map (·.born))[j]'(by simpa using hj):=by simpa using h1
        have:=(List.getElem_inj ea).1 h5;subst this;rfl
       subst this;rw[bl] at ca
       have:k=k':=by
        have:=ca
        simp at this
        exact this
       rw[<-this];exact hb
    unfold Vj at R b7;cases c6:M6 l c.name k with
    | none=>
     rw[c6] at R;simp only[↓M2,M2,Mb,reduceIte,Option.isSome_none];exact R rfl ax
    | some r=>
     rw[c6] at R b7 bz;simp only[↓M2,M2,Mb,reduceIte,Option.isSome_some];refine ld X.sat bz rfl ?_
     (try simp only[↓M2,M2,Mb,reduceIte])
     cases bn:r.2.abs with
     | true=>
      exact Q4 (fun _=>R bn ax) (fun e=>absurd (bn.symm.trans e) U8)
     | false=>
      exact Q4 (fun e=>absurd (bn.symm.trans e) U8) (fun _=>b7 bn))
end Go.Proofs.Y
namespace Go.Emb
open Go.RowKit Go.Hm
variable {P : Program} {w w' : World} {K : Value -> World -> Prop} {σ : Q3}
theorem X9J {t e:TypeId} {n a:Nat} {z:Value} [ta:TA P t n e] [tz:TZ P e 1 a z] [tg:TG P e false] {cs:List Value} {i:Nat} {v:Value} (d:i<n) (c:cs[i]? =some v) (h:K v w):K9 P t (.agg cs.toArray) (I i) w K:=by
 unfold K9;have b:(0:Int)<=i/\(i:Int)<n:=⟨by omega,by omega⟩
 rw[Y4 (v:=v) (w':=w) (by
  simp only[Instr.index,asIntOf,Sem.run_bind,Sem.run_pure,Result.andThen_ok,run_underlying ta.h,b,and_self,if_true,E1 tz,part,Ub tg]
  simp[c])]
 exact h
theorem X1Z {α:Type} {R:Q3->α->List Value->Prop} {B sz:Nat} {e:TypeId} {v:Value} {xs:List α} {a t:TypeId} {cs:List Bool} [ts:TS P a e] (h:W1 B e sz R σ w v xs) (b:K (I xs.length) w):U4 P .len [a] t cs [v] w K:=Cp (J8.of_acc h) b
theorem Wq {α:Type} {R:Q3->α->List Value->Prop} {B sz:Nat} {e:TypeId} {v:Value} {xs:List α} (h:W1 B e sz R σ w v xs):v.cells= #[v]/\v.oneCell'=true:=by
 obtain ⟨cells,c,_⟩:=h
 rcases c.2 with ⟨rfl,_⟩ | ⟨g,a,b,rfl,_⟩<;>exact ⟨rfl,rfl⟩
end Go.Emb
namespace Go.Proofs.Y
open Go.Emb Go.RowKit Go.Kd Go.Hm
variable {w : World} {K : Value -> World -> Prop} {σ : Q3} {v : Value}
theorem X6J (C:X3 w σ) (A:Glb σ) (h: ∀u w' σ',Stp w σ w' σ'->W1 w.heap.size T.c 8 M3 σ' w' u Xe->K u w'):Q0 P F.cY [] w K:=Q9P (by
 unfold Q31 X1;refine W5 (cells:= #[S W3,S [], .slice none 0 0, .bool false, .bool false, .bool false, .slice none 0 0, .slice none 0 0]) X4 ?_;refine W5 (cells:= #[S Wj,S B2, .bool false]) X4 ?_;refine B9 (R:=I8) (sz:=3) C [.agg #[S Wj,S B2, .bool false]] [⟨Wj,B2,false⟩] rfl rfl (by simp;rfl) rfl ⟨⟨rfl,by decide,by decide⟩,trivial⟩ fun H w1 σ1 e o=>?_
 have p:=o;obtain ⟨y,b,rfl,_⟩:=p;refine W5 (cells:= #[S C1,S W3, .slice none 0 0, .bool false, .bool false, .bool false, .slice y 1 b, .slice none 0 0]) X4 ?_
 refine Jk (R:=M3) (sz:=8) e [.agg #[S W3,S [], .slice none 0 0, .bool false, .bool false, .bool false, .slice none 0 0, .slice none 0 0], .agg #[S C1,S W3, .slice none 0 0, .bool false, .bool false, .bool false, .slice y 1 b, .slice none 0 0]]
  [⟨W3,[],[],false,false,false,[],[]⟩,⟨C1,W3,[],false,false,false,[⟨Wj,B2,false⟩],[]⟩] rfl rfl (by simp;exact ⟨rfl,rfl⟩) rfl
  ⟨⟨_,_,_,rfl,Sl.nil,Sl.nil,Sl.nil,by decide,by decide⟩,⟨_,_,_,rfl,Sl.nil,o,Sl.nil,by decide,by decide⟩,trivial⟩ fun J L k i _=>?_
 have t:=A.lift ⟨e.le⟩;refine Y8 (cs:=L7.map S) k.sat t.flt rfl ?_;refine H7 6 (fun n a w'=> ∃σ',Stp w σ w' σ'/\W1 w.heap.size T.c 8 M3 σ' w' a ([⟨W3,[],[],false,false,false,[],[]⟩,⟨C1,W3,[],false,false,false,[⟨Wj,B2,false⟩],[]⟩]++(L7.take n).map fun n=>⟨n,C1,[],false,false,true,[],[]⟩)) ⟨σ1,e.trans k,i⟩ fun n a M d E j=>?_;obtain ⟨O,g,c⟩:=j;have z:L7.length=6:=rfl;refine Z4 ?_;refine Q4 (fun hh=>?_) (fun hh=>?_)
 .have f:n<6:=by have:=of_decide_eq_true hh;omega
  refine X9J (v:=S (L7[n]'(by omega))) f (by rw[List.getElem?_map,List.getElem?_eq_getElem Q5];rfl) ?_
  refine W5 (cells:= #[S (L7[n]'(by omega)),S C1, .slice none 0 0, .bool false, .bool false, .bool true, .slice none 0 0, .slice none 0 0]) X4 ?_
  have m:(L7[n]'(by omega)).length<=10:=by
   have: ∀x∈L7,x.length<=10:=by decide
   exact this _ (List.getElem_mem _)
  refine Ud (x:=⟨L7[n]'(by omega),C1,[],false,false,true,[],[]⟩) g c ⟨_,_,_,rfl,Sl.nil,Sl.nil,Sl.nil,Nat.le_trans m L2,(by decide:C1.length<=V5)⟩ rfl rfl rfl (by simp;omega) (by simp;omega) fun s u N D B q r _=>?_
  refine C4 ?_;refine U5 Q5 f ⟨D,q,?_⟩;rw[List.take_add_one,List.getElem?_eq_getElem Q5,List.map_append,<-List.append_assoc];exact r
 .have f: ¬n<6:=by have:=of_decide_eq_false hh;omega
  rw[List.take_of_length_le Q5] at c;exact h _ _ _ g c)
end Go.Proofs.Y
namespace Go.Hm
open Go.Kd
def C6 {α:Type} (f:α->Int):List α->Nat->Option (Nat×Int)
 | [],_=>none
 | x::r,i=>if f x=0 then C6 f r (i+1) else some (i,f x)
theorem Xr {α:Type} {f:α->Int}: ∀{l:List α} {i:Nat},C6 f l i=none-> ∀x∈l,f x=0
 | [],_,_=>by simp
 | x::r,i,h=>by
  simp only[C6] at h
  split at h
  .rename_i a
   intro y hy
   rcases List.mem_cons.1 hy with rfl | hy
   .exact a
   .exact Xr h y hy
  .cases h
def Gy (a:List Cla):Option Nat:=(List.range a.length).find? fun i=>(J9 (a.take i) (Z3 a i)).isSome
def Q2 (l:List Cla):List Cla:=Xe++l
def Iq (a:Cla->Int) (l:List Cla):Option (Int×Int):=match C6 a l 0 with
 | some (i,e)=>some (i,e)
 | none=>match Gy (Q2 l) with
  | some i=>some ((i:Int)-8,60)
  | none=>match C6 (fun c=>(B1 (Q2 l) c:Int)) l 0 with
   | some (i,e)=>some (i,e)
   | none=>match l.findIdx? (Xt (Q2 l)) with
    | some i=>some (i,63)
    | none=>match (N2 (Q2 l) 8).find? fun j=> !decide (N1 (Q2 l) ((Q2 l).getD j Cla.zero)=0) with
     | some j=>some ((j:Int)-8,N1 (Q2 l) ((Q2 l).getD j Cla.zero))
     | none=>none
theorem Q5p {s:Q9} (h:name s=true):s.length<=32:=by
 cases s with
 | nil=>simp
 | cons c r=>simp only[name,Bool.and_eq_true,decide_eq_true_eq] at h;exact h.1.1
theorem X5i {s:Q9} (h:S1 s=true):s.length<=32:=Q5p (Lq (by rw[h,Bool.or_true]))
theorem X2A {s:Q9} (h:C7 s=true):s.length<=32:=by
 cases s with
 | nil=>simp
 | cons c r=>simp only[C7,Bool.and_eq_true] at h;exact Q5p h.1
theorem Q10 {a:List Cla} (h:Gy a=none):Ya a:=by
 unfold Gy at h;rw[List.find?_eq_none] at h;unfold Ya;rw[List.nodup_iff_pairwise_ne,List.pairwise_iff_getElem];intro i j g b k e;simp only[List.length_map] at g b;have:=h j (by simp;exact b)
 apply this;simp only[List.getElem_map] at e;cases f:J9 (a.take j) (Z3 a j) with
 | some _=>rfl
 | none=>
  have c:=List.findIdx?_eq_none_iff.1 f a[i] (List.mem_take_iff_getElem.2 ⟨i,by omega,rfl⟩)
  have d:Z3 a j=a[j].name:=by unfold Z3;rw[List.getD_eq_getElem?_getD,List.getElem?_eq_getElem b];rfl
  rw[d] at c
  simp[e] at c
theorem Dq: ∀c∈Xe,Yi c/\Nm c/\c.like=[]:=by
 have h: ∀c∈Xe,(c.like=[]/\c.methods=[]/\c.fields.length<=1/\c.name.length<=100/\ ∀f∈c.fields,f.name.length<=100/\f.kind.length<=100):=by decide
 intro c g;obtain ⟨b,a,i,d,e⟩:=h c g;refine ⟨⟨by rw[b];simp,by omega,by rw[a];simp,by rw[a];simp⟩,⟨d,e,by rw[a];simp⟩,b⟩
theorem X5t: ∀c∈Xe,(c.name=W3/\L6 c=[[]])\/(c.name=C1/\L6 c=[W3])\/(c.name∈L7/\L6 c=[C1]):=by decide
theorem Q8H {l:List Cla} (o:Ya (Q2 l)) (y: ∀c∈l,c.name≠[]) (w: ∀c∈l,Xt (Q2 l) c=false):Ue (Q2 l):=by
 have k:lk (Q2 l) []=none:=by
  cases h:lk (Q2 l) [] with
  | none=>rfl
  | some c=>
   obtain ⟨e,hm,_⟩:=M5 h
   rcases List.mem_append.1 hm with hm | hm
   .have: ∀c∈Xe,c.name≠[]:=by decide
    exact absurd e (this c hm)
   .exact absurd e (y c hm)
 have j:lk (Q2 l) W3=some ⟨W3,[],[],false,false,false,[],[]⟩:=o.lk (c:=⟨W3,[],[],false,false,false,[],[]⟩) (List.mem_append_left _ (by decide))
 have g:lk (Q2 l) C1=some ⟨C1,W3,[],false,false,false,[⟨Wj,B2,false⟩],[]⟩:=o.lk (c:=⟨C1,W3,[],false,false,false,[⟨Wj,B2,false⟩],[]⟩) (List.mem_append_left _ (by decide))
 have p: ∀b,¬Reach (lk (Q2 l)) [] b:=fun b h=>by obtain ⟨c,d⟩:=h.left;rw[k] at d;cases d
 have q: ∀b,Reach (lk (Q2 l)) W3 b->b=W3:=by
  intro b h;cases h with
  | refl=>rfl
  | step d f i=>
   rw[j] at d;cases d
   simp[L6] at f;subst f
   exact absurd i (p b)
 have z: ∀b,Reach (lk (Q2 l)) C1 b->b=C1\/b=W3:=by
  intro b h;cases h with
  | refl=>exact .inl rfl
  | step d f i=>
   rw[g] at d;cases d
   simp[L6] at f;subst f
   exact .inr (q b i)
 rintro a ⟨c,d,u,f,i⟩;obtain ⟨e,hm,_⟩:=M5 d
 rcases List.mem_append.1 hm with hm | hm
 .rcases X5t c hm with ⟨m,n⟩ | ⟨m,n⟩ | ⟨m,n⟩<;>rw[n] at f<;>simp at f<;>subst f
  .exact p _ i
  .have:=q _ i
   rw[<-e,m] at this;exact absurd this (by decide)
  .have s: ∀x∈L7,x≠C1/\x≠W3:=by decide
   obtain ⟨t,v⟩:=s _ m;rw[<-e] at i
   rcases z _ i with h | h
   .exact t h
   .exact v h
 .have:=w c hm
  unfold Xt at this;have r:=List.any_eq_false.1 this u f;apply r;rw[List.contains_iff_mem,Ml,e];exact i
end Go.Hm
namespace Go.Proofs.Y
open Go.Emb Go.RowKit Go.Kd Go.Hm
theorem Q08 {s:Q9} (h:right s=true):s.length<=38:=by
 simp only[right,Bool.and_eq_true,decide_eq_true_eq] at h;have e:=Q3Z s
 have:(base s).1.length<=32:=by
  have d:=h.2;have b:=Lq d;cases a:(base s).1 with
  | nil=>simp
  | cons c r=>
   rw[a] at b;simp only[name,Bool.and_eq_true,decide_eq_true_eq] at b;exact b.1.1
 omega
theorem Tb {c:Cla} (h:B3 c=0):Yi c/\Nm c/\c.name≠[]:=by
 unfold B3 at h
 split at h
 .cases h
 .rename_i b
  split at h
  .rename_i j
   simp only[Vv,Bool.or_eq_true,decide_eq_true_eq,not_or,List.any_eq_true,not_exists,not_and] at b;obtain ⟨⟨⟨k,s⟩,t⟩,u⟩:=b;simp only[By,Bool.and_eq_true] at j;obtain ⟨⟨⟨⟨⟨⟨⟨⟨o,v⟩,w⟩,y⟩,z⟩,A⟩,B⟩,q⟩,r⟩:=j;have a:S1 c.name=true:=List.all_eq_true.1 o c.name U8
   have d: ∀m∈c.methods,m.params.length<=32/\m.catches.length<=32/\m.code.length<=200:=fun m b=>by
    have:=k m b;simp only[Om,Bool.or_eq_true,decide_eq_true_eq,not_or] at this;omega
   refine ⟨⟨by omega,by omega,by omega,fun m b=>by have:=d m b;unfold SmM;omega⟩,⟨by have:=X5i a;omega,fun f l=>?_,fun m b=>?_⟩,fun e=>by rw[e] at a;simp[S1] at a⟩
   .have:=List.all_eq_true.1 q f l
    simp only[Gz,Bool.and_eq_true] at this;have g:=X2A this.1;have i:=Q08 this.2;omega
   .have:=List.all_eq_true.1 r m b
    simp only[Xp,Bool.and_eq_true,Bool.or_eq_true,decide_eq_true_eq,List.all_eq_true] at this;obtain ⟨⟨⟨_,g⟩,i⟩,_⟩:=this;refine ⟨?_,fun p n=>by have:=Q08 (g p n);omega⟩
    rcases i with e | e
    .rw[e];simp
    .have:=Q08 e;omega
  .cases h
end Go.Proofs.Y
namespace Go.Hm
open Go.Kd
theorem Oj {α:Type} {f:α->Int} {xs:List α} {n:Nat} (h:n<xs.length) (a:C6 f xs 0=C6 f (xs.drop n) n):C6 f xs 0=if f xs[n]=0 then C6 f (xs.drop (n+1)) (n+1) else some (n,f xs[n]):=by
 rw[a,List.drop_eq_getElem_cons h];rfl
theorem X2n {a:List Cla} {n:Nat} (h:n<a.length) (k:Q9):J9 (a.take (n+1)) k=match J9 (a.take n) k with
 | some i=>some i
 | none=>if a[n].name=k then some n else none:=by
 unfold J9;rw[List.take_add_one,List.getElem?_eq_getElem h];simp only[Option.toList_some,List.findIdx?_append];cases (a.take n).findIdx? fun c=>decide (c.name=k) with
 | some i=>rfl
 | none=>
  simp only[Option.none_or,List.findIdx?_cons,List.findIdx?_nil,List.length_take]
  by_cases e:a[n].name=k
  .simp[e];omega
  .simp[e]
end Go.Hm
namespace Go.Proofs.Y
open Go.Emb Go.RowKit Go.Kd Go.Hm
variable {w : World} {K : Value -> World -> Prop} {σ : Q3} {v : Value} {l : List Cla}
theorem Q0Z {a:List Cla} {n:Nat} (h:n<a.length):Z3 a n=a[n].name:=by unfold Z3;rw[List.getD_eq_getElem?_getD,List.getElem?_eq_getElem h];rfl
set_option maxRecDepth 9999 in
set_option maxHeartbeats 1000000 in
theorem X95 {lv:Value} (hs:X3 w σ) (hg:Glb σ) (hl:Sl 8 M3 σ lv l) (hlen:l.length<=1000) (hsm: ∀c∈l,Yi c)
 (h1: ∀i e w' σ',Iq B3 l=some (i,e)->Stp w σ w' σ'->K (.tuple #[.pointer none,I i,I e]) w')
 (h0: ∀v w' σ',Iq B3 l=none->Stp w σ w' σ'->Tab σ' v (Q2 l)->Ok (Q2 l)->Ya (Q2 l)->K (.tuple #[v,I 0,I 0]) w'):Q0 P F.d9 [lv] w K:=X2Q (by
 unfold Q5Z;simp only[Y5,X8,M0];unfold X9 J5 V1 X6 X1 X2;have hgl:Xe.length=8:=rfl;have hal:(Q2 l).length=8+l.length:=by simp[Q2,hgl]
 refine X6J hs hg fun x0 w1 σ1 hk1 ha1=>?_;refine Q6f hk1.sat fun r w2 hr hk2 hm2=>?_;have ha2:=ha1.up hk2;have hx0:x0.cells= #[x0]/\x0.oneCell'=true:=Wq ha1
 have hx0s: ∃a n c,x0= .slice a n c:=by
  obtain ⟨cells,q1,_⟩:=ha1
  rcases q1.2 with ⟨rfl,_⟩ | ⟨g,cap,cur,rfl,_⟩<;>exact ⟨_,_,_,rfl⟩
 have hx0r:x0.ownBlock≠some r:=fun e=>by have:=(ha1.mem r e).2.1;omega
 obtain ⟨a0,n0,c0,hx0e⟩:=hx0s;rw[hx0e];refine W5 (cells:= #[.slice a0 n0 c0, .map (some r)]) X4 ?_;rw[<-hx0e];refine Rf (cs:=[x0, .map (some r)]) hk2.sat fun bt w3 σ3 hbt hk3 hbm=>?_;have hS3:=(hk1.trans hk2).trans hk3;have ha3:=ha2.up hk3;have hm3:=hm2.up hk3;have hrw:w.heap.size<=r:=Nat.le_trans hk1.bel.size hr;have hrl:r<w2.heap.size:=hm2.lt;have hbtw:w.heap.size<=bt:=S9 hbt (hk1.trans hk2);have hrbt:r≠bt:=by omega
 have hx0b:x0.ownBlock≠some bt:=fun e=>by have:=(ha2.mem bt e).2.1;omega
 rw[H2,fa];refine Yv hbm rfl ?_;refine X1Z ha3 ?_;rw[hgl];have hl3:=hl.up hS3;refine Q6 hl3 ?_
 -- classes, each by itself
 refine V3 l.length (fun n w'=> ∃σ' x,Stp w σ w' σ'/\SLe σ3 σ'/\Y9 σ' w' bt [x, .map (some r)]/\W1 w.heap.size T.c 8 M3 σ' w' x (Xe++l.take n)/\P2 σ' w' r []/\x.ownBlock≠some bt/\x.ownBlock≠some r/\C6 B3 l 0=C6 B3 (l.drop n) n)
  ⟨σ3,x0,hS3,SLe.refl _,hbm,by simpa using ha3,hm3,hx0b,hx0r,rfl⟩ fun n w4 d hn hinv=>?_
 obtain ⟨σ4,x,hS4,le4,hb4,ha4,hm4,hxb,hxr,hfb⟩:=hinv;refine Z4 ?_;refine Q4 (fun hh=>?_) (fun hh=>?_)
 .have hn':n<l.length:=by simpa using hh
  refine E4 (hl3.lift le4) hn' fun p cells hl1 hl2 hr1=>?_;refine Y8 hS4.sat hl1 hl2 ?_;refine Z5 hS4.sat (by rfl) hl2 (Rep.one hr1) fun q w5 σ5 hk5 hq5=>?_
  have hS5:=hS4.trans hk5;have hr5:=RCl_lift hr1 ⟨hk5.le⟩;refine Y8 hk5.sat hq5 hl2 ?_;have hsmn:=hsm _ (List.getElem_mem hn');refine X6H hk5.sat (hg.lift ⟨hS5.le⟩) hr5 hsmn.1 fun w6 σ6 hk6=>?_;have hS6:=hS5.trans hk6;have hfb2:=Oj hn' hfb;refine Oo ?_;refine Q4 (fun hh2=>?_) (fun hh2=>?_)
  .have hne: ¬B3 l[n]=0:=by simpa using hh2
   rw[if_neg hne] at hfb2;refine h1 _ _ _ _ ?_ hS6;unfold Iq;rw[hfb2]
  .have hz:B3 l[n]=0:=by simpa using hh2
   rw[if_pos hz] at hfb2;have hk56:=hk5.trans hk6;have hb6:=hb4.up hk56;have ha6:=ha4.up hk56;have hm6:=hm4.up hk56;have hq6:=hq5.up hk6;have hr6:=RCl_lift hr5 ⟨hk6.le⟩;have hxs: ∀k,x.ownBlock=some k->k<w6.heap.size:=fun k hk=>(ha6.mem k hk).2.1;refine W2 hk6.sat ?_;refine X7 (.pointer (some ⟨bt,0,none⟩)) (fun w hb=>by rw[H2];exact Y2 rfl) ?_
   refine X7 (.pointer (some ((⟨bt,0,none⟩:Addr).add 0))) (fun t w hb e=>by rw[e,fa];exact Y2 rfl) ?_
   refine X7 x (fun t w hb e=>by rw[e];exact Yv (hb6.step hb.stp) rfl (Y2 rfl)) ?_
   refine X7 (.agg cells.toArray) (fun w hb=>Y8 hb.sat hq6 hl2 (Y2 rfl)) ?_
   refine Un (Φ:=fun σ' v=> ∃ds:List Value,v= .agg ds.toArray/\ds.length=8/\M3 σ' l[n] ds) (fun t w hb e=>by
    rw[e];exact X5c hb.sat hr6 hsmn fun lv fv mv w' σ' hk hrc=>Ss hb hk ⟨_,rfl,rfl,hrc⟩) ?_
   refine Un (w:=w6) (σ:=σ6) (Φ:=fun σ' v=>Sl 8 M3 σ' v [l[n]]) (fun t w hb e=>by
    obtain ⟨σ',hk,ds,rfl,hd1,hd2⟩:=e;refine B9 (R:=M3) (sz:=8) hk.sat [.agg ds.toArray] [l[n]] rfl rfl (by simpa [Value.cells] using hd1) rfl ⟨by simpa [Value.cells] using hd2,trivial⟩ fun u w2 σ2 hk2 hu=>?_
    exact ⟨hk2.bel,σ2,hk.trans hk2,hu⟩) ?_
   rintro t43 t44 t45 t46 t47 t48 w7 hb7 _ _ e45 _ _ ⟨σ8,hk8,hu8⟩;subst e45;have hS8:=hS6.trans hk8;have hb8:=hb6.up hk8;have ha8:=ha6.up hk8;have hm8:=hm6.up hk8;have hbl:=hb6.lt;have hml:=hm6.lt;refine Mo hS8 ha8 hu8 rfl (by simp[hgl];omega) (by simp[hgl];omega) fun x' w9 hn9 hS9 ha9 hat9=>?_
   have hb9:=hb8.nx hn9 hxb;have hm9:=hm8.nx hn9 hxr
   have hxb':x'.ownBlock≠some bt:=fun e=>by
    rcases hat9 with e2 | e2
    .exact hxb (e2▸e)
    .have:=e2 bt e;have:=hk8.bel.size;omega
   have hxr':x'.ownBlock≠some r:=fun e=>by
    rcases hat9 with e2 | e2
    .exact hxr (e2▸e)
    .have:=e2 r e;have:=hk8.bel.size;omega
   obtain ⟨hxc1,hxc2⟩:=Wq ha9;rw[H2,fa];refine Vn hb9 U8 hxc1 hxc2 fun w10 u10 hb10=>?_;have hS10:=u10.stp hS9 hbtw hb9.1;have k10:Kpt (fun k=>k=bt) w9 w10:=Kpt.of_upd u10 rfl;refine C4 ?_;refine Z0 hl3.max hn' ⟨σ8,x',hS10,le4.more ⟨fun b o e=>hk8.le _ _ (hk56.le _ _ e)⟩,hb10,?_,hm9.kp k10 hrbt,hxb',hxr',hfb2⟩;have:=ha9.kp k10 fun k hk e=>hxb' (e▸hk);rw[List.take_add_one,List.getElem?_eq_getElem hn',<-List.append_assoc];exact this
 have hn': ¬n<l.length:=by simpa using hh
 rw[List.take_of_length_le Q5] at ha4;rw[List.drop_eq_nil_of_le Q5] at hfb;have hfb:C6 B3 l 0=none:=hfb;have hck:=Xr hfb;have hcf: ∀c∈l,Yi c/\Nm c/\c.name≠[]:=fun c hc=>Tb (hck c hc)
 have hsmall: ∀c∈Q2 l,Yi c:=fun c hc=>by
  rcases List.mem_append.1 hc with hc | hc
  .exact (Dq c hc).1
  .exact (hcf c hc).1
 have hnmall: ∀c∈Q2 l,Nm c:=fun c hc=>by
  rcases List.mem_append.1 hc with hc | hc
  .exact (Dq c hc).2.1
  .exact (hcf c hc).2.1
 have hlenall:(Q2 l).length<=100000:=by omega
 unfold Iq at h1 h0;rw[hfb] at h1 h0;simp only at h1 h0
 -- from now on the classes stay
 obtain ⟨σ5,hS5,hv5,le5,old5⟩:=ha4.keep hS4;have hb5:Y9 σ5 w4 bt _:=⟨(old5 bt fun e=>hxb e.symm).trans hb4.1,hb4.2⟩;have hm5:P2 σ5 w4 r []:=⟨(old5 r fun e=>hxr e.symm).trans hm4.1,hm4.2⟩;obtain ⟨σ6,hS6,hb6,le6,old6⟩:=hb5.keep hS5 hbtw;have hm6:P2 σ6 w4 r []:=⟨(old6 r hrbt).trans hm5.1,hm5.2⟩;have hv6:Sl 8 M3 σ6 x (Q2 l):=hv5.le le6;clear hb5 hb4 ha4;rw[H2,fa];refine ld hS6.sat hb6 rfl ?_;refine Q6 hv6 ?_
 refine V3 (Q2 l).length (fun n w'=> ∃σ' m,Stp w σ w' σ'/\SLe σ6 σ'/\P2 σ' w' r m/\(∀k,P4 m k=(J9 ((Q2 l).take n) k).map (fun i:Nat=>I (i:Int)))/\ ∀j,j<n->(J9 ((Q2 l).take j) (Z3 (Q2 l) j)).isSome=false)
  ⟨σ6,[],hS6,SLe.refl _,hm6,by simp[P4,J9],by intro j hj;omega⟩ fun n w5 d hn2 hinv=>?_
 obtain ⟨σ7,m,hS7,le7,hm7,hlm,hnd⟩:=hinv;refine Z4 ?_;refine Q4 (fun hh2=>?_) (fun hh2=>?_)
 .have hn3:n<(Q2 l).length:=by simpa using hh2
  refine E4 (hv6.lift le7) hn3 fun p cells hl1 hl2 hr1=>?_;refine Y8 hS7.sat hl1 hl2 ?_;refine Z5 hS7.sat (by rfl) hl2 (Rep.one hr1) fun q w6 σ8 hk8 hq8=>?_
  obtain ⟨lv',fv,mv,rfl,f1,f2,f3,f4,f5⟩:=hr1;have hS8:=hS7.trans hk8;have le8:SLe σ6 σ8:=le7.more ⟨hk8.le⟩;have hm8:=hm7.up hk8;have hb8:=hb6.lift le8;rw[fa];refine ld hk8.sat hq8 rfl ?_;refine Bv ?_;unfold La;simp only[M8];unfold X9;rw[H2,fa];refine ld hk8.sat hb8 rfl ?_;refine X4U Y6 hm8.2 _ ?_;refine Z2 (vs:=[_,_]) rfl ?_;refine Z2 (vs:=[_,_]) rfl ?_;have hna:=Q0Z hn3;have hfd:=hlm (Q2 l)[n].name;cases hfc:J9 ((Q2 l).take n) (Q2 l)[n].name with
  | some i=>
   rw[hfc] at hfd;rw[hfd];refine J1 ?_
   have hdup:Gy (Q2 l)=some n:=by
    unfold Gy;rw[List.find?_range_eq_some];refine ⟨by rw[hna,hfc];rfl,by simpa using hn3,fun j hj=>by rw[hnd j hj];rfl⟩
   refine Zb ⟨by omega,by omega⟩ ?_
   refine h1 _ _ _ _ ?_ hS8;rw[hdup];rfl
  | none=>
   rw[hfc] at hfd;rw[hfd];refine Z7 ?_;refine W2 hk8.sat ?_;refine X7 (.pointer (some ⟨bt,0,none⟩)) (fun w hb=>by rw[H2];exact Y2 rfl) ?_
   refine X7 (.pointer (some ((⟨bt,0,none⟩:Addr).add 1))) (fun t w hb e=>by rw[e,fa];exact Y2 rfl) ?_
   refine X7 (.pointer (some (q.add 0))) (fun w hb=>by rw[fa];exact Y2 rfl) ?_
   refine X7 (.map (some r)) (fun t w hb e=>by rw[e];exact ld hb.sat hb8 rfl (Y2 rfl)) ?_
   refine X7 (S (Q2 l)[n].name) (fun t w hb e=>by rw[e];exact ld hb.sat hq8 rfl (Y2 rfl)) ?_
   rintro t71 t72 t74 t73 t75 w9 hb9 _ _ _ rfl rfl;refine Q0E Y6 (hm8.up hb9.stp) _ (I n) fun w10 u10 hm10=>?_;have hS9:=hS8.trans hb9.stp;have hS10:=u10.stp hS9 hrw hm10.1;refine C4 ?_;refine Z0 Q5 hn3 ⟨σ8,_,hS10,le8,hm10,fun k=>?_,fun j hj=>?_⟩
   .rw[Q7Q,X2n hn3 k]
    by_cases e:(Q2 l)[n].name=k
    .subst e
     rw[if_pos rfl,hfc];simp
    .rw[if_neg e,hlm k]
     cases J9 ((Q2 l).take n) k with
     | some i=>rfl
     | none=>simp[e]
   .by_cases e:j=n
    .subst e;rw[hna,hfc];rfl
    .exact hnd j Q5
 have hn3: ¬n<(Q2 l).length:=by simpa using hh2
 have hne:n=(Q2 l).length:=by omega
 subst hne;rw[List.take_of_length_le (Nat.le_refl _)] at hlm
 have hdup:Gy (Q2 l)=none:=by
  unfold Gy;rw[List.find?_eq_none];intro j hj;rw[hnd j (by simpa using hj)];simp
 rw[hdup] at h1 h0;simp only at h1 h0;have hown:=Q10 hdup;obtain ⟨σ8,hS8,hm8,le8,_⟩:=hm7.keep hS7 hrw;have le68:SLe σ6 σ8:=le7.more ⟨le8⟩;have ht8:Tab σ8 (.pointer (some ⟨bt,0,none⟩)) (Q2 l):=⟨⟨bt,0,none⟩,x,r,m,rfl,hb6.lift le68,hv6.lift le68,hm8,hlm⟩;have hb8:=hb6.lift le68;have hv8:=hv6.lift le68;clear hm7 hm8 hh2 hn3 hn2 hh hn' hn hnd;have hdr:(Q2 l).drop 8=l:=by simp[Q2,hgl]
 rw[H2,fa];refine ld hS8.sat hb8 rfl ?_;refine Fa hv8 (some (I (8:Nat))) none 8 (Q2 l).length (.inr rfl) (.inl ⟨rfl,rfl⟩) Q5 (Nat.le_refl _) fun v9 hv9=>?_;rw[hdr,List.take_of_length_le Q5] at hv9;refine Q6 hv9 ?_;refine V3 l.length (fun n w'=> ∃σ',Stp w σ w' σ'/\SLe σ8 σ'/\C6 (fun c=>(B1 (Q2 l) c:Int)) l 0=C6 (fun c=>(B1 (Q2 l) c:Int)) (l.drop n) n) ⟨σ8,hS8,SLe.refl _,rfl⟩ fun n w6 d hn hinv=>?_;obtain ⟨σ9,hS9,le9,hfu⟩:=hinv;refine Z4 ?_;refine Q4 (fun hh=>?_) (fun hh=>?_)
 .have hn':n<l.length:=by simpa using hh
  refine E4 (hv9.lift le9) hn' fun p cells hl1 hl2 hr1=>?_;refine Y8 hS9.sat hl1 hl2 ?_;refine Z5 hS9.sat (by rfl) hl2 (Rep.one hr1) fun q w7 σ10 hk10 hq10=>?_
  have hS10:=hS9.trans hk10;refine Y8 hk10.sat hq10 hl2 ?_;have hfu2:=Oj hn' hfu;refine X5f hk10.sat (ht8.lift (le9.more ⟨hk10.le⟩)) (RCl_lift hr1 ⟨hk10.le⟩) fun w8 σ11 hk11=>?_;refine Oo ?_;refine Q4 (fun hh2=>?_) (fun hh2=>?_)
  .have hne: ¬(B1 (Q2 l) l[n]:Int)=0:=by simpa using hh2
   rw[if_neg hne] at hfu2;refine h1 _ _ _ _ ?_ (hS10.trans hk11);rw[hfu2]
  .have hz:(B1 (Q2 l) l[n]:Int)=0:=by simpa using hh2
   rw[if_pos hz] at hfu2;refine C4 ?_;exact Z0 hl3.max hn' ⟨σ11,hS10.trans hk11,le9.more ⟨fun b o e=>hk11.le _ _ (hk10.le _ _ e)⟩,hfu2⟩
 have hn': ¬n<l.length:=by simpa using hh
 rw[List.drop_eq_nil_of_le Q5] at hfu;have hfu:C6 (fun c=>(B1 (Q2 l) c:Int)) l 0=none:=hfu;rw[hfu] at h1 h0;simp only at h1 h0;have hup:=Xr hfu;have ht9:=ht8.lift le9;clear hh hn' hn;rw[H2,fa];refine ld hS9.sat (hb8.lift le9) rfl ?_;refine Fa (hv8.lift le9) (some (I (8:Nat))) none 8 (Q2 l).length (.inr rfl) (.inl ⟨rfl,rfl⟩) Q5 (Nat.le_refl _) fun v10 hv10=>?_;rw[hdr,List.take_of_length_le Q5] at hv10;rw[Za];refine Tx (Xt (Q2 l)) hS9.sat hv10 (fun c cs w7 K hc hs7 hr hlen hK=>J6 (first:=[.pointer (some ⟨bt,0,none⟩)]) (caps:=[]) ?_) fun w7 hb7=>?_
 .exact X6Q hs7 ht9 hlenall hsmall hr fun w' σ' hk=>hK w' hk.bel
 have hS10:=hS9.trans (Stp.of_below hS9.sat hb7);refine Xg ?_;rw[Ye];cases hlo:l.findIdx? (Xt (Q2 l)) with
 | some i=>
  refine J1 ?_;refine h1 _ _ _ _ ?_ hS10;rw[hlo];rfl
 | none=>
  rw[hlo] at h1 h0;simp only at h1 h0;refine Z7 ?_;have hlo': ∀c∈l,Xt (Q2 l) c=false:=fun c hc=>List.findIdx?_eq_none_iff.1 hlo c hc;have hacy:=Q8H hown (fun c hc=>(hcf c hc).2.2) hlo'
  have hfull:X4X (Q2 l):=fun c hc u hu=>by
   rcases List.mem_append.1 hc with hc | hc
   .rw[(Dq c hc).2.2] at hu;simp at hu
   .have:=hup c hc
    unfold B1 at this
    split at this
    .simp at this
    .split at this
     .simp at this
     .rename_i hnb
      have hnb:c.like.any (I5 (Q2 l))=false:=eq_false_of_ne_true hnb;have:=List.any_eq_false.1 hnb u hu;unfold I5 at this;cases hd:lk (Q2 l) u with
      | none=>rw[hd] at this;simp at this
      | some d=>exact ⟨d,rfl⟩
  have hok:Ok (Q2 l):=⟨hacy,hlenall,hsmall,hfull,hnmall⟩;refine X6R (frm:=8) hS10.sat (ht9.lift ⟨(Stp.of_below hS9.sat hb7).le⟩) hacy hown hlenall hsmall Q5 Q5 fun v11 w8 σ11 hk11 hv11 hol hoi=>?_;have hS11:=hS10.trans hk11;have ht11:=ht9.lift ⟨fun b o e=>hk11.le _ _ e⟩;refine Q6 hv11 ?_;have hil:(ints (N2 (Q2 l) 8)).length=(N2 (Q2 l) 8).length:=by simp
  rw[hil];refine V3 (N2 (Q2 l) 8).length (fun n w'=> ∃σ',Stp w σ w' σ'/\SLe σ11 σ'/\ ∀j∈(N2 (Q2 l) 8).take n,N1 (Q2 l) ((Q2 l).getD j Cla.zero)=0) ⟨σ11,hS11,SLe.refl _,by simp⟩ fun n w9 d hn hinv=>?_
  obtain ⟨σ12,hS12,le12,hno⟩:=hinv;refine Z4 ?_;refine Q4 (fun hh=>?_) (fun hh=>?_)
  .have hn':n<(N2 (Q2 l) 8).length:=by simpa using hh
   refine E4 (hv11.lift le12) (by rw[hil];exact hn') fun p cells hl1 hl2 hr1=>?_
   obtain ⟨rfl,_⟩:=hr1;refine Y3 hS12.sat hl1 rfl ?_;simp only[List.getElem_map];rw[H2,fa];have le8x:SLe σ8 σ12:=le9.more (SLe.more ⟨hk11.le⟩ le12);refine ld hS12.sat (hb8.lift le8x) rfl ?_;have hji:=hoi _ (List.getElem_mem hn');refine E4 (hv8.lift le8x) hji fun p2 cells hl1 hl2 hr1=>?_;refine Y8 hS12.sat hl1 hl2 ?_;have hat:(Q2 l).getD (N2 (Q2 l) 8)[n] Cla.zero=(Q2 l)[(N2 (Q2 l) 8)[n]]:=by rw[List.getD_eq_getElem?_getD,List.getElem?_eq_getElem hji];rfl
   have hmem:=List.getElem_mem hji;refine X3D hS12.sat (ht11.lift le12) hok hr1 (hsmall _ hmem) (hnmall _ hmem) fun w10 σ13 hk13=>?_;have hS13:=hS12.trans hk13;refine Oo ?_;refine Q4 (fun hh2=>?_) (fun hh2=>?_)
   .have hne: ¬N1 (Q2 l) (Q2 l)[(N2 (Q2 l) 8)[n]]=0:=by simpa using hh2
    refine Zb ⟨by omega,by omega⟩ ?_
    have hfind:(N2 (Q2 l) 8).find? (fun j=> !decide (N1 (Q2 l) ((Q2 l).getD j Cla.zero)=0))=some (N2 (Q2 l) 8)[n]:=by
     rw[List.find?_eq_some_iff_getElem];refine ⟨by rw[hat];simpa using hne,n,hn',rfl,fun j hj=>?_⟩
     have:=hno _ (List.mem_take_iff_getElem.2 ⟨j,by omega,rfl⟩)
     rw[this];simp
    have:=h1 (((N2 (Q2 l) 8)[n]:Int)-8) (N1 (Q2 l) (Q2 l)[(N2 (Q2 l) 8)[n]]) w10 σ13 (by rw[hfind];simp only[hat]) hS13
    exact this
   .have hz:N1 (Q2 l) (Q2 l)[(N2 (Q2 l) 8)[n]]=0:=by simpa using hh2
    refine C4 ?_;refine Z0 Q5 hn' ⟨σ13,hS13,le12.more ⟨hk13.le⟩,fun j hj=>?_⟩;rw[List.take_add_one,List.getElem?_eq_getElem hn'] at hj
    rcases List.mem_append.1 hj with hj | hj
    .exact hno j hj
    .simp at hj;subst hj;rw[hat];exact hz
  .have hn': ¬n<(N2 (Q2 l) 8).length:=by simpa using hh
   rw[List.take_of_length_le Q5] at hno
   have hfind:(N2 (Q2 l) 8).find? (fun j=> !decide (N1 (Q2 l) ((Q2 l).getD j Cla.zero)=0))=none:=by
    rw[List.find?_eq_none];intro j hj;rw[hno j hj];simp
   rw[hfind] at h0;exact h0 _ _ _ rfl hS12 (ht11.lift le12) hok hown)
end Go.Proofs.Y
namespace Go.Hm
open Go.Kd
def X3U (m:Hm.Met):Bool:= !(decide (50<m.code.length)||decide (8<m.params.length)||decide (8<m.catches.length))
def X5q (c:Cla):Bool:= !(decide (6<c.like.length)||decide (6<c.fields.length)||decide (6<c.methods.length))&&c.methods.all X3U
def X5r (l:List Cla):Bool:= !decide (12<l.length)&&l.all X5q
theorem X3V {l:List Cla} (h:X5r l=true):l.length<=12/\ ∀c∈l,X5q c=true:=by
 simp only[X5r,Bool.and_eq_true,Bool.not_eq_true',decide_eq_false_iff_not,List.all_eq_true] at h;exact ⟨by omega,h.2⟩
theorem X8r {l:List Cla} (h:X5r l=true): ∀c∈l,Yi c:=by
 intro c e;have:=(X3V h).2 c e;simp only[X5q,X3U,Bool.and_eq_true,Bool.not_eq_true',Bool.or_eq_false_iff,decide_eq_false_iff_not,List.all_eq_true] at this;obtain ⟨⟨⟨a,b⟩,g⟩,d⟩:=this;refine ⟨by omega,by omega,by omega,fun m f=>?_⟩
 obtain ⟨⟨p,q⟩,r⟩:=d m f;exact ⟨by omega,by omega,by omega⟩
end Go.Hm
namespace Go.Proofs.Y
open Go.Emb Go.RowKit Go.Kd Go.Hm
variable {w : World} {K : Value -> World -> Prop} {v : Value}
theorem X9H:P.underlying T.z=some (.pointer T.a3):=by kernel_rfl
theorem X5W (d:Nat) (o:Option Addr):(Op.equalIn (d+1) T.z (.pointer o) (.pointer none)).run P w= .ok o.isNone w:=by
 cases o<;>simp[Op.equalIn,run_underlying X9H]
theorem X8Y {a:Addr} {b c:Operand} (h:K (.bool false) w):Y7 P .eql T.z b c (.pointer (some a)) (.pointer none) w K:=by
 have e:(Op.equal T.z (.pointer (some a)) (.pointer none)).run P w= .ok false w:=X5W 9999 _;unfold Y7;rw[Y4 (v:= .bool false) (w':=w) (by simp[eqGuard,Go.binOp,e])]
 exact h
end Go.Proofs.Y
namespace Go.Hm
open Go.Kd
theorem Q9s {l:List Cla} {frm:Nat}: ∀(f:Nat) (out:List Nat) (i:Nat),(∀y∈out,y∈Yn l frm f out i)/\(0<f->frm<=i->i∈Yn l frm f out i):=by
 intro f
 induction f with
 | zero=>intro out i;exact ⟨fun y a=>a,fun h=>by omega⟩
 | succ f e=>
  intro out i
  have b: ∀(d:List Q9) (o:List Nat),∀y∈o,y∈d.foldl (fun out n=>Yn l frm f out ((J9 l n).getD 0)) o:=by
   intro d
   induction d with
   | nil=>intro o y a;exact a
   | cons u r c=>intro o y a;exact c _ y ((e o _).1 y a)
  simp only[Yn]
  split
  .exact ⟨fun y a=>a,fun _ h=>by omega⟩
  .split
   .rename_i h;exact ⟨fun y a=>a,fun _ _=>h⟩
   .exact ⟨fun y a=>List.mem_append_left _ (b _ _ y a),fun _ _=>by simp⟩
theorem X4c {l:List Cla} {frm i:Nat} (d:frm<=i) (e:i<l.length):i∈N2 l frm:=by
 unfold N2
 have key: ∀(is out:List Nat),(∀y∈out,y∈is.foldl (fun out i=>Yn l frm (l.length+1) out i) out)/\(i∈is->i∈is.foldl (fun out i=>Yn l frm (l.length+1) out i) out):=by
  intro is
  induction is with
  | nil=>intro out;exact ⟨fun y b=>b,fun h=>by simp at h⟩
  | cons a r c=>
   intro out;refine ⟨fun y b=>(c _).1 y ((Q9s _ _ _).1 y b),fun h=>?_⟩
   rcases List.mem_cons.1 h with rfl | h
   .exact (c _).1 _ ((Q9s _ _ _).2 (by omega) d)
   .exact (c _).2 h
 refine (key _ _).2 ?_;rw[List.mem_drop_iff_getElem];exact ⟨i-frm,by simp;omega,by simp;omega⟩
theorem X3I {s:Q9} (h:S1 s=true):name s=true:=Lq (by rw[h,Bool.or_true])
theorem Q9A {a:Q9} (h:name a=true):arr a=false:=by
 cases e:arr a with
 | false=>rfl
 | true=>
  exfalso
  have d:2<=a.length/\a.drop (a.length-2)=[91,93]:=by simpa [arr] using e
  have b:(93:UInt8)∈a:=List.mem_of_mem_drop (i:=a.length-2) (by rw[d.2];simp)
  cases a with
  | nil=>simp at b
  | cons c r=>
   simp only[name,Bool.and_eq_true,List.all_eq_true] at h;have:=h.2 _ b
   revert this;decide
end Go.Hm
namespace Go.Proofs.Y
open Go.Emb Go.RowKit Go.Kd Go.Hm
theorem X4e {a:Q9} (h:name a=true):base a=(a,0):=by rw[Yy,Q9A h];simp
theorem Ed {s:Q9} (h:S1 s=true):arr s=false/\base s=(s,0)/\right s=true/\plain s=false/\elem s=[]/\s≠G3/\s≠[]:=by
 have c:=Hm.X3I h;have a:=Q9A c;have b:=X4e c;refine ⟨a,b,?_,?_,by simp[elem,a],?_,?_⟩
 .simp[right,b,h]
 .cases d:plain s with
  | false=>rfl
  | true=>
   simp only[plain,Bool.or_eq_true,decide_eq_true_eq] at d
   rcases d with (e | e) | e<;>subst e<;>revert h<;>decide
 .rintro rfl;revert h;decide
 .rintro rfl;revert h;decide
structure Wf (l : List Cla) : Prop where
  ck : ∀ c ∈ l, B3 c = 0
  own : Ya (Q2 l)
  acy : Ue (Q2 l)
  up : ∀ c ∈ l, B1 (Q2 l) c = 0
  mem : ∀ c ∈ l, N1 (Q2 l) c = 0
theorem X9I {l:List Cla} (h:Iq B3 l=none):Wf l:=by
 unfold Iq at h
 split at h
 .cases h
 rename_i j
 split at h
 .cases h
 rename_i k
 split at h
 .cases h
 rename_i m
 split at h
 .cases h
 rename_i n
 split at h
 .cases h
 rename_i o;have d:=Xr j;have a:=Q10 k;have g: ∀c∈l,Xt (Q2 l) c=false:=fun c b=>List.findIdx?_eq_none_iff.1 n c b;refine ⟨d,a,Q8H a (fun c b=>(Tb (d c b)).2.2) g,fun c b=>by have:=Xr m c b;omega,fun c b=>?_⟩
 obtain ⟨i,p,rfl⟩:=List.getElem_of_mem b;have f:Xe.length=8:=rfl;have:=List.find?_eq_none.1 o (8+i) (X4c Q5 (by simp[Q2,f];omega))
 have e:(Q2 l).getD (8+i) Cla.zero=l[i]:=by
  rw[List.getD_eq_getElem?_getD,Q2,List.getElem?_append_right Q5,f,show 8+i-8=i by omega,List.getElem?_eq_getElem p];rfl
 rw[e] at this
 simpa using this
section
variable {l : List Cla} (wf : Wf l)
include wf
theorem Wf.names {c:Cla} (hc:c∈Q2 l):S1 c.name=true:=by
 rcases List.mem_append.1 hc with hc | hc
 .have: ∀c∈Xe,S1 c.name=true:=by decide+kernel
  exact this c hc
 .have:=wf.ck c hc
  unfold B3 at this
  split at this
  .cases this
  .split at this
   .rename_i a
    simp only[By,Bool.and_eq_true] at a;obtain ⟨⟨⟨⟨⟨⟨⟨⟨b,_⟩,_⟩,_⟩,_⟩,_⟩,_⟩,_⟩,_⟩:=a;exact List.all_eq_true.1 b c.name U8
   .cases this
theorem Wf.lkn {n:Q9} {c:Cla} (h:lk (Q2 l) n=some c):S1 n=true:=by
 obtain ⟨e,a,_⟩:=M5 h;rw[<-e];exact wf.names a
theorem Wf.root:lk (Q2 l) W3=some ⟨W3,[],[],false,false,false,[],[]⟩:=wf.own.lk (c:=⟨W3,[],[],false,false,false,[],[]⟩) (List.mem_append_left _ L2)
theorem Wf.fault:lk (Q2 l) C1=some ⟨C1,W3,[],false,false,false,[⟨Wj,B2,false⟩],[]⟩:=wf.own.lk (c:=⟨C1,W3,[],false,false,false,[⟨Wj,B2,false⟩],[]⟩) (List.mem_append_left _ L2)
theorem Wf.super {c:Cla} (hc:c∈Q2 l):c.name=W3\/ ∃d,lk (Q2 l) c.super=some d:=by
 rcases List.mem_append.1 hc with hc | hc
 .have: ∀c∈Xe,c.name=W3\/c.super=W3\/c.super=C1:=by decide
  rcases this c hc with h | h | h
  .exact .inl h
  .exact .inr ⟨_,h▸wf.root⟩
  .exact .inr ⟨_,h▸wf.fault⟩
 .right
  have:=wf.up c hc;unfold B1 at this
  split at this
  .cases this
  .rename_i h
   unfold Zw at h;cases a:lk (Q2 l) c.super with
   | none=>rw[a] at h;simp at h
   | some d=>exact ⟨d,rfl⟩
theorem Wf.toRoot: ∀(k:Nat) {n:Q9} {c:Cla},Qg (Q2 l) n<k->lk (Q2 l) n=some c->Hm.Reach (lk (Q2 l)) n W3:=by
 intro k
 induction k with
 | zero=>intro n c h;omega
 | succ k i=>
  intro n c j a;obtain ⟨e,g,_⟩:=M5 a
  rcases wf.super g with h | ⟨d,b⟩
  .rw[<-e,h];exact .refl wf.root
  .have f:c.super∈L6 c:=by simp[L6]
   exact .step a f (i (by have:=Yg wf.acy a f b;omega) b)
theorem Wf.kind {n:Q9} {c:Cla} (h:lk (Q2 l) n=some c):E3 (Q2 l) n=true:=by
 obtain ⟨d,a,b,e,f,g,i⟩:=Ed (wf.lkn h);have:Q3e (Q2 l) n=true:=by rw[Q49,h];rfl
 simp[E3,b,a,this]
theorem Wf.sub_iff {a b:Q9}:Vc (Q2 l) a b=true↔E3 (Q2 l) a=true/\E3 (Q2 l) b=true/\(a=b\/(plain a=false/\plain b=false/\(a=G3\/(elem a≠[]/\b=W3)\/(lk (Q2 l) a≠none/\Hm.Reach (lk (Q2 l)) a b)))):=by
 unfold Vc;cases j:E3 (Q2 l) a<;>cases k:E3 (Q2 l) b<;>simp
 by_cases e:a=b
 .simp[e]
 cases pa:plain a<;>cases m:plain b<;>simp[e]
 by_cases g:a=G3
 .simp[g]
 simp only[g,false_or]
 by_cases d:elem a=[]
 .simp only[d,if_true,not_true_eq_false,false_and,false_or,Ml]
  constructor
  .intro h;obtain ⟨c,i⟩:=h.left;exact ⟨by rw[i];simp,h⟩
  .intro h;exact h.2
 .simp only[d,if_false,not_false_eq_true,true_and]
  constructor
  .exact .inl
  .rintro (h | ⟨h,_⟩)
   .exact h
   .cases f:lk (Q2 l) a with
    | none=>exact absurd f h
    | some c=>exact absurd (Ed (wf.lkn f)).2.2.2.2.1 d
theorem Wf.sub_class {a b:Q9} {c:Cla} (e:lk (Q2 l) a=some c):Vc (Q2 l) a b=true↔Hm.Reach (lk (Q2 l)) a b:=by
 obtain ⟨k,m,n,g,i,j,o⟩:=Ed (wf.lkn e);rw[wf.sub_iff];constructor
 .rintro ⟨_,_,rfl | ⟨_,_,h | ⟨h,_⟩ | ⟨_,h⟩⟩⟩
  .exact .refl e
  .exact absurd h j
  .exact absurd i h
  .exact h
 .intro h
  obtain ⟨d,f⟩:=h.right;exact ⟨wf.kind e,wf.kind f, .inr ⟨g,(Ed (wf.lkn f)).2.2.2.1, .inr (.inr ⟨by rw[e];simp,h⟩)⟩⟩
end
end Go.Proofs.Y
namespace Go.Proofs.Y
open Go.Emb Go.RowKit Go.Kd Go.Hm
theorem X0B {L:List Cla} (f:Ue L): ∀(k:Nat) {n:Q9} {c:Cla},Qg L n<k->c∈chain L n->Hm.Reach (lk L) n c.name/\lk L c.name=some c:=by
 intro k
 induction k with
 | zero=>intro n c h;omega
 | succ k o=>
  intro n c p hc;rw[Gw f] at hc;cases a:lk L n with
  | none=>rw[a] at hc;simp at hc
  | some d=>
   rw[a] at hc;have b:=(M5 a).1
   rcases List.mem_cons.1 hc with rfl | hc
   .rw[b];exact ⟨.refl a,a⟩
   .cases g:lk L d.super with
    | none=>rw[Eb g] at hc;simp at hc
    | some e=>
     have i:d.super∈L6 d:=by simp[L6]
     obtain ⟨j,m⟩:=o (by have:=Yg f a i g;omega) hc
     exact ⟨.step a i j,m⟩
theorem X5x {l:List Cla} {a:Q9} (h:E3 (Q2 l) a=true) (g:plain a=false):a=G3\/elem a≠[]\/ ∃c,lk (Q2 l) a=some c:=by
 simp only[E3,Bool.or_eq_true,decide_eq_true_eq,Bool.and_eq_true] at h
 rcases h with h | ⟨e,h⟩
 .exact .inl h
 .by_cases d:elem a=[]
  .right;right
   have b:arr a=false:=by
    cases b:arr a with
    | false=>rfl
    | true=>
     have i:=Q83 b e;have:elem a=Kd.cutA a:=by simp[elem,b,e]
     rw[this] at d;have:=Xc b;rw[d] at this;simp at this;omega
   have f:base a=(a,0):=by rw[Yy,b];simp
   rw[f,g] at h;have h:Q3e (Q2 l) a=true:=by simpa using h
   rw[Q49] at h;exact Option.isSome_iff_exists.1 h
  .exact .inr (.inl d)
section
variable {l : List Cla} (wf : Wf l)
include wf
theorem Wf.kRoot:E3 (Q2 l) W3=true:=wf.kind wf.root
theorem Wf.lkArr {a:Q9} {c:Cla} (h:lk (Q2 l) a=some c):elem a=[]:=(Ed (wf.lkn h)).2.2.2.2.1
theorem Wf.none_null:lk (Q2 l) G3=none:=by
 cases h:lk (Q2 l) G3 with
 | none=>rfl
 | some c=>exact absurd (wf.lkn h) L2
theorem Wf.sub_root {a:Q9} (h:E3 (Q2 l) a=true) (b:plain a=false):Vc (Q2 l) a W3=true:=by
 rw[wf.sub_iff];refine ⟨h,wf.kRoot, .inr ⟨b,by decide,?_⟩⟩
 rcases X5x h b with e | e | ⟨c,e⟩
 .exact .inl e
 .exact .inr (.inl ⟨e,rfl⟩)
 .exact .inr (.inr ⟨by rw[e];simp,wf.toRoot _ (Nat.lt_succ_self _) e⟩)
theorem Wf.sub_refl {a:Q9} (h:E3 (Q2 l) a=true):Vc (Q2 l) a a=true:=wf.sub_iff.2 ⟨h,h, .inl rfl⟩
end
end Go.Proofs.Y
namespace Go.Proofs.Y
open Go.Emb Go.RowKit Go.Kd Go.Hm
section
variable {l : List Cla} (wf : Wf l)
include wf
end
end Go.Proofs.Y
namespace Go.Hm
open Go.Kd
end Go.Hm
namespace Go.Proofs.Y
open Go.Emb Go.RowKit Go.Kd Go.Hm
section
variable {l : List Cla} (wf : Wf l)
include wf
end
end Go.Proofs.Y
namespace Go.Proofs.Y
open Go.Emb Go.RowKit Go.Kd Go.Hm
end Go.Proofs.Y
namespace Go.Proofs.Y
open Go.Emb Go.RowKit Go.Kd Go.Hm
section
variable {l : List Cla} (wf : Wf l)
include wf
end
end Go.Proofs.Y
namespace Go.Hm
open Go.Kd
structure Val where
  sort : Int
  n : Int
  s : Q9
  ref : Int
deriving DecidableEq
structure Cel where
  kind : Q9
  vals : List Val
deriving DecidableEq
def Val.zero:Val:=⟨0,0,[],0⟩
def Cel.zero:Cel:=⟨[],[]⟩
def O8 (k:Q9):Val:=if k=Yw then ⟨1,0,[],0⟩ else if k=Wi then ⟨2,0,[],0⟩ else if k=B2 then ⟨3,0,[],0⟩ else Val.zero
def J4 (cs:List Cel):Int:=(cs.map fun c=>1+(c.vals.length:Int)).sum
def O3 (room:Int) (cs:List Cel):Int:=room-J4 cs
def O5 (cs:List Cel) (r:Int):Bool:=decide (0<=r)&&decide (r<cs.length)
def Oi (cs:List Cel) (r:Int):Cel:=cs.getD r.toNat Cel.zero
def O6 (cs:List Cel) (r:Int):Q9:=if O5 cs r then (Oi cs r).kind else []
def Og (cs:List Cel) (r:Int):Int:=if O5 cs r then (Oi cs r).vals.length else 0
def I1 (ok:Q9->Bool) (cs:List Cel) (v:Val):Q9:=
 if v=Val.zero then G3 else if v=⟨1,v.n,[],0⟩ then Yw else if v=⟨2,v.n,[],0⟩/\(v.n=0\/v.n=1) then Wi
 else if v=⟨3,0,v.s,0⟩/\ok v.s=true then B2 else if v=⟨4,0,[],v.ref⟩ then O6 cs v.ref else []
def G9 (ok:Q9->Bool) (l:List Cla) (cs:List Cel) (v:Val) (k:Q9):Bool:= !decide (I1 ok cs v=[])&&Vc l (I1 ok cs v) k
def Jv (l:List Cla) (room:Int) (cs:List Cel) (k:Q9):List Cel×Int:=
 if Yk l k=false then (cs,91) else if O3 room cs<1+((U2 l k).length:Int) then (cs,90) else (cs++[⟨k,(U2 l k).map fun f=>O8 f.kind⟩],0)
def A0 (l:List Cla) (e:Q9):Bool:= !decide (e=G3)&&E3 l e&&decide (Jm e<=2)
def Vu (l:List Cla) (room:Int) (cs:List Cel) (e:Q9) (n:Int):List Cel×Int:=
 if A0 l e=false then (cs,91) else if n<0 then (cs,93) else if O3 room cs<=n then (cs,90) else (cs++[⟨e++[91,93],List.replicate n.toNat (O8 e)⟩],0)
def H8 (cs:List Cel) (r a:Int):Int:=if O5 cs r then (if 0<=a/\a<((Oi cs r).vals.length:Int) then 0 else 93) else 92
def Ll (cs:List Cel) (r a:Int):Val:=if H8 cs r a=0 then (Oi cs r).vals.getD a.toNat Val.zero else Val.zero
def Wm (l:List Cla) (k:Q9) (i:Nat):Q9:=if elem k=[] then ((U2 l k).getD i Fld.zero).kind else elem k
def P0 (cs:List Cel) (r a:Int) (v:Val):List Cel:=cs.set r.toNat ⟨(Oi cs r).kind,(Oi cs r).vals.set a.toNat v⟩
def F4 (ok:Q9->Bool) (l:List Cla) (cs:List Cel) (r a:Int) (v:Val):List Cel×Int:=
 if H8 cs r a≠0 then (cs,H8 cs r a) else if G9 ok l cs v (Wm l (Oi cs r).kind a.toNat) then (P0 cs r a v,0) else (cs,91)
def Qi (n:Int) (v:Val):Bool:=decide (v.sort=4)&&decide (n<=v.ref)
def Tc (cs:List Cel) (n:Int):List Cel:=
 if (cs.take (max n 0).toNat).any (fun c=>c.vals.any (Qi (max n 0))) then cs else cs.take (max n 0).toNat
structure ActH where
  kind : Int
  s : Q9
  n : Int
  ref : Int
  v : Val
deriving DecidableEq
def I9 (ok:Q9->Bool) (l:List Cla) (room:Int) (cs:List Cel) (x:ActH):List Cel:=
 if x.kind=0 then (Jv l room cs x.s).1 else if x.kind=1 then (Vu l room cs x.s x.n).1 else if x.kind=2 then (F4 ok l cs x.ref x.n x.v).1
 else if x.kind=4 then Tc cs x.ref else cs
structure GoodC (ok : Q9 -> Bool) (l : List Cla) (cs : List Cel) (c : Cel) : Prop where
  is : elem c.kind ≠ [] \/ (Yk l c.kind = true /\ c.vals.length = (U2 l c.kind).length)
  kd : E3 l c.kind = true
  fits : ∀ i (h : i < c.vals.length), G9 ok l cs c.vals[i] (Wm l c.kind i) = true
structure GoodH (ok : Q9 -> Bool) (l : List Cla) (room : Int) (cs : List Cel) : Prop where
  cells : ∀ c ∈ cs, GoodC ok l cs c
  left : 0 <= O3 room cs
theorem Zp (a b:List Cel):J4 (a++b)=J4 a+J4 b:=by simp[J4]
theorem E7 (a:List Cel):0<=J4 a:=by
 unfold J4
 induction a with
 | nil=>simp
 | cons c r b=>simp only[List.map_cons,List.sum_cons];omega
theorem Qj (a:List Cel):(a.length:Int)<=J4 a:=by
 unfold J4
 induction a with
 | nil=>simp
 | cons c r b=>simp only[List.map_cons,List.sum_cons,List.length_cons];omega
theorem L8 {cs:List Cel} {r:Int}:O5 cs r=true↔ ∃i:Nat,r=i/\i<cs.length:=by
 simp only[O5,Bool.and_eq_true,decide_eq_true_eq];constructor
 .rintro ⟨a,b⟩;exact ⟨r.toNat,by omega,by omega⟩
 .rintro ⟨i,rfl,h⟩;omega
theorem W8 {cs:List Cel} {i:Nat} (h:i<cs.length):Oi cs (i:Int)=cs[i]:=by
 unfold Oi;rw[Int.toNat_natCast,List.getD_eq_getElem?_getD,List.getElem?_eq_getElem h];rfl
theorem Xf {cs:List Cel} {i:Nat} (h:i<cs.length):O6 cs (i:Int)=cs[i].kind:=by
 unfold O6;rw[if_pos (L8.2 ⟨i,rfl,h⟩),W8 h]
theorem X5D {ok:Q9->Bool} {cs a:List Cel} {v:Val} (h:v.sort=4->O6 cs v.ref≠[]->O6 a v.ref=O6 cs v.ref) (c:I1 ok cs v≠[]):I1 ok a v=I1 ok cs v:=by
 unfold I1 at*
 split
 .rfl
 .split
  .rfl
  .split
   .rfl
   .split
    .rfl
    .split
     .rename_i d e f g b
      rw[if_neg d,if_neg e,if_neg f,if_neg g,if_pos b] at c;exact h (by rw[b]) c
     .rfl
theorem Fz {ok:Q9->Bool} {l:List Cla} {cs a:List Cel} {v:Val} {k:Q9} (h:v.sort=4->O6 cs v.ref≠[]->O6 a v.ref=O6 cs v.ref) (b:G9 ok l cs v k=true):G9 ok l a v k=true:=by
 unfold G9 at*
 have c:I1 ok cs v≠[]:=by
  intro e;rw[e] at b;simp at b
 rw[X5D h c];exact b
theorem X2w {cs more:List Cel} {r:Int} (h:O6 cs r≠[]):O6 (cs++more) r=O6 cs r:=by
 have c:O5 cs r=true:=by
  cases b:O5 cs r with
  | true=>rfl
  | false=>unfold O6 at h;rw[b] at h;simp at h
 obtain ⟨i,rfl,a⟩:=L8.1 c;rw[Xf a,Xf (by simp;omega),List.getElem_append_left a]
theorem GoodC.app {ok:Q9->Bool} {l:List Cla} {cs more:List Cel} {c:Cel} (h:GoodC ok l cs c):GoodC ok l (cs++more) c:=
 ⟨h.is,h.kd,fun i a=>Fz (fun _ b=>X2w b) (h.fits i a)⟩
section
variable {ok : Q9 -> Bool} {l : List Cla} {room : Int} {cs : List Cel}
theorem GoodH.snoc (h:GoodH ok l room cs) {c:Cel} (a:GoodC ok l (cs++[c]) c) (b:1+(c.vals.length:Int)<=O3 room cs):GoodH ok l room (cs++[c]):=by
 refine ⟨fun d hd=>?_,?_⟩
 .rcases List.mem_append.1 hd with hd | hd
  .exact (h.cells d hd).app
  .simp at hd;subst hd;exact a
 .unfold O3 at*;rw[Zp];simp only[J4,List.map_cons,List.map_nil,List.sum_cons,List.sum_nil] at*;omega
end
end Go.Hm
namespace Go.Proofs.Y
open Go.Emb Go.RowKit Go.Kd Go.Hm
section
variable {l : List Cla} (wf : Wf l)
include wf
theorem Wf.field_kinds {n:Q9} {f:Fld} (h:f∈U2 (Q2 l) n):C3 (Q2 l) f.kind=true:=by
 unfold U2 at h;obtain ⟨c,g,e⟩:=List.mem_flatMap.1 h;have j:=(X0B wf.acy _ (Nat.lt_succ_self _) (by simpa using g)).2
 obtain ⟨_,b,_⟩:=M5 j
 rcases List.mem_append.1 b with i | hl
 .have d: ∀c∈Xe,∀f∈c.fields,f.kind=B2:=by decide
  rw[d c i f e]
  have:E3 (Q2 l) B2=true:=by
   have m:right B2=true:=by decide
   have k:plain (base B2).1=true:=by decide
   simp[E3,m,k]
  simp[C3,this];decide
 .have:=wf.mem c hl
  unfold N1 at this
  split at this
  .cases this
  .split at this
   .cases this
   .rename_i a
    have a:T3 (Q2 l) c=false:=eq_false_of_ne_true a;unfold T3 at a;rw[Bool.or_eq_false_iff] at a;have:=List.any_eq_false.1 a.1 f e
    simpa using this
theorem Wf.zero_fits {ok:Q9->Bool} (g:ok []=true) {cs:List Cel} {k:Q9} (h:C3 (Q2 l) k=true):G9 ok (Q2 l) cs (O8 k) k=true:=by
 have a:E3 (Q2 l) k=true/\k≠G3:=by
  simp only[C3,Bool.and_eq_true,Bool.not_eq_true',decide_eq_false_iff_not] at h;exact ⟨h.2,h.1⟩
 by_cases c:k=Yw
 .subst c
  have:G9 ok (Q2 l) cs (O8 Yw) Yw=Vc (Q2 l) Yw Yw:=by
   unfold G9;simp[O8,I1,Val.zero,Yw]
  rw[this];exact wf.sub_refl a.1
 by_cases d:k=Wi
 .subst d
  have:G9 ok (Q2 l) cs (O8 Wi) Wi=Vc (Q2 l) Wi Wi:=by
   unfold G9;simp[O8,I1,Val.zero,Wi,Yw]
  rw[this];exact wf.sub_refl a.1
 by_cases f:k=B2
 .subst f
  have:G9 ok (Q2 l) cs (O8 B2) B2=Vc (Q2 l) B2 B2:=by
   unfold G9;simp[O8,I1,Val.zero,Wi,Yw,B2,g]
  rw[this];exact wf.sub_refl a.1
 .have i:O8 k=Val.zero:=by simp[O8,c,d,f]
  have:G9 ok (Q2 l) cs (O8 k) k=Vc (Q2 l) G3 k:=by
   rw[i];unfold G9 I1;simp[G3]
  rw[this]
  have b:plain k=false:=by
   cases b:plain k with
   | false=>rfl
   | true=>
    simp only[plain,Bool.or_eq_true,decide_eq_true_eq] at b
    rcases b with (e | e) | e
    .exact absurd e c
    .exact absurd e d
    .exact absurd e f
  exact wf.sub_iff.2 ⟨by simp[E3],a.1, .inr ⟨by decide,b, .inl rfl⟩⟩
end
theorem Q8K (a:Q9):arr (a++[91,93])=true:=by
 simp[arr]
theorem Q8L (a:Q9):Kd.cutA (a++[91,93])=a:=by
 simp[Kd.cutA]
theorem Q2H (a:Q9):base (a++[91,93])=((base a).1,(base a).2+1):=by
 rw[Yy,Q8K,if_pos rfl,Q8L]
theorem X24 {a:Q9} (h:right a=true) (b:(base a).2<=2):right (a++[91,93])=true:=by
 unfold right at*;rw[Q2H];simp only[Bool.and_eq_true,decide_eq_true_eq] at*;exact ⟨by omega,h.2⟩
theorem X3s {a:Q9} (h:right (a++[91,93])=true):elem (a++[91,93])=a:=by
 unfold elem;rw[Q8K,h,Q8L];rfl
theorem X2k {l:List Cla} {e:Q9}:A0 l e=true↔C3 l e=true/\right (e++[91,93])=true:=by
 unfold A0 C3;simp only[Bool.and_eq_true,Bool.not_eq_true',decide_eq_false_iff_not,decide_eq_true_eq];constructor
 .rintro ⟨⟨b,h2⟩,a⟩
  have c:right e=true:=by
   unfold E3 at h2;simp only[Bool.or_eq_true,Bool.and_eq_true,decide_eq_true_eq] at h2
   rcases h2 with h2 | h2
   .exact absurd h2 b
   .exact h2.1
  unfold Jm at a;rw[if_pos c] at a;exact ⟨⟨b,h2⟩,X24 c a⟩
 .rintro ⟨⟨b,h2⟩,a⟩
  refine ⟨⟨b,h2⟩,?_⟩;unfold right at a;rw[Q2H] at a;simp only[Bool.and_eq_true,decide_eq_true_eq] at a;unfold Jm
  split
  .omega
  .omega
section
variable {ok : Q9 -> Bool} {l : List Cla} {room : Int} {cs : List Cel}
theorem GoodH.obj (wf:Wf l) (f:ok []=true) (h:GoodH ok (Q2 l) room cs) (k:Q9):GoodH ok (Q2 l) room (Jv (Q2 l) room cs k).1:=by
 unfold Jv
 split
 .exact h
 split
 .exact h
 rename_i a j;have a:Yk (Q2 l) k=true:=by simpa using a
 have e: ∃c,lk (Q2 l) k=some c:=by
  unfold Yk at a;cases b:lk (Q2 l) k with
  | none=>rw[b] at a;cases a
  | some c=>exact ⟨c,rfl⟩
 obtain ⟨c,b⟩:=e;have g:elem k=[]:=wf.lkArr b;refine h.snoc ⟨.inr ⟨a,by simp⟩,wf.kind b,fun i d=>?_⟩ (by simp only[List.length_map];omega)
 simp only[List.length_map] at d;simp only[List.getElem_map,Wm,g,if_pos];rw[List.getD_eq_getElem?_getD,List.getElem?_eq_getElem d];exact wf.zero_fits f (wf.field_kinds (List.getElem_mem d))
theorem GoodH.arr (wf:Wf l) (k:ok []=true) (h:GoodH ok (Q2 l) room cs) (e:Q9) (n:Int):GoodH ok (Q2 l) room (Vu (Q2 l) room cs e n).1:=by
 unfold Vu
 split
 .exact h
 split
 .exact h
 split
 .exact h
 rename_i c m o;have c:A0 (Q2 l) e=true:=by simpa using c
 obtain ⟨j,f⟩:=X2k.1 c;have g:=X3s f
 have b:e≠[]:=by
  rintro rfl
  revert f;decide
 have a:E3 (Q2 l) (e++[91,93])=true:=by
  have a:=j;unfold C3 at a;simp only[Bool.and_eq_true,Bool.not_eq_true',decide_eq_false_iff_not] at a;obtain ⟨d,hk2⟩:=a;unfold E3 at hk2⊢;simp only[Bool.or_eq_true,Bool.and_eq_true,decide_eq_true_eq] at hk2⊢
  rcases hk2 with hk2 | hk2
  .exact absurd hk2 d
  .right;rw[Q2H];exact ⟨f,hk2.2⟩
 refine h.snoc ⟨.inl (by simp only;rw[g];exact b),a,fun i p=>?_⟩ (by simp only[List.length_replicate];omega)
 simp only[List.getElem_replicate,Wm,g,if_neg b];exact wf.zero_fits k j
theorem Q6a {r b x:Int} {v:Val} (g:O5 cs r=true):O6 (P0 cs r b v) x=O6 cs x:=by
 obtain ⟨i,rfl,f⟩:=L8.1 g;have a:(P0 cs i b v).length=cs.length:=by simp[P0]
 cases c:O5 cs x with
 | false=>
  have:O5 (P0 cs i b v) x=false:=by unfold O5 at*;rw[a];exact c
  unfold O6;rw[c,this];rfl
 | true=>
  obtain ⟨j,rfl,d⟩:=L8.1 c;rw[Xf d,Xf (by rw[a];exact d)]
  simp only[P0,Int.toNat_natCast,W8 f,List.getElem_set]
  split
  .rename_i e;subst e;rfl
  .rfl
theorem Dt {r a:Int} (h:H8 cs r a=0): ∃i j:Nat,r=i/\a=j/\ ∃(b:i<cs.length),j<(cs[i]).vals.length:=by
 unfold H8 at h
 split at h
 .rename_i d
  obtain ⟨i,rfl,b⟩:=L8.1 d
  split at h
  .rename_i c
   rw[W8 b] at c;exact ⟨i,a.toNat,rfl,by omega,b,by omega⟩
  .cases h
 .cases h
theorem GoodH.set (h:GoodH ok (Q2 l) room cs) (r m:Int) (v:Val):GoodH ok (Q2 l) room (F4 ok (Q2 l) cs r m v).1:=by
 unfold F4
 split
 .exact h
 rename_i s;have s:H8 cs r m=0:=by simpa using s
 split
 .rename_i t
  obtain ⟨i,j,rfl,rfl,g,C⟩:=Dt s;have A:O5 cs (i:Int)=true:=L8.2 ⟨i,rfl,g⟩;rw[W8 g,Int.toNat_natCast] at t;refine ⟨fun c y=>?_,?_⟩
  .have b: ∀{u:Val} {k:Q9},G9 ok (Q2 l) cs u k=true->G9 ok (Q2 l) (P0 cs i j v) u k=true:=fun B=>Fz (fun _ _=>Q6a A) B
   have a: ∀d∈cs,GoodC ok (Q2 l) (P0 cs i j v) d:=fun d o=>⟨(h.cells d o).is,(h.cells d o).kd,fun q n=>b ((h.cells d o).fits q n)⟩;have f:c∈cs.set i ⟨cs[i].kind,cs[i].vals.set j v⟩:=by simpa [P0,W8 g] using y
   rcases List.mem_or_eq_of_mem_set f with f | rfl
   .exact a c f
   .have p:=a _ (List.getElem_mem g)
    refine ⟨by simpa using p.is,p.kd,fun q n=>?_⟩
    simp only[List.length_set] at n;simp only[List.getElem_set]
    split
    .rename_i e;subst e;exact b t
    .exact p.fits q n
  .have e:J4 (P0 cs i j v)=J4 cs:=by
    unfold J4
    congr 1
    have z:(P0 cs i j v).map (fun c=>1+(c.vals.length:Int))=cs.map (fun c=>1+(c.vals.length:Int)):=by
     unfold P0;rw[List.map_set,W8 g];simp only[List.length_set,Int.toNat_natCast];have w:1+(cs[i].vals.length:Int)=(cs.map (fun c=>1+(c.vals.length:Int)))[i]'(by simpa using g):=by simp
     rw[w,List.set_getElem_self]
    exact z
   have:=h.left;unfold O3 at*;rw[e];exact this
 .exact h
theorem GoodH.cut (h:GoodH ok (Q2 l) room cs) (n:Int):GoodH ok (Q2 l) room (Tc cs n):=by
 unfold Tc
 split
 .exact h
 rename_i hn;have hn:=eq_false_of_ne_true hn;generalize hm:max n 0=m at*;have hm0:0<=m:=by omega
 refine ⟨fun c hc=>?_,?_⟩
 .have hcs:=List.mem_of_mem_take hc
  refine ⟨(h.cells c hcs).is,(h.cells c hcs).kd,fun i hi=>Fz (fun h4 hk=>?_) ((h.cells c hcs).fits i hi)⟩;have h1:=List.any_eq_false.1 hn c hc;have h2: ¬Qi m c.vals[i]=true:=fun e=>h1 (List.any_eq_true.2 ⟨_,List.getElem_mem hi,e⟩)
  have hr:O5 cs c.vals[i].ref=true:=by
   cases he:O5 cs c.vals[i].ref with
   | true=>rfl
   | false=>unfold O6 at hk;rw[he] at hk;simp at hk
  obtain ⟨j,hj,hjl⟩:=L8.1 hr
  have hjm:(j:Int)<m:=by
   simp only[Qi,Bool.and_eq_true,decide_eq_true_eq,not_and] at h2;have:=h2 h4;omega
  rw[hj,Xf hjl,Xf (by rw[List.length_take];omega)]
  simp
 .have:J4 cs=J4 (cs.take m.toNat)+J4 (cs.drop m.toNat):=by rw[<-Zp,List.take_append_drop]
  have h3:=E7 (cs.drop m.toNat);have:=h.left;unfold O3 at*;omega
theorem GoodH.act (wf:Wf l) (a:ok []=true) (h:GoodH ok (Q2 l) room cs) (x:ActH):GoodH ok (Q2 l) room (I9 ok (Q2 l) room cs x):=by
 unfold I9
 split
 .exact GoodH.obj wf a h _
 split
 .exact GoodH.arr wf a h _ _
 split
 .exact GoodH.set h _ _ _
 split
 .exact GoodH.cut h _
 .exact h
theorem GoodH.empty (a:0<=room):GoodH ok l room []:=⟨by simp,by simpa [O3,J4] using a⟩
end
end Go.Proofs.Y
namespace Go.Emb
open Go.RowKit Go.Hm
variable {w : World} {σ σ1 σ' : Q3}
def D0 (_:Q3) (v:Val) (cs:List Value):Prop:=cs=[I v.sort,I v.n,S v.s,I v.ref]/\Yh v.sort/\Yh v.n/\v.s.length<=V5/\Yh v.ref
instance:Rep D0:=⟨fun _ h=>h,fun h u hu=>by rw[h.1] at hu;simp at hu;rcases hu with rfl | rfl | rfl | rfl<;>rfl⟩
def Xq (σ:Q3) (c:Cel) (cs:List Value):Prop:= ∃v,cs=[S c.kind,v]/\Sl 4 D0 σ v c.vals/\c.kind.length<=V5
instance:Rep Xq:=⟨fun hk ⟨v,h1,h2,h3⟩=>⟨v,h1,h2.le hk,h3⟩,fun ⟨v,h1,h2,h3⟩ u hu=>by
 rw[h1] at hu;simp at hu;rcases hu with rfl | rfl
 .rfl
 .exact Yl h2⟩
def Q6H (_:Q3) (x:List UInt8×Value) (cs:List Value):Prop:=cs=[S x.1,x.2]/\x.1.length<=V5/\ ∃a n c,x.2= .slice a n c
instance:Rep Q6H:=⟨fun _ h=>h,fun ⟨h1,_,a,n,c,h2⟩ u hu=>by
 rw[h1,h2] at hu;simp at hu;rcases hu with rfl | rfl<;>rfl⟩
def X68 (vs:List Value):Prop:=vs.Pairwise fun a b=> ∀k,a.ownBlock=some k->b.ownBlock≠some k
def Q5D (B:Nat) (e:TypeId) (σ:Q3) (w:World) (vs:List Value) (cs:List Cel):Prop:=vs.length=cs.length/\ ∀i (h:i<vs.length) (a:i<cs.length),J8 B e 4 D0 σ w vs[i] cs[i].vals
theorem Q5D.freeze {B:Nat} {e:TypeId}: ∀{vs:List Value} {cs:List Cel} {σ:Q3},X3 w σ->Q5D B e σ w vs cs->X68 vs->
 ∃σ',X3 w σ'/\SLe σ σ'/\(∀i (h:i<vs.length) (z:i<cs.length),Sl 4 D0 σ' vs[i] cs[i].vals)/\ ∀k,(∀v∈vs,v.ownBlock≠some k)->σ' k=σ k
 | [],cs,σ,f,h,g=>⟨σ,f,SLe.refl _,fun i h=>absurd h (Nat.not_lt_zero i),fun _ _=>rfl⟩
 | v::vs,[],σ,f,h,g=>by have:=h.1;simp at this
 | v::vs,c::cs,σ,f,h,g=>by
  obtain ⟨σ1,s,m,o,o1⟩:=(h.2 0 U8 U8).freeze f;obtain ⟨j,l⟩:=List.pairwise_cons.1 g
  have q:Q5D B e σ1 w vs cs:=⟨by simpa using h.1,fun i d a=>by
   have:=h.2 (i+1) (by simpa using d) (by simpa using a)
   simp only[List.getElem_cons_succ] at this;refine this.shiftR m fun k b=>?_;rw[o1 k fun e=>j _ (List.getElem_mem d) k e.symm b];exact (this.mem b).2.2⟩
  obtain ⟨y,t,n,p,o2⟩:=Q5D.freeze s q l;refine ⟨y,t,m.more n,fun i d a=>?_,fun k b=>?_⟩
  .cases i with
   | zero=>exact o.lift n
   | succ i=>exact p i (by simpa using d) (by simpa using a)
  .rw[o2 k fun u r=>b u (by simp[r]),o1 k fun e=>b v U8 e.symm]
def Zt (vs:List Value) (cs:List Cel):List (List UInt8×Value):=List.zipWith (fun v c=>(c.kind,v)) vs cs
theorem Ca {vs:List Value} {cs:List Cel} (h:vs.length=cs.length):(Zt vs cs).length=cs.length:=by simp[Zt,h]
end Go.Emb
namespace Go.Proofs.Y
open Go.Emb Go.RowKit Go.Kd Go.Hm
variable {w : World} {σ σ' : Q3}
def O4 (σ:Q3) (hp tv:Value) (room:Int) (cs:List Cel):Prop:= ∃a lv,hp= .pointer (some a)/\U0 σ a [tv,I room,I (J4 cs),lv]/\Sl 2 Xq σ lv cs
theorem O4.lift {hp tv:Value} {room:Int} {cs:List Cel} (h:O4 σ hp tv room cs) (b:SLe σ σ'):O4 σ' hp tv room cs:=by
 obtain ⟨a,lv,c,d,f⟩:=h;exact ⟨a,lv,c,d.lift b,f.lift b⟩
structure RowsIs (B : Nat) (D : Nat -> Prop) (σ : Q3) (w : World) (lv : Value) (cs : List Cel) : Prop where
  ex : ∃ vs, J8 B T.o 2 Q6H σ w lv (Zt vs cs) /\ Q5D B T.f σ w vs cs /\ X68 (lv :: vs) /\ ∀ k, D k ↔ ∃ v ∈ lv :: vs, v.ownBlock = some k
structure HeapIs (B : Nat) (D : Nat -> Prop) (σ : Q3) (w : World) (hp tv : Value) (room : Int) (cs : List Cel) : Prop where
  ex : ∃ b lv E, hp = .pointer (some ⟨b, 0, none⟩) /\ B <= b /\ Y9 σ w b [tv, I room, I (J4 cs), lv] /\ RowsIs B E σ w lv cs /\ ¬ E b /\ ∀ k, D k ↔ (k = b \/ E k)
variable {w' : World} {B : Nat} {D E : Nat -> Prop} {lv hp tv : Value} {room : Int} {cs : List Cel}
theorem RowsIs.mem (h:RowsIs B D σ w lv cs) {k:Nat} (a:D k):B<=k/\k<w.heap.size/\σ k=none:=by
 obtain ⟨vs,d,c,f,hD⟩:=h.ex;obtain ⟨v,hv,a⟩:=(hD k).1 a
 rcases List.mem_cons.1 hv with rfl | hv
 .exact d.mem a
 .obtain ⟨i,b,rfl⟩:=List.getElem_of_mem hv
  exact (c.2 i b (by rw[<-c.1];exact b)).mem a
theorem RowsIs.nx (h:RowsIs B D σ w lv cs) (k:Nxt E w σ w' σ') (c: ∀k,D k-> ¬E k):RowsIs B D σ' w' lv cs:=by
 obtain ⟨vs,l,d,f,hD⟩:=h.ex;exact ⟨vs,l.nx k fun i a=>c i ((hD i).2 ⟨lv,by simp,a⟩),⟨d.1,fun i a b=>(d.2 i a b).nx k fun j g=>c j ((hD j).2 ⟨vs[i],by simp[List.getElem_mem a],g⟩)⟩,f,hD⟩
theorem RowsIs.up (h:RowsIs B D σ w lv cs) (k:Stp w σ w' σ'):RowsIs B D σ' w' lv cs:=
 h.nx (E:=fun _=>False) (.of_stp k) fun _ _=>id
theorem RowsIs.freeze (h:RowsIs B D σ w lv cs) (A:X3 w σ): ∃σ',X3 w σ'/\SLe σ σ'/\Sl 2 Xq σ' lv cs/\ ∀k,¬D k->σ' k=σ k:=by
 obtain ⟨vs,p,g,y,hD⟩:=h.ex;obtain ⟨b,d⟩:=List.pairwise_cons.1 y;obtain ⟨σ1,C,q,s,o1⟩:=g.freeze A d
 have f:J8 B T.o 2 Q6H σ1 w lv (Zt vs cs):=p.shiftR q fun k a=>by
  rw[o1 k fun v j e=>b v j k a e];exact (p.mem a).2.2
 obtain ⟨J,H,r,t,o2⟩:=f.freeze C;refine ⟨J,H,q.more r,t.conv (R':=Xq) (ys:=cs) (by rw[Ca g.1]) fun i L o c z=>?_,fun k a=>?_⟩
 .have l:i<vs.length:=by rw[g.1];exact o
  obtain ⟨m,n,_⟩:=z;have e:(Zt vs cs)[i]=(cs[i].kind,vs[i]):=by simp[Zt]
  rw[e] at m n;exact ⟨vs[i],m,(s i l o).lift r,n⟩
 .rw[o2 k fun e=>a ((hD k).2 ⟨lv,by simp,e.symm⟩),o1 k fun v j e=>a ((hD k).2 ⟨v,by simp[j],e⟩)]
theorem HeapIs.mem (h:HeapIs B D σ w hp tv room cs) {k:Nat} (hk:D k):B<=k/\k<w.heap.size/\σ k=none:=by
 obtain ⟨b,lv,E,rfl,hB,a,c,hE,hD⟩:=h.ex
 rcases (hD k).1 hk with rfl | hk
 .exact ⟨hB,a.lt,a.1⟩
 .exact c.mem hk
theorem HeapIs.nx {F:Nat->Prop} (h:HeapIs B D σ w hp tv room cs) (k:Nxt F w σ w' σ') (a: ∀k,D k-> ¬F k):HeapIs B D σ' w' hp tv room cs:=by
 obtain ⟨b,lv,E,rfl,hB,d,f,hE,hD⟩:=h.ex;exact ⟨b,lv,E,rfl,hB,d.nx k (a b ((hD b).2 (.inl rfl))),f.nx k fun i c=>a i ((hD i).2 (.inr c)),hE,hD⟩
theorem HeapIs.up (h:HeapIs B D σ w hp tv room cs) (k:Stp w σ w' σ'):HeapIs B D σ' w' hp tv room cs:=
 h.nx (F:=fun _=>False) (.of_stp k) fun _ _=>id
theorem HeapIs.freeze (h:HeapIs B D σ w hp tv room cs) (l:X3 w σ): ∃σ',X3 w σ'/\SLe σ σ'/\O4 σ' hp tv room cs/\ ∀k,¬D k->σ' k=σ k:=by
 obtain ⟨b,lv,E,rfl,hB,d,j,hE,hD⟩:=h.ex;obtain ⟨σ1,o,m,g,o1⟩:=j.freeze l;have a:Y9 σ1 w b [tv,I room,I (J4 cs),lv]:=⟨by rw[o1 b hE];exact d.1,d.2⟩
 obtain ⟨q,p,f,i,n⟩:=a.freeze o;exact ⟨q,p,m.more f,⟨_,lv,rfl,i,g.lift f⟩,fun k c=>by rw[n k fun e=>c ((hD k).2 (.inl e)),o1 k fun e=>c ((hD k).2 (.inr e))]⟩
end Go.Proofs.Y
namespace Go.Emb
open Go.RowKit Go.Hm
variable {H : Type} {enc : TypeId × Value -> H} {P : Program} {W : World} {t : TypeId} {cs : List Value} {fuel : Nat} {x : DataW H × List MemPlace}
theorem X7s {c:Array Field} (j:P.underlying t=some (.struct c)) (h:DataW.trod enc P W 0 (fun _=>true) true fuel t cs=some x) (z:Wt P t x.1) (i:Nat) {o m:Nat} {b:TypeId}
 (s:(c[i]?).map (fun f=>(f.type,f.offset))=some (b,o)) (q:P.cellsOf b=m): ∃n y,DataW.trod enc P W 0 (fun _=>true) true n b ((cs.drop o).take m)=some y/\Wt P b y.1:=by
 obtain ⟨xs,n,_,rfl,A,k,l⟩:=DataW.trod_struct j h;obtain ⟨f,a,r⟩:=Option.map_eq_some_iff.1 s;cases r;have e:=l i f a;have g:i<xs.length:=by rw[k];exact (Array.getElem?_eq_some_iff.1 a).1
 rw[List.getElem?_eq_getElem g,q] at e;refine ⟨n,_,e,fun m w=>z m ?_⟩;simp only[DataW.weights,j];exact X1V (i:=i) (u:=f.type) (by rw[List.getElem?_map,Array.getElem?_toList,a];rfl) (by rw[List.getElem?_map,List.getElem?_eq_getElem g];rfl) m w
def Pw (_:Q3) (x:ActH) (cs:List Value):Prop:=cs=[I x.kind,S x.s,I x.n,I x.ref,I x.v.sort,I x.v.n,S x.v.s,I x.v.ref]/\(Yh x.kind/\x.s.length<=V5/\Yh x.n/\Yh x.ref)/\Yh x.v.sort/\Yh x.v.n/\x.v.s.length<=V5/\Yh x.v.ref
instance:Rep Pw:=⟨fun _ h=>h,fun h u hu=>by rw[h.1] at hu;simp at hu;rcases hu with rfl | rfl | rfl | rfl | rfl | rfl | rfl | rfl<;>rfl⟩
end Go.Emb
namespace Go.Proofs.Y
open Go.Emb Go.RowKit Go.Kd Go.Hm
variable {H : Type} {enc : TypeId × Value -> H} {W : World} {cs : List Value} {fuel : Nat} {x : DataW H × List MemPlace}
def X9b:Array Field:= #[⟨"Sort",T.e,0,false, "", "",0⟩,⟨"N",T.a2,1,false, "", "",8⟩,⟨"S",T.b,2,false, "", "",16⟩,⟨"Ref",T.e,3,false, "", "",32⟩]
theorem Q4l:P.underlying T.f=some (.struct X9b):=by kernel_rfl
theorem X1R:P.underlying T.a2=some (.int .i64):=by kernel_rfl
theorem X4i (h:DataW.trod enc P W 0 (fun _=>true) true fuel T.f cs=some x) (a:Wt P T.f x.1): ∃y,D0 (Mn W) y cs:=by
 obtain ⟨A,B,C,D,rfl⟩:=X9g (X4j Q4l X4 h);obtain ⟨_,_,g,w0⟩:=Ds (o:=0) Q4l h a 0 rfl Q8v;obtain ⟨_,_,i,w1⟩:=Ds (o:=1) Q4l h a 1 rfl X4;obtain ⟨_,_,j,z⟩:=Ds (o:=2) Q4l h a 2 rfl Q0Y;obtain ⟨_,_,k,E⟩:=Ds (o:=3) Q4l h a 3 rfl Q8v;obtain ⟨r,b,l⟩:=Av On g;obtain ⟨s,c,m⟩:=Av X1R i;obtain ⟨u,e,n⟩:=X4k Y6 j z;obtain ⟨w,f,q⟩:=Av On k
 simp at b c e f
 subst b c e f;exact ⟨⟨r,s,u,w⟩,rfl,l,m,n,q⟩
def X9a:Array Field:= #[⟨"Kind",T.e,0,false, "", "",0⟩,⟨"S",T.b,1,false, "", "",8⟩,⟨"N",T.a2,2,false, "", "",24⟩,⟨"Ref",T.e,3,false, "", "",32⟩,⟨"V",T.f,4,false, "", "",40⟩]
theorem Q4k:P.underlying T.m=some (.struct X9a):=by kernel_rfl
theorem X8G (h:DataW.trod enc P W 0 (fun _=>true) true fuel T.m cs=some x) (a:Wt P T.m x.1): ∃y,Pw (Mn W) y cs:=by
 obtain ⟨O,Q,R,U,V,X,Y,Z,rfl⟩:=X9h (X4j Q4k X4 h);obtain ⟨_,_,n,w0⟩:=Ds (o:=0) Q4k h a 0 rfl Q8v;obtain ⟨_,_,q,w1⟩:=Ds (o:=1) Q4k h a 1 rfl Q0Y;obtain ⟨_,_,r,w2⟩:=Ds (o:=2) Q4k h a 2 rfl X4;obtain ⟨_,_,s,w3⟩:=Ds (o:=3) Q4k h a 3 rfl Q8v;obtain ⟨_,_,u,N⟩:=X7s (o:=4) (m:=4) Q4k h a 4 rfl X4;obtain ⟨D,b,w⟩:=Av On n;obtain ⟨E,c,z⟩:=X4k Y6 q w1;obtain ⟨J,e,A⟩:=Av X1R r;obtain ⟨L,f,B⟩:=Av On s;obtain ⟨M,g,C⟩:=X4i u N
 simp at b c e f g
 obtain ⟨i,j,k,l⟩:=g;subst b c e f i j k l;exact ⟨⟨D,E,J,L,M⟩,rfl,⟨w,z,A,B⟩,C⟩
theorem X4Q:P.underlying T.a6=some (.slice T.m):=by kernel_rfl
variable {v : Value} {d : DataW H} {p : List MemPlace}
set_option maxRecDepth 100000 in
theorem X7i {base:Nat} (g:Value.okWide P W .any base T.a6 v) (h:DataW.Trod enc P W 0 (fun _=>true) true T.a6 v d p) (b:Wt P T.a6 d): ∃l,Sl 8 Pw (Mn W) v l:=by
 obtain ⟨a,n,c,rfl⟩:=WideShapes.okWide_slice X4Q g;unfold DataW.Trod at h;obtain ⟨fuel,h⟩:=h;obtain ⟨u,l,e,f⟩:=X9t (R:=Pw) (sz:=8) X4Q X4 L2 (fun _ _ _ h b=>X8G h b) h b
 simp[Value.cells] at e
 subst e;exact ⟨l,f⟩
set_option maxRecDepth 100000 in
theorem X8y {base:Nat} (b:Value.okWide P W .any base T.f v) (h:DataW.Trod enc P W 0 (fun _=>true) true T.f v d p) (c:Wt P T.f d): ∃y cs,v= .agg (List.toArray cs)/\D0 (Mn W) y cs:=by
 have a:=b;unfold Value.okWide at a;rw[Q4l] at a;obtain ⟨cs,rfl,_⟩:=a;unfold DataW.Trod at h;obtain ⟨fuel,h⟩:=h;obtain ⟨y,e⟩:=X4i h c;obtain ⟨cs⟩:=cs;exact ⟨y,cs,rfl,by simpa [Value.cells] using e⟩
end Go.Proofs.Y
namespace Go.Hm
open Go.Kd
def Ce (xs:List Nat) (n:Option Nat):List Nat:=match n with
 | none=>xs
 | some n=>if n∈xs then xs else xs++[n]
def Lt (tq:Val->Option Nat) (xs:List Nat) (vs:List Val):List Nat:=vs.foldl (fun xs v=>Ce xs (tq v)) xs
def B0 (out:Nat->List Val) (tq:Val->Option Nat) (v:Val):Nat->List Nat
 | 0=>Ce [] (tq v)
 | i+1=>match (B0 out tq v i)[i]? with
  | some r=>Lt tq (B0 out tq v i) (out r)
  | none=>B0 out tq v i
theorem Q6i {xs:List Nat} {n:Option Nat} (h:xs.Nodup):(Ce xs n).Nodup:=by
 unfold Ce;cases n with
 | none=>exact h
 | some n=>
  simp only
  split
  .exact h
  .rename_i hn
   rw[List.nodup_append];exact ⟨h,by simp,fun a d b c e=>by simp at c;subst c;exact hn (e▸d)⟩
theorem Q9G {xs:List Nat} {n:Option Nat} {x:Nat}:x∈Ce xs n↔x∈xs\/n=some x:=by
 unfold Ce;cases n with
 | none=>simp
 | some n=>
  simp only
  split
  .rename_i hn
   constructor
   .exact .inl
   .rintro (h | h)
    .exact h
    .cases h;exact hn
  .simp only[List.mem_append,List.mem_singleton,Option.some.injEq]
   exact or_congr Iff.rfl eq_comm
section
variable {out : Nat -> List Val} {tq : Val -> Option Nat} {v : Val}
theorem Is: ∀(vs:List Val) {xs:List Nat},xs.Nodup->(Lt tq xs vs).Nodup
 | [],_,h=>h
 | v::vs,_,h=>Is vs (Q6i h)
theorem Q12: ∀(vs:List Val) {xs:List Nat} {x:Nat},x∈Lt tq xs vs↔x∈xs\/ ∃v∈vs,tq v=some x
 | [],xs,x=>by simp[Lt]
 | v::vs,xs,x=>by
  show x∈Lt tq (Ce xs (tq v)) vs↔_
  rw[Q12 vs,Q9G];simp only[List.mem_cons,exists_eq_or_imp];rw[or_assoc]
theorem Ly: ∀i,(B0 out tq v i).Nodup
 | 0=>Q6i List.nodup_nil
 | i+1=>by
  unfold B0
  split
  .exact Is _ (Ly i)
  .exact Ly i
theorem X2W {i:Nat} (h:(B0 out tq v i).length<=i): ∀{j},i<=j->B0 out tq v j=B0 out tq v i:=by
 intro j c
 induction j with
 | zero=>
  have:i=0:=by omega
  subst this;rfl
 | succ j b=>
  by_cases e:i=j+1
  .subst e;rfl
  .have a:=b (by omega)
   rw[B0,a,List.getElem?_eq_none (by omega)]
theorem Gk {S:Nat->Prop} (a: ∀x,tq v=some x->S x) (b: ∀r,S r-> ∀p∈out r,∀x,tq p=some x->S x): ∀i,∀x∈B0 out tq v i,S x
 | 0,x,hx=>by
  unfold B0 at hx
  rcases Q9G.1 hx with hx | hx
  .cases hx
  .exact a x hx
 | i+1,x,hx=>by
  unfold B0 at hx
  split at hx
  .rename_i r d
   rcases (Q12 _).1 hx with hx | ⟨p,c,hx⟩
   .exact Gk a b i x hx
   .exact b r (Gk a b i r (List.mem_of_getElem? d)) p c x hx
  .exact Gk a b i x hx
theorem Q9C {n:Nat} {xs:List Nat} (h:xs.Nodup) (a: ∀x∈xs,x<n):xs.length<=n:=Go.Emb.G2 n xs h a
variable {n : Nat} (hn : ∀ p x, tq p = some x -> x < n)
include hn
theorem Q3O (i:Nat): ∀x∈B0 out tq v i,x<n:=Gk (S:=fun x=>x<n) (fun x h=>hn _ x h) (fun _ _ p _ x h=>hn p x h) i
theorem Q6s (i:Nat):(B0 out tq v i).length<=n:=Q9C (Ly i) (Q3O hn i)
end
end Go.Hm
namespace Go.Hm
open Go.Kd
abbrev Prs:=List (Nat×Nat)×Bool
theorem X7w {xs:List Nat} {x:Nat} (h:x∈xs):Ce xs (some x)=xs:=by unfold Ce;simp only;rw[if_pos h]
theorem X5N {xs:List Nat} {x:Nat} (h:x∉xs):Ce xs (some x)=xs++[x]:=by unfold Ce;simp only;rw[if_neg h]
def G5 (cs:List Cel) (r:Nat):Cel:=cs.getD r Cel.zero
def Wl (l:List Cla) (k:Q9) (i:Nat):Bool:= !decide (elem k=[])|| !((U2 l k).getD i Fld.zero).tr
def Q1D (l:List Cla) (c:Cel):List Nat:=(List.range c.vals.length).filter (Wl l c.kind)
def I2 (l:List Cla) (cs:List Cel) (r:Nat):List Val:=(Q1D l (G5 cs r)).map fun i=>(G5 cs r).vals.getD i Val.zero
def Fu (cs:List Cel) (r:Nat):Q9:=(G5 cs r).kind
def Wn (cs:List Cel) (v:Val):Option Nat:=if v.sort=4/\O5 cs v.ref=true then some v.ref.toNat else none
def Qh (l:List Cla) (cs:List Cel) (v:Val):List Nat:=B0 (I2 l cs) (Wn cs) v cs.length
def X3m (cs:List Cel):Prop:= ∀c∈cs,∀v∈c.vals,v.sort=4->O5 cs v.ref=true
theorem X40 {ok:Q9->Bool} {l:List Cla} {cs:List Cel} (h: ∀c∈cs,GoodC ok l cs c):X3m cs:=fun c d v g b=>by
 obtain ⟨i,f,rfl⟩:=List.mem_iff_getElem.1 g;have:=(h c d).fits i f;unfold G9 at this;simp only[Bool.and_eq_true,Bool.not_eq_true',decide_eq_false_iff_not] at this;have a:=this.1;unfold I1 at a
 split at a
 .rename_i e;rw[e] at b;exact absurd b (by decide)
 split at a
 .rename_i e;rw[e] at b;exact absurd b (by simp)
 split at a
 .rename_i e;rw[e.1] at b;exact absurd b (by simp)
 split at a
 .rename_i e;rw[e.1] at b;exact absurd b (by simp)
 split at a
 .unfold O6 at a
  split at a
  .assumption
  .exact absurd rfl a
 .exact absurd rfl a
variable {l : List Cla} {cs : List Cel} {v : Val}
theorem Q0h: ∀p x,Wn cs p=some x->x<cs.length:=fun p x h=>by
 unfold Wn at h
 split at h
 .rename_i a
  cases h;obtain ⟨i,e,b⟩:=L8.1 a.2;rw[e];exact b
 .cases h
theorem X62 {x:Nat} (h:Wn cs v=some x):v.sort=4/\v.ref=x/\x<cs.length:=by
 have b:=Q0h _ _ h;unfold Wn at h
 split at h
 .rename_i a
  cases h;obtain ⟨i,e,c⟩:=L8.1 a.2;exact ⟨a.1,by rw[e];rfl,b⟩
 .cases h
theorem Q9E {r:Nat} {p:Val} (h:p∈I2 l cs r):r<cs.length/\ ∃b:r<cs.length,p∈cs[r].vals:=by
 unfold I2 Q1D at h;simp only[List.mem_map,List.mem_filter,List.mem_range] at h;obtain ⟨i,⟨a,_⟩,e⟩:=h
 by_cases b:r<cs.length
 .have c:G5 cs r=cs[r]:=by unfold G5;rw[List.getD_eq_getElem?_getD,List.getElem?_eq_getElem b];rfl
  rw[c] at a e;refine ⟨b,b,?_⟩;rw[List.getD_eq_getElem?_getD,List.getElem?_eq_getElem a] at e;rw[<-e];exact List.getElem_mem a
 .have c:G5 cs r=Cel.zero:=by unfold G5;rw[List.getD_eq_getElem?_getD,List.getElem?_eq_none (by omega)];rfl
  rw[c] at a;exact absurd a (by simp[Cel.zero])
theorem Q5t {x:Nat} (h:x∈Qh l cs v):x<cs.length:=Q3O Q0h _ x h
theorem X5P:(Qh l cs v).length<=cs.length:=Q6s Q0h _
theorem X5Q:(Qh l cs v).Nodup:=Ly _
end Go.Hm
namespace Go.Hm
open Go.Kd
def Cj:Nat->Nat->Q9
 | 0,v=>[UInt8.ofNat v]
 | f+1,v=>if v<128 then [UInt8.ofNat v] else UInt8.ofNat (v % 128+128)::Cj f (v / 128)
def L9 (v:Nat):Q9:=Cj v v
theorem X0p: ∀(f g v:Nat),v<=f->v<=g->Cj f v=Cj g v
 | 0,g,v,h,_=>by
  have:v=0:=by omega
  subst this;cases g<;>simp[Cj]
 | f+1,0,v,_,h=>by
  have:v=0:=by omega
  subst this
  simp[Cj]
 | f+1,g+1,v,a,b=>by
  unfold Cj
  by_cases e:v<128
  .rw[if_pos e,if_pos e]
  .rw[if_neg e,if_neg e,X0p f g (v / 128) (by omega) (by omega)]
theorem X1T {v:Nat} (h:v<128):L9 v=[UInt8.ofNat v]:=by
 unfold L9;cases v with
 | zero=>rfl
 | succ n=>rw[Cj,if_pos h]
theorem X1S {v:Nat} (h:128<=v):L9 v=UInt8.ofNat (v % 128+128)::L9 (v / 128):=by
 obtain ⟨k,rfl⟩: ∃k,v=k+1:=⟨v-1,by omega⟩
 unfold L9;rw[Cj,if_neg (by omega),X0p k _ _ (by omega) (Nat.le_refl _)]
theorem X1U {v:Nat}:1<=(L9 v).length:=by
 by_cases h:v<128
 .rw[X1T h];simp
 .rw[X1S (by omega)];simp
theorem X0q: ∀(f k v:Nat),v<128 ^ (k+1)->(Cj f v).length<=k+1
 | 0,k,v,_=>by simp[Cj]
 | f+1,0,v,h=>by rw[Cj,if_pos (by simpa using h)];simp
 | f+1,k+1,v,h=>by
  rw[Cj]
  split
  .simp
  .have:=X0q f k (v / 128) (by rw[Nat.pow_succ] at h;omega)
   simpa using this
theorem H3 {v:Nat} (h:v<18446744073709551616):(L9 v).length<=10:=X0q v 9 v (by
 have:(18446744073709551616:Nat)<=128 ^ (9+1):=by decide
 omega)
def Nn (n:Int):Nat:=(n % 18446744073709551616).toNat
theorem Mk (n:Int):Nn n<18446744073709551616:=by unfold Nn;omega
theorem X0l {n:Nat} (h:n<18446744073709551616):Nn n=n:=by unfold Nn;omega
def Cl (n:Int):Nat:=if 0<=n then (2*n).toNat else (2*(-(n+1))+1).toNat
def M9 (s:Q9):Q9:=L9 s.length++s
def Co (b:Bool):Q9:=[if b then 1 else 0]
def I4 (num:Int->Int) (v:Val):Q9:=
 L9 (Nn v.sort)++
  (if v.sort=1 then L9 (Cl v.n) else if v.sort=2 then Co (decide (v.n=1)) else if v.sort=3 then M9 v.s else if v.sort=4 then L9 (Nn (num v.ref)) else [])
def Yp {α:Type} [DecidableEq α] (o:List α) (x:α):List α:=if x∈o then o else o++[x]
def F2 {α:Type} [DecidableEq α] (o xs:List α):List α:=xs.foldl Yp o
def M4 (l:List Cla) (cs:List Cel) (vs:List Val):List Nat:=vs.foldl (fun o v=>F2 o (Qh l cs v)) []
def V7 (cs:List Cel) (rs:List Nat):List Q9:=F2 [] (rs.map (Fu cs))
def Hx (rs:List Nat) (n:Int):Int:=(((rs.findIdx? fun (x:Nat)=>decide ((x:Int)=n)).getD 0:Nat):Int)
def Q4a (l:List Cla) (k:Q9):Q9:=M9 k++M9 (B6 l k)
def Ni (cs:List Cel) (a:List Q9) (r:Nat):Q9:=L9 (Nn (Emb.D2 (a.findIdx? fun k=>decide (k=Fu cs r))))++(if elem (Fu cs r)=[] then [] else L9 (G5 cs r).vals.length)
def Pu (num:Int->Int) (l:List Cla) (cs:List Cel) (vs:List Val) (rs:List Nat):Q9:=
 let a:=V7 cs rs
 L9 a.length++a.flatMap (Q4a l)++L9 rs.length++rs.flatMap (Ni cs a)++rs.flatMap (fun r=>(I2 l cs r).flatMap (I4 num))++L9 vs.length++vs.flatMap (I4 num)
section
variable {α : Type} [DecidableEq α] {o xs : List α} {x : α}
theorem X3o {y:α}:y∈Yp o x↔y∈o\/y=x:=by
 unfold Yp
 split
 .rename_i h
  exact ⟨.inl,fun e=>e.elim id fun e=>e▸h⟩
 .simp
theorem X50 (h:o.Nodup):(Yp o x).Nodup:=by
 unfold Yp
 split
 .exact h
 .rename_i f
  exact List.nodup_append.2 ⟨h,by simp,fun a d b c e=>f (by simp at c;rw[<-c,<-e];exact d)⟩
theorem Dz {y:α}: ∀{xs o:List α},y∈F2 o xs↔y∈o\/y∈xs
 | [],o=>by simp[F2]
 | x::xs,o=>by
  show y∈F2 (Yp o x) xs↔_
  rw[Dz,X3o,List.mem_cons,or_assoc]
theorem Q2G: ∀{xs o:List α},o.Nodup->(F2 o xs).Nodup
 | [],o,h=>h
 | x::xs,o,h=>Q2G (xs:=xs) (X50 h)
theorem Q4J: ∀{xs o:List α},(o++xs).Nodup->F2 o xs=o++xs
 | [],o,_=>by simp[F2]
 | x::xs,o,h=>by
  have a:x∉o:=fun e=>by
   rw[List.nodup_append] at h;exact h.2.2 x e x (by simp) rfl
  show F2 (Yp o x) xs=_
  rw[Yp,if_neg a,Q4J (by simpa using h)]
  simp
theorem Q4K {i:Nat} (a:i<xs.length):F2 o (xs.take (i+1))=Yp (F2 o (xs.take i)) xs[i]:=by
 unfold F2;rw[List.take_add_one,List.getElem?_eq_getElem a,Option.toList_some,List.foldl_append];rfl
end
section
variable {l : List Cla} {cs : List Cel} {vs : List Val} {v : Val}
theorem X2Y:M4 l cs [v]=Qh l cs v:=by
 show F2 [] (Qh l cs v)=_
 rw[Q4J (by simpa using X5Q)]
 rfl
theorem X2X {r:Nat}:r∈M4 l cs vs↔ ∃v∈vs,r∈Qh l cs v:=by
 have: ∀(vs:List Val) (o:List Nat),r∈vs.foldl (fun o v=>F2 o (Qh l cs v)) o↔r∈o\/ ∃v∈vs,r∈Qh l cs v:=by
  intro vs
  induction vs with
  | nil=>intro o;simp
  | cons a vs b=>
   intro o;rw[List.foldl_cons,b,Dz];simp only[List.mem_cons,exists_eq_or_imp,or_assoc]
 rw[M4,this]
 simp
theorem Dv:(M4 l cs vs).Nodup:=by
 have: ∀(vs:List Val) (o:List Nat),o.Nodup->(vs.foldl (fun o v=>F2 o (Qh l cs v)) o).Nodup:=by
  intro vs
  induction vs with
  | nil=>intro o h;exact h
  | cons a vs b=>intro o h;exact b _ (Q2G h)
 exact this vs [] List.nodup_nil
theorem Lz {r:Nat} (h:r∈M4 l cs vs):r<cs.length:=by
 obtain ⟨v,_,h⟩:=X2X.1 h;exact Q5t h
end
end Go.Hm
namespace Go.Emb
open Go.RowKit Go.Hm
variable {P : Program} {w : World} {K : Value -> World -> Prop}
theorem X3q (n:Int):(BitVec.ofInt 64 n &&& BitVec.ofInt 64 1).toNat=(n % 2).toNat:=by
 rw[BitVec.toNat_and,BitVec.toNat_ofInt,BitVec.toNat_ofInt];have e:((1:Int) % ((2 ^ 64:Nat):Int)).toNat=1:=by decide
 rw[e,Nat.and_one_is_mod];omega
theorem X8R {t:TypeId} {a b:Operand} {n:Int} (h:K (I (n % 2)) w):Y7 P .and t a b (I n) (I 1) w K:=by
 have e:Y7 P .and t a b (I n) (I 1) w K=K (I (n % 2)) w:=Y4 (by
  have d:(BitVec.ofInt IntKind.i64.bits n &&& BitVec.ofInt IntKind.i64.bits 1).toNat=(n % 2).toNat:=X3q n;have f:IntKind.i64.wrap ((n % 2).toNat:Int)=n % 2:=by rw[Ql Q5 Q5];omega
  have c:((n % 2 ^ IntKind.i64.bits).toNat &&& 1 % 2 ^ IntKind.i64.bits)=(n % 2).toNat:=by
   show ((n % 18446744073709551616).toNat &&& 1)=_
   rw[Nat.and_one_is_mod];omega
  simp[eqGuard,binOp,Op.intBits,c]
  rw[show max (n % 2) 0=n % 2 by omega,Ql Q5 Q5])
 rw[e];exact h
end Go.Emb
namespace Go.Proofs.Y
open Go.Emb Go.RowKit Go.Kd Go.Hm
variable {w w' : World} {K : Value -> World -> Prop} {σ σ' : Q3} {hp tv : Value} {room : Int} {cs : List Cel}
theorem X8u:(P.fieldsOf T.f).toList=[⟨"Sort",T.e,0,false, "", "",0⟩,⟨"N",T.a2,1,false, "", "",8⟩,⟨"S",T.b,2,false, "", "",16⟩,⟨"Ref",T.e,3,false, "", "",32⟩]:=by kernel_rfl
set_option maxRecDepth 100000 in
theorem X75 (a b:Val):(Op.eqFields 9999 [I a.sort,I a.n,S a.s,I a.ref].toArray [I b.sort,I b.n,S b.s,I b.ref].toArray (P.fieldsOf T.f).toList).run P w= .ok (decide (a=b)) w:=by
 rw[X8u]
 have:=Q0w (P:=P) (w:=w) (d:=9999) (xs:=[I a.sort,I a.n,S a.s,I a.ref].toArray) (ys:=[I b.sort,I b.n,S b.s,I b.ref].toArray) (f:=⟨"Sort",T.e,0,false, "", "",0⟩) L2 rfl rfl (Q70 (k:= .i64) X4 _ _)
  (Q0w (f:=⟨"N",T.a2,1,false, "", "",8⟩) L2 rfl rfl (Q70 (k:= .i64) X4 _ _) (Q0w (f:=⟨"S",T.b,2,false, "", "",16⟩) L2 rfl rfl (X76 Y6 _ _) (Q0w (f:=⟨"Ref",T.e,3,false, "", "",32⟩) L2 rfl rfl (Q70 (k:= .i64) X4 _ _) X74)))
 rw[this]
 congr 1
 obtain ⟨c,e,g,h⟩:=a;obtain ⟨i,j,m,o⟩:=b
 simp[Bool.decide_and]
theorem Bz {a b d:Int} {c:Q9}: ∀u∈[I a,I b,S c,I d],u.oneCell'=true:=by
 intro u e;simp only[List.mem_cons,List.not_mem_nil,or_false] at e
 rcases e with rfl | rfl | rfl | rfl<;>rfl
set_option maxRecDepth 100000 in
theorem Ck {j k:Operand} {a b d e f i:Int} {c g:Q9} (h:K (.bool (decide ((⟨a,b,c,d⟩:Val)=⟨e,f,g,i⟩))) w):Y7 P .eql T.f j k (.agg [I a,I b,S c,I d].toArray) (.agg [I e,I f,S g,I i].toArray) w K:=
 X77 X4 X4 X4 (X75 ⟨a,b,c,d⟩ ⟨e,f,g,i⟩) h
theorem Sl.elV {v:Value} {xs:List Val} (h:Sl 4 D0 σ v xs) {i:Nat} (c:i<xs.length):U0 σ (Mt 4 v i) [I xs[i].sort,I xs[i].n,S xs[i].s,I xs[i].ref]/\D0 σ xs[i] [I xs[i].sort,I xs[i].n,S xs[i].s,I xs[i].ref]:=by
 obtain ⟨cs,a,d,rfl,b⟩:=h.el c;exact ⟨a,rfl,b⟩
theorem Sl.elO {v:Value} {xs:List Cel} (h:Sl 2 Xq σ v xs) {i:Nat} (e:i<xs.length): ∃a,U0 σ (Mt 2 v i) [S xs[i].kind,a]/\Sl 4 D0 σ a xs[i].vals/\xs[i].kind.length<=V5:=by
 obtain ⟨cs,b,f,a,rfl,c,d⟩:=h.el e;exact ⟨a,b,c,d⟩
theorem Q8T (b:X3 w σ) (hh:O4 σ hp tv room cs) (h:K tv w):Q0 P F.aQ [hp] w K:=Q2d (by
 obtain ⟨a,e,rfl,c,d⟩:=hh;unfold Rn X9;rw[H2,fa];exact ld b c rfl h)
theorem X6P (c:X3 w σ) (hh:O4 σ hp tv room cs) (e:0<=O3 room cs) (f:room<=1048576) (h: ∀w',Below w.heap.size w w'->K (I (O3 room cs)) w'):Q0 P F.aB [hp] w K:=Q3x (by
 obtain ⟨a,k,rfl,i,j⟩:=hh;unfold Bb;simp only[Y5,X8];unfold X2;have g:=E7 cs;unfold O3 at*;refine W2 c ?_
 (repeat refine V0 Vf ?_)
 (intros;(repeat (rename_i d;subst d));(try simp only[↓M2,M2,Mb,reduceIte]))
 rename_i m b;rw[Ql Q5 Q5];exact h _ b.stp.bel)
theorem Q8R (c:X3 w σ) (hh:O4 σ hp tv room cs) {r:Int} (h:K (.bool (O5 cs r)) w):Q0 P F.aE [hp,I r] w K:=Q4B (by
 obtain ⟨a,f,rfl,d,e⟩:=hh;unfold Fo Z8 X5 X6 X1 X2;refine Xg ?_;unfold O5 at h;cases b:decide ((0:Int)<=r) with
 | false=>
  rw[b] at h
  (try simp only[↓M1,M1,Mb,reduceIte])
  exact h
 | true=>
  rw[b] at h
  (try simp only[↓M1,M1,Mb,reduceIte])
  refine ld c d rfl ?_;refine Q6 e ?_;refine Z4 ?_
  (try simp only[↓M1,M1,Mb,reduceIte])
  exact h)
theorem Aa (d:X3 w σ) (hh:O4 σ hp tv room cs) {r:Int} (h:K (S (O6 cs r)) w):Q0 P F.w [hp,I r] w K:=Q3w (by
 unfold Ba X9;refine Q8R d hh ?_;unfold O6 at h;cases b:O5 cs r with
 | false=>rw[b] at h;(try simp only[↓M1,M1,Mb,reduceIte]);exact h
 | true=>
  rw[b] at h;obtain ⟨i,rfl,c⟩:=L8.1 b;rw[W8 c] at h;obtain ⟨a,j,rfl,f,e⟩:=hh;obtain ⟨k,g,_,_⟩:=Sl.elO e c
  (try simp only[↓M1,M1,Mb,reduceIte])
  refine ld d f rfl ?_;refine Z1 e c ?_
  (try simp only[↓M1,M1,Mb,reduceIte])
  exact ld d g rfl h)
theorem X1n (d:X3 w σ) (hh:O4 σ hp tv room cs) {r:Int} (h:K (I (Og cs r)) w):Q0 P F.b1 [hp,I r] w K:=Q3y (by
 unfold Bc X9 X6;refine Q8R d hh ?_;unfold Og at h;cases b:O5 cs r with
 | false=>rw[b] at h;(try simp only[↓M1,M1,Mb,reduceIte]);exact h
 | true=>
  rw[b] at h;obtain ⟨i,rfl,c⟩:=L8.1 b;rw[W8 c] at h;obtain ⟨a,k,rfl,f,e⟩:=hh;obtain ⟨m,g,j,_⟩:=Sl.elO e c
  (try simp only[↓M1,M1,Mb,reduceIte])
  refine ld d f rfl ?_;refine Z1 e c ?_
  (try simp only[↓M1,M1,Mb,reduceIte])
  refine ld d g rfl ?_;exact Q6 j h)
theorem X1o (e:X3 w σ) (hh:O4 σ hp tv room cs) {r i:Int} (h:K (I (H8 cs r i)) w):Q0 P F.aR [hp,I r,I i] w K:=Q2e (by
 unfold Ro Z8 X5 X6 X1 X2;refine Q8R e hh ?_;unfold H8 at h;cases c:O5 cs r with
 | false=>rw[c] at h;(try simp only[↓M1,M1,Mb,reduceIte]);exact h
 | true=>
  rw[c] at h;obtain ⟨j,rfl,d⟩:=L8.1 c;rw[W8 d] at h;obtain ⟨a,o,rfl,k,g⟩:=hh;obtain ⟨p,m,n,_⟩:=Sl.elO g d
  (try simp only[↓M1,M1,Mb,reduceIte])
  by_cases f:i<0
  .rw[decide_eq_true f]
   (try simp only[↓M1,M1,Mb,reduceIte])
   rw[if_pos rfl,if_neg Q5] at h;exact h
  .rw[decide_eq_false f]
   (try simp only[↓M1,M1,Mb,reduceIte])
   refine ld e k rfl ?_;refine Z1 g d ?_
   (try simp only[↓M1,M1,Mb,reduceIte])
   refine ld e m rfl ?_;refine Q6 n ?_;refine Xg ?_
   (try simp only[↓M1,M1,Mb,reduceIte])
   refine Q4 (fun b=>?_) (fun b=>?_)
   .have b:(cs[j].vals.length:Int)<=i:=by simpa using b
    rw[if_pos rfl,if_neg Q5] at h;exact h
   .have b: ¬(cs[j].vals.length:Int)<=i:=by simpa using b
    rw[if_pos rfl,if_pos Q5] at h;exact h)
theorem Q8Q (t:X3 w σ) (hh:O4 σ hp tv room cs) {r i:Int} (h: ∀w' σ',Stp w σ w' σ'->K (.tuple #[.agg [I (Ll cs r i).sort,I (Ll cs r i).n,S (Ll cs r i).s,I (Ll cs r i).ref].toArray,I (H8 cs r i)]) w'):Q0 P F.ai [hp,I r,I i] w K:=Q4z (by
 unfold Fl X9 J5 X1;refine D6 t fun b w1 σ1 u c o=>?_;have k:=hh.lift ⟨c.le⟩;refine X1o c.sat k ?_;refine Oo ?_;unfold Ll at h
 by_cases g:H8 cs r i=0
 .have e:decide (H8 cs r i=0)=true:=decide_eq_true g
  rw[if_pos g,g] at h;obtain ⟨a,E,rfl,z,v⟩:=k;simp only[e,Bool.not_true,↓M1,M1,Mb,reduceIte];obtain ⟨j,m,rfl,rfl,p,q⟩:=Dt g;rw[W8 p,Int.toNat_natCast] at h;obtain ⟨H,A,y,_⟩:=Sl.elO v p;obtain ⟨B,C⟩:=Sl.elV y q;refine ld c.sat z rfl ?_;refine Z1 v p ?_
  (try simp only[↓M1,M1,Mb,reduceIte])
  refine ld c.sat A rfl ?_;refine Z1 y q ?_;refine Y8 c.sat B rfl ?_;refine Qm o c (S9 u (Stp.refl t)) rfl rfl (Rep.one C) fun D d f=>?_;refine W9 f rfl ?_;have e:cs[j].vals.getD m Val.zero=cs[j].vals[m]:=by rw[List.getD_eq_getElem?_getD,List.getElem?_eq_getElem q];rfl
  rw[e] at h;exact h _ _ d.stp
 .have e:decide (H8 cs r i=0)=false:=by simpa using g
  rw[if_neg g] at h;simp only[e,Bool.not_false,↓M1,M1,Mb,reduceIte];refine W5 (cells:= #[I 0,I 0,S [],I 0]) X4 ?_;refine Qm (ds:=[I 0,I 0,S [],I 0]) o c (S9 u (Stp.refl t)) rfl rfl Bz fun D d f=>?_;refine W9 f rfl ?_;exact h _ _ d.stp)
theorem X3A {k:Q9} (o:X3 w σ) (h: ∀w' σ',Stp w σ w' σ'->K (.agg [I (O8 k).sort,I (O8 k).n,S (O8 k).s,I (O8 k).ref].toArray) w'):Q0 P F.cI [S k] w K:=X11 (by
 unfold Q4W U6;refine D6 o fun b w1 σ1 q g i=>?_;have hB:=S9 q (Stp.refl o);unfold O8 at h
 have a: ∀(n:Int) (t:K (.agg [I n,I 0,S [],I 0].toArray)=K (.agg [I n,I 0,S [],I 0].toArray)),(∀w' σ',Stp w σ w' σ'->K (.agg [I n,I 0,S [],I 0].toArray) w')->U3 P T.f (.pointer (some ⟨b,0,none⟩)) (.agg #[I n,I 0,S [],I 0]) w1 fun _ m=>Z9 P T.f (.pointer (some ⟨b,0,none⟩)) m fun r=>K r m:=fun n _ p=>
  Qm (ds:=[I n,I 0,S [],I 0]) i g hB rfl rfl Bz fun m f j=>W9 j rfl (p _ _ f.stp)
 refine K6 ?_
 by_cases c:k=Yw
 .simp only[if_pos c] at h
  rw[show decide (k=[105,110,116])=true from decide_eq_true c]
  refine J1 ?_;refine W5 (cells:= #[I 1,I 0,S [],I 0]) X4 ?_;exact a 1 rfl h
 simp only[if_neg c] at h;rw[show decide (k=[105,110,116])=false from decide_eq_false c]
 refine Z7 ?_;refine K6 ?_
 by_cases d:k=Wi
 .simp only[if_pos d] at h
  rw[show decide (k=[98,111,111,108])=true from decide_eq_true d]
  refine J1 ?_;refine W5 (cells:= #[I 2,I 0,S [],I 0]) X4 ?_;exact a 2 rfl h
 simp only[if_neg d] at h;rw[show decide (k=[98,111,111,108])=false from decide_eq_false d]
 refine Z7 ?_;refine K6 ?_
 by_cases e:k=B2
 .simp only[if_pos e] at h
  rw[show decide (k=[116,101,120,116])=true from decide_eq_true e]
  refine J1 ?_;refine W5 (cells:= #[I 3,I 0,S [],I 0]) X4 ?_;exact a 3 rfl h
 .simp only[if_neg e] at h
  rw[show decide (k=[116,101,120,116])=false from decide_eq_false e]
  refine Z7 ?_;refine W5 (cells:= #[I 0,I 0,S [],I 0]) X4 ?_;exact a 0 rfl h)
def V2 (s:Q9):Bool:=decide (s.length<=4096)&&Lib.validD s
theorem X2x (hh:O4 σ hp tv room cs) (r:Int):(O6 cs r).length<=V5:=by
 unfold O6
 split
 .rename_i c
  obtain ⟨i,rfl,b⟩:=L8.1 c;rw[W8 b];obtain ⟨a,f,rfl,e,d⟩:=hh;exact (Sl.elO d b).choose_spec.2.2
 .exact Nat.zero_le _
theorem X7r (hh:O4 σ hp tv room cs) (v:Val):(I1 V2 cs v).length<=V5:=by
 unfold I1
 split
 .decide
 split
 .decide
 split
 .decide
 split
 .decide
 split
 .exact X2x hh _
 .exact Nat.zero_le _
theorem Q9t (n:Int):n=n % 2↔n=0\/n=1:=by omega
set_option maxHeartbeats 1000000 in
theorem X83 (Y:X3 w σ) (X:Glb σ) (hh:O4 σ hp tv room cs) {v:Val} (W:v.s.length<=V5) (h: ∀w' σ',Stp w σ w' σ'->K (S (I1 V2 cs v)) w'):Q0 P F.bo [hp, .agg [I v.sort,I v.n,S v.s,I v.ref].toArray] w K:=Q5q (by
 unfold Ig Z8 X9 X6 X1 X2;refine Z6 Y fun q w1 σ1 g k=>?_;have f:=g.sat;refine Y8 f k rfl ?_;refine W5 (cells:= #[I 0,I 0,S [],I 0]) X4 ?_;refine Ck ?_;unfold I1 at h
 by_cases t:v=Val.zero
 .rw[if_pos t] at h
  have:decide ((⟨v.sort,v.n,v.s,v.ref⟩:Val)=⟨0,0,[],0⟩)=true:=decide_eq_true t;rw[this];exact J1 (h _ _ g)
 rw[if_neg t] at h;have:decide ((⟨v.sort,v.n,v.s,v.ref⟩:Val)=⟨0,0,[],0⟩)=false:=decide_eq_false t;rw[this];refine Z7 ?_;refine Y8 f k rfl ?_;refine L1 ?_;refine ld f k rfl ?_;refine W5 (cells:= #[I 1,I v.n,S [],I 0]) X4 ?_;refine Ck ?_
 by_cases u:v=⟨1,v.n,[],0⟩
 .rw[if_pos u] at h
  have:decide ((⟨v.sort,v.n,v.s,v.ref⟩:Val)=⟨1,v.n,[],0⟩)=true:=decide_eq_true u;rw[this];exact J1 (h _ _ g)
 rw[if_neg u] at h;have:decide ((⟨v.sort,v.n,v.s,v.ref⟩:Val)=⟨1,v.n,[],0⟩)=false:=decide_eq_false u;rw[this];refine Z7 ?_;refine Y8 f k rfl ?_;refine L1 ?_;refine ld f k rfl ?_;refine X8R ?_;refine W5 (cells:= #[I 2,I (v.n % 2),S [],I 0]) X4 ?_;refine Ck ?_
 have p:(v=⟨2,v.n % 2,[],0⟩)↔(v=⟨2,v.n,[],0⟩/\(v.n=0\/v.n=1)):=by
  obtain ⟨a,b,c,d⟩:=v;simp only[Val.mk.injEq,true_and];constructor
  .rintro ⟨C,D,p⟩;exact ⟨⟨C,p⟩,(Q9t b).1 D⟩
  .rintro ⟨⟨C,p⟩,D⟩;exact ⟨C,(Q9t b).2 D,p⟩
 by_cases y:v=⟨2,v.n % 2,[],0⟩
 .rw[if_pos (p.1 y)] at h
  have:decide ((⟨v.sort,v.n,v.s,v.ref⟩:Val)=⟨2,v.n % 2,[],0⟩)=true:=decide_eq_true y;rw[this];exact J1 (h _ _ g)
 rw[if_neg (fun e=>y (p.2 e))] at h;have:decide ((⟨v.sort,v.n,v.s,v.ref⟩:Val)=⟨2,v.n % 2,[],0⟩)=false:=decide_eq_false y;rw[this];refine Z7 ?_;refine Y8 f k rfl ?_;refine L1 ?_;refine ld f k rfl ?_;refine W5 (cells:= #[I 3,I 0,S v.s,I 0]) X4 ?_;refine Ck ?_
 have j: ∀{B R},Stp w σ B R->SLe σ1 R->(∀w' σ',Stp w σ w' σ'->K (S (if v=⟨4,0,[],v.ref⟩ then O6 cs v.ref else [])) w')->Q8 P T.f (.pointer (some q)) B fun J w=>
  Q8 P T.e (.pointer (some (q.add 3))) w fun L w=>
  R9 P T.f [(0,(.int .i64 4)),(3,L)] w fun M w=>
  Y7 P .eql T.f (.tmp 40) (.tmp 43) J M w fun N w=>
  X0 N (
   Q8 P T.e (.pointer (some (q.add 3))) w fun O w=>
   Q0 P F.w [hp,O] w fun Q w=>
   K Q w) (
   K (.string ⟨#[]⟩) w):=by
  intro B R i H h;have m:=k.lift H;refine Y8 i.sat m rfl ?_;refine ld i.sat m rfl ?_;refine W5 (cells:= #[I 4,I 0,S [],I v.ref]) X4 ?_;refine Ck ?_
  by_cases A:v=⟨4,0,[],v.ref⟩
  .rw[if_pos A] at h
   have:decide ((⟨v.sort,v.n,v.s,v.ref⟩:Val)=⟨4,0,[],v.ref⟩)=true:=decide_eq_true A;rw[this];refine J1 ?_;refine ld i.sat m rfl ?_;exact Aa i.sat (hh.lift ⟨i.le⟩) (h _ _ i)
  .rw[if_neg A] at h
   have:decide ((⟨v.sort,v.n,v.s,v.ref⟩:Val)=⟨4,0,[],v.ref⟩)=false:=decide_eq_false A;rw[this];exact Z7 (h _ _ i)
 by_cases z:v=⟨3,0,v.s,0⟩
 .have:decide ((⟨v.sort,v.n,v.s,v.ref⟩:Val)=⟨3,0,v.s,0⟩)=true:=decide_eq_true z
  rw[this]
  (try simp only[↓M1,M1,Mb,reduceIte])
  refine ld f k rfl ?_;refine Kr Y6 ?_;refine Q8B ?_
  by_cases U:v.s.length<=4096
  .rw[decide_eq_true (show (v.s.length:Int)<=4096 by omega)]
   (try simp only[↓M1,M1,Mb,reduceIte])
   refine ld f k rfl ?_;refine Q1H W (X.tabs _ (fun b o e=>f b o (g.le b o e))) fun B E=>?_;have r:=g.trans (Stp.of_below f E);cases V:Lib.validD v.s with
   | true=>
    (try simp only[↓M1,M1,Mb,reduceIte])
    rw[if_pos ⟨z,by simp[V2,V,U]⟩] at h
    exact h _ _ r
   | false=>
    (try simp only[↓M1,M1,Mb,reduceIte])
    rw[if_neg (by rintro ⟨_,e⟩;simp[V2,V] at e)] at h
    exact j r (SLe.refl _) h
  .rw[decide_eq_false (show¬(v.s.length:Int)<=4096 by omega)]
   (try simp only[↓M1,M1,Mb,reduceIte])
   rw[if_neg (by rintro ⟨_,e⟩;simp[V2,U] at e)] at h
   exact j g (SLe.refl _) h
 .have:decide ((⟨v.sort,v.n,v.s,v.ref⟩:Val)=⟨3,0,v.s,0⟩)=false:=decide_eq_false z
  rw[this]
  (try simp only[↓M1,M1,Mb,reduceIte])
  rw[if_neg (fun e=>z e.1)] at h;exact j g (SLe.refl _) h)
theorem Q0e {β:Type} {xs:List Val} {v f:Value} (b:β->Val->Bool×β) (m:β) (a:β->World->Prop) (D:Nat->Prop) (l: ∀s w,a s w->X3 w σ) (y:a m w) (u:Sl 4 D0 σ v xs)
 (z: ∀s x cs (w1:World) (K:Value->World->Prop),x∈xs->Kpt D w w1->a s w1->D0 σ x cs->cs.length=4->(∀w',Kpt D w w'->a (b s x).2 w'->K (.bool (b s x).1) w')->J0 P f [.agg cs.toArray] w1 K)
 (h: ∀w',Kpt D w w'->a (V4 b m xs 0).2 w'->K (I (D2 (V4 b m xs 0).1)) w'):Q0 P F.a7 [v,f] w K:=Vb (by
 unfold Qc J5 V1 X6 X2
 ((try simp only[↓M1,M1,Mb,reduceIte]);repeat ((first | refine ld Q7 Q7 rfl ?_ | refine Y3 Q7 Q7 rfl ?_ | refine Q6 Q7 ?_);(try simp only[↓M1,M1,Mb,reduceIte])))
 refine V3 xs.length (fun n w'=>Kpt D w w'/\ ∃s,a s w'/\V4 b m xs 0=V4 b s (xs.drop n) n) ⟨Kpt.refl,m,y,rfl⟩ fun n w1 d E i=>?_;obtain ⟨t,s,i,e⟩:=i;have r:=l s w1 i
 ((try simp only[↓M1,M1,Mb,reduceIte]);repeat ((first | refine ld Q7 Q7 rfl ?_ | refine Y3 Q7 Q7 rfl ?_ | refine Q6 Q7 ?_);(try simp only[↓M1,M1,Mb,reduceIte])))
 refine Q4 (fun q=>?_) (fun q=>?_)
 .have c:n<xs.length:=by simpa using q
  refine E4 u c fun p cs A g B=>?_;refine Y8 r A g ?_;refine z s xs[n] cs w1 _ (List.getElem_mem c) t i B g fun C k j=>?_;rw[List.drop_eq_getElem_cons c] at e;simp only[V4] at e;refine Q4 (fun o=>?_) (fun o=>?_)
  .rw[o] at e
   have:=h C k;rw[e] at this;exact this j
  .rw[o] at e
   ((try simp only[↓M1,M1,Mb,reduceIte]);repeat ((first | refine ld Q7 Q7 rfl ?_ | refine Y3 Q7 Q7 rfl ?_ | refine Q6 Q7 ?_);(try simp only[↓M1,M1,Mb,reduceIte])))
   exact Z0 u.max c ⟨k,_,j,by simpa using e⟩
 .have c: ¬n<xs.length:=by simpa using q
  rw[List.drop_eq_nil_of_le Q5] at e;have:=h w1 t;rw[e] at this;exact this i)
theorem Km {β:Type} {xs:List Val} {v f:Value} (b:β->Val->Bool×β) (d:β) (a:β->World->Prop) (D:Nat->Prop) (c: ∀s w,a s w->X3 w σ) (e:a d w) (k:Sl 4 D0 σ v xs)
 (g: ∀s x cs (w1:World) (K:Value->World->Prop),x∈xs->Kpt D w w1->a s w1->D0 σ x cs->cs.length=4->(∀w',Kpt D w w'->a (b s x).2 w'->K (.bool (b s x).1) w')->J0 P f [.agg cs.toArray] w1 K)
 (h: ∀w',Kpt D w w'->a (V4 b d xs 0).2 w'->K (.bool (V4 b d xs 0).1.isSome) w'):Q0 P F.h [v,f] w K:=Je (by
 unfold P9 X1;refine Q0e b d a D c e k g fun w1 j i=>?_
 (try simp only[↓M1,M1,Mb,reduceIte])
 rw[Cg];exact h w1 j i)
theorem Ws {xs:List Val} {v f:Value} (p:Val->Bool) (hs:X3 w σ) (hv:Sl 4 D0 σ v xs)
 (hf: ∀x cs (w1:World) (K:Value->World->Prop),x∈xs->X3 w1 σ->D0 σ x cs->cs.length=4->(∀w',Below w1.heap.size w1 w'->K (.bool (p x)) w')->J0 P f [.agg cs.toArray] w1 K)
 (h: ∀w',Below w.heap.size w w'->K (.bool (xs.any p)) w'):Q0 P F.h [v,f] w K:=by
 refine Km (fun (_:Unit) x=>(p x,())) () (fun _ w'=>Below w.heap.size w w') (fun _=>False) (fun _ w' hb=>hs.below hb) (Below.refl _ _) hv (fun s x cs w1 K hx hk hi hr hl hK=>hf x cs w1 K hx (hs.below hi) hr hl fun w' hb=>hK w' (.of_below (bt hi hb)) (bt hi hb)) fun w' hk hi=>?_;rw[Qq]
 simpa using h w' hi
variable {l : List Cla}
theorem X81 (p:X3 w σ) (j:Glb σ) (hh:O4 σ hp tv room cs) (r:Tab σ tv l) (ok:Ok l) {v:Val} {k:Q9} (i:v.s.length<=V5) (m:k.length<=V5) (h: ∀w' σ',Stp w σ w' σ'->K (.bool (G9 V2 l cs v k)) w'):Q0 P F.bW [hp, .agg [I v.sort,I v.n,S v.s,I v.ref].toArray,S k] w K:=Q3v (by
 unfold Cz Z8 X5 U6;refine Z6 p fun q w1 σ1 c o=>?_;refine Y8 c.sat o rfl ?_;refine X83 c.sat (j.lift ⟨c.le⟩) (hh.lift ⟨c.le⟩) i fun A C f=>?_;have b:=c.trans f;refine Vd ?_;unfold G9 at h;have d:=X7r hh v;generalize I1 V2 cs v=t at*
 by_cases e:t=[]
 .rw[decide_eq_true e] at h⊢
  (try simp only[↓M1,M1,Mb,reduceIte])
  exact h _ _ b
 .rw[decide_eq_false e] at h⊢
  obtain ⟨a,z,rfl,u,y⟩:=hh
  (try simp only[↓M1,M1,Mb,reduceIte])
  refine ld b.sat (u.lift ⟨b.le⟩) rfl ?_;refine X97 b.sat (r.lift ⟨b.le⟩) ok d m fun B D g=>?_
  (try simp only[↓M1,M1,Mb,reduceIte])
  exact h _ _ (b.trans g))
theorem X89 (y:X3 w σ) (hh:O4 σ hp tv room cs) (z:Tab σ tv l) (ok:Ok l) {k:Q9} {o:Value} {i:Nat} (u:k.length<=V5) (E:o.cells= #[o]/\o.oneCell'=true) (n:elem k=[]->i<(U2 l k).length)
 (h: ∀w' σ',Stp w σ w' σ'->K (S (Wm l k i)) w'):Q0 P F.bX [hp, .agg [S k,o].toArray,I i] w K:=Q3z (by
 unfold Bd;simp only[Y5,X8];unfold X9 U6;refine Z6 y fun q w1 σ1 c s=>?_
 (try simp only[↓M1,M1,Mb,reduceIte])
 refine Y3 c.sat s rfl ?_;refine Q69 k (Nat.le_trans u L2) fun M p=>?_;have d:=Stp.of_below c.sat p;have b:=c.trans d;refine Vd ?_;unfold Wm at h
 by_cases e:elem k=[]
 .simp only[if_pos e] at h
  rw[decide_eq_true e]
  (try simp only[↓M1,M1,Mb,reduceIte])
  obtain ⟨a,J,rfl,B,H⟩:=hh;have r:=d.sat;have v:=s.up d;have C:=B.lift ⟨b.le⟩;refine W2 r ?_
  (repeat refine V0 Vf ?_)
  (intros;(repeat (rename_i A;subst A));(try simp only[↓M2,M2,Mb,reduceIte]))
  rename_i N g;have f:=b.trans g.stp;refine Q0p g.sat (z.lift ⟨f.le⟩) ok.acy ok.len ok.sm fun L O Q j m=>?_;refine Z1 m (n e) ?_;obtain ⟨D,_⟩:=m.elF (n e)
  (try simp only[↓M1,M1,Mb,reduceIte])
  refine ld j.sat D rfl ?_;have t:(U2 l k).getD i Fld.zero=(U2 l k)[i]'(n e):=by rw[List.getD_eq_getElem?_getD,List.getElem?_eq_getElem (n e)];rfl
  rw[t] at h;exact h _ _ (f.trans j)
 .simp only[if_neg e] at h
  rw[decide_eq_false e]
  (try simp only[↓M1,M1,Mb,reduceIte])
  exact h _ _ b)
end Go.Proofs.Y
