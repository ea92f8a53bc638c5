/- Parts of a proof about the given program: its functions as texts of their own, what each computes, plain laws of that. The conditions of each stand in its statement. -/
import Derived.Test.YtlfdfcejjgidpaaGreatDoorB3
import Derived.Shelf.Strings.Builder1
import Derived.Shelf.Strings.Builder2
import Derived.Shelf.Strings.OnBuilder
import Derived.Shelf.Strings.Trim
import Derived.Shelf.Small.Utf8
import Derived.Shelf.Small.Strs
import Derived.Shelf.Small.Wraps
import Derived.Shelf.Strings.BuilderF
import Derived.Shelf.Strings.BuilderK
import Derived.Shelf.Strings.Builder2Cap
import Derived.Shelf.Strings.Search1
import Derived.Shelf.Strings.Search2
import Derived.Shelf.Strings.Search3
import Derived.Shelf.Strings.Cut
import Derived.Shelf.LaysM
import Derived.Shelf.Strings.Shaped
import Derived.Shelf.Strings.Prefix
import Derived.Shelf.Unicode.Decode
import Derived.Shelf.Strings.Runes
import Derived.Shelf.Strings.AsciiSet
import Derived.Shelf.Unicode.DecodeSlow
import Derived.Shelf.Unicode.DecodeAny
import Derived.Shelf.Unicode.DecodeLast
import Derived.Shelf.Slices.Turned
import Derived.Ground.Names2Prog
import Derived.Shelf.Slices.Clone
import Derived.Ground.SlgnProg
import Derived.Shelf.SlicesE.Clone
import Derived.Shelf.Unicode.ValidAny
import Derived.Test.YtlfdfcejjgidpaaGreatDoorProg
import Derived.Test.YtlfdfcejjgidpaaGreatDoorB2
import Derived.Test.YtlfdfcejjgidpaaGreatDoorRows
import Derived.Lib.LaidU8T
import Derived.OpenShut
import Derived.MakeChecks
import Derived.WideShapes
import Derived.Lib.AsciiSet
import Derived.Lib.Join
import Derived.Maps.RangeRun
import Derived.Laws.Bits128
import Derived.Laws.Bits64
import Derived.Laws.OwnMore
import Derived.Laws.CopyRow
set_option linter.unnecessarySimpa false
set_option linter.defProp false
set_option linter.unusedSectionVars false
set_option linter.unusedVariables false
set_option linter.unusedSimpArgs false
namespace Go.Proofs
open Go.Shelf
def Tryz.lays156_ren : Go.Shelf.Ren := ⟨fun | 156 => 185 | 165 => 220 | 166 => 221 | 169 => 222 | 240 => 241 | 241 => 242 | 276 => 253 | 277 => 254 | n => n, fun | 31 => 90 | 9 => 9 | 3 => 3 | 4 => 4 | 0 => 0 | 20 => 20 | 72 => 254 | 76 => 257 | 70 => 252 | 37 => 32 | 75 => 256 | 127 => 268 | 164 => 277 | 5 => 5 | 80 => 259 | n => n, fun | n => n⟩
theorem Tryz.lays156 : Go.Proofs.Lays.n156 Tryz.prog Tryz.lays156_ren := {
  mixed := by kernel_rfl
  f156 := Tryz.func185.trans (congrArg some (by kernel_rfl))
  f165 := Tryz.func220.trans (congrArg some (by kernel_rfl))
  f166 := Tryz.func221.trans (congrArg some (by kernel_rfl))
  f169 := Tryz.func222.trans (congrArg some (by kernel_rfl))
  f240 := Tryz.func241.trans (congrArg some (by kernel_rfl))
  f241 := Tryz.func242.trans (congrArg some (by kernel_rfl))
  f276 := Tryz.func253.trans (congrArg some (by kernel_rfl))
  f277 := Tryz.func254.trans (congrArg some (by kernel_rfl))
  t0 := Tryz.underlying0
  a0 := Tryz.isAgg0
  z0 := Tryz.sizeOf0
  v0 := Tryz.zeroValue0
  t3 := Tryz.underlying3
  a3 := Tryz.isAgg3
  z3 := Tryz.sizeOf3
  v3 := Tryz.zeroValue3
  t4 := Tryz.underlying4
  a4 := Tryz.isAgg4
  z4 := Tryz.sizeOf4
  v4 := Tryz.zeroValue4
  t9 := Tryz.underlying9
  a9 := Tryz.isAgg9
  z9 := Tryz.sizeOf9
  v9 := Tryz.zeroValue9
  t20 := Tryz.underlying20
  a20 := Tryz.isAgg20
  z20 := Tryz.sizeOf20
  v20 := Tryz.zeroValue20
  t31 := Tryz.underlying90
  a31 := Tryz.isAgg90
  z31 := Tryz.sizeOf90
  v31 := Tryz.zeroValue90
  t37 := Tryz.underlying32
  a37 := Tryz.isAgg32
  z37 := Tryz.sizeOf32
  v37 := Tryz.zeroValue32
  t70 := Tryz.underlying252
  a70 := Tryz.isAgg252
  z70 := Tryz.sizeOf252
  v70 := Tryz.zeroValue252
  t72 := Tryz.underlying254
  a72 := Tryz.isAgg254
  z72 := Tryz.sizeOf254
  v72 := Tryz.zeroValue254
  t75 := Tryz.underlying256
  a75 := Tryz.isAgg256
  z75 := Tryz.sizeOf256
  v75 := Tryz.zeroValue256
  t76 := Tryz.underlying257
  a76 := Tryz.isAgg257
  z76 := Tryz.sizeOf257
  v76 := Tryz.zeroValue257
  t127 := Tryz.underlying268
  a127 := Tryz.isAgg268
  z127 := Tryz.sizeOf268
  v127 := Tryz.zeroValue268
  t164 := Tryz.underlying277
  a164 := Tryz.isAgg277
  z164 := Tryz.sizeOf277
  v164 := Tryz.zeroValue277 }
theorem Tryz.Builder_Extra_156 : Builder.Extra Tryz.prog Tryz.lays156_ren := {
  sizeBuilder := by kernel_rfl
  liesBuilder := by kernel_rfl
  t5 := Tryz.underlying5
  a5 := Tryz.isAgg5
  z5 := Tryz.sizeOf5
  v5 := Tryz.zeroValue5
  infoByte := by kernel_rfl
  cellsByte := by kernel_rfl
  sizeByte := by kernel_rfl
  neB5 := by decide }
open Go.RowKit in
theorem Tryz.strings_Join_none (a : Option Addr) (c : Nat) (sep : ByteArray) (w : World) :
    Calls Tryz.prog 185 #[.slice a 0 c, .string sep] w fun e w' => e = .returned (.string ⟨#[]⟩) /\ w' = w := Any.strings_Join_none Tryz.lays156 Tryz.Builder_Extra_156 a c sep w
open Go.RowKit in
theorem Tryz.strings_Join (bk o c : Nat) (xs : List ByteArray) (sep : ByteArray) (w : World) (hcells : ∀ (j : Nat) x, xs[j]? = some x -> w.cell? ⟨bk, o + j, none⟩ = some (.string x)) (hbk : bk < w.heap.size) (hN : xs.length <= 140737488355328) (hcap : xs.length <= c) (hlen : (Lib.join (xs.map (·.data.toList)) sep.data.toList).length <= 140737488355328) :
    Calls Tryz.prog 185 #[.slice (some ⟨bk, o, none⟩) xs.length c, .string sep] w fun e w' => e = .returned (.string ⟨(Lib.join (xs.map (·.data.toList)) sep.data.toList).toArray⟩) /\ Below w.heap.size w w' := Any.strings_Join Tryz.lays156 Tryz.Builder_Extra_156 bk o c xs sep w hcells hbk hN hcap hlen
open Go.RowKit in
def Tryz.lays144_ren : Go.Shelf.Ren := ⟨fun | 144 => 247 | 143 => 259 | 219 => 267 | 217 => 269 | 225 => 265 | 224 => 264 | 267 => 271 | 266 => 272 | 314 => 273 | n => n, fun | 9 => 9 | 4 => 4 | 3 => 3 | 5 => 5 | 46 => 200 | 146 => 289 | 51 => 288 | n => n, fun | 1 => 4 | n => n⟩
theorem Tryz.lays144 : Go.Proofs.Lays.n144 Tryz.prog Tryz.lays144_ren := {
  mixed := by kernel_rfl
  f143 := Tryz.func259.trans (congrArg some (by kernel_rfl))
  f144 := Tryz.func247.trans (congrArg some (by kernel_rfl))
  f217 := Tryz.func269.trans (congrArg some (by kernel_rfl))
  f219 := Tryz.func267.trans (congrArg some (by kernel_rfl))
  f224 := Tryz.func264.trans (congrArg some (by kernel_rfl))
  f225 := Tryz.func265.trans (congrArg some (by kernel_rfl))
  f266 := Tryz.func272.trans (congrArg some (by kernel_rfl))
  f267 := Tryz.func271.trans (congrArg some (by kernel_rfl))
  f314 := Tryz.func273.trans (congrArg some (by kernel_rfl))
  t3 := Tryz.underlying3
  a3 := Tryz.isAgg3
  z3 := Tryz.sizeOf3
  v3 := Tryz.zeroValue3
  t4 := Tryz.underlying4
  a4 := Tryz.isAgg4
  z4 := Tryz.sizeOf4
  v4 := Tryz.zeroValue4
  t5 := Tryz.underlying5
  a5 := Tryz.isAgg5
  z5 := Tryz.sizeOf5
  v5 := Tryz.zeroValue5
  t9 := Tryz.underlying9
  a9 := Tryz.isAgg9
  z9 := Tryz.sizeOf9
  v9 := Tryz.zeroValue9
  t46 := Tryz.underlying200
  a46 := Tryz.isAgg200
  z46 := Tryz.sizeOf200
  v46 := Tryz.zeroValue200
  t51 := Tryz.underlying288
  a51 := Tryz.isAgg288
  z51 := Tryz.sizeOf288
  v51 := Tryz.zeroValue288
  t146 := Tryz.underlying289
  a146 := Tryz.isAgg289
  z146 := Tryz.sizeOf289
  v146 := Tryz.zeroValue289
  g1 := by kernel_rfl }
open Go.RowKit Go.Lib in
theorem Tryz.strings_Contains_one (s : ByteArray) (c : UInt8) (w : World) :
    Calls Tryz.prog 247 #[.string s, .string ⟨#[c]⟩] w fun e w' => e = .returned (.bool (decide (0 <= Lib.indexByte s.data.toList c))) /\ w' = w := Any.strings_Contains_one Tryz.lays144 s c w
def Tryz.lays227_ren : Go.Shelf.Ren := ⟨fun | 227 => 217 | n => n, fun | 9 => 9 | 116 => 247 | 4 => 4 | 0 => 0 | 3 => 3 | 5 => 5 | n => n, fun | n => n⟩
theorem Tryz.lays227 : Go.Proofs.Lays.n227 Tryz.prog Tryz.lays227_ren := {
  mixed := by kernel_rfl
  f227 := Tryz.func217.trans (congrArg some (by kernel_rfl))
  t0 := Tryz.underlying0
  a0 := Tryz.isAgg0
  z0 := Tryz.sizeOf0
  v0 := Tryz.zeroValue0
  t3 := Tryz.underlying3
  a3 := Tryz.isAgg3
  z3 := Tryz.sizeOf3
  v3 := Tryz.zeroValue3
  t4 := Tryz.underlying4
  a4 := Tryz.isAgg4
  z4 := Tryz.sizeOf4
  v4 := Tryz.zeroValue4
  t5 := Tryz.underlying5
  a5 := Tryz.isAgg5
  z5 := Tryz.sizeOf5
  v5 := Tryz.zeroValue5
  t9 := Tryz.underlying9
  a9 := Tryz.isAgg9
  z9 := Tryz.sizeOf9
  v9 := Tryz.zeroValue9
  t116 := Tryz.underlying247
  a116 := Tryz.isAgg247
  z116 := Tryz.sizeOf247 }
open Go.RowKit Go.Lib in
theorem Tryz.strings_makeASCIISet (hv116 : ∀ w, (zeroValue 247).run Tryz.prog w = .ok (.agg (Array.replicate 256 (.bool false))) w) (chars : ByteArray) (w : World) (hs : chars.size < 4294967281) (hascii : ∀ (j : Nat) b, chars.data.toList[j]? = some b -> b.toNat < 128) :
    Calls Tryz.prog 217 #[.string chars] w fun e w' => e = .returned (.tuple #[.agg (Lib.setCells chars.data.toList), .bool true]) /\ w' = w.alloc (.cells (Lib.setCells chars.data.toList) 247) := Any.strings_makeASCIISet Tryz.lays227 hv116 (by kernel_rfl) chars w hs hascii
open Go.RowKit Go.Lib in
def Tryz.lays196_ren : Go.Shelf.Ren := ⟨fun | 196 => 86 | 259 => 148 | n => n, fun | 9 => 9 | 4 => 4 | 3 => 3 | 5 => 5 | 12 => 12 | 119 => 196 | 0 => 0 | 46 => 200 | 139 => 199 | 138 => 198 | 53 => 75 | n => n, fun | 3 => 1 | 4 => 2 | n => n⟩
theorem Tryz.lays196 : Go.Proofs.Lays.n196 Tryz.prog Tryz.lays196_ren := {
  mixed := by kernel_rfl
  f196 := Tryz.func86.trans (congrArg some (by kernel_rfl))
  f259 := Tryz.func148.trans (congrArg some (by kernel_rfl))
  t0 := Tryz.underlying0
  a0 := Tryz.isAgg0
  z0 := Tryz.sizeOf0
  v0 := Tryz.zeroValue0
  t3 := Tryz.underlying3
  a3 := Tryz.isAgg3
  z3 := Tryz.sizeOf3
  v3 := Tryz.zeroValue3
  t4 := Tryz.underlying4
  a4 := Tryz.isAgg4
  z4 := Tryz.sizeOf4
  v4 := Tryz.zeroValue4
  t5 := Tryz.underlying5
  a5 := Tryz.isAgg5
  z5 := Tryz.sizeOf5
  v5 := Tryz.zeroValue5
  t9 := Tryz.underlying9
  a9 := Tryz.isAgg9
  z9 := Tryz.sizeOf9
  v9 := Tryz.zeroValue9
  t12 := Tryz.underlying12
  a12 := Tryz.isAgg12
  z12 := Tryz.sizeOf12
  v12 := Tryz.zeroValue12
  t46 := Tryz.underlying200
  a46 := Tryz.isAgg200
  z46 := Tryz.sizeOf200
  v46 := Tryz.zeroValue200
  t53 := Tryz.underlying75
  a53 := Tryz.isAgg75
  z53 := Tryz.sizeOf75
  v53 := Tryz.zeroValue75
  t119 := Tryz.underlying196
  a119 := Tryz.isAgg196
  z119 := Tryz.sizeOf196
  t138 := Tryz.underlying198
  a138 := Tryz.isAgg198
  z138 := Tryz.sizeOf198
  v138 := Tryz.zeroValue198
  t139 := Tryz.underlying199
  a139 := Tryz.isAgg199
  z139 := Tryz.sizeOf199
  v139 := Tryz.zeroValue199
  g3 := by kernel_rfl
  g4 := by kernel_rfl }
end Go.Proofs
namespace Go.Proofs.Y
open Go.Emb Go.RowKit Go.Kd Go.Hm
variable {w : World} {K : Value -> World -> Prop} {σ : Q2}
theorem X32 {f:FuncId} {fn:Func} {a:List Value} {V:Value} (c:P.funcs[f]? =some fn) (b:fn.body.isSome=true) (g:(fn.name== "runtime.NumGoroutine")=false)
 (h:Calls P f a.toArray w fun e w'=>e= .returned V/\Below w.heap.size w w') (d: ∀w',Below w.heap.size w w'->K V w'):Q0 P f a w K:=by
 refine Lu c b g (Calls.mono h ?_);rintro e w' ⟨rfl,b⟩;exact d w' b
theorem Q0a {a:Q8} (b:a.length<=U9) (c:Lib.Utf8Tabs G.e G.d w) (h: ∀w',Below w.heap.size w w'->K (.bool (Lib.validD a)) w'):Q0 P F.aY [S a] w K:=
 X32 Tryz.func86 X3 X3 (by
  have:=Any.utf8_ValidString Tryz.lays196 ⟨a.toArray⟩ w (by rw[P3];simp only[U9] at b;omega) c
  simp only[List.toList_toArray] at this;exact this) h
theorem Q8t {a:Q8} {c:UInt8} (h:K (.bool (decide (0<=Lib.indexByte a c))) w):Q0 P F.cz [S a,S [c]] w K:=by
 refine Lu (fn:=Tryz.f247) Tryz.func247 X3 X3 (Calls.mono (Tryz.strings_Contains_one ⟨a.toArray⟩ c w) ?_);rintro e w' ⟨rfl,rfl⟩;exact h
structure Glb (σ : Q2) : Prop where
  ops : Q3n σ
  tabs : ∀ w, X1 w σ -> Lib.Utf8Tabs G.e G.d w
  flt : J7 σ ⟨G.b, 0, none⟩ (V6.map S)
theorem Glb.lift {σ0:Q2} (h:Glb σ0) (k:SLe σ0 σ):Glb σ:=⟨h.ops.le k.le,fun w a=>h.tabs w fun b o e=>a b o (k.le b o e),h.flt.le k.le⟩
def txt (n s:Q8):Bool:=
 if n=[119,111,114,100] then decide (s.length<=64)&&Lib.validD s&& !decide (0<=Lib.indexByte s 10)
 else if n=[110,101,119] then O6 s
 else if n=[105,115]\/n=[99,97,115,116] then right s&& !plain s
 else if n=[97,114,114,97,121] then right s&&decide (Q3w s<3)
 else Jp s
theorem X5w {n a:Q8} (ha:a.length<=U9) (hs:X1 w σ) (hg:Glb σ) (h: ∀w' σ',Stp w σ w' σ'->K (.bool (txt n a)) w'):Q0 P F.cJ [S n,S a] w K:=Q8Y (by
 unfold Q35;simp only[M8];unfold Y0 X7 X5 V5;have ha':a.length<=140737488355320:=by simp only[U9] at ha;omega
 have ha2:a.length<=140737488355328:=by simp only[U9] at ha;omega
 have hv: ∀{w1:World} {K:Value->World->Prop},X1 w1 σ->(∀w',Below w1.heap.size w1 w'->K (.bool (Lib.validD a)) w')->Q0 P F.aY [S a] w1 K:=fun hk h=>Q0a ha (hg.tabs _ hk) h;unfold txt at h;have e:decide ((a.length:Int)<=64)=decide (a.length<=64):=by rw[Bool.eq_iff_iff];simp only[decide_eq_true_eq];omega
 have e3:decide ((Q3w a:Int)<3)=decide (Q3w a<3):=by rw[Bool.eq_iff_iff];simp only[decide_eq_true_eq];omega
 by_cases h1:n=[119,111,114,100]
 .rw[if_pos h1] at h
  simp only[decide_eq_true h1,↓M1,M1,Mb,reduceIte,e]
  by_cases h2:a.length<=64
  .simp only[decide_eq_true h2,↓M1,M1,Mb,reduceIte] at h⊢
   refine hv hs (N1 hs ?_);intro w1 σ1 hk
   by_cases h3:Lib.validD a=true
   .simp only[h3,↓M1,M1,Mb,reduceIte] at h⊢
    refine Q8t ?_
    (repeat' (first | (with_reducible intro _) | (with_reducible refine L4 ?_) | (simp only[↓M2,M2,Mb,reduceIte]) | (with_reducible first | refine ld aS aL aR ?_ | refine Y4 aS aL aR ?_ | refine Z8 aS aL aR ?_ | refine Q6 aL ?_ | refine L6 aR ?_ | refine J1 aS ?_ | refine N4 aS aL ?_ | refine V4 aS aR ?_ | refine Z0 aS aR aR (Rep.one Q7) ?_ | refine U7 aS aR aR aR ?_ | (refine J4 (fun hh=>?_) (fun hh=>?_)<;>(try simp only[hh,Bool.not_true,Bool.not_false,↓M2,M2,Mb,reduceIte])) | (refine Q3 (fun hh=>?_) (fun hh=>?_)<;>(try simp only[hh,Bool.not_true,Bool.not_false,↓M2,M2,Mb,reduceIte])))))
    all_goals exact aF
   .simp only[eq_false_of_ne_true h3,↓M1,M1,Mb,reduceIte] at h⊢
    (repeat' (first | (with_reducible intro _) | (with_reducible refine L4 ?_) | (simp only[↓M2,M2,Mb,reduceIte]) | (with_reducible first | refine ld aS aL aR ?_ | refine Y4 aS aL aR ?_ | refine Z8 aS aL aR ?_ | refine Q6 aL ?_ | refine L6 aR ?_ | refine J1 aS ?_ | refine N4 aS aL ?_ | refine V4 aS aR ?_ | refine Z0 aS aR aR (Rep.one Q7) ?_ | refine U7 aS aR aR aR ?_ | (refine J4 (fun hh=>?_) (fun hh=>?_)<;>(try simp only[hh,Bool.not_true,Bool.not_false,↓M2,M2,Mb,reduceIte])) | (refine Q3 (fun hh=>?_) (fun hh=>?_)<;>(try simp only[hh,Bool.not_true,Bool.not_false,↓M2,M2,Mb,reduceIte])))))
    all_goals exact aF
  .simp only[decide_eq_false h2,↓M1,M1,Mb,reduceIte] at h⊢
   (repeat' (first | (with_reducible intro _) | (with_reducible refine L4 ?_) | (simp only[↓M2,M2,Mb,reduceIte]) | (with_reducible first | refine ld aS aL aR ?_ | refine Y4 aS aL aR ?_ | refine Z8 aS aL aR ?_ | refine Q6 aL ?_ | refine L6 aR ?_ | refine J1 aS ?_ | refine N4 aS aL ?_ | refine V4 aS aR ?_ | refine Z0 aS aR aR (Rep.one Q7) ?_ | refine U7 aS aR aR aR ?_ | (refine J4 (fun hh=>?_) (fun hh=>?_)<;>(try simp only[hh,Bool.not_true,Bool.not_false,↓M2,M2,Mb,reduceIte])) | (refine Q3 (fun hh=>?_) (fun hh=>?_)<;>(try simp only[hh,Bool.not_true,Bool.not_false,↓M2,M2,Mb,reduceIte])))))
   all_goals exact aF
 rw[if_neg h1] at h;simp only[decide_eq_false h1,↓M1,M1,Mb,reduceIte]
 by_cases h2:n=[110,101,119]
 .rw[if_pos h2] at h
  simp only[decide_eq_true h2,↓M1,M1,Mb,reduceIte]
  (repeat' (first | (with_reducible intro _) | (with_reducible refine L4 ?_) | (simp only[↓M2,M2,Mb,reduceIte]) | (with_reducible first | refine ld aS aL aR ?_ | refine Y4 aS aL aR ?_ | refine Z8 aS aL aR ?_ | refine Q6 aL ?_ | refine L6 aR ?_ | refine J1 aS ?_ | refine N4 aS aL ?_ | refine V4 aS aR ?_ | refine Z0 aS aR aR (Rep.one Q7) ?_ | refine U7 aS aR aR aR ?_ | refine St _ au (N1 aS ?_) | (refine J4 (fun hh=>?_) (fun hh=>?_)<;>(try simp only[hh,Bool.not_true,Bool.not_false,↓M2,M2,Mb,reduceIte])) | (refine Q3 (fun hh=>?_) (fun hh=>?_)<;>(try simp only[hh,Bool.not_true,Bool.not_false,↓M2,M2,Mb,reduceIte])))))
  all_goals exact aF
 rw[if_neg h2] at h;simp only[decide_eq_false h2,↓M1,M1,Mb,reduceIte]
 by_cases h3:n=[105,115]\/n=[99,97,115,116]
 .rw[if_pos h3] at h
  have e4:(decide (n=[105,115])||decide (n=[99,97,115,116]))=true:=by simpa using h3
  refine L4 ?_;refine Q3 (fun h4=>?_) (fun h4=>?_)
  .simp only[h4,↓M1,M1,Mb,reduceIte]
   (repeat' (first | (with_reducible intro _) | (with_reducible refine L4 ?_) | (simp only[↓M2,M2,Mb,reduceIte]) | (with_reducible first | refine ld aS aL aR ?_ | refine Y4 aS aL aR ?_ | refine Z8 aS aL aR ?_ | refine Q6 aL ?_ | refine L6 aR ?_ | refine J1 aS ?_ | refine N4 aS aL ?_ | refine V4 aS aR ?_ | refine Z0 aS aR aR (Rep.one Q7) ?_ | refine U7 aS aR aR aR ?_ | refine Vt _ au (N1 aS ?_) | refine Q2p _ ?_ | (refine J4 (fun hh=>?_) (fun hh=>?_)<;>(try simp only[hh,Bool.not_true,Bool.not_false,↓M2,M2,Mb,reduceIte])) | (refine Q3 (fun hh=>?_) (fun hh=>?_)<;>(try simp only[hh,Bool.not_true,Bool.not_false,↓M2,M2,Mb,reduceIte])))))
   all_goals exact aF
  .rw[h4,Bool.false_or] at e4
   simp only[e4,↓M1,M1,Mb,reduceIte]
   (repeat' (first | (with_reducible intro _) | (with_reducible refine L4 ?_) | (simp only[↓M2,M2,Mb,reduceIte]) | (with_reducible first | refine ld aS aL aR ?_ | refine Y4 aS aL aR ?_ | refine Z8 aS aL aR ?_ | refine Q6 aL ?_ | refine L6 aR ?_ | refine J1 aS ?_ | refine N4 aS aL ?_ | refine V4 aS aR ?_ | refine Z0 aS aR aR (Rep.one Q7) ?_ | refine U7 aS aR aR aR ?_ | refine Vt _ au (N1 aS ?_) | refine Q2p _ ?_ | (refine J4 (fun hh=>?_) (fun hh=>?_)<;>(try simp only[hh,Bool.not_true,Bool.not_false,↓M2,M2,Mb,reduceIte])) | (refine Q3 (fun hh=>?_) (fun hh=>?_)<;>(try simp only[hh,Bool.not_true,Bool.not_false,↓M2,M2,Mb,reduceIte])))))
   all_goals exact aF
 rw[if_neg h3] at h;obtain ⟨h3,h4⟩:=not_or.1 h3;refine L4 ?_;simp only[decide_eq_false h3,decide_eq_false h4,↓M1,M1,Mb,reduceIte]
 by_cases h5:n=[97,114,114,97,121]
 .rw[if_pos h5] at h
  simp only[decide_eq_true h5,↓M1,M1,Mb,reduceIte]
  (repeat' (first | (with_reducible intro _) | (with_reducible refine L4 ?_) | (simp only[↓M2,M2,Mb,reduceIte]) | (with_reducible first | refine ld aS aL aR ?_ | refine Y4 aS aL aR ?_ | refine Z8 aS aL aR ?_ | refine Q6 aL ?_ | refine L6 aR ?_ | refine J1 aS ?_ | refine N4 aS aL ?_ | refine V4 aS aR ?_ | refine Z0 aS aR aR (Rep.one Q7) ?_ | refine U7 aS aR aR aR ?_ | refine Vt _ au (N1 aS ?_) | refine X5U _ au (N1 aS ?_) | (refine J4 (fun hh=>?_) (fun hh=>?_)<;>(try simp only[hh,Bool.not_true,Bool.not_false,↓M2,M2,Mb,reduceIte])) | (refine Q3 (fun hh=>?_) (fun hh=>?_)<;>(try simp only[hh,Bool.not_true,Bool.not_false,↓M2,M2,Mb,reduceIte])))))
  all_goals (try rw[e3])
  all_goals exact aF
 rw[if_neg h5] at h;simp only[decide_eq_false h5,↓M1,M1,Mb,reduceIte];intro _;refine X4F a ha2 (N1 hs fun w1 σ1 hk=>?_)
 by_cases hp:Jp a=true
 .simp only[hp,if_true] at h⊢
  (repeat' (first | (with_reducible intro _) | (with_reducible refine L4 ?_) | (simp only[↓M2,M2,Mb,reduceIte]) | (with_reducible first | refine ld aS aL aR ?_ | refine Y4 aS aL aR ?_ | refine Z8 aS aL aR ?_ | refine Q6 aL ?_ | refine L6 aR ?_ | refine J1 aS ?_ | refine N4 aS aL ?_ | refine V4 aS aR ?_ | refine Z0 aS aR aR (Rep.one Q7) ?_ | refine U7 aS aR aR aR ?_ | (refine J4 (fun hh=>?_) (fun hh=>?_)<;>(try simp only[hh,Bool.not_true,Bool.not_false,↓M2,M2,Mb,reduceIte])) | (refine Q3 (fun hh=>?_) (fun hh=>?_)<;>(try simp only[hh,Bool.not_true,Bool.not_false,↓M2,M2,Mb,reduceIte])))))
  all_goals exact aF
 .simp only[eq_false_of_ne_true hp,Bool.false_eq_true,if_false] at h⊢
  (repeat' (first | (with_reducible intro _) | (with_reducible refine L4 ?_) | (simp only[↓M2,M2,Mb,reduceIte]) | (with_reducible first | refine ld aS aL aR ?_ | refine Y4 aS aL aR ?_ | refine Z8 aS aL aR ?_ | refine Q6 aL ?_ | refine L6 aR ?_ | refine J1 aS ?_ | refine N4 aS aL ?_ | refine V4 aS aR ?_ | refine Z0 aS aR aR (Rep.one Q7) ?_ | refine U7 aS aR aR aR ?_ | (refine J4 (fun hh=>?_) (fun hh=>?_)<;>(try simp only[hh,Bool.not_true,Bool.not_false,↓M2,M2,Mb,reduceIte])) | (refine Q3 (fun hh=>?_) (fun hh=>?_)<;>(try simp only[hh,Bool.not_true,Bool.not_false,↓M2,M2,Mb,reduceIte])))))
  all_goals exact aF)
def H1 (i:Ins):Int:=if !(C4 i.op).2.2 then 40 else if (!(C4 i.op).1&&decide (i.n≠0))||(!(C4 i.op).2.1&&decide (i.s≠[]))||((C4 i.op).2.1&& !txt i.op i.s) then 41 else 0
theorem X2y {a:Q8} (c:X1 w σ) (b:Glb σ) (h: ∀w',Below w.heap.size w w'->K (.tuple #[.bool (C4 a).1, .bool (C4 a).2.1, .bool (C4 a).2.2]) w'):Q0 P F.c6 [S a] w K:=X4a c b.ops h
theorem Q8w {i:Ins} {cs:List Value} (hs:X1 w σ) (hg:Glb σ) (hi:Qx σ i cs) (h: ∀w' σ',Stp w σ w' σ'->K (I (H1 i)) w'):Q0 P F.cB [.agg cs.toArray] w K:=Q7R (by
 obtain ⟨rfl,h1,h2,h3⟩:=hi;unfold Q1j;simp only[M8];unfold J5 Y2 X5 V5;unfold H1 at h
 (repeat' (first | (with_reducible intro _) | (with_reducible refine L4 ?_) | (simp only[↓M2,M2,Mb,reduceIte]) | (with_reducible first | refine ld aS aL aR ?_ | refine Y4 aS aL aR ?_ | refine Z8 aS aL aR ?_ | refine Q6 aL ?_ | refine L6 aR ?_ | refine J1 aS ?_ | refine N4 aS aL ?_ | refine V4 aS aR ?_ | refine Z0 aS aR aR (Rep.one Q7) ?_ | refine U7 aS aR aR aR ?_ | refine X2y au au (N1 aS ?_) | refine X5w au au au ?_ | (refine J4 (fun hh=>?_) (fun hh=>?_)<;>(try simp only[hh,Bool.not_true,Bool.not_false,↓M2,M2,Mb,reduceIte])) | (refine Q3 (fun hh=>?_) (fun hh=>?_)<;>(try simp only[hh,Bool.not_true,Bool.not_false,↓M2,M2,Mb,reduceIte])))))
 all_goals exact aF)
end Go.Proofs.Y
namespace Go.Emb
open Go.Proofs.YtlfdfcejjgidpaaGreatDoor Go.RowKit Go.Hm
variable {P : Program} {W : World}
theorem Q3t {w:World} (c:X1 w (Q6P W)) {a:Addr} {v:Value} (h:W.cell? a=some v):w.cell? a=some v:=by
 unfold World.cell? at h⊢;cases b:W.heap[a.block]? with
 | none=>rw[b] at h;cases h
 | some o=>rw[b] at h;rw[c _ o b];exact h
theorem X5z {α:Type} {f:α->List Value} {sz:Nat} (k: ∀a,(f a).length=sz): ∀(l:List α) (cs:List Value),cs.length=l.length*sz->(∀i a,l[i]? =some a->(cs.drop (i*sz)).take sz=f a)->cs=l.flatMap f:=by
 intro l
 induction l with
 | nil=>intro cs h _;simp at h;simp[h]
 | cons a r j=>
  intro cs h hh;have c:=hh 0 a rfl
  have e:=j (cs.drop sz) (by rw[List.length_drop,h,List.length_cons,Nat.succ_mul];omega) (fun i b g=>by
   have:=hh (i+1) b (by simpa using g)
   rw[List.drop_drop]
   rwa [Nat.succ_mul,Nat.add_comm] at this)
  rw[List.flatMap_cons,<-e,<-c]
  simp
theorem Q5G {α H:Type} {enc:TypeId×Value->H} {base:Nat} {w:Nat->Bool} {b:Bool} {f:α->List Value} {g:α->DataW H} {n sz:Nat} {t e:TypeId} {c:Nat} {cs:List Value} {p:List MemPlace} (E:P.underlying t=some (.array n e)) (B:P.cellsOf e=sz) (j:P.cellsOf t=n*sz)
 (l:List α) (C: ∀a,(f a).length=sz) (o: ∀m cs a q,DataW.trod enc P W base w b m e cs=some (g a,q)->cs=f a)
 (h:DataW.trod enc P W base w b c t cs=some (.agg (l.map g),p)):cs=l.flatMap f:=by
 obtain ⟨xs,m,_,k,y,J,z⟩:=DataW.trod_array E h;simp only[Prod.mk.injEq,DataW.agg.injEq] at k;have D:l.length=n:=by have:=congrArg List.length k.1;simp at this;omega
 refine X5z C l cs (by rw[y,j,D]) fun i a s=>?_
 have L:i<l.length:=(List.getElem?_eq_some_iff.1 s).1;have r:=z i Q4;have u:i<xs.length:=by omega
 rw[List.getElem?_eq_getElem u,B] at r
 have A:(xs[i]).1=g a:=by
  have:=congrArg (·[i]?) k.1;simp only[List.getElem?_map,s,List.getElem?_eq_getElem u,Option.map_some,Option.some.injEq] at this;exact this.symm
 exact o m _ a _ (by rw[r];congr 1;exact Prod.ext A rfl)
theorem Q7x {n:String} {g:Nat} {cs:Array Value} {l:List Value} (f:P.globalNamed n=some g) (a:W.var? P n=some cs) (j:cs.toList=l):J7 (Q6P W) ⟨g,0,none⟩ l:=by
 unfold World.var? at a;rw[f] at a;simp only[Option.bind_some] at a;cases b:W.heap[g]? with
 | none=>rw[b] at a;cases a
 | some o=>
  rw[b] at a;cases o with
  | cells P7 e c=>
   cases a;refine ⟨rfl,cs,e,c,b,fun i v h=>?_⟩;subst j
   simpa using h
  | _=>cases a
end Go.Emb
namespace Go.Proofs.Y
open Go.Proofs.YtlfdfcejjgidpaaGreatDoor Go.Emb Go.RowKit Go.Kd Go.Hm
variable {W : World}
def laidAll:List (String×DataW Unit):=[("unicode/utf8.acceptRanges",Rows.laid_unicode_utf8_acceptRanges),("squinch/code.ops",Rows.laid_squinch_code_ops),("squinch/hier.faults",Rows.laid_squinch_hier_faults),("unicode/utf8.first",Rows.laid_unicode_utf8_first)]
theorem X6A:Rows.laid_squinch_code_ops=(.agg (Ve.map fun o=> .agg [.lit (.string o.name), .lit (.bool o.number), .lit (.bool o.text)]):DataW Unit):=by rfl
theorem X2N:Rows.laid_squinch_hier_faults=(.agg (V6.map fun s=> .lit (.string s)):DataW Unit):=by rfl
theorem X6l:(Rows.laid_unicode_utf8_acceptRanges:DataW Unit)=Lib.acceptData:=by rfl
theorem X4A:Rows.laid_unicode_utf8_first=Lib.firstData:=by kernel_rfl
def X70:Array Field:= #[⟨"name",T.b,0,false, "", "squinch/code",0⟩,⟨"number",T.n,1,false, "", "squinch/code",16⟩,⟨"text",T.n,2,false, "", "squinch/code",17⟩]
theorem X75:P.underlying T.ak=some (.struct X70):=by kernel_rfl
theorem X5R (h:laidMetH P laidAll W):Glb (Q6P W):=by
 rw[Go.MakeChecks.laidMetH_plain _ _ _ X3] at h;refine ⟨?_,fun w C=>?_,?_⟩
 .obtain ⟨g,t,cs,l,p,r,k,b,o⟩:=Lib.laidMet.reads h (.tail _ (.head _))
  obtain rfl:=Option.some.inj ((show P.globalNamed "squinch/code.ops"=some G.a by kernel_rfl).symm.trans r)
  obtain rfl:=Option.some.inj ((show (P.globals[G.a]?).map (·.type)=some T.an by kernel_rfl).symm.trans k)
  rw[X6A] at o;refine Q7x r b (Q5G (f:=cOp) (sz:=3) (n:=42) (e:=T.ak) X3 X3 X3 Ve (fun _=>rfl) (fun m cs a q h=>by
  obtain ⟨xs,n,_,j,V,X,B⟩:=DataW.trod_struct X75 h;simp only[Prod.mk.injEq,DataW.agg.injEq] at j;have u:cs.length=3:=by rw[V];kernel_rfl
  obtain ⟨y,z,A,rfl⟩:=X3P u;obtain ⟨x0,x1,x2,rfl⟩:=X3P (show xs.length=3 by rw[X];rfl)
  have j:=j.1;simp only[List.map_cons,List.map_nil,List.cons.injEq,and_true] at j;obtain ⟨D,E,J⟩:=j;have L:DataW.trod (fun _=>()) P W 0 (fun _=>true) false n T.b (List.take (P.cellsOf T.b) (List.drop 0 [y,z,A]))=some x0:=B 0 _ rfl;have M:DataW.trod (fun _=>()) P W 0 (fun _=>true) false n T.n (List.take (P.cellsOf T.n) (List.drop 1 [y,z,A]))=some x1:=B 1 _ rfl;have N:DataW.trod (fun _=>()) P W 0 (fun _=>true) false n T.n (List.take (P.cellsOf T.n) (List.drop 2 [y,z,A]))=some x2:=B 2 _ rfl;rw[Q7G] at L;rw[X62] at M N;obtain ⟨⟨⟨s0⟩⟩,Q,Z,_⟩:=DataW.trod_string Y6 L;obtain ⟨b1,R,r1⟩:=DataW.trod_bool Q4R M;obtain ⟨b2,U,r2⟩:=DataW.trod_bool Q4R N
  simp at Q R U
  subst Q R U Z r1 r2
  simp at D E J
  simp[cOp,<-D,<-E,<-J]) o)
 .have:=utf8Tabs_of_readsT (U8Types.of196 Tryz.lays196) ⟨by kernel_rfl,by kernel_rfl,by kernel_rfl,by kernel_rfl,by kernel_rfl,by kernel_rfl,by kernel_rfl⟩ (X4A▸Lib.laidMet.reads h (.tail _ (.tail _ (.tail _ (.head _))))) (X6l▸Lib.laidMet.reads h (.head _))
  exact ⟨fun c Y=>Q3t C (this.1 c Y),fun i O=>⟨Q3t C (this.2 i O).1,Q3t C (this.2 i O).2⟩⟩
 .obtain ⟨g,t,cs,l,p,r,k,b,o⟩:=Lib.laidMet.reads h (.tail _ (.tail _ (.head _)))
  obtain rfl:=Option.some.inj ((show P.globalNamed "squinch/hier.faults"=some G.b by kernel_rfl).symm.trans r)
  obtain rfl:=Option.some.inj ((show (P.globals[G.b]?).map (·.type)=some T.ay by kernel_rfl).symm.trans k)
  rw[X2N] at o
  have:=Q5G (f:=fun s=>[S s]) (sz:=1) (n:=6) (e:=T.b) X3 Q7G X3 V6 (fun _=>rfl) (fun m cs a q h=>by
   obtain ⟨⟨⟨s⟩⟩,rfl,j,_⟩:=DataW.trod_string Y6 h;cases j;rfl) o
  exact Q7x r b (this.trans (by rfl))
end Go.Proofs.Y
namespace Go.Emb
open Go.Proofs.YtlfdfcejjgidpaaGreatDoor Go.RowKit Go.Hm
theorem X6b {H:Type} {P:Program} {a:List TypeId} {ds:List (DataW H)} (h:(DataW.weightsEach P a ds).all (· <=reachBytes)=true) {j:Nat} {t:TypeId} {d:DataW H} (e:a[j]? =some t) (b:ds[j]? =some d):Wt P t d:=fun n c=>by
 have:=List.all_eq_true.1 h _ (DataW.weights_mem_each e b n c)
 simpa using this
end Go.Emb
namespace Go.Proofs.Y
open Go.Proofs.YtlfdfcejjgidpaaGreatDoor Go.Emb Go.RowKit Go.Kd Go.Hm
variable {H : Type} {enc : TypeId × Value -> H} {W : World} {v : Value} {d : DataW H} {p : List MemPlace}
set_option maxRecDepth 100000 in
theorem X5T {base:Nat} (c:Value.okWide P W .any base T.b v) (h:DataW.Trod enc P W 0 (fun _=>true) true T.b v d p) (f:Wt P T.b d): ∃s:Q8,v=S s/\s.length<=U9:=by
 obtain ⟨s,rfl⟩:=WideShapes.okWide_string Y6 c;unfold DataW.Trod at h;obtain ⟨a,h⟩:=h;obtain ⟨s,e,b⟩:=X64 Y6 h f
 simp[Value.cells] at e
 exact ⟨s,by rw[e],b⟩
end Go.Proofs.Y
namespace Go.Proofs.Y
open Go.Emb Go.RowKit Go.Kd Go.Hm
variable {w : World} {K : Value -> World -> Prop} {σ : Q2}
def K5 (n:Int) (x:Cat):Bool:=decide (0<=x.frm)&&decide (x.frm<x.to)&&decide (x.to<=n)&&decide (0<=x.at_)&&decide (x.at_<n)&&O6 x.cls
theorem Q9U {cs:List Value} {c:Cat} {q:Addr} {n:Int} (hs:X1 w σ) (hc:Uh σ c cs) (hq:J7 σ q [I n]) (h: ∀w' σ',Stp w σ w' σ'->K (.bool (K5 n c)) w'):Q0 P F.ba [.agg cs.toArray, .pointer (some q)] w K:=Q3H (by
 obtain ⟨rfl,h1,h2,h3,h4⟩:=hc;unfold Ck J5 Y2 X5 X2;unfold K5 at h
 (repeat' (first | (with_reducible intro _) | (with_reducible refine L4 ?_) | (simp only[↓M2,M2,Mb,reduceIte]) | (with_reducible first | refine ld aS aL aR ?_ | refine Y4 aS aL aR ?_ | refine Z8 aS aL aR ?_ | refine Q6 aL ?_ | refine L6 aR ?_ | refine J1 aS ?_ | refine N4 aS aL ?_ | refine V4 aS aR ?_ | refine Z0 aS aR aR (Rep.one Q7) ?_ | refine U7 aS aR aR aR ?_ | refine St _ au (N1 aS ?_) | (refine J4 (fun hh=>?_) (fun hh=>?_)<;>(try simp only[hh,Bool.not_true,Bool.not_false,↓M2,M2,Mb,reduceIte])) | (refine Q3 (fun hh=>?_) (fun hh=>?_)<;>(try simp only[hh,Bool.not_true,Bool.not_false,↓M2,M2,Mb,reduceIte])))))
 all_goals exact aF)
theorem Q9V {cs:List Value} {i:Ins} (hs:X1 w σ) (hg:Glb σ) (hc:Qx σ i cs) (h: ∀w' σ',Stp w σ w' σ'->K (.bool (decide (H1 i=0))) w'):Q0 P F.bb [.agg cs.toArray] w K:=Q3I (by
 obtain ⟨rfl,h1,h2,h3⟩:=hc;have hc:Qx σ i [S i.op,I i.n,S i.s]:=⟨rfl,h1,h2,h3⟩;unfold Cl X5
 (repeat' (first | (with_reducible intro _) | (with_reducible refine L4 ?_) | (simp only[↓M2,M2,Mb,reduceIte]) | (with_reducible first | refine ld aS aL aR ?_ | refine Y4 aS aL aR ?_ | refine Z8 aS aL aR ?_ | refine Q6 aL ?_ | refine L6 aR ?_ | refine J1 aS ?_ | refine N4 aS aL ?_ | refine V4 aS aR ?_ | refine Z0 aS aR aR (Rep.one Q7) ?_ | refine U7 aS aR aR aR ?_ | refine Q8w au au au ?_ | (refine J4 (fun hh=>?_) (fun hh=>?_)<;>(try simp only[hh,Bool.not_true,Bool.not_false,↓M2,M2,Mb,reduceIte])) | (refine Q3 (fun hh=>?_) (fun hh=>?_)<;>(try simp only[hh,Bool.not_true,Bool.not_false,↓M2,M2,Mb,reduceIte])))))
 all_goals exact aF)
def T7 (m:Hm.Met):Bool:=D3 m.name&&m.params.all right&&(decide (m.result=[])||right m.result)&&
 if m.abs then decide (m.locals=0)&&decide (m.code=[])&&decide (m.catches=[])
 else decide (m.code≠[])&&decide ((m.params.length:Int)<m.locals)&&m.code.all (fun i=>decide (H1 i=0))&&m.catches.all (K5 m.code.length)
theorem X2B {cs:List Value} {m:Hm.Met} (hs:X1 w σ) (hg:Glb σ) (hm:E6 σ m cs) (h: ∀w' σ',Stp w σ w' σ'->K (.bool (T7 m)) w'):Q0 P F.b2 [.agg cs.toArray] w K:=Q5q (by
 obtain ⟨pv,cv,hv,rfl,g1,g2,g3,g4,g5,g6⟩:=hm;unfold Iq;simp only[M4];unfold J5 Y2 Y0 X7 X5 V5 X2;unfold T7 at h;have e1:decide ((0:Int)<m.code.length)=decide (m.code≠[]):=by cases m.code<;>simp
 have e2:decide ((m.code.length:Int)=0)=decide (m.code=[]):=by cases m.code<;>simp;omega
 have e3:decide ((m.catches.length:Int)=0)=decide (m.catches=[]):=by cases m.catches<;>simp;omega
 have hA: ∀{w1:World} {σ1:Q2} {K:Value->World->Prop},X1 w1 σ1->Sl 1 V3 σ1 pv m.params->(∀w' σ',Stp w1 σ1 w' σ'->K (.bool (m.params.all right)) w')->Q0 P F.a6 [pv, .func (.func F.a5) #[] #[]] w1 K:=
  fun hs hv h=>Ig right hs hv (fun σ1 x w1 K _ _ hs hl hK=>Z6 (Vt x (Nat.le_trans hl M5) hK)) (N1 hs h)
 have hB: ∀{w1:World} {σ1:Q2} {K:Value->World->Prop},X1 w1 σ1->Glb σ1->Sl 3 Qx σ1 cv m.code->(∀w' σ',Stp w1 σ1 w' σ'->K (.bool (m.code.all fun i=>decide (H1 i=0))) w')->Q0 P F.ap [cv, .func (.func F.bb) #[] #[]] w1 K:=
  fun hs hg hv h=>Q2K (fun i=>decide (H1 i=0)) hs hv (fun σ1 x cs w1 K le _ hs hr hl hK=>Z6 (Q9V hs (hg.lift ⟨le⟩) hr fun w' σ' hk=>hK w' hk.bel)) (N1 hs h)
 have hC: ∀{w1:World} {σ1:Q2} {K:Value->World->Prop} {q:Addr},X1 w1 σ1->Sl 4 Uh σ1 hv m.catches->J7 σ1 q [I m.code.length]->(∀w' σ',Stp w1 σ1 w' σ'->K (.bool (m.catches.all (K5 m.code.length))) w')->Q0 P F.an [hv, .func (.func F.ba) #[] #[.pointer (some q)]] w1 K:=
  fun hs hv hq h=>Q2I (K5 m.code.length) hs hv (fun σ1 x cs w1 K le _ hs hr hl hK=>Z6 (Q9U hs hr (hq.le le) fun w' σ' hk=>hK w' hk.bel)) (N1 hs h)
 refine J1 hs fun a w1 σ1 hk1 ha1=>?_
 (repeat' (first | (with_reducible intro _) | (with_reducible refine L4 ?_) | (simp only[↓M2,M2,Mb,reduceIte]) | (with_reducible first | refine ld aS aL aR ?_ | refine Y4 aS aL aR ?_ | refine Z8 aS aL aR ?_ | refine Q6 aL ?_ | refine L6 aR ?_ | refine J1 aS ?_ | refine N4 aS aL ?_ | refine V4 aS aR ?_ | refine Z0 aS aR aR (Rep.one Q7) ?_ | refine U7 aS aR aR aR ?_ | refine Q73 au (N1 aS ?_) | refine Vt _ au (N1 aS ?_) | refine hA au au ?_ | refine hB au au au ?_ | refine hC au au au ?_ | (refine J4 (fun hh=>?_) (fun hh=>?_)<;>(try simp only[hh,Bool.not_true,Bool.not_false,↓M2,M2,Mb,reduceIte])) | (refine Q3 (fun hh=>?_) (fun hh=>?_)<;>(try simp only[hh,Bool.not_true,Bool.not_false,↓M2,M2,Mb,reduceIte])))))
 all_goals (simp only[<-e1,<-e2,<-e3] at h;clear e1 e2 e3;exact aF))
theorem X1k {cs:List Value} {m:Hm.Met} (c:X1 w σ) (a:Glb σ) (b:E6 σ m cs) (h: ∀w' d,Stp w σ w' d->K (.bool (T7 m)) w'):Y8 P (.func (.func F.b2) #[] #[]) [.agg cs.toArray] w K:=Z6 (X2B c a b h)
def Ce (f:Fld):Bool:=D3 f.name&&right f.kind
def Ro (c:Cla):Bool:=(c.name::c.super::c.like).all O6&& !((c.super::c.like).any fun y=>decide (c.name=y))&&I2 id [] c.like&&
 !(c.iface&&(!c.abs|| !decide (c.super=L8)|| !decide (c.fields=[])||c.methods.any (fun m=> !m.abs)))&&
 !((c.abs&&c.fin)||(c.methods.any (·.abs)&& !c.abs))&&I2 Fld.name [] c.fields&&I2 Hm.Met.name [] c.methods&&c.fields.all Ce&&c.methods.all T7
def E2 (c:Cla):Int:=if Jr c then 51 else if Ro c then 0 else 50
theorem X1l {cs:List Value} {f:Fld} (hs:X1 w σ) (hf:C5 σ f cs) (h: ∀w' σ',Stp w σ w' σ'->K (.bool (Ce f)) w'):Q0 P F.bq [.agg cs.toArray] w K:=Q4z (by
 obtain ⟨rfl,h1,h2⟩:=hf;unfold Fs J5 Y2;unfold Ce at h
 (repeat' (first | (with_reducible intro _) | (with_reducible refine L4 ?_) | (simp only[↓M2,M2,Mb,reduceIte]) | (with_reducible first | refine ld aS aL aR ?_ | refine Y4 aS aL aR ?_ | refine Z8 aS aL aR ?_ | refine Q6 aL ?_ | refine L6 aR ?_ | refine J1 aS ?_ | refine N4 aS aL ?_ | refine V4 aS aR ?_ | refine Z0 aS aR aR (Rep.one Q7) ?_ | refine U7 aS aR aR aR ?_ | refine Q73 au (N1 aS ?_) | refine Vt _ au (N1 aS ?_) | (refine J4 (fun hh=>?_) (fun hh=>?_)<;>(try simp only[hh,Bool.not_true,Bool.not_false,↓M2,M2,Mb,reduceIte])) | (refine Q3 (fun hh=>?_) (fun hh=>?_)<;>(try simp only[hh,Bool.not_true,Bool.not_false,↓M2,M2,Mb,reduceIte])))))
 all_goals exact aF)
set_option maxRecDepth 9999 in
set_option maxHeartbeats 1600000 in
theorem X4h {cs:List Value} {c:Cla} (hs:X1 w σ) (hg:Glb σ) (hc:W8 σ c cs) (hl:c.like.length<=1000000) (h: ∀w' σ',Stp w σ w' σ'->K (.bool (Ro c)) w'):Q0 P F.cr [.agg cs.toArray] w K:=Q6v (by
 obtain ⟨lv,fv,mv,rfl,g1,g2,g3,g4,g5⟩:=hc;unfold Q0d;simp only[Z1,Y1];unfold J5 Y2 Y0 X7 X5 V5;unfold Ro at h;refine J1 hs fun a w1 σ1 hk1 ha1=>?_;rw[fa];refine ld hk1.sat ha1 rfl ?_;rw[fa];refine ld hk1.sat ha1 rfl ?_;refine Yh (R:=V3) (sz:=1) (xs:=[c.name,c.super]) hk1 [_,_] rfl rfl (by simp;exact ⟨rfl,rfl⟩) rfl ⟨⟨rfl,g4⟩,⟨rfl,g5⟩,trivial⟩ fun v w2 hk2 hacc _=>?_
 rw[fa];refine ld hk2.sat ha1 rfl ?_;refine Hk (hk1.trans hk2) hacc (g1.up hk1) rfl (by simp;omega) (by simp;omega) fun v' w3 hn3 hS3 hacc3 _=>?_
 obtain ⟨σ3,hS3,hv3,le3,_⟩:=hacc3.keep hS3;have hv3:Sl 1 V3 σ3 v' (c.name::c.super::c.like):=hv3;have ha3:=ha1.le le3;have le13:SLe σ σ3:=⟨hS3.le⟩;have g1:=g1.lift le13;have g2:=g2.lift le13;have g3:=g3.lift le13;have hg:=hg.lift le13;refine L9 hS3.sat ?_;refine H4 (fun v _=>Sl 1 V3 σ3 v (c.super::c.like)) (fun _ _ _ h _=>h) (fun w hb=>?_) ?_
 .refine Ky hv3 (some (I 1)) none 1 (c.like.length+2) (.inr rfl) (.inl ⟨rfl,by simp⟩) Q4 U5 fun v' hv'=>⟨Below.refl _ _,?_⟩
  simpa using hv'
 refine X4 (.pointer (some (a.add 0))) (fun w hb=>by rw[fa];exact X9 rfl) ?_
 refine X4 (S c.name) (fun t w hb e=>by rw[e];exact ld hb.sat ha3 rfl (X9 rfl)) ?_
 rintro t16 t17 t18 w4 hb4 f16 rfl rfl;have hS4:=hS3.trans hb4.stp;clear hb4 hk1 hk2 hn3;have hs4:=hS4.sat;refine Q2H hs4 f16 ?_
 have hA: ∀{w1:World} {σ1:Q2} {K:Value->World->Prop},X1 w1 σ1->Sl 7 E6 σ1 mv c.methods->(∀w' σ',Stp w1 σ1 w' σ'->K (.bool (c.methods.any (·.abs))) w')->Q0 P F.a [mv, .func (.func F.cc) #[] #[]] w1 K:=
  fun hs hv h=>F9 (·.abs) hs hv (fun x cs w1 K _ hs hr hl hK=>Z6 (Q4u (by
   obtain ⟨pv,cv,hv,rfl,_⟩:=hr;unfold Fm Y2;refine J1 hs fun a w1 σ1 hk1 ha1=>?_
   (repeat' (first | (with_reducible intro _) | (with_reducible refine L4 ?_) | (simp only[↓M2,M2,Mb,reduceIte]) | (with_reducible first | refine ld aS aL aR ?_ | refine Y4 aS aL aR ?_ | refine Z8 aS aL aR ?_ | refine Q6 aL ?_ | refine L6 aR ?_ | refine J1 aS ?_ | refine N4 aS aL ?_ | refine V4 aS aR ?_ | refine Z0 aS aR aR (Rep.one Q7) ?_ | refine U7 aS aR aR aR ?_ | (refine J4 (fun hh=>?_) (fun hh=>?_)<;>(try simp only[hh,Bool.not_true,Bool.not_false,↓M2,M2,Mb,reduceIte])) | (refine Q3 (fun hh=>?_) (fun hh=>?_)<;>(try simp only[hh,Bool.not_true,Bool.not_false,↓M2,M2,Mb,reduceIte])))))
   exact hK _ hk1.bel))) (N1 hs h)
 have hB: ∀{w1:World} {σ1:Q2} {K:Value->World->Prop},X1 w1 σ1->Sl 7 E6 σ1 mv c.methods->(∀w' σ',Stp w1 σ1 w' σ'->K (.bool (c.methods.any fun m=> !m.abs)) w')->Q0 P F.a [mv, .func (.func F.cd) #[] #[]] w1 K:=
  fun hs hv h=>F9 (fun m=> !m.abs) hs hv (fun x cs w1 K _ hs hr hl hK=>Z6 (Q4v (by
   obtain ⟨pv,cv,hv,rfl,_⟩:=hr;unfold Fo Y2;refine J1 hs fun a w1 σ1 hk1 ha1=>?_
   (repeat' (first | (with_reducible intro _) | (with_reducible refine L4 ?_) | (simp only[↓M2,M2,Mb,reduceIte]) | (with_reducible first | refine ld aS aL aR ?_ | refine Y4 aS aL aR ?_ | refine Z8 aS aL aR ?_ | refine Q6 aL ?_ | refine L6 aR ?_ | refine J1 aS ?_ | refine N4 aS aL ?_ | refine V4 aS aR ?_ | refine Z0 aS aR aR (Rep.one Q7) ?_ | refine U7 aS aR aR aR ?_ | (refine J4 (fun hh=>?_) (fun hh=>?_)<;>(try simp only[hh,Bool.not_true,Bool.not_false,↓M2,M2,Mb,reduceIte])) | (refine Q3 (fun hh=>?_) (fun hh=>?_)<;>(try simp only[hh,Bool.not_true,Bool.not_false,↓M2,M2,Mb,reduceIte])))))
   exact hK _ hk1.bel))) (N1 hs h)
 have hC: ∀{w1:World} {σ1:Q2} {K:Value->World->Prop},X1 w1 σ1->Sl 1 V3 σ1 v' (c.name::c.super::c.like)->(∀w' σ',Stp w1 σ1 w' σ'->K (.bool ((c.name::c.super::c.like).all O6)) w')->Q0 P F.a6 [v', .func (.func F.ag) #[] #[]] w1 K:=
  fun hs hv h=>Ig O6 hs hv (fun σ1 x w1 K _ _ hs hl hK=>Z6 (St x (Nat.le_trans hl M5) hK)) (N1 hs h)
 have hD: ∀{w1:World} {σ1:Q2} {K:Value->World->Prop},X1 w1 σ1->Sl 1 V3 σ1 lv c.like->(∀w' σ',Stp w1 σ1 w' σ'->K (.bool (I2 id [] c.like)) w')->Q0 P F.aM [lv, .func (.func F.ce) #[] #[]] w1 K:=
  fun hs hv h=>Q6p id hs hv (fun σ1 x w1 K _ hs hl hK=>Z6 (Q4w (hK _ (Below.refl _ _)))) (N1 hs h)
 have hE: ∀{w1:World} {σ1:Q2} {K:Value->World->Prop},X1 w1 σ1->Sl 3 C5 σ1 fv c.fields->(∀w' σ',Stp w1 σ1 w' σ'->K (.bool (I2 Fld.name [] c.fields)) w')->Q0 P F.aw [fv, .func (.func F.cf) #[] #[]] w1 K:=
  fun hs hv h=>Q3r Fld.name hs hv (fun σ1 x cs w1 K _ hs hr hl hK=>Z6 (Q4x (by
   obtain ⟨rfl,_⟩:=hr;unfold Fp Y2;refine J1 hs fun a w1 σ1 hk1 ha1=>?_
   (repeat' (first | (with_reducible intro _) | (with_reducible refine L4 ?_) | (simp only[↓M2,M2,Mb,reduceIte]) | (with_reducible first | refine ld aS aL aR ?_ | refine Y4 aS aL aR ?_ | refine Z8 aS aL aR ?_ | refine Q6 aL ?_ | refine L6 aR ?_ | refine J1 aS ?_ | refine N4 aS aL ?_ | refine V4 aS aR ?_ | refine Z0 aS aR aR (Rep.one Q7) ?_ | refine U7 aS aR aR aR ?_ | (refine J4 (fun hh=>?_) (fun hh=>?_)<;>(try simp only[hh,Bool.not_true,Bool.not_false,↓M2,M2,Mb,reduceIte])) | (refine Q3 (fun hh=>?_) (fun hh=>?_)<;>(try simp only[hh,Bool.not_true,Bool.not_false,↓M2,M2,Mb,reduceIte])))))
   exact hK _ hk1.bel))) (N1 hs h)
 have hF: ∀{w1:World} {σ1:Q2} {K:Value->World->Prop},X1 w1 σ1->Sl 7 E6 σ1 mv c.methods->(∀w' σ',Stp w1 σ1 w' σ'->K (.bool (I2 Hm.Met.name [] c.methods)) w')->Q0 P F.aq [mv, .func (.func F.cg) #[] #[]] w1 K:=
  fun hs hv h=>Q2L Hm.Met.name hs hv (fun σ1 x cs w1 K _ hs hr hl hK=>Z6 (Q4y (by
   obtain ⟨pv,cv,hv,rfl,_⟩:=hr;unfold Fq Y2;refine J1 hs fun a w1 σ1 hk1 ha1=>?_
   (repeat' (first | (with_reducible intro _) | (with_reducible refine L4 ?_) | (simp only[↓M2,M2,Mb,reduceIte]) | (with_reducible first | refine ld aS aL aR ?_ | refine Y4 aS aL aR ?_ | refine Z8 aS aL aR ?_ | refine Q6 aL ?_ | refine L6 aR ?_ | refine J1 aS ?_ | refine N4 aS aL ?_ | refine V4 aS aR ?_ | refine Z0 aS aR aR (Rep.one Q7) ?_ | refine U7 aS aR aR aR ?_ | (refine J4 (fun hh=>?_) (fun hh=>?_)<;>(try simp only[hh,Bool.not_true,Bool.not_false,↓M2,M2,Mb,reduceIte])) | (refine Q3 (fun hh=>?_) (fun hh=>?_)<;>(try simp only[hh,Bool.not_true,Bool.not_false,↓M2,M2,Mb,reduceIte])))))
   exact hK _ hk1.bel))) (N1 hs h)
 have hG: ∀{w1:World} {σ1:Q2} {K:Value->World->Prop},X1 w1 σ1->Sl 3 C5 σ1 fv c.fields->(∀w' σ',Stp w1 σ1 w' σ'->K (.bool (c.fields.all Ce)) w')->Q0 P F.ao [fv, .func (.func F.bq) #[] #[]] w1 K:=
  fun hs hv h=>Q2J Ce hs hv (fun σ1 x cs w1 K _ _ hs hr hl hK=>Z6 (X1l hs hr fun w' σ' hk=>hK w' hk.bel)) (N1 hs h)
 have hH: ∀{w1:World} {σ1:Q2} {K:Value->World->Prop},X1 w1 σ1->Glb σ1->Sl 7 E6 σ1 mv c.methods->(∀w' σ',Stp w1 σ1 w' σ'->K (.bool (c.methods.all T7)) w')->Q0 P F.ak [mv, .func (.func F.b2) #[] #[]] w1 K:=
  fun hs hg hv h=>Q17 T7 hs hv (fun σ1 x cs w1 K le _ hs hr hl hK=>X1k hs (hg.lift ⟨le⟩) hr fun w' σ' hk=>hK w' hk.bel) (N1 hs h)
 have e1:decide ((0:Int)<c.fields.length)= !decide (c.fields=[]):=by cases c.fields<;>simp
 have e2:decide (c.super=[79,98,106,101,99,116])=decide (c.super=L8):=rfl
 (repeat' (first | (with_reducible intro _) | (with_reducible refine L4 ?_) | (simp only[↓M2,M2,Mb,reduceIte]) | (with_reducible first | refine ld aS aL aR ?_ | refine Y4 aS aL aR ?_ | refine Z8 aS aL aR ?_ | refine Q6 aL ?_ | refine L6 aR ?_ | refine J1 aS ?_ | refine N4 aS aL ?_ | refine V4 aS aR ?_ | refine Z0 aS aR aR (Rep.one Q7) ?_ | refine U7 aS aR aR aR ?_ | refine hA au au ?_ | refine hB au au ?_ | refine hC au au ?_ | refine hD au au ?_ | refine hE au au ?_ | refine hF au au ?_ | refine hG au au ?_ | refine hH au au au ?_ | (refine J4 (fun hh=>?_) (fun hh=>?_)<;>(try simp only[hh,Bool.not_true,Bool.not_false,↓M2,M2,Mb,reduceIte])) | (refine Q3 (fun hh=>?_) (fun hh=>?_)<;>(try simp only[hh,Bool.not_true,Bool.not_false,↓M2,M2,Mb,reduceIte])))))
 all_goals (simp only[<-e1,<-e2] at h;clear hA hB hC hD hE hF hG hH e1 e2;exact aF))
theorem X43 {cs:List Value} {c:Cla} (hs:X1 w σ) (hg:Glb σ) (hc:W8 σ c cs) (hl:c.like.length<=1000000) (h: ∀w' σ',Stp w σ w' σ'->K (I (E2 c)) w'):Q0 P F.cq [.agg cs.toArray] w K:=Q6u (by
 have hc0:=hc;obtain ⟨lv,fv,mv,rfl,g1,g2,g3,g4,g5⟩:=hc;unfold Q0c;unfold E2 at h
 (repeat' (first | (with_reducible intro _) | (with_reducible refine L4 ?_) | (simp only[↓M2,M2,Mb,reduceIte]) | (with_reducible first | refine ld aS aL aR ?_ | refine Y4 aS aL aR ?_ | refine Z8 aS aL aR ?_ | refine Q6 aL ?_ | refine L6 aR ?_ | refine J1 aS ?_ | refine N4 aS aL ?_ | refine V4 aS aR ?_ | refine Z0 aS aR aR (Rep.one Q7) ?_ | refine U7 aS aR aR aR ?_ | refine X5v au au (N1 aS ?_) | refine X4h au au au au ?_ | (refine J4 (fun hh=>?_) (fun hh=>?_)<;>(try simp only[hh,Bool.not_true,Bool.not_false,↓M2,M2,Mb,reduceIte])) | (refine Q3 (fun hh=>?_) (fun hh=>?_)<;>(try simp only[hh,Bool.not_true,Bool.not_false,↓M2,M2,Mb,reduceIte])))))
 all_goals exact aF)
end Go.Proofs.Y
namespace Go.Emb
open Go.RowKit Go.Hm
structure Tab (σ : Q2) (v : Value) (l : List Cla) : Prop where
  ex : ∃ a lv r m, v = .pointer (some a) /\ J7 σ a [lv, .map (some r)] /\ Sl 8 W8 σ lv l /\ Yb σ r m /\ ∀ n, B6 m n = (Z7 l n).map (fun i : Nat => I (i : Int))
theorem Tab.lift {σ0 σ:Q2} {v:Value} {l:List Cla} (h:Tab σ0 v l) (k:SLe σ0 σ):Tab σ v l:=by
 obtain ⟨a,g,r,m,b,c,d,e,f⟩:=h.ex;exact ⟨a,g,r,m,b,c.lift k,d.lift k,e.lift k,f⟩
end Go.Emb
namespace Go.Proofs.Y
open Go.Emb Go.RowKit Go.Kd Go.Hm
variable {w : World} {K : Value -> World -> Prop} {σ : Q2} {v : Value} {l : List Cla}
theorem Q9T {n:Q8} (b:X1 w σ) (d:Tab σ v l) (h:K (.bool (Q3A l n)) w):Q0 P F.i [v,S n] w K:=Rl (by
 obtain ⟨a,i,r,m,rfl,e,j,f,g⟩:=d.ex;unfold Un;simp only[M8];unfold Y2;rw[E0,fa];refine ld b e rfl ?_;rw[Q3E Y6 (f.is b) n,g n];unfold Q3A at h;cases c:Z7 l n<;>rw[c] at h<;>((try simp only[Option.map_some,Option.map_none]);(try simp only[↓M1,M1,Mb,reduceIte]);exact h))
theorem Yi {n:Q8} {c:Cla} (V:X1 w σ) (W:Tab σ v l) (Q:lk l n=some c)
 (h: ∀o s mv w' q,Stp w σ w' q->Sl 1 V3 q o c.like->Sl 3 C5 q s c.fields->Sl 7 E6 q mv c.methods->c.name.length<=U9->c.super.length<=U9->W8 q c [S c.name,S c.super,o, .bool c.iface, .bool c.abs, .bool c.fin,s,mv]->
  K (.agg [S c.name,S c.super,o, .bool c.iface, .bool c.abs, .bool c.fin,s,mv].toArray) w'):Q0 P F.e [v,S n] w K:=Aa (by
 obtain ⟨a,o,r,m,rfl,E,t2,t3,t4⟩:=W.ex;obtain ⟨_,_,i,R,z⟩:=L5 Q;obtain ⟨y,rfl⟩:=List.getElem?_eq_some_iff.1 z;unfold Nq;simp only[Z1,Y1];unfold Z5;refine I4 V fun b w1 σ1 f d A=>?_;refine L9 d.sat ?_;refine X4 (.pointer (some a)) (fun w f=>by rw[E0];exact X9 rfl) ?_
 refine X4 (.pointer (some (a.add 0))) (fun t w f e=>by rw[e,fa];exact X9 rfl) ?_
 refine X4 (.pointer (some a)) (fun w f=>by rw[E0];exact X9 rfl) ?_
 refine X4 (.pointer (some (a.add 1))) (fun t w f e=>by rw[e,fa];exact X9 rfl) ?_
 refine X4 o (fun t w f e=>by rw[e];exact ld f.sat (E.up d) rfl (X9 rfl)) ?_
 refine X4 (.map (some r)) (fun t w f e=>by rw[e];exact ld f.sat (E.up d) rfl (X9 rfl)) ?_
 refine X4 (I i) (fun t w f e=>by rw[e,Q65 Y6 ((t3.up d).is f.sat) n,t4 n,R];exact X9 rfl) ?_
 rintro t6 t7 Y Z t8 aa ab w2 g rfl rfl rfl rfl H rfl rfl;subst H;have B:=A.step g.stp;refine N0 (t2.up d) y fun p cs U j D=>?_;refine Z8 g.sat U j ?_;have k:=D;obtain ⟨X,s,mv,rfl,J,L,M,N,O⟩:=D;refine Qt B (d.trans g.stp) f rfl rfl (Rep.one k) fun w3 u C=>?_;refine M6 C rfl ?_;exact h _ _ _ w3 σ1 u.stp J L M N O k)
theorem Ca {n:Q8} (b:X1 w σ) (c:Tab σ v l) (a:lk l n=none) (h:K (.bool false) w):Q0 P F.i [v,S n] w K:=Q9T b c (by rw[Q5i,a];exact h)
theorem Ht {n:Q8} {d:Cla} (b:X1 w σ) (c:Tab σ v l) (a:lk l n=some d) (h:K (.bool true) w):Q0 P F.i [v,S n] w K:=Q9T b c (by rw[Q5i,a];exact h)
theorem X2D {c:Cla} {cs:List Value} (hs:X1 w σ) (ht:Tab σ v l) (hc:W8 σ c cs) (h: ∀w' σ',Stp w σ w' σ'->K (I (E4 l c)) w'):Q0 P F.b5 [v, .agg cs.toArray] w K:=Ki (by
 obtain ⟨lv,fv,mv,rfl,g1,g2,g3,g4,g5⟩:=hc;unfold Mi J5 Y2 Z5 U4 Y0 X7 X2;unfold E4 at h;cases hd:lk l c.super with
 | none=>
  simp only[Jd,hd,if_true] at h
  (repeat' (first | (with_reducible intro _) | (with_reducible refine L4 ?_) | (simp only[↓M2,M2,Mb,reduceIte]) | (with_reducible first | refine ld aS aL aR ?_ | refine Y4 aS aL aR ?_ | refine Z8 aS aL aR ?_ | refine Q6 aL ?_ | refine L6 aR ?_ | refine J1 aS ?_ | refine N4 aS aL ?_ | refine V4 aS aR ?_ | refine Z0 aS aR aR (Rep.one Q7) ?_ | refine U7 aS aR aR aR ?_ | refine Ca au au au ?_ | (refine J4 (fun hh=>?_) (fun hh=>?_)<;>(try simp only[hh,Bool.not_true,Bool.not_false,↓M2,M2,Mb,reduceIte])) | (refine Q3 (fun hh=>?_) (fun hh=>?_)<;>(try simp only[hh,Bool.not_true,Bool.not_false,↓M2,M2,Mb,reduceIte])))))
  all_goals exact aF
 | some d=>
  simp only[Jd,hd] at h;obtain ⟨dn,ds,dl,di,da,df,dfs,dms⟩:=d;cases di<;>cases df
  .simp only[Bool.or_self,Bool.false_eq_true,if_false] at h
   (repeat' (first | (with_reducible intro _) | (with_reducible refine L4 ?_) | (simp only[↓M2,M2,Mb,reduceIte]) | (with_reducible first | refine ld aS aL aR ?_ | refine Y4 aS aL aR ?_ | refine Z8 aS aL aR ?_ | refine Q6 aL ?_ | refine L6 aR ?_ | refine J1 aS ?_ | refine N4 aS aL ?_ | refine V4 aS aR ?_ | refine Z0 aS aR aR (Rep.one Q7) ?_ | refine U7 aS aR aR aR ?_ | refine Ht au au au ?_ | refine Yi au au au ?_ | (refine J4 (fun hh=>?_) (fun hh=>?_)<;>(try simp only[hh,Bool.not_true,Bool.not_false,↓M2,M2,Mb,reduceIte])) | (refine Q3 (fun hh=>?_) (fun hh=>?_)<;>(try simp only[hh,Bool.not_true,Bool.not_false,↓M2,M2,Mb,reduceIte])))))
   rename_i w3 σ3 hk3 _ _ _ _ _ _;have hS:Stp w σ w3 σ3:=by (repeat (first | exact Stp.refl (by (first | assumption | exact Stp.sat Q7 | exact Hst.sat Q7)) | assumption | refine Stp.trans ?_ (by first | assumption | exact Hst.stp Q7)))
   refine U8 c.like.length (fun n w'=> ∃σ',Stp w σ w' σ'/\SLe σ3 σ'/\((c.like.take n).any (C2 l))=false) ⟨σ3,hS,SLe.refl _,by simp⟩ fun n w4 d hn hi=>?_
   obtain ⟨σ4,hS4,le4,hq⟩:=hi;clear hk3;refine Z4 ?_;refine Q3 (fun hh=>?_) (fun hh=>?_)
   .have hn':n<c.like.length:=by simpa using hh
    have hmax:c.like.length<=9223372036854775807:=g1.max;refine Q7s (by (first | assumption | exact Sl.lift Q7 (by (repeat (first | exact SLe.refl _ | refine SLe.more ?_ Q7 | refine SLe.more ?_ (Nxt.le Q7) | refine SLe.step ?_ Q7))) | exact J7.lift Q7 (by (repeat (first | exact SLe.refl _ | refine SLe.more ?_ Q7 | refine SLe.more ?_ (Nxt.le Q7) | refine SLe.step ?_ Q7))) | exact Yb.lift Q7 (by (repeat (first | exact SLe.refl _ | refine SLe.more ?_ Q7 | refine SLe.more ?_ (Nxt.le Q7) | refine SLe.step ?_ Q7))) | exact RCl_lift Q7 (by (repeat (first | exact SLe.refl _ | refine SLe.more ?_ Q7 | refine SLe.more ?_ (Nxt.le Q7) | refine SLe.step ?_ Q7))) | exact RMe_lift Q7 (by (repeat (first | exact SLe.refl _ | refine SLe.more ?_ Q7 | refine SLe.more ?_ (Nxt.le Q7) | refine SLe.step ?_ Q7))) | exact Glb.lift Q7 (by (repeat (first | exact SLe.refl _ | refine SLe.more ?_ Q7 | refine SLe.more ?_ (Nxt.le Q7) | refine SLe.step ?_ Q7))) | exact Tab.lift Q7 (by (repeat (first | exact SLe.refl _ | refine SLe.more ?_ Q7 | refine SLe.more ?_ (Nxt.le Q7) | refine SLe.step ?_ Q7))) | exact RIn_any Q7 | exact RFd_any Q7 | exact RCa_any Q7)) hn' fun p hl hbig=>?_
    have hq':=D6 (p:=C2 l) hn';rw[hq] at hq';cases hx:lk l c.like[n] with
    | none=>
     simp only[I5 (p:=C2 l) hn' (by simp only[C2,hx]),if_true] at h
     (repeat' (first | (with_reducible intro _) | (with_reducible refine L4 ?_) | (simp only[↓M2,M2,Mb,reduceIte]) | (with_reducible first | refine ld aS aL aR ?_ | refine Y4 aS aL aR ?_ | refine Z8 aS aL aR ?_ | refine Q6 aL ?_ | refine L6 aR ?_ | refine J1 aS ?_ | refine N4 aS aL ?_ | refine V4 aS aR ?_ | refine Z0 aS aR aR (Rep.one Q7) ?_ | refine U7 aS aR aR aR ?_ | refine Ca au au au ?_ | (refine J4 (fun hh=>?_) (fun hh=>?_)<;>(try simp only[hh,Bool.not_true,Bool.not_false,↓M2,M2,Mb,reduceIte])) | (refine Q3 (fun hh=>?_) (fun hh=>?_)<;>(try simp only[hh,Bool.not_true,Bool.not_false,↓M2,M2,Mb,reduceIte])))))
     all_goals exact aF
    | some x=>
     obtain ⟨xn,xs,xl,xi,xa,xf,xfs,xms⟩:=x;cases xi
     .simp only[I5 (p:=C2 l) hn' (by simp only[C2,hx];rfl),if_true] at h
      (repeat' (first | (with_reducible intro _) | (with_reducible refine L4 ?_) | (simp only[↓M2,M2,Mb,reduceIte]) | (with_reducible first | refine ld aS aL aR ?_ | refine Y4 aS aL aR ?_ | refine Z8 aS aL aR ?_ | refine Q6 aL ?_ | refine L6 aR ?_ | refine J1 aS ?_ | refine N4 aS aL ?_ | refine V4 aS aR ?_ | refine Z0 aS aR aR (Rep.one Q7) ?_ | refine U7 aS aR aR aR ?_ | refine Ht au au au ?_ | refine Yi au au au ?_ | (refine J4 (fun hh=>?_) (fun hh=>?_)<;>(try simp only[hh,Bool.not_true,Bool.not_false,↓M2,M2,Mb,reduceIte])) | (refine Q3 (fun hh=>?_) (fun hh=>?_)<;>(try simp only[hh,Bool.not_true,Bool.not_false,↓M2,M2,Mb,reduceIte])))))
      all_goals exact aF
     ·(repeat' (first | (with_reducible intro _) | (with_reducible refine L4 ?_) | (simp only[↓M2,M2,Mb,reduceIte]) | (with_reducible first | refine ld aS aL aR ?_ | refine Y4 aS aL aR ?_ | refine Z8 aS aL aR ?_ | refine Q6 aL ?_ | refine L6 aR ?_ | refine J1 aS ?_ | refine N4 aS aL ?_ | refine V4 aS aR ?_ | refine Z0 aS aR aR (Rep.one Q7) ?_ | refine U7 aS aR aR aR ?_ | refine Ht au au au ?_ | refine Yi au au au ?_ | (refine J4 (fun hh=>?_) (fun hh=>?_)<;>(try simp only[hh,Bool.not_true,Bool.not_false,↓M2,M2,Mb,reduceIte])) | (refine Q3 (fun hh=>?_) (fun hh=>?_)<;>(try simp only[hh,Bool.not_true,Bool.not_false,↓M2,M2,Mb,reduceIte])))))
      refine Y9 hmax hn' ⟨_,by (repeat (first | exact Stp.refl (by (first | assumption | exact Stp.sat Q7 | exact Hst.sat Q7)) | assumption | refine Stp.trans ?_ (by first | assumption | exact Hst.stp Q7))),by (repeat (first | exact SLe.refl _ | refine SLe.more ?_ Q7 | refine SLe.more ?_ (Nxt.le Q7) | refine SLe.step ?_ Q7)),by rw[hq'];simp only[C2,hx];rfl⟩
   .have hn': ¬n<c.like.length:=by simpa using hh
    rw[C0 hn'] at hq;simp only[hq,Bool.false_eq_true,if_false] at h;exact h _ _ hS4
  all_goals
   simp only[Bool.or_self,Bool.or_true,Bool.true_or,if_true] at h
   (repeat' (first | (with_reducible intro _) | (with_reducible refine L4 ?_) | (simp only[↓M2,M2,Mb,reduceIte]) | (with_reducible first | refine ld aS aL aR ?_ | refine Y4 aS aL aR ?_ | refine Z8 aS aL aR ?_ | refine Q6 aL ?_ | refine L6 aR ?_ | refine J1 aS ?_ | refine N4 aS aL ?_ | refine V4 aS aR ?_ | refine Z0 aS aR aR (Rep.one Q7) ?_ | refine U7 aS aR aR aR ?_ | refine Ht au au au ?_ | refine Yi au au au ?_ | (refine J4 (fun hh=>?_) (fun hh=>?_)<;>(try simp only[hh,Bool.not_true,Bool.not_false,↓M2,M2,Mb,reduceIte])) | (refine Q3 (fun hh=>?_) (fun hh=>?_)<;>(try simp only[hh,Bool.not_true,Bool.not_false,↓M2,M2,Mb,reduceIte])))))
   all_goals exact aF)
end Go.Proofs.Y
namespace Go.Emb
open Go.RowKit Go.Hm
variable {w w' : World} {σ : Q2}
theorem Q9Y {a:Addr} {v:Value} (h:w.cell? a=some v) (b:Below w.heap.size w w'):w'.cell? a=some v:=by
 rw[<-h];exact World.cell?_of_block (b.block a.block (World.block_lt_of_cell? _ _ h))
def Ptr {α:Type} (sz:Nat) (R:Q2->α->List Value->Prop) (σ:Q2) (x:α) (p:Value) (w:World):Prop:=
 ∃a cs,p= .pointer (some a)/\(∀j u,cs[j]? =some u->w.cell? (a.add j)=some u)/\cs.length=sz/\R σ x cs
theorem Ptr.below {α:Type} {sz:Nat} {R:Q2->α->List Value->Prop} {x:α} {p:Value} (h:Ptr sz R σ x p w) (e:Below w.heap.size w w'):Ptr sz R σ x p w':=by
 obtain ⟨a,cs,b,c,d⟩:=h;exact ⟨a,cs,b,fun j u f=>Q9Y (c j u f) e,d⟩
end Go.Emb
namespace Go.Proofs.Y
open Go.Emb Go.RowKit Go.Kd Go.Hm
variable {w : World} {K : Value -> World -> Prop} {σ : Q2} {v : Value} {l : List Cla}
theorem Q5L {w0:World} {σ0:Q2} {xs:List Cla} (Y:Stp w0 σ0 w σ) (B:U0 w0.heap.size T.a 8 W8 σ w v xs)
 (h: ∀w',Kpt (fun k=>v.ownBlock=some k) w w'->Stp w0 σ0 w' σ->U0 w0.heap.size T.a 8 W8 σ w' v xs.reverse->K (.tuple #[]) w'):Q0 P F.q [v] w K:=Jt (by
 unfold K7;simp only[Z1,Y1];unfold X7 X5 X2
 have U:xs.length<=9223372036854775807:=by
  obtain ⟨a,V,_,g,b,_⟩:=B;simp only[maxLen] at b;omega
 refine Sh B ?_;refine Hf ⟨by omega,by omega⟩ ?_
 refine Uc (fun x w'=> ∃i:Nat,x=(I i,I ((xs.length:Int)-1-i))/\2*i<=xs.length/\Kpt (fun k=>v.ownBlock=some k) w w'/\Stp w0 σ0 w' σ/\U0 w0.heap.size T.a 8 W8 σ w' v (B8 i xs)) (fun x _=>match x.2 with | .int _ n=>(n+1).toNat | _=>0) ⟨0,by simp,by omega,Kpt.refl,Y,B⟩ ?_
 rintro _ d w1 ⟨i,rfl,O,Q,m,c⟩;obtain ⟨R,N⟩:=Q27 xs i O;refine Z4 ?_;refine Q3 (fun hh=>?_) (fun hh=>?_)
 .have aa:(i:Int)<(xs.length:Int)-1-i:=by simpa using hh
  have M:((xs.length:Int)-1-i)=((xs.length-1-i:Nat):Int):=by omega
  have q:i<(B8 i xs).length:=by omega
  have r:xs.length-1-i<(B8 i xs).length:=by omega
  refine L9 m.sat ?_;refine H4 (Ptr 8 W8 σ (B8 i xs)[xs.length-1-i]) (fun _ _ _ h f=>h.below f) (fun w f=>?_) ?_
  .simp only[M]
   exact Q7O (c.step f.stp) r fun a cs g b j=>⟨Below.refl _ _,a,cs,rfl,g,b,j⟩
  refine H4 (Ptr 8 W8 σ (B8 i xs)[i]) (fun _ _ _ h f=>h.below f) (fun w f=>?_) ?_
  .exact Q7O (c.step f.stp) q fun a cs g b j=>⟨Below.refl _ _,a,cs,rfl,g,b,j⟩
  refine H4 (fun v _=> ∃cs:List Value,v= .agg cs.toArray/\cs.length=8/\W8 σ (B8 i xs)[xs.length-1-i] cs) (fun _ _ _ h _=>h) (fun t w f e=>?_) ?_
  .obtain ⟨a,cs,rfl,g,b,j⟩:=e
   exact Ps b g ⟨Below.refl _ _,cs,rfl,b,j⟩
  refine H4 (fun v _=> ∃cs:List Value,v= .agg cs.toArray/\cs.length=8/\W8 σ (B8 i xs)[i] cs) (fun _ _ _ h _=>h) (fun t w f e=>?_) ?_
  .obtain ⟨a,cs,rfl,g,b,j⟩:=e
   exact Ps b g ⟨Below.refl _ _,cs,rfl,b,j⟩
  rintro ab ad ac ae w2 o _ _ ⟨cs,rfl,E,s⟩ ⟨ds,rfl,H,y⟩;refine X3V (m.trans o.stp) (c.step o.stp) q E s (Rep.one s) fun p u w3 J z C=>?_;simp only[M];refine X3V z.stp C (by simpa using r) H y (Rep.one y) fun p u w4 L A D=>?_
  refine Wb ⟨by omega,by omega⟩ ?_
  refine Hf ⟨by omega,by omega⟩ ?_
  refine ⟨⟨i+1,by congr 1<;>congr 1<;>omega,by omega,?_,A.stp,?_⟩,?_⟩
  .exact ((Q.trans (Kpt.of_below o.stp.bel)).trans J).trans L
  .have W:(B8 i xs)[i]? =some (B8 i xs)[i]:=List.getElem?_eq_getElem q
   have X:(B8 i xs)[xs.length-1-i]? =some (B8 i xs)[xs.length-1-i]:=List.getElem?_eq_getElem r
   have:B8 (i+1) xs=((B8 i xs).set i (B8 i xs)[xs.length-1-i]).set (xs.length-1-i) (B8 i xs)[i]:=by
    simp only[B8,W,X]
   rw[this];exact D
  .simp only;omega
 .have Z: ¬(i:Int)<(xs.length:Int)-1-i:=by simpa using hh
  rw[X2d xs i O Q4] at c;exact h w1 Q m c)
def sOf:Value->Q8 | .string b=>b.data.toList | _=>[]
theorem X1i {n:Q8} (Q:X1 w σ) (B:Tab σ v l) (M:Zc l) (W:l.length<=100000) (h: ∀y w' σ',Stp w σ w' σ'->U0 w.heap.size T.a 8 W8 σ' w' y (chain l n).reverse->K y w'):Q0 P F.aL [v,S n] w K:=Q0F (by
 unfold Dr
 refine Uc (fun x w'=> ∃(s:Q8) (k:List Cla) (σ':Q2),x.2=S s/\chain l n=k++chain l s/\Stp w σ w' σ'/\W1 w.heap.size T.a 8 W8 σ' w' x.1 k) (fun x _=>(chain l (sOf x.2)).length)
  ⟨n,[],σ,rfl,rfl,Stp.refl Q,W1.nil⟩ ?_
 rintro ⟨Z,_⟩ d w1 ⟨s,k,σ1,rfl,o,a,f⟩;have i:=B.lift ⟨a.le⟩;have z:=Fe l n;have t:sOf (S s)=s:=by simp[sOf]
 simp only[t];cases j:lk l s with
 | none=>
  refine Ca a.sat i j ?_;refine L1 ?_;rw[Nd j,List.append_nil] at o;rw[<-o] at f;refine Q5L a (U0.of_acc f) fun U g p q=>?_;exact h _ _ _ p q
 | some c=>
  refine Ht a.sat i j ?_;refine W7 ?_;refine Yi a.sat i j fun R L mv U σ2 g C D E H J A=>?_;have b:=Cb M s;rw[j] at b;simp only at b
  have N:k.length+1<=l.length+1:=by
   have:=congrArg List.length o;rw[List.length_append,b,List.length_cons] at this;omega
  refine Za (a.trans g) (f.up g) A rfl rfl rfl Q4 Q4 fun u y X σ3 O e r _=>?_;refine Yi e.sat (B.lift ⟨e.le⟩) j fun R L mv Y V m C D E H J A=>?_;refine L6 (v:=S c.super) rfl ?_;refine ⟨⟨c.super,k++[c],V,rfl,?_,e.trans m,r.up m⟩,?_⟩
  .rw[o,b];simp
  .have:sOf (S c.super)=c.super:=by simp[sOf]
   simp only[this,b,List.length_cons];omega)
theorem Q3q {n:Q8} (hs:X1 w σ) (ht:Tab σ v l) (V:Zc l) (X:l.length<=100000) (H: ∀c∈l,Qe c) (h: ∀L w' σ',Stp w σ w' σ'->Sl 3 C5 σ' L (W9 l n)->K L w'):Q0 P F.ac [v,S n] w K:=Kg (by
 unfold Mg;simp only[M4];unfold Y2 Z5 X7 X5 X2;refine X1i hs ht V X fun v1 w1 σ1 D A=>?_;obtain ⟨Q,u,r,ac,_⟩:=A.keep D;generalize j:(chain l n).reverse=cs at*;have M:cs.length<=l.length+1:=by rw[<-j,List.length_reverse];exact Fe l n
 have k: ∀c∈cs,c.fields.length<=1000000:=fun c t=>(H c (Q19 (by rw[<-j] at t;simpa using t))).2.1
 refine Q6 r ?_;refine O7 cs.length (fun i a w'=> ∃σ',Stp w σ w' σ'/\SLe Q σ'/\W1 w.heap.size T.j 3 C5 σ' w' a ((cs.take i).flatMap (·.fields))) ⟨Q,u,SLe.refl _,W1.nil⟩ fun i a w3 d hi m=>?_;obtain ⟨σ3,f,s,g⟩:=m;refine Z4 ?_;refine Q3 (fun hh=>?_) (fun hh=>?_)
 .have b:i<cs.length:=by simpa using hh
  refine N0 (r.lift s) b fun p cells E o O=>?_;refine Z8 f.sat E o ?_;refine Z0 f.sat (by rfl) o (Rep.one O) fun q w4 R e Z=>?_
  obtain ⟨lv,fv,mv,rfl,f1,U,f3,f4,f5⟩:=O;rw[fa];refine ld e.sat Z rfl ?_;have C:=Xo (fun c:Cla=>c.fields) 1000000 (cs.take i) fun c t=>k c (List.mem_of_mem_take t);rw[List.length_take] at C;have W:=k cs[i] (List.getElem_mem b);have N:min i cs.length*1000000<=100000*1000000:=Nat.mul_le_mul_right _ Q4;refine Hk (f.trans e) (g.up e) (U.up e) rfl Q4 Q4 fun L w5 Y z B _=>?_;refine H8 ?_;refine Z9 Q4 b ⟨R,z,s.more ⟨e.le⟩,?_⟩;rw[List.take_add_one,List.getElem?_eq_getElem b,List.flatMap_append]
  simpa using B
 .have b: ¬i<cs.length:=by simpa using hh
  rw[List.take_of_length_le Q4] at g;obtain ⟨R,y,J,ad,_⟩:=g.keep f;refine h _ _ _ y ?_;unfold W9;rw[j];exact J)
theorem X47 {n f:Q8} (hs:X1 w σ) (ht:Tab σ v l) (ha:Zc l) (hl:l.length<=100000) (hsm: ∀c∈l,Qe c) (h: ∀w' σ',Stp w σ w' σ'->K (I (M9 (De l n f))) w'):Q0 P F.bd [v,S n,S f] w K:=Ty (by
 unfold Nn;refine V4 hs rfl fun q w1 σ1 hk1 hq=>?_;refine Q3q hk1.sat (ht.lift ⟨hk1.le⟩) ha hl hsm fun v' w2 σ2 hk2 hv2=>?_;rw[Yq];refine Ie (fun x=>decide (x.name=f)) hk2.sat hv2 (fun x cs w3 K _ hs3 hr hl hK=>Z6 (Gr ?_)) fun w3 hb=>?_
 .obtain ⟨rfl,_⟩:=hr
  unfold Wz Y2 X2;have hq2:=hq.up hk2;refine J1 hs3 fun a w4 σ4 hk4 ha4=>?_
  (repeat' (first | (with_reducible intro _) | (with_reducible refine L4 ?_) | (simp only[↓M2,M2,Mb,reduceIte]) | (with_reducible first | refine ld aS aL aR ?_ | refine Y4 aS aL aR ?_ | refine Z8 aS aL aR ?_ | refine Q6 aL ?_ | refine L6 aR ?_ | refine J1 aS ?_ | refine N4 aS aL ?_ | refine V4 aS aR ?_ | refine Z0 aS aR aR (Rep.one Q7) ?_ | refine U7 aS aR aR aR ?_ | (refine J4 (fun hh=>?_) (fun hh=>?_)<;>(try simp only[hh,Bool.not_true,Bool.not_false,↓M2,M2,Mb,reduceIte])) | (refine Q3 (fun hh=>?_) (fun hh=>?_)<;>(try simp only[hh,Bool.not_true,Bool.not_false,↓M2,M2,Mb,reduceIte])))))
  exact hK _ hk4.bel
 .exact h _ _ ((hk1.trans hk2).trans (Stp.of_below hk2.sat hb)))
end Go.Proofs.Y
namespace Go.Hm
open Go.Kd
theorem Q7m {α:Type} (p:α->Bool): ∀xs:List α,xs.find? p=(xs.findIdx? p).bind (xs[·]?)
 | []=>rfl
 | x::r=>by
  rw[List.find?_cons,List.findIdx?_cons];cases p x with
  | true=>rfl
  | false=>
   simp only[Bool.false_eq_true,if_false];rw[Q7m p r];cases r.findIdx? p<;>simp
def X2k (l:List Cla):Prop:= ∀c∈l,∀u∈c.like,∃d,lk l u=some d
def Nm (c:Cla):Prop:=c.name.length<=100/\(∀f∈c.fields,f.name.length<=100/\f.kind.length<=100)/\ ∀m∈c.methods,m.result.length<=100/\ ∀p∈m.params,p.length<=100
structure Ok (l : List Cla) : Prop where
  acy : Zc l
  len : l.length <= 100000
  sm : ∀ c ∈ l, Qe c
  full : X2k l
  nm : ∀ c ∈ l, Nm c
abbrev oM (o:Option Hm.Met):Hm.Met:=o.getD Hm.Met.zero
abbrev o1 (o:Option (Q8×Hm.Met)):Q8:=(o.map (·.1)).getD []
abbrev o2 (o:Option (Q8×Hm.Met)):Hm.Met:=(o.map (·.2)).getD Hm.Met.zero
theorem Yk {α β:Type} {xs:List α} {f:α->Option β} {n:Nat} (h:n<xs.length) (a:(xs.take n).findSome? f=none):(xs.take (n+1)).findSome? f=f xs[n]:=by
 rw[List.take_add_one,List.getElem?_eq_getElem h,List.findSome?_append,a];simp
theorem Yj {α β:Type} {xs:List α} {f:α->Option β} {n:Nat} {y:β} (h:n<xs.length) (a:(xs.take n).findSome? f=none) (b:f xs[n]=some y):xs.findSome? f=some y:=by
 have:=Yk h a;rw[b] at this;rw[<-List.take_append_drop (n+1) xs,List.findSome?_append,this];rfl
end Go.Hm
namespace Go.Proofs.Y
open Go.Emb Go.RowKit Go.Kd Go.Hm
variable {w : World} {K : Value -> World -> Prop} {σ : Q2} {v : Value} {l : List Cla}
theorem Xr:E6 σ Hm.Met.zero [S [], .slice none 0 0,S [], .bool false,I 0, .slice none 0 0, .slice none 0 0]:=
 ⟨_,_,_,rfl,Sl.nil,Sl.nil,Sl.nil,by decide,by decide,by decide,by decide⟩
theorem Ib (h:K (.agg [S [], .slice none 0 0,S [], .bool false,I 0, .slice none 0 0, .slice none 0 0].toArray) w):D7 P T.c [] w K:=W2 X3 h
theorem X3D {c:Cla} {cs:List Value} {n:Q8} (hs:X1 w σ) (hc:W8 σ c cs) (hsm:Qe c)
 (h: ∀pv cv hv w' σ',Stp w σ w' σ'->E6 σ' (oM (G2 c n)) [S (oM (G2 c n)).name,pv,S (oM (G2 c n)).result, .bool (oM (G2 c n)).abs,I (oM (G2 c n)).locals,cv,hv]->
  K (.tuple #[.agg [S (oM (G2 c n)).name,pv,S (oM (G2 c n)).result, .bool (oM (G2 c n)).abs,I (oM (G2 c n)).locals,cv,hv].toArray, .bool (G2 c n).isSome]) w'):Q0 P F.cx [.agg cs.toArray,S n] w K:=X0D (by
 obtain ⟨lv,fv,mv,rfl,g1,g2,g3,g4,g5⟩:=hc;unfold Q4d Y2 Z5 X5;refine J1 hs fun a w1 σ1 hk1 ha1=>?_;refine V4 hk1.sat rfl fun q w2 σ2 hk2 hq=>?_;refine I4 hk2.sat fun b w3 σ3 hb hk3 hm=>?_;rw[fa];have ha3:=(ha1.up hk2).up hk3;have g3:=((g3.up hk1).up hk2).up hk3;have hq3:=hq.up hk3;refine ld hk3.sat ha3 rfl ?_;rw[Yq];have hS3:=(hk1.trans hk2).trans hk3;have hb0:w.heap.size<=b:=Qk hb (hk1.trans hk2);refine Gg (fun x=>decide (x.name=n)) hk3.sat g3 (fun x cs w4 K _ hs4 hr hl hK=>Z6 (Q7V ?_)) fun w4 hb4=>?_
 .obtain ⟨pv,cv,hv,rfl,_⟩:=hr
  unfold Q1n Y2 X2;refine J1 hs4 fun a w5 σ5 hk5 ha5=>?_
  (repeat' (first | (with_reducible intro _) | (with_reducible refine L4 ?_) | (simp only[↓M2,M2,Mb,reduceIte]) | (with_reducible first | refine ld aS aL aR ?_ | refine Y4 aS aL aR ?_ | refine Z8 aS aL aR ?_ | refine Q6 aL ?_ | refine L6 aR ?_ | refine J1 aS ?_ | refine N4 aS aL ?_ | refine V4 aS aR ?_ | refine Z0 aS aR aR (Rep.one Q7) ?_ | refine U7 aS aR aR aR ?_ | (refine J4 (fun hh=>?_) (fun hh=>?_)<;>(try simp only[hh,Bool.not_true,Bool.not_false,↓M2,M2,Mb,reduceIte])) | (refine Q3 (fun hh=>?_) (fun hh=>?_)<;>(try simp only[hh,Bool.not_true,Bool.not_false,↓M2,M2,Mb,reduceIte])))))
  exact hK _ hk5.bel
 have hk4:Stp w3 σ3 w4 σ3:=Stp.of_below hk3.sat hb4;have hm:=hm.step hk4;have hS4:=hS3.trans hk4;unfold G2 at h;rw[Q7m] at h;refine Z4 ?_;cases hf:c.methods.findIdx? fun x=>decide (x.name=n) with
 | none=>
  rw[hf] at h;simp only[M9];refine W7 ?_;refine Ib ?_;refine Qt hm hS4 hb0 rfl rfl (Rep.one (Xr (σ:=σ3))) fun w5 hS5 hm5=>?_;refine M6 hm5 rfl ?_;exact h _ _ _ w5 σ3 hS5.stp Xr
 | some i=>
  rw[hf] at h;have hi:i<c.methods.length:=(List.findIdx?_eq_some_iff_getElem.1 hf).1;simp only[Option.bind_some,List.getElem?_eq_getElem hi] at h;simp only[M9];refine Q3 (fun hh=>absurd (of_decide_eq_true hh) Q4) (fun _=>?_);rw[fa];refine ld hk4.sat ha3 rfl ?_;refine N0 g3 hi fun p cells hl1 hl2 hr=>?_;refine Z8 hk4.sat hl1 hl2 ?_;refine Q5M hk4.sat hr (hsm.2.2.2 _ (List.getElem_mem hi)) fun pv cv hv w5 σ5 hk5 hr5=>?_;refine Qt (hm.step hk5) (hS4.trans hk5) hb0 rfl rfl (Rep.one hr5) fun w6 hS6 hm6=>?_;refine M6 hm6 rfl ?_;exact h _ _ _ w6 σ5 hS6.stp hr5)
theorem X5u {n:Q8} (ok:Ok l): ∀(k:Nat) {c:Cla} {cs:List Value} {w:World} {σ:Q2} {K:Value->World->Prop},K2 l c.name<k->lk l c.name=some c->X1 w σ->Tab σ v l->W8 σ c cs->
 (∀pv W Y w' Z,Stp w σ w' Z->E6 Z (o2 (W6 l c n)) [S (o2 (W6 l c n)).name,pv,S (o2 (W6 l c n)).result, .bool (o2 (W6 l c n)).abs,I (o2 (W6 l c n)).locals,W,Y]->
  K (.tuple #[S (o1 (W6 l c n)), .agg [S (o2 (W6 l c n)).name,pv,S (o2 (W6 l c n)).result, .bool (o2 (W6 l c n)).abs,I (o2 (W6 l c n)).locals,W,Y].toArray, .bool (W6 l c n).isSome]) w')->
 Q0 P F.aK [v, .agg cs.toArray,S n] w K:=by
 intro k
 induction k with
 | zero=>
  intro c cs w σ K hk;omega
 | succ k ih=>
  intro c cs w σ K hk hc hs ht hr h;refine Q0E ?_;obtain ⟨lv,fv,mv,rfl,g1,g2,g3,g4,g5⟩:=hr;have B:=Q63 ok.acy hc n;generalize hf:(fun u=>match lk l u with | none=>none | some d=>match G2 d n with | some m=>some (u,m) | none=>W6 l d n)=f at B
  unfold Dq;simp only[Z1,M4,M8];unfold Y2 Z5 U4 X7 X2;refine J1 hs fun a w1 σ1 C aw=>?_;refine I4 C.sat fun b w2 σ2 hb D a1=>?_;have Q:w.heap.size<=b:=Qk hb C;have ax:=aw.up D;rw[fa];refine ld D.sat ax rfl ?_;have g1:=(g1.up C).up D;refine Q6 g1 ?_;refine U8 c.like.length (fun i w'=> ∃Z,Stp w σ w' Z/\SLe σ2 Z/\U6 Z w' b [S [], .slice none 0 0,S [], .bool false,I 0, .slice none 0 0, .slice none 0 0]/\(c.like.take i).findSome? f=none) ⟨σ2,C.trans D,SLe.refl _,a1,rfl⟩ fun i w3 d hi af=>?_;obtain ⟨σ3,y,ap,ai,A⟩:=af;have a8:=ht.lift ⟨y.le⟩;refine Z4 ?_;refine Q3 (fun hh=>?_) (fun hh=>?_)
  .have g:i<c.like.length:=by simpa using hh
   refine Q7s (g1.lift ap) g fun p a0 ag=>?_;refine Y4 y.sat a0 rfl ?_;obtain ⟨d,X⟩:=ok.full c (L5 hc).2.1 _ (List.getElem_mem g);obtain ⟨ae,az,_⟩:=L5 X;have j:f c.like[i]=match G2 d n with | some m=>some (c.like[i],m) | none=>W6 l d n:=by rw[<-hf];simp only[X]
   refine Yi y.sat a8 X fun a9 aq ba w4 σ4 E f1 f2 f3 f4 f5 a5=>?_;refine X3D E.sat a5 (ok.sm d az) fun pv W Y w5 σ5 H an=>?_;refine J0 (vs:=[_,_]) rfl ?_;refine J0 (vs:=[_,_]) rfl ?_;refine Z0 H.sat (by rfl) rfl (Rep.one an) fun q w6 σ6 J al=>?_
   have t:=((y.trans E).trans H).trans J;have aj:=((ai.step E).step H).step J;have U:=RMe_lift an ⟨J.le⟩;cases ho:G2 d n with
   | some m=>
    rw[ho] at j U al
    (try simp only[ho])
    refine W7 ?_;refine L9 t.sat ?_;refine H4 (fun v _=>v= .agg [S m.name,pv,S m.result, .bool m.abs,I m.locals,W,Y].toArray) (fun _ _ _ h _=>h) (fun w hb=>Z8 hb.sat al rfl ⟨Below.refl _ _,rfl⟩) ?_;rintro _ w7 ad rfl;refine Qt (aj.step ad.stp) (t.trans ad.stp) Q rfl rfl (Rep.one U) fun w8 av a3=>?_;refine M6 a3 rfl ?_;have R:=B.trans (Yj g A j);rw[R] at h;exact h _ _ _ w8 σ6 av.stp U
   | none=>
    rw[ho] at j
    (try simp only[Option.isSome_none])
    refine L1 ?_;refine Yi t.sat (ht.lift ⟨t.le⟩) X fun a9 aq ba w7 σ7 z f1 f2 f3 f4 f5 a6=>?_;have bp:=Qw ok.acy hc (by simp[V8,List.getElem_mem g]:c.like[i]∈V8 c) X
    refine ih (by rw[ae];omega) (by rw[ae];exact X) z.sat (ht.lift ⟨(t.trans z).le⟩) a6 fun pv W Y w8 σ8 L ao=>?_
    refine J0 (vs:=[_,_,_]) rfl ?_;refine J0 (vs:=[_,_,_]) rfl ?_;refine J0 (vs:=[_,_,_]) rfl ?_;refine Z0 L.sat (by rfl) rfl (Rep.one ao) fun q w9 σ9 M am=>?_
    have O:=((t.trans z).trans L).trans M;have ak:=((aj.step z).step L).step M;have V:=RMe_lift ao ⟨M.le⟩;cases R:W6 l d n with
    | some r=>
     obtain ⟨s,m⟩:=r;rw[R] at j V am
     (try simp only[R])
     refine W7 ?_;refine L9 O.sat ?_;refine H4 (fun v _=>v= .agg [S m.name,pv,S m.result, .bool m.abs,I m.locals,W,Y].toArray) (fun _ _ _ h _=>h) (fun w hb=>Z8 hb.sat am rfl ⟨Below.refl _ _,rfl⟩) ?_;rintro _ bs N rfl;refine Qt (ak.step N.stp) (O.trans N.stp) Q rfl rfl (Rep.one V) fun bb ab ah=>?_;refine M6 ah rfl ?_;have ag:=B.trans (Yj g A j);rw[ag] at h;exact h _ _ _ bb σ9 ab.stp V
    | none=>
     rw[R] at j
     (try simp only[Option.isSome_none])
     refine L1 ?_;refine H8 ?_;refine Y9 (by have:=g1.max;omega) g ⟨σ9,O,?_,ak,?_⟩
     .exact ap.more ⟨fun b o e=>M.le _ _ (L.le _ _ (z.le _ _ (J.le _ _ (H.le _ _ (E.le _ _ e)))))⟩
     .rw[Yk g A];exact j
  .have g: ¬i<c.like.length:=by simpa using hh
   rw[List.take_of_length_le Q4] at A;refine Ib ?_;refine Qt ai y Q rfl rfl (Rep.one (Xr (σ:=σ3))) fun w5 ar a2=>?_;refine M6 a2 rfl ?_;have R:=B.trans A;rw[R] at h;exact h _ _ _ w5 σ3 ar.stp Xr
end Go.Proofs.Y
namespace Go.Hm
open Go.Kd
theorem X2E {l:List Cla} {n:Q8} {c:Cla} (h:c∈chain l n):lk l c.name=some c:=by
 have key: ∀(f:Nat) (n:Q8),c∈K6 (lk l) f n->lk l c.name=some c:=by
  intro f
  induction f with
  | zero=>intro n h;simp[K6] at h
  | succ f b=>
   intro n h;simp only[K6] at h
   split at h
   .simp at h
   .rename_i d a
    rcases List.mem_cons.1 h with rfl | h
    .rw[(L5 a).1];exact a
    .exact b _ h
 exact key _ _ h
theorem Q33 {f:Fld} (h:f.name.length<=100/\f.kind.length<=100):(Qc f).length<=202:=by
 unfold Qc
 split<;>simp;omega
theorem Q4s {l:List Cla} (d: ∀c∈l,Nm c) (g: ∀c∈l,Qe c): ∀(f:Nat) (n:Q8),(T3 (lk l) f n).length<=f*300000000
 | 0,_=>by simp[T3]
 | f+1,n=>by
  simp only[T3]
  split
  .simp
  .rename_i c j
   obtain ⟨e,b,_⟩:=L5 j;have a:=d c b;have h:=g c b;have m:=Q4s d g f c.super;have o:=Xo Qc 202 c.fields fun f k=>Q33 (a.2.1 f k);have p:c.fields.length*202<=1000000*202:=Nat.mul_le_mul_right _ h.2.1;have i:=a.1;rw[e] at i
   split
   .simp
   .simp only[List.length_append,List.length_cons,List.length_nil,Nat.add_mul];omega
theorem X0w {l:List Cla} (ok:Ok l) (n:Q8):(E7 l n).length<=30000300000000:=by
 have:=Q4s ok.nm ok.sm (l.length+1) n;have a:(l.length+1)*300000000<=100001*300000000:=Nat.mul_le_mul_right _ (by have:=ok.len;omega)
 unfold E7;omega
theorem Q6q {c:Cla} (h:Nm c) (a:Qe c) (i:Nat):((c.fields.take i).flatMap Qc).length<=202000000:=by
 have b:=Xo Qc 202 (c.fields.take i) fun f d=>Q33 (h.2.1 f (List.mem_of_mem_take d));rw[List.length_take] at b;have e:min i c.fields.length*202<=1000000*202:=Nat.mul_le_mul_right _ (by have:=a.2.1;omega)
 omega
end Go.Hm
namespace Go.Proofs.Y
open Go.Emb Go.RowKit Go.Kd Go.Hm
variable {w : World} {K : Value -> World -> Prop} {σ : Q2} {v : Value} {l : List Cla}
theorem X2t {k n:Q8} (hs:X1 w σ) (ht:Tab σ v l) (ok:Ok l)
 (h: ∀pv Z hv w' H,Stp w σ w' H->E6 H (o2 (W5 l k n)) [S (o2 (W5 l k n)).name,pv,S (o2 (W5 l k n)).result, .bool (o2 (W5 l k n)).abs,I (o2 (W5 l k n)).locals,Z,hv]->
  K (.tuple #[S (o1 (W5 l k n)), .agg [S (o2 (W5 l k n)).name,pv,S (o2 (W5 l k n)).result, .bool (o2 (W5 l k n)).abs,I (o2 (W5 l k n)).locals,Z,hv].toArray, .bool (W5 l k n).isSome]) w'):
 Q0 P F.b4 [v,S k,S n] w K:=Kh (by
 unfold Mh;simp only[Z1,Y1,M4,M8];unfold Z5 U4 X7 X2;refine I4 hs fun b w1 σ1 E N aj=>?_;refine X1i N.sat (ht.lift ⟨N.le⟩) ok.acy ok.len fun v1 w2 σ2 ai af=>?_;have a7:=aj.step ai;have bg:=aj.lt;refine Q5L (N.trans ai) (af.mono N.bel.size) fun w3 a5 a4 ag=>?_;rw[List.reverse_reverse] at ag;obtain ⟨σ3,ae,Q,bk,a1⟩:=ag.keep a4;have bh:=Fe l k;have av:v1.ownBlock≠some b:=fun e=>by have:=af.own e;omega
 have am:U6 σ3 w3 b [S [], .slice none 0 0,S [], .bool false,I 0, .slice none 0 0, .slice none 0 0]:=by
  have:=a7.kp a5 av;exact ⟨(a1 b fun e=>av e.symm).trans this.1,this.2⟩
 refine Q6 Q ?_;unfold W5 at h;refine U8 (chain l k).length (fun i w'=> ∃H,Stp w σ w' H/\SLe σ3 H/\U6 H w' b [S [], .slice none 0 0,S [], .bool false,I 0, .slice none 0 0, .slice none 0 0]/\((chain l k).take i).findSome? (fun c=>(G2 c n).map (c.name,·))=none) ⟨σ3,ae,SLe.refl _,am,rfl⟩ fun i w5 d hi C=>?_;obtain ⟨σ5,J,R,an,y⟩:=C;refine Z4 ?_;refine Q3 (fun hh=>?_) (fun hh=>?_)
 .have a:i<(chain l k).length:=by simpa using hh
  refine N0 (Q.lift R) a fun p cells X z hr=>?_;refine Z8 J.sat X z ?_;refine Z0 J.sat (by rfl) z (Rep.one hr) fun q w6 σ6 A aw=>?_
  refine Z8 A.sat aw z ?_;have ar:=Q19 (List.getElem_mem a);refine X3D A.sat (Rep.up A.le hr) (ok.sm _ ar) fun pv Z hv w7 σ7 j az=>?_;refine J0 (vs:=[_,_]) rfl ?_;refine J0 (vs:=[_,_]) rfl ?_;refine Z0 j.sat (by rfl) rfl (Rep.one az) fun q8 w8 σ8 u ax=>?_
  have V:=((J.trans A).trans j).trans u;have ap:=((an.step A).step j).step u;have B:=RMe_lift az ⟨u.le⟩;cases D:G2 (chain l k)[i] n with
  | some m=>
   rw[D] at B ax
   (try simp only[D])
   refine W7 ?_;obtain ⟨lv,fv,mv,rfl,g⟩:=hr;refine L9 V.sat ?_;refine X4 (.pointer (some (q.add 0))) (fun w E=>by rw[fa];exact X9 rfl) ?_
   refine X4 (S (chain l k)[i].name) (fun t w E e=>by rw[e];exact ld E.sat ((aw.up j).up u) rfl (X9 rfl)) ?_
   refine H4 (fun v _=>v= .agg [S m.name,pv,S m.result, .bool m.abs,I m.locals,Z,hv].toArray) (fun _ _ _ h _=>h) (fun w E=>Z8 E.sat ax rfl ⟨Below.refl _ _,rfl⟩) ?_;rintro _ _ _ w9 ah rfl rfl rfl;refine Qt (ap.step ah.stp) (V.trans ah.stp) E rfl rfl (Rep.one B) fun a2 ac ak=>?_;refine M6 ak rfl ?_;rw[Yj (f:=fun c=>(G2 c n).map (c.name,·)) a y (by simp only[D];rfl)] at h
   exact h _ _ _ a2 σ8 ac.stp B
  | none=>
   (try simp only[D])
   refine L1 ?_;refine H8 ?_;refine Y9 (by have:=ok.len;omega) a ⟨σ8,V,R.more ⟨fun b o e=>u.le _ _ (j.le _ _ (A.le _ _ e))⟩,ap,?_⟩
   rw[Yk a y];simp only[D];rfl
 .have a: ¬i<(chain l k).length:=by simpa using hh
  rw[List.take_of_length_le Q4] at y;rw[y] at h;clear am ae hh;refine Q6 (Q.lift R) ?_;refine U8 (chain l k).length (fun i w'=> ∃H,Stp w σ w' H/\SLe σ3 H/\U6 H w' b [S [], .slice none 0 0,S [], .bool false,I 0, .slice none 0 0, .slice none 0 0]/\((chain l k).take i).findSome? (fun c=>W6 l c n)=none) ⟨σ5,J,R,an,rfl⟩ fun i w6 d hi C=>?_;obtain ⟨σ6,L,a0,ao,y⟩:=C;refine Z4 ?_;refine Q3 (fun hh=>?_) (fun hh=>?_)
  .have a:i<(chain l k).length:=by simpa using hh
   refine N0 (Q.lift a0) a fun p cells X z hr=>?_;refine Z8 L.sat X z ?_;refine Z0 L.sat (by rfl) z (Rep.one hr) fun q w7 σ7 j a9=>?_
   refine Z8 j.sat a9 z ?_;have M:=L.trans j;have a6:=X2E (List.getElem_mem a);refine X5u ok _ (Nat.lt_succ_self _) a6 j.sat (ht.lift ⟨M.le⟩) (Rep.up j.le hr) fun pv Z hv w8 σ8 u B=>?_;refine J0 (vs:=[_,_,_]) rfl ?_;refine J0 (vs:=[_,_,_]) rfl ?_;refine J0 (vs:=[_,_,_]) rfl ?_;refine Z0 u.sat (by rfl) rfl (Rep.one B) fun q9 w9 σ9 O ay=>?_
   have W:=(M.trans u).trans O;have aq:=((ao.step j).step u).step O;have Y:=RMe_lift B ⟨O.le⟩;cases D:W6 l (chain l k)[i] n with
   | some r=>
    obtain ⟨s,m⟩:=r;rw[D] at Y ay
    (try simp only[D])
    refine W7 ?_;refine L9 W.sat ?_;refine H4 (fun v _=>v= .agg [S m.name,pv,S m.result, .bool m.abs,I m.locals,Z,hv].toArray) (fun _ _ _ h _=>h) (fun w E=>Z8 E.sat ay rfl ⟨Below.refl _ _,rfl⟩) ?_;rintro _ a2 U rfl;refine Qt (aq.step U.stp) (W.trans U.stp) E rfl rfl (Rep.one Y) fun ba ad al=>?_;refine M6 al rfl ?_;have:=Yj (f:=fun c=>W6 l c n) a y D;unfold W6 at this;rw[this] at h;exact h _ _ _ ba σ9 ad.stp Y
   | none=>
    (try simp only[D])
    refine L1 ?_;refine H8 ?_;refine Y9 (by have:=ok.len;omega) a ⟨σ9,W,a0.more ⟨fun b o e=>O.le _ _ (u.le _ _ (j.le _ _ e))⟩,aq,?_⟩
    rw[Yk a y];exact D
  .have a: ¬i<(chain l k).length:=by simpa using hh
   rw[List.take_of_length_le Q4] at y;refine Ib ?_;refine Qt ao L E rfl rfl (Rep.one (Xr (σ:=σ6))) fun w7 M a8=>?_;refine M6 a8 rfl ?_;unfold W6 at y;rw[y] at h;exact h _ _ _ w7 σ6 M.stp Xr)
theorem X1d {n:Q8} (hs:X1 w σ) (ht:Tab σ v l) (h: ∀w' σ',Stp w σ w' σ'->K (.bool (Vd l n)) w'):Q0 P F.aZ [v,S n] w K:=Gq (by
 unfold Wy Y0;unfold Vd at h;cases hd:lk l n with
 | none=>
  rw[hd] at h
  (repeat' (first | (with_reducible intro _) | (with_reducible refine L4 ?_) | (simp only[↓M2,M2,Mb,reduceIte]) | (with_reducible first | refine ld aS aL aR ?_ | refine Y4 aS aL aR ?_ | refine Z8 aS aL aR ?_ | refine Q6 aL ?_ | refine L6 aR ?_ | refine J1 aS ?_ | refine N4 aS aL ?_ | refine V4 aS aR ?_ | refine Z0 aS aR aR (Rep.one Q7) ?_ | refine U7 aS aR aR aR ?_ | refine Ca au au au ?_ | (refine J4 (fun hh=>?_) (fun hh=>?_)<;>(try simp only[hh,Bool.not_true,Bool.not_false,↓M2,M2,Mb,reduceIte])) | (refine Q3 (fun hh=>?_) (fun hh=>?_)<;>(try simp only[hh,Bool.not_true,Bool.not_false,↓M2,M2,Mb,reduceIte])))))
  all_goals exact aF
 | some d=>
  rw[hd] at h
  (repeat' (first | (with_reducible intro _) | (with_reducible refine L4 ?_) | (simp only[↓M2,M2,Mb,reduceIte]) | (with_reducible first | refine ld aS aL aR ?_ | refine Y4 aS aL aR ?_ | refine Z8 aS aL aR ?_ | refine Q6 aL ?_ | refine L6 aR ?_ | refine J1 aS ?_ | refine N4 aS aL ?_ | refine V4 aS aR ?_ | refine Z0 aS aR aR (Rep.one Q7) ?_ | refine U7 aS aR aR aR ?_ | refine Ht au au au ?_ | refine Yi au au au ?_ | (refine J4 (fun hh=>?_) (fun hh=>?_)<;>(try simp only[hh,Bool.not_true,Bool.not_false,↓M2,M2,Mb,reduceIte])) | (refine Q3 (fun hh=>?_) (fun hh=>?_)<;>(try simp only[hh,Bool.not_true,Bool.not_false,↓M2,M2,Mb,reduceIte])))))
  all_goals exact aF)
end Go.Proofs.Y
namespace Go.Kd
def brk (b:UInt8):Bool:=[(91:UInt8),93].contains b
def Q2A:Nat->Q8->Q8
 | 0,s=>s
 | n+1,s=>match s.getLast? with
  | some b=>if brk b then Q2A n (s.take (s.length-1)) else s
  | none=>s
def Rv (s:Q8):Q8:=Q2A s.length s
theorem X0W: ∀(n m:Nat) (s:Q8),s.length<=n->s.length<=m->Q2A n s=Q2A m s:=by
 intro n
 induction n with
 | zero=>
  intro m s h _;have:s=[]:=List.eq_nil_of_length_eq_zero (by omega)
  subst this;cases m<;>rfl
 | succ n a=>
  intro m s h d;cases m with
  | zero=>
   have:s=[]:=List.eq_nil_of_length_eq_zero (by omega)
   subst this;rfl
  | succ m=>
   simp only[Q2A];cases c:s.getLast? with
   | none=>rfl
   | some b=>
    simp only
    split
    .exact a m _ (by rw[List.length_take];omega) (by rw[List.length_take];omega)
    .rfl
theorem Q2B (s:Q8):Rv s=match s.getLast? with | some b=>if brk b then Rv (s.take (s.length-1)) else s | none=>s:=by
 unfold Rv;cases d:s with
 | nil=>rfl
 | cons c r=>
  rw[<-d];obtain ⟨n,e⟩: ∃n,s.length=n+1:=⟨r.length,by rw[d];rfl⟩
  have a:s.length-1=n:=by omega
  rw[e];simp only[Q2A,a];cases f:s.getLast? with
  | none=>rfl
  | some b=>
   simp only
   split
   .rw[show n+1-1=n by omega];exact X0W n (s.take n).length _ (by rw[List.length_take];omega) (Nat.le_refl _)
   .rfl
theorem X1K {s:Q8} (h:name s=true): ∃b,s.getLast?=some b/\C8 b.toNat=true:=by
 cases s with
 | nil=>simp[name] at h
 | cons c r=>
  refine ⟨(c::r).getLast (by simp),List.getLast?_eq_some_getLast (by simp),?_⟩
  simp only[name,Bool.and_eq_true,List.all_eq_true] at h;exact h.2 _ (List.getLast_mem _)
theorem X18 {b:UInt8} (h:C8 b.toNat=true):brk b=false:=by
 have a:b≠91:=by rintro rfl;revert h;decide
 have c:b≠93:=by rintro rfl;revert h;decide
 simp[brk,a,c]
theorem Vc {s:Q8} (h:(plain s||O6 s)=true):name s=true:=by
 simp only[Bool.or_eq_true] at h
 rcases h with h | h
 .simp only[plain,Bool.or_eq_true,decide_eq_true_eq] at h
  rcases h with (h | h) | h<;>subst h<;>decide
 .cases s with
  | nil=>simp[O6] at h
  | cons c r=>simp only[O6,Bool.and_eq_true] at h;exact h.1
end Go.Kd
namespace Go.Proofs.Y
open Go.Emb Go.RowKit Go.Kd Go.Hm
variable {w : World} {K : Value -> World -> Prop} {σ : Q2} {v : Value} {l : List Cla}
theorem X3r {s:Q8} (h:P7 s=true):Rv s=Rv (Kd.cutA s):=by
 have f:2<=s.length/\s.drop (s.length-2)=[91,93]:=by simpa [P7] using h
 obtain ⟨g,e⟩:=f;have a:s=Kd.cutA s++[91,93]:=by unfold Kd.cutA;rw[<-e,List.take_append_drop]
 have i:(Kd.cutA s).length+2=s.length:=by unfold Kd.cutA;rw[List.length_take];omega
 have b:s.getLast?=some 93:=by rw[a];simp
 have c:s.take (s.length-1)=Kd.cutA s++[91]:=by
  conv=>lhs;rw[a]
  rw[List.take_append,List.length_append]
  simp
  exact List.take_of_length_le Q4
 rw[Q2B s,b];simp only[show brk 93=true from rfl,if_true,c]
 rw[Q2B];have d:(Kd.cutA s++[91]).getLast?=some 91:=by simp
 rw[d];simp only[show brk 91=true from rfl,if_true]
 congr 1
 simp
theorem X2e {s:Q8}:(plain (base s).1||O6 (base s).1)=true->Rv s=(base s).1:=by
 have key: ∀(n:Nat) (s:Q8),s.length<=n->(plain (base s).1||O6 (base s).1)=true->Rv s=(base s).1:=by
  intro n
  induction n with
  | zero=>
   intro s h a;have:s=[]:=List.eq_nil_of_length_eq_zero Q4;subst this;rfl
  | succ n g=>
   intro s h a
   by_cases c:P7 s=true
   .have d:base s=((base (Kd.cutA s)).1,(base (Kd.cutA s)).2+1):=by rw[Vo s,c];simp
    rw[d] at a⊢;rw[X3r c];exact g _ (by have:=Xn c;omega) a
   .have d:base s=(s,0):=by rw[Vo s,eq_false_of_ne_true c];simp
    rw[d] at a⊢;obtain ⟨b,e,f⟩:=X1K (Vc a);rw[Q2B,e]
    simp[X18 f]
 exact key _ s (Nat.le_refl _)
instance z_asciiSet:TZ P T.am 256 256 (.agg (Array.replicate 256 (.bool false))):=⟨X3⟩
theorem Q8x (h: ∀w',Below w.heap.size w w'->K (.tuple #[.agg (Lib.setCells [91,93]), .bool true]) w'):Q0 P F.cb [S [91,93]] w K:=by
 refine Lu (fn:=Tryz.f217) Tryz.func217 X3 X3 (Calls.mono (Tryz.strings_makeASCIISet (fun w=>Qb z_asciiSet w) ⟨[91,93].toArray⟩ w M5 (by
  intro j b a;have:b∈[(91:UInt8),93]:=List.mem_of_getElem? a
  simp at this;rcases this with rfl | rfl<;>decide)) ?_)
 rintro e w' ⟨rfl,rfl⟩;exact h _ ((Below.refl _ _).alloc (Nat.le_refl _) _)
theorem Q3X {q:Addr} {b:UInt8} (c:X1 w σ) (a:J7 σ q (Lib.setCells [91,93]).toList) (h:K (.bool (brk b)) w):Q0 P F.av [.pointer (some q), .int .u8 b.toNat] w K:=Dk (by
 unfold Xw Z5;rw[E0];have d:=b.toNat_lt;rw[Q7t Q4 Q4];refine ld c a ?_ h;have:=Lib.setCells_at [91,93] b;rw[<-Array.getElem?_toList] at this
 simpa [brk] using this)
theorem Q3s {q:Addr} {s:Q8} (n:X1 w σ) (k:s.length<=U9) (m:J7 σ q (Lib.setCells [91,93]).toList) (h:K (S (Rv s)) w):Q0 P F.al [S s, .pointer (some q)] w K:=Bf (by
 unfold Uw X7 X5;refine L4 ?_;refine Uc (fun x w'=>w'=w/\ ∃u:Q8,x=S u/\u.length<=U9/\Rv u=Rv s) (fun x _=>(sOf x).length) ⟨rfl,s,rfl,k,rfl⟩ ?_;rintro _ d _ ⟨rfl,u,rfl,g,f⟩;have e:sOf (S u)=u:=by simp[sOf]
 simp only[e];refine Pc Y6 ?_;refine Gb ?_;refine Q3 (fun hh=>?_) (fun hh=>?_)
 .have j:0<u.length:=by simpa using hh
  have o:u.length<=9223372036854775807:=Nat.le_trans g M5;refine Pc Y6 ?_;refine Hf ⟨by omega,by omega⟩ ?_
  have i:((u.length:Int)-1).toNat=u.length-1:=by omega
  rw[Yn Y6 Q4 Q4];simp only[i];have b:u.getLast?=some (u[u.length-1]'(by omega)):=by rw[List.getLast?_eq_getElem?,List.getElem?_eq_getElem]
  have a:=Q2B u;rw[b] at a;simp only at a;refine Q3X n m ?_;cases c:brk (u[u.length-1]'(by omega)) with
  | true=>
   rw[c] at a;simp only[↓M1,M1,Mb,reduceIte];rw[K9 Q4 Q4,Xl Y6 Q4 Q4];simp only[i];refine ⟨⟨trivial,_,rfl,by rw[List.length_take];omega,?_⟩,?_⟩
   .rw[<-f,a];simp
   .have:sOf (S (u.take (u.length-1)))=u.take (u.length-1):=by simp[sOf]
    simp only[this,List.length_take];omega
  | false=>
   rw[c] at a;simp only[↓M1,M1,Mb,reduceIte];intro _;rw[<-f,a] at h
   simpa using h
 .have j: ¬0<u.length:=by simpa using hh
  have:u=[]:=List.eq_nil_of_length_eq_zero Q4;subst this;intro _;rw[<-f] at h;exact h)
theorem Q8v {s:Q8} (hs:X1 w σ) (hl:s.length<=U9) (h: ∀w' σ',Stp w σ w' σ'->K (S (Rv s)) w'):Q0 P F.bC [S s,S [91,93]] w K:=Q0W (by
 unfold Ei;simp only[M4,M8];unfold Y0 X7 X5 V5
 by_cases hs0:s=[]
 .subst hs0
  (repeat' (first | (with_reducible intro _) | (with_reducible refine L4 ?_) | (simp only[↓M2,M2,Mb,reduceIte]) | (with_reducible first | refine ld aS aL aR ?_ | refine Y4 aS aL aR ?_ | refine Z8 aS aL aR ?_ | refine Q6 aL ?_ | refine L6 aR ?_ | refine J1 aS ?_ | refine N4 aS aL ?_ | refine V4 aS aR ?_ | refine Z0 aS aR aR (Rep.one Q7) ?_ | refine U7 aS aR aR aR ?_ | (refine J4 (fun hh=>?_) (fun hh=>?_)<;>(try simp only[hh,Bool.not_true,Bool.not_false,↓M2,M2,Mb,reduceIte])) | (refine Q3 (fun hh=>?_) (fun hh=>?_)<;>(try simp only[hh,Bool.not_true,Bool.not_false,↓M2,M2,Mb,reduceIte])))))
  all_goals first | exact h _ _ (by (repeat (first | exact Stp.refl (by (first | assumption | exact Stp.sat Q7 | exact Hst.sat Q7)) | assumption | refine Stp.trans ?_ (by first | assumption | exact Hst.stp Q7)))) | (exfalso;simp_all)
 have d1:decide (s=[])=false:=decide_eq_false hs0;simp only[d1,show decide (([91,93]:Q8)=[])=false from rfl,show decide ((([91,93]:Q8).length:Int)=1)=false from rfl,↓M1,M1,Mb,reduceIte]
 refine Q8x (N1 hs fun w1 σ1 hk1=>?_);simp only[↓M1,M1,Mb,reduceIte];have hsz:(Lib.setCells [91,93]).toList.length=256:=by rw[Array.length_toList];exact Lib.setCells_size _
 have hone: ∀u∈(Lib.setCells [91,93]).toList,u.oneCell'=true:=by
  have:=Lib.setCells_one [91,93];rw[Array.all_eq_true'] at this;intro u hu;exact this u (by simpa using hu)
 have htr: ∀{w:World} {σ:Q2} {K:Value->World->Prop} {q:Addr},X1 w σ->J7 σ q (Lib.setCells [91,93]).toList->K (S (Rv s)) w->Q0 P F.al [S s, .pointer (some q)] w K:=fun hs hq h=>Q3s hs hl hq h;have hta:Lib.setCells [91,93]=(Lib.setCells [91,93]).toList.toArray:=Array.toArray_toList.symm;generalize (Lib.setCells [91,93]).toList=cs at*;rw[hta];refine Z0 hk1.sat (by show (Array.replicate 256 (Value.bool false)).size=256;exact Array.size_replicate) hsz hone fun q w2 σ2 hk2 hq=>?_
 refine htr hk2.sat hq ?_;exact h _ _ (hk1.trans hk2))
theorem X5p {s:Q8} (hs:X1 w σ) (ht:Tab σ v l) (hl:s.length<=U9) (h: ∀w' σ',Stp w σ w' σ'->K (.bool (K3 l s)) w'):Q0 P F.bs [v,S s] w K:=Q0D (by
 unfold Dp Y0 V5;unfold K3 at h;refine Qs ?_;refine Q3 (fun hh=>?_) (fun hh=>?_)
 .have e:decide (s=Yf)=true:=hh
  rw[e] at h;exact h _ _ (Stp.refl hs)
 .have e:decide (s=Yf)=false:=hh
  rw[e] at h;refine Q8v hs hl fun w1 σ1 hk1=>?_;refine Vt s (Nat.le_trans hl M5) (N1 hk1.sat fun w2 σ2 hk2=>?_);cases hr:right s with
  | false=>
   rw[hr] at h
   (repeat' (first | (with_reducible intro _) | (with_reducible refine L4 ?_) | (simp only[↓M2,M2,Mb,reduceIte]) | (with_reducible first | refine ld aS aL aR ?_ | refine Y4 aS aL aR ?_ | refine Z8 aS aL aR ?_ | refine Q6 aL ?_ | refine L6 aR ?_ | refine J1 aS ?_ | refine N4 aS aL ?_ | refine V4 aS aR ?_ | refine Z0 aS aR aR (Rep.one Q7) ?_ | refine U7 aS aR aR aR ?_ | (refine J4 (fun hh=>?_) (fun hh=>?_)<;>(try simp only[hh,Bool.not_true,Bool.not_false,↓M2,M2,Mb,reduceIte])) | (refine Q3 (fun hh=>?_) (fun hh=>?_)<;>(try simp only[hh,Bool.not_true,Bool.not_false,↓M2,M2,Mb,reduceIte])))))
   all_goals exact aF
  | true=>
   rw[hr] at h
   have hr2:(plain (base s).1||O6 (base s).1)=true:=by
    simp only[right,Bool.and_eq_true] at hr;exact hr.2
   rw[X2e hr2]
   (repeat' (first | (with_reducible intro _) | (with_reducible refine L4 ?_) | (simp only[↓M2,M2,Mb,reduceIte]) | (with_reducible first | refine ld aS aL aR ?_ | refine Y4 aS aL aR ?_ | refine Z8 aS aL aR ?_ | refine Q6 aL ?_ | refine L6 aR ?_ | refine J1 aS ?_ | refine N4 aS aL ?_ | refine V4 aS aR ?_ | refine Z0 aS aR aR (Rep.one Q7) ?_ | refine U7 aS aR aR aR ?_ | refine Q2p _ ?_ | refine Q9T au au ?_ | (refine J4 (fun hh=>?_) (fun hh=>?_)<;>(try simp only[hh,Bool.not_true,Bool.not_false,↓M2,M2,Mb,reduceIte])) | (refine Q3 (fun hh=>?_) (fun hh=>?_)<;>(try simp only[hh,Bool.not_true,Bool.not_false,↓M2,M2,Mb,reduceIte])))))
   all_goals exact aF)
theorem X48 (ok:Ok l): ∀(k:Nat) {n:Q8} {w:World} {σ:Q2} {K:Value->World->Prop},(lk l n=none\/K2 l n<k)->n.length<=U9->X1 w σ->Tab σ v l->(∀w' σ',Stp w σ w' σ'->K (S (E7 l n)) w')->Q0 P F.ae [v,S n] w K:=by
 intro k
 induction k with
 | zero=>
  intro n w σ K hk hl hs ht h
  have hd:lk l n=none:=hk.resolve_right (by omega)
  refine Df ?_
  unfold Zo
  simp only[M4]
  unfold Y2 Z5 Y0 X7 X5 V5 X2
  rw[Q3d hd] at h
  (repeat' (first | (with_reducible intro _) | (with_reducible refine L4 ?_) | (simp only[↓M2,M2,Mb,reduceIte]) | (with_reducible first | refine ld aS aL aR ?_ | refine Y4 aS aL aR ?_ | refine Z8 aS aL aR ?_ | refine Q6 aL ?_ | refine L6 aR ?_ | refine J1 aS ?_ | refine N4 aS aL ?_ | refine V4 aS aR ?_ | refine Z0 aS aR aR (Rep.one (by assumption)) ?_ | refine U7 aS aR aR aR ?_ | refine Ca au au au ?_ | (refine J4 (fun hh=>?_) (fun hh=>?_)<;>(try simp only[hh,Bool.not_true,Bool.not_false,↓M2,M2,Mb,reduceIte])) | (refine Q3 (fun hh=>?_) (fun hh=>?_)<;>(try simp only[hh,Bool.not_true,Bool.not_false,↓M2,M2,Mb,reduceIte])))))
  all_goals exact h _ _ (by (repeat (first | exact Stp.refl (by (first | assumption | exact Stp.sat (by assumption) | exact Hst.sat (by assumption))) | assumption | refine Stp.trans ?_ (by first | assumption | exact Hst.stp (by assumption)))))
 | succ k ih=>
  intro n w σ K hk hl hs ht h
  refine Df ?_
  unfold Zo
  simp only[M4]
  unfold Y2 Z5 Y0 X7 X5 V5 X2
  cases hd:lk l n with
  | none=>
   rw[Q3d hd] at h
   (repeat' (first | (with_reducible intro _) | (with_reducible refine L4 ?_) | (simp only[↓M2,M2,Mb,reduceIte]) | (with_reducible first | refine ld aS aL aR ?_ | refine Y4 aS aL aR ?_ | refine Z8 aS aL aR ?_ | refine Q6 aL ?_ | refine L6 aR ?_ | refine J1 aS ?_ | refine N4 aS aL ?_ | refine V4 aS aR ?_ | refine Z0 aS aR aR (Rep.one (by assumption)) ?_ | refine U7 aS aR aR aR ?_ | refine Ca au au au ?_ | (refine J4 (fun hh=>?_) (fun hh=>?_)<;>(try simp only[hh,Bool.not_true,Bool.not_false,↓M2,M2,Mb,reduceIte])) | (refine Q3 (fun hh=>?_) (fun hh=>?_)<;>(try simp only[hh,Bool.not_true,Bool.not_false,↓M2,M2,Mb,reduceIte])))))
   all_goals exact h _ _ (by (repeat (first | exact Stp.refl (by (first | assumption | exact Stp.sat (by assumption) | exact Hst.sat (by assumption))) | assumption | refine Stp.trans ?_ (by first | assumption | exact Hst.stp (by assumption)))))
  | some c=>
   have hp:=X1W ok.acy n
   rw[hd] at hp
   simp only at hp
   obtain ⟨hcn,hmem,_⟩:=L5 hd
   have hnm:=ok.nm c hmem
   have hsm:=ok.sm c hmem
   have hlen:=X0w ok c.super
   refine Ht hs ht hd ?_
   simp only[↓M1,M1,Mb,reduceIte]
   refine Q3 (fun hh=>?_) (fun hh=>?_)
   .have:n=L8:=of_decide_eq_true hh
    rw[if_pos this] at hp
    rw[hp] at h
    exact h _ _ (Stp.refl hs)
   have: ¬n=L8:=of_decide_eq_false hh
   rw[if_neg this] at hp
   refine Yi hs ht hd fun lv fv mv w1 σ1 hk1 f1 f2 f3 f4 f5 hr=>?_
   refine Z0 hk1.sat (by rfl) rfl (Rep.one hr) fun q w2 σ2 hk2 hq=>?_
   have hn100:n.length<=100:=by rw[<-hcn];exact hnm.1
   refine K4 (by simp only[List.length_cons,List.length_nil];omega) ?_
   simp only[fa]
   refine ld hk2.sat hq rfl ?_
   have hk':lk l c.super=none\/K2 l c.super<k:=by
    cases hd2:lk l c.super with
    | none=>exact .inl rfl
    | some e=>
     right
     have:=Qw ok.acy hd (by simp[V8]) hd2
     rcases hk with hk | hk
     .rw[hk] at hd;cases hd
     .omega
   refine ih hk' f5 hk2.sat (ht.lift ⟨(hk1.trans hk2).le⟩) fun w3 σ3 hk3=>?_
   refine K4 (by simp only[List.length_append,List.length_cons,List.length_nil];omega) ?_
   refine K4 (by simp only[List.length_append,List.length_cons,List.length_nil];omega) ?_
   refine ld hk3.sat (hq.up hk3) rfl ?_
   have f2:=(f2.up hk2).up hk3
   have hS3:=(hk1.trans hk2).trans hk3
   refine Q6 f2 ?_
   refine O7 c.fields.length (fun i a w'=> ∃σ',Stp w σ w' σ'/\SLe σ3 σ'/\a=S (n++[40]++E7 l c.super++[41]++(c.fields.take i).flatMap Qc)) ⟨σ3,hS3,SLe.refl _,by simp⟩ fun i a w4 d hi hinv=>?_
   obtain ⟨σ4,hS4,le4,rfl⟩:=hinv
   have hfl:=Q6q hnm hsm i
   refine Z4 ?_
   refine Q3 (fun hh=>?_) (fun hh=>?_)
   .have hi':i<c.fields.length:=by simpa using hh
    have hff:=hnm.2.1 _ (List.getElem_mem hi')
    have hmax:c.fields.length<=9223372036854775807:=f2.max
    refine L4 ?_
    refine Q4l (f2.lift le4) hi' fun p hl1 hr1=>?_
    refine Z8 hS4.sat hl1 rfl ?_
    refine Z0 hS4.sat (by rfl) rfl (Rep.one hr1) fun q5 w5 σ5 hk5 hq5=>?_
    rw[fa]
    refine ld hk5.sat hq5 rfl ?_
    have e5:(c.fields.take (i+1)).flatMap Qc=(c.fields.take i).flatMap Qc++Qc c.fields[i]:=by
     rw[List.take_add_one,List.getElem?_eq_getElem hi',List.flatMap_append];simp
    cases htr:c.fields[i].tr with
    | true=>
     simp only[↓M1,M1,Mb,reduceIte]
     intro _
     refine Z9 hmax hi' ⟨σ5,hS4.trans hk5,le4.more ⟨hk5.le⟩,?_⟩
     rw[e5];simp[Qc,htr]
    | false=>
     simp only[↓M1,M1,Mb,reduceIte]
     refine ld hk5.sat hq5 rfl ?_
     refine K4 (by simp only[List.length_append,List.length_cons,List.length_nil];omega) ?_
     refine K4 (by simp only[List.length_append,List.length_cons,List.length_nil];omega) ?_
     refine ld hk5.sat hq5 rfl ?_
     refine K4 (by simp only[List.length_append,List.length_cons,List.length_nil];omega) ?_
     refine K4 (by simp only[List.length_append,List.length_cons,List.length_nil];omega) ?_
     intro _
     (try simp only[↓M1,M1,Mb,reduceIte])
     refine Z9 hmax hi' ⟨σ5,hS4.trans hk5,le4.more ⟨hk5.le⟩,?_⟩
     rw[e5];simp[Qc,htr]
   .have hi': ¬i<c.fields.length:=by simpa using hh
    rw[List.take_of_length_le (by omega)] at hfl⊢
    refine K4 (by simp only[List.length_append,List.length_cons,List.length_nil];omega) ?_
    rw[hp] at h
    exact h _ _ hS4
end Go.Proofs.Y
namespace Go.Emb
open Go.RowKit Go.Hm
variable {P : Program} {w w1 w' w'' : World} {σ σ' : Q2}
theorem Q64 (m:List (List UInt8×Value)) (k n:List UInt8) (v:Value):B6 (putS m k v) n=if k=n then some v else B6 m n:=by
 induction m with
 | nil=>simp[putS,B6]
 | cons p r b=>
  simp only[putS]
  by_cases h:p.1=k
  .rw[if_pos h]
   simp only[B6]
   by_cases a:k=n
   .simp[a]
   .rw[if_neg a,if_neg a,if_neg (by rw[h];exact a)]
  .rw[if_neg h]
   simp only[B6]
   by_cases a:p.1=n
   .rw[if_pos a,if_pos a,if_neg (by intro e;exact h (a.trans e.symm))]
   .rw[if_neg a,if_neg a];exact b
theorem U0.shift {B sz:Nat} {e:TypeId} {v:Value} {xs:List (List UInt8)} (h:U0 B e sz V3 σ w v xs) (m: ∀k,v.ownBlock=some k->σ' k=none):U0 B e sz V3 σ' w v xs:=by
 obtain ⟨a,f,rfl,n,o,c,p⟩:=h;refine ⟨a,f,rfl,n,o,fun b d=>⟨(c b d).1,(c b d).2.1,(c b d).2.2.1,m _ (by subst d;rfl)⟩,fun q=>?_⟩
 obtain ⟨g,j,i,rfl,r,y,s,t,u⟩:=p q;exact ⟨g,j,i,rfl,r,m g rfl,s,t,u⟩
theorem Kpt.sat {D:Nat->Prop} (a:X1 w σ) (d:Kpt D w w') (c: ∀k,D k->σ k=none):X1 w' σ:=fun b o e=>by
 rw[d.block b (a.lt e) fun h=>by rw[c b h] at e;cases e];exact a b o e
theorem Nxt.kpt {D D':Nat->Prop} (h:Nxt D w σ w' σ') (a:Kpt D' w' w'') (b: ∀k,D' k->D k) (c: ∀k,D' k->σ' k=none):Nxt D w σ w'' σ':=
 ⟨h.kp.trans (a.mono fun k _ h=>b k h),h.le,h.old,a.sat h.sat c⟩
theorem X5C {t V:TypeId} {e:TypeId} {m:Nat} {z:Value} {cs:List Bool} [ts:TS P t e] [tz:TZ P e 1 m z] {B:Nat} {A:World} {i σ':Q2} {g u:Value} {xs:List (List UInt8)} {s:List UInt8}
 (D:U0 B e 1 V3 i A g xs) (hB:B<=A.heap.size) (J:U0 B e 1 V3 i w1 g xs) (r:Nxt (fun k=>g.ownBlock=some k) A i w1 σ') (O:Sl 1 V3 σ' u [s]) (Q:(z.cells.size==1&&decide (0<1))=true)
 (j:(xs.length+1)*m<=140737488355328) (M:xs.length+1<=1000000000000):
 V9 P .append [t,t] V cs [g,u] w1 (dk (Gz B e 1 V3 i g xs s) (VQa A.heap.size B e 1 V3 i g xs s) w1):=by
 have y: ∀k,g.ownBlock=some k->σ' k=none:=fun k c=>(r.old k (D.mem c).2.1).trans (D.mem c).2.2;refine Tw r.sat (Nat.le_trans hB r.kp.size) (J.shift y) O Q (by simpa using j) (by simpa using M) fun W X C N q f=>?_
 have b:U0 B e 1 V3 i X W (xs++[s]):=q.shift fun k c=>by
  have:=(q.mem c).2.2;cases hh:i k with
  | none=>rfl
  | some o=>rw[r.le.le _ _ hh] at this;cases this
 refine ⟨⟨C.mono fun k _ h=>h.1,fun h=>?_,fun a d H h=>?_⟩,b,?_⟩
 .rcases f with ⟨a,d,n,p⟩ | ⟨j,_⟩
  .rw[p] at b;rw[n];exact b.pre rfl
  .exact h.below j
 .rcases f with ⟨Y,E,n,p⟩ | ⟨j,_⟩
  .rw[n] at H;injection H with R q2 U
   subst R U;rw[p] at b;exact b
  .exact h.below j
 .rcases f with ⟨a,d,n,p⟩ | ⟨j,L⟩
  .exact .inl ⟨a,d,n,p⟩
  .exact .inr ⟨fun k c=>Nat.le_trans r.kp.size (L k c),fun k c=>(D.mem c).2.1⟩
end Go.Emb
namespace Go.Hm
open Go.Kd
def Nf (l:List Cla) (n:Q8):List Cla:=(K8 l n).filterMap (lk l)
theorem Q9d {l:List Cla} (h: ∀c∈l,Qe c) (a:List Q8):weigh l a<=l.length*1000001:=by
 unfold weigh
 induction l with
 | nil=>simp
 | cons c r d=>
  have e:=d fun c b=>h c (by simp[b])
  have f:=(h c (by simp)).1
  simp only[List.map_cons,List.sum_cons,List.length_cons,Nat.add_mul];have g:(V8 c).length=c.like.length+1:=rfl
  split<;>omega
end Go.Hm
namespace Go.Proofs.Y
open Go.Emb Go.RowKit Go.Kd Go.Hm
variable {w : World} {K : Value -> World -> Prop} {σ : Q2} {v : Value} {l : List Cla}
theorem Q9H {β:Type} {n:Q8} {f:Value} (L:β->Cla->Bool×β) (s0:β) (N:β->World->Prop) (D:Nat->Prop) (hs:X1 w σ) (ht:Tab σ v l) (hl:l.length<=100000) (bv: ∀c∈l,Qe c) (hn:n.length<=U9)
 (hD: ∀k,D k->k<w.heap.size/\σ k=none) (al: ∀s w1 w2,N s w1->(∀k,D k->w2.heap[k]? =w1.heap[k]?)->N s w2) (h0:N s0 w)
 (hf: ∀s c cs (w1:World) (σ1:Q2) (K:Value->World->Prop),SLe σ σ1->X1 w1 σ1->(∀k,D k->σ1 k=none)->N s w1->W8 σ1 c cs->lk l c.name=some c->(∀w',Kpt D w1 w'->N (L s c).2 w'->K (.bool (L s c).1) w')->Y8 P f [.agg cs.toArray] w1 K)
 (h: ∀w' σ',Nxt D w σ w' σ'->N (U1 L s0 (Nf l n) 0).2 w'->K (.bool (U1 L s0 (Nf l n) 0).1.isSome) w'):Q0 P F.af [v,S n,f] w K:=Tz (by
 unfold Np;simp only[Z1,Y1,M4,M8];unfold Z5 Y0 X7 X5;refine Yh (R:=V3) (sz:=1) (xs:=[n]) (Stp.refl hs) [S n] rfl rfl (by simp;rfl) rfl ⟨⟨rfl,hn⟩,trivial⟩ fun x0 w1 az be _=>?_
 refine Q4q az.sat fun r w2 hr ab cc=>?_;have b4:=U0.of_acc (be.up ab);have bd:=az.trans ab;have bs:w.heap.size<=r:=Nat.le_trans az.bel.size hr
 have bx: ∀b,weigh l b<=100001000000:=fun b=>by
  have:=Q9d bv b;have h2:l.length*1000001<=100000*1000001:=Nat.mul_le_mul_right _ hl;omega
 refine Q2s (fun d x w1=> ∃(C b:List Q8) (s:β) (σ1:Q2) (m:List (Q8×Value)),d=C.length+weigh l b/\d<=1+weigh l []/\Nxt D w σ w1 σ1/\U0 w.heap.size T.b 1 V3 σ1 w1 x C/\B4 σ1 w1 r m/\(∀k,(B6 m k).isSome=decide (k∈b))/\x.ownBlock≠some r/\N s w1/\
  K8 l n=Wc (lk l) d C b/\(∃i,U1 L s0 (Nf l n) 0=U1 L s (((K8 l n).drop b.length).filterMap (lk l)) i)) (1+weigh l []) ?_ ?_
 .refine ⟨[n],[],s0,σ,[],by simp,Nat.le_refl _,Nxt.of_stp bd,b4,cc,by simp[B6],?_,al _ _ _ h0 fun k o=>bd.bel.block k (hD k o).1,rfl,0,by simp[Nf]⟩
  intro e;have:=be.mem r e;omega
 rintro aq d x dd w3 ⟨C,b,s,σ3,m,hd,c3,A,av,ad,Q,co,ay,hv,i,y⟩ bg;have cw:=bx [];have a4:=A.sat;obtain ⟨a7,B⟩:=Q2f (lk l) d C b;rw[<-hv] at B;have aa:(K8 l n).drop b.length=a7:=by rw[B];simp
 rw[aa] at y;refine Sh av ?_;refine Gb ?_;cases ag:C with
 | nil=>
  subst ag;refine Q3 (fun hh=>absurd (of_decide_eq_true hh) U5) (fun _=>?_);have:K8 l n=b:=by rw[hv];cases d<;>rfl
  have hp:a7=[]:=by rw[this] at B;simpa using B
  rw[hp] at y;rw[y] at h;exact h _ _ A ay
 | cons t g=>
  subst ag;refine Q3 (fun _=>?_) (fun hh=>absurd (of_decide_eq_false hh) U5);simp only[List.length_cons] at hd;refine Q7O (n:=0) av U5 fun a cs X h2 h3=>?_;obtain ⟨rfl,cl⟩:=h3;simp only[List.getElem_cons_zero] at X cl;have Z:=X 0 _ rfl;rw[add_zero] at Z;refine Yo Z ?_;refine X6C av 1 U5 fun x' Y bp=>?_;simp only[List.drop_succ_cons,List.drop_zero] at Y
  have J:x'.ownBlock≠some r:=by
   rcases bp with e | e<;>rw[e]
   .exact co
   .simp
  rw[Q3E Y6 ad.2 t];have b7:d=(g.length+weigh l b)+1:=by omega
  have p:=hv;rw[b7] at p;simp only[Wc] at p
  have skip:(lk l t=none\/t∈b)->K8 l n=Wc (lk l) (g.length+weigh l b) g b:=by
   rintro (e | e)
   .rw[e] at p;exact p
   .cases e2:lk l t with
    | none=>rw[e2] at p;exact p
    | some c=>rw[e2] at p;simp only[if_pos e] at p;exact p
  have af:(lk l t=none\/t∈b)->aq x' w3:=fun ck=>
   bg (g.length+weigh l b) x' w3 Q4 ⟨g,b,s,σ3,m,rfl,by omega,A,Y,ad,Q,J,ay,skip ck,i,by rw[aa];exact y⟩
  have a5:=ht.lift A.le;have U:=Q t;cases bm:B6 m t with
  | some u=>
   rw[bm] at U;have ai:t∈b:=by simpa using U
   simp only[↓M2,M2,Mb,reduceIte];exact af (.inr ai)
  | none=>
   rw[bm] at U;have ai:t∉b:=by simpa using U
   simp only[↓M2,M2,Mb,reduceIte];cases H:lk l t with
   | none=>
    refine Ca a4 a5 H ?_;simp only[↓M2,M2,Mb,reduceIte];exact af (.inl H)
   | some c=>
    obtain ⟨aw,bj,_⟩:=L5 H;refine Ht a4 a5 H ?_;simp only[↓M2,M2,Mb,reduceIte];refine Pv Y6 ad t (I 1) fun w4 bw cd=>?_;have ac:Kpt (fun k=>k=r) w3 w4:=Kpt.of_upd bw rfl;have ci:X1 w4 σ3:=ac.sat a4 fun k o=>by rw[o];exact ad.1
    have bf:=Y.kp ac fun k o e=>J (e▸o);have b8:=al _ _ _ ay fun k o=>bw.block k (by have:=(hD k o).1;omega)
    have c9:r<w3.heap.size:=ad.lt;refine Yi ci a5 H fun lv fv mv w5 σ5 bl f1 f2 f3 f4 f5 br=>?_;refine Z0 bl.sat (by rfl) rfl (Rep.one br) fun q w6 M W a2=>?_
    refine Z8 W.sat a2 rfl ?_;have z:=bl.trans W
    have bb: ∀k,D k->k<w4.heap.size:=fun k o=>by
     have X:=(hD k o).1;have h2:=A.kp.size;have h3:=ac.size;omega
    have b9:=al _ _ _ b8 fun k o=>z.bel.block k (bb k o);have a6:SLe σ M:=A.le.more ⟨z.le⟩
    have bc: ∀k,D k->M k=none:=fun k o=>by
     rw[z.old k (bb k o),A.old k (hD k o).1];exact (hD k o).2
    refine hf s c _ w6 M _ a6 W.sat bc b9 (RCl_lift br ⟨W.le⟩) (by rw[aw];exact H) fun w7 aj bk=>?_
    have bu:X1 w7 M:=aj.sat W.sat bc
    have ak:Nxt D w σ w7 M:=⟨((A.kp.more ac fun j e=>by rw[e];exact bs).trans (Kpt.of_below z.bel)).trans aj,a6,fun k o=>by
     rw[z.old k (by have:=A.kp.size;have:=ac.size;omega)];exact A.old k o,bu⟩
    have ao: ∀k,w.heap.size<=k-> ¬D k:=fun k o e=>by have:=(hD k e).1;omega
    have V:=(bf.up z).kp aj fun k o=>ao k ((bf.mem o).1);have bo:=(cd.up z).kp aj (ao r bs)
    have bn: ∀k,(B6 (putS m t (I 1)) k).isSome=decide (k∈b++[t]):=fun k=>by
     rw[Q64]
     by_cases e:t=k
     .subst e;simp
     .rw[if_neg e,Q k];simp[Ne.symm e]
    rw[H] at p;simp only[if_neg ai] at p;obtain ⟨bz,a1⟩:=Q2f (lk l) (g.length+weigh l b) (g++V8 c) (b++[t])
    have bq:a7=t::bz:=by
     have:=B.symm.trans (p.trans a1)
     simpa using this
    rw[bq] at y;simp only[List.filterMap_cons,H,U1] at y;cases E:(L s c).1 with
    | true=>
     rw[E] at y;simp only[if_true] at y;refine W7 ?_;have:=h w7 M ak;rw[y] at this;exact this bk
    | false=>
     rw[E] at y;simp only[Bool.false_eq_true,if_false] at y;refine L1 ?_;have ap:w.heap.size<=w7.heap.size:=ak.kp.size;have ae: ∀k,x'.ownBlock=some k->M k=none:=fun k o=>(V.mem o).2.2;have hw:=Q08 l b c bj (by rw[aw];exact ai)
     rw[aw] at hw;have de:=bx b;have ch:g.length<=100001000001:=by omega
     have cb:=(bv c bj).1;have cv:=bo.lt
     refine Q43 (Gz w.heap.size T.b 1 V3 M x' g c.super) (fun w1=>Kpt (fun k=>x'.ownBlock=some k) w7 w1/\X1 w1 M/\U0 w.heap.size T.b 1 V3 M w1 x' g)
      ⟨.of_below (Below.refl _ _).drew,bu.below (Below.refl _ _).drew,V.below (Below.refl _ _).drew⟩ (fun w1 w2 E ht=>⟨E.1.trans ht.1,ht.1.sat E.2.1 ae,ht.2.1 E.2.2⟩) ?_
     refine X4 (.pointer (some (q.add 1))) (fun w E=>by rw[fa];exact ⟨Gz.refl,rfl⟩) ?_
     refine X4 (.pointer (some (q.add 2))) (fun w E=>by rw[fa];exact ⟨Gz.refl,rfl⟩) ?_
     refine X4 (S c.super) (fun t w E e=>by rw[e];exact ld E.2.1 a2 rfl ⟨Gz.refl,rfl⟩) ?_
     refine H4 (fun u w1=> ∃σ',Nxt (fun k=>x'.ownBlock=some k) w7 M w1 σ'/\Sl 1 V3 σ' u [c.super]) (fun u w1 w2 e ht=>by obtain ⟨σ',X,h2⟩:=e;exact ⟨σ',X.kpt ht.1 (fun _ o=>o) (fun k o=>(X.old k (V.mem o).2.1).trans (ae k o)),h2⟩) (fun t w1 E e=>?_) ?_
     .rw[e]
      refine H0 (R:=V3) (sz:=1) E.2.1 [S c.super] [c.super] rfl rfl (by simp;rfl) rfl ⟨⟨rfl,f5⟩,trivial⟩ fun u w2 σ2 ab hu=>?_
      have cf:Nxt (fun k=>x'.ownBlock=some k) w7 M w1 M:=⟨E.1,SLe.refl _,fun _ _=>rfl,E.2.1⟩;exact ⟨Gz.below ab.bel,σ2,cf.trans (Nxt.of_stp ab),hu⟩
     refine H4 (VQa w7.heap.size w.heap.size T.b 1 V3 M x' g c.super) (fun _ _ _ X ht=>X.stable ht) (fun u w1 E e=>?_) ?_
     .obtain ⟨σ',X,h2⟩:=e
      exact X5C V ap E.2.2 X h2 rfl Q4 Q4
     refine X4 lv (fun t w E e=>by rw[e];exact ld E.2.1 a2 rfl ⟨Gz.refl,rfl⟩) ?_
     rintro dg dj dh di cp dl w8 O _ _ _ _ ⟨b5,bh⟩ rfl
     have a3:cp.ownBlock≠some r:=by
      rcases bh with ⟨a,b3,e1,e2⟩ | ⟨e1,_⟩
      .rw[e2];rw[e1] at J;cases a<;>exact J
      .intro e;have:=e1 r e;omega
     refine Tw O.2.1 (Nat.le_trans ap O.1.size) b5 (f1.up W) rfl (by rw[List.length_append,List.length_cons,List.length_nil];omega) (by rw[List.length_append,List.length_cons,List.length_nil];omega) fun b1 w9 a0 cj b6 bi=>?_
     have cn:b1.ownBlock≠some r:=by
      rcases bi with ⟨a,b3,e1,e2⟩ | ⟨_,e1⟩
      .rw[e2];rw[e1] at a3;cases a<;>exact a3
      .intro e;have:=e1 r e;have:=O.1.size;omega
     have cg:Nxt D w σ w9 M:=⟨(ak.kp.more O.1 fun j e=>(V.mem e).1).more a0 fun j e=>e.2.1,a6,ak.old,cj⟩;have ce:=(bo.kp O.1 J).kp a0 fun e=>a3 e.1
     have ca:=al _ w7 w9 bk fun k o=>by
      have X:=(hD k o).1;rw[a0.block k (by have:=O.1.size;omega) fun e=>by have:=e.2.1;omega,O.1.block k Q4 fun e=>by have:=(V.mem e).1;omega]
     have cy:(g++V8 c).length=g.length+1+c.like.length:=by simp[V8];omega
     have ct:(V8 c).length=c.like.length+1:=rfl
     have ax:Wc (lk l) (g.length+weigh l b) (g++V8 c) (b++[t])=Wc (lk l) ((g++V8 c).length+weigh l (b++[t])) (g++V8 c) (b++[t]):=by
      have:=X2q l ((g++V8 c).length+weigh l (b++[t])) (g++V8 c) (b++[t]) (Nat.le_refl _) (g.length+weigh l b-((g++V8 c).length+weigh l (b++[t])));rw[<-this];congr 1;omega
     refine bg ((g++V8 c).length+weigh l (b++[t])) b1 w9 Q4 ⟨g++V8 c,b++[t],(L s c).2,M,_,rfl,by omega,cg,?_,ce,bn,cn,ca,p.trans ax,i+1,?_⟩
     .have:g++V8 c=(g++[c.super])++c.like:=by simp[V8]
      rw[this];exact b6
     .rw[y,B,bq];simp)
end Go.Proofs.Y
namespace Go.Emb
open Go.RowKit Go.Hm
theorem Nxt.stp {w w':World} {σ a:Q2} (h:Nxt (fun _=>False) w σ w' a):Stp w σ w' a:=⟨h.kp.below fun _=>id,h.sat,h.le.le,h.old⟩
end Go.Emb
namespace Go.Hm
open Go.Kd Go.Emb
theorem Q6l {α:Type} (p:α->Bool): ∀(xs:List α) (i:Nat),(U1 (fun (_:Unit) x=>(p x,())) () xs i).1.isSome=xs.any p
 | [],_=>rfl
 | x::r,i=>by
  simp only[U1,List.any_cons];cases p x with
  | true=>simp
  | false=>simpa using Q6l p r (i+1)
theorem X2G {l:List Cla} (n b:Q8):((Nf l n).any fun c=>decide (c.name=b))=(K8 l n).contains b:=by
 have key: ∀vs:List Q8,(∀x∈vs,∃c,lk l x=some c)->((vs.filterMap (lk l)).any fun c=>decide (c.name=b))=vs.contains b:=by
  intro vs
  induction vs with
  | nil=>intro _;rfl
  | cons x r f=>
   intro h;obtain ⟨c,a⟩:=h x U5;rw[List.filterMap_cons,a];simp only[List.any_cons,List.contains_cons];rw[f fun y e=>h y (by simp[e]),(L5 a).1]
   congr 1
   rw[Bool.eq_iff_iff,beq_iff_eq,decide_eq_true_eq];exact ⟨Eq.symm,Eq.symm⟩
 exact key _ fun x d=>(Wa.1 d).right
end Go.Hm
namespace Go.Proofs.Y
open Go.Emb Go.RowKit Go.Kd Go.Hm
variable {w : World} {K : Value -> World -> Prop} {σ : Q2} {v : Value} {l : List Cla}
theorem X4c {n:Q8} {f:Value} (p:Cla->Bool) (hs:X1 w σ) (ht:Tab σ v l) (hl:l.length<=100000) (hsm: ∀c∈l,Qe c) (hn:n.length<=U9)
 (hf: ∀c cs (w1:World) (σ1:Q2) (K:Value->World->Prop),SLe σ σ1->X1 w1 σ1->W8 σ1 c cs->(∀w' σ',Stp w1 σ1 w' σ'->K (.bool (p c)) w')->Y8 P f [.agg cs.toArray] w1 K)
 (h: ∀w' σ',Stp w σ w' σ'->K (.bool ((Nf l n).any p)) w'):Q0 P F.af [v,S n,f] w K:=by
 refine Q9H (fun (_:Unit) c=>(p c,())) () (fun _ _=>True) (fun _=>False) hs ht hl hsm hn (fun _ e=>e.elim) (fun _ _ _ _ _=>trivial) trivial (fun s c cs w1 σ1 K le hs1 _ _ hr _ hK=>hf c cs w1 σ1 K le hs1 hr fun w' σ' hk=>hK w' (.of_below hk.bel) trivial) fun w' σ' hn _=>?_;rw[Q6l];exact h w' σ' hn.stp
theorem X4e {c:Cla} {cs:List Value} (hs:X1 w σ) (ht:Tab σ v l) (hl:l.length<=100000) (hsm: ∀c∈l,Qe c) (hc:W8 σ c cs) (h: ∀w' σ',Stp w σ w' σ'->K (.bool (A0 l c)) w'):Q0 P F.be [v, .agg cs.toArray] w K:=Ab (by
 obtain ⟨lv,fv,mv,rfl,g1,g2,g3,g4,g5⟩:=hc;unfold Nr J5 Y2 Y0;obtain ⟨a,_,_,_,rfl,_⟩:=ht.ex;refine V4 hs rfl fun q w1 σ1 hk1 hq=>?_;refine J1 hk1.sat fun q2 w2 σ2 hk2 hq2=>?_;rw[Yq,fa];have hS2:=hk1.trans hk2
 have back: ∀{n:Q8} {w3:World} {σ3:Q2} {K:Value->World->Prop},SLe σ2 σ3->X1 w3 σ3->n.length<=U9->(∀w' σ',Stp w3 σ3 w' σ'->K (.bool ((K8 l n).contains c.name)) w')->
  Y8 P (.func (.func F.b0) #[] #[.pointer (some q), .pointer (some q2)]) [S n] w3 K:=by
  intro n w3 σ3 K le hs3 hn hK;refine Z6 (Gs ?_);unfold La;refine Y4 hs3 ((hq.up hk2).lift le) rfl ?_;rw[Yq];have le3:SLe σ σ3:=SLe.more ⟨hS2.le⟩ le;refine X4c (fun d=>decide (d.name=c.name)) hs3 (ht.lift le3) hl hsm hn (fun d ds w4 σ4 K le4 hs4 hr hK=>Z6 (Cx ?_)) (by rw[X2G];exact hK)
  obtain ⟨lv,fv,mv,rfl,_⟩:=hr;unfold Uo Y2 X2;have hq4:=(hq2.lift le).lift le4;refine J1 hs4 fun a w5 σ5 hk5 ha5=>?_
  (repeat' (first | (with_reducible intro _) | (with_reducible refine L4 ?_) | (simp only[↓M2,M2,Mb,reduceIte]) | (with_reducible first | refine ld aS aL aR ?_ | refine Y4 aS aL aR ?_ | refine Z8 aS aL aR ?_ | refine Q6 aL ?_ | refine L6 aR ?_ | refine J1 aS ?_ | refine N4 aS aL ?_ | refine V4 aS aR ?_ | refine Z0 aS aR aR (Rep.one Q7) ?_ | refine U7 aS aR aR aR ?_ | (refine J4 (fun hh=>?_) (fun hh=>?_)<;>(try simp only[hh,Bool.not_true,Bool.not_false,↓M2,M2,Mb,reduceIte])) | (refine Q3 (fun hh=>?_) (fun hh=>?_)<;>(try simp only[hh,Bool.not_true,Bool.not_false,↓M2,M2,Mb,reduceIte])))))
  exact hK _ _ hk5
 refine ld hk2.sat hq2 rfl ?_;unfold A0 at h;simp only[V8,List.any_cons] at h;refine back (SLe.refl _) hk2.sat g5 fun w3 σ3 hk3=>?_;cases e1:(K8 l c.super).contains c.name with
 | true=>
  rw[e1] at h;simp only[↓M2,M2,Mb,reduceIte];exact h _ _ (hS2.trans hk3)
 | false=>
  rw[e1,Bool.false_or] at h;simp only[↓M2,M2,Mb,reduceIte];refine ld hk3.sat (hq2.up hk3) rfl ?_;refine T4 (fun n=>(K8 l n).contains c.name) hk3.sat (((g1.up hk1).up hk2).up hk3) (fun x w4 K _ hs4 hx hK=>back ⟨hk3.le⟩ hs4 hx fun w' σ' hk=>hK _ hk.bel) fun w4 hb=>?_
  (try simp only[↓M2,M2,Mb,reduceIte])
  exact h _ _ ((hS2.trans hk3).trans (Stp.of_below hk3.sat hb)))
end Go.Proofs.Y
namespace Go.Emb
open Go.RowKit Go.Hm
variable {P : Program} {w : World} {K : Value -> World -> Prop} {σ σ' : Q2}
theorem Sl.at {α:Type} {R:Q2->α->List Value->Prop} {sz:Nat} {v:Value} {xs:List α} (h:Sl sz R σ v xs) {i:Nat} (o:i<xs.length):
 ∃p cs,J7 σ p cs/\cs.length=sz/\R σ xs[i] cs/\ ∀{P:Program} {t e:TypeId} {c:Nat} {z:Value} {w:World} {K:Value->World->Prop} [TS P t e] [TZ P e sz c z],K (.pointer (some p)) w->indexAddr P t v (I i) w K:=by
 obtain ⟨a,d,rfl,q,r,k,m⟩:=h;cases a with
 | none=>have:=k rfl;omega
 | some b=>
  obtain ⟨cs,f,g,j⟩:=(m b rfl).2 i xs[i] (by simp[o])
  refine ⟨_,cs,f,g,j,?_⟩;intro P t e c z w K _ _ n;rw[Ix Q4 Q4]
  simpa using n
abbrev ints (xs:List Nat):List Int:=xs.map fun n:Nat=>(n:Int)
theorem W1.grow {α:Type} {R:Q2->α->List Value->Prop} [hr:Rep R] {B sz:Nat} {e:TypeId} {v:Value} {xs:List α} (h:W1 B e sz R σ w v xs) (f:SLe σ σ') (c: ∀k,v.ownBlock=some k->σ' k=none):W1 B e sz R σ' w v xs:=by
 obtain ⟨cells,a,g,b⟩:=h;exact ⟨cells,a,c,fun i x d=>hr.up f.le (b i x d)⟩
end Go.Emb
namespace Go.Proofs.Y
open Go.Emb Go.RowKit Go.Kd Go.Hm
variable {w : World} {K : Value -> World -> Prop} {σ : Q2} {v : Value} {l : List Cla}
theorem Q8u {B i:Nat} {xs:List Nat} {x:Value} (o:U0 B T.d 1 H9 σ w x (ints xs)) (h:K (.bool (decide (i∈xs))) w):Q0 P F.aA [x,I i] w K:=Rm (by
 unfold Zf X5
 have j:xs.length<=9223372036854775807:=by
  obtain ⟨a,r,_,m,p,_⟩:=o;simp only[maxLen,ints,List.length_map] at p m;omega
 refine Bd ?_;unfold Uu Z5 U4 X7 X2;refine Sh o ?_;have g:(ints xs).length=xs.length:=by simp
 refine U8 xs.length (fun n w'=>w'=w/\i∉xs.take n) ⟨rfl,by simp⟩ fun n w' d u f=>?_
 obtain ⟨rfl,f⟩:=f;rw[g];refine Z4 ?_;refine Q3 (fun hh=>?_) (fun hh=>?_)
 .have b:n<xs.length:=by simpa using hh
  refine Q7O o (by rw[g];exact b) fun a cs m p t=>?_
  obtain ⟨rfl,_⟩:=t;have q:=m 0 _ rfl;rw[add_zero] at q;refine Yo q ?_;simp only[List.getElem_map];refine Qr ?_;refine Q3 (fun c=>?_) (fun c=>?_)
  .have e:(i:Int)=xs[n]:=by simpa using c
   have:i=xs[n]:=by omega
   have k:decide (i∈xs)=true:=decide_eq_true (by rw[this];exact List.getElem_mem b)
   rw[k] at h;refine Yg ?_;rw[decide_eq_true (by omega:(0:Int)<=n)]
   exact h
  .have e: ¬(i:Int)=xs[n]:=by simpa using c
   refine H8 ?_;refine Y9 j b ⟨rfl,?_⟩;rw[List.take_add_one,List.getElem?_eq_getElem b];simp only[Option.toList_some,List.mem_append,List.mem_singleton,not_or];exact ⟨f,fun s=>e (by rw[s])⟩
 .have b: ¬n<xs.length:=by simpa using hh
  rw[List.take_of_length_le Q4] at f;rw[decide_eq_false f] at h;refine Yg ?_;exact h)
theorem X5y {w0:World} {σ0 σb:Q2} {pf pt pw:Addr} {A frm:Nat} (ha:Zc l) (ho:A9 l) (hl:l.length<=100000) (b1: ∀c∈l,Qe c) (hf:0<frm) (ht:Tab σb v l) (a3:J7 σb pf [I frm]) (bz:J7 σb pt [v])
 (b0:J7 σb pw [.func (.func F.y) #[] #[.pointer (some pf), .pointer (some ⟨A,0,none⟩), .pointer (some pt), .pointer (some pw)]]) (bn:w0.heap.size<=A):
 ∀(k:Nat) {i:Nat} {out:List Nat} {x:Value} {w1:World} {σ1:Q2} {K:Value->World->Prop},i<l.length->(i<frm\/K2 l (Y7 l i)<k)->SLe σb σ1->Stp w0 σ0 w1 σ1->U6 σ1 w1 A [x]->W1 w0.heap.size T.d 1 H9 σ1 w1 x (ints out)->x.ownBlock≠some A->Few l out->
  (∀w2 σ2 x',SLe σ1 σ2->Stp w0 σ0 w2 σ2->U6 σ2 w2 A [x']->W1 w0.heap.size T.d 1 H9 σ2 w2 x' (ints (Yv l frm out i))->x'.ownBlock≠some A->K (.tuple #[]) w2)->
  Y8 P (.func (.func F.y) #[] #[.pointer (some pf), .pointer (some ⟨A,0,none⟩), .pointer (some pt), .pointer (some pw)]) [I i] w1 K:=by
 obtain ⟨a,lv,r,m,rfl,t1,t2,t3,t4⟩:=ht.ex;intro k
 induction k with
 | zero=>
  intro i out x w1 σ1 K hi hk X N hm f hx Y h;have z:i<frm:=hk.resolve_right Q4;refine Z6 (Lh ?_);unfold Xp;simp only[Z1,Y1];unfold Z5 U4 Y0 X7 X2;refine Y4 N.sat (a3.lift X) rfl ?_;refine Z4 ?_;rw[decide_eq_true (by omega:(i:Int)<frm)]
  simp only[↓M2,M2,Mb,reduceIte];have:Yv l frm out i=out:=Zx _ _ z;rw[this] at h;exact h _ _ _ (SLe.refl _) N hm f hx
 | succ k ih=>
  intro i out x w1 σ1 K hi hk X N hm f hx Y h;refine Z6 (Lh ?_);unfold Xp;simp only[Z1,Y1];unfold Z5 U4 Y0 X7 X2;refine Y4 N.sat (a3.lift X) rfl ?_;refine Z4 ?_;have y:=Q9A ha ho hf out hi
  by_cases z:i<frm
  .rw[decide_eq_true (by omega:(i:Int)<frm)]
   simp only[↓M2,M2,Mb,reduceIte];rw[if_pos z] at y;rw[y] at h;exact h _ _ _ (SLe.refl _) N hm f hx
  rw[if_neg z] at y;rw[decide_eq_false (by omega: ¬(i:Int)<frm)]
  simp only[↓M2,M2,Mb,reduceIte];refine Q3D hm rfl ?_;refine Q8u (U0.of_acc f) ?_
  by_cases U:i∈out
  .rw[if_pos U] at y
   rw[y] at h;simp only[decide_eq_true U,↓M2,M2,Mb,reduceIte];exact h _ _ _ (SLe.refl _) N hm f hx
  rw[if_neg U] at y;simp only[decide_eq_false U,↓M2,M2,Mb,reduceIte];have ct:K2 l (Y7 l i)<k+1:=hk.resolve_left z;have t1:=t1.lift X;have t2:=t2.lift X;have t3:=t3.lift X;have M:=bz.lift X;obtain ⟨p,cs,a1,cp,bx,a2⟩:=t2.at hi;obtain ⟨b6,fv,mv,rfl,f1,f2,f3,f4,f5⟩:=bx;have ap:l.getD i Cla.zero=l[i]:=by rw[List.getD_eq_getElem?_getD,List.getElem?_eq_getElem hi];rfl
  have cm:=hm.lt;refine L9 N.sat ?_;refine X4 (.pointer (some a)) (fun w b=>Y4 b.sat M rfl (X9 rfl)) ?_;refine X4 (.pointer (some a)) (fun t w b e=>by rw[e,E0];exact X9 rfl) ?_
  refine X4 (.pointer (some (a.add 0))) (fun t w b e=>by rw[e,fa];exact X9 rfl) ?_
  refine X4 lv (fun t w b e=>by rw[e];exact ld b.sat t1 rfl (X9 rfl)) ?_
  refine X4 (.pointer (some p)) (fun t w b e=>by rw[e];exact a2 (X9 rfl)) ?_
  refine X4 (.pointer (some (p.add 1))) (fun t w b e=>by rw[e,fa];exact X9 rfl) ?_
  refine X4 (S l[i].super) (fun t w b e=>by rw[e];exact ld b.sat a1 rfl (X9 rfl)) ?_
  refine H4 (fun u w=>X1 w σ1/\W1 w0.heap.size T.b 1 V3 σ1 w u [l[i].super]/\ ∀k,u.ownBlock=some k->w1.heap.size<=k) (fun u w2 w3 h b=>⟨h.1.below b,h.2.1.up (Stp.of_below h.1 b),h.2.2⟩) (fun t w b e=>?_) ?_
  .rw[e]
   refine Yh (R:=V3) (sz:=1) (xs:=[l[i].super]) (N.trans b.stp) [S l[i].super] rfl rfl (by simp;rfl) rfl ⟨⟨rfl,f5⟩,trivial⟩ fun u w2 aw hu bw=>?_
   exact ⟨aw.bel,aw.sat,hu,fun k hk=>Nat.le_trans b.stp.bel.size (bw k hk)⟩
  refine X4 (.pointer (some a)) (fun w b=>Y4 b.sat M rfl (X9 rfl)) ?_;refine X4 (.pointer (some a)) (fun t w b e=>by rw[e,E0];exact X9 rfl) ?_
  refine X4 (.pointer (some (a.add 0))) (fun t w b e=>by rw[e,fa];exact X9 rfl) ?_
  refine X4 lv (fun t w b e=>by rw[e];exact ld b.sat t1 rfl (X9 rfl)) ?_
  refine X4 (.pointer (some p)) (fun t w b e=>by rw[e];exact a2 (X9 rfl)) ?_
  refine X4 (.pointer (some (p.add 2))) (fun t w b e=>by rw[e,fa];exact X9 rfl) ?_
  refine X4 b6 (fun t w b e=>by rw[e];exact ld b.sat a1 rfl (X9 rfl)) ?_
  rintro cy cz c0 c1 c2 c3 c4 c5 c6 c7 c8 c9 da db dc w2 Q _ _ _ _ _ _ _ ⟨cu,b2,L⟩ _ _ _ _ _ _ bf;subst bf;have bg:=N.trans Q.stp;have bp:=(b1 _ (List.getElem_mem hi)).1;have a8: ∀j,x.ownBlock=some j->j<w1.heap.size:=fun j C=>(f.mem j C).2.1;have bq:=hm.step Q.stp;have ab:=f.step Q.stp;refine Hk bg b2 f1 rfl (by simp only[List.length_cons,List.length_nil];omega) (by simp only[List.length_cons,List.length_nil];omega) fun bc w3 az bh b3 aq=>?_
  have Z: ∀j,bc.ownBlock=some j->w1.heap.size<=j:=fun j C=>by
   rcases aq with e | e
   .exact L j (e▸C)
   .exact Nat.le_trans Q.stp.bel.size (e j C)
  have ax:=bq.nx az fun e=>by have:=L _ e;omega
  have E:=ab.nx az fun j C e=>by have:=L _ e;have:=a8 j C;omega
  obtain ⟨σ4,bi,W,ba,aa⟩:=b3.keep bh;have W:Sl 1 V3 σ4 bc (V8 l[i]):=W;have br:U6 σ4 w3 A [x]:=⟨(aa A fun e=>by have:=Z A e.symm;omega).trans ax.1,ax.2⟩
  have ac:W1 w0.heap.size T.d 1 H9 σ4 w3 x (ints out):=E.grow ⟨ba⟩ fun j C=>(aa j fun e=>by have:=Z j e.symm;have:=a8 j C;omega).trans (E.mem j C).2.2
  have a9:SLe σ1 σ4:=⟨ba⟩;refine Q6 W ?_
  refine U8 (V8 l[i]).length (fun n w'=> ∃σ' x',SLe σ4 σ'/\Stp w0 σ0 w' σ'/\U6 σ' w' A [x']/\W1 w0.heap.size T.d 1 H9 σ' w' x' (ints (((V8 l[i]).take n).foldl (fun out u=>Yv l frm out ((Z7 l u).getD 0)) out))/\x'.ownBlock≠some A/\Few l (((V8 l[i]).take n).foldl (fun out u=>Yv l frm out ((Z7 l u).getD 0)) out))
   ⟨σ4,x,SLe.refl _,bi,br,ac,hx,Y⟩ fun n w5 d hn av=>?_
  obtain ⟨σ5,x5,aj,O,V,B,ai,o⟩:=av;refine Z4 ?_;have s:=a9.more aj;refine Q3 (fun hh=>?_) (fun hh=>?_)
  .have J:n<(V8 l[i]).length:=by simpa using hh
   refine Q7s (W.lift aj) J fun q hq cr=>?_;refine Y4 O.sat hq rfl ?_
   have e1:((V8 l[i]).take (n+1)).foldl (fun out u=>Yv l frm out ((Z7 l u).getD 0)) out=Yv l frm (((V8 l[i]).take n).foldl (fun out u=>Yv l frm out ((Z7 l u).getD 0)) out) ((Z7 l (V8 l[i])[n]).getD 0):=by
    rw[List.take_add_one,List.getElem?_eq_getElem J,List.foldl_append];rfl
   refine L9 O.sat ?_;refine X4 _ (fun w b=>Y4 b.sat (b0.lift (X.more s)) rfl (X9 rfl)) ?_;refine X4 (.pointer (some a)) (fun w b=>Y4 b.sat (M.lift s) rfl (X9 rfl)) ?_;refine X4 (.pointer (some a)) (fun t w b e=>by rw[e,E0];exact X9 rfl) ?_
   refine X4 (.pointer (some (a.add 1))) (fun t w b e=>by rw[e,fa];exact X9 rfl) ?_
   refine X4 (.map (some r)) (fun t w b e=>by rw[e];exact ld b.sat (t1.lift s) rfl (X9 rfl)) ?_
   refine X4 (I ((Z7 l (V8 l[i])[n]).getD 0:Nat)) (fun t w b e=>by
    rw[e,Q65 Y6 ((t3.lift s).is b.sat) _,t4];cases Z7 l (V8 l[i])[n]<;>exact X9 rfl) ?_
   rintro dd df dg dh di dj w6 af rfl _ _ _ _ rfl;have co:l.length<=9223372036854775807:=by omega
   refine ih ?_ ?_ (X.more s) (O.trans af.stp) (V.step af.stp) (B.step af.stp) ai o fun w7 σ7 x7 b5 bj bs ad b4=>?_
   .cases C:Z7 l (V8 l[i])[n] with
    | none=>simp only[Option.getD_none];omega
    | some j=>exact (G4 C).1
   .cases C:Z7 l (V8 l[i])[n] with
    | none=>exact .inl hf
    | some j=>
     right;have:=Q2D ha ho hi (u:=(V8 l[i])[n]) (by rw[ap];exact List.getElem_mem J) C
     simp only[Option.getD_some];omega
   .refine H8 ?_
    refine Y9 (by have:(V8 l[i]).length=l[i].like.length+1:=rfl;omega) J ⟨σ7,x7,aj.more b5,bj,bs,?_,b4,?_⟩
    .rw[e1];exact ad
    .rw[e1]
     cases C:Z7 l (V8 l[i])[n] with
     | none=>simp only[Option.getD_none];rw[show Yv l frm _ 0=_ from Zx _ _ hf];exact o
     | some j=>exact Tv ha ho hf _ _ _ (G4 C).1 o
  .have J: ¬n<(V8 l[i]).length:=by simpa using hh
   rw[List.take_of_length_le Q4] at B o;rw[ap] at y;refine Q3D V rfl ?_;have cn:=o.len;refine Za (x:=(i:Int)) O B ⟨rfl,by omega,by omega⟩ rfl rfl rfl (by rw[List.length_map];omega) (by rw[List.length_map];omega) fun u x8 w8 σ8 a0 bk H ar=>?_
   have ay:=V.nx a0 ai
   have a6:x8.ownBlock≠some A:=fun e=>by
    rcases ar with e2 | e2
    .exact ai (e2▸e)
    .have:=e2 A e;have:=V.lt;omega
   have a7:x8.cells= #[x8]/\x8.oneCell'=true:=by
    obtain ⟨cells,h1,_⟩:=H
    rcases h1.2 with ⟨rfl,_⟩ | ⟨g,ch,ci,rfl,_⟩<;>exact ⟨rfl,rfl⟩
   refine st0 ay U5 a7.1 a7.2 fun w9 a4 bu=>?_;have bl:=a4.stp bk bn ay.1
   have ae:W1 w0.heap.size T.d 1 H9 σ8 w9 x8 (ints (Yv l frm out i)):=by
    rw[y];have:=H.kp (Kpt.of_upd (D:=fun k=>k=A) a4 rfl) fun k hk e=>a6 (e▸hk)
    simpa [ints] using this
   exact h w9 σ8 x8 (s.more a0.le) bl bu ae a6
theorem X4f {frm:Nat} (hs:X1 w σ) (ht:Tab σ v l) (ha:Zc l) (ho:A9 l) (hl:l.length<=100000) (ai: ∀c∈l,Qe c) (hf:0<frm) (ac:frm<=l.length) (h: ∀v' w' σ',Stp w σ w' σ'->Sl 1 H9 σ' v' (ints (L3 l frm))->(L3 l frm).length<=l.length->(∀y∈L3 l frm,y<l.length)->K v' w'):Q0 P F.bf [v,I frm] w K:=Ac (by
 unfold Ns Y2 U4 X7 X2;have aj:=ht;obtain ⟨a,lv,r,m,rfl,t1,t2,t3,t4⟩:=ht.ex;refine V4 hs rfl fun pt w1 σ1 q ah=>?_;refine V4 q.sat rfl fun pf w2 σ2 k ag=>?_;refine I4 k.sat fun B w3 σ3 aa n M=>?_;refine I4 n.sat fun X w4 σ4 ab s O=>?_;rw[Yq];have N:=M.step s;have ax:=M.lt;have H:=((q.trans k).trans n).trans s;have L:w.heap.size<=B:=Qk aa (q.trans k);have t:w.heap.size<=X:=Qk ab ((q.trans k).trans n);refine st0 O (by simp[Value.cells]) rfl rfl fun w5 R ad=>?_
 have Y:=R.stp H t O.1;have u:=N.upd R Q4;obtain ⟨E,J,U,o,V⟩:=ad.keep Y t;have ae:U6 E w5 B [.slice none 0 0]:=⟨(V B Q4).trans u.1,u.2⟩;have o:SLe σ4 E:=⟨o⟩;have z:=((ag.up n).up s).lift o;have A:=(((ah.up k).up n).up s).lift o;have e:SLe σ E:=SLe.more ⟨H.le⟩ o;have t1:=t1.lift e;have t2:=t2.lift e;refine Y4 J.sat z rfl ?_;have a7:(List.range l.length).length=l.length:=List.length_range;have hz:([Value.nilFunc].set 0 (Value.func (Fn.func F.y) #[] #[.pointer (some pf), .pointer (some ⟨B,0,none⟩), .pointer (some pt), .pointer (some ⟨X,0,none⟩)]))=[Value.func (Fn.func F.y) #[] #[.pointer (some pf), .pointer (some ⟨B,0,none⟩), .pointer (some pt), .pointer (some ⟨X,0,none⟩)]]:=rfl
 refine Q2s (fun d x w'=> ∃(i:Nat) (σ':Q2) (x':Value),x=I i/\frm<=i/\i<=l.length/\d=l.length-i/\SLe E σ'/\Stp w σ w' σ'/\U6 σ' w' B [x']/\W1 w.heap.size T.d 1 H9 σ' w' x' (ints (((List.range i).drop frm).foldl (fun out i=>Yv l frm out i) []))/\x'.ownBlock≠some B/\Few l (((List.range i).drop frm).foldl (fun out i=>Yv l frm out i) [])) _
  ⟨frm,E, .slice none 0 0,rfl,Nat.le_refl _,ac,rfl,SLe.refl _,J,ae,by rw[List.drop_eq_nil_of_le U5];exact W1.nil,by simp[Value.ownBlock],by rw[List.drop_eq_nil_of_le U5];exact ⟨by simp,by simp⟩⟩ ?_
 rintro W d x dd w7 ⟨i,σ7,x7,rfl,a4,a5,rfl,f,g,Q,j,al,b⟩ Z;refine Y4 g.sat (A.lift f) rfl ?_;rw[E0,fa];refine ld g.sat (t1.lift f) rfl ?_;refine Q6 (t2.lift f) ?_;refine Z4 ?_;refine Q3 (fun hh=>?_) (fun hh=>?_)
 .have p:i<l.length:=by simpa using hh
  refine Y4 g.sat (U.lift f) rfl ?_;refine X5y (w0:=w) (σ0:=σ) (σb:=E) ha ho hl ai hf (aj.lift e) z A U L (K2 l (Y7 l i)+1) p (.inr (Nat.lt_succ_self _)) f g Q j al b fun w8 σ8 x8 an C af D am=>?_;refine Wb ⟨by omega,by omega⟩ ?_
  have e1:((List.range (i+1)).drop frm).foldl (fun out i=>Yv l frm out i) []=Yv l frm (((List.range i).drop frm).foldl (fun out i=>Yv l frm out i) []) i:=by
   rw[List.range_succ,List.drop_append_of_le_length (by simp;omega),List.foldl_append];rfl
  refine Z _ _ _ (by omega:l.length-(i+1)<l.length-i) ⟨i+1,σ8,x8,by simp,by omega,by omega,rfl,f.more an,C,af,?_,am,?_⟩
  .rw[e1];exact D
  .rw[e1];exact Tv ha ho hf _ _ _ p b
 .have p:i=l.length:=by
   have: ¬i<l.length:=by simpa using hh
   omega
  subst p;refine Q3D Q rfl ?_;obtain ⟨σ8,C,ak,_,_⟩:=j.keep g;exact h _ _ _ C ak b.len b.2)
end Go.Proofs.Y
namespace Go.Hm
open Go.Kd
theorem Q8A (x:Q8) (r:List Q8):H3 (x::r)=x++Lib.joinTail [44] r:=by
 induction r generalizing x with
 | nil=>simp[H3,Lib.joinTail]
 | cons y r a=>
  simp only[H3];rw[a y]
  simp[Lib.joinTail]
theorem Q2X (xs:List Q8):Lib.join xs [44]=H3 xs:=by
 cases xs with
 | nil=>rfl
 | cons x r=>rw[Lib.join_cons,Q8A]
theorem Sd: ∀xs:List Q8,(∀x∈xs,x.length<=100)->(H3 xs).length<=xs.length*101
 | [],_=>by simp[H3]
 | [a],h=>by have:=h a (by simp);simp[H3];omega
 | a::b::r,h=>by
  have d:=h a (by simp)
  have e:=Sd (b::r) fun x c=>h x (by simp[c])
  simp only[H3,List.length_append,List.length_cons,List.length_nil,Nat.add_mul] at*;omega
def NmM (m:Hm.Met):Prop:=m.result.length<=100/\ ∀p∈m.params,p.length<=100
end Go.Hm
namespace Go.Proofs.Y
open Go.Emb Go.RowKit Go.Kd Go.Hm
variable {w : World} {K : Value -> World -> Prop} {σ : Q2} {v : Value}
theorem X46 {xs:List Q8} {pv:Value} (L:X1 w σ) (M:Sl 1 V3 σ pv xs) (J:xs.length<=1000000) (N: ∀x∈xs,x.length<=100) (h: ∀w',Below w.heap.size w w'->K (S (H3 xs)) w'):Q0 P F.cS [pv,S [44]] w K:=by
 obtain ⟨a,g,rfl,C,R,D,E⟩:=M;have q:=Sd xs N;have z:xs.length*101<=1000000*101:=Nat.mul_le_mul_right _ J;cases a with
 | none=>
  have Q:=D rfl;have d:xs=[]:=List.eq_nil_of_length_eq_zero Q4;subst d;refine Lu (fn:=Tryz.f185) Tryz.func185 X3 X3 (Calls.mono (Tryz.strings_Join_none none g ⟨[44].toArray⟩ w) ?_);rintro e w' ⟨rfl,rfl⟩;exact h _ (Below.refl _ _)
 | some b=>
  obtain ⟨f,t⟩:=E b rfl
  by_cases d:xs=[]
  .subst d
   refine Lu (fn:=Tryz.f185) Tryz.func185 X3 X3 (Calls.mono (Tryz.strings_Join_none (some b) g ⟨[44].toArray⟩ w) ?_);rintro e w' ⟨rfl,rfl⟩;exact h _ (Below.refl _ _)
  have f:=f (List.length_pos_iff.2 d);obtain ⟨m,o,U⟩:=b;simp only at f;subst f
  have c: ∀(j:Nat) (x:ByteArray),(xs.map fun s=>(⟨s.toArray⟩:ByteArray))[j]? =some x->w.cell? ⟨m,o+j,none⟩=some (.string x):=by
   intro j x n;rw[List.getElem?_map] at n;cases k:xs[j]? with
   | none=>rw[k] at n;cases n
   | some s=>
    rw[k] at n;cases n;obtain ⟨cs,A,O,B⟩:=t j s k;obtain ⟨rfl,_⟩:=B;have:=A.cell L (i:=0) (v:=S s) rfl;rw[add_zero] at this;have e:(⟨m,o,none⟩:Addr).add (j*1)=⟨m,o+j,none⟩:=by unfold Addr.add;split<;>simp_all
    rw[e] at this;exact this
  have p:m<w.heap.size:=by
   obtain ⟨x,r,rfl⟩: ∃x r,xs=x::r:=by cases xs with | nil=>exact absurd rfl d | cons x r=>exact ⟨x,r,rfl⟩
   have:=c 0 ⟨x.toArray⟩ U5;exact World.block_lt_of_cell? _ _ this
  have y:(xs.map fun s=>(⟨s.toArray⟩:ByteArray)).map (·.data.toList)=xs:=by rw[List.map_map];simp[Function.comp_def]
  have u:=Tryz.strings_Join m o g (xs.map fun s=>(⟨s.toArray⟩:ByteArray)) ⟨[44].toArray⟩ w c p (by rw[List.length_map];omega) (by rw[List.length_map];exact C) (by rw[y];show (Lib.join xs [44]).length<=_;rw[Q2X];omega)
  rw[y,List.length_map] at u;refine Lu (fn:=Tryz.f185) Tryz.func185 X3 X3 (Calls.mono u ?_);rintro e w' ⟨rfl,H⟩;have:=h w' H;rw[<-Q2X] at this;exact this
theorem X1f {m:Hm.Met} {cs:List Value} (q:X1 w σ) (p:E6 σ m cs) (d:SmM m) (i:NmM m) (h: ∀w' r,Stp w σ w' r->K (S (Xs m)) w'):Q0 P F.c4 [.agg cs.toArray] w K:=Q7P (by
 obtain ⟨pv,s,C,rfl,n,u,y,z,A,B⟩:=p;unfold Q1h;simp only[Z1,Y1];unfold V5 X2;refine J1 q fun a w1 σ1 c j=>?_;have o:=Sd m.params i.2;have k:m.params.length*101<=1000000*101:=Nat.mul_le_mul_right _ d.1;refine L9 c.sat ?_;refine X4 (.pointer (some (a.add 1))) (fun w b=>by rw[fa];exact X9 rfl) ?_
 refine X4 (.pointer (some (a.add 2))) (fun w b=>by rw[fa];exact X9 rfl) ?_
 refine X4 pv (fun t w b e=>by rw[e];exact ld b.sat j rfl (X9 rfl)) ?_
 refine X4 (S (H3 m.params)) (fun t w b e=>by rw[e];exact X46 b.sat (n.up c) d.1 i.2 fun w' f=>Q41 f rfl) ?_
 refine X4 (S ([40]++H3 m.params)) (fun t w b e=>by rw[e];exact K4 (by simp only[List.length_cons,List.length_nil];omega) (X9 rfl)) ?_
 refine X4 (S ([40]++H3 m.params++[41])) (fun t w b e=>by rw[e];exact K4 (by simp only[List.length_append,List.length_cons,List.length_nil];omega) (X9 rfl)) ?_
 refine X4 (S m.result) (fun t w b e=>by rw[e];exact ld b.sat j rfl (X9 rfl)) ?_
 rintro D M E H J L N O g _ _ _ _ _ rfl rfl;have:=i.1;refine K4 (by simp only[List.length_append,List.length_cons,List.length_nil];omega) ?_
 exact h _ _ (c.trans g.stp))
end Go.Proofs.Y
namespace Go.Emb
open Go.RowKit Go.Hm
variable {P : Program} {w w' : World} {K : Value -> World -> Prop}
theorem Pw {α:Type} (f:α->α) (e:α): ∀l:List α,(l++[e]).modify l.length f=l++[f e]
 | []=>rfl
 | x::r=>by simp[Pw f e r]
theorem Q1g (k:List UInt8) (e:MapEntry) (b:e.key=S k): ∀(a:List MapEntry) (i:Nat),Instr.findNow .string (S k) a i=some none->Instr.findNow .string (S k) (a++[e]) i=some (some (i+a.length,e.val))
 | [],i,_=>by
  simp[Instr.findNow,b,Instr.sameNow,Hp]
 | x::r,i,h=>by
  simp only[Instr.findNow,List.cons_append] at h⊢
  split at h
  .cases h
  .rename_i c
   rw[Q1g k e b r (i+1) h]
   simp;omega
  .cases h
theorem Q31 (k:List UInt8) (u:Value): ∀(a:List MapEntry) (i j:Nat) (v:Value),Instr.findNow .string (S k) a i=some (some (j,v))->i<=j/\j-i<a.length/\Instr.findNow .string (S k) (a.modify (j-i) fun e=>{e with val:=u}) i=some (some (j,u))
 | [],i,j,v,h=>by simp[Instr.findNow] at h
 | x::r,i,j,v,h=>by
  simp only[Instr.findNow] at h
  split at h
  .rename_i b
   cases h;refine ⟨Nat.le_refl _,by simp,?_⟩
   simp only[Nat.sub_self,List.modify_zero_cons,Instr.findNow,b]
  .rename_i b
   obtain ⟨d,f,c⟩:=Q31 k u r (i+1) j v h;refine ⟨by omega,by simp;omega,?_⟩
   rw[show j-i=(j-(i+1))+1 by omega]
   simp only[List.modify_succ_cons,Instr.findNow,b];exact c
  .cases h
theorem Wr {t p q:TypeId} [tm:TM P t p q] (n:P.underlying p=some .string) {r:Nat} {b:Array MapEntry} {a:Nat} {k:List UInt8} {i:Nat} {v:Value} {e:MapEntry} (o:w.heap[r]? =some (.map b a))
 (s:Instr.findNow .string (S k) b.toList 0=some (some (i,v))) (m:b[i]? =some e) (d:e.key=S k):
 (Instr.mapEntry t (.map (some r)) (S k)).run P w= .ok (.tuple #[v,goInt e.born]) {w with heap:=w.heap.setIfInBounds r (.map b a)}:=by
 have u:(getObj r).run P w= .ok (.map b a) w:=by simp[getObj,Sem.run,o]
 have c:(Instr.keyThatStays (S k) (S k)).run P w= .ok (S k) w:=by
  simp[Instr.keyThatStays,Instr.sameBits,Hp]
 have g:(b.modify i fun e=>{e with key:=S k})=b:=by
  apply Array.ext';apply List.ext_getElem?;intro j;simp only[Array.toList_modify,List.getElem?_modify]
  by_cases f:i=j
  .subst f
   rw[Array.getElem?_toList,m]
   simp[<-d]
  .cases b.toList[j]? <;>simp[f]
 have l:(setObj r (.map b a)).run P w= .ok () {w with heap:=w.heap.setIfInBounds r (.map b a)}:=by
  simp[setObj,Sem.run,o]
 simp only[Instr.mapEntry,Sem.run_bind,run_underlying tm.h,Result.andThen_ok,Instr.findKey,run_underlying n,s,P2 n,u,Sem.run_pure];simp only[m,Option.map_some,Option.getD_some,d,c,Result.andThen_ok,g,l]
theorem Q3P {r:Nat} {o:Obj} (h:w.heap[r]? =some o):({w with heap:=w.heap.setIfInBounds r o}:World)=w:=by
 have:w.heap.setIfInBounds r o=w.heap:=by
  apply Array.ext';apply List.ext_getElem?;intro j;simp only[Array.toList_setIfInBounds,List.getElem?_set]
  by_cases a:r=j
  .subst a
   rw[if_pos rfl];have:=h;rw[<-Array.getElem?_toList] at this;rw[this,if_pos (by have:=(Array.getElem?_eq_some_iff.1 h).1;simpa using this)]
  .rw[if_neg a]
 rw[this]
theorem Q5z {r:Nat} {o b:Obj} (h:w.heap[r]? =some b):Upd w r {w with heap:=w.heap.setIfInBounds r o}/\({w with heap:=w.heap.setIfInBounds r o}:World).heap[r]? =some o:=by
 have a:=(Array.getElem?_eq_some_iff.1 h).1;exact ⟨⟨rfl,rfl,rfl,by simp,fun k c=>by simp only[Array.getElem?_setIfInBounds];rw[if_neg Q4]⟩,by simp[Array.getElem?_setIfInBounds,a]⟩
structure Ent3 (P : Program) (t : TypeId) (r : Nat) (k : List UInt8) (u : Value) (m : List (List UInt8 × Value)) (O0 O1 O2 : Obj) (stamp : Nat) : Prop where
  same : O0 = O2 -> O1 = O0
  put : E9 (some O2) (putS m k u)
  entry : ∀ {w : World} {K : Value -> World -> Prop}, (w.heap[r]? = some O0 \/ w.heap[r]? = some O1 \/ w.heap[r]? = some O2) -> (∀ x w', Upd w r w' -> (w.heap[r]? = some O0 -> w'.heap[r]? = some O1) -> (w.heap[r]? ≠ some O0 -> w'.heap[r]? = w.heap[r]?) -> K (.tuple #[x, I stamp]) w') -> mapEntry P t (.map (some r)) (S k) w K
  store : ∀ {w : World} {K : Value -> World -> Prop}, (w.heap[r]? = some O1 \/ w.heap[r]? = some O2) -> (∀ w', Upd w r w' -> w'.heap[r]? = some O2 -> K undef w') -> entryStore P t (.map (some r)) (I stamp) u w K
theorem X6Y {t kt et:TypeId} {ag:Nat} {z:Value} [tm:TM P t kt et] [tz:TZ P et 1 ag z] (X:P.underlying kt=some .string) {r:Nat} {m:List (List UInt8×Value)} (hm:E9 (w.heap[r]?) m) (k:List UInt8) (u:Value):
 ∃O O1 O2 A,w.heap[r]? =some O/\Ent3 P t r k u m O O1 O2 A:=by
 obtain ⟨q,g,h1,h2,Z,h4⟩:=hm;obtain ⟨r',q1,q2,q3,q4⟩:=Fh k q.toList m 0 h2
 -- the array behind it, the place, the stamp
 have R: ∀(f:Array MapEntry) (d i:Nat) (s:MapEntry) (v1:Value),Instr.findNow .string (S k) f.toList 0=some (some (i,v1))->f[i]? =some s->s.key=S k->(f.toList.map (·.born)).Pairwise (· < ·)->
  (Obj.map q g= .map (f.modify i fun e=>{e with val:=u}) d->Obj.map f d=Obj.map q g)->E9 (some (.map (f.modify i fun e=>{e with val:=u}) d)) (putS m k u)->
  (∀{w:World},w.heap[r]? =some (.map q g)-> ∃x,(Instr.mapEntry t (.map (some r)) (S k)).run P w= .ok (.tuple #[x,I s.born]) {w with heap:=w.heap.setIfInBounds r (.map f d)})->
  ∃O O1 O2 A,w.heap[r]? =some O/\Ent3 P t r k u m O O1 O2 A:=by
  intro f d i s v1 f1 f2 f3 f4 f5 f6 f7;obtain ⟨_,J,f8⟩:=Q31 k u f.toList 0 i v1 f1;simp only[Nat.sub_zero] at J f8;have a4:i<f.size:=by simpa using J
  have f9:(f.modify i fun e=>{e with val:=u})[i]? =some {s with val:=u}:=by
   rw[Array.getElem?_modify,if_pos rfl,f2];rfl
  have aj:Instr.findNow .string (S k) (f.modify i fun e=>{e with val:=u}).toList 0=some (some (i,u)):=by
   rw[Array.toList_modify];exact f8
  have L: ∀(l:Array MapEntry),l.toList.map (·.born)=f.toList.map (·.born)->l.findIdx? (fun e=>(e.born:Int)==s.born)=some i:=by
   intro l D;obtain ⟨le⟩:=l;have e0:(Array.mk le).findIdx? (fun e=>(e.born:Int)==s.born)=le.findIdx? (fun e=>(e.born:Int)==s.born):=List.findIdx?_toArray ..;rw[e0,List.findIdx?_eq_some_iff_getElem];generalize W:(Array.mk le)=l at*;have ao:le=l.toList:=by rw[<-W]
   subst ao;have a5:l.toList.length=f.toList.length:=by have:=congrArg List.length D;simpa using this
   have U: ∀j (hj:j<l.toList.length),(l.toList[j]).born=(f.toList[j]'(by omega)).born:=fun j hj=>by
    have h5:(l.toList.map (·.born))[j]? =(f.toList.map (·.born))[j]? :=by rw[D]
    rw[List.getElem?_map,List.getElem?_map,List.getElem?_eq_getElem hj,List.getElem?_eq_getElem Q4] at h5
    simpa using h5
   have V:f.toList[i]=s:=by
    have:=f2;rw[<-Array.getElem?_toList,List.getElem?_eq_getElem J] at this
    simpa using this
   refine ⟨by omega,by rw[U i Q4,V];simp,fun j hj=>?_⟩
   have an:j<f.toList.length:=by omega
   have:=(List.pairwise_iff_getElem.1 f4) j i (by simpa using an) (by simpa using J) hj
   simp only[List.getElem_map] at this;rw[U j Q4];rw[V] at this;simp only[beq_iff_eq];omega
  have H:(f.modify i fun e=>{e with val:=u}).toList.map (·.born)=f.toList.map (·.born):=by
   apply List.ext_getElem?;intro j;simp only[Array.toList_modify,List.getElem?_map,List.getElem?_modify]
   by_cases M:i=j<;>cases f.toList[j]? <;>simp[M]
  have ap:(f.modify i fun e=>{e with val:=u}).modify i (fun e=>{e with val:=u})=f.modify i fun e=>{e with val:=u}:=by
   apply Array.ext';apply List.ext_getElem?;intro j;simp only[Array.toList_modify,List.getElem?_modify]
   by_cases M:i=j<;>cases f.toList[j]? <;>simp[M]
  have B: ∀(l:Array MapEntry) {w:World},l.toList.map (·.born)=f.toList.map (·.born)->w.heap[r]? =some (.map l d)->(Instr.entryStore t (.map (some r)) (I s.born) u).run P w= .ok () {w with heap:=w.heap.setIfInBounds r (.map (l.modify i fun e=>{e with val:=u}) d)}:=by
   intro l w D hw;have hg:(getObj r).run P w= .ok (.map l d) w:=by simp[getObj,Sem.run,hw]
   have E: ∀o,(setObj r (.map o d)).run P w= .ok () {w with heap:=w.heap.setIfInBounds r (.map o d)}:=by
    intro o;simp[setObj,Sem.run,hw]
   simp only[Instr.entryStore,Sem.run_bind,hg,Result.andThen_ok,asInt,Sem.run_pure,asIntOf,L l D,E]
  refine ⟨.map q g, .map f d, .map (f.modify i fun e=>{e with val:=u}) d,s.born,h1,f5,f6,?_,?_⟩
  .intro w K hw N
   unfold mapEntry
   rcases hw with hw | hw | hw
   .obtain ⟨x,hx⟩:=f7 hw
    rw[Y3 hx];obtain ⟨u1,u2⟩:=Q5z (o:= .map f d) hw;exact N x _ u1 (fun _=>u2) fun h=>absurd hw h
   .have:=Wr (P:=P) (t:=t) X hw f1 f2 f3
    rw[Q3P hw] at this;rw[Y3 this];refine N _ w ⟨rfl,rfl,rfl,rfl,fun _ _=>rfl⟩ (fun h0=>?_) fun _=>rfl;exact hw
   .have:=Wr (P:=P) (t:=t) X hw aj f9 f3
    rw[Q3P hw] at this;rw[Y3 this];refine N _ w ⟨rfl,rfl,rfl,rfl,fun _ _=>rfl⟩ (fun h0=>?_) fun _=>rfl;rw[h0] at hw;cases hw;rw[h0,f5 rfl]
  .intro w K hw N
   unfold entryStore
   rcases hw with hw | hw
   .rw[Vw (B f rfl hw)]
    obtain ⟨u1,u2⟩:=Q5z (o:= .map (f.modify i fun e=>{e with val:=u}) d) hw
    exact N _ u1 u2
   .have:=B _ H hw
    rw[ap,Q3P hw] at this;rw[Vw this];exact N _ ⟨rfl,rfl,rfl,rfl,fun _ _=>rfl⟩ hw
 cases r' with
 | none=>
  obtain ⟨i,hi,bg,be,ar⟩:=tz.info;have hz: ∀w:World,(zeroValue et).run P w= .ok z w:=fun w=>Qb tz w;refine R (q.push {key:=S k,val:=z,born:=g}) (g+1) q.size {key:=S k,val:=z,born:=g} z ?_ U5 rfl ?_ ?_ ?_ ?_
  .have:=Q1g k {key:=S k,val:=z,born:=g} rfl q.toList 0 q1
   simpa using this
  .simp only[Array.toList_push,List.map_append,List.map_cons,List.map_nil]
   rw[List.pairwise_append];refine ⟨Z,by simp,?_⟩
   intro a ha b D
   simp at D;subst D
   obtain ⟨e,he,rfl⟩:=List.mem_map.1 ha;exact h4 e he
  .intro e
   injection e with s Y
   omega
  .refine ⟨_,_,rfl,?_,?_,?_⟩
   .rw[q4 rfl]
    simp only[Array.toList_modify,Array.toList_push];rw[<-Array.length_toList,Pw]
    simp[h2]
   .have:((q.push {key:=S k,val:=z,born:=g}).modify q.size fun e=>{e with val:=u}).toList.map (·.born)=q.toList.map (·.born)++[g]:=by
     simp only[Array.toList_modify,Array.toList_push];rw[<-Array.length_toList,Pw]
     simp
    rw[this,List.pairwise_append];refine ⟨Z,by simp,?_⟩
    intro a ha b D
    simp at D;subst D
    obtain ⟨e,he,rfl⟩:=List.mem_map.1 ha;exact h4 e he
   .intro e he
    simp only[Array.toList_modify,Array.toList_push] at he;rw[<-Array.length_toList,Pw] at he
    rcases List.mem_append.1 he with he | he
    .have:=h4 e he;omega
    .simp at he;subst he;simp
  .intro w hw
   have hg:(getObj r).run P w= .ok (.map q g) w:=by simp[getObj,Sem.run,hw]
   have E: ∀o c,(setObj r (.map o c)).run P w= .ok () {w with heap:=w.heap.setIfInBounds r (.map o c)}:=by
    intro o c;simp[setObj,Sem.run,hw]
   refine ⟨z,?_⟩;simp only[Instr.mapEntry,Sem.run_bind,run_underlying tm.h,Result.andThen_ok,Instr.findKey,run_underlying X,q1,P2 X,hg,Sem.run_pure,hz,E];rfl
 | some p=>
  obtain ⟨j,v⟩:=p;obtain ⟨z1,z2,z3⟩:=q3 j v rfl;obtain ⟨e,s,Y⟩:=z2;simp only[Nat.sub_zero] at s z3;have Q:q[j]? =some e:=by rw[<-Array.getElem?_toList];exact s
  refine R q g j e v q1 Q Y Z (fun _=>rfl) ?_ fun hw=>⟨v,Wr X hw q1 Q Y⟩;refine ⟨_,_,rfl,?_,?_,?_⟩
  .have:=z3 u
   rw[<-this,Array.toList_modify]
   congr 1
   apply List.ext_getElem?;intro n;simp only[List.getElem?_modify]
   by_cases C:j=n
   .subst C;rw[s];simp[Y]
   .simp[C]
  .have:(q.modify j fun e=>{e with val:=u}).toList.map (·.born)=q.toList.map (·.born):=by
    apply List.ext_getElem?;intro n;simp only[Array.toList_modify,List.getElem?_map,List.getElem?_modify]
    by_cases C:j=n<;>cases q.toList[n]? <;>simp[C]
   rw[this];exact Z
  .intro x hx
   have:x.born∈(q.modify j fun e=>{e with val:=u}).toList.map (·.born):=List.mem_map.2 ⟨x,hx,rfl⟩
   have D:(q.modify j fun e=>{e with val:=u}).toList.map (·.born)=q.toList.map (·.born):=by
    apply List.ext_getElem?;intro n;simp only[Array.toList_modify,List.getElem?_map,List.getElem?_modify]
    by_cases C:j=n<;>cases q.toList[n]? <;>simp[C]
   rw[D] at this;obtain ⟨y,hy,e⟩:=List.mem_map.1 this;rw[<-e];exact h4 y hy
end Go.Emb
namespace Go.Hm
open Go.Kd Go.Emb
abbrev F4:=List (Q8×Q8)
def B5:F4->Q8->Option Q8
 | [],_=>none
 | p::r,k=>if p.1=k then some p.2 else B5 r k
def Cw:F4->Q8->Q8->F4
 | [],k,v=>[(k,v)]
 | p::r,k,v=>if p.1=k then (k,v)::r else p::Cw r k v
def vals (m:F4):List (List UInt8×Value):=m.map fun p=>(p.1,S p.2)
theorem X1N (m:F4) (k:Q8):B6 (vals m) k=(B5 m k).map S:=by
 induction m with
 | nil=>rfl
 | cons p r a=>
  simp only[vals,List.map_cons,B6,B5]
  split
  .rfl
  .exact a
theorem Q7N (m:F4) (k v:Q8):putS (vals m) k (S v)=vals (Cw m k v):=by
 induction m with
 | nil=>rfl
 | cons p r a=>
  simp only[vals,List.map_cons,putS,Cw]
  split
  .rfl
  .rw[List.map_cons];congr 1
theorem Q1E (m:F4) (k v n:Q8):B5 (Cw m k v) n=if k=n then some v else B5 m n:=by
 induction m with
 | nil=>simp[Cw,B5]
 | cons p r b=>
  simp only[Cw]
  by_cases h:p.1=k
  .rw[if_pos h]
   simp only[B5]
   by_cases a:k=n
   .simp[a]
   .rw[if_neg a,if_neg a,if_neg (by rw[h];exact a)]
  .rw[if_neg h]
   simp only[B5]
   by_cases a:p.1=n
   .rw[if_pos a,if_pos a,if_neg (by intro e;exact h (a.trans e.symm))]
   .rw[if_neg a,if_neg a];exact b
def Ws (d:Q8) (s:F4×F4) (m:Hm.Met):Bool×(F4×F4):=
 ((match B5 s.1 m.name with | some x=> !decide (x=Xs m) | none=>false),(Cw s.1 m.name (Xs m),Cw s.2 m.name d))
end Go.Hm
namespace Go.Emb
open Go.RowKit Go.Hm
theorem E9.of_below {w w':World} {r:Nat} {m:List (List UInt8×Value)} (h:E9 (w.heap[r]?) m) (e:Below w.heap.size w w'):E9 (w'.heap[r]?) m:=by
 obtain ⟨c,a,b,d⟩:=h;rw[e.block r (Array.getElem?_eq_some_iff.1 b).1];exact ⟨c,a,b,d⟩
theorem X2h {P:Program} {w:World} {K:Value->World->Prop} {t c b:TypeId} {sz a:Nat} {z:Value} [tm:TM P t c b] [tz:TZ P b sz a z] (d:P.underlying c=some .string) {r:Nat} {m:List (List UInt8×Value)} (f:E9 (w.heap[r]?) m) (k:List UInt8)
 (h:K (.tuple #[(B6 m k).getD z, .bool (B6 m k).isSome]) w):lookup P t (.map (some r)) (S k) true w K:=by
 rw[Q3E d f k];cases e:B6 m k<;>rw[e] at h<;>exact h
theorem E9.lt {w:World} {r:Nat} {m:List (List UInt8×Value)} (h:E9 (w.heap[r]?) m):r<w.heap.size:=by
 obtain ⟨c,a,b,d⟩:=h;exact (Array.getElem?_eq_some_iff.1 b).1
end Go.Emb
namespace Go.Proofs.Y
open Go.Emb Go.RowKit Go.Kd Go.Hm
variable {w : World} {K : Value -> World -> Prop} {σ : Q2}
theorem X6D {m:Hm.Met} {cs ds:List Value} {pa pb q:Addr} {b o:Nat} {s:F4×F4} {d:Q8} (hs:X1 w σ) (hm:E6 σ m cs) (ab:SmM m) (hn:NmM m) (Y:J7 σ pa [.map (some b)]) (aq:J7 σ pb [.map (some o)]) (hq:J7 σ q (S d::ds))
 (ar:σ b=none) (av:σ o=none) (X:b≠o) (p:E9 (w.heap[b]?) (vals s.1)) (y:E9 (w.heap[o]?) (vals s.2))
 (h: ∀w',Kpt (fun k=>k=b\/k=o) w w'->E9 (w'.heap[b]?) (vals (Ws d s m).2.1)->E9 (w'.heap[o]?) (vals (Ws d s m).2.2)->K (.bool (Ws d s m).1) w'):
 Q0 P F.aB [.agg cs.toArray, .pointer (some pa), .pointer (some q), .pointer (some pb)] w K:=Rr (by
 have W:=hm;obtain ⟨pv,cv,hv,rfl,g1,g2,g3,g4,g5,g6⟩:=hm;unfold Jg;simp only[Z1,Y1,D0,En,M8];unfold Y2 Y0 X2;refine J1 hs fun a w1 σ1 f U=>?_;have am:=p.lt;have an:=y.lt;have p:=p.of_below f.bel;have y:=y.of_below f.bel;have Z:σ1 b=none:=(f.old b am).trans ar;have J:σ1 o=none:=(f.old o an).trans av;refine Y4 f.sat (Y.up f) rfl ?_;rw[fa];refine ld f.sat U rfl ?_;refine X2h Y6 p m.name ?_
 have ao:(.tuple #[(B6 (vals s.1) m.name).getD (.string ⟨#[]⟩), .bool (B6 (vals s.1) m.name).isSome]:Value)= .tuple #[S ((B5 s.1 m.name).getD []), .bool (B5 s.1 m.name).isSome]:=by
  rw[X1N];cases B5 s.1 m.name<;>rfl
 rw[ao];refine J0 (vs:=[_,_]) rfl ?_;refine J0 (vs:=[_,_]) rfl ?_;obtain ⟨L,M,r,A,af,E⟩:=X6Y (P:=P) (t:=T.s) Y6 p m.name (S (Xs m));have V:=p.lt
 refine Q43 (fun c i=>Kpt (fun k=>k=b) c i/\(i.heap[b]? =c.heap[b]? \/(c.heap[b]? =some L/\L≠r/\i.heap[b]? =some M)\/i.heap[b]? =some r))
  (fun c=>Kpt (fun k=>k=b) w1 c/\X1 c σ1/\(c.heap[b]? =some L\/c.heap[b]? =some M\/c.heap[b]? =some r))
  ⟨.of_below (Below.refl _ _).drew,f.sat.below (Below.refl _ _).drew, .inl af⟩ (fun c i g C=>⟨g.1.trans C.1,C.1.sat g.2.1 (fun k hk=>hk▸Z),by
   rcases C.2 with e | ⟨_,_,e⟩ | e
   .rw[e];exact g.2.2
   .exact .inr (.inl e)
   .exact .inr (.inr e)⟩) ?_
 refine X4 (.pointer (some (a.add 0))) (fun w g=>by rw[fa];exact ⟨⟨Kpt.refl, .inl rfl⟩,rfl⟩) ?_
 refine X4 (.pointer (some (a.add 0))) (fun w g=>by rw[fa];exact ⟨⟨Kpt.refl, .inl rfl⟩,rfl⟩) ?_
 refine X4 (.pointer (some (q.add 0))) (fun w g=>by rw[fa];exact ⟨⟨Kpt.refl, .inl rfl⟩,rfl⟩) ?_
 refine X4 (.map (some b)) (fun w g=>Y4 g.2.1 (Y.up f) rfl ⟨⟨Kpt.refl, .inl rfl⟩,rfl⟩) ?_;refine X4 (S m.name) (fun t w g e=>by rw[e];exact ld g.2.1 U rfl ⟨⟨Kpt.refl, .inl rfl⟩,rfl⟩) ?_
 refine X4 (.map (some o)) (fun w g=>Y4 g.2.1 (aq.up f) rfl ⟨⟨Kpt.refl, .inl rfl⟩,rfl⟩) ?_;refine X4 (S m.name) (fun t w g e=>by rw[e];exact ld g.2.1 U rfl ⟨⟨Kpt.refl, .inl rfl⟩,rfl⟩) ?_
 refine X4 (.agg [S m.name,pv,S m.result, .bool m.abs,I m.locals,cv,hv].toArray) (fun w g=>Z8 g.2.1 U rfl ⟨⟨Kpt.refl, .inl rfl⟩,rfl⟩) ?_
 refine X4 (S (Xs m)) (fun t c g e=>by
  rw[e];exact X1f g.2.1 (RMe_lift W ⟨f.le⟩) ab hn fun i σ3 z=>⟨⟨.of_below z.bel, .inl (z.bel.block b (Nat.lt_of_lt_of_le V g.1.size))⟩,rfl⟩) ?_
 refine X4 (S d) (fun t w g e=>by rw[e];exact ld g.2.1 (hq.up f) rfl ⟨⟨Kpt.refl, .inl rfl⟩,rfl⟩) ?_
 have st: ∀{c i:World},(c.heap[b]? =some M\/c.heap[b]? =some r)->(i.heap[b]? =c.heap[b]? \/(c.heap[b]? =some L/\L≠r/\i.heap[b]? =some M)\/i.heap[b]? =some r)->(i.heap[b]? =some M\/i.heap[b]? =some r):=by
  intro c i j h2
  rcases h2 with e | ⟨_,_,e⟩ | e
  .rw[e];exact j
  .exact .inl e
  .exact .inr e
 refine H4 (fun u c=>(∃x,u= .tuple #[x,I A])/\(c.heap[b]? =some M\/c.heap[b]? =some r)) (fun u c i j C=>⟨j.1,st j.2 C.2⟩) (fun ac aw c g e1 e2=>?_) ?_
 .rw[e1,e2]
  refine E.entry g.2.2 fun x i n aj ak=>?_
  by_cases Q:c.heap[b]? =some L
  .have j:=aj Q
   refine ⟨⟨Kpt.of_upd n rfl,?_⟩,⟨x,rfl⟩, .inl j⟩
   by_cases B:L=r
   .left;rw[j,Q,E.same B]
   .exact .inr (.inl ⟨Q,B,j⟩)
  .have j:=ak Q
   refine ⟨⟨Kpt.of_upd n rfl, .inl j⟩,⟨x,rfl⟩,?_⟩;rw[j];exact g.2.2.resolve_left Q
 refine H4 (fun u c=>u=I A/\(c.heap[b]? =some M\/c.heap[b]? =some r)) (fun u c i j C=>⟨j.1,st j.2 C.2⟩) (fun t c g e=>?_) ?_
 .obtain ⟨⟨x,rfl⟩,j⟩:=e
  exact J0 (vs:=[_,_]) rfl ⟨⟨Kpt.refl, .inl rfl⟩,rfl,j⟩
 refine H4 (fun _ c=>c.heap[b]? =some r) (fun u c i j C=>?_) (fun ac ay ax c g e1 e2 e3=>?_) ?_
 .rcases C.2 with e | ⟨e,B,_⟩ | e
  .exact e.trans j
  .rw[j] at e;cases e;exact absurd rfl B
  .exact e
 .rw[e1,e3,e2.1]
  refine E.store e2.2 fun i n h3=>⟨⟨Kpt.of_upd n rfl, .inr (.inr h3)⟩,h3⟩
 rintro bb bd bg ac aw bc be bf ax bh bi ay bj c N _ _ _ _ _ rfl rfl _ _ rfl _ _ ag
 have ah:E9 (c.heap[b]?) (vals (Cw s.1 m.name (Xs m))):=by
  rw[ag,<-Q7N];exact E.put
 have ai:E9 (c.heap[o]?) (vals s.2):=by
  rw[N.1.block o y.lt fun e=>X e.symm];exact y
 refine Pv Y6 ⟨J,ai⟩ m.name (S d) fun i n ap=>?_;have R:E9 (i.heap[o]?) (vals (Cw s.2 m.name d)):=by rw[<-Q7N];exact ap.2
 have H:E9 (i.heap[b]?) (vals (Cw s.1 m.name (Xs m))):=by rw[n.block b X];exact ah
 have z:Kpt (fun k=>k=b\/k=o) w i:=((Kpt.of_below f.bel).trans (N.1.mono fun k _ h=> .inl h)).trans (Kpt.of_upd n (.inr rfl));have aa:X1 i σ1:=(Kpt.of_upd (D:=fun k=>k=o) n rfl).sat N.2.1 fun k hk=>hk▸J;unfold Ws at h;cases ho:B5 s.1 m.name with
 | none=>
  rw[ho] at h;simp only[Option.isSome_none,↓M2,M2,Mb,reduceIte];exact h i z H R
 | some x=>
  rw[ho] at h;simp only[Option.isSome_some,Option.getD_some,↓M2,M2,Mb,reduceIte];refine Z8 aa U rfl ?_;refine X1f aa (RMe_lift W ⟨f.le⟩) ab hn fun w4 σ4 O=>?_;simp only[↓M2,M2,Mb,reduceIte];exact h w4 (z.trans (Kpt.of_below O.bel)) (H.of_below O.bel) (R.of_below O.bel))
end Go.Proofs.Y
namespace Go.Hm
open Go.Kd Go.Emb
def Bo (s:F4×F4) (c:Cla):Bool×(F4×F4):=((U1 (Ws c.name) s c.methods 0).1.isSome,(U1 (Ws c.name) s c.methods 0).2)
def Sb (a:List Hm.Met):Prop:= ∃x∈a,∃y∈a,x.name=y.name/\Xs x≠Xs y
theorem Q6d (a:List Hm.Met):Dc a=true↔Sb a:=by
 simp[Dc,Sb]
structure Gd (pre : List Hm.Met) (s : F4 × F4) : Prop where
  a : ∀ m ∈ pre, B5 s.1 m.name = some (Xs m)
  b : ∀ k x, B5 s.1 k = some x -> ∃ m ∈ pre, m.name = k /\ Xs m = x
  c : ∀ k, (B5 s.2 k).isSome = true ↔ ∃ m ∈ pre, m.name = k
theorem Gd.no {b:List Hm.Met} {s:F4×F4} (h:Gd b s): ¬Sb b:=by
 rintro ⟨x,g,y,i,d,e⟩;have c:=h.a x g;have f:=h.a y i;rw[d,f] at c;exact e (Option.some.inj c).symm
theorem Gd.step {n:List Hm.Met} {s:F4×F4} (h:Gd n s) (d:Q8) (m:Hm.Met):((Ws d s m).1=true->Sb (n++[m]))/\((Ws d s m).1=false->Gd (n++[m]) (Ws d s m).2):=by
 unfold Ws;constructor
 .intro g
  cases o:B5 s.1 m.name with
  | none=>rw[o] at g;cases g
  | some x=>
   rw[o] at g;obtain ⟨y,hy,f,p⟩:=h.b _ _ o;exact ⟨y,by simp[hy],m,by simp,f,by rw[p];simpa using g⟩
 .intro g
  have i: ∀x,B5 s.1 m.name=some x->x=Xs m:=fun x j=>by rw[j] at g;simpa using g
  refine ⟨fun y hy=>?_,fun k x j=>?_,fun k=>?_⟩
  .simp only[Q1E]
   rcases List.mem_append.1 hy with hy | hy
   .have:=h.a y hy
    by_cases e:m.name=y.name
    .rw[if_pos e];congr 1;exact (i _ (by rw[e];exact this)).symm
    .rw[if_neg e];exact this
   .simp at hy;subst hy;simp
  .simp only[Q1E] at j
   by_cases e:m.name=k
   .rw[if_pos e] at j;cases j;exact ⟨m,by simp,e,rfl⟩
   .rw[if_neg e] at j
    obtain ⟨y,hy,f⟩:=h.b _ _ j;exact ⟨y,by simp[hy],f⟩
  .simp only[Q1E]
   by_cases e:m.name=k
   .rw[if_pos e];exact ⟨fun _=>⟨m,by simp,e⟩,fun _=>rfl⟩
   .rw[if_neg e,h.c k]
    constructor
    .rintro ⟨y,hy,f⟩;exact ⟨y,by simp[hy],f⟩
    .rintro ⟨y,hy,f⟩
     rcases List.mem_append.1 hy with hy | hy
     .exact ⟨y,hy,f⟩
     .simp at hy;subst hy;exact absurd f e
theorem Sb.mono {a b:List Hm.Met} (h:Sb a) (c: ∀x∈a,x∈b):Sb b:=by
 obtain ⟨x,d,y,f,e⟩:=h;exact ⟨x,c x d,y,c y f,e⟩
theorem Q4K (d:Q8): ∀(b a:List Hm.Met) (s:F4×F4) (i:Nat),Gd a s->((U1 (Ws d) s b i).1.isSome=true->Sb (a++b))/\((U1 (Ws d) s b i).1.isSome=false->Gd (a++b) (U1 (Ws d) s b i).2)
 | [],a,s,i,h=>by simpa [U1] using h
 | m::r,a,s,i,h=>by
  obtain ⟨g,j⟩:=h.step d m;simp only[U1];cases c:(Ws d s m).1 with
  | true=>
   simp only[if_true,Option.isSome_some];exact ⟨fun _=>(g c).mono fun x f=>by simp at f⊢;rcases f with h | h<;>simp[h],fun e=>by cases e⟩
  | false=>
   simp only[Bool.false_eq_true,if_false];have:=Q4K d r (a++[m]) (Ws d s m).2 (i+1) (j c);rw[show a++m::r=(a++[m])++r by simp]
   exact this
theorem Q4J: ∀(cs:List Cla) (a:List Hm.Met) (s:F4×F4) (i:Nat),Gd a s->((U1 Bo s cs i).1.isSome=true->Sb (a++cs.flatMap (·.methods)))/\((U1 Bo s cs i).1.isSome=false->Gd (a++cs.flatMap (·.methods)) (U1 Bo s cs i).2)
 | [],a,s,i,h=>by simpa [U1] using h
 | c::r,a,s,i,h=>by
  obtain ⟨d,f⟩:=Q4K c.name c.methods a s 0 h;simp only[U1];cases b:(Bo s c).1 with
  | true=>
   simp only[if_true,Option.isSome_some];exact ⟨fun _=>(d b).mono (by simp;intro x hx;rcases hx with hx | hx;exact .inl hx;exact .inr (.inl hx)),fun e=>by cases e⟩
  | false=>
   simp only[Bool.false_eq_true,if_false];have:=Q4J r (a++c.methods) (Bo s c).2 (i+1) (f b);rw[List.flatMap_cons,<-List.append_assoc];exact this
theorem X5Q:Gd [] ([],[]):=⟨by simp,by simp[B5],by simp[B5]⟩
theorem Q9O (l:List Cla) (n:Q8):Ly l n=(Nf l n).flatMap (·.methods):=by
 unfold Ly Nf
 induction K8 l n with
 | nil=>rfl
 | cons u r a=>
  rw[List.flatMap_cons,List.filterMap_cons];cases b:lk l u with
  | none=>simpa [b] using a
  | some c=>simp only[Option.map_some,Option.getD_some,List.flatMap_cons];rw[a]
end Go.Hm
namespace Go.Emb
open Go.RowKit Go.Hm
variable {P : Program} {w w1 w' : World} {K : Value -> World -> Prop} {σ σ' : Q2}
def It (σ:Q2) (w:World) (b r:Nat) (e:Array MapEntry) (a:Nat) (c:Array Nat):Prop:=σ b=none/\ ∃d,a<=d/\w.heap[b]? =some (.mapIter (some r) a c d)
theorem It.step {b r:Nat} {d:Array MapEntry} {a:Nat} {c:Array Nat} (h:It σ w b r d a c) (k:Stp w σ w' σ'):It σ' w' b r d a c:=by
 obtain ⟨i,g,j,e⟩:=h;have f:=(Array.getElem?_eq_some_iff.1 e).1;exact ⟨(k.old b f).trans i,g,j,(k.bel.block b f).trans e⟩
theorem X6P {t i e:TypeId} [tm:TM P t i e] {r:Nat} {c:Array MapEntry} {a:Nat} (d:X1 w σ) (g:w.heap[r]? =some (.map c a))
 (h: ∀b w' σ',w.heap.size<=b->Stp w σ w' σ'->It σ' w' b r c a #[]->K (.pointer (some ⟨b,0,none⟩)) w'):rng P t (.map (some r)) w K:=by
 unfold rng;have f:(getObj r).run P w= .ok (.map c a) w:=by simp[getObj,Sem.run,g]
 rw[Y3 (v:= .pointer (some ⟨w.heap.size,0,none⟩)) (w':=w.alloc (.mapIter (some r) a #[] a)) (by
  simp only[Instr.range,Sem.run_bind,run_underlying tm.h,Result.andThen_ok,f,Sem.run_pure]
  simp)]
 exact h _ _ _ (Nat.le_refl _) (Stp.own d _) ⟨d.none (Nat.le_refl _),a,Nat.le_refl _,heap_alloc_new w _⟩
theorem X6N {t:TypeId} {b r:Nat} {es:Array MapEntry} {clock:Nat} {seen:Array Nat} (hi:It σ w b r es clock seen) (hm:w.heap[r]? =some (.map es clock)) (hold: ∀x∈es.toList,x.born<clock)
 (h0:(∀e∈es.toList,e.born∈seen)->K (.tuple #[.bool false]) w)
 (h1: ∀e w',e∈es.toList->e.born∉seen->Kpt (fun k=>k=b) w w'->It σ w' b r es clock (seen.push e.born)->w'.heap[b]? =some (.mapIter (some r) clock (seen.push e.born) clock)->K (.tuple #[.bool true,e.key,e.val]) w'):V0 P (.pointer (some ⟨b,0,none⟩)) false t w K:=by
 obtain ⟨hb,c0,hc,hh⟩:=hi;unfold V0
 rcases run_next_at (P:=P) w t b r clock c0 seen es clock hh hm hold hc with ⟨hz,hrun⟩ | ⟨e,he,w1,hw1,hrun⟩
 .rw[Y3 hrun]
  refine h0 fun e he=>Classical.byContradiction fun hn=>?_
  have:e∈(leftOf es seen).toList:=by
   unfold leftOf;simp only[Array.toList_filter,List.mem_filter];exact ⟨he,by simpa using hn⟩
  have hl:(leftOf es seen).toList.length=0:=by simpa using hz
  rw[List.eq_nil_of_length_eq_zero hl] at this;cases this
 .rw[Y3 hrun]
  have he':e∈es.toList/\e.born∉seen:=by
   unfold leftOf at he;simp only[Array.toList_filter,List.mem_filter] at he;exact ⟨he.1,by simpa using he.2⟩
  have hh1:w1.heap[b]? =some (.mapIter (some r) clock seen c0):=by rcases hw1 with rfl | rfl<;>exact hh
  obtain ⟨u1,u2⟩:=Q5z (w:=w1) (o:= .mapIter (some r) clock (seen.push e.born) clock) hh1;refine h1 e _ he'.1 he'.2 ?_ ⟨hb,clock,Nat.le_refl _,u2⟩ u2
  have k1:Kpt (fun k=>k=b) w w1:=by
   rcases hw1 with rfl | rfl
   .exact Kpt.refl
   .exact .of_below (Below.refl _ _).drew
  exact k1.trans (Kpt.of_upd u1 rfl)
theorem X6d {b r:Nat} {d:Array MapEntry} {a:Nat} {c:Array Nat} {e:MapEntry} (hh:w.heap[b]? =some (.mapIter (some r) a (c.push e.born) a)) (g:w.heap[r]? =some (.map d a)) (f:e∈d.toList) (i:(d.toList.map (·.born)).Nodup)
 (h:K (.tuple #[e.key,e.val]) w):X07 P (.pointer (some ⟨b,0,none⟩)) w K:=by
 unfold X07;rw[Y3 (run_entry_at w b r a c d a e hh g f i)];exact h
end Go.Emb
namespace Go.Proofs.Y
open Go.Emb Go.RowKit Go.Kd Go.Hm
variable {w : World} {K : Value -> World -> Prop} {σ : Q2} {v : Value} {l : List Cla}
theorem Vs (o:Option Nat):decide ((0:Int)<=M9 o)=o.isSome:=by
 cases o with
 | none=>rfl
 | some i=>simp[M9]
theorem Q54 {q:Addr} {s:Q8} (c:X1 w σ) (g:Tab σ v l) (f:J7 σ q [v]) (d:s.length<=U9) (h: ∀w' σ',Stp w σ w' σ'->K (.bool (E3 l s)) w'):Y8 P (.func (.func F.ai) #[] #[.pointer (some q)]) [S s] w K:=Z6 (Cy (by
 unfold Up Y0 V5;unfold E3 at h;refine Hl ?_
 by_cases a:s=Yf
 .have e:decide (s=[110,117,108,108])=true:=decide_eq_true a
  simp only[e,decide_eq_true a,↓M2,M2,Mb,reduceIte] at h⊢;exact h _ _ (Stp.refl c)
 .have e:decide (s=[110,117,108,108])=false:=decide_eq_false a
  simp only[e,decide_eq_false a,↓M2,M2,Mb,reduceIte] at h⊢;refine Y4 c f rfl ?_;refine X5p c g d fun w1 σ1 b=>?_
  (try simp only[↓M2,M2,Mb,reduceIte])
  exact h _ _ b))
theorem Q9W {q p:Addr} {s:Q8} (b:X1 w σ) (f:Tab σ v l) (e:J7 σ q [v]) (d:J7 σ p [.func (.func F.ai) #[] #[.pointer (some q)]]) (c:s.length<=U9) (h: ∀w' σ',Stp w σ w' σ'->K (.bool (!E3 l s)) w'):Y8 P (.func (.func F.aj) #[] #[.pointer (some p)]) [S s] w K:=Z6 (Cz (by
 unfold Uq;refine Y4 b d rfl ?_;refine Q54 b f e c fun w1 σ1 a=>?_;refine Ss ?_;exact h _ _ a))
theorem Q99 {c:Cla} {cs:List Value} {pa H:Addr} {b e:Nat} {s:F4×F4} (W:X1 w σ) (Q:W8 σ c cs) (B:Qe c) (U:Nm c) (u:J7 σ pa [.map (some b)]) (y:J7 σ H [.map (some e)])
 (z:σ b=none) (A:σ e=none) (t:b≠e) (i:E9 (w.heap[b]?) (vals s.1)) (j:E9 (w.heap[e]?) (vals s.2))
 (h: ∀w',Kpt (fun k=>k=b\/k=e) w w'->E9 (w'.heap[b]?) (vals (Bo s c).2.1)/\E9 (w'.heap[e]?) (vals (Bo s c).2.2)->K (.bool (Bo s c).1) w'):
 Y8 P (.func (.func F.aQ) #[] #[.pointer (some pa), .pointer (some H)]) [.agg cs.toArray] w K:=Z6 (Ba (by
 obtain ⟨lv,Y,mv,rfl,Z,g2,L,g4,g5⟩:=Q;unfold Ur Y2;refine J1 W fun q w1 σ1 a D=>?_;rw[fa];refine ld a.sat D rfl ?_;rw[Yq];have p:=i.lt;have r:=j.lt;have n:σ1 b=none:=(a.old b p).trans z;have o:σ1 e=none:=(a.old e r).trans A
 refine Ud (Ws c.name) s (fun s w'=>X1 w' σ1/\E9 (w'.heap[b]?) (vals s.1)/\E9 (w'.heap[e]?) (vals s.2)) (fun k=>k=b\/k=e) (fun _ _ h=>h.1) ⟨a.sat,i.of_below a.bel,j.of_below a.bel⟩ (L.up a)
  (fun s x cs J K E f g V C O=>Z6 ?_) fun J f g=>?_
 .refine X6D (s:=s) (d:=c.name) g.1 V (B.2.2.2 x E) (U.2.2 x E) (u.up a) (y.up a) D n o t g.2.1 g.2.2 fun X m M N=>?_
  exact O X (f.trans m) ⟨m.sat g.1 fun k R=>by rcases R with rfl | rfl<;>assumption,M,N⟩
 .exact h J ((Kpt.of_below a.bel).trans f) g.2))
end Go.Proofs.Y
namespace Go.Emb
open Go.RowKit Go.Hm
theorem Stp.nx {D:Nat->Prop} {w w1 f:World} {σ σ1 g:Q2} (a:Stp w σ w1 σ1) (c:Nxt D w1 σ1 f g) (hD: ∀k,D k->w.heap.size<=k):Stp w σ f g:=
 ⟨⟨c.kp.os.trans a.bel.os,c.kp.tape.trans a.bel.tape,c.kp.output.trans a.bel.output,Nat.le_trans a.bel.size c.kp.size,fun k d=>(c.kp.block k (Nat.lt_of_lt_of_le d a.bel.size) fun e=>by have:=hD k e;omega).trans (a.bel.block k d)⟩,
  c.sat,fun b o e=>c.le.le b o (a.le b o e),fun k d=>(c.old k (Nat.lt_of_lt_of_le d a.bel.size)).trans (a.old k d)⟩
end Go.Emb
namespace Go.Hm
open Go.Kd Go.Emb
theorem X4H {d:Array MapEntry} {m:F4} (h:d.toList.map (fun e=>(e.key,e.val))=(vals m).map (fun p=>(S p.1,p.2))):
 (∀e∈d.toList,∃k,e.key=S k/\(B5 m k).isSome=true)/\ ∀k,(B5 m k).isSome=true-> ∃e∈d.toList,e.key=S k:=by
 have c: ∀(m:F4) k,(B5 m k).isSome=true↔k∈m.map (·.1):=by
  intro m
  induction m with
  | nil=>intro k;simp[B5]
  | cons p r n=>
   intro k;simp only[B5,List.map_cons,List.mem_cons]
   by_cases e:p.1=k
   .simp[e]
   .rw[if_neg e,n k]
    constructor
    .exact .inr
    .rintro (h | h)
     .exact absurd h.symm e
     .exact h
 constructor
 .intro e f
  have b:(e.key,e.val)∈d.toList.map (fun e=>(e.key,e.val)):=List.mem_map.2 ⟨e,f,rfl⟩;rw[h] at b;obtain ⟨p,j,a⟩:=List.mem_map.1 b;obtain ⟨q,g,rfl⟩:=List.mem_map.1 j;simp only[Prod.mk.injEq] at a;exact ⟨q.1,a.1.symm,(c m _).2 (List.mem_map.2 ⟨q,g,rfl⟩)⟩
 .intro k i
  obtain ⟨q,g,rfl⟩:=List.mem_map.1 ((c m k).1 i);have b:(S q.1,S q.2)∈(vals m).map (fun p=>(S p.1,p.2)):=List.mem_map.2 ⟨(q.1,S q.2),List.mem_map.2 ⟨q,g,rfl⟩,rfl⟩;rw[<-h] at b;obtain ⟨e,f,a⟩:=List.mem_map.1 b;simp only[Prod.mk.injEq] at a;exact ⟨e,f,a.1⟩
def Ho (l:List Cla) (m:Hm.Met):Bool:=(!E3 l m.result&& !decide (m.result=[]))||m.params.any fun s=> !E3 l s
end Go.Hm
namespace Go.Proofs.Y
open Go.Emb Go.RowKit Go.Kd Go.Hm
variable {w : World} {K : Value -> World -> Prop} {σ : Q2} {v : Value} {l : List Cla}
set_option maxRecDepth 9999 in
set_option maxHeartbeats 1000000 in
theorem X1j {c:Cla} {cs:List Value} (hs:X1 w σ) (ht:Tab σ v l) (ok:Ok l) (hc:W8 σ c cs) (fi:Qe c) (hn:Nm c) (h: ∀w' W,Stp w σ w' W->K (I (L2 l c)) w'):Q0 P F.b1 [v, .agg cs.toArray] w K:=Gt (by
 obtain ⟨lv,fv,mv,rfl,g1,g2,g3,g4,g5⟩:=hc;unfold Lb;simp only[M4,M8];unfold J5 Y2 Z5 U4 X7 X5 V5 X2;obtain ⟨a,_,_,_,hv,_⟩:=ht.ex;unfold L2 at h;refine V4 hs (by rw[hv];rfl) fun q2 w1 σ1 a4 y=>?_
 refine J1 a4.sat fun q3 w2 σ2 aq A=>?_;have dz:=a4.trans aq;have y:=y.up aq;have g1:=(g1.up a4).up aq;have g2:=(g2.up a4).up aq;have g3:=(g3.up a4).up aq;have a6:=g2.max;have cd:=g3.max;rw[fa];refine ld aq.sat A rfl ?_;refine Q6 g2 ?_;refine U8 c.fields.length (fun n w'=> ∃W,Stp w σ w' W/\SLe σ2 W/\((c.fields.take n).any fun f=>(De l c.super f.name).isSome)=false) ⟨σ2,dz,SLe.refl _,by simp⟩ fun n w3 d a7 ag=>?_
 obtain ⟨σ3,ay,cg,H⟩:=ag;refine Z4 ?_;refine Q3 (fun hh=>?_) (fun hh=>?_)
 .have g:n<c.fields.length:=by simpa using hh
  refine Q4l (g2.lift cg) g fun p ar Z=>?_;refine Z8 ay.sat ar rfl ?_;refine Z0 ay.sat (by rfl) rfl (Rep.one Z) fun q4 w4 σ4 V ec=>?_
  have aa:SLe σ2 σ4:=cg.more ⟨V.le⟩;have az:=ay.trans V;refine Y4 V.sat (y.lift aa) rfl ?_;rw[fa];refine ld V.sat (A.lift aa) rfl ?_;rw[fa];refine ld V.sat ec rfl ?_;refine X47 V.sat (ht.lift ⟨az.le⟩) ok.acy ok.len ok.sm fun w5 σ5 cb=>?_;refine Yg ?_;rw[Vs];refine Q3 (fun al=>?_) (fun al=>?_)
  .have:Zq l c=true:=I5 g al
   rw[if_pos this] at h;exact h _ _ (az.trans cb)
  .refine H8 ?_
   refine Y9 a6 g ⟨σ5,az.trans cb,aa.more ⟨cb.le⟩,?_⟩;rw[D6 g,H,al];rfl
 have g: ¬n<c.fields.length:=by simpa using hh
 rw[C0 g] at H;have d9:Zq l c=false:=H;rw[if_neg (by rw[d9];simp)] at h
 rw[Yq];clear H hh g a7;refine U7 ay.sat (by rfl) rfl rfl fun q7 w4 σ4 V a9=>?_
 have aa:SLe σ2 σ4:=cg.more ⟨V.le⟩;have az:=ay.trans V;have y:=y.lift aa;have A:=A.lift aa;have g1:=g1.lift aa;have g2:=g2.lift aa;have g3:=g3.lift aa;rw[fa];refine ld V.sat A rfl ?_;refine Q6 g2 ?_;refine U8 c.fields.length (fun n w'=> ∃W,Stp w σ w' W/\SLe σ4 W/\((c.fields.take n).any fun f=> !E3 l f.kind)=false) ⟨σ4,az,SLe.refl _,by simp⟩ fun n w5 d a7 ag=>?_
 obtain ⟨σ5,a0,av,H⟩:=ag;refine Z4 ?_;refine Q3 (fun hh=>?_) (fun hh=>?_)
 .have g:n<c.fields.length:=by simpa using hh
  refine Q4l (g2.lift av) g fun p ar Z=>?_;refine Z8 a0.sat ar rfl ?_;refine Z0 a0.sat (by rfl) rfl (Rep.one Z) fun q9 w6 σ6 a5 ed=>?_
  have aj:SLe σ4 σ6:=av.more ⟨a5.le⟩;have Q:=a0.trans a5;refine Y4 a5.sat (a9.lift aj) rfl ?_;rw[fa];refine ld a5.sat ed rfl ?_;refine Q54 a5.sat (ht.lift ⟨Q.le⟩) (y.lift aj) Z.2.2 fun w7 σ7 E=>?_;refine Ss ?_;refine Q3 (fun al=>?_) (fun al=>?_)
  .have:F7 l c=true:=by
    unfold F7;rw[I5 (p:=fun f:Fld=> !E3 l f.kind) g al];rfl
   rw[if_pos this] at h;exact h _ _ (Q.trans E)
  .refine H8 ?_
   refine Y9 a6 g ⟨σ7,Q.trans E,aj.more ⟨E.le⟩,?_⟩;rw[D6 g,H,al];rfl
 have g: ¬n<c.fields.length:=by simpa using hh
 rw[C0 g] at H;have d6:=H;clear H hh g a7;have y:=y.lift av;have A:=A.lift av;have a9:=a9.lift av;have g3:=g3.lift av;rw[fa];refine ld a0.sat A rfl ?_;refine Q6 g3 ?_;refine U8 c.methods.length (fun n w'=> ∃W,Stp w σ w' W/\SLe σ5 W/\((c.methods.take n).any (Ho l))=false) ⟨σ5,a0,SLe.refl _,by simp⟩ fun n w6 d a7 ag=>?_
 obtain ⟨σ6,Q,aj,H⟩:=ag;refine Z4 ?_;refine Q3 (fun hh=>?_) (fun hh=>?_)
 .have g:n<c.methods.length:=by simpa using hh
  refine N0 (g3.lift aj) g fun p cells ar c4 Z=>?_;refine Z8 Q.sat ar c4 ?_;refine Z0 Q.sat (by rfl) c4 (Rep.one Z) fun fm w7 σ7 E Y=>?_
  obtain ⟨pv,cv,fk,rfl,m1,m2,m3,m4,m5,m6⟩:=Z;have ch:SLe σ5 σ7:=aj.more ⟨E.le⟩;have cx:=Q.trans E
  have D:Ho l c.methods[n]=true-> ∀{w8:World} {σ8:Q2},Stp w σ w8 σ8->K (.int .i64 65) w8:=fun hb w8 σ8 q=>by
   have:F7 l c=true:=by
    unfold F7;have:=I5 (p:=Ho l) g hb;unfold Ho at this;rw[this,Bool.or_true]
   rw[if_pos this] at h;exact h _ _ q
  have z:Ho l c.methods[n]=false-> ∀{w8:World} {σ8:Q2},Stp w σ w8 σ8->SLe σ5 σ8->UpI c.methods.length (fun n w'=> ∃W,Stp w σ w' W/\SLe σ5 W/\((c.methods.take n).any (Ho l))=false) (.int .i64 (IntKind.i64.wrap (n+1))) w8/\UpM c.methods.length (.int .i64 (IntKind.i64.wrap (n+1)))<UpM c.methods.length (I n):=fun hb w8 σ8 q ab=>
   Y9 cd g ⟨σ8,q,ab,by rw[D6 g,H,hb];rfl⟩
  unfold Ho at D z;refine Y4 E.sat (a9.lift ch) rfl ?_;rw[fa];refine ld E.sat Y rfl ?_;refine Q54 E.sat (ht.lift ⟨cx.le⟩) (y.lift ch) m5 fun w8 σ8 M=>?_;have q:=cx.trans M;have ab:SLe σ5 σ8:=ch.more ⟨M.le⟩;have Y:=Y.up M;have m1:=(m1.up E).up M
  -- what the parameters come to
  have bx: ∀{w8:World} {σ8:Q2} {K:Value->World->Prop},Stp w σ w8 σ8->SLe σ5 σ8->Sl 1 V3 σ8 pv c.methods[n].params->(∀w' W,Stp w8 σ8 w' W->K (.bool (c.methods[n].params.any fun s=> !E3 l s)) w')->Q0 P F.c [pv, .func (.func F.aj) #[] #[.pointer (some q7)]] w8 K:=by
   intro w8 σ8 K q ab m1 hK;refine T4 (fun s=> !E3 l s) q.sat m1 (fun x w9 K _ eg hx dy=>Q9W eg (ht.lift ⟨q.le⟩) (y.lift ab) (a9.lift ab) hx fun w' W hk=>dy w' hk.bel) fun w9 hb=>hK w9 σ8 (Stp.of_below q.sat hb)
  cases e1:E3 l c.methods[n].result with
  | true=>
   rw[e1] at D z;simp only[↓M2,M2,Mb,reduceIte];refine ld M.sat Y rfl ?_
   (try simp only[↓M2,M2,Mb,reduceIte])
   refine bx q ab m1 fun w9 σ9 J=>?_;cases e2:c.methods[n].params.any fun s=> !E3 l s with
   | true=>
    rw[e2] at D;simp only[↓M2,M2,Mb,reduceIte];exact D rfl (q.trans J)
   | false=>
    rw[e2] at z;simp only[↓M2,M2,Mb,reduceIte];exact z rfl (q.trans J) (ab.more ⟨J.le⟩)
  | false=>
   rw[e1] at D z;simp only[↓M2,M2,Mb,reduceIte];refine ld M.sat Y rfl ?_;simp only[↓M2,M2,Mb,reduceIte]
   by_cases e3:c.methods[n].result=[]
   .rw[decide_eq_true e3] at D z
    simp only[decide_eq_true e3,↓M2,M2,Mb,reduceIte];refine ld M.sat Y rfl ?_
    (try simp only[↓M2,M2,Mb,reduceIte])
    refine bx q ab m1 fun w9 σ9 J=>?_;cases e2:c.methods[n].params.any fun s=> !E3 l s with
    | true=>
     rw[e2] at D;simp only[↓M2,M2,Mb,reduceIte];exact D rfl (q.trans J)
    | false=>
     rw[e2] at z;simp only[↓M2,M2,Mb,reduceIte];exact z rfl (q.trans J) (ab.more ⟨J.le⟩)
   .rw[decide_eq_false e3] at D
    simp only[decide_eq_false e3,↓M2,M2,Mb,reduceIte];exact D rfl q
 have g: ¬n<c.methods.length:=by simpa using hh
 rw[C0 g] at H
 have ce:F7 l c=false:=by
  unfold F7;unfold Ho at H;rw[d6,H];rfl
 rw[if_neg (by rw[ce];simp)] at h
 clear H hh g a7;have y:=y.lift aj;have A:=A.lift aj;refine Q4q Q.sat fun r1 w7 Z E t=>?_;refine Q4q E.sat fun N w8 ee M u=>?_;have ar:=t.lt;have t:=t.up M;have eb:r1≠N:=by omega
 have q:=(Q.trans E).trans M;have eu:w.heap.size<=r1:=Nat.le_trans Q.bel.size Z;have ew:w.heap.size<=N:=Qk ee (Q.trans E);refine I4 M.sat fun b1 w9 σ9 d1 J B=>?_;refine I4 J.sat fun b2 ei fy d2 ah C=>?_;have ep:=B.lt;have er:=t.lt;have et:=u.lt;have t:=(t.up J).up ah;have u:=(u.up J).up ah;have B:=B.up ah;have cr:=(q.trans J).trans ah;have bs:w.heap.size<=b1:=Qk d1 q;have bu:w.heap.size<=b2:=Qk d2 (q.trans J);refine st0 B (by simp[Value.cells]) rfl rfl fun dm ci B=>?_
 have ct:=ci.stp cr bs B.1;have C:=C.upd ci Q4;have dc:Kpt (fun k=>k=b1) ei dm:=Kpt.of_upd ci rfl;have t:=t.kp dc Q4;have u:=u.kp dc Q4;refine st0 C (by simp[Value.cells]) rfl rfl fun aw cj C=>?_
 have cu:=cj.stp ct bu C.1;have B:=B.upd cj Q4;have de:Kpt (fun k=>k=b2) dm aw:=Kpt.of_upd cj rfl;have t:=t.kp de Q4;have u:=u.kp de Q4;obtain ⟨ck,cw,a1,dh,am⟩:=B.keep cu bs;have C:U6 ck aw b2 _:=⟨(am b2 Q4).trans C.1,C.2⟩;have t:B4 ck aw r1 []:=⟨(am r1 Q4).trans t.1,t.2⟩;have u:B4 ck aw N []:=⟨(am N Q4).trans u.1,u.2⟩;obtain ⟨be,ae,bi,b3,bc⟩:=C.keep cw bu;have t:B4 be aw r1 []:=⟨(bc r1 Q4).trans t.1,t.2⟩;have u:B4 be aw N []:=⟨(bc N Q4).trans u.1,u.2⟩;have a1:=a1.le b3;have a1:J7 be ⟨b1,0,none⟩ [.map (some r1)]:=a1;have bi:J7 be ⟨b2,0,none⟩ [.map (some N)]:=bi;have di:SLe σ6 be:=⟨fun b o e=>b3 b o (dh b o (ah.le b o (J.le b o (M.le b o (E.le b o e)))))⟩;clear B C;have y:=y.lift di;have A:=A.lift di;refine Y4 ae.sat y rfl ?_;rw[fa];refine ld ae.sat A rfl ?_;rw[Yq]
 refine Q9H Bo ([],[]) (fun s w'=>E9 (w'.heap[r1]?) (vals s.1)/\E9 (w'.heap[N]?) (vals s.2)) (fun k=>k=r1\/k=N) ae.sat (ht.lift ⟨ae.le⟩) ok.len ok.sm g4
  (fun k hk=>by rcases hk with rfl | rfl;exact ⟨t.lt,t.1⟩;exact ⟨u.lt,u.1⟩) (fun s wa wb hi hk=>by rw[hk r1 (.inl rfl),hk N (.inr rfl)];exact hi) ⟨t.2,u.2⟩
  (fun s d ds wa σa K le eh c7 hi hr d3 hK=>?_) fun fp cl ai bv=>?_
 .have c0:=(L5 d3).2.1
  exact Q99 eh hr (ok.sm d c0) (ok.nm d c0) (a1.lift le) (bi.lift le) (c7 r1 (.inl rfl)) (c7 N (.inr rfl)) eb hi.1 hi.2 hK
 have O:=ae.nx ai fun k hk=>by rcases hk with rfl | rfl<;>assumption
 obtain ⟨dj,dl⟩:=Q4J (Nf l c.name) [] ([],[]) 0 X5Q;rw[List.nil_append,<-Q9O] at dj dl;cases c8:(U1 Bo ([],[]) (Nf l c.name) 0).1.isSome with
 | true=>
  have:Jq l c=true:=(Q6d _).2 (dj c8);rw[if_pos this] at h;refine W7 ?_;exact h _ _ O
 | false=>
  have bm:=dl c8
  have:Jq l c=false:=by
   cases e:Jq l c with
   | false=>rfl
   | true=>exact absurd ((Q6d _).1 e) bm.no
  rw[if_neg (by rw[this];simp)] at h
  refine L1 ?_;have y:=y.lift ai.le;have A:=A.lift ai.le;rw[fa];refine ld O.sat A rfl ?_;unfold Ew at h;cases cy:c.abs with
  | true=>
   rw[cy] at h;refine W7 ?_;exact h _ _ O
  | false=>
   rw[cy] at h;simp only[Bool.not_false,Bool.true_and] at h;refine L1 ?_;refine Y4 O.sat (bi.lift ai.le) rfl ?_;generalize fj:(U1 Bo ([],[]) (Nf l c.name) 0).2=st at bm bv;obtain ⟨es,ak,e1,e2,e3,e4⟩:=bv.2;have db:cl N=none:=(ai.old N u.lt).trans u.1;obtain ⟨df,dg⟩:=X4H e2;refine X6P (tm:=inferInstance) O.sat e1 fun ib fq ek d4 ao d5=>?_;have b0:=(Array.getElem?_eq_some_iff.1 e1).1
   refine Q2s (fun d _ w'=> ∃(W:Q2) (U:Array Nat),d=es.toList.countP (fun e=> !U.contains e.born)/\Stp w σ w' W/\SLe cl W/\W N=none/\w'.heap[N]? =some (.map es ak)/\It W w' ib N es ak U/\ ∀e∈es.toList,e.born∈U-> ∀k,e.key=S k->Jk l c.name k=false) _
    ⟨ek, #[],rfl,O.trans ao,⟨ao.le⟩,(ao.old N b0).trans db,(ao.bel.block N b0).trans e1,d5,by simp⟩ ?_
   rintro b4 d x dd fr ⟨dq,U,rfl,br,ap,c9,a2,a3,a8⟩ d0;have c3:w.heap.size<=ib:=Nat.le_trans O.bel.size d4;refine X6N a3 a2 e4 (fun cz=>?_) fun e dn bk ba bw b9 c2=>?_
   .refine J0 (vs:=[_]) rfl ?_
    refine L1 ?_
    have:((Ly l c.name).any fun m=>Jk l c.name m.name)=false:=by
     rw[List.any_eq_false];intro m hm;obtain ⟨e,he,bl⟩:=dg m.name ((bm.c m.name).2 ⟨m,hm,rfl⟩);rw[a8 e he (cz e he) _ bl];simp
    rw[this] at h;exact h _ _ br
   .refine J0 (vs:=[_,_,_]) rfl ?_
    refine W7 ?_
    have an:dn.heap[N]? =some (.map es ak):=by
     rw[bw.block N (Array.getElem?_eq_some_iff.1 a2).1 Q4];exact a2
    have b8:=a3.1;have af:Stp w σ dn dq:=br.kp bw fun k hk=>by rw[hk];exact ⟨c3,b8⟩
    refine X6d c2 an bk (e3.imp fun cc=>Nat.ne_of_lt cc) ?_;refine J0 (vs:=[_,_]) rfl ?_;obtain ⟨k,bl,d7⟩:=df e bk;have e6:SLe cl dq:=ap;refine Y4 af.sat (y.lift ap) rfl ?_;rw[fa];refine ld af.sat (A.lift ap) rfl ?_;rw[bl];refine X2t af.sat (ht.lift ⟨af.le⟩) ok fun pv cv hv fs fz L da=>?_;refine J0 (vs:=[_,_,_]) rfl ?_;refine J0 (vs:=[_,_,_]) rfl ?_;refine J0 (vs:=[_,_,_]) rfl ?_;refine Z0 L.sat (by rfl) rfl (Rep.one da) fun fn ej el X bz=>?_
    have ax:=(af.trans L).trans X
    have R:Jk l c.name k=true-> ∀{w8:World} {σ8:Q2},Stp w σ w8 σ8->K (.int .i64 67) w8:=fun hb w8 σ8 q=>by
     obtain ⟨m,hm,ce⟩:=(bm.c k).1 d7;have:((Ly l c.name).any fun m=>Jk l c.name m.name)=true:=List.any_eq_true.2 ⟨m,hm,by rw[ce];exact hb⟩
     rw[this] at h;exact h _ _ q
    have b7:Jk l c.name k=false->b4 () ej:=fun hb=>by
     have c5: ∀e':MapEntry,e'.born∈U.push e.born↔e'.born∈U\/e'.born=e.born:=fun e'=>by simp
     refine d0 _ _ _ ?_ ⟨el,U.push e.born,rfl,ax,ap.more ⟨fun b o h=>X.le _ _ (L.le _ _ h)⟩,?_,?_,(b9.step L).step X,fun e' c1 ef k' ca=>?_⟩
     .refine Q5P (fun x _ hx=>?_) ⟨e,bk,?_,?_⟩
      .simp only[Bool.not_eq_true',Array.contains_push,Bool.or_eq_false_iff] at hx⊢
       exact hx.1
      .simpa using ba
      .simp
     .have bb:=(Array.getElem?_eq_some_iff.1 an).1
      rw[X.old N (Nat.lt_of_lt_of_le bb L.bel.size),L.old N bb];exact c9
     .have bb:=(Array.getElem?_eq_some_iff.1 an).1
      rw[X.bel.block N (Nat.lt_of_lt_of_le bb L.bel.size),L.bel.block N bb];exact an
     .rcases (c5 e').1 ef with h1 | h1
      .exact a8 e' c1 h1 k' ca
      .have:e'=e:=by
        have ea:(es.toList.map (·.born)).Nodup:=e3.imp fun cc=>Nat.ne_of_lt cc;obtain ⟨i,hi,rfl⟩:=List.getElem_of_mem c1;obtain ⟨j,hj,rfl⟩:=List.getElem_of_mem bk;have h5:(es.toList.map (·.born))[i]'(by simpa using hi)=(es.toList.map (·.born))[j]'(by simpa using hj):=by simpa using h1
        have:=(List.getElem_inj ea).1 h5;subst this;rfl
       subst this;rw[bl] at ca
       have:k=k':=by
        have:=ca
        simp at this
        exact this
       rw[<-this];exact hb
    unfold Jk at R b7;cases c6:W5 l c.name k with
    | none=>
     rw[c6] at R;simp only[↓M2,M2,Mb,reduceIte,Option.isSome_none];exact R rfl ax
    | some r=>
     rw[c6] at R b7 bz;simp only[↓M2,M2,Mb,reduceIte,Option.isSome_some];refine ld X.sat bz rfl ?_
     (try simp only[↓M2,M2,Mb,reduceIte])
     cases bn:r.2.abs with
     | true=>
      exact Q3 (fun _=>R bn ax) (fun e=>absurd (bn.symm.trans e) U5)
     | false=>
      exact Q3 (fun e=>absurd (bn.symm.trans e) U5) (fun _=>b7 bn))
end Go.Proofs.Y
namespace Go.Emb
open Go.RowKit Go.Hm
variable {P : Program} {w w' : World} {K : Value -> World -> Prop} {σ : Q2}
theorem X6I {t e:TypeId} {n a:Nat} {z:Value} [ta:TA P t n e] [tz:TZ P e 1 a z] [tg:TG P e false] {cs:List Value} {i:Nat} {v:Value} (d:i<n) (c:cs[i]? =some v) (h:K v w):B3 P t (.agg cs.toArray) (I i) w K:=by
 unfold B3;have b:(0:Int)<=i/\(i:Int)<n:=⟨by omega,by omega⟩
 rw[Y3 (v:=v) (w':=w) (by
  simp only[Instr.index,asIntOf,Sem.run_bind,Sem.run_pure,Result.andThen_ok,run_underlying ta.h,b,and_self,if_true,O3 tz,part,Yz tg]
  simp[c])]
 exact h
theorem Q9N {α:Type} {R:Q2->α->List Value->Prop} {B sz:Nat} {e:TypeId} {v:Value} {xs:List α} {a t:TypeId} {cs:List Bool} [ts:TS P a e] (h:W1 B e sz R σ w v xs) (b:K (I xs.length) w):V9 P .len [a] t cs [v] w K:=Sh (U0.of_acc h) b
theorem Q5F {α:Type} {R:Q2->α->List Value->Prop} {B sz:Nat} {e:TypeId} {v:Value} {xs:List α} (h:W1 B e sz R σ w v xs):v.cells= #[v]/\v.oneCell'=true:=by
 obtain ⟨cells,c,_⟩:=h
 rcases c.2 with ⟨rfl,_⟩ | ⟨g,a,b,rfl,_⟩<;>exact ⟨rfl,rfl⟩
end Go.Emb
namespace Go.Proofs.Y
open Go.Emb Go.RowKit Go.Kd Go.Hm
variable {w : World} {K : Value -> World -> Prop} {σ : Q2} {v : Value}
theorem X45 (C:X1 w σ) (A:Glb σ) (h: ∀u w' σ',Stp w σ w' σ'->W1 w.heap.size T.a 8 W8 σ' w' u T6->K u w'):Q0 P F.cC [] w K:=Q7U (by
 unfold Q1m X5;refine W2 (cells:= #[S L8,S [], .slice none 0 0, .bool false, .bool false, .bool false, .slice none 0 0, .slice none 0 0]) X3 ?_;refine W2 (cells:= #[S Lr,S B7, .bool false]) X3 ?_;refine H0 (R:=C5) (sz:=3) C [.agg #[S Lr,S B7, .bool false]] [⟨Lr,B7,false⟩] rfl rfl (by simp;rfl) rfl ⟨⟨rfl,by decide,by decide⟩,trivial⟩ fun H w1 σ1 e o=>?_
 have p:=o;obtain ⟨y,b,rfl,_⟩:=p;refine W2 (cells:= #[S E8,S L8, .slice none 0 0, .bool false, .bool false, .bool false, .slice y 1 b, .slice none 0 0]) X3 ?_
 refine Yh (R:=W8) (sz:=8) e [.agg #[S L8,S [], .slice none 0 0, .bool false, .bool false, .bool false, .slice none 0 0, .slice none 0 0], .agg #[S E8,S L8, .slice none 0 0, .bool false, .bool false, .bool false, .slice y 1 b, .slice none 0 0]]
  [⟨L8,[],[],false,false,false,[],[]⟩,⟨E8,L8,[],false,false,false,[⟨Lr,B7,false⟩],[]⟩] rfl rfl (by simp;exact ⟨rfl,rfl⟩) rfl
  ⟨⟨_,_,_,rfl,Sl.nil,Sl.nil,Sl.nil,by decide,by decide⟩,⟨_,_,_,rfl,Sl.nil,o,Sl.nil,by decide,by decide⟩,trivial⟩ fun J L k i _=>?_
 have t:=A.lift ⟨e.le⟩;refine Z8 (cs:=V6.map S) k.sat t.flt rfl ?_;refine O7 6 (fun n a w'=> ∃σ',Stp w σ w' σ'/\W1 w.heap.size T.a 8 W8 σ' w' a ([⟨L8,[],[],false,false,false,[],[]⟩,⟨E8,L8,[],false,false,false,[⟨Lr,B7,false⟩],[]⟩]++(V6.take n).map fun n=>⟨n,E8,[],false,false,true,[],[]⟩)) ⟨σ1,e.trans k,i⟩ fun n a M d E j=>?_;obtain ⟨O,g,c⟩:=j;have z:V6.length=6:=rfl;refine Z4 ?_;refine Q3 (fun hh=>?_) (fun hh=>?_)
 .have f:n<6:=by have:=of_decide_eq_true hh;omega
  refine X6I (v:=S (V6[n]'(by omega))) f (by rw[List.getElem?_map,List.getElem?_eq_getElem Q4];rfl) ?_
  refine W2 (cells:= #[S (V6[n]'(by omega)),S E8, .slice none 0 0, .bool false, .bool false, .bool true, .slice none 0 0, .slice none 0 0]) X3 ?_
  have m:(V6[n]'(by omega)).length<=10:=by
   have: ∀x∈V6,x.length<=10:=by decide
   exact this _ (List.getElem_mem _)
  refine Za (x:=⟨V6[n]'(by omega),E8,[],false,false,true,[],[]⟩) g c ⟨_,_,_,rfl,Sl.nil,Sl.nil,Sl.nil,Nat.le_trans m M5,(by decide:E8.length<=U9)⟩ rfl rfl rfl (by simp;omega) (by simp;omega) fun s u N D B q r _=>?_
  refine H8 ?_;refine Z9 Q4 f ⟨D,q,?_⟩;rw[List.take_add_one,List.getElem?_eq_getElem Q4,List.map_append,<-List.append_assoc];exact r
 .have f: ¬n<6:=by have:=of_decide_eq_false hh;omega
  rw[List.take_of_length_le Q4] at c;exact h _ _ _ g c)
end Go.Proofs.Y
namespace Go.Hm
open Go.Kd
def D2 {α:Type} (f:α->Int):List α->Nat->Option (Nat×Int)
 | [],_=>none
 | x::r,i=>if f x=0 then D2 f r (i+1) else some (i,f x)
theorem T8 {α:Type} {f:α->Int}: ∀{l:List α} {i:Nat},D2 f l i=none-> ∀x∈l,f x=0
 | [],_,_=>by simp
 | x::r,i,h=>by
  simp only[D2] at h
  split at h
  .rename_i a
   intro y hy
   rcases List.mem_cons.1 hy with rfl | hy
   .exact a
   .exact T8 h y hy
  .cases h
def Cd (a:List Cla):Option Nat:=(List.range a.length).find? fun i=>(Z7 (a.take i) (Y7 a i)).isSome
def Q5 (l:List Cla):List Cla:=T6++l
def Cs (a:Cla->Int) (l:List Cla):Option (Int×Int):=match D2 a l 0 with
 | some (i,e)=>some (i,e)
 | none=>match Cd (Q5 l) with
  | some i=>some ((i:Int)-8,60)
  | none=>match D2 (fun c=>(E4 (Q5 l) c:Int)) l 0 with
   | some (i,e)=>some (i,e)
   | none=>match l.findIdx? (A0 (Q5 l)) with
    | some i=>some (i,63)
    | none=>match (L3 (Q5 l) 8).find? fun j=> !decide (L2 (Q5 l) ((Q5 l).getD j Cla.zero)=0) with
     | some j=>some ((j:Int)-8,L2 (Q5 l) ((Q5 l).getD j Cla.zero))
     | none=>none
theorem Q3F {s:Q8} (h:name s=true):s.length<=32:=by
 cases s with
 | nil=>simp
 | cons c r=>simp only[name,Bool.and_eq_true,decide_eq_true_eq] at h;exact h.1.1
theorem X2H {s:Q8} (h:O6 s=true):s.length<=32:=Q3F (Vc (by rw[h,Bool.or_true]))
theorem X0m {s:Q8} (h:D3 s=true):s.length<=32:=by
 cases s with
 | nil=>simp
 | cons c r=>simp only[D3,Bool.and_eq_true] at h;exact Q3F h.1
theorem Tq {a:List Cla} (h:Cd a=none):A9 a:=by
 unfold Cd at h;rw[List.find?_eq_none] at h;unfold A9;rw[List.nodup_iff_pairwise_ne,List.pairwise_iff_getElem];intro i j g b k e;simp only[List.length_map] at g b;have:=h j (by simp;exact b)
 apply this;simp only[List.getElem_map] at e;cases f:Z7 (a.take j) (Y7 a j) with
 | some _=>rfl
 | none=>
  have c:=List.findIdx?_eq_none_iff.1 f a[i] (List.mem_take_iff_getElem.2 ⟨i,by omega,rfl⟩)
  have d:Y7 a j=a[j].name:=by unfold Y7;rw[List.getD_eq_getElem?_getD,List.getElem?_eq_getElem b];rfl
  rw[d] at c
  simp[e] at c
theorem Mt: ∀c∈T6,Qe c/\Nm c/\c.like=[]:=by
 have h: ∀c∈T6,(c.like=[]/\c.methods=[]/\c.fields.length<=1/\c.name.length<=100/\ ∀f∈c.fields,f.name.length<=100/\f.kind.length<=100):=by decide
 intro c g;obtain ⟨b,a,i,d,e⟩:=h c g;refine ⟨⟨by rw[b];simp,by omega,by rw[a];simp,by rw[a];simp⟩,⟨d,e,by rw[a];simp⟩,b⟩
theorem X2R: ∀c∈T6,(c.name=L8/\V8 c=[[]])\/(c.name=E8/\V8 c=[L8])\/(c.name∈V6/\V8 c=[E8]):=by decide
theorem Q6V {l:List Cla} (o:A9 (Q5 l)) (y: ∀c∈l,c.name≠[]) (w: ∀c∈l,A0 (Q5 l) c=false):Zc (Q5 l):=by
 have k:lk (Q5 l) []=none:=by
  cases h:lk (Q5 l) [] with
  | none=>rfl
  | some c=>
   obtain ⟨e,hm,_⟩:=L5 h
   rcases List.mem_append.1 hm with hm | hm
   .have: ∀c∈T6,c.name≠[]:=by decide
    exact absurd e (this c hm)
   .exact absurd e (y c hm)
 have j:lk (Q5 l) L8=some ⟨L8,[],[],false,false,false,[],[]⟩:=o.lk (c:=⟨L8,[],[],false,false,false,[],[]⟩) (List.mem_append_left _ (by decide))
 have g:lk (Q5 l) E8=some ⟨E8,L8,[],false,false,false,[⟨Lr,B7,false⟩],[]⟩:=o.lk (c:=⟨E8,L8,[],false,false,false,[⟨Lr,B7,false⟩],[]⟩) (List.mem_append_left _ (by decide))
 have p: ∀b,¬Reach (lk (Q5 l)) [] b:=fun b h=>by obtain ⟨c,d⟩:=h.left;rw[k] at d;cases d
 have q: ∀b,Reach (lk (Q5 l)) L8 b->b=L8:=by
  intro b h;cases h with
  | refl=>rfl
  | step d f i=>
   rw[j] at d;cases d
   simp[V8] at f;subst f
   exact absurd i (p b)
 have z: ∀b,Reach (lk (Q5 l)) E8 b->b=E8\/b=L8:=by
  intro b h;cases h with
  | refl=>exact .inl rfl
  | step d f i=>
   rw[g] at d;cases d
   simp[V8] at f;subst f
   exact .inr (q b i)
 rintro a ⟨c,d,u,f,i⟩;obtain ⟨e,hm,_⟩:=L5 d
 rcases List.mem_append.1 hm with hm | hm
 .rcases X2R c hm with ⟨m,n⟩ | ⟨m,n⟩ | ⟨m,n⟩<;>rw[n] at f<;>simp at f<;>subst f
  .exact p _ i
  .have:=q _ i
   rw[<-e,m] at this;exact absurd this (by decide)
  .have s: ∀x∈V6,x≠E8/\x≠L8:=by decide
   obtain ⟨t,v⟩:=s _ m;rw[<-e] at i
   rcases z _ i with h | h
   .exact t h
   .exact v h
 .have:=w c hm
  unfold A0 at this;have r:=List.any_eq_false.1 this u f;apply r;rw[List.contains_iff_mem,Wa,e];exact i
end Go.Hm
namespace Go.Proofs.Y
open Go.Emb Go.RowKit Go.Kd Go.Hm
theorem Q5v {s:Q8} (h:right s=true):s.length<=38:=by
 simp only[right,Bool.and_eq_true,decide_eq_true_eq] at h;have e:=Q2e s
 have:(base s).1.length<=32:=by
  have d:=h.2;have b:=Vc d;cases a:(base s).1 with
  | nil=>simp
  | cons c r=>
   rw[a] at b;simp only[name,Bool.and_eq_true,decide_eq_true_eq] at b;exact b.1.1
 omega
theorem Gh {c:Cla} (h:E2 c=0):Qe c/\Nm c/\c.name≠[]:=by
 unfold E2 at h
 split at h
 .cases h
 .rename_i b
  split at h
  .rename_i j
   simp only[Jr,Bool.or_eq_true,decide_eq_true_eq,not_or,List.any_eq_true,not_exists,not_and] at b;obtain ⟨⟨⟨k,s⟩,t⟩,u⟩:=b;simp only[Ro,Bool.and_eq_true] at j;obtain ⟨⟨⟨⟨⟨⟨⟨⟨o,v⟩,w⟩,y⟩,z⟩,A⟩,B⟩,q⟩,r⟩:=j;have a:O6 c.name=true:=List.all_eq_true.1 o c.name U5
   have d: ∀m∈c.methods,m.params.length<=32/\m.catches.length<=32/\m.code.length<=200:=fun m b=>by
    have:=k m b;simp only[Lq,Bool.or_eq_true,decide_eq_true_eq,not_or] at this;omega
   refine ⟨⟨by omega,by omega,by omega,fun m b=>by have:=d m b;unfold SmM;omega⟩,⟨by have:=X2H a;omega,fun f l=>?_,fun m b=>?_⟩,fun e=>by rw[e] at a;simp[O6] at a⟩
   .have:=List.all_eq_true.1 q f l
    simp only[Ce,Bool.and_eq_true] at this;have g:=X0m this.1;have i:=Q5v this.2;omega
   .have:=List.all_eq_true.1 r m b
    simp only[T7,Bool.and_eq_true,Bool.or_eq_true,decide_eq_true_eq,List.all_eq_true] at this;obtain ⟨⟨⟨_,g⟩,i⟩,_⟩:=this;refine ⟨?_,fun p n=>by have:=Q5v (g p n);omega⟩
    rcases i with e | e
    .rw[e];simp
    .have:=Q5v e;omega
  .cases h
end Go.Proofs.Y
namespace Go.Hm
open Go.Kd
theorem Lo {α:Type} {f:α->Int} {xs:List α} {n:Nat} (h:n<xs.length) (a:D2 f xs 0=D2 f (xs.drop n) n):D2 f xs 0=if f xs[n]=0 then D2 f (xs.drop (n+1)) (n+1) else some (n,f xs[n]):=by
 rw[a,List.drop_eq_getElem_cons h];rfl
theorem X09 {a:List Cla} {n:Nat} (h:n<a.length) (k:Q8):Z7 (a.take (n+1)) k=match Z7 (a.take n) k with
 | some i=>some i
 | none=>if a[n].name=k then some n else none:=by
 unfold Z7;rw[List.take_add_one,List.getElem?_eq_getElem h];simp only[Option.toList_some,List.findIdx?_append];cases (a.take n).findIdx? fun c=>decide (c.name=k) with
 | some i=>rfl
 | none=>
  simp only[Option.none_or,List.findIdx?_cons,List.findIdx?_nil,List.length_take]
  by_cases e:a[n].name=k
  .simp[e];omega
  .simp[e]
end Go.Hm
namespace Go.Proofs.Y
open Go.Emb Go.RowKit Go.Kd Go.Hm
variable {w : World} {K : Value -> World -> Prop} {σ : Q2} {v : Value} {l : List Cla}
theorem Tn {a:List Cla} {n:Nat} (h:n<a.length):Y7 a n=a[n].name:=by unfold Y7;rw[List.getD_eq_getElem?_getD,List.getElem?_eq_getElem h];rfl
set_option maxRecDepth 9999 in
set_option maxHeartbeats 1000000 in
theorem X6m {lv:Value} (hs:X1 w σ) (hg:Glb σ) (hl:Sl 8 W8 σ lv l) (hlen:l.length<=1000) (hsm: ∀c∈l,Qe c)
 (h1: ∀i e w' σ',Cs E2 l=some (i,e)->Stp w σ w' σ'->K (.tuple #[.pointer none,I i,I e]) w')
 (h0: ∀v w' σ',Cs E2 l=none->Stp w σ w' σ'->Tab σ' v (Q5 l)->Ok (Q5 l)->A9 (Q5 l)->K (.tuple #[v,I 0,I 0]) w'):Q0 P F.cP [lv] w K:=X0C (by
 unfold Q4c;simp only[Z1,Y1,M4];unfold Y2 Z5 U4 X7 X5 X2;have hgl:T6.length=8:=rfl;have hal:(Q5 l).length=8+l.length:=by simp[Q5,hgl]
 refine X45 hs hg fun x0 w1 σ1 hk1 ha1=>?_;refine Q4q hk1.sat fun r w2 hr hk2 hm2=>?_;have ha2:=ha1.up hk2;have hx0:x0.cells= #[x0]/\x0.oneCell'=true:=Q5F ha1
 have hx0s: ∃a n c,x0= .slice a n c:=by
  obtain ⟨cells,q1,_⟩:=ha1
  rcases q1.2 with ⟨rfl,_⟩ | ⟨g,cap,cur,rfl,_⟩<;>exact ⟨_,_,_,rfl⟩
 have hx0r:x0.ownBlock≠some r:=fun e=>by have:=(ha1.mem r e).2.1;omega
 obtain ⟨a0,n0,c0,hx0e⟩:=hx0s;rw[hx0e];refine W2 (cells:= #[.slice a0 n0 c0, .map (some r)]) X3 ?_;rw[<-hx0e];refine Q2c (cs:=[x0, .map (some r)]) hk2.sat fun bt w3 σ3 hbt hk3 hbm=>?_;have hS3:=(hk1.trans hk2).trans hk3;have ha3:=ha2.up hk3;have hm3:=hm2.up hk3;have hrw:w.heap.size<=r:=Nat.le_trans hk1.bel.size hr;have hrl:r<w2.heap.size:=hm2.lt;have hbtw:w.heap.size<=bt:=Qk hbt (hk1.trans hk2);have hrbt:r≠bt:=by omega
 have hx0b:x0.ownBlock≠some bt:=fun e=>by have:=(ha2.mem bt e).2.1;omega
 rw[E0,fa];refine Fw hbm rfl ?_;refine Q9N ha3 ?_;rw[hgl];have hl3:=hl.up hS3;refine Q6 hl3 ?_
 -- classes, each by itself
 refine U8 l.length (fun n w'=> ∃σ' x,Stp w σ w' σ'/\SLe σ3 σ'/\U6 σ' w' bt [x, .map (some r)]/\W1 w.heap.size T.a 8 W8 σ' w' x (T6++l.take n)/\B4 σ' w' r []/\x.ownBlock≠some bt/\x.ownBlock≠some r/\D2 E2 l 0=D2 E2 (l.drop n) n)
  ⟨σ3,x0,hS3,SLe.refl _,hbm,by simpa using ha3,hm3,hx0b,hx0r,rfl⟩ fun n w4 d hn hinv=>?_
 obtain ⟨σ4,x,hS4,le4,hb4,ha4,hm4,hxb,hxr,hfb⟩:=hinv;refine Z4 ?_;refine Q3 (fun hh=>?_) (fun hh=>?_)
 .have hn':n<l.length:=by simpa using hh
  refine N0 (hl3.lift le4) hn' fun p cells hl1 hl2 hr1=>?_;refine Z8 hS4.sat hl1 hl2 ?_;refine Z0 hS4.sat (by rfl) hl2 (Rep.one hr1) fun q w5 σ5 hk5 hq5=>?_
  have hS5:=hS4.trans hk5;have hr5:=RCl_lift hr1 ⟨hk5.le⟩;refine Z8 hk5.sat hq5 hl2 ?_;have hsmn:=hsm _ (List.getElem_mem hn');refine X43 hk5.sat (hg.lift ⟨hS5.le⟩) hr5 hsmn.1 fun w6 σ6 hk6=>?_;have hS6:=hS5.trans hk6;have hfb2:=Lo hn' hfb;refine Sr ?_;refine Q3 (fun hh2=>?_) (fun hh2=>?_)
  .have hne: ¬E2 l[n]=0:=by simpa using hh2
   rw[if_neg hne] at hfb2;refine h1 _ _ _ _ ?_ hS6;unfold Cs;rw[hfb2]
  .have hz:E2 l[n]=0:=by simpa using hh2
   rw[if_pos hz] at hfb2;have hk56:=hk5.trans hk6;have hb6:=hb4.up hk56;have ha6:=ha4.up hk56;have hm6:=hm4.up hk56;have hq6:=hq5.up hk6;have hr6:=RCl_lift hr5 ⟨hk6.le⟩;have hxs: ∀k,x.ownBlock=some k->k<w6.heap.size:=fun k hk=>(ha6.mem k hk).2.1;refine L9 hk6.sat ?_;refine X4 (.pointer (some ⟨bt,0,none⟩)) (fun w hb=>by rw[E0];exact X9 rfl) ?_
   refine X4 (.pointer (some ((⟨bt,0,none⟩:Addr).add 0))) (fun t w hb e=>by rw[e,fa];exact X9 rfl) ?_
   refine X4 x (fun t w hb e=>by rw[e];exact Fw (hb6.step hb.stp) rfl (X9 rfl)) ?_
   refine X4 (.agg cells.toArray) (fun w hb=>Z8 hb.sat hq6 hl2 (X9 rfl)) ?_
   refine Hi (Φ:=fun σ' v=> ∃ds:List Value,v= .agg ds.toArray/\ds.length=8/\W8 σ' l[n] ds) (fun t w hb e=>by
    rw[e];exact X2z hb.sat hr6 hsmn fun lv fv mv w' σ' hk hrc=>Pj hb hk ⟨_,rfl,rfl,hrc⟩) ?_
   refine Hi (w:=w6) (σ:=σ6) (Φ:=fun σ' v=>Sl 8 W8 σ' v [l[n]]) (fun t w hb e=>by
    obtain ⟨σ',hk,ds,rfl,hd1,hd2⟩:=e;refine H0 (R:=W8) (sz:=8) hk.sat [.agg ds.toArray] [l[n]] rfl rfl (by simpa [Value.cells] using hd1) rfl ⟨by simpa [Value.cells] using hd2,trivial⟩ fun u w2 σ2 hk2 hu=>?_
    exact ⟨hk2.bel,σ2,hk.trans hk2,hu⟩) ?_
   rintro t43 t44 t45 t46 t47 t48 w7 hb7 _ _ e45 _ _ ⟨σ8,hk8,hu8⟩;subst e45;have hS8:=hS6.trans hk8;have hb8:=hb6.up hk8;have ha8:=ha6.up hk8;have hm8:=hm6.up hk8;have hbl:=hb6.lt;have hml:=hm6.lt;refine Hk hS8 ha8 hu8 rfl (by simp[hgl];omega) (by simp[hgl];omega) fun x' w9 hn9 hS9 ha9 hat9=>?_
   have hb9:=hb8.nx hn9 hxb;have hm9:=hm8.nx hn9 hxr
   have hxb':x'.ownBlock≠some bt:=fun e=>by
    rcases hat9 with e2 | e2
    .exact hxb (e2▸e)
    .have:=e2 bt e;have:=hk8.bel.size;omega
   have hxr':x'.ownBlock≠some r:=fun e=>by
    rcases hat9 with e2 | e2
    .exact hxr (e2▸e)
    .have:=e2 r e;have:=hk8.bel.size;omega
   obtain ⟨hxc1,hxc2⟩:=Q5F ha9;rw[E0,fa];refine Bn hb9 U5 hxc1 hxc2 fun w10 u10 hb10=>?_;have hS10:=u10.stp hS9 hbtw hb9.1;have k10:Kpt (fun k=>k=bt) w9 w10:=Kpt.of_upd u10 rfl;refine H8 ?_;refine Y9 hl3.max hn' ⟨σ8,x',hS10,le4.more ⟨fun b o e=>hk8.le _ _ (hk56.le _ _ e)⟩,hb10,?_,hm9.kp k10 hrbt,hxb',hxr',hfb2⟩;have:=ha9.kp k10 fun k hk e=>hxb' (e▸hk);rw[List.take_add_one,List.getElem?_eq_getElem hn',<-List.append_assoc];exact this
 have hn': ¬n<l.length:=by simpa using hh
 rw[List.take_of_length_le Q4] at ha4;rw[List.drop_eq_nil_of_le Q4] at hfb;have hfb:D2 E2 l 0=none:=hfb;have hck:=T8 hfb;have hcf: ∀c∈l,Qe c/\Nm c/\c.name≠[]:=fun c hc=>Gh (hck c hc)
 have hsmall: ∀c∈Q5 l,Qe c:=fun c hc=>by
  rcases List.mem_append.1 hc with hc | hc
  .exact (Mt c hc).1
  .exact (hcf c hc).1
 have hnmall: ∀c∈Q5 l,Nm c:=fun c hc=>by
  rcases List.mem_append.1 hc with hc | hc
  .exact (Mt c hc).2.1
  .exact (hcf c hc).2.1
 have hlenall:(Q5 l).length<=100000:=by omega
 unfold Cs at h1 h0;rw[hfb] at h1 h0;simp only at h1 h0
 -- from now on the classes stay
 obtain ⟨σ5,hS5,hv5,le5,old5⟩:=ha4.keep hS4;have hb5:U6 σ5 w4 bt _:=⟨(old5 bt fun e=>hxb e.symm).trans hb4.1,hb4.2⟩;have hm5:B4 σ5 w4 r []:=⟨(old5 r fun e=>hxr e.symm).trans hm4.1,hm4.2⟩;obtain ⟨σ6,hS6,hb6,le6,old6⟩:=hb5.keep hS5 hbtw;have hm6:B4 σ6 w4 r []:=⟨(old6 r hrbt).trans hm5.1,hm5.2⟩;have hv6:Sl 8 W8 σ6 x (Q5 l):=hv5.le le6;clear hb5 hb4 ha4;rw[E0,fa];refine ld hS6.sat hb6 rfl ?_;refine Q6 hv6 ?_
 refine U8 (Q5 l).length (fun n w'=> ∃σ' m,Stp w σ w' σ'/\SLe σ6 σ'/\B4 σ' w' r m/\(∀k,B6 m k=(Z7 ((Q5 l).take n) k).map (fun i:Nat=>I (i:Int)))/\ ∀j,j<n->(Z7 ((Q5 l).take j) (Y7 (Q5 l) j)).isSome=false)
  ⟨σ6,[],hS6,SLe.refl _,hm6,by simp[B6,Z7],by intro j hj;omega⟩ fun n w5 d hn2 hinv=>?_
 obtain ⟨σ7,m,hS7,le7,hm7,hlm,hnd⟩:=hinv;refine Z4 ?_;refine Q3 (fun hh2=>?_) (fun hh2=>?_)
 .have hn3:n<(Q5 l).length:=by simpa using hh2
  refine N0 (hv6.lift le7) hn3 fun p cells hl1 hl2 hr1=>?_;refine Z8 hS7.sat hl1 hl2 ?_;refine Z0 hS7.sat (by rfl) hl2 (Rep.one hr1) fun q w6 σ8 hk8 hq8=>?_
  obtain ⟨lv',fv,mv,rfl,f1,f2,f3,f4,f5⟩:=hr1;have hS8:=hS7.trans hk8;have le8:SLe σ6 σ8:=le7.more ⟨hk8.le⟩;have hm8:=hm7.up hk8;have hb8:=hb6.lift le8;rw[fa];refine ld hk8.sat hq8 rfl ?_;refine Rl ?_;unfold Un;simp only[M8];unfold Y2;rw[E0,fa];refine ld hk8.sat hb8 rfl ?_;refine X2h Y6 hm8.2 _ ?_;refine J0 (vs:=[_,_]) rfl ?_;refine J0 (vs:=[_,_]) rfl ?_;have hna:=Tn hn3;have hfd:=hlm (Q5 l)[n].name;cases hfc:Z7 ((Q5 l).take n) (Q5 l)[n].name with
  | some i=>
   rw[hfc] at hfd;rw[hfd];refine W7 ?_
   have hdup:Cd (Q5 l)=some n:=by
    unfold Cd;rw[List.find?_range_eq_some];refine ⟨by rw[hna,hfc];rfl,by simpa using hn3,fun j hj=>by rw[hnd j hj];rfl⟩
   refine Hf ⟨by omega,by omega⟩ ?_
   refine h1 _ _ _ _ ?_ hS8;rw[hdup];rfl
  | none=>
   rw[hfc] at hfd;rw[hfd];refine L1 ?_;refine L9 hk8.sat ?_;refine X4 (.pointer (some ⟨bt,0,none⟩)) (fun w hb=>by rw[E0];exact X9 rfl) ?_
   refine X4 (.pointer (some ((⟨bt,0,none⟩:Addr).add 1))) (fun t w hb e=>by rw[e,fa];exact X9 rfl) ?_
   refine X4 (.pointer (some (q.add 0))) (fun w hb=>by rw[fa];exact X9 rfl) ?_
   refine X4 (.map (some r)) (fun t w hb e=>by rw[e];exact ld hb.sat hb8 rfl (X9 rfl)) ?_
   refine X4 (S (Q5 l)[n].name) (fun t w hb e=>by rw[e];exact ld hb.sat hq8 rfl (X9 rfl)) ?_
   rintro t71 t72 t74 t73 t75 w9 hb9 _ _ _ rfl rfl;refine Pv Y6 (hm8.up hb9.stp) _ (I n) fun w10 u10 hm10=>?_;have hS9:=hS8.trans hb9.stp;have hS10:=u10.stp hS9 hrw hm10.1;refine H8 ?_;refine Y9 Q4 hn3 ⟨σ8,_,hS10,le8,hm10,fun k=>?_,fun j hj=>?_⟩
   .rw[Q64,X09 hn3 k]
    by_cases e:(Q5 l)[n].name=k
    .subst e
     rw[if_pos rfl,hfc];simp
    .rw[if_neg e,hlm k]
     cases Z7 ((Q5 l).take n) k with
     | some i=>rfl
     | none=>simp[e]
   .by_cases e:j=n
    .subst e;rw[hna,hfc];rfl
    .exact hnd j Q4
 have hn3: ¬n<(Q5 l).length:=by simpa using hh2
 have hne:n=(Q5 l).length:=by omega
 subst hne;rw[List.take_of_length_le (Nat.le_refl _)] at hlm
 have hdup:Cd (Q5 l)=none:=by
  unfold Cd;rw[List.find?_eq_none];intro j hj;rw[hnd j (by simpa using hj)];simp
 rw[hdup] at h1 h0;simp only at h1 h0;have hown:=Tq hdup;obtain ⟨σ8,hS8,hm8,le8,_⟩:=hm7.keep hS7 hrw;have le68:SLe σ6 σ8:=le7.more ⟨le8⟩;have ht8:Tab σ8 (.pointer (some ⟨bt,0,none⟩)) (Q5 l):=⟨⟨bt,0,none⟩,x,r,m,rfl,hb6.lift le68,hv6.lift le68,hm8,hlm⟩;have hb8:=hb6.lift le68;have hv8:=hv6.lift le68;clear hm7 hm8 hh2 hn3 hn2 hh hn' hn hnd;have hdr:(Q5 l).drop 8=l:=by simp[Q5,hgl]
 rw[E0,fa];refine ld hS8.sat hb8 rfl ?_;refine Ky hv8 (some (I (8:Nat))) none 8 (Q5 l).length (.inr rfl) (.inl ⟨rfl,rfl⟩) Q4 (Nat.le_refl _) fun v9 hv9=>?_;rw[hdr,List.take_of_length_le Q4] at hv9;refine Q6 hv9 ?_;refine U8 l.length (fun n w'=> ∃σ',Stp w σ w' σ'/\SLe σ8 σ'/\D2 (fun c=>(E4 (Q5 l) c:Int)) l 0=D2 (fun c=>(E4 (Q5 l) c:Int)) (l.drop n) n) ⟨σ8,hS8,SLe.refl _,rfl⟩ fun n w6 d hn hinv=>?_;obtain ⟨σ9,hS9,le9,hfu⟩:=hinv;refine Z4 ?_;refine Q3 (fun hh=>?_) (fun hh=>?_)
 .have hn':n<l.length:=by simpa using hh
  refine N0 (hv9.lift le9) hn' fun p cells hl1 hl2 hr1=>?_;refine Z8 hS9.sat hl1 hl2 ?_;refine Z0 hS9.sat (by rfl) hl2 (Rep.one hr1) fun q w7 σ10 hk10 hq10=>?_
  have hS10:=hS9.trans hk10;refine Z8 hk10.sat hq10 hl2 ?_;have hfu2:=Lo hn' hfu;refine X2D hk10.sat (ht8.lift (le9.more ⟨hk10.le⟩)) (RCl_lift hr1 ⟨hk10.le⟩) fun w8 σ11 hk11=>?_;refine Sr ?_;refine Q3 (fun hh2=>?_) (fun hh2=>?_)
  .have hne: ¬(E4 (Q5 l) l[n]:Int)=0:=by simpa using hh2
   rw[if_neg hne] at hfu2;refine h1 _ _ _ _ ?_ (hS10.trans hk11);rw[hfu2]
  .have hz:(E4 (Q5 l) l[n]:Int)=0:=by simpa using hh2
   rw[if_pos hz] at hfu2;refine H8 ?_;exact Y9 hl3.max hn' ⟨σ11,hS10.trans hk11,le9.more ⟨fun b o e=>hk11.le _ _ (hk10.le _ _ e)⟩,hfu2⟩
 have hn': ¬n<l.length:=by simpa using hh
 rw[List.drop_eq_nil_of_le Q4] at hfu;have hfu:D2 (fun c=>(E4 (Q5 l) c:Int)) l 0=none:=hfu;rw[hfu] at h1 h0;simp only at h1 h0;have hup:=T8 hfu;have ht9:=ht8.lift le9;clear hh hn' hn;rw[E0,fa];refine ld hS9.sat (hb8.lift le9) rfl ?_;refine Ky (hv8.lift le9) (some (I (8:Nat))) none 8 (Q5 l).length (.inr rfl) (.inl ⟨rfl,rfl⟩) Q4 (Nat.le_refl _) fun v10 hv10=>?_;rw[hdr,List.take_of_length_le Q4] at hv10;rw[Yq];refine Ic (A0 (Q5 l)) hS9.sat hv10 (fun c cs w7 K hc hs7 hr hlen hK=>Z6 (first:=[.pointer (some ⟨bt,0,none⟩)]) (caps:=[]) ?_) fun w7 hb7=>?_
 .exact X4e hs7 ht9 hlenall hsmall hr fun w' σ' hk=>hK w' hk.bel
 have hS10:=hS9.trans (Stp.of_below hS9.sat hb7);refine Yg ?_;rw[Vs];cases hlo:l.findIdx? (A0 (Q5 l)) with
 | some i=>
  refine W7 ?_;refine h1 _ _ _ _ ?_ hS10;rw[hlo];rfl
 | none=>
  rw[hlo] at h1 h0;simp only at h1 h0;refine L1 ?_;have hlo': ∀c∈l,A0 (Q5 l) c=false:=fun c hc=>List.findIdx?_eq_none_iff.1 hlo c hc;have hacy:=Q6V hown (fun c hc=>(hcf c hc).2.2) hlo'
  have hfull:X2k (Q5 l):=fun c hc u hu=>by
   rcases List.mem_append.1 hc with hc | hc
   .rw[(Mt c hc).2.2] at hu;simp at hu
   .have:=hup c hc
    unfold E4 at this
    split at this
    .simp at this
    .split at this
     .simp at this
     .rename_i hnb
      have hnb:c.like.any (C2 (Q5 l))=false:=eq_false_of_ne_true hnb;have:=List.any_eq_false.1 hnb u hu;unfold C2 at this;cases hd:lk (Q5 l) u with
      | none=>rw[hd] at this;simp at this
      | some d=>exact ⟨d,rfl⟩
  have hok:Ok (Q5 l):=⟨hacy,hlenall,hsmall,hfull,hnmall⟩;refine X4f (frm:=8) hS10.sat (ht9.lift ⟨(Stp.of_below hS9.sat hb7).le⟩) hacy hown hlenall hsmall Q4 Q4 fun v11 w8 σ11 hk11 hv11 hol hoi=>?_;have hS11:=hS10.trans hk11;have ht11:=ht9.lift ⟨fun b o e=>hk11.le _ _ e⟩;refine Q6 hv11 ?_;have hil:(ints (L3 (Q5 l) 8)).length=(L3 (Q5 l) 8).length:=by simp
  rw[hil];refine U8 (L3 (Q5 l) 8).length (fun n w'=> ∃σ',Stp w σ w' σ'/\SLe σ11 σ'/\ ∀j∈(L3 (Q5 l) 8).take n,L2 (Q5 l) ((Q5 l).getD j Cla.zero)=0) ⟨σ11,hS11,SLe.refl _,by simp⟩ fun n w9 d hn hinv=>?_
  obtain ⟨σ12,hS12,le12,hno⟩:=hinv;refine Z4 ?_;refine Q3 (fun hh=>?_) (fun hh=>?_)
  .have hn':n<(L3 (Q5 l) 8).length:=by simpa using hh
   refine N0 (hv11.lift le12) (by rw[hil];exact hn') fun p cells hl1 hl2 hr1=>?_
   obtain ⟨rfl,_⟩:=hr1;refine Y4 hS12.sat hl1 rfl ?_;simp only[List.getElem_map];rw[E0,fa];have le8x:SLe σ8 σ12:=le9.more (SLe.more ⟨hk11.le⟩ le12);refine ld hS12.sat (hb8.lift le8x) rfl ?_;have hji:=hoi _ (List.getElem_mem hn');refine N0 (hv8.lift le8x) hji fun p2 cells hl1 hl2 hr1=>?_;refine Z8 hS12.sat hl1 hl2 ?_;have hat:(Q5 l).getD (L3 (Q5 l) 8)[n] Cla.zero=(Q5 l)[(L3 (Q5 l) 8)[n]]:=by rw[List.getD_eq_getElem?_getD,List.getElem?_eq_getElem hji];rfl
   have hmem:=List.getElem_mem hji;refine X1j hS12.sat (ht11.lift le12) hok hr1 (hsmall _ hmem) (hnmall _ hmem) fun w10 σ13 hk13=>?_;have hS13:=hS12.trans hk13;refine Sr ?_;refine Q3 (fun hh2=>?_) (fun hh2=>?_)
   .have hne: ¬L2 (Q5 l) (Q5 l)[(L3 (Q5 l) 8)[n]]=0:=by simpa using hh2
    refine Hf ⟨by omega,by omega⟩ ?_
    have hfind:(L3 (Q5 l) 8).find? (fun j=> !decide (L2 (Q5 l) ((Q5 l).getD j Cla.zero)=0))=some (L3 (Q5 l) 8)[n]:=by
     rw[List.find?_eq_some_iff_getElem];refine ⟨by rw[hat];simpa using hne,n,hn',rfl,fun j hj=>?_⟩
     have:=hno _ (List.mem_take_iff_getElem.2 ⟨j,by omega,rfl⟩)
     rw[this];simp
    have:=h1 (((L3 (Q5 l) 8)[n]:Int)-8) (L2 (Q5 l) (Q5 l)[(L3 (Q5 l) 8)[n]]) w10 σ13 (by rw[hfind];simp only[hat]) hS13
    exact this
   .have hz:L2 (Q5 l) (Q5 l)[(L3 (Q5 l) 8)[n]]=0:=by simpa using hh2
    refine H8 ?_;refine Y9 Q4 hn' ⟨σ13,hS13,le12.more ⟨hk13.le⟩,fun j hj=>?_⟩;rw[List.take_add_one,List.getElem?_eq_getElem hn'] at hj
    rcases List.mem_append.1 hj with hj | hj
    .exact hno j hj
    .simp at hj;subst hj;rw[hat];exact hz
  .have hn': ¬n<(L3 (Q5 l) 8).length:=by simpa using hh
   rw[List.take_of_length_le Q4] at hno
   have hfind:(L3 (Q5 l) 8).find? (fun j=> !decide (L2 (Q5 l) ((Q5 l).getD j Cla.zero)=0))=none:=by
    rw[List.find?_eq_none];intro j hj;rw[hno j hj];simp
   rw[hfind] at h0;exact h0 _ _ _ rfl hS12 (ht11.lift le12) hok hown)
end Go.Proofs.Y
namespace Go.Hm
open Go.Kd
def X1A (m:Hm.Met):Bool:= !(decide (50<m.code.length)||decide (8<m.params.length)||decide (8<m.catches.length))
def X2O (c:Cla):Bool:= !(decide (6<c.like.length)||decide (6<c.fields.length)||decide (6<c.methods.length))&&c.methods.all X1A
def X2P (l:List Cla):Bool:= !decide (12<l.length)&&l.all X2O
theorem X1B {l:List Cla} (h:X2P l=true):l.length<=12/\ ∀c∈l,X2O c=true:=by
 simp only[X2P,Bool.and_eq_true,Bool.not_eq_true',decide_eq_false_iff_not,List.all_eq_true] at h;exact ⟨by omega,h.2⟩
theorem X5L {l:List Cla} (h:X2P l=true): ∀c∈l,Qe c:=by
 intro c e;have:=(X1B h).2 c e;simp only[X2O,X1A,Bool.and_eq_true,Bool.not_eq_true',Bool.or_eq_false_iff,decide_eq_false_iff_not,List.all_eq_true] at this;obtain ⟨⟨⟨a,b⟩,g⟩,d⟩:=this;refine ⟨by omega,by omega,by omega,fun m f=>?_⟩
 obtain ⟨⟨p,q⟩,r⟩:=d m f;exact ⟨by omega,by omega,by omega⟩
end Go.Hm
namespace Go.Proofs.Y
open Go.Emb Go.RowKit Go.Kd Go.Hm
variable {w : World} {K : Value -> World -> Prop} {v : Value}
theorem X6G:P.underlying T.u=some (.pointer T.y):=by kernel_rfl
theorem X3k (d:Nat) (o:Option Addr):(Op.equalIn (d+1) T.u (.pointer o) (.pointer none)).run P w= .ok o.isNone w:=by
 cases o<;>simp[Op.equalIn,run_underlying X6G]
theorem X6h {a:Addr} {b c:Operand} (h:K (.bool false) w):Y5 P .eql T.u b c (.pointer (some a)) (.pointer none) w K:=by
 have e:(Op.equal T.u (.pointer (some a)) (.pointer none)).run P w= .ok false w:=X3k 9999 _;unfold Y5;rw[Y3 (v:= .bool false) (w':=w) (by simp[eqGuard,Go.binOp,e])]
 exact h
end Go.Proofs.Y
namespace Go.Hm
open Go.Kd
theorem Q7y {l:List Cla} {frm:Nat}: ∀(f:Nat) (out:List Nat) (i:Nat),(∀y∈out,y∈Ql l frm f out i)/\(0<f->frm<=i->i∈Ql l frm f out i):=by
 intro f
 induction f with
 | zero=>intro out i;exact ⟨fun y a=>a,fun h=>by omega⟩
 | succ f e=>
  intro out i
  have b: ∀(d:List Q8) (o:List Nat),∀y∈o,y∈d.foldl (fun out n=>Ql l frm f out ((Z7 l n).getD 0)) o:=by
   intro d
   induction d with
   | nil=>intro o y a;exact a
   | cons u r c=>intro o y a;exact c _ y ((e o _).1 y a)
  simp only[Ql]
  split
  .exact ⟨fun y a=>a,fun _ h=>by omega⟩
  .split
   .rename_i h;exact ⟨fun y a=>a,fun _ _=>h⟩
   .exact ⟨fun y a=>List.mem_append_left _ (b _ _ y a),fun _ _=>by simp⟩
theorem X1P {l:List Cla} {frm i:Nat} (d:frm<=i) (e:i<l.length):i∈L3 l frm:=by
 unfold L3
 have key: ∀(is out:List Nat),(∀y∈out,y∈is.foldl (fun out i=>Ql l frm (l.length+1) out i) out)/\(i∈is->i∈is.foldl (fun out i=>Ql l frm (l.length+1) out i) out):=by
  intro is
  induction is with
  | nil=>intro out;exact ⟨fun y b=>b,fun h=>by simp at h⟩
  | cons a r c=>
   intro out;refine ⟨fun y b=>(c _).1 y ((Q7y _ _ _).1 y b),fun h=>?_⟩
   rcases List.mem_cons.1 h with rfl | h
   .exact (c _).1 _ ((Q7y _ _ _).2 (by omega) d)
   .exact (c _).2 h
 refine (key _ _).2 ?_;rw[List.mem_drop_iff_getElem];exact ⟨i-frm,by simp;omega,by simp;omega⟩
theorem X1o {s:Q8} (h:O6 s=true):name s=true:=Vc (by rw[h,Bool.or_true])
theorem Q7H {a:Q8} (h:name a=true):P7 a=false:=by
 cases e:P7 a with
 | false=>rfl
 | true=>
  exfalso
  have d:2<=a.length/\a.drop (a.length-2)=[91,93]:=by simpa [P7] using e
  have b:(93:UInt8)∈a:=List.mem_of_mem_drop (i:=a.length-2) (by rw[d.2];simp)
  cases a with
  | nil=>simp at b
  | cons c r=>
   simp only[name,Bool.and_eq_true,List.all_eq_true] at h;have:=h.2 _ b
   revert this;decide
end Go.Hm
namespace Go.Proofs.Y
open Go.Emb Go.RowKit Go.Kd Go.Hm
theorem X1R {a:Q8} (h:name a=true):base a=(a,0):=by rw[Vo,Q7H h];simp
theorem Ph {s:Q8} (h:O6 s=true):P7 s=false/\base s=(s,0)/\right s=true/\plain s=false/\elem s=[]/\s≠Yf/\s≠[]:=by
 have c:=Hm.X1o h;have a:=Q7H c;have b:=X1R c;refine ⟨a,b,?_,?_,by simp[elem,a],?_,?_⟩
 .simp[right,b,h]
 .cases d:plain s with
  | false=>rfl
  | true=>
   simp only[plain,Bool.or_eq_true,decide_eq_true_eq] at d
   rcases d with (e | e) | e<;>subst e<;>revert h<;>decide
 .rintro rfl;revert h;decide
 .rintro rfl;revert h;decide
structure Wf (l : List Cla) : Prop where
  ck : ∀ c ∈ l, E2 c = 0
  own : A9 (Q5 l)
  acy : Zc (Q5 l)
  up : ∀ c ∈ l, E4 (Q5 l) c = 0
  mem : ∀ c ∈ l, L2 (Q5 l) c = 0
theorem X6H {l:List Cla} (h:Cs E2 l=none):Wf l:=by
 unfold Cs at h
 split at h
 .cases h
 rename_i j
 split at h
 .cases h
 rename_i k
 split at h
 .cases h
 rename_i m
 split at h
 .cases h
 rename_i n
 split at h
 .cases h
 rename_i o;have d:=T8 j;have a:=Tq k;have g: ∀c∈l,A0 (Q5 l) c=false:=fun c b=>List.findIdx?_eq_none_iff.1 n c b;refine ⟨d,a,Q6V a (fun c b=>(Gh (d c b)).2.2) g,fun c b=>by have:=T8 m c b;omega,fun c b=>?_⟩
 obtain ⟨i,p,rfl⟩:=List.getElem_of_mem b;have f:T6.length=8:=rfl;have:=List.find?_eq_none.1 o (8+i) (X1P Q4 (by simp[Q5,f];omega))
 have e:(Q5 l).getD (8+i) Cla.zero=l[i]:=by
  rw[List.getD_eq_getElem?_getD,Q5,List.getElem?_append_right Q4,f,show 8+i-8=i by omega,List.getElem?_eq_getElem p];rfl
 rw[e] at this
 simpa using this
section
variable {l : List Cla} (wf : Wf l)
include wf
theorem Wf.names {c:Cla} (hc:c∈Q5 l):O6 c.name=true:=by
 rcases List.mem_append.1 hc with hc | hc
 .have: ∀c∈T6,O6 c.name=true:=by decide+kernel
  exact this c hc
 .have:=wf.ck c hc
  unfold E2 at this
  split at this
  .cases this
  .split at this
   .rename_i a
    simp only[Ro,Bool.and_eq_true] at a;obtain ⟨⟨⟨⟨⟨⟨⟨⟨b,_⟩,_⟩,_⟩,_⟩,_⟩,_⟩,_⟩,_⟩:=a;exact List.all_eq_true.1 b c.name U5
   .cases this
theorem Wf.lkn {n:Q8} {c:Cla} (h:lk (Q5 l) n=some c):O6 n=true:=by
 obtain ⟨e,a,_⟩:=L5 h;rw[<-e];exact wf.names a
theorem Wf.kind {n:Q8} {c:Cla} (h:lk (Q5 l) n=some c):K3 (Q5 l) n=true:=by
 obtain ⟨d,a,b,e,f,g,i⟩:=Ph (wf.lkn h);have:Q3A (Q5 l) n=true:=by rw[Q5i,h];rfl
 simp[K3,b,a,this]
theorem Wf.sub_iff {a b:Q8}:Q26 (Q5 l) a b=true↔K3 (Q5 l) a=true/\K3 (Q5 l) b=true/\(a=b\/(plain a=false/\plain b=false/\(a=Yf\/(elem a≠[]/\b=L8)\/(lk (Q5 l) a≠none/\Hm.Reach (lk (Q5 l)) a b)))):=by
 unfold Q26;cases j:K3 (Q5 l) a<;>cases k:K3 (Q5 l) b<;>simp
 by_cases e:a=b
 .simp[e]
 cases pa:plain a<;>cases m:plain b<;>simp[e]
 by_cases g:a=Yf
 .simp[g]
 simp only[g,false_or]
 by_cases d:elem a=[]
 .simp only[d,if_true,not_true_eq_false,false_and,false_or,Wa]
  constructor
  .intro h;obtain ⟨c,i⟩:=h.left;exact ⟨by rw[i];simp,h⟩
  .intro h;exact h.2
 .simp only[d,if_false,not_false_eq_true,true_and]
  constructor
  .exact .inl
  .rintro (h | ⟨h,_⟩)
   .exact h
   .cases f:lk (Q5 l) a with
    | none=>exact absurd f h
    | some c=>exact absurd (Ph (wf.lkn f)).2.2.2.2.1 d
end
end Go.Proofs.Y
namespace Go.Proofs.Y
open Go.Emb Go.RowKit Go.Kd Go.Hm
theorem Q8z {L:List Cla} (f:Zc L): ∀(k:Nat) {n:Q8} {c:Cla},K2 L n<k->c∈chain L n->Hm.Reach (lk L) n c.name/\lk L c.name=some c:=by
 intro k
 induction k with
 | zero=>intro n c h;omega
 | succ k o=>
  intro n c p hc;rw[Cb f] at hc;cases a:lk L n with
  | none=>rw[a] at hc;simp at hc
  | some d=>
   rw[a] at hc;have b:=(L5 a).1
   rcases List.mem_cons.1 hc with rfl | hc
   .rw[b];exact ⟨.refl a,a⟩
   .cases g:lk L d.super with
    | none=>rw[Nd g] at hc;simp at hc
    | some e=>
     have i:d.super∈V8 d:=by simp[V8]
     obtain ⟨j,m⟩:=o (by have:=Qw f a i g;omega) hc
     exact ⟨.step a i j,m⟩
section
variable {l : List Cla} (wf : Wf l)
include wf
theorem Wf.lkArr {a:Q8} {c:Cla} (h:lk (Q5 l) a=some c):elem a=[]:=(Ph (wf.lkn h)).2.2.2.2.1
theorem Wf.sub_refl {a:Q8} (h:K3 (Q5 l) a=true):Q26 (Q5 l) a a=true:=wf.sub_iff.2 ⟨h,h, .inl rfl⟩
end
end Go.Proofs.Y
namespace Go.Proofs.Y
open Go.Emb Go.RowKit Go.Kd Go.Hm
section
variable {l : List Cla} (wf : Wf l)
include wf
end
end Go.Proofs.Y
namespace Go.Hm
open Go.Kd
end Go.Hm
namespace Go.Proofs.Y
open Go.Emb Go.RowKit Go.Kd Go.Hm
section
variable {l : List Cla} (wf : Wf l)
include wf
end
end Go.Proofs.Y
namespace Go.Proofs.Y
open Go.Emb Go.RowKit Go.Kd Go.Hm
end Go.Proofs.Y
namespace Go.Proofs.Y
open Go.Emb Go.RowKit Go.Kd Go.Hm
section
variable {l : List Cla} (wf : Wf l)
include wf
end
end Go.Proofs.Y
namespace Go.Hm
open Go.Kd
structure Val where
  sort : Int
  n : Int
  s : Q8
  ref : Int
deriving DecidableEq
structure Cel where
  kind : Q8
  vals : List Val
deriving DecidableEq
def Val.zero:Val:=⟨0,0,[],0⟩
def Cel.zero:Cel:=⟨[],[]⟩
def G0 (k:Q8):Val:=if k=Zp then ⟨1,0,[],0⟩ else if k=Hj then ⟨2,0,[],0⟩ else if k=B7 then ⟨3,0,[],0⟩ else Val.zero
def H7 (cs:List Cel):Int:=(cs.map fun c=>1+(c.vals.length:Int)).sum
def Qn (room:Int) (cs:List Cel):Int:=room-H7 cs
def T2 (cs:List Cel) (r:Int):Bool:=decide (0<=r)&&decide (r<cs.length)
def Q2j (cs:List Cel) (r:Int):Cel:=cs.getD r.toNat Cel.zero
def D9 (cs:List Cel) (r:Int):Q8:=if T2 cs r then (Q2j cs r).kind else []
def Lk (cs:List Cel) (r:Int):Int:=if T2 cs r then (Q2j cs r).vals.length else 0
def Yt (ok:Q8->Bool) (cs:List Cel) (v:Val):Q8:=
 if v=Val.zero then Yf else if v=⟨1,v.n,[],0⟩ then Zp else if v=⟨2,v.n,[],0⟩/\(v.n=0\/v.n=1) then Hj
 else if v=⟨3,0,v.s,0⟩/\ok v.s=true then B7 else if v=⟨4,0,[],v.ref⟩ then D9 cs v.ref else []
def Zm (ok:Q8->Bool) (l:List Cla) (cs:List Cel) (v:Val) (k:Q8):Bool:= !decide (Yt ok cs v=[])&&Q26 l (Yt ok cs v) k
def Q1M (l:List Cla) (room:Int) (cs:List Cel) (k:Q8):List Cel×Int:=
 if Vd l k=false then (cs,91) else if Qn room cs<1+((W9 l k).length:Int) then (cs,90) else (cs++[⟨k,(W9 l k).map fun f=>G0 f.kind⟩],0)
def Jn (cs:List Cel) (r a:Int):Int:=if T2 cs r then (if 0<=a/\a<((Q2j cs r).vals.length:Int) then 0 else 93) else 92
def Gj (cs:List Cel) (r a:Int):Val:=if Jn cs r a=0 then (Q2j cs r).vals.getD a.toNat Val.zero else Val.zero
def X3W (l:List Cla) (k:Q8) (i:Nat):Q8:=if elem k=[] then ((W9 l k).getD i Fld.zero).kind else elem k
def X79 (n:Int) (v:Val):Bool:=decide (v.sort=4)&&decide (n<=v.ref)
structure ActH where
  kind : Int
  s : Q8
  n : Int
  ref : Int
  v : Val
deriving DecidableEq
structure GoodC (ok : Q8 -> Bool) (l : List Cla) (cs : List Cel) (c : Cel) : Prop where
  is : elem c.kind ≠ [] \/ (Vd l c.kind = true /\ c.vals.length = (W9 l c.kind).length)
  kd : K3 l c.kind = true
  fits : ∀ i (h : i < c.vals.length), Zm ok l cs c.vals[i] (X3W l c.kind i) = true
structure GoodH (ok : Q8 -> Bool) (l : List Cla) (room : Int) (cs : List Cel) : Prop where
  cells : ∀ c ∈ cs, GoodC ok l cs c
  left : 0 <= Qn room cs
theorem Q4O (a b:List Cel):H7 (a++b)=H7 a+H7 b:=by simp[H7]
theorem Ru (a:List Cel):0<=H7 a:=by
 unfold H7
 induction a with
 | nil=>simp
 | cons c r b=>simp only[List.map_cons,List.sum_cons];omega
theorem Q05 (a:List Cel):(a.length:Int)<=H7 a:=by
 unfold H7
 induction a with
 | nil=>simp
 | cons c r b=>simp only[List.map_cons,List.sum_cons,List.length_cons];omega
theorem D5 {cs:List Cel} {r:Int}:T2 cs r=true↔ ∃i:Nat,r=i/\i<cs.length:=by
 simp only[T2,Bool.and_eq_true,decide_eq_true_eq];constructor
 .rintro ⟨a,b⟩;exact ⟨r.toNat,by omega,by omega⟩
 .rintro ⟨i,rfl,h⟩;omega
theorem C9 {cs:List Cel} {i:Nat} (h:i<cs.length):Q2j cs (i:Int)=cs[i]:=by
 unfold Q2j;rw[Int.toNat_natCast,List.getD_eq_getElem?_getD,List.getElem?_eq_getElem h];rfl
theorem Ov {cs:List Cel} {i:Nat} (h:i<cs.length):D9 cs (i:Int)=cs[i].kind:=by
 unfold D9;rw[if_pos (D5.2 ⟨i,rfl,h⟩),C9 h]
theorem X31 {ok:Q8->Bool} {cs a:List Cel} {v:Val} (h:v.sort=4->D9 cs v.ref≠[]->D9 a v.ref=D9 cs v.ref) (c:Yt ok cs v≠[]):Yt ok a v=Yt ok cs v:=by
 unfold Yt at*
 split
 .rfl
 .split
  .rfl
  .split
   .rfl
   .split
    .rfl
    .split
     .rename_i d e f g b
      rw[if_neg d,if_neg e,if_neg f,if_neg g,if_pos b] at c;exact h (by rw[b]) c
     .rfl
theorem X0b {ok:Q8->Bool} {l:List Cla} {cs a:List Cel} {v:Val} {k:Q8} (h:v.sort=4->D9 cs v.ref≠[]->D9 a v.ref=D9 cs v.ref) (b:Zm ok l cs v k=true):Zm ok l a v k=true:=by
 unfold Zm at*
 have c:Yt ok cs v≠[]:=by
  intro e;rw[e] at b;simp at b
 rw[X31 h c];exact b
theorem X0j {cs more:List Cel} {r:Int} (h:D9 cs r≠[]):D9 (cs++more) r=D9 cs r:=by
 have c:T2 cs r=true:=by
  cases b:T2 cs r with
  | true=>rfl
  | false=>unfold D9 at h;rw[b] at h;simp at h
 obtain ⟨i,rfl,a⟩:=D5.1 c;rw[Ov a,Ov (by simp;omega),List.getElem_append_left a]
theorem GoodC.app {ok:Q8->Bool} {l:List Cla} {cs more:List Cel} {c:Cel} (h:GoodC ok l cs c):GoodC ok l (cs++more) c:=
 ⟨h.is,h.kd,fun i a=>X0b (fun _ b=>X0j b) (h.fits i a)⟩
section
variable {ok : Q8 -> Bool} {l : List Cla} {room : Int} {cs : List Cel}
theorem GoodH.snoc (h:GoodH ok l room cs) {c:Cel} (a:GoodC ok l (cs++[c]) c) (b:1+(c.vals.length:Int)<=Qn room cs):GoodH ok l room (cs++[c]):=by
 refine ⟨fun d hd=>?_,?_⟩
 .rcases List.mem_append.1 hd with hd | hd
  .exact (h.cells d hd).app
  .simp at hd;subst hd;exact a
 .unfold Qn at*;rw[Q4O];simp only[H7,List.map_cons,List.map_nil,List.sum_cons,List.sum_nil] at*;omega
end
end Go.Hm
namespace Go.Proofs.Y
open Go.Emb Go.RowKit Go.Kd Go.Hm
section
variable {l : List Cla} (wf : Wf l)
include wf
theorem Wf.field_kinds {n:Q8} {f:Fld} (h:f∈W9 (Q5 l) n):E3 (Q5 l) f.kind=true:=by
 unfold W9 at h;obtain ⟨c,g,e⟩:=List.mem_flatMap.1 h;have j:=(Q8z wf.acy _ (Nat.lt_succ_self _) (by simpa using g)).2
 obtain ⟨_,b,_⟩:=L5 j
 rcases List.mem_append.1 b with i | hl
 .have d: ∀c∈T6,∀f∈c.fields,f.kind=B7:=by decide
  rw[d c i f e]
  have:K3 (Q5 l) B7=true:=by
   have m:right B7=true:=by decide
   have k:plain (base B7).1=true:=by decide
   simp[K3,m,k]
  simp[E3,this];decide
 .have:=wf.mem c hl
  unfold L2 at this
  split at this
  .cases this
  .split at this
   .cases this
   .rename_i a
    have a:F7 (Q5 l) c=false:=eq_false_of_ne_true a;unfold F7 at a;rw[Bool.or_eq_false_iff] at a;have:=List.any_eq_false.1 a.1 f e
    simpa using this
theorem Wf.zero_fits {ok:Q8->Bool} (g:ok []=true) {cs:List Cel} {k:Q8} (h:E3 (Q5 l) k=true):Zm ok (Q5 l) cs (G0 k) k=true:=by
 have a:K3 (Q5 l) k=true/\k≠Yf:=by
  simp only[E3,Bool.and_eq_true,Bool.not_eq_true',decide_eq_false_iff_not] at h;exact ⟨h.2,h.1⟩
 by_cases c:k=Zp
 .subst c
  have:Zm ok (Q5 l) cs (G0 Zp) Zp=Q26 (Q5 l) Zp Zp:=by
   unfold Zm;simp[G0,Yt,Val.zero,Zp]
  rw[this];exact wf.sub_refl a.1
 by_cases d:k=Hj
 .subst d
  have:Zm ok (Q5 l) cs (G0 Hj) Hj=Q26 (Q5 l) Hj Hj:=by
   unfold Zm;simp[G0,Yt,Val.zero,Hj,Zp]
  rw[this];exact wf.sub_refl a.1
 by_cases f:k=B7
 .subst f
  have:Zm ok (Q5 l) cs (G0 B7) B7=Q26 (Q5 l) B7 B7:=by
   unfold Zm;simp[G0,Yt,Val.zero,Hj,Zp,B7,g]
  rw[this];exact wf.sub_refl a.1
 .have i:G0 k=Val.zero:=by simp[G0,c,d,f]
  have:Zm ok (Q5 l) cs (G0 k) k=Q26 (Q5 l) Yf k:=by
   rw[i];unfold Zm Yt;simp[Yf]
  rw[this]
  have b:plain k=false:=by
   cases b:plain k with
   | false=>rfl
   | true=>
    simp only[plain,Bool.or_eq_true,decide_eq_true_eq] at b
    rcases b with (e | e) | e
    .exact absurd e c
    .exact absurd e d
    .exact absurd e f
  exact wf.sub_iff.2 ⟨by simp[K3],a.1, .inr ⟨by decide,b, .inl rfl⟩⟩
end
section
variable {ok : Q8 -> Bool} {l : List Cla} {room : Int} {cs : List Cel}
theorem GoodH.obj (wf:Wf l) (f:ok []=true) (h:GoodH ok (Q5 l) room cs) (k:Q8):GoodH ok (Q5 l) room (Q1M (Q5 l) room cs k).1:=by
 unfold Q1M
 split
 .exact h
 split
 .exact h
 rename_i a j;have a:Vd (Q5 l) k=true:=by simpa using a
 have e: ∃c,lk (Q5 l) k=some c:=by
  unfold Vd at a;cases b:lk (Q5 l) k with
  | none=>rw[b] at a;cases a
  | some c=>exact ⟨c,rfl⟩
 obtain ⟨c,b⟩:=e;have g:elem k=[]:=wf.lkArr b;refine h.snoc ⟨.inr ⟨a,by simp⟩,wf.kind b,fun i d=>?_⟩ (by simp only[List.length_map];omega)
 simp only[List.length_map] at d;simp only[List.getElem_map,X3W,g,if_pos];rw[List.getD_eq_getElem?_getD,List.getElem?_eq_getElem d];exact wf.zero_fits f (wf.field_kinds (List.getElem_mem d))
theorem X1V {r a:Int} (h:Jn cs r a=0): ∃i j:Nat,r=i/\a=j/\ ∃(b:i<cs.length),j<(cs[i]).vals.length:=by
 unfold Jn at h
 split at h
 .rename_i d
  obtain ⟨i,rfl,b⟩:=D5.1 d
  split at h
  .rename_i c
   rw[C9 b] at c;exact ⟨i,a.toNat,rfl,by omega,b,by omega⟩
  .cases h
 .cases h
theorem GoodH.empty (a:0<=room):GoodH ok l room []:=⟨by simp,by simpa [Qn,H7] using a⟩
end
end Go.Proofs.Y
namespace Go.Hm
open Go.Kd
def Ha (xs:List Nat) (n:Option Nat):List Nat:=match n with
 | none=>xs
 | some n=>if n∈xs then xs else xs++[n]
def Vf (tq:Val->Option Nat) (xs:List Nat) (vs:List Val):List Nat:=vs.foldl (fun xs v=>Ha xs (tq v)) xs
def N6 (out:Nat->List Val) (tq:Val->Option Nat) (v:Val):Nat->List Nat
 | 0=>Ha [] (tq v)
 | i+1=>match (N6 out tq v i)[i]? with
  | some r=>Vf tq (N6 out tq v i) (out r)
  | none=>N6 out tq v i
theorem Q4t {xs:List Nat} {n:Option Nat} (h:xs.Nodup):(Ha xs n).Nodup:=by
 unfold Ha;cases n with
 | none=>exact h
 | some n=>
  simp only
  split
  .exact h
  .rename_i hn
   rw[List.nodup_append];exact ⟨h,by simp,fun a d b c e=>by simp at c;subst c;exact hn (e▸d)⟩
theorem Q7M {xs:List Nat} {n:Option Nat} {x:Nat}:x∈Ha xs n↔x∈xs\/n=some x:=by
 unfold Ha;cases n with
 | none=>simp
 | some n=>
  simp only
  split
  .rename_i hn
   constructor
   .exact .inl
   .rintro (h | h)
    .exact h
    .cases h;exact hn
  .simp only[List.mem_append,List.mem_singleton,Option.some.injEq]
   exact or_congr Iff.rfl eq_comm
section
variable {out : Nat -> List Val} {tq : Val -> Option Nat} {v : Val}
theorem Cu: ∀(vs:List Val) {xs:List Nat},xs.Nodup->(Vf tq xs vs).Nodup
 | [],_,h=>h
 | v::vs,_,h=>Cu vs (Q4t h)
theorem Tt: ∀(vs:List Val) {xs:List Nat} {x:Nat},x∈Vf tq xs vs↔x∈xs\/ ∃v∈vs,tq v=some x
 | [],xs,x=>by simp[Vf]
 | v::vs,xs,x=>by
  show x∈Vf tq (Ha xs (tq v)) vs↔_
  rw[Tt vs,Q7M];simp only[List.mem_cons,exists_eq_or_imp];rw[or_assoc]
theorem Vk: ∀i,(N6 out tq v i).Nodup
 | 0=>Q4t List.nodup_nil
 | i+1=>by
  unfold N6
  split
  .exact Cu _ (Vk i)
  .exact Vk i
theorem X0I {i:Nat} (h:(N6 out tq v i).length<=i): ∀{j},i<=j->N6 out tq v j=N6 out tq v i:=by
 intro j c
 induction j with
 | zero=>
  have:i=0:=by omega
  subst this;rfl
 | succ j b=>
  by_cases e:i=j+1
  .subst e;rfl
  .have a:=b (by omega)
   rw[N6,a,List.getElem?_eq_none (by omega)]
theorem Sn {S:Nat->Prop} (a: ∀x,tq v=some x->S x) (b: ∀r,S r-> ∀p∈out r,∀x,tq p=some x->S x): ∀i,∀x∈N6 out tq v i,S x
 | 0,x,hx=>by
  unfold N6 at hx
  rcases Q7M.1 hx with hx | hx
  .cases hx
  .exact a x hx
 | i+1,x,hx=>by
  unfold N6 at hx
  split at hx
  .rename_i r d
   rcases (Tt _).1 hx with hx | ⟨p,c,hx⟩
   .exact Sn a b i x hx
   .exact b r (Sn a b i r (List.mem_of_getElem? d)) p c x hx
  .exact Sn a b i x hx
theorem Q7J {n:Nat} {xs:List Nat} (h:xs.Nodup) (a: ∀x∈xs,x<n):xs.length<=n:=Go.Emb.H6 n xs h a
variable {n : Nat} (hn : ∀ p x, tq p = some x -> x < n)
include hn
theorem Q22 (i:Nat): ∀x∈N6 out tq v i,x<n:=Sn (S:=fun x=>x<n) (fun x h=>hn _ x h) (fun _ _ p _ x h=>hn p x h) i
theorem Q4C (i:Nat):(N6 out tq v i).length<=n:=Q7J (Vk i) (Q22 hn i)
omit hn in
theorem Q4D (h:tq v=none): ∀i,N6 out tq v i=[]
 | 0=>by unfold N6;rw[h];rfl
 | i+1=>by rw[N6,Q4D h i];rfl
end
end Go.Hm
namespace Go.Hm
open Go.Kd
abbrev Prs:=List (Nat×Nat)×Bool
theorem X4R {xs:List Nat} {x:Nat} (h:x∈xs):Ha xs (some x)=xs:=by unfold Ha;simp only;rw[if_pos h]
theorem X39 {xs:List Nat} {x:Nat} (h:x∉xs):Ha xs (some x)=xs++[x]:=by unfold Ha;simp only;rw[if_neg h]
def Qu (cs:List Cel) (r:Nat):Cel:=cs.getD r Cel.zero
def Uf (l:List Cla) (k:Q8) (i:Nat):Bool:= !decide (elem k=[])|| !((W9 l k).getD i Fld.zero).tr
def Q2x (l:List Cla) (c:Cel):List Nat:=(List.range c.vals.length).filter (Uf l c.kind)
def K1 (l:List Cla) (cs:List Cel) (r:Nat):List Val:=(Q2x l (Qu cs r)).map fun i=>(Qu cs r).vals.getD i Val.zero
def Fv (cs:List Cel) (r:Nat):Q8:=(Qu cs r).kind
def Zj (cs:List Cel) (v:Val):Option Nat:=if v.sort=4/\T2 cs v.ref=true then some v.ref.toNat else none
def I3 (l:List Cla) (cs:List Cel) (v:Val):List Nat:=N6 (K1 l cs) (Zj cs) v cs.length
def X15 (cs:List Cel):Prop:= ∀c∈cs,∀v∈c.vals,v.sort=4->T2 cs v.ref=true
theorem X1E {ok:Q8->Bool} {l:List Cla} {cs:List Cel} (h: ∀c∈cs,GoodC ok l cs c):X15 cs:=fun c d v g b=>by
 obtain ⟨i,f,rfl⟩:=List.mem_iff_getElem.1 g;have:=(h c d).fits i f;unfold Zm at this;simp only[Bool.and_eq_true,Bool.not_eq_true',decide_eq_false_iff_not] at this;have a:=this.1;unfold Yt at a
 split at a
 .rename_i e;rw[e] at b;exact absurd b (by decide)
 split at a
 .rename_i e;rw[e] at b;exact absurd b (by simp)
 split at a
 .rename_i e;rw[e.1] at b;exact absurd b (by simp)
 split at a
 .rename_i e;rw[e.1] at b;exact absurd b (by simp)
 split at a
 .unfold D9 at a
  split at a
  .assumption
  .exact absurd rfl a
 .exact absurd rfl a
variable {l : List Cla} {cs : List Cel} {v : Val}
theorem Kz: ∀p x,Zj cs p=some x->x<cs.length:=fun p x h=>by
 unfold Zj at h
 split at h
 .rename_i a
  cases h;obtain ⟨i,e,b⟩:=D5.1 a.2;rw[e];exact b
 .cases h
theorem X3p {x:Nat} (h:Zj cs v=some x):v.sort=4/\v.ref=x/\x<cs.length:=by
 have b:=Kz _ _ h;unfold Zj at h
 split at h
 .rename_i a
  cases h;obtain ⟨i,e,c⟩:=D5.1 a.2;exact ⟨a.1,by rw[e];rfl,b⟩
 .cases h
theorem X3o (h:v.sort≠4):Zj cs v=none:=by unfold Zj;rw[if_neg (fun e=>h e.1)]
theorem X35 {r:Nat} {p:Val} (h:p∈K1 l cs r):r<cs.length/\ ∃b:r<cs.length,p∈cs[r].vals:=by
 unfold K1 Q2x at h;simp only[List.mem_map,List.mem_filter,List.mem_range] at h;obtain ⟨i,⟨a,_⟩,e⟩:=h
 by_cases b:r<cs.length
 .have c:Qu cs r=cs[r]:=by unfold Qu;rw[List.getD_eq_getElem?_getD,List.getElem?_eq_getElem b];rfl
  rw[c] at a e;refine ⟨b,b,?_⟩;rw[List.getD_eq_getElem?_getD,List.getElem?_eq_getElem a] at e;rw[<-e];exact List.getElem_mem a
 .have c:Qu cs r=Cel.zero:=by unfold Qu;rw[List.getD_eq_getElem?_getD,List.getElem?_eq_none (by omega)];rfl
  rw[c] at a;exact absurd a (by simp[Cel.zero])
theorem Q3J {x:Nat} (h:x∈I3 l cs v):x<cs.length:=Q22 Kz _ x h
theorem X3a:(I3 l cs v).length<=cs.length:=Q4C Kz _
theorem X3b:(I3 l cs v).Nodup:=Vk _
theorem Q96 (h:v.sort≠4):I3 l cs v=[]:=Q4D (X3o h) _
end Go.Hm
namespace Go.Hm
open Go.Kd
def He:Nat->Nat->Q8
 | 0,v=>[UInt8.ofNat v]
 | f+1,v=>if v<128 then [UInt8.ofNat v] else UInt8.ofNat (v % 128+128)::He f (v / 128)
def U3 (v:Nat):Q8:=He v v
theorem Q8o: ∀(f g v:Nat),v<=f->v<=g->He f v=He g v
 | 0,g,v,h,_=>by
  have:v=0:=by omega
  subst this;cases g<;>simp[He]
 | f+1,0,v,_,h=>by
  have:v=0:=by omega
  subst this
  simp[He]
 | f+1,g+1,v,a,b=>by
  unfold He
  by_cases e:v<128
  .rw[if_pos e,if_pos e]
  .rw[if_neg e,if_neg e,Q8o f g (v / 128) (by omega) (by omega)]
theorem Q5C {v:Nat} (h:v<128):U3 v=[UInt8.ofNat v]:=by
 unfold U3;cases v with
 | zero=>rfl
 | succ n=>rw[He,if_pos h]
theorem Q5B {v:Nat} (h:128<=v):U3 v=UInt8.ofNat (v % 128+128)::U3 (v / 128):=by
 obtain ⟨k,rfl⟩: ∃k,v=k+1:=⟨v-1,by omega⟩
 unfold U3;rw[He,if_neg (by omega),Q8o k _ _ (by omega) (Nat.le_refl _)]
theorem Q9L {v:Nat}:1<=(U3 v).length:=by
 by_cases h:v<128
 .rw[Q5C h];simp
 .rw[Q5B (by omega)];simp
theorem Q8p: ∀(f k v:Nat),v<128 ^ (k+1)->(He f v).length<=k+1
 | 0,k,v,_=>by simp[He]
 | f+1,0,v,h=>by rw[He,if_pos (by simpa using h)];simp
 | f+1,k+1,v,h=>by
  rw[He]
  split
  .simp
  .have:=Q8p f k (v / 128) (by rw[Nat.pow_succ] at h;omega)
   simpa using this
theorem C6 {v:Nat} (h:v<18446744073709551616):(U3 v).length<=10:=Q8p v 9 v (by
 have:(18446744073709551616:Nat)<=128 ^ (9+1):=by decide
 omega)
def Wu (n:Int):Nat:=(n % 18446744073709551616).toNat
theorem Su (n:Int):Wu n<18446744073709551616:=by unfold Wu;omega
theorem Q3R {n:Nat} (h:n<18446744073709551616):Wu n=n:=by unfold Wu;omega
def Zb (n:Int):Nat:=if 0<=n then (2*n).toNat else (2*(-(n+1))+1).toNat
def W3 (s:Q8):Q8:=U3 s.length++s
def Zn (b:Bool):Q8:=[if b then 1 else 0]
def S1 (num:Int->Int) (v:Val):Q8:=
 U3 (Wu v.sort)++
  (if v.sort=1 then U3 (Zb v.n) else if v.sort=2 then Zn (decide (v.n=1)) else if v.sort=3 then W3 v.s else if v.sort=4 then U3 (Wu (num v.ref)) else [])
def Qm {α:Type} [DecidableEq α] (o:List α) (x:α):List α:=if x∈o then o else o++[x]
def E1 {α:Type} [DecidableEq α] (o xs:List α):List α:=xs.foldl Qm o
def N3 (l:List Cla) (cs:List Cel) (vs:List Val):List Nat:=vs.foldl (fun o v=>E1 o (I3 l cs v)) []
def V7 (cs:List Cel) (rs:List Nat):List Q8:=E1 [] (rs.map (Fv cs))
def Wp (rs:List Nat) (n:Int):Int:=(((rs.findIdx? fun (x:Nat)=>decide ((x:Int)=n)).getD 0:Nat):Int)
def Q6J (l:List Cla) (k:Q8):Q8:=W3 k++W3 (E7 l k)
def Db (cs:List Cel) (a:List Q8) (r:Nat):Q8:=U3 (Wu (Emb.M9 (a.findIdx? fun k=>decide (k=Fv cs r))))++(if elem (Fv cs r)=[] then [] else U3 (Qu cs r).vals.length)
def Q01 (num:Int->Int) (l:List Cla) (cs:List Cel) (vs:List Val) (rs:List Nat):Q8:=
 let a:=V7 cs rs
 U3 a.length++a.flatMap (Q6J l)++U3 rs.length++rs.flatMap (Db cs a)++rs.flatMap (fun r=>(K1 l cs r).flatMap (S1 num))++U3 vs.length++vs.flatMap (S1 num)
section
variable {α : Type} [DecidableEq α] {o xs : List α} {x : α}
theorem X17 {y:α}:y∈Qm o x↔y∈o\/y=x:=by
 unfold Qm
 split
 .rename_i h
  exact ⟨.inl,fun e=>e.elim id fun e=>e▸h⟩
 .simp
theorem X2n (h:o.Nodup):(Qm o x).Nodup:=by
 unfold Qm
 split
 .exact h
 .rename_i f
  exact List.nodup_append.2 ⟨h,by simp,fun a d b c e=>f (by simp at c;rw[<-c,<-e];exact d)⟩
theorem Sc {y:α}: ∀{xs o:List α},y∈E1 o xs↔y∈o\/y∈xs
 | [],o=>by simp[E1]
 | x::xs,o=>by
  show y∈E1 (Qm o x) xs↔_
  rw[Sc,X17,List.mem_cons,or_assoc]
theorem Q11: ∀{xs o:List α},o.Nodup->(E1 o xs).Nodup
 | [],o,h=>h
 | x::xs,o,h=>Q11 (xs:=xs) (X2n h)
theorem Q2U: ∀{xs o:List α},(o++xs).Nodup->E1 o xs=o++xs
 | [],o,_=>by simp[E1]
 | x::xs,o,h=>by
  have a:x∉o:=fun e=>by
   rw[List.nodup_append] at h;exact h.2.2 x e x (by simp) rfl
  show E1 (Qm o x) xs=_
  rw[Qm,if_neg a,Q2U (by simpa using h)]
  simp
theorem Q2V {i:Nat} (a:i<xs.length):E1 o (xs.take (i+1))=Qm (E1 o (xs.take i)) xs[i]:=by
 unfold E1;rw[List.take_add_one,List.getElem?_eq_getElem a,Option.toList_some,List.foldl_append];rfl
end
section
variable {l : List Cla} {cs : List Cel} {vs : List Val} {v : Val}
theorem X0K:N3 l cs [v]=I3 l cs v:=by
 show E1 [] (I3 l cs v)=_
 rw[Q2U (by simpa using X3b)]
 rfl
theorem X0J {r:Nat}:r∈N3 l cs vs↔ ∃v∈vs,r∈I3 l cs v:=by
 have: ∀(vs:List Val) (o:List Nat),r∈vs.foldl (fun o v=>E1 o (I3 l cs v)) o↔r∈o\/ ∃v∈vs,r∈I3 l cs v:=by
  intro vs
  induction vs with
  | nil=>intro o;simp
  | cons a vs b=>
   intro o;rw[List.foldl_cons,b,Sc];simp only[List.mem_cons,exists_eq_or_imp,or_assoc]
 rw[N3,this]
 simp
theorem Fx:(N3 l cs vs).Nodup:=by
 have: ∀(vs:List Val) (o:List Nat),o.Nodup->(vs.foldl (fun o v=>E1 o (I3 l cs v)) o).Nodup:=by
  intro vs
  induction vs with
  | nil=>intro o h;exact h
  | cons a vs b=>intro o h;exact b _ (Q11 h)
 exact this vs [] List.nodup_nil
theorem Rn {r:Nat} (h:r∈N3 l cs vs):r<cs.length:=by
 obtain ⟨v,_,h⟩:=X0J.1 h;exact Q3J h
end
end Go.Hm
namespace Go.Emb
open Go.RowKit Go.Hm
variable {w : World} {σ σ1 σ' : Q2}
def G1 (_:Q2) (v:Val) (cs:List Value):Prop:=cs=[I v.sort,I v.n,S v.s,I v.ref]/\P0 v.sort/\P0 v.n/\v.s.length<=U9/\P0 v.ref
instance:Rep G1:=⟨fun _ h=>h,fun h u hu=>by rw[h.1] at hu;simp at hu;rcases hu with rfl | rfl | rfl | rfl<;>rfl⟩
def Q3o (σ:Q2) (c:Cel) (cs:List Value):Prop:= ∃v,cs=[S c.kind,v]/\Sl 4 G1 σ v c.vals/\c.kind.length<=U9
instance:Rep Q3o:=⟨fun hk ⟨v,h1,h2,h3⟩=>⟨v,h1,h2.le hk,h3⟩,fun ⟨v,h1,h2,h3⟩ u hu=>by
 rw[h1] at hu;simp at hu;rcases hu with rfl | rfl
 .rfl
 .exact Qi h2⟩
def Q6S (_:Q2) (x:List UInt8×Value) (cs:List Value):Prop:=cs=[S x.1,x.2]/\x.1.length<=U9/\ ∃a n c,x.2= .slice a n c
instance:Rep Q6S:=⟨fun _ h=>h,fun ⟨h1,_,a,n,c,h2⟩ u hu=>by
 rw[h1,h2] at hu;simp at hu;rcases hu with rfl | rfl<;>rfl⟩
def X3w (vs:List Value):Prop:=vs.Pairwise fun a b=> ∀k,a.ownBlock=some k->b.ownBlock≠some k
def Q3T (B:Nat) (e:TypeId) (σ:Q2) (w:World) (vs:List Value) (cs:List Cel):Prop:=vs.length=cs.length/\ ∀i (h:i<vs.length) (a:i<cs.length),U0 B e 4 G1 σ w vs[i] cs[i].vals
theorem Q3T.freeze {B:Nat} {e:TypeId}: ∀{vs:List Value} {cs:List Cel} {σ:Q2},X1 w σ->Q3T B e σ w vs cs->X3w vs->
 ∃σ',X1 w σ'/\SLe σ σ'/\(∀i (h:i<vs.length) (z:i<cs.length),Sl 4 G1 σ' vs[i] cs[i].vals)/\ ∀k,(∀v∈vs,v.ownBlock≠some k)->σ' k=σ k
 | [],cs,σ,f,h,g=>⟨σ,f,SLe.refl _,fun i h=>absurd h (Nat.not_lt_zero i),fun _ _=>rfl⟩
 | v::vs,[],σ,f,h,g=>by have:=h.1;simp at this
 | v::vs,c::cs,σ,f,h,g=>by
  obtain ⟨σ1,s,m,o,o1⟩:=(h.2 0 U5 U5).freeze f;obtain ⟨j,l⟩:=List.pairwise_cons.1 g
  have q:Q3T B e σ1 w vs cs:=⟨by simpa using h.1,fun i d a=>by
   have:=h.2 (i+1) (by simpa using d) (by simpa using a)
   simp only[List.getElem_cons_succ] at this;refine this.shiftR m fun k b=>?_;rw[o1 k fun e=>j _ (List.getElem_mem d) k e.symm b];exact (this.mem b).2.2⟩
  obtain ⟨y,t,n,p,o2⟩:=Q3T.freeze s q l;refine ⟨y,t,m.more n,fun i d a=>?_,fun k b=>?_⟩
  .cases i with
   | zero=>exact o.lift n
   | succ i=>exact p i (by simpa using d) (by simpa using a)
  .rw[o2 k fun u r=>b u (by simp[r]),o1 k fun e=>b v U5 e.symm]
def To (vs:List Value) (cs:List Cel):List (List UInt8×Value):=List.zipWith (fun v c=>(c.kind,v)) vs cs
theorem Tp {vs:List Value} {cs:List Cel} (h:vs.length=cs.length):(To vs cs).length=cs.length:=by simp[To,h]
end Go.Emb
namespace Go.Proofs.Y
open Go.Emb Go.RowKit Go.Kd Go.Hm
variable {w : World} {σ σ' : Q2}
def O5 (σ:Q2) (hp tv:Value) (room:Int) (cs:List Cel):Prop:= ∃a lv,hp= .pointer (some a)/\J7 σ a [tv,I room,I (H7 cs),lv]/\Sl 2 Q3o σ lv cs
theorem O5.lift {hp tv:Value} {room:Int} {cs:List Cel} (h:O5 σ hp tv room cs) (b:SLe σ σ'):O5 σ' hp tv room cs:=by
 obtain ⟨a,lv,c,d,f⟩:=h;exact ⟨a,lv,c,d.lift b,f.lift b⟩
structure RowsIs (B : Nat) (D : Nat -> Prop) (σ : Q2) (w : World) (lv : Value) (cs : List Cel) : Prop where
  ex : ∃ vs, U0 B T.aj 2 Q6S σ w lv (To vs cs) /\ Q3T B T.i σ w vs cs /\ X3w (lv :: vs) /\ ∀ k, D k ↔ ∃ v ∈ lv :: vs, v.ownBlock = some k
structure HeapIs (B : Nat) (D : Nat -> Prop) (σ : Q2) (w : World) (hp tv : Value) (room : Int) (cs : List Cel) : Prop where
  ex : ∃ b lv E, hp = .pointer (some ⟨b, 0, none⟩) /\ B <= b /\ U6 σ w b [tv, I room, I (H7 cs), lv] /\ RowsIs B E σ w lv cs /\ ¬ E b /\ ∀ k, D k ↔ (k = b \/ E k)
variable {w' : World} {B : Nat} {D E : Nat -> Prop} {lv hp tv : Value} {room : Int} {cs : List Cel}
theorem RowsIs.mem (h:RowsIs B D σ w lv cs) {k:Nat} (a:D k):B<=k/\k<w.heap.size/\σ k=none:=by
 obtain ⟨vs,d,c,f,hD⟩:=h.ex;obtain ⟨v,hv,a⟩:=(hD k).1 a
 rcases List.mem_cons.1 hv with rfl | hv
 .exact d.mem a
 .obtain ⟨i,b,rfl⟩:=List.getElem_of_mem hv
  exact (c.2 i b (by rw[<-c.1];exact b)).mem a
theorem RowsIs.nx (h:RowsIs B D σ w lv cs) (k:Nxt E w σ w' σ') (c: ∀k,D k-> ¬E k):RowsIs B D σ' w' lv cs:=by
 obtain ⟨vs,l,d,f,hD⟩:=h.ex;exact ⟨vs,l.nx k fun i a=>c i ((hD i).2 ⟨lv,by simp,a⟩),⟨d.1,fun i a b=>(d.2 i a b).nx k fun j g=>c j ((hD j).2 ⟨vs[i],by simp[List.getElem_mem a],g⟩)⟩,f,hD⟩
theorem RowsIs.freeze (h:RowsIs B D σ w lv cs) (A:X1 w σ): ∃σ',X1 w σ'/\SLe σ σ'/\Sl 2 Q3o σ' lv cs/\ ∀k,¬D k->σ' k=σ k:=by
 obtain ⟨vs,p,g,y,hD⟩:=h.ex;obtain ⟨b,d⟩:=List.pairwise_cons.1 y;obtain ⟨σ1,C,q,s,o1⟩:=g.freeze A d
 have f:U0 B T.aj 2 Q6S σ1 w lv (To vs cs):=p.shiftR q fun k a=>by
  rw[o1 k fun v j e=>b v j k a e];exact (p.mem a).2.2
 obtain ⟨J,H,r,t,o2⟩:=f.freeze C;refine ⟨J,H,q.more r,t.conv (R':=Q3o) (ys:=cs) (by rw[Tp g.1]) fun i L o c z=>?_,fun k a=>?_⟩
 .have l:i<vs.length:=by rw[g.1];exact o
  obtain ⟨m,n,_⟩:=z;have e:(To vs cs)[i]=(cs[i].kind,vs[i]):=by simp[To]
  rw[e] at m n;exact ⟨vs[i],m,(s i l o).lift r,n⟩
 .rw[o2 k fun e=>a ((hD k).2 ⟨lv,by simp,e.symm⟩),o1 k fun v j e=>a ((hD k).2 ⟨v,by simp[j],e⟩)]
theorem HeapIs.mem (h:HeapIs B D σ w hp tv room cs) {k:Nat} (hk:D k):B<=k/\k<w.heap.size/\σ k=none:=by
 obtain ⟨b,lv,E,rfl,hB,a,c,hE,hD⟩:=h.ex
 rcases (hD k).1 hk with rfl | hk
 .exact ⟨hB,a.lt,a.1⟩
 .exact c.mem hk
theorem HeapIs.nx {F:Nat->Prop} (h:HeapIs B D σ w hp tv room cs) (k:Nxt F w σ w' σ') (a: ∀k,D k-> ¬F k):HeapIs B D σ' w' hp tv room cs:=by
 obtain ⟨b,lv,E,rfl,hB,d,f,hE,hD⟩:=h.ex;exact ⟨b,lv,E,rfl,hB,d.nx k (a b ((hD b).2 (.inl rfl))),f.nx k fun i c=>a i ((hD i).2 (.inr c)),hE,hD⟩
theorem HeapIs.up (h:HeapIs B D σ w hp tv room cs) (k:Stp w σ w' σ'):HeapIs B D σ' w' hp tv room cs:=
 h.nx (F:=fun _=>False) (.of_stp k) fun _ _=>id
theorem HeapIs.freeze (h:HeapIs B D σ w hp tv room cs) (l:X1 w σ): ∃σ',X1 w σ'/\SLe σ σ'/\O5 σ' hp tv room cs/\ ∀k,¬D k->σ' k=σ k:=by
 obtain ⟨b,lv,E,rfl,hB,d,j,hE,hD⟩:=h.ex;obtain ⟨σ1,o,m,g,o1⟩:=j.freeze l;have a:U6 σ1 w b [tv,I room,I (H7 cs),lv]:=⟨by rw[o1 b hE];exact d.1,d.2⟩
 obtain ⟨q,p,f,i,n⟩:=a.freeze o;exact ⟨q,p,m.more f,⟨_,lv,rfl,i,g.lift f⟩,fun k c=>by rw[n k fun e=>c ((hD k).2 (.inl e)),o1 k fun e=>c ((hD k).2 (.inr e))]⟩
end Go.Proofs.Y
namespace Go.Emb
open Go.RowKit Go.Hm
variable {P : Program} {w : World} {K : Value -> World -> Prop}
theorem X19 (n:Int):(BitVec.ofInt 64 n &&& BitVec.ofInt 64 1).toNat=(n % 2).toNat:=by
 rw[BitVec.toNat_and,BitVec.toNat_ofInt,BitVec.toNat_ofInt];have e:((1:Int) % ((2 ^ 64:Nat):Int)).toNat=1:=by decide
 rw[e,Nat.and_one_is_mod];omega
theorem X6c {t:TypeId} {a b:Operand} {n:Int} (h:K (I (n % 2)) w):Y5 P .and t a b (I n) (I 1) w K:=by
 have e:Y5 P .and t a b (I n) (I 1) w K=K (I (n % 2)) w:=Y3 (by
  have d:(BitVec.ofInt IntKind.i64.bits n &&& BitVec.ofInt IntKind.i64.bits 1).toNat=(n % 2).toNat:=X19 n;have f:IntKind.i64.wrap ((n % 2).toNat:Int)=n % 2:=by rw[K9 Q4 Q4];omega
  have c:((n % 2 ^ IntKind.i64.bits).toNat &&& 1 % 2 ^ IntKind.i64.bits)=(n % 2).toNat:=by
   show ((n % 18446744073709551616).toNat &&& 1)=_
   rw[Nat.and_one_is_mod];omega
  simp[eqGuard,binOp,Op.intBits,c]
  rw[show max (n % 2) 0=n % 2 by omega,K9 Q4 Q4])
 rw[e];exact h
end Go.Emb
namespace Go.Proofs.Y
open Go.Emb Go.RowKit Go.Kd Go.Hm
variable {w w' : World} {K : Value -> World -> Prop} {σ σ' : Q2} {hp tv : Value} {room : Int} {cs : List Cel}
theorem X5P:(P.fieldsOf T.i).toList=[⟨"Sort",T.d,0,false, "", "",0⟩,⟨"N",T.aa,1,false, "", "",8⟩,⟨"S",T.b,2,false, "", "",16⟩,⟨"Ref",T.d,3,false, "", "",32⟩]:=by kernel_rfl
set_option maxRecDepth 100000 in
theorem X4s (a b:Val):(Op.eqFields 9999 [I a.sort,I a.n,S a.s,I a.ref].toArray [I b.sort,I b.n,S b.s,I b.ref].toArray (P.fieldsOf T.i).toList).run P w= .ok (decide (a=b)) w:=by
 rw[X5P]
 have:=Pn (P:=P) (w:=w) (d:=9999) (xs:=[I a.sort,I a.n,S a.s,I a.ref].toArray) (ys:=[I b.sort,I b.n,S b.s,I b.ref].toArray) (f:=⟨"Sort",T.d,0,false, "", "",0⟩) M5 rfl rfl (Q5c (k:= .i64) X3 _ _)
  (Pn (f:=⟨"N",T.aa,1,false, "", "",8⟩) M5 rfl rfl (Q5c (k:= .i64) X3 _ _) (Pn (f:=⟨"S",T.b,2,false, "", "",16⟩) M5 rfl rfl (X4t Y6 _ _) (Pn (f:=⟨"Ref",T.d,3,false, "", "",32⟩) M5 rfl rfl (Q5c (k:= .i64) X3 _ _) X4r)))
 rw[this]
 congr 1
 obtain ⟨c,e,g,h⟩:=a;obtain ⟨i,j,m,o⟩:=b
 simp[Bool.decide_and]
theorem Q8g {a b d:Int} {c:Q8}: ∀u∈[I a,I b,S c,I d],u.oneCell'=true:=by
 intro u e;simp only[List.mem_cons,List.not_mem_nil,or_false] at e
 rcases e with rfl | rfl | rfl | rfl<;>rfl
set_option maxRecDepth 100000 in
theorem Pa {j k:Operand} {a b d e f i:Int} {c g:Q8} (h:K (.bool (decide ((⟨a,b,c,d⟩:Val)=⟨e,f,g,i⟩))) w):Y5 P .eql T.i j k (.agg [I a,I b,S c,I d].toArray) (.agg [I e,I f,S g,I i].toArray) w K:=
 X4u X3 X3 X3 (X4s ⟨a,b,c,d⟩ ⟨e,f,g,i⟩) h
theorem Sl.elV {v:Value} {xs:List Val} (h:Sl 4 G1 σ v xs) {i:Nat} (c:i<xs.length):J7 σ (Ij 4 v i) [I xs[i].sort,I xs[i].n,S xs[i].s,I xs[i].ref]/\G1 σ xs[i] [I xs[i].sort,I xs[i].n,S xs[i].s,I xs[i].ref]:=by
 obtain ⟨cs,a,d,rfl,b⟩:=h.el c;exact ⟨a,rfl,b⟩
theorem Sl.elO {v:Value} {xs:List Cel} (h:Sl 2 Q3o σ v xs) {i:Nat} (e:i<xs.length): ∃a,J7 σ (Ij 2 v i) [S xs[i].kind,a]/\Sl 4 G1 σ a xs[i].vals/\xs[i].kind.length<=U9:=by
 obtain ⟨cs,b,f,a,rfl,c,d⟩:=h.el e;exact ⟨a,b,c,d⟩
theorem Q72 (b:X1 w σ) (hh:O5 σ hp tv room cs) (h:K tv w):Q0 P F.aJ [hp] w K:=Q0B (by
 obtain ⟨a,e,rfl,c,d⟩:=hh;unfold Dm Y2;rw[E0,fa];exact ld b c rfl h)
theorem X4d (c:X1 w σ) (hh:O5 σ hp tv room cs) (e:0<=Qn room cs) (f:room<=1048576) (h: ∀w',Below w.heap.size w w'->K (I (Qn room cs)) w'):Q0 P F.aR [hp] w K:=Q1P (by
 obtain ⟨a,k,rfl,i,j⟩:=hh;unfold Hv;simp only[Z1,Y1];unfold X2;have g:=Ru cs;unfold Qn at*;refine L9 c ?_
 (repeat refine J9 Md ?_)
 (intros;(repeat (rename_i d;subst d));(try simp only[↓M2,M2,Mb,reduceIte]))
 rename_i m b;rw[K9 Q4 Q4];exact h _ b.stp.bel)
theorem Q71 (c:X1 w σ) (hh:O5 σ hp tv room cs) {r:Int} (h:K (.bool (T2 cs r)) w):Q0 P F.az [hp,I r] w K:=Q2O (by
 obtain ⟨a,f,rfl,d,e⟩:=hh;unfold Rx J5 Y0 X7 X5 X2;refine Yg ?_;unfold T2 at h;cases b:decide ((0:Int)<=r) with
 | false=>
  rw[b] at h
  (try simp only[↓M1,M1,Mb,reduceIte])
  exact h
 | true=>
  rw[b] at h
  (try simp only[↓M1,M1,Mb,reduceIte])
  refine ld c d rfl ?_;refine Q6 e ?_;refine Z4 ?_
  (try simp only[↓M1,M1,Mb,reduceIte])
  exact h)
theorem Ih (d:X1 w σ) (hh:O5 σ hp tv room cs) {r:Int} (h:K (S (D9 cs r)) w):Q0 P F.w [hp,I r] w K:=Q1O (by
 unfold Hu Y2;refine Q71 d hh ?_;unfold D9 at h;cases b:T2 cs r with
 | false=>rw[b] at h;(try simp only[↓M1,M1,Mb,reduceIte]);exact h
 | true=>
  rw[b] at h;obtain ⟨i,rfl,c⟩:=D5.1 b;rw[C9 c] at h;obtain ⟨a,j,rfl,f,e⟩:=hh;obtain ⟨k,g,_,_⟩:=Sl.elO e c
  (try simp only[↓M1,M1,Mb,reduceIte])
  refine ld d f rfl ?_;refine U2 e c ?_
  (try simp only[↓M1,M1,Mb,reduceIte])
  exact ld d g rfl h)
theorem Q9k (d:X1 w σ) (hh:O5 σ hp tv room cs) {r:Int} (h:K (I (Lk cs r)) w):Q0 P F.aS [hp,I r] w K:=Q1Q (by
 unfold Hw Y2 X7;refine Q71 d hh ?_;unfold Lk at h;cases b:T2 cs r with
 | false=>rw[b] at h;(try simp only[↓M1,M1,Mb,reduceIte]);exact h
 | true=>
  rw[b] at h;obtain ⟨i,rfl,c⟩:=D5.1 b;rw[C9 c] at h;obtain ⟨a,k,rfl,f,e⟩:=hh;obtain ⟨m,g,j,_⟩:=Sl.elO e c
  (try simp only[↓M1,M1,Mb,reduceIte])
  refine ld d f rfl ?_;refine U2 e c ?_
  (try simp only[↓M1,M1,Mb,reduceIte])
  refine ld d g rfl ?_;exact Q6 j h)
theorem X4g (e:X1 w σ) (hh:O5 σ hp tv room cs) {r i:Int} (h:K (I (Jn cs r i)) w):Q0 P F.br [hp,I r,I i] w K:=Q0C (by
 unfold Dn J5 Y0 X7 X5 X2;refine Q71 e hh ?_;unfold Jn at h;cases c:T2 cs r with
 | false=>rw[c] at h;(try simp only[↓M1,M1,Mb,reduceIte]);exact h
 | true=>
  rw[c] at h;obtain ⟨j,rfl,d⟩:=D5.1 c;rw[C9 d] at h;obtain ⟨a,o,rfl,k,g⟩:=hh;obtain ⟨p,m,n,_⟩:=Sl.elO g d
  (try simp only[↓M1,M1,Mb,reduceIte])
  by_cases f:i<0
  .rw[decide_eq_true f]
   (try simp only[↓M1,M1,Mb,reduceIte])
   rw[if_pos rfl,if_neg Q4] at h;exact h
  .rw[decide_eq_false f]
   (try simp only[↓M1,M1,Mb,reduceIte])
   refine ld e k rfl ?_;refine U2 g d ?_
   (try simp only[↓M1,M1,Mb,reduceIte])
   refine ld e m rfl ?_;refine Q6 n ?_;refine Yg ?_
   (try simp only[↓M1,M1,Mb,reduceIte])
   refine Q3 (fun b=>?_) (fun b=>?_)
   .have b:(cs[j].vals.length:Int)<=i:=by simpa using b
    rw[if_pos rfl,if_neg Q4] at h;exact h
   .have b: ¬(cs[j].vals.length:Int)<=i:=by simpa using b
    rw[if_pos rfl,if_pos Q4] at h;exact h)
theorem X1h (t:X1 w σ) (hh:O5 σ hp tv room cs) {r i:Int} (h: ∀w' σ',Stp w σ w' σ'->K (.tuple #[.agg [I (Gj cs r i).sort,I (Gj cs r i).n,S (Gj cs r i).s,I (Gj cs r i).ref].toArray,I (Jn cs r i)]) w'):Q0 P F.ay [hp,I r,I i] w K:=Q2N (by
 unfold Rw Y2 Z5 X5;refine I4 t fun b w1 σ1 u c o=>?_;have k:=hh.lift ⟨c.le⟩;refine X4g c.sat k ?_;refine Sr ?_;unfold Gj at h
 by_cases g:Jn cs r i=0
 .have e:decide (Jn cs r i=0)=true:=decide_eq_true g
  rw[if_pos g,g] at h;obtain ⟨a,E,rfl,z,v⟩:=k;simp only[e,Bool.not_true,↓M1,M1,Mb,reduceIte];obtain ⟨j,m,rfl,rfl,p,q⟩:=X1V g;rw[C9 p,Int.toNat_natCast] at h;obtain ⟨H,A,y,_⟩:=Sl.elO v p;obtain ⟨B,C⟩:=Sl.elV y q;refine ld c.sat z rfl ?_;refine U2 v p ?_
  (try simp only[↓M1,M1,Mb,reduceIte])
  refine ld c.sat A rfl ?_;refine U2 y q ?_;refine Z8 c.sat B rfl ?_;refine Qt o c (Qk u (Stp.refl t)) rfl rfl (Rep.one C) fun D d f=>?_;refine M6 f rfl ?_;have e:cs[j].vals.getD m Val.zero=cs[j].vals[m]:=by rw[List.getD_eq_getElem?_getD,List.getElem?_eq_getElem q];rfl
  rw[e] at h;exact h _ _ d.stp
 .have e:decide (Jn cs r i=0)=false:=by simpa using g
  rw[if_neg g] at h;simp only[e,Bool.not_false,↓M1,M1,Mb,reduceIte];refine W2 (cells:= #[I 0,I 0,S [],I 0]) X3 ?_;refine Qt (ds:=[I 0,I 0,S [],I 0]) o c (Qk u (Stp.refl t)) rfl rfl Q8g fun D d f=>?_;refine M6 f rfl ?_;exact h _ _ d.stp)
theorem X5r {k:Q8} (o:X1 w σ) (h: ∀w' σ',Stp w σ w' σ'->K (.agg [I (G0 k).sort,I (G0 k).n,S (G0 k).s,I (G0 k).ref].toArray) w'):Q0 P F.cK [S k] w K:=Q8Z (by
 unfold Q36 V5;refine I4 o fun b w1 σ1 q g i=>?_;have hB:=Qk q (Stp.refl o);unfold G0 at h
 have a: ∀(n:Int) (t:K (.agg [I n,I 0,S [],I 0].toArray)=K (.agg [I n,I 0,S [],I 0].toArray)),(∀w' σ',Stp w σ w' σ'->K (.agg [I n,I 0,S [],I 0].toArray) w')->M3 P T.i (.pointer (some ⟨b,0,none⟩)) (.agg #[I n,I 0,S [],I 0]) w1 fun _ m=>M0 P T.i (.pointer (some ⟨b,0,none⟩)) m fun r=>K r m:=fun n _ p=>
  Qt (ds:=[I n,I 0,S [],I 0]) i g hB rfl rfl Q8g fun m f j=>M6 j rfl (p _ _ f.stp)
 refine Qs ?_
 by_cases c:k=Zp
 .simp only[if_pos c] at h
  rw[show decide (k=[105,110,116])=true from decide_eq_true c]
  refine W7 ?_;refine W2 (cells:= #[I 1,I 0,S [],I 0]) X3 ?_;exact a 1 rfl h
 simp only[if_neg c] at h;rw[show decide (k=[105,110,116])=false from decide_eq_false c]
 refine L1 ?_;refine Qs ?_
 by_cases d:k=Hj
 .simp only[if_pos d] at h
  rw[show decide (k=[98,111,111,108])=true from decide_eq_true d]
  refine W7 ?_;refine W2 (cells:= #[I 2,I 0,S [],I 0]) X3 ?_;exact a 2 rfl h
 simp only[if_neg d] at h;rw[show decide (k=[98,111,111,108])=false from decide_eq_false d]
 refine L1 ?_;refine Qs ?_
 by_cases e:k=B7
 .simp only[if_pos e] at h
  rw[show decide (k=[116,101,120,116])=true from decide_eq_true e]
  refine W7 ?_;refine W2 (cells:= #[I 3,I 0,S [],I 0]) X3 ?_;exact a 3 rfl h
 .simp only[if_neg e] at h
  rw[show decide (k=[116,101,120,116])=false from decide_eq_false e]
  refine L1 ?_;refine W2 (cells:= #[I 0,I 0,S [],I 0]) X3 ?_;exact a 0 rfl h)
def I1 (s:Q8):Bool:=decide (s.length<=4096)&&Lib.validD s
theorem Q7z (n:Int):n=n % 2↔n=0\/n=1:=by omega
set_option maxHeartbeats 1000000 in
theorem X6V (Y:X1 w σ) (X:Glb σ) (hh:O5 σ hp tv room cs) {v:Val} (W:v.s.length<=U9) (h: ∀w' σ',Stp w σ w' σ'->K (S (Yt I1 cs v)) w'):Q0 P F.c1 [hp, .agg [I v.sort,I v.n,S v.s,I v.ref].toArray] w K:=Q3G (by
 unfold Cj J5 Y2 X7 X5 X2;refine J1 Y fun q w1 σ1 g k=>?_;have f:=g.sat;refine Z8 f k rfl ?_;refine W2 (cells:= #[I 0,I 0,S [],I 0]) X3 ?_;refine Pa ?_;unfold Yt at h
 by_cases t:v=Val.zero
 .rw[if_pos t] at h
  have:decide ((⟨v.sort,v.n,v.s,v.ref⟩:Val)=⟨0,0,[],0⟩)=true:=decide_eq_true t;rw[this];exact W7 (h _ _ g)
 rw[if_neg t] at h;have:decide ((⟨v.sort,v.n,v.s,v.ref⟩:Val)=⟨0,0,[],0⟩)=false:=decide_eq_false t;rw[this];refine L1 ?_;refine Z8 f k rfl ?_;refine Xt ?_;refine ld f k rfl ?_;refine W2 (cells:= #[I 1,I v.n,S [],I 0]) X3 ?_;refine Pa ?_
 by_cases u:v=⟨1,v.n,[],0⟩
 .rw[if_pos u] at h
  have:decide ((⟨v.sort,v.n,v.s,v.ref⟩:Val)=⟨1,v.n,[],0⟩)=true:=decide_eq_true u;rw[this];exact W7 (h _ _ g)
 rw[if_neg u] at h;have:decide ((⟨v.sort,v.n,v.s,v.ref⟩:Val)=⟨1,v.n,[],0⟩)=false:=decide_eq_false u;rw[this];refine L1 ?_;refine Z8 f k rfl ?_;refine Xt ?_;refine ld f k rfl ?_;refine X6c ?_;refine W2 (cells:= #[I 2,I (v.n % 2),S [],I 0]) X3 ?_;refine Pa ?_
 have p:(v=⟨2,v.n % 2,[],0⟩)↔(v=⟨2,v.n,[],0⟩/\(v.n=0\/v.n=1)):=by
  obtain ⟨a,b,c,d⟩:=v;simp only[Val.mk.injEq,true_and];constructor
  .rintro ⟨C,D,p⟩;exact ⟨⟨C,p⟩,(Q7z b).1 D⟩
  .rintro ⟨⟨C,p⟩,D⟩;exact ⟨C,(Q7z b).2 D,p⟩
 by_cases y:v=⟨2,v.n % 2,[],0⟩
 .rw[if_pos (p.1 y)] at h
  have:decide ((⟨v.sort,v.n,v.s,v.ref⟩:Val)=⟨2,v.n % 2,[],0⟩)=true:=decide_eq_true y;rw[this];exact W7 (h _ _ g)
 rw[if_neg (fun e=>y (p.2 e))] at h;have:decide ((⟨v.sort,v.n,v.s,v.ref⟩:Val)=⟨2,v.n % 2,[],0⟩)=false:=decide_eq_false y;rw[this];refine L1 ?_;refine Z8 f k rfl ?_;refine Xt ?_;refine ld f k rfl ?_;refine W2 (cells:= #[I 3,I 0,S v.s,I 0]) X3 ?_;refine Pa ?_
 have j: ∀{B R},Stp w σ B R->SLe σ1 R->(∀w' σ',Stp w σ w' σ'->K (S (if v=⟨4,0,[],v.ref⟩ then D9 cs v.ref else [])) w')->Q9 P T.i (.pointer (some q)) B fun J w=>
  Q9 P T.d (.pointer (some (q.add 3))) w fun L w=>
  D7 P T.i [(0,(.int .i64 4)),(3,L)] w fun M w=>
  Y5 P .eql T.i (.tmp 40) (.tmp 43) J M w fun N w=>
  X0 N (
   Q9 P T.d (.pointer (some (q.add 3))) w fun O w=>
   Q0 P F.w [hp,O] w fun Q w=>
   K Q w) (
   K (.string ⟨#[]⟩) w):=by
  intro B R i H h;have m:=k.lift H;refine Z8 i.sat m rfl ?_;refine ld i.sat m rfl ?_;refine W2 (cells:= #[I 4,I 0,S [],I v.ref]) X3 ?_;refine Pa ?_
  by_cases A:v=⟨4,0,[],v.ref⟩
  .rw[if_pos A] at h
   have:decide ((⟨v.sort,v.n,v.s,v.ref⟩:Val)=⟨4,0,[],v.ref⟩)=true:=decide_eq_true A;rw[this];refine W7 ?_;refine ld i.sat m rfl ?_;exact Ih i.sat (hh.lift ⟨i.le⟩) (h _ _ i)
  .rw[if_neg A] at h
   have:decide ((⟨v.sort,v.n,v.s,v.ref⟩:Val)=⟨4,0,[],v.ref⟩)=false:=decide_eq_false A;rw[this];exact L1 (h _ _ i)
 by_cases z:v=⟨3,0,v.s,0⟩
 .have:decide ((⟨v.sort,v.n,v.s,v.ref⟩:Val)=⟨3,0,v.s,0⟩)=true:=decide_eq_true z
  rw[this]
  (try simp only[↓M1,M1,Mb,reduceIte])
  refine ld f k rfl ?_;refine Pc Y6 ?_;refine X6J ?_
  by_cases U:v.s.length<=4096
  .rw[decide_eq_true (show (v.s.length:Int)<=4096 by omega)]
   (try simp only[↓M1,M1,Mb,reduceIte])
   refine ld f k rfl ?_;refine Q0a W (X.tabs _ (fun b o e=>f b o (g.le b o e))) fun B E=>?_;have r:=g.trans (Stp.of_below f E);cases V:Lib.validD v.s with
   | true=>
    (try simp only[↓M1,M1,Mb,reduceIte])
    rw[if_pos ⟨z,by simp[I1,V,U]⟩] at h
    exact h _ _ r
   | false=>
    (try simp only[↓M1,M1,Mb,reduceIte])
    rw[if_neg (by rintro ⟨_,e⟩;simp[I1,V] at e)] at h
    exact j r (SLe.refl _) h
  .rw[decide_eq_false (show¬(v.s.length:Int)<=4096 by omega)]
   (try simp only[↓M1,M1,Mb,reduceIte])
   rw[if_neg (by rintro ⟨_,e⟩;simp[I1,U] at e)] at h
   exact j g (SLe.refl _) h
 .have:decide ((⟨v.sort,v.n,v.s,v.ref⟩:Val)=⟨3,0,v.s,0⟩)=false:=decide_eq_false z
  rw[this]
  (try simp only[↓M1,M1,Mb,reduceIte])
  rw[if_neg (fun e=>z e.1)] at h;exact j g (SLe.refl _) h)
theorem Kw {β:Type} {xs:List Val} {v f:Value} (b:β->Val->Bool×β) (m:β) (a:β->World->Prop) (D:Nat->Prop) (l: ∀s w,a s w->X1 w σ) (y:a m w) (u:Sl 4 G1 σ v xs)
 (z: ∀s x cs (w1:World) (K:Value->World->Prop),x∈xs->Kpt D w w1->a s w1->G1 σ x cs->cs.length=4->(∀w',Kpt D w w'->a (b s x).2 w'->K (.bool (b s x).1) w')->Y8 P f [.agg cs.toArray] w1 K)
 (h: ∀w',Kpt D w w'->a (U1 b m xs 0).2 w'->K (I (M9 (U1 b m xs 0).1)) w'):Q0 P F.a1 [v,f] w K:=Jc (by
 unfold G9 Z5 U4 X7 X2
 ((try simp only[↓M1,M1,Mb,reduceIte]);repeat ((first | refine ld Q7 Q7 rfl ?_ | refine Y4 Q7 Q7 rfl ?_ | refine Q6 Q7 ?_);(try simp only[↓M1,M1,Mb,reduceIte])))
 refine U8 xs.length (fun n w'=>Kpt D w w'/\ ∃s,a s w'/\U1 b m xs 0=U1 b s (xs.drop n) n) ⟨Kpt.refl,m,y,rfl⟩ fun n w1 d E i=>?_;obtain ⟨t,s,i,e⟩:=i;have r:=l s w1 i
 ((try simp only[↓M1,M1,Mb,reduceIte]);repeat ((first | refine ld Q7 Q7 rfl ?_ | refine Y4 Q7 Q7 rfl ?_ | refine Q6 Q7 ?_);(try simp only[↓M1,M1,Mb,reduceIte])))
 refine Q3 (fun q=>?_) (fun q=>?_)
 .have c:n<xs.length:=by simpa using q
  refine N0 u c fun p cs A g B=>?_;refine Z8 r A g ?_;refine z s xs[n] cs w1 _ (List.getElem_mem c) t i B g fun C k j=>?_;rw[List.drop_eq_getElem_cons c] at e;simp only[U1] at e;refine Q3 (fun o=>?_) (fun o=>?_)
  .rw[o] at e
   have:=h C k;rw[e] at this;exact this j
  .rw[o] at e
   ((try simp only[↓M1,M1,Mb,reduceIte]);repeat ((first | refine ld Q7 Q7 rfl ?_ | refine Y4 Q7 Q7 rfl ?_ | refine Q6 Q7 ?_);(try simp only[↓M1,M1,Mb,reduceIte])))
   exact Y9 u.max c ⟨k,_,j,by simpa using e⟩
 .have c: ¬n<xs.length:=by simpa using q
  rw[List.drop_eq_nil_of_le Q4] at e;have:=h w1 t;rw[e] at this;exact this i)
theorem Bl {β:Type} {xs:List Val} {v f:Value} (b:β->Val->Bool×β) (d:β) (a:β->World->Prop) (D:Nat->Prop) (c: ∀s w,a s w->X1 w σ) (e:a d w) (k:Sl 4 G1 σ v xs)
 (g: ∀s x cs (w1:World) (K:Value->World->Prop),x∈xs->Kpt D w w1->a s w1->G1 σ x cs->cs.length=4->(∀w',Kpt D w w'->a (b s x).2 w'->K (.bool (b s x).1) w')->Y8 P f [.agg cs.toArray] w1 K)
 (h: ∀w',Kpt D w w'->a (U1 b d xs 0).2 w'->K (.bool (U1 b d xs 0).1.isSome) w'):Q0 P F.n [v,f] w K:=Ya (by
 unfold F3 X5;refine Kw b d a D c e k g fun w1 j i=>?_
 (try simp only[↓M1,M1,Mb,reduceIte])
 rw[Hb];exact h w1 j i)
theorem Sz {xs:List Val} {v f:Value} (p:Val->Bool) (hs:X1 w σ) (hv:Sl 4 G1 σ v xs)
 (hf: ∀x cs (w1:World) (K:Value->World->Prop),x∈xs->X1 w1 σ->G1 σ x cs->cs.length=4->(∀w',Below w1.heap.size w1 w'->K (.bool (p x)) w')->Y8 P f [.agg cs.toArray] w1 K)
 (h: ∀w',Below w.heap.size w w'->K (.bool (xs.any p)) w'):Q0 P F.n [v,f] w K:=by
 refine Bl (fun (_:Unit) x=>(p x,())) () (fun _ w'=>Below w.heap.size w w') (fun _=>False) (fun _ w' hb=>hs.below hb) (Below.refl _ _) hv (fun s x cs w1 K hx hk hi hr hl hK=>hf x cs w1 K hx (hs.below hi) hr hl fun w' hb=>hK w' (.of_below (bt hi hb)) (bt hi hb)) fun w' hk hi=>?_;rw[I8]
 simpa using h w' hi
theorem X6j {B:Nat} {D:Nat->Prop} {m v:Value} {vals:List Val} {k:Q8} {ty:TypeId} {cb:List Bool} {A:Value->Value->World->Prop} (hs:X1 w σ) (hB:B<=w.heap.size) (h:RowsIs B D σ w m cs) (Y:U0 B T.i 4 G1 σ w v vals) (hd: ∀j,v.ownBlock=some j-> ¬D j) (hk:k.length<=U9) (hl:cs.length<=10000000)
 (hh: ∀s d w' σ' D',Nxt (fun j=>m.ownBlock=some j) w σ w' σ'->(∀j,m.ownBlock=some j->D j)->RowsIs B D' σ' w' d (cs++[⟨k,vals⟩])->(∀j,D' j->D j\/v.ownBlock=some j\/w.heap.size<=j)->(∀j,D j->m.ownBlock≠some j->D' j)->A s d w'):
 buildSlice P T.w 1 [(0, .agg #[S k,v])] w (fun s w=>V9 P .append [T.w,T.w] ty cb [m,s] w (fun v' w=>A s v' w)):=by
 obtain ⟨vs,hq,o,ha,hD⟩:=h.ex;obtain ⟨a,J,E,_⟩:=(id Y:U0 B T.i 4 G1 σ w v vals);have al:v.cells= #[v]:=by rw[E];rfl
 refine H0 (R:=Q6S) (sz:=2) hs [.agg #[S k,v]] [(k,v)] rfl rfl (by simp[Value.cells]) rfl ⟨(⟨rfl,hk,a,_,J,E⟩:Q6S σ (k,v) [S k,v]),trivial⟩ fun s w1 σ1 c X=>?_
 refine Tw c.sat (Nat.le_trans hB c.bel.size) (hq.up c) X rfl (by rw[Tp o.1];simp;omega) (by rw[Tp o.1];simp;omega) fun d H O W V N=>?_
 have g: ∀j,m.ownBlock=some j->D j:=fun j b=>(hD j).2 ⟨m,by simp,b⟩
 have L:Nxt (fun j=>m.ownBlock=some j) w σ H σ1:=
  ⟨(Kpt.of_below c.bel).trans (O.mono fun j _ b=>b.1),⟨c.le⟩,c.old,W⟩
 have C: ∀j,v.ownBlock=some j->m.ownBlock≠some j:=fun j b e=>hd j b (g j e)
 have f: ∀j,d.ownBlock=some j->m.ownBlock=some j\/w1.heap.size<=j:=fun j b=>by
  rcases N with ⟨a',aa,e1,e2⟩ | ⟨_,hn⟩
  .left;rw[e1];rw[e2] at b;cases a'<;>exact b
  .exact .inr (hn j b)
 obtain ⟨t,M⟩:=List.pairwise_cons.1 ha;have y: ∀i (p:i<vs.length) (q:i<cs.length),U0 B T.i 4 G1 σ1 H vs[i] cs[i].vals:=fun i p q=>(o.2 i p q).nx L fun j b e=>t _ (List.getElem_mem p) j e b;have Z:U0 B T.i 4 G1 σ1 H v vals:=Y.nx L fun j b e=>C j b e
 have Q: ∀u∈vs,∀j,u.ownBlock=some j->j<w.heap.size:=fun u hu j b=>by
  obtain ⟨i,p,rfl⟩:=List.getElem_of_mem hu;exact ((o.2 i p (by rw[<-o.1];exact p)).mem b).2.1
 refine hh s d H σ1 (fun j=> ∃u∈d::(vs++[v]),u.ownBlock=some j) L g ⟨vs++[v],?_,⟨by simp[o.1],fun i p q=>?_⟩,?_,fun j=>Iff.rfl⟩ ?_ ?_
 .have e:To (vs++[v]) (cs++[⟨k,vals⟩])=To vs cs++[(k,v)]:=by
   unfold To;rw[List.zipWith_append o.1];rfl
  rw[e];exact V
 .by_cases n:i<vs.length
  .have r:i<cs.length:=by rw[<-o.1];exact n
   rw[List.getElem_append_left n,List.getElem_append_left r];exact y i n r
  .have r: ¬i<cs.length:=by rw[<-o.1];exact n
   have e1:i=vs.length:=by simp at p;omega
   rw[List.getElem_append_right Q4,List.getElem_append_right Q4];simp only[List.getElem_singleton];exact Z
 .refine List.pairwise_cons.2 ⟨fun u hu j b e=>?_,List.pairwise_append.2 ⟨M,List.pairwise_singleton _ _,fun u hu u2 z j b e=>?_⟩⟩
  .rcases List.mem_append.1 hu with hu | hu
   .rcases f j b with h1 | h1
    .exact t u hu j h1 e
    .have:=Q u hu j e;have:=c.bel.size;omega
   .simp at hu;subst hu
    rcases f j b with h1 | h1
    .exact C j e h1
    .have:=(Y.mem e).2.1;have:=c.bel.size;omega
  .simp at z;subst z
   exact hd j e ((hD j).2 ⟨u,by simp[hu],b⟩)
 .rintro j ⟨u,hu,b⟩
  rcases List.mem_cons.1 hu with rfl | hu
  .rcases f j b with h1 | h1
   .exact .inl (g j h1)
   .right;right;have:=c.bel.size;omega
  .rcases List.mem_append.1 hu with hu | hu
   .exact .inl ((hD j).2 ⟨u,by simp[hu],b⟩)
   .simp at hu;subst hu;exact .inr (.inl b)
 .intro j b U
  obtain ⟨u,hu,b⟩:=(hD j).1 b
  rcases List.mem_cons.1 hu with rfl | hu
  .exact absurd b U
  .exact ⟨u,by simp[hu],b⟩
variable {l : List Cla} {v : Value}
theorem Xq {n:Q8} (u:X1 w σ) (m:Sl 8 W8 σ v l) (h:K (I (M9 (Z7 l n))) w):Q0 P F.b [v,S n] w K:=Q0R (by
 unfold Ed Y2 U4 X7 X2;refine U8 l.length (fun k w'=>w'=w/\ ∀j (g:j<l.length),j<k-> ¬l[j].name=n) ⟨rfl,fun j _ h=>by omega⟩ fun k w1 d E q=>?_
 obtain ⟨rfl,f⟩:=q;refine Q6 m ?_;refine Z4 ?_;refine Q3 (fun i=>?_) (fun i=>?_)
 .have a:k<l.length:=by simpa using i
  refine N0 m a fun p cells o s t=>?_;obtain ⟨H,D,mv,rfl,y,z,A,B,C⟩:=t;rw[fa];refine ld u o rfl ?_;refine Qs ?_;refine Q3 (fun b=>?_) (fun b=>?_)
  .have b:l[k].name=n:=by simpa using b
   have:Z7 l n=some k:=by
    unfold Z7;rw[List.findIdx?_eq_some_iff_getElem];exact ⟨a,by simpa using b,fun j g=>by simpa using f j Q4 g⟩
   rw[this] at h;exact h
  .have b: ¬l[k].name=n:=by simpa using b
   refine H8 ?_;refine Y9 m.max a ⟨rfl,fun j g r=>?_⟩
   by_cases e:j=k
   .subst e;exact b
   .exact f j g Q4
 .have a: ¬k<l.length:=by simpa using i
  have:Z7 l n=none:=by
   unfold Z7;rw[List.findIdx?_eq_none_iff];intro c i;obtain ⟨j,g,rfl⟩:=List.getElem_of_mem i
   simpa using f j g Q4
  rw[this] at h;exact h)
theorem Q89 {a:Q8} (c:a.length<=U9) (h:K (S (base a).1) w):Q0 P F.aP [S a] w K:=Q0T (by
 unfold Ef X7 X2;have d:=Q2e a;have b:a.length<=140737488355328:=by simp only[U9] at c;omega
 rw[C1 Y6];refine Q3K a b ?_
 (try simp only[↓Mr,Mr,Mb,reduceIte])
 rw[K9 (n:=2*((base a).2:Int)) Q4 Q4,K9 Q4 Q4,Xl Y6 Q4 Q4];rw[show ((a.length:Int)-2*((base a).2:Int)).toNat=a.length-2*(base a).2 from by omega,Q5H]
 exact h)
theorem X3d {s:Q8} (g:X1 w σ) (f:Sl 8 W8 σ v l) (c:s.length<=U9) (h:K (.bool (K3 l s)) w):Q0 P F.bz [v,S s] w K:=Q0S (by
 unfold Ee Y0 X5 V5;have b:s.length<=140737488355328:=by simp only[U9] at c;omega
 unfold K3 at h;refine Qs ?_
 by_cases a:s=Yf
 .have:decide (s=[110,117,108,108])=true:=by rw[decide_eq_true_eq];exact a
  simp only[this,↓M1,M1,Mb,reduceIte];simp only[a,decide_true,Bool.true_or] at h;exact h
 .have:decide (s=[110,117,108,108])=false:=by rw[decide_eq_false_iff_not];exact a
  simp only[this,↓M1,M1,Mb,reduceIte];simp only[a,decide_false,Bool.false_or] at h;refine My s b ?_;cases e:right s with
  | false=>(try simp only[↓M1,M1,Mb,reduceIte]);simpa [e] using h
  | true=>
   (try simp only[↓M1,M1,Mb,reduceIte])
   refine Q89 c ?_
   (try simp only[↓M1,M1,Mb,reduceIte])
   refine Q24 _ ?_;simp only[e,Bool.true_and] at h;cases d:plain (base s).1 with
   | true=>(try simp only[↓M1,M1,Mb,reduceIte]);simpa [d] using h
   | false=>
    (try simp only[↓M1,M1,Mb,reduceIte])
    refine Q89 c ?_
    (try simp only[↓M1,M1,Mb,reduceIte])
    refine Xq g f ?_;refine Yg ?_;rw[Vs]
    (try simp only[↓M1,M1,Mb,reduceIte])
    simpa [d,Q3A] using h)
theorem X26 {s:Q8} (d:X1 w σ) (c:Sl 8 W8 σ v l) (b:s.length<=U9) (h:K (.bool (E3 l s)) w):Q0 P F.bo [v,S s] w K:=Ay (by
 unfold On Y0 V5;unfold E3 at h;refine Hl ?_;have e:decide (s=[110,117,108,108])=decide (s=Yf):=rfl;rw[e];cases a:decide (s=Yf) with
 | true=>
  rw[a] at h
  (try simp only[↓M1,M1,Mb,reduceIte])
  exact h
 | false=>
  rw[a] at h
  (try simp only[↓M1,M1,Mb,reduceIte])
  refine X3d d c b ?_
  (try simp only[↓M1,M1,Mb,reduceIte])
  simpa using h)
def Ct (c:Cla) (n:Q8):Option Nat:=c.methods.findIdx? fun m=>decide (m.name=n)
theorem Q9E {c:Cla} {cs:List Value} {n:Q8} (C:X1 w σ) (r:W8 σ c cs) (h: ∀w' D,Stp w σ w' D->K (I (M9 (Ct c n))) w'):Q0 P F.aW [.agg cs.toArray,S n] w K:=Q1Y (by
 unfold Re Y2 U4 X7 X2;obtain ⟨Y,N,mv,rfl,H,J,o,L,M⟩:=r;refine J1 C fun q w0 σ0 a t=>?_;have o:=o.up a;refine U8 c.methods.length (fun k w'=>w'=w0/\ ∀j (i:j<c.methods.length),j<k-> ¬c.methods[j].name=n) ⟨rfl,fun j _ h=>by omega⟩ fun k w1 d W u=>?_
 obtain ⟨rfl,g⟩:=u;rw[fa];refine ld a.sat t rfl ?_;refine Q6 o ?_;refine Z4 ?_;refine Q3 (fun r=>?_) (fun r=>?_)
 .have b:k<c.methods.length:=by simpa using r
  rw[fa];refine ld a.sat t rfl ?_;refine N0 o b fun p cells s z B=>?_;obtain ⟨pv,E,X,rfl,O,Q,R,U,V⟩:=B;rw[fa];refine ld a.sat s rfl ?_;refine Qs ?_;refine Q3 (fun f=>?_) (fun f=>?_)
  .have f:c.methods[k].name=n:=by simpa using f
   have:Ct c n=some k:=by
    unfold Ct;rw[List.findIdx?_eq_some_iff_getElem];exact ⟨b,by simpa using f,fun j i=>by simpa using g j Q4 i⟩
   rw[this] at h;exact h _ _ a
  .have f: ¬c.methods[k].name=n:=by simpa using f
   refine H8 ?_;refine Y9 o.max b ⟨rfl,fun j i y=>?_⟩
   by_cases e:j=k
   .subst e;exact f
   .exact g j i Q4
 .have b: ¬k<c.methods.length:=by simpa using r
  have:Ct c n=none:=by
   unfold Ct;rw[List.findIdx?_eq_none_iff];intro m A;obtain ⟨j,i,rfl⟩:=List.getElem_of_mem A
   simpa using g j i Q4
  rw[this] at h;exact h _ _ a)
theorem Fy {n:Q8} {d:Cla} (f:X1 w σ) (e:Sl 8 W8 σ v l) (c:lk l n=some d) (h: ∀i:Nat,l[i]? =some d->Z7 l n=some i->K (I i) w):Q0 P F.b [v,S n] w K:=by
 obtain ⟨_,_,i,a,b⟩:=L5 c;refine Xq f e ?_;rw[a];exact h i b a
theorem Q23 {n:Q8} (f:X1 w σ) (e:Sl 8 W8 σ v l) (b:lk l n=none) (h:K (I (-1)) w):Q0 P F.b [v,S n] w K:=by
 refine Xq f e ?_;cases d:Z7 l n with
 | none=>exact h
 | some i=>obtain ⟨c,a,_⟩:=Vu d;rw[b] at a;cases a
theorem X2Y:decide ((-1:Int)<0)=true:=by decide
theorem Q7I (i:Nat):decide ((i:Int)<0)=false:=by rw[decide_eq_false_iff_not];omega
theorem X0Q {c:Cla} {cs:List Value} (hs:X1 w σ) (hl:Sl 8 W8 σ v l) (A:W8 σ c cs) (h: ∀w' σ',Stp w σ w' σ'->K (I (E4 l c)) w'):Q0 P F.b9 [v, .agg cs.toArray] w K:=Kp (by
 unfold Ms J5 Y2 Z5 U4 Y0 X7 X5 X2;obtain ⟨lv,fv,mv,rfl,z,f2,f3,f4,f5⟩:=A;refine J1 hs fun q w0 σ0 o Q=>?_;have z:=z.up o;have b:=hl.up o;have a:=o.sat;have y: ∀n:Nat,E4 l c=n->K (I n) w0:=fun n e=>by rw[<-e];exact h _ _ o
 clear h
 (try simp only[↓M1,M1,Mb,reduceIte])
 refine ld a Q rfl ?_;have m:Jd l c.super=true->K (I (61:Nat)) w0:=fun e=>y 61 (by unfold E4;rw[if_pos e])
 cases J:lk l c.super with
 | none=>
  refine Q23 a b J ?_;simp only[X2Y,↓M1,M1,Mb,reduceIte];exact m (by unfold Jd;rw[J])
 | some d=>
  refine Fy a b J fun i Y hf=>?_;obtain ⟨s,N⟩:=List.getElem?_eq_some_iff.1 Y;simp only[Q7I,↓M1,M1,Mb,reduceIte];refine U2 b s ?_;obtain ⟨ad,V,af,R,r1⟩:=b.elC s;rw[N] at R
  (try simp only[↓M1,M1,Mb,reduceIte])
  refine ld a R rfl ?_;have g:Jd l c.super=(d.iface||d.fin):=by unfold Jd;rw[J]
  cases D:d.iface with
  | true=>
   rw[D] at g
   (try simp only[↓M1,M1,Mb,reduceIte])
   exact m (by rw[g];rfl)
  | false=>
   rw[D] at g
   (try simp only[↓M1,M1,Mb,reduceIte])
   refine U2 b s ?_
   (try simp only[↓M1,M1,Mb,reduceIte])
   refine ld a R rfl ?_;cases B:d.fin with
   | true=>
    rw[B] at g
    (try simp only[↓M1,M1,Mb,reduceIte])
    exact m (by rw[g];rfl)
   | false=>
    rw[B] at g;have H:Jd l c.super=false:=g
    (try simp only[↓M1,M1,Mb,reduceIte])
    refine U8 c.like.length (fun k w'=>w'=w0/\(c.like.take k).any (C2 l)=false) ⟨rfl,rfl⟩ fun k w1 d1 hk M=>?_;obtain ⟨hw,u⟩:=M;subst hw
    (try simp only[↓M1,M1,Mb,reduceIte])
    refine ld a Q rfl ?_;refine Q6 z ?_;refine Z4 ?_;refine Q3 (fun A=>?_) (fun A=>?_)
    .have f:k<c.like.length:=by simpa using A
     have r:C2 l c.like[k]=true->K (I (62:Nat)) w1:=fun e=>y 62 (by
      unfold E4;rw[H,I5 f e];rfl)
     have t:C2 l c.like[k]=false->(c.like.take (k+1)).any (C2 l)=false:=fun e=>by rw[D6 f,u,e];rfl
     (try simp only[↓M1,M1,Mb,reduceIte])
     refine ld a Q rfl ?_;refine U2 z f ?_;obtain ⟨p2,_⟩:=z.elS f;refine Y4 a p2 rfl ?_;cases L:lk l c.like[k] with
     | none=>
      refine Q23 a b L ?_;simp only[X2Y,↓M1,M1,Mb,reduceIte];exact r (by unfold C2;rw[L])
     | some e=>
      refine Fy a b L fun j Z X=>?_;obtain ⟨E,O⟩:=List.getElem?_eq_some_iff.1 Z;simp only[Q7I,↓M1,M1,Mb,reduceIte];refine U2 b E ?_;obtain ⟨ae,W,ag,U,r3⟩:=b.elC E;rw[O] at U
      (try simp only[↓M1,M1,Mb,reduceIte])
      refine ld a U rfl ?_;have p:C2 l c.like[k]= !e.iface:=by unfold C2;rw[L]
      cases C:e.iface with
      | true=>
       rw[C] at p
       (try simp only[↓M1,M1,Mb,reduceIte])
       exact Y9 z.max f ⟨rfl,t p⟩
      | false=>
       rw[C] at p
       (try simp only[↓M1,M1,Mb,reduceIte])
       exact r p
    .have f: ¬k<c.like.length:=by simpa using A
     rw[C0 f] at u;exact y 0 (by unfold E4;rw[H,u];rfl))
theorem Q8H {n:Q8} (h:lk l n=none):W9 l n=[]:=by unfold W9;rw[Nd h];rfl
theorem Q8I (a:Zc l) {n:Q8} {c:Cla} (h:lk l n=some c):W9 l n=W9 l c.super++c.fields:=by
 unfold W9;rw[Cb a,h]
 simp
theorem Q44 (a: ∀c∈l,Qe c) (n:Q8):(W9 l n).length<=(l.length+1)*1000000:=by
 unfold W9;have b:=Xo (fun c:Cla=>c.fields) 1000000 (chain l n).reverse fun c e=>(a c (Q19 (by simpa using e))).2.1
 have d:=Fe l n;rw[List.length_reverse] at b;exact Nat.le_trans b (Nat.mul_le_mul_right _ d)
theorem Q3e {n:Q8} (a:lk l n=none) (b:X1 w σ) (e:Sl 8 W8 σ v l) (h: ∀c w' d,Stp w σ w' d->Sl 3 C5 d c (W9 l n)->K c w'):Q0 P F.a3 [v,S n] w K:=Mx (by
 unfold Ym;simp only[Z1,Y1,D0];unfold X5;refine Q23 b e a ?_;simp only[X2Y,↓M1,M1,Mb,reduceIte];exact h _ _ _ (Stp.refl b) (by rw[Q8H a];exact Sl.nil))
theorem Q97 (o:Zc l) (hl:l.length<=1000) (g: ∀c∈l,Qe c): ∀(k:Nat) {n:Q8} {w:World} {σ:Q2} {K:Value->World->Prop},(lk l n=none\/K2 l n<k)->X1 w σ->Sl 8 W8 σ v l->
 (∀j w' m,Stp w σ w' m->Sl 3 C5 m j (W9 l n)->K j w')->Q0 P F.a3 [v,S n] w K:=by
 intro k
 induction k with
 | zero=>
  intro n w σ K hk f b h
  rcases hk with hk | hk
  .exact Q3e hk f b h
  .omega
 | succ k ih=>
  intro n w σ K hk f b h;cases a:lk l n with
  | none=>exact Q3e a f b h
  | some c=>
   have hk:K2 l n<k+1:=by
    rcases hk with hk | hk
    .rw[a] at hk;cases hk
    .exact hk
   refine Mx ?_;unfold Ym;simp only[Z1,Y1,D0];unfold X5;refine Fy f b a fun i Z hf=>?_;obtain ⟨D,C⟩:=List.getElem?_eq_some_iff.1 Z;simp only[Q7I,↓M1,M1,Mb,reduceIte];obtain ⟨lv,fv,mv,p1,O⟩:=b.elC D;rw[C] at p1 O;obtain ⟨_,V,_,_,_⟩:=O.parts
   have E:lk l c.super=none\/K2 l c.super<k:=by
    cases hu:lk l c.super with
    | none=>exact .inl rfl
    | some d=>
     have:=Qw o a (u:=c.super) (by simp[V8]) hu
     right;omega
   have Y:=Q44 g c.super;have X:=(g c (L5 a).2.1).2.1;have N:(l.length+1)*1000000<=1001*1000000:=Nat.mul_le_mul_right _ Q4;refine L9 f ?_
   (repeat refine J9 Md ?_)
   refine X05 (R:=C5) M5 ?_
   (repeat refine J9 Md ?_)
   refine Hi (w:=w) (σ:=σ) (Φ:=fun m v=>Sl 3 C5 m v (W9 l c.super)) (fun t w p e=>?_) ?_
   .subst e;exact ih E p.sat b fun j w' m hk H=>Pj p hk H
   refine Q5b (w:=w) (σ:=σ) (R:=C5) (sz:=3) (e:=T.j) (W9 l c.super) (fun L M w p r s=>?_) ?_
   .obtain ⟨k1,Q,U⟩:=r
    obtain ⟨σ2,k2,s2⟩:=s;exact X58 k1 Q U k2.sat s2 (fun _ _ h=>h) rfl Q4 Q4 fun j w' hk o=>Q7d p hk o
   (repeat refine J9 Md ?_)
   rintro ah ai al am L aj M ak an w2 W rfl rfl rfl rfl _ rfl _ ⟨y,q⟩ rfl;refine Hk y q V rfl Q4 Q4 fun j w3 aa z B _=>?_;obtain ⟨σ4,A,J,_⟩:=B.keep z;exact h _ _ _ A (by rw[Q8I o a];exact J)
theorem X0M {n:Q8} (g:X1 w σ) (i:Sl 8 W8 σ v l) (e:Zc l) (f:l.length<=1000) (a: ∀c∈l,Qe c) (h: ∀b w' d,Stp w σ w' d->Sl 3 C5 d b (W9 l n)->K b w'):Q0 P F.a3 [v,S n] w K:=
 Q97 e f a _ (.inr (Nat.lt_succ_self _)) g i h
theorem X22 {n f:Q8} (D:X1 w σ) (E:Sl 8 W8 σ v l) (y:Zc l) (B:l.length<=1000) (u: ∀c∈l,Qe c) (h: ∀w' L,Stp w σ w' L->K (I (M9 (De l n f))) w'):Q0 P F.bn [v,S n,S f] w K:=Aw (by
 unfold Ol Y2 U4 X7 X2;refine X0M D E y B u fun N w1 σ1 r b=>?_;have s: ∀o,De l n f=o->K (I (M9 o)) w1:=fun o e=>by rw[<-e];exact h _ _ r
 unfold De at s;generalize W9 l n=g at b s;refine U8 g.length (fun k w'=>w'=w1/\ ∀j (q:j<g.length),j<k-> ¬g[j].name=f) ⟨rfl,fun j _ h=>by omega⟩ fun k O d M z=>?_
 obtain ⟨H,p⟩:=z;subst H;refine Q6 b ?_;refine Z4 ?_;refine Q3 (fun t=>?_) (fun t=>?_)
 .have a:k<g.length:=by simpa using t
  refine U2 b a ?_;obtain ⟨J,_⟩:=b.elF a
  (try simp only[↓M1,M1,Mb,reduceIte])
  refine ld r.sat J rfl ?_;refine Qs ?_;refine Q3 (fun i=>?_) (fun i=>?_)
  .have i:g[k].name=f:=by simpa using i
   exact s (some k) (by
    rw[List.findIdx?_eq_some_iff_getElem];exact ⟨a,by simpa using i,fun j q=>by simpa using p j Q4 q⟩)
  .have i: ¬g[k].name=f:=by simpa using i
   (try simp only[↓M1,M1,Mb,reduceIte])
   refine Y9 b.max a ⟨rfl,fun j q A=>?_⟩
   by_cases e:j=k
   .subst e;exact i
   .exact p j q Q4
 .have a: ¬k<g.length:=by simpa using t
  exact s none (by
   rw[List.findIdx?_eq_none_iff];intro m C;obtain ⟨j,q,rfl⟩:=List.getElem_of_mem C
   simpa using p j q Q4))
end Go.Proofs.Y
