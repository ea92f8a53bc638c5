/- Parts of a proof about the given program: its functions as texts of their own, what each computes, plain laws of that. The conditions of each stand in its statement. -/
import Derived.Test.YtjdiakhipmggjaaGreatDoorB3
import Derived.Shelf.Strings.Builder1
import Derived.Shelf.Strings.Builder2
import Derived.Shelf.Strings.OnBuilder
import Derived.Shelf.Strings.Trim
import Derived.Shelf.Small.Utf8
import Derived.Shelf.Small.Strs
import Derived.Shelf.Strings.BuilderF
import Derived.Shelf.Strings.BuilderK
import Derived.Shelf.Strings.Builder2Cap
import Derived.Shelf.Strings.Search1
import Derived.Shelf.Strings.Search2
import Derived.Shelf.Strings.Search3
import Derived.Shelf.Strings.Cut
import Derived.Shelf.LaysM
import Derived.Shelf.Strings.Shaped
import Derived.Shelf.Strings.Prefix
import Derived.Shelf.Unicode.Decode
import Derived.Shelf.Strings.Runes
import Derived.Shelf.Strings.AsciiSet
import Derived.Shelf.Unicode.DecodeSlow
import Derived.Shelf.Unicode.DecodeAny
import Derived.Shelf.Unicode.DecodeLast
import Derived.Ground.Names2Prog
import Derived.Shelf.Slices.Clone
import Derived.Shelf.Unicode.ValidAny
import Derived.Test.YtjdiakhipmggjaaGreatDoorProg
import Derived.Test.YtjdiakhipmggjaaGreatDoorRows
import Derived.Lib.LaidU8T
import Derived.OpenShut
import Derived.MakeChecks
import Derived.WideShapes
import Derived.Lib.AsciiSet
import Derived.Lib.Join
import Derived.Maps.RangeRun
set_option linter.unnecessarySimpa false
set_option linter.defProp false
set_option linter.unusedSectionVars false
set_option linter.unusedVariables false
set_option linter.unusedSimpArgs false
namespace Go.Proofs
open Go.Shelf
def Tryz.lays156_ren : Go.Shelf.Ren := ⟨fun | 156 => 143 | 165 => 176 | 166 => 177 | 169 => 178 | 240 => 200 | 241 => 201 | 276 => 213 | 277 => 214 | n => n, fun | 31 => 54 | 9 => 9 | 3 => 3 | 4 => 4 | 0 => 0 | 20 => 20 | 72 => 205 | 76 => 208 | 70 => 202 | 37 => 203 | 75 => 207 | 127 => 220 | 164 => 230 | 5 => 5 | 80 => 210 | n => n, fun | n => n⟩
theorem Tryz.lays156 : Go.Proofs.Lays.n156 Tryz.prog Tryz.lays156_ren := {
  mixed := by kernel_rfl
  f156 := Tryz.func143.trans (congrArg some (by kernel_rfl))
  f165 := Tryz.func176.trans (congrArg some (by kernel_rfl))
  f166 := Tryz.func177.trans (congrArg some (by kernel_rfl))
  f169 := Tryz.func178.trans (congrArg some (by kernel_rfl))
  f240 := Tryz.func200.trans (congrArg some (by kernel_rfl))
  f241 := Tryz.func201.trans (congrArg some (by kernel_rfl))
  f276 := Tryz.func213.trans (congrArg some (by kernel_rfl))
  f277 := Tryz.func214.trans (congrArg some (by kernel_rfl))
  t0 := Tryz.underlying0
  a0 := Tryz.isAgg0
  z0 := Tryz.sizeOf0
  v0 := Tryz.zeroValue0
  t3 := Tryz.underlying3
  a3 := Tryz.isAgg3
  z3 := Tryz.sizeOf3
  v3 := Tryz.zeroValue3
  t4 := Tryz.underlying4
  a4 := Tryz.isAgg4
  z4 := Tryz.sizeOf4
  v4 := Tryz.zeroValue4
  t9 := Tryz.underlying9
  a9 := Tryz.isAgg9
  z9 := Tryz.sizeOf9
  v9 := Tryz.zeroValue9
  t20 := Tryz.underlying20
  a20 := Tryz.isAgg20
  z20 := Tryz.sizeOf20
  v20 := Tryz.zeroValue20
  t31 := Tryz.underlying54
  a31 := Tryz.isAgg54
  z31 := Tryz.sizeOf54
  v31 := Tryz.zeroValue54
  t37 := Tryz.underlying203
  a37 := Tryz.isAgg203
  z37 := Tryz.sizeOf203
  v37 := Tryz.zeroValue203
  t70 := Tryz.underlying202
  a70 := Tryz.isAgg202
  z70 := Tryz.sizeOf202
  v70 := Tryz.zeroValue202
  t72 := Tryz.underlying205
  a72 := Tryz.isAgg205
  z72 := Tryz.sizeOf205
  v72 := Tryz.zeroValue205
  t75 := Tryz.underlying207
  a75 := Tryz.isAgg207
  z75 := Tryz.sizeOf207
  v75 := Tryz.zeroValue207
  t76 := Tryz.underlying208
  a76 := Tryz.isAgg208
  z76 := Tryz.sizeOf208
  v76 := Tryz.zeroValue208
  t127 := Tryz.underlying220
  a127 := Tryz.isAgg220
  z127 := Tryz.sizeOf220
  v127 := Tryz.zeroValue220
  t164 := Tryz.underlying230
  a164 := Tryz.isAgg230
  z164 := Tryz.sizeOf230
  v164 := Tryz.zeroValue230 }
theorem Tryz.Builder_Extra_156 : Builder.Extra Tryz.prog Tryz.lays156_ren := {
  sizeBuilder := by kernel_rfl
  liesBuilder := by kernel_rfl
  t5 := Tryz.underlying5
  a5 := Tryz.isAgg5
  z5 := Tryz.sizeOf5
  v5 := Tryz.zeroValue5
  infoByte := by kernel_rfl
  cellsByte := by kernel_rfl
  sizeByte := by kernel_rfl
  neB5 := by decide }
open Go.RowKit in
theorem Tryz.strings_Join_none (a : Option Addr) (c : Nat) (sep : ByteArray) (w : World) :
    Calls Tryz.prog 143 #[.slice a 0 c, .string sep] w fun e w' => e = .returned (.string ⟨#[]⟩) ∧ w' = w := Any.strings_Join_none Tryz.lays156 Tryz.Builder_Extra_156 a c sep w
open Go.RowKit in
theorem Tryz.strings_Join (bk o c : Nat) (xs : List ByteArray) (sep : ByteArray) (w : World) (hcells : ∀ (j : Nat) x, xs[j]? = some x → w.cell? ⟨bk, o + j, none⟩ = some (.string x)) (hbk : bk < w.heap.size) (hN : xs.length ≤ 140737488355328) (hcap : xs.length ≤ c) (hlen : (Lib.join (xs.map (·.data.toList)) sep.data.toList).length ≤ 140737488355328) :
    Calls Tryz.prog 143 #[.slice (some ⟨bk, o, none⟩) xs.length c, .string sep] w fun e w' => e = .returned (.string ⟨(Lib.join (xs.map (·.data.toList)) sep.data.toList).toArray⟩) ∧ Below w.heap.size w w' := Any.strings_Join Tryz.lays156 Tryz.Builder_Extra_156 bk o c xs sep w hcells hbk hN hcap hlen
open Go.RowKit in
def Tryz.lays144_ren : Go.Shelf.Ren := ⟨fun | 144 => 210 | 143 => 223 | 219 => 228 | 217 => 227 | 225 => 220 | 224 => 219 | 267 => 232 | 266 => 231 | 314 => 234 | n => n, fun | 9 => 9 | 4 => 4 | 3 => 3 | 5 => 5 | 46 => 158 | 146 => 242 | 51 => 241 | n => n, fun | 1 => 4 | n => n⟩
theorem Tryz.lays144 : Go.Proofs.Lays.n144 Tryz.prog Tryz.lays144_ren := {
  mixed := by kernel_rfl
  f143 := Tryz.func223.trans (congrArg some (by kernel_rfl))
  f144 := Tryz.func210.trans (congrArg some (by kernel_rfl))
  f217 := Tryz.func227.trans (congrArg some (by kernel_rfl))
  f219 := Tryz.func228.trans (congrArg some (by kernel_rfl))
  f224 := Tryz.func219.trans (congrArg some (by kernel_rfl))
  f225 := Tryz.func220.trans (congrArg some (by kernel_rfl))
  f266 := Tryz.func231.trans (congrArg some (by kernel_rfl))
  f267 := Tryz.func232.trans (congrArg some (by kernel_rfl))
  f314 := Tryz.func234.trans (congrArg some (by kernel_rfl))
  t3 := Tryz.underlying3
  a3 := Tryz.isAgg3
  z3 := Tryz.sizeOf3
  v3 := Tryz.zeroValue3
  t4 := Tryz.underlying4
  a4 := Tryz.isAgg4
  z4 := Tryz.sizeOf4
  v4 := Tryz.zeroValue4
  t5 := Tryz.underlying5
  a5 := Tryz.isAgg5
  z5 := Tryz.sizeOf5
  v5 := Tryz.zeroValue5
  t9 := Tryz.underlying9
  a9 := Tryz.isAgg9
  z9 := Tryz.sizeOf9
  v9 := Tryz.zeroValue9
  t46 := Tryz.underlying158
  a46 := Tryz.isAgg158
  z46 := Tryz.sizeOf158
  v46 := Tryz.zeroValue158
  t51 := Tryz.underlying241
  a51 := Tryz.isAgg241
  z51 := Tryz.sizeOf241
  v51 := Tryz.zeroValue241
  t146 := Tryz.underlying242
  a146 := Tryz.isAgg242
  z146 := Tryz.sizeOf242
  v146 := Tryz.zeroValue242
  g1 := by kernel_rfl }
open Go.RowKit Go.Lib in
theorem Tryz.strings_Contains_one (s : ByteArray) (c : UInt8) (w : World) :
    Calls Tryz.prog 210 #[.string s, .string ⟨#[c]⟩] w fun e w' => e = .returned (.bool (decide (0 ≤ Lib.indexByte s.data.toList c))) ∧ w' = w := Any.strings_Contains_one Tryz.lays144 s c w
def Tryz.lays227_ren : Go.Shelf.Ren := ⟨fun | 227 => 157 | n => n, fun | 9 => 9 | 116 => 190 | 4 => 4 | 0 => 0 | 3 => 3 | 5 => 5 | n => n, fun | n => n⟩
theorem Tryz.lays227 : Go.Proofs.Lays.n227 Tryz.prog Tryz.lays227_ren := {
  mixed := by kernel_rfl
  f227 := Tryz.func157.trans (congrArg some (by kernel_rfl))
  t0 := Tryz.underlying0
  a0 := Tryz.isAgg0
  z0 := Tryz.sizeOf0
  v0 := Tryz.zeroValue0
  t3 := Tryz.underlying3
  a3 := Tryz.isAgg3
  z3 := Tryz.sizeOf3
  v3 := Tryz.zeroValue3
  t4 := Tryz.underlying4
  a4 := Tryz.isAgg4
  z4 := Tryz.sizeOf4
  v4 := Tryz.zeroValue4
  t5 := Tryz.underlying5
  a5 := Tryz.isAgg5
  z5 := Tryz.sizeOf5
  v5 := Tryz.zeroValue5
  t9 := Tryz.underlying9
  a9 := Tryz.isAgg9
  z9 := Tryz.sizeOf9
  v9 := Tryz.zeroValue9
  t116 := Tryz.underlying190
  a116 := Tryz.isAgg190
  z116 := Tryz.sizeOf190 }
open Go.RowKit Go.Lib in
theorem Tryz.strings_makeASCIISet (hv116 : ∀ w, (zeroValue 190).run Tryz.prog w = .ok (.agg (Array.replicate 256 (.bool false))) w) (chars : ByteArray) (w : World) (hs : chars.size < 4294967281) (hascii : ∀ (j : Nat) b, chars.data.toList[j]? = some b → b.toNat < 128) :
    Calls Tryz.prog 157 #[.string chars] w fun e w' => e = .returned (.tuple #[.agg (Lib.setCells chars.data.toList), .bool true]) ∧ w' = w.alloc (.cells (Lib.setCells chars.data.toList) 190) := Any.strings_makeASCIISet Tryz.lays227 hv116 (by kernel_rfl) chars w hs hascii
open Go.RowKit Go.Lib in
def Tryz.lays196_ren : Go.Shelf.Ren := ⟨fun | 196 => 64 | 259 => 112 | n => n, fun | 9 => 9 | 4 => 4 | 3 => 3 | 5 => 5 | 12 => 12 | 119 => 154 | 0 => 0 | 46 => 158 | 139 => 157 | 138 => 156 | 53 => 184 | n => n, fun | 3 => 1 | 4 => 2 | n => n⟩
theorem Tryz.lays196 : Go.Proofs.Lays.n196 Tryz.prog Tryz.lays196_ren := {
  mixed := by kernel_rfl
  f196 := Tryz.func64.trans (congrArg some (by kernel_rfl))
  f259 := Tryz.func112.trans (congrArg some (by kernel_rfl))
  t0 := Tryz.underlying0
  a0 := Tryz.isAgg0
  z0 := Tryz.sizeOf0
  v0 := Tryz.zeroValue0
  t3 := Tryz.underlying3
  a3 := Tryz.isAgg3
  z3 := Tryz.sizeOf3
  v3 := Tryz.zeroValue3
  t4 := Tryz.underlying4
  a4 := Tryz.isAgg4
  z4 := Tryz.sizeOf4
  v4 := Tryz.zeroValue4
  t5 := Tryz.underlying5
  a5 := Tryz.isAgg5
  z5 := Tryz.sizeOf5
  v5 := Tryz.zeroValue5
  t9 := Tryz.underlying9
  a9 := Tryz.isAgg9
  z9 := Tryz.sizeOf9
  v9 := Tryz.zeroValue9
  t12 := Tryz.underlying12
  a12 := Tryz.isAgg12
  z12 := Tryz.sizeOf12
  v12 := Tryz.zeroValue12
  t46 := Tryz.underlying158
  a46 := Tryz.isAgg158
  z46 := Tryz.sizeOf158
  v46 := Tryz.zeroValue158
  t53 := Tryz.underlying184
  a53 := Tryz.isAgg184
  z53 := Tryz.sizeOf184
  v53 := Tryz.zeroValue184
  t119 := Tryz.underlying154
  a119 := Tryz.isAgg154
  z119 := Tryz.sizeOf154
  t138 := Tryz.underlying156
  a138 := Tryz.isAgg156
  z138 := Tryz.sizeOf156
  v138 := Tryz.zeroValue156
  t139 := Tryz.underlying157
  a139 := Tryz.isAgg157
  z139 := Tryz.sizeOf157
  v139 := Tryz.zeroValue157
  g3 := by kernel_rfl
  g4 := by kernel_rfl }
end Go.Proofs

namespace Go.Proofs.YtjdiakhipmggjaaGreatDoor
open Go.Emb Go.RowKit Go.Kd Go.Hm
variable {w : World} {K : Value → World → Prop} {σ : Q5}
theorem X0k {f:FuncId} {fn:Func} {a:List Value} {V:Value} (g:P.funcs[f]? =some fn) (b:fn.body.isSome=true) (d:(fn.name== "runtime.NumGoroutine")=false)
 (h:Calls P f a.toArray w fun e w'=>e= .returned V∧Below w.heap.size w w') (c: ∀w',Below w.heap.size w w'→K V w'):Q1 P f a w K:=by
 refine Wl g b d (Calls.mono h ?_)
 rintro e w' ⟨rfl,b⟩
 exact c w' b
theorem Tj {a:X0} (c:a.length≤U0) (b:Lib.Utf8Tabs G.e G.d w) (h: ∀w',Below w.heap.size w w'→K (.bool (Lib.validD a)) w'):Q1 P F.b2 [S a] w K:=
 X0k Tryz.func64 (by kernel_rfl) (by kernel_rfl) (by
  have:=Any.utf8_ValidString Tryz.lays196 ⟨a.toArray⟩ w (by rw[I5];simp only[U0] at c;omega) b
  simp only[List.toList_toArray] at this
  exact this) h
theorem Q6V {a:X0} {c:UInt8} (h:K (.bool (decide (0≤Lib.indexByte a c))) w):Q1 P F.cE [S a,S [c]] w K:=by
 refine Wl (fn:=Tryz.f210) Tryz.func210 (by kernel_rfl) (by kernel_rfl) (Calls.mono (Tryz.strings_Contains_one ⟨a.toArray⟩ c w) ?_)
 rintro e w' ⟨rfl,rfl⟩
 exact h
structure Glb (σ : Q5) : Prop where
  ops : Q2G σ
  tabs : ∀ w, X2 w σ → Lib.Utf8Tabs G.e G.d w
  flt : Z4 σ ⟨G.b, 0, none⟩ (U4.map S)
theorem Glb.lift {σ0:Q5} (h:Glb σ0) (k:SLe σ0 σ):Glb σ:=⟨h.ops.le k.le,fun w a=>h.tabs w fun b o e=>a b o (k.le b o e),h.flt.le k.le⟩
def txt (n s:X0):Bool:=
 if n=[119,111,114,100] then decide (s.length≤64)&&Lib.validD s&& !decide (0≤Lib.indexByte s 10)
 else if n=[110,101,119] then M6 s
 else if n=[105,115]∨n=[99,97,115,116] then right s&& !plain s
 else if n=[97,114,114,97,121] then right s&&decide (Xi s<3)
 else Zf s
theorem X3c {n a:X0} (ha:a.length≤U0) (hs:X2 w σ) (hg:Glb σ) (h: ∀w' σ',Stp w σ w' σ'→K (.bool (txt n a)) w'):Q1 P F.cL [S n,S a] w K:=Q6T (by
 unfold Q2l
 have ha':a.length≤140737488355320:=by simp only[U0] at ha;omega
 have ha2:a.length≤140737488355328:=by simp only[U0] at ha;omega
 have hv: ∀{w1:World} {K:Value→World→Prop},X2 w1 σ→(∀w',Below w1.heap.size w1 w'→K (.bool (Lib.validD a)) w')→Q1 P F.b2 [S a] w1 K:=fun hk h=>Tj ha (hg.tabs _ hk) h
 unfold txt at h
 have e:decide ((a.length:Int)≤64)=decide (a.length≤64):=by rw[Bool.eq_iff_iff];simp only[decide_eq_true_eq];omega
 have e3:decide ((Xi a:Int)<3)=decide (Xi a<3):=by rw[Bool.eq_iff_iff];simp only[decide_eq_true_eq];omega
 by_cases h1:n=[119,111,114,100]
 ·rw[if_pos h1] at h
  simp only[decide_eq_true h1,↓M1,M1,Mb,reduceIte,e]
  by_cases h2:a.length≤64
  ·simp only[decide_eq_true h2,↓M1,M1,Mb,reduceIte] at h⊢
   refine hv hs (W9 hs ?_)
   intro w1 σ1 hk
   by_cases h3:Lib.validD a=true
   ·simp only[h3,↓M1,M1,Mb,reduceIte] at h⊢
    refine Q6V ?_
    (repeat' (first | (with_reducible intro _) | (with_reducible refine U9 ?_) | (simp only[↓M2,M2,Mb,reduceIte]) | (with_reducible first | refine ld aS aL aR ?_ | refine X7 aS aL aR ?_ | refine Y4 aS aL aR ?_ | refine Q8 aL ?_ | refine J0 aR ?_ | refine Y9 aS ?_ | refine N2 aS aL ?_ | refine U5 aS aR ?_ | refine Y7 aS aR aR (Rep.one (by assumption)) ?_ | refine U6 aS aR aR aR ?_ | (refine Z8 (fun hh=>?_) (fun hh=>?_)<;>(try simp only[hh,Bool.not_true,Bool.not_false,↓M2,M2,Mb,reduceIte])) | (refine Q7 (fun hh=>?_) (fun hh=>?_)<;>(try simp only[hh,Bool.not_true,Bool.not_false,↓M2,M2,Mb,reduceIte])))))
    all_goals exact aF
   ·simp only[eq_false_of_ne_true h3,↓M1,M1,Mb,reduceIte] at h⊢
    (repeat' (first | (with_reducible intro _) | (with_reducible refine U9 ?_) | (simp only[↓M2,M2,Mb,reduceIte]) | (with_reducible first | refine ld aS aL aR ?_ | refine X7 aS aL aR ?_ | refine Y4 aS aL aR ?_ | refine Q8 aL ?_ | refine J0 aR ?_ | refine Y9 aS ?_ | refine N2 aS aL ?_ | refine U5 aS aR ?_ | refine Y7 aS aR aR (Rep.one (by assumption)) ?_ | refine U6 aS aR aR aR ?_ | (refine Z8 (fun hh=>?_) (fun hh=>?_)<;>(try simp only[hh,Bool.not_true,Bool.not_false,↓M2,M2,Mb,reduceIte])) | (refine Q7 (fun hh=>?_) (fun hh=>?_)<;>(try simp only[hh,Bool.not_true,Bool.not_false,↓M2,M2,Mb,reduceIte])))))
    all_goals exact aF
  ·simp only[decide_eq_false h2,↓M1,M1,Mb,reduceIte] at h⊢
   (repeat' (first | (with_reducible intro _) | (with_reducible refine U9 ?_) | (simp only[↓M2,M2,Mb,reduceIte]) | (with_reducible first | refine ld aS aL aR ?_ | refine X7 aS aL aR ?_ | refine Y4 aS aL aR ?_ | refine Q8 aL ?_ | refine J0 aR ?_ | refine Y9 aS ?_ | refine N2 aS aL ?_ | refine U5 aS aR ?_ | refine Y7 aS aR aR (Rep.one (by assumption)) ?_ | refine U6 aS aR aR aR ?_ | (refine Z8 (fun hh=>?_) (fun hh=>?_)<;>(try simp only[hh,Bool.not_true,Bool.not_false,↓M2,M2,Mb,reduceIte])) | (refine Q7 (fun hh=>?_) (fun hh=>?_)<;>(try simp only[hh,Bool.not_true,Bool.not_false,↓M2,M2,Mb,reduceIte])))))
   all_goals exact aF
 rw[if_neg h1] at h
 simp only[decide_eq_false h1,↓M1,M1,Mb,reduceIte]
 by_cases h2:n=[110,101,119]
 ·rw[if_pos h2] at h
  simp only[decide_eq_true h2,↓M1,M1,Mb,reduceIte]
  (repeat' (first | (with_reducible intro _) | (with_reducible refine U9 ?_) | (simp only[↓M2,M2,Mb,reduceIte]) | (with_reducible first | refine ld aS aL aR ?_ | refine X7 aS aL aR ?_ | refine Y4 aS aL aR ?_ | refine Q8 aL ?_ | refine J0 aR ?_ | refine Y9 aS ?_ | refine N2 aS aL ?_ | refine U5 aS aR ?_ | refine Y7 aS aR aR (Rep.one (by assumption)) ?_ | refine U6 aS aR aR aR ?_ | refine Rh _ au (W9 aS ?_) | (refine Z8 (fun hh=>?_) (fun hh=>?_)<;>(try simp only[hh,Bool.not_true,Bool.not_false,↓M2,M2,Mb,reduceIte])) | (refine Q7 (fun hh=>?_) (fun hh=>?_)<;>(try simp only[hh,Bool.not_true,Bool.not_false,↓M2,M2,Mb,reduceIte])))))
  all_goals exact aF
 rw[if_neg h2] at h
 simp only[decide_eq_false h2,↓M1,M1,Mb,reduceIte]
 by_cases h3:n=[105,115]∨n=[99,97,115,116]
 ·rw[if_pos h3] at h
  have e4:(decide (n=[105,115])||decide (n=[99,97,115,116]))=true:=by simpa using h3
  refine U9 ?_
  refine Q7 (fun h4=>?_) (fun h4=>?_)
  ·simp only[h4,↓M1,M1,Mb,reduceIte]
   (repeat' (first | (with_reducible intro _) | (with_reducible refine U9 ?_) | (simp only[↓M2,M2,Mb,reduceIte]) | (with_reducible first | refine ld aS aL aR ?_ | refine X7 aS aL aR ?_ | refine Y4 aS aL aR ?_ | refine Q8 aL ?_ | refine J0 aR ?_ | refine Y9 aS ?_ | refine N2 aS aL ?_ | refine U5 aS aR ?_ | refine Y7 aS aR aR (Rep.one (by assumption)) ?_ | refine U6 aS aR aR aR ?_ | refine Zj _ au (W9 aS ?_) | refine Rf _ ?_ | (refine Z8 (fun hh=>?_) (fun hh=>?_)<;>(try simp only[hh,Bool.not_true,Bool.not_false,↓M2,M2,Mb,reduceIte])) | (refine Q7 (fun hh=>?_) (fun hh=>?_)<;>(try simp only[hh,Bool.not_true,Bool.not_false,↓M2,M2,Mb,reduceIte])))))
   all_goals exact aF
  ·rw[h4,Bool.false_or] at e4
   simp only[e4,↓M1,M1,Mb,reduceIte]
   (repeat' (first | (with_reducible intro _) | (with_reducible refine U9 ?_) | (simp only[↓M2,M2,Mb,reduceIte]) | (with_reducible first | refine ld aS aL aR ?_ | refine X7 aS aL aR ?_ | refine Y4 aS aL aR ?_ | refine Q8 aL ?_ | refine J0 aR ?_ | refine Y9 aS ?_ | refine N2 aS aL ?_ | refine U5 aS aR ?_ | refine Y7 aS aR aR (Rep.one (by assumption)) ?_ | refine U6 aS aR aR aR ?_ | refine Zj _ au (W9 aS ?_) | refine Rf _ ?_ | (refine Z8 (fun hh=>?_) (fun hh=>?_)<;>(try simp only[hh,Bool.not_true,Bool.not_false,↓M2,M2,Mb,reduceIte])) | (refine Q7 (fun hh=>?_) (fun hh=>?_)<;>(try simp only[hh,Bool.not_true,Bool.not_false,↓M2,M2,Mb,reduceIte])))))
   all_goals exact aF
 rw[if_neg h3] at h
 obtain ⟨h3,h4⟩:=not_or.1 h3
 refine U9 ?_
 simp only[decide_eq_false h3,decide_eq_false h4,↓M1,M1,Mb,reduceIte]
 by_cases h5:n=[97,114,114,97,121]
 ·rw[if_pos h5] at h
  simp only[decide_eq_true h5,↓M1,M1,Mb,reduceIte]
  (repeat' (first | (with_reducible intro _) | (with_reducible refine U9 ?_) | (simp only[↓M2,M2,Mb,reduceIte]) | (with_reducible first | refine ld aS aL aR ?_ | refine X7 aS aL aR ?_ | refine Y4 aS aL aR ?_ | refine Q8 aL ?_ | refine J0 aR ?_ | refine Y9 aS ?_ | refine N2 aS aL ?_ | refine U5 aS aR ?_ | refine Y7 aS aR aR (Rep.one (by assumption)) ?_ | refine U6 aS aR aR aR ?_ | refine Zj _ au (W9 aS ?_) | refine Q99 _ au (W9 aS ?_) | (refine Z8 (fun hh=>?_) (fun hh=>?_)<;>(try simp only[hh,Bool.not_true,Bool.not_false,↓M2,M2,Mb,reduceIte])) | (refine Q7 (fun hh=>?_) (fun hh=>?_)<;>(try simp only[hh,Bool.not_true,Bool.not_false,↓M2,M2,Mb,reduceIte])))))
  all_goals (try rw[e3])
  all_goals exact aF
 rw[if_neg h5] at h
 simp only[decide_eq_false h5,↓M1,M1,Mb,reduceIte]
 intro _
 refine X1F a ha2 (W9 hs fun w1 σ1 hk=>?_)
 by_cases hp:Zf a=true
 ·simp only[hp,if_true] at h⊢
  (repeat' (first | (with_reducible intro _) | (with_reducible refine U9 ?_) | (simp only[↓M2,M2,Mb,reduceIte]) | (with_reducible first | refine ld aS aL aR ?_ | refine X7 aS aL aR ?_ | refine Y4 aS aL aR ?_ | refine Q8 aL ?_ | refine J0 aR ?_ | refine Y9 aS ?_ | refine N2 aS aL ?_ | refine U5 aS aR ?_ | refine Y7 aS aR aR (Rep.one (by assumption)) ?_ | refine U6 aS aR aR aR ?_ | (refine Z8 (fun hh=>?_) (fun hh=>?_)<;>(try simp only[hh,Bool.not_true,Bool.not_false,↓M2,M2,Mb,reduceIte])) | (refine Q7 (fun hh=>?_) (fun hh=>?_)<;>(try simp only[hh,Bool.not_true,Bool.not_false,↓M2,M2,Mb,reduceIte])))))
  all_goals exact aF
 ·simp only[eq_false_of_ne_true hp,Bool.false_eq_true,if_false] at h⊢
  (repeat' (first | (with_reducible intro _) | (with_reducible refine U9 ?_) | (simp only[↓M2,M2,Mb,reduceIte]) | (with_reducible first | refine ld aS aL aR ?_ | refine X7 aS aL aR ?_ | refine Y4 aS aL aR ?_ | refine Q8 aL ?_ | refine J0 aR ?_ | refine Y9 aS ?_ | refine N2 aS aL ?_ | refine U5 aS aR ?_ | refine Y7 aS aR aR (Rep.one (by assumption)) ?_ | refine U6 aS aR aR aR ?_ | (refine Z8 (fun hh=>?_) (fun hh=>?_)<;>(try simp only[hh,Bool.not_true,Bool.not_false,↓M2,M2,Mb,reduceIte])) | (refine Q7 (fun hh=>?_) (fun hh=>?_)<;>(try simp only[hh,Bool.not_true,Bool.not_false,↓M2,M2,Mb,reduceIte])))))
  all_goals exact aF)
def H4 (i:Ins):Int:=if !(takes i.op).2.2 then 40 else if (!(takes i.op).1&&decide (i.n≠0))||(!(takes i.op).2.1&&decide (i.s≠[]))||((takes i.op).2.1&& !txt i.op i.s) then 41 else 0
theorem X0O {a:X0} (c:X2 w σ) (b:Glb σ) (h: ∀w',Below w.heap.size w w'→K (.tuple #[.bool (takes a).1, .bool (takes a).2.1, .bool (takes a).2.2]) w'):Q1 P F.cm [S a] w K:=X2n c b.ops h
theorem Q6u {i:Ins} {cs:List Value} (hs:X2 w σ) (hg:Glb σ) (hi:Qp σ i cs) (h: ∀w' σ',Stp w σ w' σ'→K (I (H4 i)) w'):Q1 P F.cH [.agg cs.toArray] w K:=Q5u (by
 obtain ⟨rfl,h1,h2,h3⟩:=hi
 unfold Q0C
 unfold H4 at h
 (repeat' (first | (with_reducible intro _) | (with_reducible refine U9 ?_) | (simp only[↓M2,M2,Mb,reduceIte]) | (with_reducible first | refine ld aS aL aR ?_ | refine X7 aS aL aR ?_ | refine Y4 aS aL aR ?_ | refine Q8 aL ?_ | refine J0 aR ?_ | refine Y9 aS ?_ | refine N2 aS aL ?_ | refine U5 aS aR ?_ | refine Y7 aS aR aR (Rep.one (by assumption)) ?_ | refine U6 aS aR aR aR ?_ | refine X0O au au (W9 aS ?_) | refine X3c au au au ?_ | (refine Z8 (fun hh=>?_) (fun hh=>?_)<;>(try simp only[hh,Bool.not_true,Bool.not_false,↓M2,M2,Mb,reduceIte])) | (refine Q7 (fun hh=>?_) (fun hh=>?_)<;>(try simp only[hh,Bool.not_true,Bool.not_false,↓M2,M2,Mb,reduceIte])))))
 all_goals exact aF)
end Go.Proofs.YtjdiakhipmggjaaGreatDoor

namespace Go.Emb
open Go.RowKit Go.Hm
variable {P : Program} {W : World}
theorem Q2o {w:World} (c:X2 w (Wj W)) {a:Addr} {v:Value} (h:W.cell? a=some v):w.cell? a=some v:=by
 unfold World.cell? at h⊢
 cases b:W.heap[a.block]? with
 | none=>rw[b] at h;cases h
 | some o=>rw[b] at h;rw[c _ o b];exact h
theorem X2O {α:Type} {f:α→List Value} {sz:Nat} (k: ∀a,(f a).length=sz): ∀(l:List α) (cs:List Value),cs.length=l.length*sz→(∀i a,l[i]? =some a→(cs.drop (i*sz)).take sz=f a)→cs=l.flatMap f:=by
 intro l
 induction l with
 | nil=>intro cs h _;simp at h;simp[h]
 | cons a r c=>
  intro cs h hh
  have g:=hh 0 a rfl
  have j:=c (cs.drop sz) (by rw[List.length_drop,h,List.length_cons,Nat.succ_mul];omega) (fun i b e=>by
   have:=hh (i+1) b (by simpa using e)
   rw[List.drop_drop]
   rwa [Nat.succ_mul,Nat.add_comm] at this)
  rw[List.flatMap_cons,←j,←g]
  simp
theorem Q4z {α H:Type} {enc:TypeId×Value→H} {base:Nat} {u:Nat→Bool} {b:Bool} {f:α→List Value} {k:α→DataW H} {n sz:Nat} {t e:TypeId} {c:Nat} {cs:List Value} {p:List MemPlace} (C:P.underlying t=some (.array n e)) (D:P.cellsOf e=sz) (j:P.cellsOf t=n*sz)
 (l:List α) (z: ∀a,(f a).length=sz) (o: ∀m cs a q,DataW.trod enc P W base u b m e cs=some (k a,q)→cs=f a)
 (h:DataW.trod enc P W base u b c t cs=some (.agg (l.map k),p)):cs=l.flatMap f:=by
 obtain ⟨xs,m,_,g,A,L,y⟩:=DataW.trod_array C h
 simp only[Prod.mk.injEq,DataW.agg.injEq] at g
 have E:l.length=n:=by have:=congrArg List.length g.1;simp at this;omega
 refine X2O z l cs (by rw[A,j,E]) fun i a w=>?_
 have J:i<l.length:=(List.getElem?_eq_some_iff.1 w).1
 have s:=y i (by omega)
 have r:i<xs.length:=by omega
 rw[List.getElem?_eq_getElem r,D] at s
 have B:(xs[i]).1=k a:=by
  have:=congrArg (·[i]?) g.1
  simp only[List.getElem?_map,w,List.getElem?_eq_getElem r,Option.map_some,Option.some.injEq] at this
  exact this.symm
 exact o m _ a _ (by rw[s];congr 1;exact Prod.ext B rfl)
theorem Q54 {n:String} {g:Nat} {cs:Array Value} {l:List Value} (h:P.globalNamed n=some g) (a:W.var? P n=some cs) (j:cs.toList=l):Z4 (Wj W) ⟨g,0,none⟩ l:=by
 unfold World.var? at a
 rw[h] at a
 simp only[Option.bind_some] at a
 cases b:W.heap[g]? with
 | none=>rw[b] at a;cases a
 | some o=>
  rw[b] at a
  cases o with
  | cells arr e c=>
   cases a
   refine ⟨rfl,cs,e,c,b,fun i v f=>?_⟩
   subst j
   simpa using f
  | _=>cases a
end Go.Emb
namespace Go.Proofs.YtjdiakhipmggjaaGreatDoor
open Go.Emb Go.RowKit Go.Kd Go.Hm
variable {W : World}
def laidAll:List (String×DataW Unit):=[("unicode/utf8.acceptRanges",Rows.laid_unicode_utf8_acceptRanges),("squinch/code.ops",Rows.laid_squinch_code_ops),("squinch/hier.faults",Rows.laid_squinch_hier_faults),("unicode/utf8.first",Rows.laid_unicode_utf8_first)]
theorem X3C:Rows.laid_squinch_code_ops=(.agg (Ub.map fun o=> .agg [.lit (.string o.name), .lit (.bool o.number), .lit (.bool o.text)]):DataW Unit):=by rfl
theorem X0G:Rows.laid_squinch_hier_faults=(.agg (U4.map fun s=> .lit (.string s)):DataW Unit):=by rfl
theorem X3V:(Rows.laid_unicode_utf8_acceptRanges:DataW Unit)=Lib.acceptData:=by rfl
theorem X1p:Rows.laid_unicode_utf8_first=Lib.firstData:=by kernel_rfl
def X43:Array Field:= #[⟨"name",T.c,0,false, "", "squinch/code",0⟩,⟨"number",T.u,1,false, "", "squinch/code",16⟩,⟨"text",T.u,2,false, "", "squinch/code",17⟩]
theorem X44:P.underlying T.ad=some (.struct X43):=by kernel_rfl
theorem X33 (h:laidMetH P laidAll W):Glb (Wj W):=by
 rw[Go.MakeChecks.laidMetH_plain _ _ _ (by kernel_rfl)] at h
 refine ⟨?_,fun w z=>?_,?_⟩
 ·obtain ⟨g,t,cs,r,p,l,k,b,o⟩:=Lib.laidMet.reads h (.tail _ (.head _))
  obtain rfl:=Option.some.inj ((show P.globalNamed "squinch/code.ops"=some G.a by kernel_rfl).symm.trans l)
  obtain rfl:=Option.some.inj ((show (P.globals[G.a]?).map (·.type)=some T.af by kernel_rfl).symm.trans k)
  rw[X3C] at o
  refine Q54 l b (Q4z (f:=cOp) (sz:=3) (n:=42) (e:=T.ad) (by kernel_rfl) (by kernel_rfl) (by kernel_rfl) Ub (fun _=>rfl) (fun m cs a q h=>by
  obtain ⟨xs,n,_,j,V,h2,y⟩:=DataW.trod_struct X44 h
  simp only[Prod.mk.injEq,DataW.agg.injEq] at j
  have u:cs.length=3:=by rw[V];kernel_rfl
  obtain ⟨c0,A,B,rfl⟩:=X1m u
  obtain ⟨x0,U,x2,rfl⟩:=X1m (show xs.length=3 by rw[h2];rfl)
  have j:=j.1
  simp only[List.map_cons,List.map_nil,List.cons.injEq,and_true] at j
  obtain ⟨N,L,M⟩:=j
  have J:DataW.trod (fun _=>()) P W 0 (fun _=>true) false n T.c (List.take (P.cellsOf T.c) (List.drop 0 [c0,A,B]))=some x0:=y 0 _ rfl
  have D:DataW.trod (fun _=>()) P W 0 (fun _=>true) false n T.u (List.take (P.cellsOf T.u) (List.drop 1 [c0,A,B]))=some U:=y 1 _ rfl
  have E:DataW.trod (fun _=>()) P W 0 (fun _=>true) false n T.u (List.take (P.cellsOf T.u) (List.drop 2 [c0,A,B]))=some x2:=y 2 _ rfl
  rw[Pu] at J
  rw[X2D] at D E
  obtain ⟨⟨⟨s0⟩⟩,O,X,_⟩:=DataW.trod_string X8 J
  obtain ⟨b1,R,Y⟩:=DataW.trod_bool Q39 D
  obtain ⟨b2,Q,Z⟩:=DataW.trod_bool Q39 E
  simp at O R Q
  subst O R Q X Y Z
  simp at N L M
  simp[cOp,←N,←L,←M]) o)
 ·have:=utf8Tabs_of_readsT (U8Types.of196 Tryz.lays196) ⟨by kernel_rfl,by kernel_rfl,by kernel_rfl,by kernel_rfl,by kernel_rfl,by kernel_rfl,by kernel_rfl⟩ (X1p▸Lib.laidMet.reads h (.tail _ (.tail _ (.tail _ (.head _))))) (X3V▸Lib.laidMet.reads h (.head _))
  exact ⟨fun c hc=>Q2o z (this.1 c hc),fun i C=>⟨Q2o z (this.2 i C).1,Q2o z (this.2 i C).2⟩⟩
 ·obtain ⟨g,t,cs,r,p,l,k,b,o⟩:=Lib.laidMet.reads h (.tail _ (.tail _ (.head _)))
  obtain rfl:=Option.some.inj ((show P.globalNamed "squinch/hier.faults"=some G.b by kernel_rfl).symm.trans l)
  obtain rfl:=Option.some.inj ((show (P.globals[G.b]?).map (·.type)=some T.ao by kernel_rfl).symm.trans k)
  rw[X0G] at o
  have:=Q4z (f:=fun s=>[S s]) (sz:=1) (n:=6) (e:=T.c) (by kernel_rfl) Pu (by kernel_rfl) U4 (fun _=>rfl) (fun m cs a q h=>by
   obtain ⟨⟨⟨s⟩⟩,rfl,j,_⟩:=DataW.trod_string X8 h
   cases j;rfl) o
  exact Q54 l b (this.trans (by rfl))
end Go.Proofs.YtjdiakhipmggjaaGreatDoor
namespace Go.Emb
open Go.RowKit Go.Hm
theorem X3b {H:Type} {P:Program} {a:List TypeId} {ds:List (DataW H)} (h:(DataW.weightsEach P a ds).all (· ≤reachBytes)=true) {j:Nat} {t:TypeId} {d:DataW H} (c:a[j]? =some t) (e:ds[j]? =some d):Wt P t d:=fun n b=>by
 have:=List.all_eq_true.1 h _ (DataW.weights_mem_each c e n b)
 simpa using this
end Go.Emb
namespace Go.Proofs.YtjdiakhipmggjaaGreatDoor
open Go.Emb Go.RowKit Go.Kd Go.Hm
section
variable {H : Type} {enc : TypeId × Value → H} {W : World} {v : Value} {d : DataW H} {p : List MemPlace}
end
end Go.Proofs.YtjdiakhipmggjaaGreatDoor

namespace Go.Proofs.YtjdiakhipmggjaaGreatDoor
open Go.Emb Go.RowKit Go.Kd Go.Hm
variable {w : World} {K : Value → World → Prop} {σ : Q5}
def G6 (n:Int) (x:Cat):Bool:=decide (0≤x.frm)&&decide (x.frm<x.to)&&decide (x.to≤n)&&decide (0≤x.at_)&&decide (x.at_<n)&&M6 x.cls
theorem Q8J {cs:List Value} {c:Cat} {q:Addr} {n:Int} (hs:X2 w σ) (hc:Jw σ c cs) (hq:Z4 σ q [I n]) (h: ∀w' σ',Stp w σ w' σ'→K (.bool (G6 n c)) w'):Q1 P F.bj [.agg cs.toArray, .pointer (some q)] w K:=Q2A (by
 obtain ⟨rfl,h1,h2,h3,h4⟩:=hc
 unfold Ca
 unfold G6 at h
 (repeat' (first | (with_reducible intro _) | (with_reducible refine U9 ?_) | (simp only[↓M2,M2,Mb,reduceIte]) | (with_reducible first | refine ld aS aL aR ?_ | refine X7 aS aL aR ?_ | refine Y4 aS aL aR ?_ | refine Q8 aL ?_ | refine J0 aR ?_ | refine Y9 aS ?_ | refine N2 aS aL ?_ | refine U5 aS aR ?_ | refine Y7 aS aR aR (Rep.one (by assumption)) ?_ | refine U6 aS aR aR aR ?_ | refine Rh _ au (W9 aS ?_) | (refine Z8 (fun hh=>?_) (fun hh=>?_)<;>(try simp only[hh,Bool.not_true,Bool.not_false,↓M2,M2,Mb,reduceIte])) | (refine Q7 (fun hh=>?_) (fun hh=>?_)<;>(try simp only[hh,Bool.not_true,Bool.not_false,↓M2,M2,Mb,reduceIte])))))
 all_goals exact aF)
theorem Q7S {cs:List Value} {i:Ins} (hs:X2 w σ) (hg:Glb σ) (hc:Qp σ i cs) (h: ∀w' σ',Stp w σ w' σ'→K (.bool (decide (H4 i=0))) w'):Q1 P F.bk [.agg cs.toArray] w K:=Q2E (by
 obtain ⟨rfl,h1,h2,h3⟩:=hc
 have hc:Qp σ i [S i.op,I i.n,S i.s]:=⟨rfl,h1,h2,h3⟩
 unfold Sh
 (repeat' (first | (with_reducible intro _) | (with_reducible refine U9 ?_) | (simp only[↓M2,M2,Mb,reduceIte]) | (with_reducible first | refine ld aS aL aR ?_ | refine X7 aS aL aR ?_ | refine Y4 aS aL aR ?_ | refine Q8 aL ?_ | refine J0 aR ?_ | refine Y9 aS ?_ | refine N2 aS aL ?_ | refine U5 aS aR ?_ | refine Y7 aS aR aR (Rep.one (by assumption)) ?_ | refine U6 aS aR aR aR ?_ | refine Q6u au au au ?_ | (refine Z8 (fun hh=>?_) (fun hh=>?_)<;>(try simp only[hh,Bool.not_true,Bool.not_false,↓M2,M2,Mb,reduceIte])) | (refine Q7 (fun hh=>?_) (fun hh=>?_)<;>(try simp only[hh,Bool.not_true,Bool.not_false,↓M2,M2,Mb,reduceIte])))))
 all_goals exact aF)
def I3 (m:Hm.Met):Bool:=D7 m.name&&m.params.all right&&(decide (m.result=[])||right m.result)&&
 if m.abs then decide (m.locals=0)&&decide (m.code=[])&&decide (m.catches=[])
 else decide (m.code≠[])&&decide ((m.params.length:Int)<m.locals)&&m.code.all (fun i=>decide (H4 i=0))&&m.catches.all (G6 m.code.length)
theorem X0L {cs:List Value} {m:Hm.Met} (hs:X2 w σ) (hg:Glb σ) (hm:E7 σ m cs) (h: ∀w' σ',Stp w σ w' σ'→K (.bool (I3 m)) w'):Q1 P F.bc [.agg cs.toArray] w K:=Q3A (by
 obtain ⟨pv,cv,hv,rfl,g1,g2,g3,g4,g5,g6⟩:=hm
 unfold Gp
 unfold I3 at h
 have e1:decide ((0:Int)<m.code.length)=decide (m.code≠[]):=by cases m.code<;>simp
 have e2:decide ((m.code.length:Int)=0)=decide (m.code=[]):=by cases m.code<;>simp;omega
 have e3:decide ((m.catches.length:Int)=0)=decide (m.catches=[]):=by cases m.catches<;>simp;omega
 have hA: ∀{w1:World} {σ1:Q5} {K:Value→World→Prop},X2 w1 σ1→Sl 1 U7 σ1 pv m.params→(∀w' σ',Stp w1 σ1 w' σ'→K (.bool (m.params.all right)) w')→Q1 P F.aa [pv, .func (.func F.z) #[] #[]] w1 K:=
  fun hs hv h=>Gf right hs hv (fun σ1 x w1 K _ _ hs hl hK=>Z7 (Zj x (Nat.le_trans hl (by decide)) hK)) (W9 hs h)
 have hB: ∀{w1:World} {σ1:Q5} {K:Value→World→Prop},X2 w1 σ1→Glb σ1→Sl 3 Qp σ1 cv m.code→(∀w' σ',Stp w1 σ1 w' σ'→K (.bool (m.code.all fun i=>decide (H4 i=0))) w')→Q1 P F.au [cv, .func (.func F.bk) #[] #[]] w1 K:=
  fun hs hg hv h=>Q1M (fun i=>decide (H4 i=0)) hs hv (fun σ1 x cs w1 K le _ hs hr hl hK=>Z7 (Q7S hs (hg.lift ⟨le⟩) hr fun w' σ' hk=>hK w' hk.bel)) (W9 hs h)
 have hC: ∀{w1:World} {σ1:Q5} {K:Value→World→Prop} {q:Addr},X2 w1 σ1→Sl 4 Jw σ1 hv m.catches→Z4 σ1 q [I m.code.length]→(∀w' σ',Stp w1 σ1 w' σ'→K (.bool (m.catches.all (G6 m.code.length))) w')→Q1 P F.av [hv, .func (.func F.bj) #[] #[.pointer (some q)]] w1 K:=
  fun hs hv hq h=>Q1R (G6 m.code.length) hs hv (fun σ1 x cs w1 K le _ hs hr hl hK=>Z7 (Q8J hs hr (hq.le le) fun w' σ' hk=>hK w' hk.bel)) (W9 hs h)
 refine Y9 hs fun a w1 σ1 hk1 ha1=>?_
 (repeat' (first | (with_reducible intro _) | (with_reducible refine U9 ?_) | (simp only[↓M2,M2,Mb,reduceIte]) | (with_reducible first | refine ld aS aL aR ?_ | refine X7 aS aL aR ?_ | refine Y4 aS aL aR ?_ | refine Q8 aL ?_ | refine J0 aR ?_ | refine Y9 aS ?_ | refine N2 aS aL ?_ | refine U5 aS aR ?_ | refine Y7 aS aR aR (Rep.one (by assumption)) ?_ | refine U6 aS aR aR aR ?_ | refine Q63 au (W9 aS ?_) | refine Zj _ au (W9 aS ?_) | refine hA au au ?_ | refine hB au au au ?_ | refine hC au au au ?_ | (refine Z8 (fun hh=>?_) (fun hh=>?_)<;>(try simp only[hh,Bool.not_true,Bool.not_false,↓M2,M2,Mb,reduceIte])) | (refine Q7 (fun hh=>?_) (fun hh=>?_)<;>(try simp only[hh,Bool.not_true,Bool.not_false,↓M2,M2,Mb,reduceIte])))))
 all_goals (simp only[←e1,←e2,←e3] at h;clear e1 e2 e3;exact aF))
theorem Q9u {cs:List Value} {m:Hm.Met} (c:X2 w σ) (a:Glb σ) (b:E7 σ m cs) (h: ∀w' d,Stp w σ w' d→K (.bool (I3 m)) w'):Z3 P (.func (.func F.bc) #[] #[]) [.agg cs.toArray] w K:=Z7 (X0L c a b h)
def Dv (f:Fld):Bool:=D7 f.name&&right f.kind
def Lv (c:Cla):Bool:=(c.name::c.super::c.like).all M6&& !((c.super::c.like).any fun y=>decide (c.name=y))&&C3 id [] c.like&&
 !(c.iface&&(!c.abs|| !decide (c.super=J9)|| !decide (c.fields=[])||c.methods.any (fun m=> !m.abs)))&&
 !((c.abs&&c.fin)||(c.methods.any (·.abs)&& !c.abs))&&C3 Fld.name [] c.fields&&C3 Hm.Met.name [] c.methods&&c.fields.all Dv&&c.methods.all I3
def D6 (c:Cla):Int:=if Zo c then 51 else if Lv c then 0 else 50
theorem Q9l {cs:List Value} {f:Fld} (hs:X2 w σ) (hf:R7 σ f cs) (h: ∀w' σ',Stp w σ w' σ'→K (.bool (Dv f)) w'):Q1 P F.bB [.agg cs.toArray] w K:=Q34 (by
 obtain ⟨rfl,h1,h2⟩:=hf
 unfold Ct
 unfold Dv at h
 (repeat' (first | (with_reducible intro _) | (with_reducible refine U9 ?_) | (simp only[↓M2,M2,Mb,reduceIte]) | (with_reducible first | refine ld aS aL aR ?_ | refine X7 aS aL aR ?_ | refine Y4 aS aL aR ?_ | refine Q8 aL ?_ | refine J0 aR ?_ | refine Y9 aS ?_ | refine N2 aS aL ?_ | refine U5 aS aR ?_ | refine Y7 aS aR aR (Rep.one (by assumption)) ?_ | refine U6 aS aR aR aR ?_ | refine Q63 au (W9 aS ?_) | refine Zj _ au (W9 aS ?_) | (refine Z8 (fun hh=>?_) (fun hh=>?_)<;>(try simp only[hh,Bool.not_true,Bool.not_false,↓M2,M2,Mb,reduceIte])) | (refine Q7 (fun hh=>?_) (fun hh=>?_)<;>(try simp only[hh,Bool.not_true,Bool.not_false,↓M2,M2,Mb,reduceIte])))))
 all_goals exact aF)
set_option maxHeartbeats 1600000 in
theorem X2f {cs:List Value} {c:Cla} (hs:X2 w σ) (hg:Glb σ) (hc:V0 σ c cs) (hl:c.like.length≤1000000) (h: ∀w' σ',Stp w σ w' σ'→K (.bool (Lv c)) w'):Q1 P F.cA [.agg cs.toArray] w K:=Q4T (by
 obtain ⟨lv,fv,mv,rfl,g1,g2,g3,g4,g5⟩:=hc
 unfold Td
 unfold Lv at h
 refine Y9 hs fun a w1 σ1 hk1 ha1=>?_
 rw[fa]
 refine ld hk1.sat ha1 rfl ?_
 rw[fa]
 refine ld hk1.sat ha1 rfl ?_
 refine Yx (R:=U7) (sz:=1) (xs:=[c.name,c.super]) hk1 [_,_] rfl rfl (by simp;exact ⟨rfl,rfl⟩) rfl ⟨⟨rfl,g4⟩,⟨rfl,g5⟩,trivial⟩ fun v w2 hk2 hacc _=>?_
 rw[fa]
 refine ld hk2.sat ha1 rfl ?_
 refine Wi (hk1.trans hk2) hacc (g1.up hk1) rfl (by simp;omega) (by simp;omega) fun v' w3 hn3 hS3 hacc3 _=>?_
 obtain ⟨σ3,hS3,hv3,le3,_⟩:=hacc3.keep hS3
 have hv3:Sl 1 U7 σ3 v' (c.name::c.super::c.like):=hv3
 have ha3:=ha1.le le3
 have le13:SLe σ σ3:=⟨hS3.le⟩
 have g1:=g1.lift le13
 have g2:=g2.lift le13
 have g3:=g3.lift le13
 have hg:=hg.lift le13
 refine U2 hS3.sat ?_
 refine H0 (fun v _=>Sl 1 U7 σ3 v (c.super::c.like)) (fun _ _ _ h _=>h) (fun w hb=>?_) ?_
 ·refine Es hv3 (some (I 1)) none 1 (c.like.length+2) (.inr rfl) (.inl ⟨rfl,by simp⟩) (by omega) (by simp) fun v' hv'=>⟨Below.refl _ _,?_⟩
  simpa using hv'
 refine X4 (.pointer (some (a.add 0))) (fun w hb=>by rw[fa];exact X6 rfl) ?_
 refine X4 (S c.name) (fun t w hb e=>by rw[e];exact ld hb.sat ha3 rfl (X6 rfl)) ?_
 rintro t16 t17 t18 w4 hb4 f16 rfl rfl
 have hS4:=hS3.trans hb4.stp
 clear hb4 hk1 hk2 hn3
 have hs4:=hS4.sat
 refine Q1V hs4 f16 ?_
 have hA: ∀{w1:World} {σ1:Q5} {K:Value→World→Prop},X2 w1 σ1→Sl 7 E7 σ1 mv c.methods→(∀w' σ',Stp w1 σ1 w' σ'→K (.bool (c.methods.any (·.abs))) w')→Q1 P F.a [mv, .func (.func F.cn) #[] #[]] w1 K:=
  fun hs hv h=>B5 (·.abs) hs hv (fun x cs w1 K _ hs hr hl hK=>Z7 (Q3l (by
   obtain ⟨pv,cv,hv,rfl,_⟩:=hr
   unfold Cv
   refine Y9 hs fun a w1 σ1 hk1 ha1=>?_
   (repeat' (first | (with_reducible intro _) | (with_reducible refine U9 ?_) | (simp only[↓M2,M2,Mb,reduceIte]) | (with_reducible first | refine ld aS aL aR ?_ | refine X7 aS aL aR ?_ | refine Y4 aS aL aR ?_ | refine Q8 aL ?_ | refine J0 aR ?_ | refine Y9 aS ?_ | refine N2 aS aL ?_ | refine U5 aS aR ?_ | refine Y7 aS aR aR (Rep.one (by assumption)) ?_ | refine U6 aS aR aR aR ?_ | (refine Z8 (fun hh=>?_) (fun hh=>?_)<;>(try simp only[hh,Bool.not_true,Bool.not_false,↓M2,M2,Mb,reduceIte])) | (refine Q7 (fun hh=>?_) (fun hh=>?_)<;>(try simp only[hh,Bool.not_true,Bool.not_false,↓M2,M2,Mb,reduceIte])))))
   exact hK _ hk1.bel))) (W9 hs h)
 have hB: ∀{w1:World} {σ1:Q5} {K:Value→World→Prop},X2 w1 σ1→Sl 7 E7 σ1 mv c.methods→(∀w' σ',Stp w1 σ1 w' σ'→K (.bool (c.methods.any fun m=> !m.abs)) w')→Q1 P F.a [mv, .func (.func F.co) #[] #[]] w1 K:=
  fun hs hv h=>B5 (fun m=> !m.abs) hs hv (fun x cs w1 K _ hs hr hl hK=>Z7 (Q30 (by
   obtain ⟨pv,cv,hv,rfl,_⟩:=hr
   unfold Bf
   refine Y9 hs fun a w1 σ1 hk1 ha1=>?_
   (repeat' (first | (with_reducible intro _) | (with_reducible refine U9 ?_) | (simp only[↓M2,M2,Mb,reduceIte]) | (with_reducible first | refine ld aS aL aR ?_ | refine X7 aS aL aR ?_ | refine Y4 aS aL aR ?_ | refine Q8 aL ?_ | refine J0 aR ?_ | refine Y9 aS ?_ | refine N2 aS aL ?_ | refine U5 aS aR ?_ | refine Y7 aS aR aR (Rep.one (by assumption)) ?_ | refine U6 aS aR aR aR ?_ | (refine Z8 (fun hh=>?_) (fun hh=>?_)<;>(try simp only[hh,Bool.not_true,Bool.not_false,↓M2,M2,Mb,reduceIte])) | (refine Q7 (fun hh=>?_) (fun hh=>?_)<;>(try simp only[hh,Bool.not_true,Bool.not_false,↓M2,M2,Mb,reduceIte])))))
   exact hK _ hk1.bel))) (W9 hs h)
 have hC: ∀{w1:World} {σ1:Q5} {K:Value→World→Prop},X2 w1 σ1→Sl 1 U7 σ1 v' (c.name::c.super::c.like)→(∀w' σ',Stp w1 σ1 w' σ'→K (.bool ((c.name::c.super::c.like).all M6)) w')→Q1 P F.aa [v', .func (.func F.ai) #[] #[]] w1 K:=
  fun hs hv h=>Gf M6 hs hv (fun σ1 x w1 K _ _ hs hl hK=>Z7 (Rh x (Nat.le_trans hl (by decide)) hK)) (W9 hs h)
 have hD: ∀{w1:World} {σ1:Q5} {K:Value→World→Prop},X2 w1 σ1→Sl 1 U7 σ1 lv c.like→(∀w' σ',Stp w1 σ1 w' σ'→K (.bool (C3 id [] c.like)) w')→Q1 P F.aW [lv, .func (.func F.cp) #[] #[]] w1 K:=
  fun hs hv h=>Q4G id hs hv (fun σ1 x w1 K _ hs hl hK=>Z7 (Q3m (hK _ (Below.refl _ _)))) (W9 hs h)
 have hE: ∀{w1:World} {σ1:Q5} {K:Value→World→Prop},X2 w1 σ1→Sl 3 R7 σ1 fv c.fields→(∀w' σ',Stp w1 σ1 w' σ'→K (.bool (C3 Fld.name [] c.fields)) w')→Q1 P F.aE [fv, .func (.func F.cq) #[] #[]] w1 K:=
  fun hs hv h=>Q2v Fld.name hs hv (fun σ1 x cs w1 K _ hs hr hl hK=>Z7 (Q3d (by
   obtain ⟨rfl,_⟩:=hr
   unfold Cw
   refine Y9 hs fun a w1 σ1 hk1 ha1=>?_
   (repeat' (first | (with_reducible intro _) | (with_reducible refine U9 ?_) | (simp only[↓M2,M2,Mb,reduceIte]) | (with_reducible first | refine ld aS aL aR ?_ | refine X7 aS aL aR ?_ | refine Y4 aS aL aR ?_ | refine Q8 aL ?_ | refine J0 aR ?_ | refine Y9 aS ?_ | refine N2 aS aL ?_ | refine U5 aS aR ?_ | refine Y7 aS aR aR (Rep.one (by assumption)) ?_ | refine U6 aS aR aR aR ?_ | (refine Z8 (fun hh=>?_) (fun hh=>?_)<;>(try simp only[hh,Bool.not_true,Bool.not_false,↓M2,M2,Mb,reduceIte])) | (refine Q7 (fun hh=>?_) (fun hh=>?_)<;>(try simp only[hh,Bool.not_true,Bool.not_false,↓M2,M2,Mb,reduceIte])))))
   exact hK _ hk1.bel))) (W9 hs h)
 have hF: ∀{w1:World} {σ1:Q5} {K:Value→World→Prop},X2 w1 σ1→Sl 7 E7 σ1 mv c.methods→(∀w' σ',Stp w1 σ1 w' σ'→K (.bool (C3 Hm.Met.name [] c.methods)) w')→Q1 P F.ap [mv, .func (.func F.cr) #[] #[]] w1 K:=
  fun hs hv h=>Q1J Hm.Met.name hs hv (fun σ1 x cs w1 K _ hs hr hl hK=>Z7 (Q2T (by
   obtain ⟨pv,cv,hv,rfl,_⟩:=hr
   unfold Cs
   refine Y9 hs fun a w1 σ1 hk1 ha1=>?_
   (repeat' (first | (with_reducible intro _) | (with_reducible refine U9 ?_) | (simp only[↓M2,M2,Mb,reduceIte]) | (with_reducible first | refine ld aS aL aR ?_ | refine X7 aS aL aR ?_ | refine Y4 aS aL aR ?_ | refine Q8 aL ?_ | refine J0 aR ?_ | refine Y9 aS ?_ | refine N2 aS aL ?_ | refine U5 aS aR ?_ | refine Y7 aS aR aR (Rep.one (by assumption)) ?_ | refine U6 aS aR aR aR ?_ | (refine Z8 (fun hh=>?_) (fun hh=>?_)<;>(try simp only[hh,Bool.not_true,Bool.not_false,↓M2,M2,Mb,reduceIte])) | (refine Q7 (fun hh=>?_) (fun hh=>?_)<;>(try simp only[hh,Bool.not_true,Bool.not_false,↓M2,M2,Mb,reduceIte])))))
   exact hK _ hk1.bel))) (W9 hs h)
 have hG: ∀{w1:World} {σ1:Q5} {K:Value→World→Prop},X2 w1 σ1→Sl 3 R7 σ1 fv c.fields→(∀w' σ',Stp w1 σ1 w' σ'→K (.bool (c.fields.all Dv)) w')→Q1 P F.aq [fv, .func (.func F.bB) #[] #[]] w1 K:=
  fun hs hv h=>Q1X Dv hs hv (fun σ1 x cs w1 K _ _ hs hr hl hK=>Z7 (Q9l hs hr fun w' σ' hk=>hK w' hk.bel)) (W9 hs h)
 have hH: ∀{w1:World} {σ1:Q5} {K:Value→World→Prop},X2 w1 σ1→Glb σ1→Sl 7 E7 σ1 mv c.methods→(∀w' σ',Stp w1 σ1 w' σ'→K (.bool (c.methods.all I3)) w')→Q1 P F.al [mv, .func (.func F.bc) #[] #[]] w1 K:=
  fun hs hg hv h=>Q1c I3 hs hv (fun σ1 x cs w1 K le _ hs hr hl hK=>Q9u hs (hg.lift ⟨le⟩) hr fun w' σ' hk=>hK w' hk.bel) (W9 hs h)
 have e1:decide ((0:Int)<c.fields.length)= !decide (c.fields=[]):=by cases c.fields<;>simp
 have e2:decide (c.super=[79,98,106,101,99,116])=decide (c.super=J9):=rfl
 (repeat' (first | (with_reducible intro _) | (with_reducible refine U9 ?_) | (simp only[↓M2,M2,Mb,reduceIte]) | (with_reducible first | refine ld aS aL aR ?_ | refine X7 aS aL aR ?_ | refine Y4 aS aL aR ?_ | refine Q8 aL ?_ | refine J0 aR ?_ | refine Y9 aS ?_ | refine N2 aS aL ?_ | refine U5 aS aR ?_ | refine Y7 aS aR aR (Rep.one (by assumption)) ?_ | refine U6 aS aR aR aR ?_ | refine hA au au ?_ | refine hB au au ?_ | refine hC au au ?_ | refine hD au au ?_ | refine hE au au ?_ | refine hF au au ?_ | refine hG au au ?_ | refine hH au au au ?_ | (refine Z8 (fun hh=>?_) (fun hh=>?_)<;>(try simp only[hh,Bool.not_true,Bool.not_false,↓M2,M2,Mb,reduceIte])) | (refine Q7 (fun hh=>?_) (fun hh=>?_)<;>(try simp only[hh,Bool.not_true,Bool.not_false,↓M2,M2,Mb,reduceIte])))))
 all_goals (simp only[←e1,←e2] at h;clear hA hB hC hD hE hF hG hH e1 e2;exact aF))
theorem X1B {cs:List Value} {c:Cla} (hs:X2 w σ) (hg:Glb σ) (hc:V0 σ c cs) (hl:c.like.length≤1000000) (h: ∀w' σ',Stp w σ w' σ'→K (I (D6 c)) w'):Q1 P F.cy [.agg cs.toArray] w K:=Q4S (by
 have hc0:=hc
 obtain ⟨lv,fv,mv,rfl,g1,g2,g3,g4,g5⟩:=hc
 unfold Te
 unfold D6 at h
 (repeat' (first | (with_reducible intro _) | (with_reducible refine U9 ?_) | (simp only[↓M2,M2,Mb,reduceIte]) | (with_reducible first | refine ld aS aL aR ?_ | refine X7 aS aL aR ?_ | refine Y4 aS aL aR ?_ | refine Q8 aL ?_ | refine J0 aR ?_ | refine Y9 aS ?_ | refine N2 aS aL ?_ | refine U5 aS aR ?_ | refine Y7 aS aR aR (Rep.one (by assumption)) ?_ | refine U6 aS aR aR aR ?_ | refine X2F au au (W9 aS ?_) | refine X2f au au au au ?_ | (refine Z8 (fun hh=>?_) (fun hh=>?_)<;>(try simp only[hh,Bool.not_true,Bool.not_false,↓M2,M2,Mb,reduceIte])) | (refine Q7 (fun hh=>?_) (fun hh=>?_)<;>(try simp only[hh,Bool.not_true,Bool.not_false,↓M2,M2,Mb,reduceIte])))))
 all_goals exact aF)
end Go.Proofs.YtjdiakhipmggjaaGreatDoor

namespace Go.Emb
open Go.RowKit Go.Hm
structure Tab (σ : Q5) (v : Value) (l : List Cla) : Prop where
  ex : ∃ a lv r m, v = .pointer (some a) ∧ Z4 σ a [lv, .map (some r)] ∧ Sl 8 V0 σ lv l ∧ Xf σ r m ∧ ∀ n, C5 m n = (Z2 l n).map (fun i : Nat => I (i : Int))
theorem Tab.lift {σ0 σ:Q5} {v:Value} {l:List Cla} (h:Tab σ0 v l) (k:SLe σ0 σ):Tab σ v l:=by
 obtain ⟨a,d,r,m,c,g,f,b,e⟩:=h.ex
 exact ⟨a,d,r,m,c,g.lift k,f.lift k,b.lift k,e⟩
end Go.Emb
namespace Go.Proofs.YtjdiakhipmggjaaGreatDoor
open Go.Emb Go.RowKit Go.Kd Go.Hm
variable {w : World} {K : Value → World → Prop} {σ : Q5} {v : Value} {l : List Cla}
theorem Q8l {n:X0} (b:X2 w σ) (e:Tab σ v l) (h:K (.bool (Q0v l n)) w):Q1 P F.j [v,S n] w K:=Et (by
 obtain ⟨a,i,r,m,rfl,d,j,f,c⟩:=e.ex
 unfold Ji
 rw[L7,fa]
 refine ld b d rfl ?_
 rw[Q2B X8 (f.is b) n,c n]
 unfold Q0v at h
 cases g:Z2 l n<;>rw[g] at h<;>((try simp only[Option.map_some,Option.map_none]);(try simp only[↓M1,M1,Mb,reduceIte]);exact h))
theorem Zl {n:X0} {c:Cla} (J:X2 w σ) (O:Tab σ v l) (Q:lk l n=some c)
 (h: ∀o s mv w' j,Stp w σ w' j→Sl 1 U7 j o c.like→Sl 3 R7 j s c.fields→Sl 7 E7 j mv c.methods→c.name.length≤U0→c.super.length≤U0→V0 j c [S c.name,S c.super,o, .bool c.iface, .bool c.abs, .bool c.fin,s,mv]→
  K (.agg [S c.name,S c.super,o, .bool c.iface, .bool c.abs, .bool c.fin,s,mv].toArray) w'):Q1 P F.h [v,S n] w K:=Kx (by
 obtain ⟨a,o,r,m,rfl,D,M,t3,R⟩:=O.ex
 obtain ⟨_,_,i,N,C⟩:=V2 Q
 obtain ⟨A,rfl⟩:=List.getElem?_eq_some_iff.1 C
 unfold Ng
 refine N0 J fun b w1 σ1 f d B=>?_
 refine U2 d.sat ?_
 refine X4 (.pointer (some a)) (fun w f=>by rw[L7];exact X6 rfl) ?_
 refine X4 (.pointer (some (a.add 0))) (fun t w f e=>by rw[e,fa];exact X6 rfl) ?_
 refine X4 (.pointer (some a)) (fun w f=>by rw[L7];exact X6 rfl) ?_
 refine X4 (.pointer (some (a.add 1))) (fun t w f e=>by rw[e,fa];exact X6 rfl) ?_
 refine X4 o (fun t w f e=>by rw[e];exact ld f.sat (D.up d) rfl (X6 rfl)) ?_
 refine X4 (.map (some r)) (fun t w f e=>by rw[e];exact ld f.sat (D.up d) rfl (X6 rfl)) ?_
 refine X4 (I i) (fun t w f e=>by rw[e,Q4q X8 ((t3.up d).is f.sat) n,R n,N];exact X6 rfl) ?_
 rintro t6 t7 ab W t8 aa V w2 g rfl rfl rfl rfl e8 rfl rfl
 subst e8
 have y:=B.step g.stp
 refine M7 (M.up d) A fun p cs hl q E=>?_
 refine Y4 g.sat hl q ?_
 have k:=E
 obtain ⟨Z,s,mv,rfl,Y,L,X,U,H⟩:=E
 refine F8 y (d.trans g.stp) f rfl rfl (Rep.one k) fun w3 u z=>?_
 refine V1 z rfl ?_
 exact h _ _ _ w3 σ1 u.stp Y L X U H k)
theorem Q11 {n:X0} (a:X2 w σ) (b:Tab σ v l) (c:lk l n=none) (h:K (.bool false) w):Q1 P F.j [v,S n] w K:=Q8l a b (by rw[Q1o,c];exact h)
theorem Sq {n:X0} {d:Cla} (a:X2 w σ) (b:Tab σ v l) (c:lk l n=some d) (h:K (.bool true) w):Q1 P F.j [v,S n] w K:=Q8l a b (by rw[Q1o,c];exact h)
theorem X0M {c:Cla} {cs:List Value} (hs:X2 w σ) (ht:Tab σ v l) (hc:V0 σ c cs) (h: ∀w' σ',Stp w σ w' σ'→K (I (D2 l c)) w'):Q1 P F.bd [v, .agg cs.toArray] w K:=Ff (by
 obtain ⟨lv,fv,mv,rfl,g1,g2,g3,g4,g5⟩:=hc
 unfold Wx
 unfold D2 at h
 cases hd:lk l c.super with
 | none=>
  simp only[Qt,hd,if_true] at h
  (repeat' (first | (with_reducible intro _) | (with_reducible refine U9 ?_) | (simp only[↓M2,M2,Mb,reduceIte]) | (with_reducible first | refine ld aS aL aR ?_ | refine X7 aS aL aR ?_ | refine Y4 aS aL aR ?_ | refine Q8 aL ?_ | refine J0 aR ?_ | refine Y9 aS ?_ | refine N2 aS aL ?_ | refine U5 aS aR ?_ | refine Y7 aS aR aR (Rep.one (by assumption)) ?_ | refine U6 aS aR aR aR ?_ | refine Q11 au au au ?_ | (refine Z8 (fun hh=>?_) (fun hh=>?_)<;>(try simp only[hh,Bool.not_true,Bool.not_false,↓M2,M2,Mb,reduceIte])) | (refine Q7 (fun hh=>?_) (fun hh=>?_)<;>(try simp only[hh,Bool.not_true,Bool.not_false,↓M2,M2,Mb,reduceIte])))))
  all_goals exact aF
 | some d=>
  simp only[Qt,hd] at h
  obtain ⟨dn,ds,dl,di,da,df,dfs,dms⟩:=d
  cases di<;>cases df
  ·simp only[Bool.or_self,Bool.false_eq_true,if_false] at h
   (repeat' (first | (with_reducible intro _) | (with_reducible refine U9 ?_) | (simp only[↓M2,M2,Mb,reduceIte]) | (with_reducible first | refine ld aS aL aR ?_ | refine X7 aS aL aR ?_ | refine Y4 aS aL aR ?_ | refine Q8 aL ?_ | refine J0 aR ?_ | refine Y9 aS ?_ | refine N2 aS aL ?_ | refine U5 aS aR ?_ | refine Y7 aS aR aR (Rep.one (by assumption)) ?_ | refine U6 aS aR aR aR ?_ | refine Sq au au au ?_ | refine Zl au au au ?_ | (refine Z8 (fun hh=>?_) (fun hh=>?_)<;>(try simp only[hh,Bool.not_true,Bool.not_false,↓M2,M2,Mb,reduceIte])) | (refine Q7 (fun hh=>?_) (fun hh=>?_)<;>(try simp only[hh,Bool.not_true,Bool.not_false,↓M2,M2,Mb,reduceIte])))))
   rename_i w3 σ3 hk3 _ _ _ _ _ _
   have hS:Stp w σ w3 σ3:=by (repeat (first | exact Stp.refl (by (first | assumption | exact Stp.sat (by assumption) | exact Hst.sat (by assumption))) | assumption | refine Stp.trans ?_ (by first | assumption | exact Hst.stp (by assumption))))
   refine U1 c.like.length (fun n w'=> ∃σ',Stp w σ w' σ'∧SLe σ3 σ'∧((c.like.take n).any (R2 l))=false) ⟨σ3,hS,SLe.refl _,by simp⟩ fun n w4 d hn hi=>?_
   obtain ⟨σ4,hS4,le4,hq⟩:=hi
   clear hk3
   refine Z0 ?_
   refine Q7 (fun hh=>?_) (fun hh=>?_)
   ·have hn':n<c.like.length:=by simpa using hh
    have hmax:c.like.length≤9223372036854775807:=g1.max
    refine Q5d (by (first | assumption | exact Sl.lift (by assumption) (by (repeat (first | exact SLe.refl _ | refine SLe.more ?_ (by assumption) | refine SLe.more ?_ (Nxt.le (by assumption)) | refine SLe.step ?_ (by assumption)))) | exact Z4.lift (by assumption) (by (repeat (first | exact SLe.refl _ | refine SLe.more ?_ (by assumption) | refine SLe.more ?_ (Nxt.le (by assumption)) | refine SLe.step ?_ (by assumption)))) | exact Xf.lift (by assumption) (by (repeat (first | exact SLe.refl _ | refine SLe.more ?_ (by assumption) | refine SLe.more ?_ (Nxt.le (by assumption)) | refine SLe.step ?_ (by assumption)))) | exact RCl_lift (by assumption) (by (repeat (first | exact SLe.refl _ | refine SLe.more ?_ (by assumption) | refine SLe.more ?_ (Nxt.le (by assumption)) | refine SLe.step ?_ (by assumption)))) | exact RMe_lift (by assumption) (by (repeat (first | exact SLe.refl _ | refine SLe.more ?_ (by assumption) | refine SLe.more ?_ (Nxt.le (by assumption)) | refine SLe.step ?_ (by assumption)))) | exact Glb.lift (by assumption) (by (repeat (first | exact SLe.refl _ | refine SLe.more ?_ (by assumption) | refine SLe.more ?_ (Nxt.le (by assumption)) | refine SLe.step ?_ (by assumption)))) | exact Tab.lift (by assumption) (by (repeat (first | exact SLe.refl _ | refine SLe.more ?_ (by assumption) | refine SLe.more ?_ (Nxt.le (by assumption)) | refine SLe.step ?_ (by assumption)))) | exact RIn_any (by assumption) | exact RFd_any (by assumption) | exact RCa_any (by assumption))) hn' fun p hl hbig=>?_
    have hq':=L2 (p:=R2 l) hn'
    rw[hq] at hq'
    cases hx:lk l c.like[n] with
    | none=>
     simp only[S5 (p:=R2 l) hn' (by simp only[R2,hx]),if_true] at h
     (repeat' (first | (with_reducible intro _) | (with_reducible refine U9 ?_) | (simp only[↓M2,M2,Mb,reduceIte]) | (with_reducible first | refine ld aS aL aR ?_ | refine X7 aS aL aR ?_ | refine Y4 aS aL aR ?_ | refine Q8 aL ?_ | refine J0 aR ?_ | refine Y9 aS ?_ | refine N2 aS aL ?_ | refine U5 aS aR ?_ | refine Y7 aS aR aR (Rep.one (by assumption)) ?_ | refine U6 aS aR aR aR ?_ | refine Q11 au au au ?_ | (refine Z8 (fun hh=>?_) (fun hh=>?_)<;>(try simp only[hh,Bool.not_true,Bool.not_false,↓M2,M2,Mb,reduceIte])) | (refine Q7 (fun hh=>?_) (fun hh=>?_)<;>(try simp only[hh,Bool.not_true,Bool.not_false,↓M2,M2,Mb,reduceIte])))))
     all_goals exact aF
    | some x=>
     obtain ⟨xn,xs,xl,xi,xa,xf,xfs,xms⟩:=x
     cases xi
     ·simp only[S5 (p:=R2 l) hn' (by simp only[R2,hx];rfl),if_true] at h
      (repeat' (first | (with_reducible intro _) | (with_reducible refine U9 ?_) | (simp only[↓M2,M2,Mb,reduceIte]) | (with_reducible first | refine ld aS aL aR ?_ | refine X7 aS aL aR ?_ | refine Y4 aS aL aR ?_ | refine Q8 aL ?_ | refine J0 aR ?_ | refine Y9 aS ?_ | refine N2 aS aL ?_ | refine U5 aS aR ?_ | refine Y7 aS aR aR (Rep.one (by assumption)) ?_ | refine U6 aS aR aR aR ?_ | refine Sq au au au ?_ | refine Zl au au au ?_ | (refine Z8 (fun hh=>?_) (fun hh=>?_)<;>(try simp only[hh,Bool.not_true,Bool.not_false,↓M2,M2,Mb,reduceIte])) | (refine Q7 (fun hh=>?_) (fun hh=>?_)<;>(try simp only[hh,Bool.not_true,Bool.not_false,↓M2,M2,Mb,reduceIte])))))
      all_goals exact aF
     ·(repeat' (first | (with_reducible intro _) | (with_reducible refine U9 ?_) | (simp only[↓M2,M2,Mb,reduceIte]) | (with_reducible first | refine ld aS aL aR ?_ | refine X7 aS aL aR ?_ | refine Y4 aS aL aR ?_ | refine Q8 aL ?_ | refine J0 aR ?_ | refine Y9 aS ?_ | refine N2 aS aL ?_ | refine U5 aS aR ?_ | refine Y7 aS aR aR (Rep.one (by assumption)) ?_ | refine U6 aS aR aR aR ?_ | refine Sq au au au ?_ | refine Zl au au au ?_ | (refine Z8 (fun hh=>?_) (fun hh=>?_)<;>(try simp only[hh,Bool.not_true,Bool.not_false,↓M2,M2,Mb,reduceIte])) | (refine Q7 (fun hh=>?_) (fun hh=>?_)<;>(try simp only[hh,Bool.not_true,Bool.not_false,↓M2,M2,Mb,reduceIte])))))
      refine Y5 hmax hn' ⟨_,by (repeat (first | exact Stp.refl (by (first | assumption | exact Stp.sat (by assumption) | exact Hst.sat (by assumption))) | assumption | refine Stp.trans ?_ (by first | assumption | exact Hst.stp (by assumption)))),by (repeat (first | exact SLe.refl _ | refine SLe.more ?_ (by assumption) | refine SLe.more ?_ (Nxt.le (by assumption)) | refine SLe.step ?_ (by assumption))),by rw[hq'];simp only[R2,hx];rfl⟩
   ·have hn': ¬n<c.like.length:=by simpa using hh
    rw[E2 hn'] at hq
    simp only[hq,Bool.false_eq_true,if_false] at h
    exact h _ _ hS4
  all_goals
   simp only[Bool.or_self,Bool.or_true,Bool.true_or,if_true] at h
   (repeat' (first | (with_reducible intro _) | (with_reducible refine U9 ?_) | (simp only[↓M2,M2,Mb,reduceIte]) | (with_reducible first | refine ld aS aL aR ?_ | refine X7 aS aL aR ?_ | refine Y4 aS aL aR ?_ | refine Q8 aL ?_ | refine J0 aR ?_ | refine Y9 aS ?_ | refine N2 aS aL ?_ | refine U5 aS aR ?_ | refine Y7 aS aR aR (Rep.one (by assumption)) ?_ | refine U6 aS aR aR aR ?_ | refine Sq au au au ?_ | refine Zl au au au ?_ | (refine Z8 (fun hh=>?_) (fun hh=>?_)<;>(try simp only[hh,Bool.not_true,Bool.not_false,↓M2,M2,Mb,reduceIte])) | (refine Q7 (fun hh=>?_) (fun hh=>?_)<;>(try simp only[hh,Bool.not_true,Bool.not_false,↓M2,M2,Mb,reduceIte])))))
   all_goals exact aF)
end Go.Proofs.YtjdiakhipmggjaaGreatDoor

namespace Go.Emb
open Go.RowKit Go.Hm
variable {P : Program} {w w0 w1 w' w'' : World} {K : Value → World → Prop} {σ σ0 σ1 σ' : Q5}
theorem Q87 {a:Addr} {v:Value} (h:w.cell? a=some v) (b:Below w.heap.size w w'):w'.cell? a=some v:=by
 rw[←h];exact World.cell?_of_block (b.block a.block (World.block_lt_of_cell? _ _ h))
def Ptr {α:Type} (sz:Nat) (R:Q5→α→List Value→Prop) (σ:Q5) (x:α) (p:Value) (w:World):Prop:=
 ∃a cs,p= .pointer (some a)∧(∀j u,cs[j]? =some u→w.cell? (a.add j)=some u)∧cs.length=sz∧R σ x cs
theorem Ptr.below {α:Type} {sz:Nat} {R:Q5→α→List Value→Prop} {x:α} {p:Value} (h:Ptr sz R σ x p w) (b:Below w.heap.size w w'):Ptr sz R σ x p w':=by
 obtain ⟨a,cs,f,e,c⟩:=h
 exact ⟨a,cs,f,fun j u d=>Q87 (e j u d) b,c⟩
end Go.Emb
namespace Go.Proofs.YtjdiakhipmggjaaGreatDoor
open Go.Emb Go.RowKit Go.Kd Go.Hm
variable {w : World} {K : Value → World → Prop} {σ : Q5} {v : Value} {l : List Cla}
theorem Q4n {w0:World} {σ0:Q5} {xs:List Cla} (hS:Stp w0 σ0 w σ) (H:J8 w0.heap.size T.b 8 V0 σ w v xs)
 (h: ∀w',Kpt (fun k=>v.ownBlock=some k) w w'→Stp w0 σ0 w' σ→J8 w0.heap.size T.b 8 V0 σ w' v xs.reverse→K (.tuple #[]) w'):Q1 P F.q [v] w K:=Zr (by
 unfold G9
 have M:xs.length≤9223372036854775807:=by
  obtain ⟨a,X,_,g,b,_⟩:=H
  simp only[maxLen] at b;omega
 refine Q1r H ?_
 refine Zi ⟨by omega,by omega⟩ ?_
 refine Wc (fun x w'=> ∃i:Nat,x=(I i,I ((xs.length:Int)-1-i))∧2*i≤xs.length∧Kpt (fun k=>v.ownBlock=some k) w w'∧Stp w0 σ0 w' σ∧J8 w0.heap.size T.b 8 V0 σ w' v (C4 i xs)) (fun x _=>match x.2 with | .int _ n=>(n+1).toNat | _=>0) ⟨0,by simp,by omega,Kpt.refl,hS,H⟩ ?_
 rintro _ d w1 ⟨i,rfl,Q,N,m,c⟩
 obtain ⟨R,U⟩:=Q0Q xs i Q
 refine Z0 ?_
 refine Q7 (fun hh=>?_) (fun hh=>?_)
 ·have Z:(i:Int)<(xs.length:Int)-1-i:=by simpa using hh
  have O:((xs.length:Int)-1-i)=((xs.length-1-i:Nat):Int):=by omega
  have r:i<(C4 i xs).length:=by omega
  have o:xs.length-1-i<(C4 i xs).length:=by omega
  refine U2 m.sat ?_
  refine H0 (Ptr 8 V0 σ (C4 i xs)[xs.length-1-i]) (fun _ _ _ h f=>h.below f) (fun w f=>?_) ?_
  ·simp only[O]
   exact Q5J (c.step f.stp) o fun a cs g b j=>⟨Below.refl _ _,a,cs,rfl,g,b,j⟩
  refine H0 (Ptr 8 V0 σ (C4 i xs)[i]) (fun _ _ _ h f=>h.below f) (fun w f=>?_) ?_
  ·exact Q5J (c.step f.stp) r fun a cs g b j=>⟨Below.refl _ _,a,cs,rfl,g,b,j⟩
  refine H0 (fun v _=> ∃cs:List Value,v= .agg cs.toArray∧cs.length=8∧V0 σ (C4 i xs)[xs.length-1-i] cs) (fun _ _ _ h _=>h) (fun t w f e=>?_) ?_
  ·obtain ⟨a,cs,rfl,g,b,j⟩:=e
   exact Pw b g ⟨Below.refl _ _,cs,rfl,b,j⟩
  refine H0 (fun v _=> ∃cs:List Value,v= .agg cs.toArray∧cs.length=8∧V0 σ (C4 i xs)[i] cs) (fun _ _ _ h _=>h) (fun t w f e=>?_) ?_
  ·obtain ⟨a,cs,rfl,g,b,j⟩:=e
   exact Pw b g ⟨Below.refl _ _,cs,rfl,b,j⟩
  rintro W ab V aa w2 q _ _ ⟨cs,rfl,L,y⟩ ⟨ds,rfl,C,s⟩
  refine Q3o (m.trans q.stp) (c.step q.stp) r L y (Rep.one y) fun p u w3 D z J=>?_
  simp only[O]
  refine Q3o z.stp J (by simpa using o) C s (Rep.one s) fun p u w4 A E B=>?_
  refine Xo ⟨by omega,by omega⟩ ?_
  refine Zi ⟨by omega,by omega⟩ ?_
  refine ⟨⟨i+1,by congr 1<;>congr 1<;>omega,by omega,?_,E.stp,?_⟩,?_⟩
  ·exact ((N.trans (Kpt.of_below q.stp.bel)).trans D).trans A
  ·have e1:(C4 i xs)[i]? =some (C4 i xs)[i]:=List.getElem?_eq_getElem r
   have e2:(C4 i xs)[xs.length-1-i]? =some (C4 i xs)[xs.length-1-i]:=List.getElem?_eq_getElem o
   have:C4 (i+1) xs=((C4 i xs).set i (C4 i xs)[xs.length-1-i]).set (xs.length-1-i) (C4 i xs)[i]:=by
    simp only[C4,e1,e2]
   rw[this];exact B
  ·simp only;omega
 ·have Y: ¬(i:Int)<(xs.length:Int)-1-i:=by simpa using hh
  rw[Q9m xs i Q (by omega)] at c
  exact h w1 N m c)
def sOf:Value→X0 | .string b=>b.data.toList | _=>[]
theorem Q9A {n:X0} (C:X2 w σ) (z:Tab σ v l) (N:Jd l) (hl:l.length≤100000) (h: ∀t w' σ',Stp w σ w' σ'→J8 w.heap.size T.b 8 V0 σ' w' t (chain l n).reverse→K t w'):Q1 P F.aU [v,S n] w K:=Ac (by
 unfold Oi
 refine Wc (fun x w'=> ∃(s:X0) (m:List Cla) (σ':Q5),x.2=S s∧chain l n=m++chain l s∧Stp w σ w' σ'∧V5 w.heap.size T.b 8 V0 σ' w' x.1 m) (fun x _=>(chain l (sOf x.2)).length)
  ⟨n,[],σ,rfl,rfl,Stp.refl C,V5.nil⟩ ?_
 rintro ⟨W,_⟩ d w1 ⟨s,m,σ1,rfl,o,a,g⟩
 have f:=z.lift ⟨a.le⟩
 have B:=Bb l n
 have r:sOf (S s)=s:=by simp[sOf]
 simp only[r]
 cases j:lk l s with
 | none=>
  refine Q11 a.sat f j ?_
  refine Z6 ?_
  rw[Yj j,List.append_nil] at o
  rw[←o] at g
  refine Q4n a (J8.of_acc g) fun L i q p=>?_
  exact h _ _ _ q p
 | some c=>
  refine Sq a.sat f j ?_
  refine J4 ?_
  refine Zl a.sat f j fun J R mv L Y i E M O U Q A=>?_
  have b:=T8 N s
  rw[j] at b
  simp only at b
  have V:m.length+1≤l.length+1:=by
   have:=congrArg List.length o
   rw[List.length_append,b,List.length_cons] at this;omega
  refine Jv (a.trans i) (g.up i) A rfl rfl rfl (by omega) (by omega) fun u t w3 Z D e y _=>?_
  refine Zl e.sat (z.lift ⟨e.le⟩) j fun J R mv X H k E M O U Q A=>?_
  refine J0 (v:=S c.super) rfl ?_
  refine ⟨⟨c.super,m++[c],H,rfl,?_,e.trans k,y.up k⟩,?_⟩
  ·rw[o,b];simp
  ·have:sOf (S c.super)=c.super:=by simp[sOf]
   simp only[this,b,List.length_cons];omega)
theorem Ic {n:X0} (V:X2 w σ) (Y:Tab σ v l) (ha:Jd l) (hl:l.length≤100000) (L: ∀c∈l,Qh c) (h: ∀J w' σ',Stp w σ w' σ'→Sl 3 R7 σ' J (Y6 l n)→K J w'):Q1 P F.a2 [v,S n] w K:=Gb (by
 unfold Wu
 refine Q9A V Y ha hl fun v1 w1 σ1 A H=>?_
 obtain ⟨O,y,m,W,_⟩:=H.keep A
 generalize g:(chain l n).reverse=cs at*
 have Q:cs.length≤l.length+1:=by rw[←g,List.length_reverse];exact Bb l n
 have s: ∀c∈cs,c.fields.length≤1000000:=fun c t=>(L c (Cr (by rw[←g] at t;simpa using t))).2.1
 refine Q8 m ?_
 refine E3 cs.length (fun i a w'=> ∃σ',Stp w σ w' σ'∧SLe O σ'∧V5 w.heap.size T.o 3 R7 σ' w' a ((cs.take i).flatMap (·.fields))) ⟨O,y,SLe.refl _,V5.nil⟩ fun i a w3 d hi o=>?_
 obtain ⟨σ3,f,k,j⟩:=o
 refine Z0 ?_
 refine Q7 (fun hh=>?_) (fun hh=>?_)
 ·have e:i<cs.length:=by simpa using hh
  refine M7 (m.lift k) e fun p cells u r N=>?_
  refine Y4 f.sat u r ?_
  refine Y7 f.sat (by rfl) r (Rep.one N) fun q w4 M b hq=>?_
  obtain ⟨lv,fv,mv,rfl,f1,f2,f3,f4,f5⟩:=N
  rw[fa]
  refine ld b.sat hq rfl ?_
  have E:=Vp (fun c:Cla=>c.fields) 1000000 (cs.take i) fun c t=>s c (List.mem_of_mem_take t)
  rw[List.length_take] at E
  have X:=s cs[i] (List.getElem_mem e)
  have R:min i cs.length*1000000≤100000*1000000:=Nat.mul_le_mul_right _ (by omega)
  refine Wi (f.trans b) (j.up b) (f2.up b) rfl (by omega) (by omega) fun J w5 U D z _=>?_
  refine N1 ?_
  refine Z9 (by omega) e ⟨M,D,k.more ⟨b.le⟩,?_⟩
  rw[List.take_add_one,List.getElem?_eq_getElem e,List.flatMap_append]
  simpa using z
 ·have e: ¬i<cs.length:=by simpa using hh
  rw[List.take_of_length_le (by omega)] at j
  obtain ⟨M,C,B,Z,_⟩:=j.keep f
  refine h _ _ _ C ?_
  unfold Y6
  rw[g];exact B)
theorem X2b {n f:X0} (hs:X2 w σ) (ht:Tab σ v l) (ha:Jd l) (hl:l.length≤100000) (hsm: ∀c∈l,Qh c) (h: ∀w' σ',Stp w σ w' σ'→K (I (L5 (Jk l n f))) w'):Q1 P F.bp [v,S n,S f] w K:=Ip (by
 unfold Nx
 refine U5 hs rfl fun q w1 σ1 hk1 hq=>?_
 refine Ic hk1.sat (ht.lift ⟨hk1.le⟩) ha hl hsm fun v' w2 σ2 hk2 hv2=>?_
 rw[Qa]
 refine Gl (fun x=>decide (x.name=f)) hk2.sat hv2 (fun x cs w3 K _ hs3 hr hl hK=>Z7 (Bm ?_)) fun w3 hb=>?_
 ·obtain ⟨rfl,_⟩:=hr
  unfold Vh
  have hq2:=hq.up hk2
  refine Y9 hs3 fun a w4 σ4 hk4 ha4=>?_
  (repeat' (first | (with_reducible intro _) | (with_reducible refine U9 ?_) | (simp only[↓M2,M2,Mb,reduceIte]) | (with_reducible first | refine ld aS aL aR ?_ | refine X7 aS aL aR ?_ | refine Y4 aS aL aR ?_ | refine Q8 aL ?_ | refine J0 aR ?_ | refine Y9 aS ?_ | refine N2 aS aL ?_ | refine U5 aS aR ?_ | refine Y7 aS aR aR (Rep.one (by assumption)) ?_ | refine U6 aS aR aR aR ?_ | (refine Z8 (fun hh=>?_) (fun hh=>?_)<;>(try simp only[hh,Bool.not_true,Bool.not_false,↓M2,M2,Mb,reduceIte])) | (refine Q7 (fun hh=>?_) (fun hh=>?_)<;>(try simp only[hh,Bool.not_true,Bool.not_false,↓M2,M2,Mb,reduceIte])))))
  exact hK _ hk4.bel
 ·exact h _ _ ((hk1.trans hk2).trans (Stp.of_below hk2.sat hb)))
end Go.Proofs.YtjdiakhipmggjaaGreatDoor

namespace Go.Hm
open Go.Kd
theorem Q62 {α:Type} (p:α→Bool): ∀xs:List α,xs.find? p=(xs.findIdx? p).bind (xs[·]?)
 | []=>rfl
 | x::r=>by
  rw[List.find?_cons,List.findIdx?_cons]
  cases p x with
  | true=>rfl
  | false=>
   simp only[Bool.false_eq_true,if_false]
   rw[Q62 p r]
   cases r.findIdx? p<;>simp
def X0n (l:List Cla):Prop:= ∀c∈l,∀u∈c.like,∃d,lk l u=some d
def Nm (c:Cla):Prop:=c.name.length≤100∧(∀f∈c.fields,f.name.length≤100∧f.kind.length≤100)∧ ∀m∈c.methods,m.result.length≤100∧ ∀p∈m.params,p.length≤100
structure Ok (l : List Cla) : Prop where
  acy : Jd l
  len : l.length ≤ 100000
  sm : ∀ c ∈ l, Qh c
  full : X0n l
  nm : ∀ c ∈ l, Nm c
abbrev oM (o:Option Hm.Met):Hm.Met:=o.getD Hm.Met.zero
abbrev o1 (o:Option (X0×Hm.Met)):X0:=(o.map (·.1)).getD []
abbrev o2 (o:Option (X0×Hm.Met)):Hm.Met:=(o.map (·.2)).getD Hm.Met.zero
theorem Xp {α β:Type} {xs:List α} {f:α→Option β} {n:Nat} (h:n<xs.length) (a:(xs.take n).findSome? f=none):(xs.take (n+1)).findSome? f=f xs[n]:=by
 rw[List.take_add_one,List.getElem?_eq_getElem h,List.findSome?_append,a];simp
theorem Xl {α β:Type} {xs:List α} {f:α→Option β} {n:Nat} {y:β} (h:n<xs.length) (b:(xs.take n).findSome? f=none) (a:f xs[n]=some y):xs.findSome? f=some y:=by
 have:=Xp h b
 rw[a] at this
 rw[←List.take_append_drop (n+1) xs,List.findSome?_append,this];rfl
end Go.Hm
namespace Go.Proofs.YtjdiakhipmggjaaGreatDoor
open Go.Emb Go.RowKit Go.Kd Go.Hm
variable {w : World} {K : Value → World → Prop} {σ : Q5} {v : Value} {l : List Cla}
theorem Qv:E7 σ Hm.Met.zero [S [], .slice none 0 0,S [], .bool false,I 0, .slice none 0 0, .slice none 0 0]:=
 ⟨_,_,_,rfl,Sl.nil,Sl.nil,Sl.nil,by decide,by decide,by decide,by decide⟩
theorem Gk (h:K (.agg [S [], .slice none 0 0,S [], .bool false,I 0, .slice none 0 0, .slice none 0 0].toArray) w):H1 P T.d [] w K:=W0 (by kernel_rfl) h
theorem X0X {c:Cla} {cs:List Value} {n:X0} (hs:X2 w σ) (hc:V0 σ c cs) (hsm:Qh c)
 (h: ∀pv cv hv w' σ',Stp w σ w' σ'→E7 σ' (oM (B7 c n)) [S (oM (B7 c n)).name,pv,S (oM (B7 c n)).result, .bool (oM (B7 c n)).abs,I (oM (B7 c n)).locals,cv,hv]→
  K (.tuple #[.agg [S (oM (B7 c n)).name,pv,S (oM (B7 c n)).result, .bool (oM (B7 c n)).abs,I (oM (B7 c n)).locals,cv,hv].toArray, .bool (B7 c n).isSome]) w'):Q1 P F.cC [.agg cs.toArray,S n] w K:=Q8B (by
 obtain ⟨lv,fv,mv,rfl,g1,g2,g3,g4,g5⟩:=hc
 unfold Q33
 refine Y9 hs fun a w1 σ1 hk1 ha1=>?_
 refine U5 hk1.sat rfl fun q w2 σ2 hk2 hq=>?_
 refine N0 hk2.sat fun b w3 σ3 hb hk3 hm=>?_
 rw[fa]
 have ha3:=(ha1.up hk2).up hk3
 have g3:=((g3.up hk1).up hk2).up hk3
 have hq3:=hq.up hk3
 refine ld hk3.sat ha3 rfl ?_
 rw[Qa]
 have hS3:=(hk1.trans hk2).trans hk3
 have hb0:w.heap.size≤b:=M8 hb (hk1.trans hk2)
 refine Bw (fun x=>decide (x.name=n)) hk3.sat g3 (fun x cs w4 K _ hs4 hr hl hK=>Z7 (Q5F ?_)) fun w4 hb4=>?_
 ·obtain ⟨pv,cv,hv,rfl,_⟩:=hr
  unfold Q0X
  refine Y9 hs4 fun a w5 σ5 hk5 ha5=>?_
  (repeat' (first | (with_reducible intro _) | (with_reducible refine U9 ?_) | (simp only[↓M2,M2,Mb,reduceIte]) | (with_reducible first | refine ld aS aL aR ?_ | refine X7 aS aL aR ?_ | refine Y4 aS aL aR ?_ | refine Q8 aL ?_ | refine J0 aR ?_ | refine Y9 aS ?_ | refine N2 aS aL ?_ | refine U5 aS aR ?_ | refine Y7 aS aR aR (Rep.one (by assumption)) ?_ | refine U6 aS aR aR aR ?_ | (refine Z8 (fun hh=>?_) (fun hh=>?_)<;>(try simp only[hh,Bool.not_true,Bool.not_false,↓M2,M2,Mb,reduceIte])) | (refine Q7 (fun hh=>?_) (fun hh=>?_)<;>(try simp only[hh,Bool.not_true,Bool.not_false,↓M2,M2,Mb,reduceIte])))))
  exact hK _ hk5.bel
 have hk4:Stp w3 σ3 w4 σ3:=Stp.of_below hk3.sat hb4
 have hm:=hm.step hk4
 have hS4:=hS3.trans hk4
 unfold B7 at h
 rw[Q62] at h
 refine Z0 ?_
 cases hf:c.methods.findIdx? fun x=>decide (x.name=n) with
 | none=>
  rw[hf] at h
  simp only[L5]
  refine J4 ?_
  refine Gk ?_
  refine F8 hm hS4 hb0 rfl rfl (Rep.one (Qv (σ:=σ3))) fun w5 hS5 hm5=>?_
  refine V1 hm5 rfl ?_
  exact h _ _ _ w5 σ3 hS5.stp Qv
 | some i=>
  rw[hf] at h
  have hi:i<c.methods.length:=(List.findIdx?_eq_some_iff_getElem.1 hf).1
  simp only[Option.bind_some,List.getElem?_eq_getElem hi] at h
  simp only[L5]
  refine Q7 (fun hh=>absurd (of_decide_eq_true hh) (by omega)) (fun _=>?_)
  rw[fa]
  refine ld hk4.sat ha3 rfl ?_
  refine M7 g3 hi fun p cells hl1 hl2 hr=>?_
  refine Y4 hk4.sat hl1 hl2 ?_
  refine Q46 hk4.sat hr (hsm.2.2.2 _ (List.getElem_mem hi)) fun pv cv hv w5 σ5 hk5 hr5=>?_
  refine F8 (hm.step hk5) (hS4.trans hk5) hb0 rfl rfl (Rep.one hr5) fun w6 hS6 hm6=>?_
  refine V1 hm6 rfl ?_
  exact h _ _ _ w6 σ5 hS6.stp hr5)
theorem X2s {n:X0} (ok:Ok l): ∀(k:Nat) {c:Cla} {cs:List Value} {w:World} {σ:Q5} {K:Value→World→Prop},K7 l c.name<k→lk l c.name=some c→X2 w σ→Tab σ v l→V0 σ c cs→
 (∀pv W Z w' Y,Stp w σ w' Y→E7 Y (o2 (V4 l c n)) [S (o2 (V4 l c n)).name,pv,S (o2 (V4 l c n)).result, .bool (o2 (V4 l c n)).abs,I (o2 (V4 l c n)).locals,W,Z]→
  K (.tuple #[S (o1 (V4 l c n)), .agg [S (o2 (V4 l c n)).name,pv,S (o2 (V4 l c n)).result, .bool (o2 (V4 l c n)).abs,I (o2 (V4 l c n)).locals,W,Z].toArray, .bool (V4 l c n).isSome]) w')→
 Q1 P F.aX [v, .agg cs.toArray,S n] w K:=by
 intro k
 induction k with
 | zero=>
  intro c cs w σ K hk
  omega
 | succ k ih=>
  intro c cs w σ K hk hc hs ht hr h
  refine As ?_
  obtain ⟨lv,fv,mv,rfl,g1,g2,g3,g4,g5⟩:=hr
  have E:=Q4p ok.acy hc n
  generalize hf:(fun u=>match lk l u with | none=>none | some d=>match B7 d n with | some m=>some (u,m) | none=>V4 l d n)=f at E
  unfold Da
  refine Y9 hs fun a w1 σ1 J a7=>?_
  refine N0 J.sat fun b w2 σ2 hb L a8=>?_
  have Q:w.heap.size≤b:=M8 hb J
  have aq:=a7.up L
  rw[fa]
  refine ld L.sat aq rfl ?_
  have g1:=(g1.up J).up L
  refine Q8 g1 ?_
  refine U1 c.like.length (fun i w'=> ∃Y,Stp w σ w' Y∧SLe σ2 Y∧Y1 Y w' b [S [], .slice none 0 0,S [], .bool false,I 0, .slice none 0 0, .slice none 0 0]∧(c.like.take i).findSome? f=none) ⟨σ2,J.trans L,SLe.refl _,a8,rfl⟩ fun i w3 d hi ae=>?_
  obtain ⟨σ3,y,ad,af,z⟩:=ae
  have ba:=ht.lift ⟨y.le⟩
  refine Z0 ?_
  refine Q7 (fun hh=>?_) (fun hh=>?_)
  ·have g:i<c.like.length:=by simpa using hh
   refine Q5d (g1.lift ad) g fun p a2 ah=>?_
   refine X7 y.sat a2 rfl ?_
   obtain ⟨d,X⟩:=ok.full c (V2 hc).2.1 _ (List.getElem_mem g)
   obtain ⟨am,ax,_⟩:=V2 X
   have j:f c.like[i]=match B7 d n with | some m=>some (c.like[i],m) | none=>V4 l d n:=by rw[←hf];simp only[X]
   refine Zl y.sat ba X fun az aw a0 w4 σ4 H f1 f2 f3 f4 f5 a9=>?_
   refine X0X H.sat a9 (ok.sm d ax) fun pv W Z w5 σ5 M ag=>?_
   refine J7 (vs:=[_,_]) rfl ?_
   refine J7 (vs:=[_,_]) rfl ?_
   refine Y7 M.sat (by rfl) rfl (Rep.one ag) fun q w6 σ6 B aj=>?_
   have t:=((y.trans H).trans M).trans B
   have al:=((af.step H).step M).step B
   have R:=RMe_lift ag ⟨B.le⟩
   cases ho:B7 d n with
   | some m=>
    rw[ho] at j R aj
    (try simp only[ho])
    refine J4 ?_
    refine U2 t.sat ?_
    refine H0 (fun v _=>v= .agg [S m.name,pv,S m.result, .bool m.abs,I m.locals,W,Z].toArray) (fun _ _ _ h _=>h) (fun w hb=>Y4 hb.sat aj rfl ⟨Below.refl _ _,rfl⟩) ?_
    rintro _ w7 ai rfl
    refine F8 (al.step ai.stp) (t.trans ai.stp) Q rfl rfl (Rep.one R) fun w8 av a1=>?_
    refine V1 a1 rfl ?_
    have V:=E.trans (Xl g z j)
    rw[V] at h
    exact h _ _ _ w8 σ6 av.stp R
   | none=>
    rw[ho] at j
    (try simp only[Option.isSome_none])
    refine Z6 ?_
    refine Zl t.sat (ht.lift ⟨t.le⟩) X fun az aw a0 w7 σ7 A f1 f2 f3 f4 f5 a6=>?_
    have bk:=Xw ok.acy hc (by simp[U3,List.getElem_mem g]:c.like[i]∈U3 c) X
    refine ih (by rw[am];omega) (by rw[am];exact X) A.sat (ht.lift ⟨(t.trans A).le⟩) a6 fun pv W Z w8 σ8 D ap=>?_
    refine J7 (vs:=[_,_,_]) rfl ?_
    refine J7 (vs:=[_,_,_]) rfl ?_
    refine J7 (vs:=[_,_,_]) rfl ?_
    refine Y7 D.sat (by rfl) rfl (Rep.one ap) fun q w9 σ9 C an=>?_
    have O:=((t.trans A).trans D).trans C
    have ac:=((al.step A).step D).step C
    have U:=RMe_lift ap ⟨C.le⟩
    cases V:V4 l d n with
    | some r=>
     obtain ⟨s,m⟩:=r
     rw[V] at j U an
     (try simp only[V])
     refine J4 ?_
     refine U2 O.sat ?_
     refine H0 (fun v _=>v= .agg [S m.name,pv,S m.result, .bool m.abs,I m.locals,W,Z].toArray) (fun _ _ _ h _=>h) (fun w hb=>Y4 hb.sat an rfl ⟨Below.refl _ _,rfl⟩) ?_
     rintro _ bh N rfl
     refine F8 (ac.step N.stp) (O.trans N.stp) Q rfl rfl (Rep.one U) fun a4 aa ab=>?_
     refine V1 ab rfl ?_
     have ah:=E.trans (Xl g z j)
     rw[ah] at h
     exact h _ _ _ a4 σ9 aa.stp U
    | none=>
     rw[V] at j
     (try simp only[Option.isSome_none])
     refine Z6 ?_
     refine N1 ?_
     refine Y5 (by have:=g1.max;omega) g ⟨σ9,O,?_,ac,?_⟩
     ·exact ad.more ⟨fun b o e=>C.le _ _ (D.le _ _ (A.le _ _ (B.le _ _ (M.le _ _ (H.le _ _ e)))))⟩
     ·rw[Xp g z];exact j
  ·have g: ¬i<c.like.length:=by simpa using hh
   rw[List.take_of_length_le (by omega)] at z
   refine Gk ?_
   refine F8 af y Q rfl rfl (Rep.one (Qv (σ:=σ3))) fun w5 a5 ay=>?_
   refine V1 ay rfl ?_
   have V:=E.trans z
   rw[V] at h
   exact h _ _ _ w5 σ3 a5.stp Qv
end Go.Proofs.YtjdiakhipmggjaaGreatDoor

namespace Go.Hm
open Go.Kd
theorem X0E {l:List Cla} {n:X0} {c:Cla} (h:c∈chain l n):lk l c.name=some c:=by
 have key: ∀(f:Nat) (n:X0),c∈G7 (lk l) f n→lk l c.name=some c:=by
  intro f
  induction f with
  | zero=>intro n h;simp[G7] at h
  | succ f b=>
   intro n h
   simp only[G7] at h
   split at h
   ·simp at h
   ·rename_i d a
    rcases List.mem_cons.1 h with rfl | h
    ·rw[(V2 a).1];exact a
    ·exact b _ h
 exact key _ _ h
end Go.Hm
namespace Go.Proofs.YtjdiakhipmggjaaGreatDoor
open Go.Emb Go.RowKit Go.Kd Go.Hm
variable {w : World} {K : Value → World → Prop} {σ : Q5} {v : Value} {l : List Cla}
theorem X0b {k n:X0} (hs:X2 w σ) (ht:Tab σ v l) (ok:Ok l)
 (h: ∀pv cv hv w' E,Stp w σ w' E→E7 E (o2 (V3 l k n)) [S (o2 (V3 l k n)).name,pv,S (o2 (V3 l k n)).result, .bool (o2 (V3 l k n)).abs,I (o2 (V3 l k n)).locals,cv,hv]→
  K (.tuple #[S (o1 (V3 l k n)), .agg [S (o2 (V3 l k n)).name,pv,S (o2 (V3 l k n)).result, .bool (o2 (V3 l k n)).abs,I (o2 (V3 l k n)).locals,cv,hv].toArray, .bool (V3 l k n).isSome]) w'):
 Q1 P F.bf [v,S k,S n] w K:=Gc (by
 unfold Lj
 refine N0 hs fun b w1 σ1 H J a0=>?_
 refine Q9A J.sat (ht.lift ⟨J.le⟩) ok.acy ok.len fun v1 w2 σ2 am ac=>?_
 have bc:=a0.step am
 have bn:=a0.lt
 refine Q4n (J.trans am) (ac.mono J.bel.size) fun w3 a6 a4 a1=>?_
 rw[List.reverse_reverse] at a1
 obtain ⟨σ3,ay,L,bl,ai⟩:=a1.keep a4
 have bh:=Bb l k
 have aw:v1.ownBlock≠some b:=fun e=>by have:=ac.own e;omega
 have ar:Y1 σ3 w3 b [S [], .slice none 0 0,S [], .bool false,I 0, .slice none 0 0, .slice none 0 0]:=by
  have:=bc.kp a6 aw
  exact ⟨(ai b fun e=>aw e.symm).trans this.1,this.2⟩
 refine Q8 L ?_
 unfold V3 at h
 refine U1 (chain l k).length (fun i w'=> ∃E,Stp w σ w' E∧SLe σ3 E∧Y1 E w' b [S [], .slice none 0 0,S [], .bool false,I 0, .slice none 0 0, .slice none 0 0]∧((chain l k).take i).findSome? (fun c=>(B7 c n).map (c.name,·))=none) ⟨σ3,ay,SLe.refl _,ar,rfl⟩ fun i w5 d hi D=>?_
 obtain ⟨σ5,M,R,ax,y⟩:=D
 refine Z0 ?_
 refine Q7 (fun hh=>?_) (fun hh=>?_)
 ·have a:i<(chain l k).length:=by simpa using hh
  refine M7 (L.lift R) a fun p cells V z Z=>?_
  refine Y4 M.sat V z ?_
  refine Y7 M.sat (by rfl) z (Rep.one Z) fun q w6 σ6 A ad=>?_
  refine Y4 A.sat ad z ?_
  have av:=Cr (List.getElem_mem a)
  refine X0X A.sat (Rep.up A.le Z) (ok.sm _ av) fun pv cv hv w7 σ7 j aj=>?_
  refine J7 (vs:=[_,_]) rfl ?_
  refine J7 (vs:=[_,_]) rfl ?_
  refine Y7 j.sat (by rfl) rfl (Rep.one aj) fun q8 w8 σ8 u ak=>?_
  have Y:=((M.trans A).trans j).trans u
  have a2:=((ax.step A).step j).step u
  have B:=RMe_lift aj ⟨u.le⟩
  cases C:B7 (chain l k)[i] n with
  | some m=>
   rw[C] at B ak
   (try simp only[C])
   refine J4 ?_
   obtain ⟨lv,fv,mv,rfl,g⟩:=Z
   refine U2 Y.sat ?_
   refine X4 (.pointer (some (q.add 0))) (fun w H=>by rw[fa];exact X6 rfl) ?_
   refine X4 (S (chain l k)[i].name) (fun t w H e=>by rw[e];exact ld H.sat ((ad.up j).up u) rfl (X6 rfl)) ?_
   refine H0 (fun v _=>v= .agg [S m.name,pv,S m.result, .bool m.abs,I m.locals,cv,hv].toArray) (fun _ _ _ h _=>h) (fun w H=>Y4 H.sat ak rfl ⟨Below.refl _ _,rfl⟩) ?_
   rintro _ _ _ w9 af rfl rfl rfl
   refine F8 (a2.step af.stp) (Y.trans af.stp) H rfl rfl (Rep.one B) fun ae ao ap=>?_
   refine V1 ap rfl ?_
   rw[Xl (f:=fun c=>(B7 c n).map (c.name,·)) a y (by simp only[C];rfl)] at h
   exact h _ _ _ ae σ8 ao.stp B
  | none=>
   (try simp only[C])
   refine Z6 ?_
   refine N1 ?_
   refine Y5 (by have:=ok.len;omega) a ⟨σ8,Y,R.more ⟨fun b o e=>u.le _ _ (j.le _ _ (A.le _ _ e))⟩,a2,?_⟩
   rw[Xp a y];simp only[C];rfl
 ·have a: ¬i<(chain l k).length:=by simpa using hh
  rw[List.take_of_length_le (by omega)] at y
  rw[y] at h
  clear ar ay hh
  refine Q8 (L.lift R) ?_
  refine U1 (chain l k).length (fun i w'=> ∃E,Stp w σ w' E∧SLe σ3 E∧Y1 E w' b [S [], .slice none 0 0,S [], .bool false,I 0, .slice none 0 0, .slice none 0 0]∧((chain l k).take i).findSome? (fun c=>V4 l c n)=none) ⟨σ5,M,R,ax,rfl⟩ fun i w6 d hi D=>?_
  obtain ⟨σ6,N,ah,aq,y⟩:=D
  refine Z0 ?_
  refine Q7 (fun hh=>?_) (fun hh=>?_)
  ·have a:i<(chain l k).length:=by simpa using hh
   refine M7 (L.lift ah) a fun p cells V z Z=>?_
   refine Y4 N.sat V z ?_
   refine Y7 N.sat (by rfl) z (Rep.one Z) fun q w7 σ7 j ba=>?_
   refine Y4 j.sat ba z ?_
   have Q:=N.trans j
   have bd:=X0E (List.getElem_mem a)
   refine X2s ok _ (Nat.lt_succ_self _) bd j.sat (ht.lift ⟨Q.le⟩) (Rep.up j.le Z) fun pv cv hv w8 σ8 u B=>?_
   refine J7 (vs:=[_,_,_]) rfl ?_
   refine J7 (vs:=[_,_,_]) rfl ?_
   refine J7 (vs:=[_,_,_]) rfl ?_
   refine Y7 u.sat (by rfl) rfl (Rep.one B) fun q9 w9 σ9 O az=>?_
   have W:=(Q.trans u).trans O
   have an:=((aq.step j).step u).step O
   have X:=RMe_lift B ⟨O.le⟩
   cases C:V4 l (chain l k)[i] n with
   | some r=>
    obtain ⟨s,m⟩:=r
    rw[C] at X az
    (try simp only[C])
    refine J4 ?_
    refine U2 W.sat ?_
    refine H0 (fun v _=>v= .agg [S m.name,pv,S m.result, .bool m.abs,I m.locals,cv,hv].toArray) (fun _ _ _ h _=>h) (fun w H=>Y4 H.sat az rfl ⟨Below.refl _ _,rfl⟩) ?_
    rintro _ ae U rfl
    refine F8 (an.step U.stp) (W.trans U.stp) H rfl rfl (Rep.one X) fun a8 ag al=>?_
    refine V1 al rfl ?_
    have:=Xl (f:=fun c=>V4 l c n) a y C
    unfold V4 at this
    rw[this] at h
    exact h _ _ _ a8 σ9 ag.stp X
   | none=>
    (try simp only[C])
    refine Z6 ?_
    refine N1 ?_
    refine Y5 (by have:=ok.len;omega) a ⟨σ9,W,ah.more ⟨fun b o e=>O.le _ _ (u.le _ _ (j.le _ _ e))⟩,an,?_⟩
    rw[Xp a y];exact C
  ·have a: ¬i<(chain l k).length:=by simpa using hh
   rw[List.take_of_length_le (by omega)] at y
   refine Gk ?_
   refine F8 aq N H rfl rfl (Rep.one (Qv (σ:=σ6))) fun w7 Q a9=>?_
   refine V1 a9 rfl ?_
   unfold V4 at y
   rw[y] at h
   exact h _ _ _ w7 σ6 Q.stp Qv)
theorem Q4b {n:X0} (hs:X2 w σ) (ht:Tab σ v l) (h: ∀w' σ',Stp w σ w' σ'→K (.bool (P3 l n)) w'):Q1 P F.aC [v,S n] w K:=Bo (by
 unfold Vv
 unfold P3 at h
 cases hd:lk l n with
 | none=>
  rw[hd] at h
  (repeat' (first | (with_reducible intro _) | (with_reducible refine U9 ?_) | (simp only[↓M2,M2,Mb,reduceIte]) | (with_reducible first | refine ld aS aL aR ?_ | refine X7 aS aL aR ?_ | refine Y4 aS aL aR ?_ | refine Q8 aL ?_ | refine J0 aR ?_ | refine Y9 aS ?_ | refine N2 aS aL ?_ | refine U5 aS aR ?_ | refine Y7 aS aR aR (Rep.one (by assumption)) ?_ | refine U6 aS aR aR aR ?_ | refine Q11 au au au ?_ | (refine Z8 (fun hh=>?_) (fun hh=>?_)<;>(try simp only[hh,Bool.not_true,Bool.not_false,↓M2,M2,Mb,reduceIte])) | (refine Q7 (fun hh=>?_) (fun hh=>?_)<;>(try simp only[hh,Bool.not_true,Bool.not_false,↓M2,M2,Mb,reduceIte])))))
  all_goals exact aF
 | some d=>
  rw[hd] at h
  (repeat' (first | (with_reducible intro _) | (with_reducible refine U9 ?_) | (simp only[↓M2,M2,Mb,reduceIte]) | (with_reducible first | refine ld aS aL aR ?_ | refine X7 aS aL aR ?_ | refine Y4 aS aL aR ?_ | refine Q8 aL ?_ | refine J0 aR ?_ | refine Y9 aS ?_ | refine N2 aS aL ?_ | refine U5 aS aR ?_ | refine Y7 aS aR aR (Rep.one (by assumption)) ?_ | refine U6 aS aR aR aR ?_ | refine Sq au au au ?_ | refine Zl au au au ?_ | (refine Z8 (fun hh=>?_) (fun hh=>?_)<;>(try simp only[hh,Bool.not_true,Bool.not_false,↓M2,M2,Mb,reduceIte])) | (refine Q7 (fun hh=>?_) (fun hh=>?_)<;>(try simp only[hh,Bool.not_true,Bool.not_false,↓M2,M2,Mb,reduceIte])))))
  all_goals exact aF)
end Go.Proofs.YtjdiakhipmggjaaGreatDoor

namespace Go.Kd
def brk (b:UInt8):Bool:=[(91:UInt8),93].contains b
def Q1E:Nat→X0→X0
 | 0,s=>s
 | n+1,s=>match s.getLast? with
  | some b=>if brk b then Q1E n (s.take (s.length-1)) else s
  | none=>s
def Hf (s:X0):X0:=Q1E s.length s
theorem Q8F: ∀(n m:Nat) (s:X0),s.length≤n→s.length≤m→Q1E n s=Q1E m s:=by
 intro n
 induction n with
 | zero=>
  intro m s h _
  have:s=[]:=List.eq_nil_of_length_eq_zero (by omega)
  subst this
  cases m<;>rfl
 | succ n a=>
  intro m s h c
  cases m with
  | zero=>
   have:s=[]:=List.eq_nil_of_length_eq_zero (by omega)
   subst this;rfl
  | succ m=>
   simp only[Q1E]
   cases d:s.getLast? with
   | none=>rfl
   | some b=>
    simp only
    split
    ·exact a m _ (by rw[List.length_take];omega) (by rw[List.length_take];omega)
    ·rfl
theorem Q1k (s:X0):Hf s=match s.getLast? with | some b=>if brk b then Hf (s.take (s.length-1)) else s | none=>s:=by
 unfold Hf
 cases d:s with
 | nil=>rfl
 | cons c r=>
  rw[←d]
  obtain ⟨n,e⟩: ∃n,s.length=n+1:=⟨r.length,by rw[d];rfl⟩
  have a:s.length-1=n:=by omega
  rw[e]
  simp only[Q1E,a]
  cases f:s.getLast? with
  | none=>rfl
  | some b=>
   simp only
   split
   ·rw[show n+1-1=n by omega];exact Q8F n (s.take n).length _ (by rw[List.length_take];omega) (Nat.le_refl _)
   ·rfl
theorem Q9Q {s:X0} (h:name s=true): ∃b,s.getLast?=some b∧S3 b.toNat=true:=by
 cases s with
 | nil=>simp[name] at h
 | cons c r=>
  refine ⟨(c::r).getLast (by simp),List.getLast?_eq_some_getLast (by simp),?_⟩
  simp only[name,Bool.and_eq_true,List.all_eq_true] at h
  exact h.2 _ (List.getLast_mem _)
theorem Q9Y {b:UInt8} (h:S3 b.toNat=true):brk b=false:=by
 have c:b≠91:=by rintro rfl;revert h;decide
 have a:b≠93:=by rintro rfl;revert h;decide
 simp[brk,c,a]
theorem Ma {s:X0} (h:(plain s||M6 s)=true):name s=true:=by
 simp only[Bool.or_eq_true] at h
 rcases h with h | h
 ·simp only[plain,Bool.or_eq_true,decide_eq_true_eq] at h
  rcases h with (h | h) | h<;>subst h<;>decide
 ·cases s with
  | nil=>simp[M6] at h
  | cons c r=>simp only[M6,Bool.and_eq_true] at h;exact h.1
end Go.Kd
namespace Go.Proofs.YtjdiakhipmggjaaGreatDoor
open Go.Emb Go.RowKit Go.Kd Go.Hm
variable {w : World} {K : Value → World → Prop} {σ : Q5} {v : Value} {l : List Cla}
theorem X0N {s:X0} (h:arr s=true):Hf s=Hf (Kd.cutA s):=by
 have e:2≤s.length∧s.drop (s.length-2)=[91,93]:=by simpa [arr] using h
 obtain ⟨i,f⟩:=e
 have a:s=Kd.cutA s++[91,93]:=by unfold Kd.cutA;rw[←f,List.take_append_drop]
 have g:(Kd.cutA s).length+2=s.length:=by unfold Kd.cutA;rw[List.length_take];omega
 have c:s.getLast?=some 93:=by rw[a];simp
 have d:s.take (s.length-1)=Kd.cutA s++[91]:=by
  conv=>lhs;rw[a]
  rw[List.take_append,List.length_append]
  simp
  exact List.take_of_length_le (by omega)
 rw[Q1k s,c]
 simp only[show brk 93=true from rfl,if_true,d]
 rw[Q1k]
 have b:(Kd.cutA s++[91]).getLast?=some 91:=by simp
 rw[b]
 simp only[show brk 91=true from rfl,if_true]
 congr 1
 simp
theorem Q9B {s:X0}:(plain (base s).1||M6 (base s).1)=true→Hf s=(base s).1:=by
 have key: ∀(n:Nat) (s:X0),s.length≤n→(plain (base s).1||M6 (base s).1)=true→Hf s=(base s).1:=by
  intro n
  induction n with
  | zero=>
   intro s h a
   have:s=[]:=List.eq_nil_of_length_eq_zero (by omega)
   subst this;rfl
  | succ n e=>
   intro s h a
   by_cases c:arr s=true
   ·have d:base s=((base (Kd.cutA s)).1,(base (Kd.cutA s)).2+1):=by rw[Xj s,c];simp
    rw[d] at a⊢
    rw[X0N c]
    exact e _ (by have:=I9 c;omega) a
   ·have d:base s=(s,0):=by rw[Xj s,eq_false_of_ne_true c];simp
    rw[d] at a⊢
    obtain ⟨b,g,f⟩:=Q9Q (Ma a)
    rw[Q1k,g]
    simp[Q9Y f]
 exact key _ s (Nat.le_refl _)
instance z_asciiSet:TZ P T.ab 256 256 (.agg (Array.replicate 256 (.bool false))):=⟨by kernel_rfl⟩
theorem Q6K (h: ∀w',Below w.heap.size w w'→K (.tuple #[.agg (Lib.setCells [91,93]), .bool true]) w'):Q1 P F.ci [S [91,93]] w K:=by
 refine Wl (fn:=Tryz.f157) Tryz.func157 (by kernel_rfl) (by kernel_rfl) (Calls.mono (Tryz.strings_makeASCIISet (fun w=>Zk z_asciiSet w) ⟨[91,93].toArray⟩ w (by decide) (by
  intro j b a
  have:b∈[(91:UInt8),93]:=List.mem_of_getElem? a
  simp at this;rcases this with rfl | rfl<;>decide)) ?_)
 rintro e w' ⟨rfl,rfl⟩
 exact h _ ((Below.refl _ _).alloc (Nat.le_refl _) _)
theorem Q2M {q:Addr} {b:UInt8} (c:X2 w σ) (a:Z4 σ q (Lib.setCells [91,93]).toList) (h:K (.bool (brk b)) w):Q1 P F.ax [.pointer (some q), .int .u8 b.toNat] w K:=Ny (by
 unfold Qw
 rw[L7]
 have d:=b.toNat_lt
 rw[Q90 (by omega) (by omega)]
 refine ld c a ?_ h
 have:=Lib.setCells_at [91,93] b
 rw[←Array.getElem?_toList] at this
 simpa [brk] using this)
theorem Q2q {q:Addr} {s:X0} (j:X2 w σ) (n:s.length≤U0) (m:Z4 σ q (Lib.setCells [91,93]).toList) (h:K (S (Hf s)) w):Q1 P F.am [S s, .pointer (some q)] w K:=Rv (by
 unfold Ud
 refine U9 ?_
 refine Wc (fun x w'=>w'=w∧ ∃u:X0,x=S u∧u.length≤U0∧Hf u=Hf s) (fun x _=>(sOf x).length) ⟨rfl,s,rfl,n,rfl⟩ ?_
 rintro _ d _ ⟨rfl,u,rfl,e,f⟩
 have g:sOf (S u)=u:=by simp[sOf]
 simp only[g]
 refine Fh X8 ?_
 refine Q1s ?_
 refine Q7 (fun hh=>?_) (fun hh=>?_)
 ·have k:0<u.length:=by simpa using hh
  have o:u.length≤9223372036854775807:=Nat.le_trans e (by decide)
  refine Fh X8 ?_
  refine Zi ⟨by omega,by omega⟩ ?_
  have i:((u.length:Int)-1).toNat=u.length-1:=by omega
  rw[Xm X8 (by omega) (by omega)]
  simp only[i]
  have b:u.getLast?=some (u[u.length-1]'(by omega)):=by rw[List.getLast?_eq_getElem?,List.getElem?_eq_getElem]
  have a:=Q1k u
  rw[b] at a
  simp only at a
  refine Q2M j m ?_
  cases c:brk (u[u.length-1]'(by omega)) with
  | true=>
   rw[c] at a
   simp only[↓M1,M1,Mb,reduceIte]
   rw[G3 (by omega) (by omega),T0 X8 (by omega) (by omega)]
   simp only[i]
   refine ⟨⟨trivial,_,rfl,by rw[List.length_take];omega,?_⟩,?_⟩
   ·rw[←f,a];simp
   ·have:sOf (S (u.take (u.length-1)))=u.take (u.length-1):=by simp[sOf]
    simp only[this,List.length_take];omega
  | false=>
   rw[c] at a
   simp only[↓M1,M1,Mb,reduceIte]
   intro _
   rw[←f,a] at h
   simpa using h
 ·have k: ¬0<u.length:=by simpa using hh
  have:u=[]:=List.eq_nil_of_length_eq_zero (by omega)
  subst this
  intro _
  rw[←f] at h
  exact h)
theorem Q75 {s:X0} (hs:X2 w σ) (hl:s.length≤U0) (h: ∀w' σ',Stp w σ w' σ'→K (S (Hf s)) w'):Q1 P F.bG [S s,S [91,93]] w K:=Af (by
 unfold Dh
 by_cases hs0:s=[]
 ·subst hs0
  (repeat' (first | (with_reducible intro _) | (with_reducible refine U9 ?_) | (simp only[↓M2,M2,Mb,reduceIte]) | (with_reducible first | refine ld aS aL aR ?_ | refine X7 aS aL aR ?_ | refine Y4 aS aL aR ?_ | refine Q8 aL ?_ | refine J0 aR ?_ | refine Y9 aS ?_ | refine N2 aS aL ?_ | refine U5 aS aR ?_ | refine Y7 aS aR aR (Rep.one (by assumption)) ?_ | refine U6 aS aR aR aR ?_ | (refine Z8 (fun hh=>?_) (fun hh=>?_)<;>(try simp only[hh,Bool.not_true,Bool.not_false,↓M2,M2,Mb,reduceIte])) | (refine Q7 (fun hh=>?_) (fun hh=>?_)<;>(try simp only[hh,Bool.not_true,Bool.not_false,↓M2,M2,Mb,reduceIte])))))
  all_goals first | exact h _ _ (by (repeat (first | exact Stp.refl (by (first | assumption | exact Stp.sat (by assumption) | exact Hst.sat (by assumption))) | assumption | refine Stp.trans ?_ (by first | assumption | exact Hst.stp (by assumption))))) | (exfalso;simp_all)
 have d1:decide (s=[])=false:=decide_eq_false hs0
 simp only[d1,show decide (([91,93]:X0)=[])=false from rfl,show decide ((([91,93]:X0).length:Int)=1)=false from rfl,↓M1,M1,Mb,reduceIte]
 refine Q6K (W9 hs fun w1 σ1 hk1=>?_)
 simp only[↓M1,M1,Mb,reduceIte]
 have hsz:(Lib.setCells [91,93]).toList.length=256:=by rw[Array.length_toList];exact Lib.setCells_size _
 have hone: ∀u∈(Lib.setCells [91,93]).toList,u.oneCell'=true:=by
  have:=Lib.setCells_one [91,93]
  rw[Array.all_eq_true'] at this
  intro u hu;exact this u (by simpa using hu)
 have htr: ∀{w:World} {σ:Q5} {K:Value→World→Prop} {q:Addr},X2 w σ→Z4 σ q (Lib.setCells [91,93]).toList→K (S (Hf s)) w→Q1 P F.am [S s, .pointer (some q)] w K:=fun hs hq h=>Q2q hs hl hq h
 have hta:Lib.setCells [91,93]=(Lib.setCells [91,93]).toList.toArray:=Array.toArray_toList.symm
 generalize (Lib.setCells [91,93]).toList=cs at*
 rw[hta]
 refine Y7 hk1.sat (by show (Array.replicate 256 (Value.bool false)).size=256;exact Array.size_replicate) hsz hone fun q w2 σ2 hk2 hq=>?_
 refine htr hk2.sat hq ?_
 exact h _ _ (hk1.trans hk2))
theorem Q0W {s:X0} (hs:X2 w σ) (ht:Tab σ v l) (hl:s.length≤U0) (h: ∀w' σ',Stp w σ w' σ'→K (.bool (N3 l s)) w'):Q1 P F.s [v,S s] w K:=Am (by
 unfold On
 unfold N3 at h
 refine K0 ?_
 refine Q7 (fun hh=>?_) (fun hh=>?_)
 ·have e:decide (s=H8)=true:=hh
  rw[e] at h
  exact h _ _ (Stp.refl hs)
 ·have e:decide (s=H8)=false:=hh
  rw[e] at h
  refine Q75 hs hl fun w1 σ1 hk1=>?_
  refine Zj s (Nat.le_trans hl (by decide)) (W9 hk1.sat fun w2 σ2 hk2=>?_)
  cases hr:right s with
  | false=>
   rw[hr] at h
   (repeat' (first | (with_reducible intro _) | (with_reducible refine U9 ?_) | (simp only[↓M2,M2,Mb,reduceIte]) | (with_reducible first | refine ld aS aL aR ?_ | refine X7 aS aL aR ?_ | refine Y4 aS aL aR ?_ | refine Q8 aL ?_ | refine J0 aR ?_ | refine Y9 aS ?_ | refine N2 aS aL ?_ | refine U5 aS aR ?_ | refine Y7 aS aR aR (Rep.one (by assumption)) ?_ | refine U6 aS aR aR aR ?_ | (refine Z8 (fun hh=>?_) (fun hh=>?_)<;>(try simp only[hh,Bool.not_true,Bool.not_false,↓M2,M2,Mb,reduceIte])) | (refine Q7 (fun hh=>?_) (fun hh=>?_)<;>(try simp only[hh,Bool.not_true,Bool.not_false,↓M2,M2,Mb,reduceIte])))))
   all_goals exact aF
  | true=>
   rw[hr] at h
   have hr2:(plain (base s).1||M6 (base s).1)=true:=by
    simp only[right,Bool.and_eq_true] at hr;exact hr.2
   rw[Q9B hr2]
   (repeat' (first | (with_reducible intro _) | (with_reducible refine U9 ?_) | (simp only[↓M2,M2,Mb,reduceIte]) | (with_reducible first | refine ld aS aL aR ?_ | refine X7 aS aL aR ?_ | refine Y4 aS aL aR ?_ | refine Q8 aL ?_ | refine J0 aR ?_ | refine Y9 aS ?_ | refine N2 aS aL ?_ | refine U5 aS aR ?_ | refine Y7 aS aR aR (Rep.one (by assumption)) ?_ | refine U6 aS aR aR aR ?_ | refine Rf _ ?_ | refine Q8l au au ?_ | (refine Z8 (fun hh=>?_) (fun hh=>?_)<;>(try simp only[hh,Bool.not_true,Bool.not_false,↓M2,M2,Mb,reduceIte])) | (refine Q7 (fun hh=>?_) (fun hh=>?_)<;>(try simp only[hh,Bool.not_true,Bool.not_false,↓M2,M2,Mb,reduceIte])))))
   all_goals exact aF)
end Go.Proofs.YtjdiakhipmggjaaGreatDoor

namespace Go.Emb
open Go.RowKit Go.Hm
variable {P : Program} {w w0 w1 w' w'' : World} {K : Value → World → Prop} {σ σ0 σ1 σ' : Q5}
theorem Q4w (m:List (List UInt8×Value)) (k n:List UInt8) (v:Value):C5 (Wm m k v) n=if k=n then some v else C5 m n:=by
 induction m with
 | nil=>simp[Wm,C5]
 | cons p r b=>
  simp only[Wm]
  by_cases h:p.1=k
  ·rw[if_pos h]
   simp only[C5]
   by_cases a:k=n
   ·simp[a]
   ·rw[if_neg a,if_neg a,if_neg (by rw[h];exact a)]
  ·rw[if_neg h]
   simp only[C5]
   by_cases a:p.1=n
   ·rw[if_pos a,if_pos a,if_neg (by intro e;exact h (a.trans e.symm))]
   ·rw[if_neg a,if_neg a];exact b
theorem J8.shift {B sz:Nat} {e:TypeId} {v:Value} {xs:List (List UInt8)} (h:J8 B e sz U7 σ w v xs) (m: ∀k,v.ownBlock=some k→σ' k=none):J8 B e sz U7 σ' w v xs:=by
 obtain ⟨a,f,rfl,q,t,c,n⟩:=h
 refine ⟨a,f,rfl,q,t,fun b d=>⟨(c b d).1,(c b d).2.1,(c b d).2.2.1,m _ (by subst d;rfl)⟩,fun s=>?_⟩
 obtain ⟨g,j,i,rfl,u,y,p,r,o⟩:=n s
 exact ⟨g,j,i,rfl,u,m g rfl,p,r,o⟩
theorem Kpt.sat {D:Nat→Prop} (a:X2 w σ) (c:Kpt D w w') (d: ∀k,D k→σ k=none):X2 w' σ:=fun b o e=>by
 rw[c.block b (a.lt e) fun h=>by rw[d b h] at e;cases e];exact a b o e
theorem Nxt.kpt {D D':Nat→Prop} (h:Nxt D w σ w' σ') (a:Kpt D' w' w'') (c: ∀k,D' k→D k) (b: ∀k,D' k→σ' k=none):Nxt D w σ w'' σ':=
 ⟨h.kp.trans (a.mono fun k _ h=>c k h),h.le,h.old,a.sat h.sat b⟩
theorem X2L {t Q:TypeId} {e:TypeId} {q:Nat} {z:Value} {cs:List Bool} [ts:TS P t e] [tz:TZ P e 1 q z] {B:Nat} {A:World} {g σ':Q5} {i u:Value} {xs:List (List UInt8)} {s:List UInt8}
 (C:J8 B e 1 U7 g A i xs) (hB:B≤A.heap.size) (N:J8 B e 1 U7 g w1 i xs) (p:Nxt (fun k=>i.ownBlock=some k) A g w1 σ') (W:Sl 1 U7 σ' u [s]) (X:(z.cells.size==1&&decide (0<1))=true)
 (j:(xs.length+1)*q≤140737488355328) (L:xs.length+1≤1000000000000):
 X3 P .append [t,t] Q cs [i,u] w1 (dk (Ge B e 1 U7 g i xs s) (VQa A.heap.size B e 1 U7 g i xs s) w1):=by
 have m: ∀k,i.ownBlock=some k→σ' k=none:=fun k c=>(p.old k (C.mem c).2.1).trans (C.mem c).2.2
 refine Q7M p.sat (Nat.le_trans hB p.kp.size) (N.shift m) W X (by simpa using j) (by simpa using L) fun V R D O n d=>?_
 have b:J8 B e 1 U7 g R V (xs++[s]):=n.shift fun k c=>by
  have:=(n.mem c).2.2
  cases hh:g k with
  | none=>rfl
  | some o=>rw[p.le.le _ _ hh] at this;cases this
 refine ⟨⟨D.mono fun k _ h=>h.1,fun h=>?_,fun a f E h=>?_⟩,b,?_⟩
 ·rcases d with ⟨a,f,r,y⟩ | ⟨j,_⟩
  ·rw[y] at b;rw[r];exact b.pre rfl
  ·exact h.below j
 ·rcases d with ⟨Y,H,r,y⟩ | ⟨j,_⟩
  ·rw[r] at E;injection E with M q2 J
   subst M J
   rw[y] at b;exact b
  ·exact h.below j
 ·rcases d with ⟨a,f,r,y⟩ | ⟨j,U⟩
  ·exact .inl ⟨a,f,r,y⟩
  ·exact .inr ⟨fun k c=>Nat.le_trans p.kp.size (U k c),fun k c=>(C.mem c).2.1⟩
end Go.Emb
namespace Go.Hm
open Go.Kd
def Me (l:List Cla) (n:X0):List Cla:=(F7 l n).filterMap (lk l)
theorem Q6x {l:List Cla} (h: ∀c∈l,Qh c) (a:List X0):weigh l a≤l.length*1000001:=by
 unfold weigh
 induction l with
 | nil=>simp
 | cons c r d=>
  have f:=d fun c b=>h c (by simp[b])
  have g:=(h c (by simp)).1
  simp only[List.map_cons,List.sum_cons,List.length_cons,Nat.add_mul]
  have e:(U3 c).length=c.like.length+1:=rfl
  split<;>omega
end Go.Hm
namespace Go.Proofs.YtjdiakhipmggjaaGreatDoor
open Go.Emb Go.RowKit Go.Kd Go.Hm
variable {w : World} {K : Value → World → Prop} {σ : Q5} {v : Value} {l : List Cla}
theorem Q7z {β:Type} {n:X0} {f:Value} (J:β→Cla→Bool×β) (s0:β) (N:β→World→Prop) (D:Nat→Prop) (hs:X2 w σ) (ht:Tab σ v l) (hl:l.length≤100000) (b1: ∀c∈l,Qh c) (hn:n.length≤U0)
 (hD: ∀k,D k→k<w.heap.size∧σ k=none) (ai: ∀s w1 w2,N s w1→(∀k,D k→w2.heap[k]? =w1.heap[k]?)→N s w2) (h0:N s0 w)
 (hf: ∀s c cs (w1:World) (σ1:Q5) (K:Value→World→Prop),SLe σ σ1→X2 w1 σ1→(∀k,D k→σ1 k=none)→N s w1→V0 σ1 c cs→lk l c.name=some c→(∀w',Kpt D w1 w'→N (J s c).2 w'→K (.bool (J s c).1) w')→Z3 P f [.agg cs.toArray] w1 K)
 (h: ∀w' σ',Nxt D w σ w' σ'→N (J3 J s0 (Me l n) 0).2 w'→K (.bool (J3 J s0 (Me l n) 0).1.isSome) w'):Q1 P F.w [v,S n,f] w K:=Tc (by
 unfold Mf
 refine Yx (R:=U7) (sz:=1) (xs:=[n]) (Stp.refl hs) [S n] rfl rfl (by simp;rfl) rfl ⟨⟨rfl,hn⟩,trivial⟩ fun x0 w1 a1 bp _=>?_
 refine Q3h a1.sat fun r w2 hr af cm=>?_
 have b3:=J8.of_acc (bp.up af)
 have bn:=a1.trans af
 have bq:w.heap.size≤r:=Nat.le_trans a1.bel.size hr
 have bl: ∀b,weigh l b≤100001000000:=fun b=>by
  have:=Q6x b1 b
  have h2:l.length*1000001≤100000*1000001:=Nat.mul_le_mul_right _ hl
  omega
 refine Pi (fun d x w1=> ∃(B b:List X0) (s:β) (σ1:Q5) (m:List (X0×Value)),d=B.length+weigh l b∧d≤1+weigh l []∧Nxt D w σ w1 σ1∧J8 w.heap.size T.c 1 U7 σ1 w1 x B∧C2 σ1 w1 r m∧(∀k,(C5 m k).isSome=decide (k∈b))∧x.ownBlock≠some r∧N s w1∧
  F7 l n=Uu (lk l) d B b∧(∃i,J3 J s0 (Me l n) 0=J3 J s (((F7 l n).drop b.length).filterMap (lk l)) i)) (1+weigh l []) ?_ ?_
 ·refine ⟨[n],[],s0,σ,[],by simp,Nat.le_refl _,Nxt.of_stp bn,b3,cm,by simp[C5],?_,ai _ _ _ h0 fun k o=>bn.bel.block k (hD k o).1,rfl,0,by simp[Me]⟩
  intro e
  have:=bp.mem r e
  omega
 rintro a0 d x dd w3 ⟨B,b,s,σ3,m,hd,c4,A,a6,Y,O,ch,ar,hv,i,y⟩ bi
 have cu:=bl []
 have a5:=A.sat
 obtain ⟨aq,C⟩:=Q1l (lk l) d B b
 rw[←hv] at C
 have ae:(F7 l n).drop b.length=aq:=by rw[C];simp
 rw[ae] at y
 refine Q1r a6 ?_
 refine Q1s ?_
 cases ag:B with
 | nil=>
  subst ag
  refine Q7 (fun hh=>absurd (of_decide_eq_true hh) (by simp)) (fun _=>?_)
  have:F7 l n=b:=by rw[hv];cases d<;>rfl
  have hp:aq=[]:=by rw[this] at C;simpa using C
  rw[hp] at y
  rw[y] at h
  exact h _ _ A ar
 | cons t g=>
  subst ag
  refine Q7 (fun _=>?_) (fun hh=>absurd (of_decide_eq_false hh) (by simp))
  simp only[List.length_cons] at hd
  refine Q5J (n:=0) a6 (by simp) fun a cs X h2 h3=>?_
  obtain ⟨rfl,cr⟩:=h3
  simp only[List.getElem_cons_zero] at X cr
  have aa:=X 0 _ rfl
  rw[add_zero] at aa
  refine Qc aa ?_
  refine X3O a6 1 (by simp) fun x' ac bm=>?_
  simp only[List.drop_succ_cons,List.drop_zero] at ac
  have H:x'.ownBlock≠some r:=by
   rcases bm with e | e<;>rw[e]
   ·exact ch
   ·simp
  rw[Q2B X8 Y.2 t]
  have cf:d=(g.length+weigh l b)+1:=by omega
  have p:=hv
  rw[cf] at p
  simp only[Uu] at p
  have skip:(lk l t=none∨t∈b)→F7 l n=Uu (lk l) (g.length+weigh l b) g b:=by
   rintro (e | e)
   ·rw[e] at p;exact p
   ·cases e2:lk l t with
    | none=>rw[e2] at p;exact p
    | some c=>rw[e2] at p;simp only[if_pos e] at p;exact p
  have ab:(lk l t=none∨t∈b)→a0 x' w3:=fun b5=>
   bi (g.length+weigh l b) x' w3 (by omega) ⟨g,b,s,σ3,m,rfl,by omega,A,ac,Y,O,H,ar,skip b5,i,by rw[ae];exact y⟩
  have a4:=ht.lift A.le
  have U:=O t
  cases bf:C5 m t with
  | some u=>
   rw[bf] at U
   have an:t∈b:=by simpa using U
   simp only[↓M2,M2,Mb,reduceIte]
   exact ab (.inr an)
  | none=>
   rw[bf] at U
   have an:t∉b:=by simpa using U
   simp only[↓M2,M2,Mb,reduceIte]
   cases L:lk l t with
   | none=>
    refine Q11 a5 a4 L ?_
    simp only[↓M2,M2,Mb,reduceIte]
    exact ab (.inl L)
   | some c=>
    obtain ⟨ax,bu,_⟩:=V2 L
    refine Sq a5 a4 L ?_
    simp only[↓M2,M2,Mb,reduceIte]
    refine Pp X8 Y t (I 1) fun w4 bw cq=>?_
    have ad:Kpt (fun k=>k=r) w3 w4:=Kpt.of_upd bw rfl
    have cl:X2 w4 σ3:=ad.sat a5 fun k o=>by rw[o];exact Y.1
    have bc:=ac.kp ad fun k o e=>H (e▸o)
    have ck:=ai _ _ _ ar fun k o=>bw.block k (by have:=(hD k o).1;omega)
    have c0:r<w3.heap.size:=Y.lt
    refine Zl cl a4 L fun lv fv mv w5 σ5 bz f1 f2 f3 f4 f5 bj=>?_
    refine Y7 bz.sat (by rfl) rfl (Rep.one bj) fun q w6 M V ay=>?_
    refine Y4 V.sat ay rfl ?_
    have z:=bz.trans V
    have bg: ∀k,D k→k<w4.heap.size:=fun k o=>by
     have X:=(hD k o).1
     have h2:=A.kp.size
     have h3:=ad.size
     omega
    have b8:=ai _ _ _ ck fun k o=>z.bel.block k (bg k o)
    have a2:SLe σ M:=A.le.more ⟨z.le⟩
    have b0: ∀k,D k→M k=none:=fun k o=>by
     rw[z.old k (bg k o),A.old k (hD k o).1];exact (hD k o).2
    refine hf s c _ w6 M _ a2 V.sat b0 b8 (RCl_lift bj ⟨V.le⟩) (by rw[ax];exact L) fun w7 am be=>?_
    have bv:X2 w7 M:=am.sat V.sat b0
    have al:Nxt D w σ w7 M:=⟨((A.kp.more ad fun j e=>by rw[e];exact bq).trans (Kpt.of_below z.bel)).trans am,a2,fun k o=>by
     rw[z.old k (by have:=A.kp.size;have:=ad.size;omega)];exact A.old k o,bv⟩
    have ao: ∀k,w.heap.size≤k→ ¬D k:=fun k o e=>by have:=(hD k e).1;omega
    have W:=(bc.up z).kp am fun k o=>ao k ((bc.mem o).1)
    have bd:=(cq.up z).kp am (ao r bq)
    have br: ∀k,(C5 (Wm m t (I 1)) k).isSome=decide (k∈b++[t]):=fun k=>by
     rw[Q4w]
     by_cases e:t=k
     ·subst e;simp
     ·rw[if_neg e,O k];simp[Ne.symm e]
    rw[L] at p
    simp only[if_neg an] at p
    obtain ⟨bk,az⟩:=Q1l (lk l) (g.length+weigh l b) (g++U3 c) (b++[t])
    have bb:aq=t::bk:=by
     have:=C.symm.trans (p.trans az)
     simpa using this
    rw[bb] at y
    simp only[List.filterMap_cons,L,J3] at y
    cases E:(J s c).1 with
    | true=>
     rw[E] at y
     simp only[if_true] at y
     refine J4 ?_
     have:=h w7 M al
     rw[y] at this
     exact this be
    | false=>
     rw[E] at y
     simp only[Bool.false_eq_true,if_false] at y
     refine Z6 ?_
     have ap:w.heap.size≤w7.heap.size:=al.kp.size
     have Z: ∀k,x'.ownBlock=some k→M k=none:=fun k o=>(W.mem o).2.2
     have hw:=Iq l b c bu (by rw[ax];exact an)
     rw[ax] at hw
     have cz:=bl b
     have b7:g.length≤100001000001:=by omega
     have cn:=(b1 c bu).1
     have cv:=bd.lt
     refine Kf (Ge w.heap.size T.c 1 U7 M x' g c.super) (fun w1=>Kpt (fun k=>x'.ownBlock=some k) w7 w1∧X2 w1 M∧J8 w.heap.size T.c 1 U7 M w1 x' g)
      ⟨.of_below (Below.refl _ _).drew,bv.below (Below.refl _ _).drew,W.below (Below.refl _ _).drew⟩ (fun w1 w2 E ht=>⟨E.1.trans ht.1,ht.1.sat E.2.1 Z,ht.2.1 E.2.2⟩) ?_
     refine X4 (.pointer (some (q.add 1))) (fun w E=>by rw[fa];exact ⟨Ge.refl,rfl⟩) ?_
     refine X4 (.pointer (some (q.add 2))) (fun w E=>by rw[fa];exact ⟨Ge.refl,rfl⟩) ?_
     refine X4 (S c.super) (fun t w E e=>by rw[e];exact ld E.2.1 ay rfl ⟨Ge.refl,rfl⟩) ?_
     refine H0 (fun u w1=> ∃σ',Nxt (fun k=>x'.ownBlock=some k) w7 M w1 σ'∧Sl 1 U7 σ' u [c.super]) (fun u w1 w2 e ht=>by obtain ⟨σ',X,h2⟩:=e;exact ⟨σ',X.kpt ht.1 (fun _ o=>o) (fun k o=>(X.old k (W.mem o).2.1).trans (Z k o)),h2⟩) (fun t w1 E e=>?_) ?_
     ·rw[e]
      refine T4 (R:=U7) (sz:=1) E.2.1 [S c.super] [c.super] rfl rfl (by simp;rfl) rfl ⟨⟨rfl,f5⟩,trivial⟩ fun u w2 σ2 af hu=>?_
      have b4:Nxt (fun k=>x'.ownBlock=some k) w7 M w1 M:=⟨E.1,SLe.refl _,fun _ _=>rfl,E.2.1⟩
      exact ⟨Ge.below af.bel,σ2,b4.trans (Nxt.of_stp af),hu⟩
     refine H0 (VQa w7.heap.size w.heap.size T.c 1 U7 M x' g c.super) (fun _ _ _ X ht=>X.stable ht) (fun u w1 E e=>?_) ?_
     ·obtain ⟨σ',X,h2⟩:=e
      exact X2L W ap E.2.2 X h2 rfl (by omega) (by omega)
     refine X4 lv (fun t w E e=>by rw[e];exact ld E.2.1 ay rfl ⟨Ge.refl,rfl⟩) ?_
     rintro da dm c5 dj cg df w8 Q _ _ _ _ ⟨ce,bo⟩ rfl
     have a7:cg.ownBlock≠some r:=by
      rcases bo with ⟨a,cb,e1,e2⟩ | ⟨e1,_⟩
      ·rw[e2];rw[e1] at H;cases a<;>exact H
      ·intro e;have:=e1 r e;omega
     refine Q7M Q.2.1 (Nat.le_trans ap Q.1.size) ce (f1.up V) rfl (by rw[List.length_append,List.length_cons,List.length_nil];omega) (by rw[List.length_append,List.length_cons,List.length_nil];omega) fun bx w9 aw ca b6 bs=>?_
     have cd:bx.ownBlock≠some r:=by
      rcases bs with ⟨a,cb,e1,e2⟩ | ⟨_,e1⟩
      ·rw[e2];rw[e1] at a7;cases a<;>exact a7
      ·intro e;have:=e1 r e;have:=Q.1.size;omega
     have cc:Nxt D w σ w9 M:=⟨(al.kp.more Q.1 fun j e=>(W.mem e).1).more aw fun j e=>e.2.1,a2,al.old,ca⟩
     have b9:=(bd.kp Q.1 H).kp aw fun e=>a7 e.1
     have cp:=ai _ w7 w9 be fun k o=>by
      have X:=(hD k o).1
      rw[aw.block k (by have:=Q.1.size;omega) fun e=>by have:=e.2.1;omega,Q.1.block k (by omega) fun e=>by have:=(W.mem e).1;omega]
     have cy:(g++U3 c).length=g.length+1+c.like.length:=by simp[U3];omega
     have cw:(U3 c).length=c.like.length+1:=rfl
     have av:Uu (lk l) (g.length+weigh l b) (g++U3 c) (b++[t])=Uu (lk l) ((g++U3 c).length+weigh l (b++[t])) (g++U3 c) (b++[t]):=by
      have:=X0o l ((g++U3 c).length+weigh l (b++[t])) (g++U3 c) (b++[t]) (Nat.le_refl _) (g.length+weigh l b-((g++U3 c).length+weigh l (b++[t])))
      rw[←this];congr 1;omega
     refine bi ((g++U3 c).length+weigh l (b++[t])) bx w9 (by omega) ⟨g++U3 c,b++[t],(J s c).2,M,_,rfl,by omega,cc,?_,b9,br,cd,cp,p.trans av,i+1,?_⟩
     ·have:g++U3 c=(g++[c.super])++c.like:=by simp[U3]
      rw[this];exact b6
     ·rw[y,C,bb];simp)
end Go.Proofs.YtjdiakhipmggjaaGreatDoor

namespace Go.Emb
open Go.RowKit Go.Hm
theorem Nxt.stp {w w':World} {σ a:Q5} (h:Nxt (fun _=>False) w σ w' a):Stp w σ w' a:=⟨h.kp.below fun _=>id,h.sat,h.le.le,h.old⟩
end Go.Emb
namespace Go.Hm
open Go.Kd Go.Emb
theorem Q4d {α:Type} (p:α→Bool): ∀(xs:List α) (i:Nat),(J3 (fun (_:Unit) x=>(p x,())) () xs i).1.isSome=xs.any p
 | [],_=>rfl
 | x::r,i=>by
  simp only[J3,List.any_cons]
  cases p x with
  | true=>simp
  | false=>simpa using Q4d p r (i+1)
theorem Q67 {l:List Cla} (n b:X0):((Me l n).any fun c=>decide (c.name=b))=(F7 l n).contains b:=by
 have key: ∀vs:List X0,(∀x∈vs,∃c,lk l x=some c)→((vs.filterMap (lk l)).any fun c=>decide (c.name=b))=vs.contains b:=by
  intro vs
  induction vs with
  | nil=>intro _;rfl
  | cons x r e=>
   intro h
   obtain ⟨c,a⟩:=h x (by simp)
   rw[List.filterMap_cons,a]
   simp only[List.any_cons,List.contains_cons]
   rw[e fun y f=>h y (by simp[f]),(V2 a).1]
   congr 1
   rw[Bool.eq_iff_iff,beq_iff_eq,decide_eq_true_eq];exact ⟨Eq.symm,Eq.symm⟩
 exact key _ fun x d=>(Ut.1 d).right
end Go.Hm
namespace Go.Proofs.YtjdiakhipmggjaaGreatDoor
open Go.Emb Go.RowKit Go.Kd Go.Hm
variable {w : World} {K : Value → World → Prop} {σ : Q5} {v : Value} {l : List Cla}
theorem Q7w {n:X0} {f:Value} (p:Cla→Bool) (hs:X2 w σ) (ht:Tab σ v l) (hl:l.length≤100000) (hsm: ∀c∈l,Qh c) (hn:n.length≤U0)
 (hf: ∀c cs (w1:World) (σ1:Q5) (K:Value→World→Prop),SLe σ σ1→X2 w1 σ1→V0 σ1 c cs→(∀w' σ',Stp w1 σ1 w' σ'→K (.bool (p c)) w')→Z3 P f [.agg cs.toArray] w1 K)
 (h: ∀w' σ',Stp w σ w' σ'→K (.bool ((Me l n).any p)) w'):Q1 P F.w [v,S n,f] w K:=by
 refine Q7z (fun (_:Unit) c=>(p c,())) () (fun _ _=>True) (fun _=>False) hs ht hl hsm hn (fun _ e=>e.elim) (fun _ _ _ _ _=>trivial) trivial (fun s c cs w1 σ1 K le hs1 _ _ hr _ hK=>hf c cs w1 σ1 K le hs1 hr fun w' σ' hk=>hK w' (.of_below hk.bel) trivial) fun w' σ' hn _=>?_
 rw[Q4d]
 exact h w' σ' hn.stp
theorem X0H {n b:X0} {q:Addr} (hs:X2 w σ) (ht:Tab σ v l) (ok:Ok l) (hn:n.length≤U0) (hq:Z4 σ q [S b]) (h: ∀w' σ',Stp w σ w' σ'→K (.bool ((F7 l n).contains b)) w'):
 Q1 P F.w [v,S n, .func (.func F.bs) #[] #[.pointer (some q)]] w K:=by
 refine Q7w (fun c=>decide (c.name=b)) hs ht ok.len ok.sm hn (fun c cs w1 σ1 K le hs1 hr hK=>Z7 (Pl ?_)) (by rw[Q67];exact h)
 obtain ⟨lv,fv,mv,rfl,_⟩:=hr
 unfold Mk
 have hq1:=hq.lift le
 refine Y9 hs1 fun a w2 σ2 hk2 ha2=>?_
 (repeat' (first | (with_reducible intro _) | (with_reducible refine U9 ?_) | (simp only[↓M2,M2,Mb,reduceIte]) | (with_reducible first | refine ld aS aL aR ?_ | refine X7 aS aL aR ?_ | refine Y4 aS aL aR ?_ | refine Q8 aL ?_ | refine J0 aR ?_ | refine Y9 aS ?_ | refine N2 aS aL ?_ | refine U5 aS aR ?_ | refine Y7 aS aR aR (Rep.one (by assumption)) ?_ | refine U6 aS aR aR aR ?_ | (refine Z8 (fun hh=>?_) (fun hh=>?_)<;>(try simp only[hh,Bool.not_true,Bool.not_false,↓M2,M2,Mb,reduceIte])) | (refine Q7 (fun hh=>?_) (fun hh=>?_)<;>(try simp only[hh,Bool.not_true,Bool.not_false,↓M2,M2,Mb,reduceIte])))))
 exact hK _ _ hk2
theorem X3S {a b:X0} (D:X2 w σ) (s:Tab σ v l) (ok:Ok l) (u:a.length≤U0) (H:b.length≤U0) (h: ∀w' E,Stp w σ w' E→K (.bool (Xx l a b)) w'):Q1 P F.bR [v,S a,S b] w K:=Q14 (by
 unfold Ei
 unfold Xx at h
 refine U5 D rfl fun q w1 σ1 j C=>?_
 refine Q0W j.sat (s.lift ⟨j.le⟩) u fun R O e=>?_
 have i:=j.trans e
 cases A:N3 l a with
 | false=>
  simp only[A,↓M2,M2,Mb,reduceIte,Bool.not_false,Bool.true_or,if_true] at h⊢
  exact h _ _ i
 | true=>
  simp only[A,↓M2,M2,Mb,reduceIte,Bool.not_true,Bool.false_or] at h⊢
  refine X7 e.sat (C.up e) rfl ?_
  refine Q0W e.sat (s.lift ⟨i.le⟩) H fun U Q d=>?_
  have c:=i.trans d
  cases B:N3 l b with
  | false=>
   simp only[B,↓M2,M2,Mb,reduceIte,Bool.not_false,if_true] at h⊢
   exact h _ _ c
  | true=>
   simp only[B,↓M2,M2,Mb,reduceIte,Bool.not_true,Bool.false_eq_true,if_false] at h⊢
   have m:=(C.up e).up d
   refine X7 d.sat m rfl ?_
   refine K0 ?_
   by_cases g:a=b
   ·rw[if_pos g] at h
    simp only[decide_eq_true g,↓M2,M2,Mb,reduceIte]
    exact h _ _ c
   rw[if_neg g] at h
   simp only[decide_eq_false g,↓M2,M2,Mb,reduceIte]
   refine Rf a ?_
   cases z:plain a with
   | true=>
    simp only[z,↓M2,M2,Mb,reduceIte,Bool.true_or,if_true] at h⊢
    exact h _ _ c
   | false=>
    simp only[z,↓M2,M2,Mb,reduceIte,Bool.false_or] at h⊢
    refine X7 d.sat m rfl ?_
    refine Rf b ?_
    cases y:plain b with
    | true=>
     simp only[y,↓M2,M2,Mb,reduceIte,if_true] at h⊢
     exact h _ _ c
    | false=>
     simp only[y,↓M2,M2,Mb,reduceIte,Bool.false_eq_true,if_false] at h⊢
     by_cases p:a=H8
     ·rw[if_pos p] at h
      have r:decide (a=[110,117,108,108])=true:=decide_eq_true p
      simp only[r,↓M2,M2,Mb,reduceIte]
      exact h _ _ c
     rw[if_neg p] at h
     have r:decide (a=[110,117,108,108])=false:=decide_eq_false p
     simp only[r,↓M2,M2,Mb,reduceIte]
     refine Q5b a (Nat.le_trans u (by decide)) (W9 d.sat fun N M f=>?_)
     have k:=c.trans f
     have n:=m.up f
     refine Vz ?_
     by_cases o:elem a=[]
     ·rw[if_neg (by simpa using o)] at h
      simp only[decide_eq_true o,↓M2,M2,Mb,reduceIte]
      exact X0H f.sat (s.lift ⟨k.le⟩) ok u n fun L J t=>h _ _ (k.trans t)
     ·rw[if_pos o] at h
      simp only[decide_eq_false o,↓M2,M2,Mb,reduceIte]
      refine X7 f.sat n rfl ?_
      refine K0 ?_
      exact h _ _ k)
theorem X2a {c:Cla} {cs:List Value} (hs:X2 w σ) (ht:Tab σ v l) (hl:l.length≤100000) (hsm: ∀c∈l,Qh c) (hc:V0 σ c cs) (h: ∀w' σ',Stp w σ w' σ'→K (.bool (P7 l c)) w'):Q1 P F.bm [v, .agg cs.toArray] w K:=Pz (by
 obtain ⟨lv,fv,mv,rfl,g1,g2,g3,g4,g5⟩:=hc
 unfold Lx
 obtain ⟨a,_,_,_,rfl,_⟩:=ht.ex
 refine U5 hs rfl fun q w1 σ1 hk1 hq=>?_
 refine Y9 hk1.sat fun q2 w2 σ2 hk2 hq2=>?_
 rw[Qa,fa]
 have hS2:=hk1.trans hk2
 have back: ∀{n:X0} {w3:World} {σ3:Q5} {K:Value→World→Prop},SLe σ2 σ3→X2 w3 σ3→n.length≤U0→(∀w' σ',Stp w3 σ3 w' σ'→K (.bool ((F7 l n).contains c.name)) w')→
  Z3 P (.func (.func F.ba) #[] #[.pointer (some q), .pointer (some q2)]) [S n] w3 K:=by
  intro n w3 σ3 K le hs3 hn hK
  refine Z7 (Bv ?_)
  unfold Vo
  refine X7 hs3 ((hq.up hk2).lift le) rfl ?_
  rw[Qa]
  have le3:SLe σ σ3:=SLe.more ⟨hS2.le⟩ le
  refine Q7w (fun d=>decide (d.name=c.name)) hs3 (ht.lift le3) hl hsm hn (fun d ds w4 σ4 K le4 hs4 hr hK=>Z7 (Sf ?_)) (by rw[Q67];exact hK)
  obtain ⟨lv,fv,mv,rfl,_⟩:=hr
  unfold Jj
  have hq4:=(hq2.lift le).lift le4
  refine Y9 hs4 fun a w5 σ5 hk5 ha5=>?_
  (repeat' (first | (with_reducible intro _) | (with_reducible refine U9 ?_) | (simp only[↓M2,M2,Mb,reduceIte]) | (with_reducible first | refine ld aS aL aR ?_ | refine X7 aS aL aR ?_ | refine Y4 aS aL aR ?_ | refine Q8 aL ?_ | refine J0 aR ?_ | refine Y9 aS ?_ | refine N2 aS aL ?_ | refine U5 aS aR ?_ | refine Y7 aS aR aR (Rep.one (by assumption)) ?_ | refine U6 aS aR aR aR ?_ | (refine Z8 (fun hh=>?_) (fun hh=>?_)<;>(try simp only[hh,Bool.not_true,Bool.not_false,↓M2,M2,Mb,reduceIte])) | (refine Q7 (fun hh=>?_) (fun hh=>?_)<;>(try simp only[hh,Bool.not_true,Bool.not_false,↓M2,M2,Mb,reduceIte])))))
  exact hK _ _ hk5
 refine ld hk2.sat hq2 rfl ?_
 unfold P7 at h
 simp only[U3,List.any_cons] at h
 refine back (SLe.refl _) hk2.sat g5 fun w3 σ3 hk3=>?_
 cases e1:(F7 l c.super).contains c.name with
 | true=>
  rw[e1] at h
  simp only[↓M2,M2,Mb,reduceIte]
  exact h _ _ (hS2.trans hk3)
 | false=>
  rw[e1,Bool.false_or] at h
  simp only[↓M2,M2,Mb,reduceIte]
  refine ld hk3.sat (hq2.up hk3) rfl ?_
  refine P0 (fun n=>(F7 l n).contains c.name) hk3.sat (((g1.up hk1).up hk2).up hk3) (fun x w4 K _ hs4 hx hK=>back ⟨hk3.le⟩ hs4 hx fun w' σ' hk=>hK _ hk.bel) fun w4 hb=>?_
  (try simp only[↓M2,M2,Mb,reduceIte])
  exact h _ _ ((hS2.trans hk3).trans (Stp.of_below hk3.sat hb)))
end Go.Proofs.YtjdiakhipmggjaaGreatDoor

namespace Go.Emb
open Go.RowKit Go.Hm
variable {P : Program} {w w0 w1 w' w'' : World} {K : Value → World → Prop} {σ σ0 σ1 σ' : Q5}
theorem Sl.at {α:Type} {R:Q5→α→List Value→Prop} {sz:Nat} {v:Value} {xs:List α} (h:Sl sz R σ v xs) {i:Nat} (j:i<xs.length):
 ∃p cs,Z4 σ p cs∧cs.length=sz∧R σ xs[i] cs∧ ∀{P:Program} {t e:TypeId} {c:Nat} {z:Value} {w:World} {K:Value→World→Prop} [TS P t e] [TZ P e sz c z],K (.pointer (some p)) w→indexAddr P t v (I i) w K:=by
 obtain ⟨a,g,rfl,r,q,k,m⟩:=h
 cases a with
 | none=>have:=k rfl;omega
 | some b=>
  obtain ⟨cs,o,f,n⟩:=(m b rfl).2 i xs[i] (by simp[j])
  refine ⟨_,cs,o,f,n,?_⟩
  intro P t e c z w K _ _ d
  rw[Si (by omega) (by omega)]
  simpa using d
abbrev ints (xs:List Nat):List Int:=xs.map fun n:Nat=>(n:Int)
theorem V5.grow {α:Type} {R:Q5→α→List Value→Prop} [hr:Rep R] {B sz:Nat} {e:TypeId} {v:Value} {xs:List α} (h:V5 B e sz R σ w v xs) (d:SLe σ σ') (c: ∀k,v.ownBlock=some k→σ' k=none):V5 B e sz R σ' w v xs:=by
 obtain ⟨cells,f,g,b⟩:=h
 exact ⟨cells,f,c,fun i x a=>hr.up d.le (b i x a)⟩
end Go.Emb
namespace Go.Proofs.YtjdiakhipmggjaaGreatDoor
open Go.Emb Go.RowKit Go.Kd Go.Hm
variable {w : World} {K : Value → World → Prop} {σ : Q5} {v : Value} {l : List Cla}
theorem Q6p {B i:Nat} {xs:List Nat} {x:Value} (o:J8 B T.e 1 Wk σ w x (ints xs)) (h:K (.bool (decide (i∈xs))) w):Q1 P F.aG [x,I i] w K:=Eo (by
 unfold Yc
 have f:xs.length≤9223372036854775807:=by
  obtain ⟨a,s,_,m,q,_⟩:=o
  simp only[maxLen,ints,List.length_map] at q m;omega
 refine Sz ?_
 unfold Jn
 refine Q1r o ?_
 have g:(ints xs).length=xs.length:=by simp
 refine U1 xs.length (fun n w'=>w'=w∧i∉xs.take n) ⟨rfl,by simp⟩ fun n w' d u j=>?_
 obtain ⟨rfl,j⟩:=j
 rw[g]
 refine Z0 ?_
 refine Q7 (fun hh=>?_) (fun hh=>?_)
 ·have b:n<xs.length:=by simpa using hh
  refine Q5J o (by rw[g];exact b) fun a cs m q r=>?_
  obtain ⟨rfl,_⟩:=r
  have p:=m 0 _ rfl
  rw[add_zero] at p
  refine Qc p ?_
  simp only[List.getElem_map]
  refine P2 ?_
  refine Q7 (fun c=>?_) (fun c=>?_)
  ·have e:(i:Int)=xs[n]:=by simpa using c
   have:i=xs[n]:=by omega
   have k:decide (i∈xs)=true:=decide_eq_true (by rw[this];exact List.getElem_mem b)
   rw[k] at h
   refine K8 ?_
   rw[decide_eq_true (by omega:(0:Int)≤n)]
   exact h
  ·have e: ¬(i:Int)=xs[n]:=by simpa using c
   refine N1 ?_
   refine Y5 f b ⟨rfl,?_⟩
   rw[List.take_add_one,List.getElem?_eq_getElem b]
   simp only[Option.toList_some,List.mem_append,List.mem_singleton,not_or]
   exact ⟨j,fun t=>e (by rw[t])⟩
 ·have b: ¬n<xs.length:=by simpa using hh
  rw[List.take_of_length_le (by omega)] at j
  rw[decide_eq_false j] at h
  refine K8 ?_
  exact h)
theorem X2R {w0:World} {σ0 σb:Q5} {pf pt pw:Addr} {E frm:Nat} (ha:Jd l) (ho:T6 l) (hl:l.length≤100000) (cc: ∀c∈l,Qh c) (hf:0<frm) (ht:Tab σb v l) (a1:Z4 σb pf [I frm]) (bl:Z4 σb pt [v])
 (bm:Z4 σb pw [.func (.func F.y) #[] #[.pointer (some pf), .pointer (some ⟨E,0,none⟩), .pointer (some pt), .pointer (some pw)]]) (bk:w0.heap.size≤E):
 ∀(k:Nat) {i:Nat} {b:List Nat} {x:Value} {w1:World} {σ1:Q5} {K:Value→World→Prop},i<l.length→(i<frm∨K7 l (Y2 l i)<k)→SLe σb σ1→Stp w0 σ0 w1 σ1→Y1 σ1 w1 E [x]→V5 w0.heap.size T.e 1 Wk σ1 w1 x (ints b)→x.ownBlock≠some E→Few l b→
  (∀w2 σ2 x',SLe σ1 σ2→Stp w0 σ0 w2 σ2→Y1 σ2 w2 E [x']→V5 w0.heap.size T.e 1 Wk σ2 w2 x' (ints (Xk l frm b i))→x'.ownBlock≠some E→K (.tuple #[]) w2)→
  Z3 P (.func (.func F.y) #[] #[.pointer (some pf), .pointer (some ⟨E,0,none⟩), .pointer (some pt), .pointer (some pw)]) [I i] w1 K:=by
 obtain ⟨a,lv,r,m,rfl,t1,t2,t3,t4⟩:=ht.ex
 intro k
 induction k with
 | zero=>
  intro i b x w1 σ1 K hi hk X Y hm o hx Z h
  have A:i<frm:=hk.resolve_right (by omega)
  refine Z7 (Vm ?_)
  unfold Qr
  refine X7 Y.sat (a1.lift X) rfl ?_
  refine Z0 ?_
  rw[decide_eq_true (by omega:(i:Int)<frm)]
  simp only[↓M2,M2,Mb,reduceIte]
  have:Xk l frm b i=b:=Yv _ _ A
  rw[this] at h
  exact h _ _ _ (SLe.refl _) Y hm o hx
 | succ k ih=>
  intro i b x w1 σ1 K hi hk X Y hm o hx Z h
  refine Z7 (Vm ?_)
  unfold Qr
  refine X7 Y.sat (a1.lift X) rfl ?_
  refine Z0 ?_
  have z:=Q7c ha ho hf b hi
  by_cases A:i<frm
  ·rw[decide_eq_true (by omega:(i:Int)<frm)]
   simp only[↓M2,M2,Mb,reduceIte]
   rw[if_pos A] at z
   rw[z] at h
   exact h _ _ _ (SLe.refl _) Y hm o hx
  rw[if_neg A] at z
  rw[decide_eq_false (by omega: ¬(i:Int)<frm)]
  simp only[↓M2,M2,Mb,reduceIte]
  refine Q85 hm rfl ?_
  refine Q6p (J8.of_acc o) ?_
  by_cases V:i∈b
  ·rw[if_pos V] at z
   rw[z] at h
   simp only[decide_eq_true V,↓M2,M2,Mb,reduceIte]
   exact h _ _ _ (SLe.refl _) Y hm o hx
  rw[if_neg V] at z
  simp only[decide_eq_false V,↓M2,M2,Mb,reduceIte]
  have cr:K7 l (Y2 l i)<k+1:=hk.resolve_left A
  have t1:=t1.lift X
  have t2:=t2.lift X
  have t3:=t3.lift X
  have L:=bl.lift X
  obtain ⟨p,cs,a8,cj,bv,az⟩:=t2.at hi
  obtain ⟨bx,fv,mv,rfl,f1,f2,f3,f4,f5⟩:=bv
  have bd:l.getD i Cla.zero=l[i]:=by rw[List.getD_eq_getElem?_getD,List.getElem?_eq_getElem hi];rfl
  have dc:=hm.lt
  refine U2 Y.sat ?_
  refine X4 (.pointer (some a)) (fun w f=>X7 f.sat L rfl (X6 rfl)) ?_
  refine X4 (.pointer (some a)) (fun t w f e=>by rw[e,L7];exact X6 rfl) ?_
  refine X4 (.pointer (some (a.add 0))) (fun t w f e=>by rw[e,fa];exact X6 rfl) ?_
  refine X4 lv (fun t w f e=>by rw[e];exact ld f.sat t1 rfl (X6 rfl)) ?_
  refine X4 (.pointer (some p)) (fun t w f e=>by rw[e];exact az (X6 rfl)) ?_
  refine X4 (.pointer (some (p.add 1))) (fun t w f e=>by rw[e,fa];exact X6 rfl) ?_
  refine X4 (S l[i].super) (fun t w f e=>by rw[e];exact ld f.sat a8 rfl (X6 rfl)) ?_
  refine H0 (fun u w=>X2 w σ1∧V5 w0.heap.size T.c 1 U7 σ1 w u [l[i].super]∧ ∀k,u.ownBlock=some k→w1.heap.size≤k) (fun u w2 w3 h f=>⟨h.1.below f,h.2.1.up (Stp.of_below h.1 f),h.2.2⟩) (fun t w f e=>?_) ?_
  ·rw[e]
   refine Yx (R:=U7) (sz:=1) (xs:=[l[i].super]) (Y.trans f.stp) [S l[i].super] rfl rfl (by simp;rfl) rfl ⟨⟨rfl,f5⟩,trivial⟩ fun u w2 a6 hu bj=>?_
   exact ⟨a6.bel,a6.sat,hu,fun k hk=>Nat.le_trans f.stp.bel.size (bj k hk)⟩
  refine X4 (.pointer (some a)) (fun w f=>X7 f.sat L rfl (X6 rfl)) ?_
  refine X4 (.pointer (some a)) (fun t w f e=>by rw[e,L7];exact X6 rfl) ?_
  refine X4 (.pointer (some (a.add 0))) (fun t w f e=>by rw[e,fa];exact X6 rfl) ?_
  refine X4 lv (fun t w f e=>by rw[e];exact ld f.sat t1 rfl (X6 rfl)) ?_
  refine X4 (.pointer (some p)) (fun t w f e=>by rw[e];exact az (X6 rfl)) ?_
  refine X4 (.pointer (some (p.add 2))) (fun t w f e=>by rw[e,fa];exact X6 rfl) ?_
  refine X4 bx (fun t w f e=>by rw[e];exact ld f.sat a8 rfl (X6 rfl)) ?_
  rintro c4 dd di df c1 c5 cp de c6 c7 c0 da cv dl c8 w2 Q _ _ _ _ _ _ _ ⟨dg,bz,H⟩ _ _ _ _ _ _ b9
  subst b9
  have b2:=Y.trans Q.stp
  have b7:=(cc _ (List.getElem_mem hi)).1
  have a7: ∀j,x.ownBlock=some j→j<w1.heap.size:=fun j C=>(o.mem j C).2.1
  have b5:=hm.step Q.stp
  have ad:=o.step Q.stp
  refine Wi b2 bz f1 rfl (by simp only[List.length_cons,List.length_nil];omega) (by simp only[List.length_cons,List.length_nil];omega) fun bc w3 a9 bg bu ar=>?_
  have aa: ∀j,bc.ownBlock=some j→w1.heap.size≤j:=fun j C=>by
   rcases ar with e | e
   ·exact H j (e▸C)
   ·exact Nat.le_trans Q.stp.bel.size (e j C)
  have ay:=b5.nx a9 fun e=>by have:=H _ e;omega
  have J:=ad.nx a9 fun j C e=>by have:=H _ e;have:=a7 j C;omega
  obtain ⟨σ4,bw,O,av,ab⟩:=bu.keep bg
  have O:Sl 1 U7 σ4 bc (U3 l[i]):=O
  have ca:Y1 σ4 w3 E [x]:=⟨(ab E fun e=>by have:=aa E e.symm;omega).trans ay.1,ay.2⟩
  have ah:V5 w0.heap.size T.e 1 Wk σ4 w3 x (ints b):=J.grow ⟨av⟩ fun j C=>(ab j fun e=>by have:=aa j e.symm;have:=a7 j C;omega).trans (J.mem j C).2.2
  have a0:SLe σ1 σ4:=⟨av⟩
  refine Q8 O ?_
  refine U1 (U3 l[i]).length (fun n w'=> ∃σ' x',SLe σ4 σ'∧Stp w0 σ0 w' σ'∧Y1 σ' w' E [x']∧V5 w0.heap.size T.e 1 Wk σ' w' x' (ints (((U3 l[i]).take n).foldl (fun b u=>Xk l frm b ((Z2 l u).getD 0)) b))∧x'.ownBlock≠some E∧Few l (((U3 l[i]).take n).foldl (fun b u=>Xk l frm b ((Z2 l u).getD 0)) b))
   ⟨σ4,x,SLe.refl _,bw,ca,ah,hx,Z⟩ fun n w5 d hn ax=>?_
  obtain ⟨σ5,x5,al,W,U,B,af,s⟩:=ax
  refine Z0 ?_
  have y:=a0.more al
  refine Q7 (fun hh=>?_) (fun hh=>?_)
  ·have N:n<(U3 l[i]).length:=by simpa using hh
   refine Q5d (O.lift al) N fun q hq dh=>?_
   refine X7 W.sat hq rfl ?_
   have e1:((U3 l[i]).take (n+1)).foldl (fun b u=>Xk l frm b ((Z2 l u).getD 0)) b=Xk l frm (((U3 l[i]).take n).foldl (fun b u=>Xk l frm b ((Z2 l u).getD 0)) b) ((Z2 l (U3 l[i])[n]).getD 0):=by
    rw[List.take_add_one,List.getElem?_eq_getElem N,List.foldl_append];rfl
   refine U2 W.sat ?_
   refine X4 _ (fun w f=>X7 f.sat (bm.lift (X.more y)) rfl (X6 rfl)) ?_
   refine X4 (.pointer (some a)) (fun w f=>X7 f.sat (L.lift y) rfl (X6 rfl)) ?_
   refine X4 (.pointer (some a)) (fun t w f e=>by rw[e,L7];exact X6 rfl) ?_
   refine X4 (.pointer (some (a.add 1))) (fun t w f e=>by rw[e,fa];exact X6 rfl) ?_
   refine X4 (.map (some r)) (fun t w f e=>by rw[e];exact ld f.sat (t1.lift y) rfl (X6 rfl)) ?_
   refine X4 (I ((Z2 l (U3 l[i])[n]).getD 0:Nat)) (fun t w f e=>by
    rw[e,Q4q X8 ((t3.lift y).is f.sat) _,t4]
    cases Z2 l (U3 l[i])[n]<;>exact X6 rfl) ?_
   rintro dn cn cw c2 dm cu w6 am rfl _ _ _ _ rfl
   have ck:l.length≤9223372036854775807:=by omega
   refine ih ?_ ?_ (X.more y) (W.trans am.stp) (U.step am.stp) (B.step am.stp) af s fun w7 σ7 x7 br b6 bn ac cb=>?_
   ·cases C:Z2 l (U3 l[i])[n] with
    | none=>simp only[Option.getD_none];omega
    | some j=>exact (S2 C).1
   ·cases C:Z2 l (U3 l[i])[n] with
    | none=>exact .inl hf
    | some j=>
     right
     have:=Q1B ha ho hi (u:=(U3 l[i])[n]) (by rw[bd];exact List.getElem_mem N) C
     simp only[Option.getD_some];omega
   ·refine N1 ?_
    refine Y5 (by have:(U3 l[i]).length=l[i].like.length+1:=rfl;omega) N ⟨σ7,x7,al.more br,b6,bn,?_,cb,?_⟩
    ·rw[e1];exact ac
    ·rw[e1]
     cases C:Z2 l (U3 l[i])[n] with
     | none=>simp only[Option.getD_none];rw[show Xk l frm _ 0=_ from Yv _ _ hf];exact s
     | some j=>exact Iy ha ho hf _ _ _ (S2 C).1 s
  ·have N: ¬n<(U3 l[i]).length:=by simpa using hh
   rw[List.take_of_length_le (by omega)] at B s
   rw[bd] at z
   refine Q85 U rfl ?_
   have cy:=s.len
   refine Jv (x:=(i:Int)) W B ⟨rfl,by omega,by omega⟩ rfl rfl rfl (by rw[List.length_map];omega) (by rw[List.length_map];omega) fun u x8 w8 σ8 aw bs M a5=>?_
   have a3:=U.nx aw af
   have ba:x8.ownBlock≠some E:=fun e=>by
    rcases a5 with e2 | e2
    ·exact af (e2▸e)
    ·have:=e2 E e;have:=U.lt;omega
   have aq:x8.cells= #[x8]∧x8.oneCell'=true:=by
    obtain ⟨cells,h1,_⟩:=M
    rcases h1.2 with ⟨rfl,_⟩ | ⟨g,cq,cx,rfl,_⟩<;>exact ⟨rfl,rfl⟩
   refine st0 a3 (by simp) aq.1 aq.2 fun w9 a2 bq=>?_
   have bh:=a2.stp bs bk a3.1
   have ak:V5 w0.heap.size T.e 1 Wk σ8 w9 x8 (ints (Xk l frm b i)):=by
    rw[z]
    have:=M.kp (Kpt.of_upd (D:=fun k=>k=E) a2 rfl) fun k hk e=>ba (e▸hk)
    simpa [ints] using this
   exact h w9 σ8 x8 (y.more aw.le) bh bq ak ba
theorem X1x {frm:Nat} (hs:X2 w σ) (ht:Tab σ v l) (ha:Jd l) (ho:T6 l) (hl:l.length≤100000) (aq: ∀c∈l,Qh c) (hf:0<frm) (ap:frm≤l.length) (h: ∀v' w' σ',Stp w σ w' σ'→Sl 1 Wk σ' v' (ints (W1 l frm))→(W1 l frm).length≤l.length→(∀y∈W1 l frm,y<l.length)→K v' w'):Q1 P F.bn [v,I frm] w K:=Pm (by
 unfold Ly
 have ai:=ht
 obtain ⟨a,lv,r,m,rfl,t1,Y,t3,t4⟩:=ht.ex
 refine U5 hs rfl fun pt w1 σ1 s ab=>?_
 refine U5 s.sat rfl fun pf w2 σ2 o am=>?_
 refine N0 o.sat fun E w3 σ3 aa k Q=>?_
 refine N0 k.sat fun Z w4 σ4 ao q V=>?_
 rw[Qa]
 have R:=Q.step q
 have ax:=Q.lt
 have U:=((s.trans o).trans k).trans q
 have L:w.heap.size≤E:=M8 aa (s.trans o)
 have A:w.heap.size≤Z:=M8 ao ((s.trans o).trans k)
 refine st0 V (by simp[Value.cells]) rfl rfl fun w5 W al=>?_
 have ad:=W.stp U A V.1
 have z:=R.upd W (by omega)
 obtain ⟨H,N,J,n,O⟩:=al.keep ad A
 have ag:Y1 H w5 E [.slice none 0 0]:=⟨(O E (by omega)).trans z.1,z.2⟩
 have n:SLe σ4 H:=⟨n⟩
 have u:=((am.up k).up q).lift n
 have B:=(((ab.up o).up k).up q).lift n
 have f:SLe σ H:=SLe.more ⟨U.le⟩ n
 have t1:=t1.lift f
 have Y:=Y.lift f
 refine X7 N.sat u rfl ?_
 have ba:(List.range l.length).length=l.length:=List.length_range
 have hz:([Value.nilFunc].set 0 (Value.func (Fn.func F.y) #[] #[.pointer (some pf), .pointer (some ⟨E,0,none⟩), .pointer (some pt), .pointer (some ⟨Z,0,none⟩)]))=[Value.func (Fn.func F.y) #[] #[.pointer (some pf), .pointer (some ⟨E,0,none⟩), .pointer (some pt), .pointer (some ⟨Z,0,none⟩)]]:=rfl
 refine Pi (fun d x w'=> ∃(i:Nat) (σ':Q5) (x':Value),x=I i∧frm≤i∧i≤l.length∧d=l.length-i∧SLe H σ'∧Stp w σ w' σ'∧Y1 σ' w' E [x']∧V5 w.heap.size T.e 1 Wk σ' w' x' (ints (((List.range i).drop frm).foldl (fun e i=>Xk l frm e i) []))∧x'.ownBlock≠some E∧Few l (((List.range i).drop frm).foldl (fun e i=>Xk l frm e i) [])) _
  ⟨frm,H, .slice none 0 0,rfl,Nat.le_refl _,ap,rfl,SLe.refl _,N,ag,by rw[List.drop_eq_nil_of_le (by simp)];exact V5.nil,by simp[Value.ownBlock],by rw[List.drop_eq_nil_of_le (by simp)];exact ⟨by simp,by simp⟩⟩ ?_
 rintro ac d x dd w7 ⟨i,σ7,x7,rfl,a7,a8,rfl,g,p,M,j,an,b⟩ ah
 refine X7 p.sat (B.lift g) rfl ?_
 rw[L7,fa]
 refine ld p.sat (t1.lift g) rfl ?_
 refine Q8 (Y.lift g) ?_
 refine Z0 ?_
 refine Q7 (fun hh=>?_) (fun hh=>?_)
 ·have t:i<l.length:=by simpa using hh
  refine X7 p.sat (J.lift g) rfl ?_
  refine X2R (w0:=w) (σ0:=σ) (σb:=H) ha ho hl aq hf (ai.lift f) u B J L (K7 l (Y2 l i)+1) t (.inr (Nat.lt_succ_self _)) g p M j an b fun w8 σ8 x8 X C ar D af=>?_
  refine Xo ⟨by omega,by omega⟩ ?_
  have e1:((List.range (i+1)).drop frm).foldl (fun e i=>Xk l frm e i) []=Xk l frm (((List.range i).drop frm).foldl (fun e i=>Xk l frm e i) []) i:=by
   rw[List.range_succ,List.drop_append_of_le_length (by simp;omega),List.foldl_append];rfl
  refine ah _ _ _ (by omega:l.length-(i+1)<l.length-i) ⟨i+1,σ8,x8,by simp,by omega,by omega,rfl,g.more X,C,ar,?_,af,?_⟩
  ·rw[e1];exact D
  ·rw[e1];exact Iy ha ho hf _ _ _ t b
 ·have t:i=l.length:=by
   have: ¬i<l.length:=by simpa using hh
   omega
  subst t
  refine Q85 M rfl ?_
  obtain ⟨σ8,C,ak,_,_⟩:=j.keep p
  exact h _ _ _ C ak b.len b.2)
end Go.Proofs.YtjdiakhipmggjaaGreatDoor

namespace Go.Hm
open Go.Kd
theorem Q70 (x:X0) (r:List X0):H7 (x::r)=x++Lib.joinTail [44] r:=by
 induction r generalizing x with
 | nil=>simp[H7,Lib.joinTail]
 | cons y r a=>
  simp only[H7]
  rw[a y]
  simp[Lib.joinTail]
theorem Q2f (xs:List X0):Lib.join xs [44]=H7 xs:=by
 cases xs with
 | nil=>rfl
 | cons x r=>rw[Lib.join_cons,Q70]
theorem Rd: ∀xs:List X0,(∀x∈xs,x.length≤100)→(H7 xs).length≤xs.length*101
 | [],_=>by simp[H7]
 | [a],h=>by have:=h a (by simp);simp[H7];omega
 | a::b::r,h=>by
  have d:=h a (by simp)
  have e:=Rd (b::r) fun x c=>h x (by simp[c])
  simp only[H7,List.length_append,List.length_cons,List.length_nil,Nat.add_mul] at*
  omega
def NmM (m:Hm.Met):Prop:=m.result.length≤100∧ ∀p∈m.params,p.length≤100
end Go.Hm
namespace Go.Proofs.YtjdiakhipmggjaaGreatDoor
open Go.Emb Go.RowKit Go.Kd Go.Hm
variable {w : World} {K : Value → World → Prop} {σ : Q5} {v : Value} {l : List Cla}
theorem X1U {xs:List X0} {pv:Value} (B:X2 w σ) (C:Sl 1 U7 σ pv xs) (N:xs.length≤1000000) (A: ∀x∈xs,x.length≤100) (h: ∀w',Below w.heap.size w w'→K (S (H7 xs)) w'):Q1 P F.cP [pv,S [44]] w K:=by
 obtain ⟨a,g,rfl,H,O,D,E⟩:=C
 have p:=Rd xs A
 have z:xs.length*101≤1000000*101:=Nat.mul_le_mul_right _ N
 cases a with
 | none=>
  have R:=D rfl
  have d:xs=[]:=List.eq_nil_of_length_eq_zero (by omega)
  subst d
  refine Wl (fn:=Tryz.f143) Tryz.func143 (by kernel_rfl) (by kernel_rfl) (Calls.mono (Tryz.strings_Join_none none g ⟨[44].toArray⟩ w) ?_)
  rintro e w' ⟨rfl,rfl⟩
  exact h _ (Below.refl _ _)
 | some b=>
  obtain ⟨f,t⟩:=E b rfl
  by_cases d:xs=[]
  ·subst d
   refine Wl (fn:=Tryz.f143) Tryz.func143 (by kernel_rfl) (by kernel_rfl) (Calls.mono (Tryz.strings_Join_none (some b) g ⟨[44].toArray⟩ w) ?_)
   rintro e w' ⟨rfl,rfl⟩
   exact h _ (Below.refl _ _)
  have f:=f (List.length_pos_iff.2 d)
  obtain ⟨n,o,U⟩:=b
  simp only at f
  subst f
  have c: ∀(j:Nat) (x:ByteArray),(xs.map fun s=>(⟨s.toArray⟩:ByteArray))[j]? =some x→w.cell? ⟨n,o+j,none⟩=some (.string x):=by
   intro j x m
   rw[List.getElem?_map] at m
   cases k:xs[j]? with
   | none=>rw[k] at m;cases m
   | some s=>
    rw[k] at m
    cases m
    obtain ⟨cs,L,Q,J⟩:=t j s k
    obtain ⟨rfl,_⟩:=J
    have:=L.cell B (i:=0) (v:=S s) rfl
    rw[add_zero] at this
    have e:(⟨n,o,none⟩:Addr).add (j*1)=⟨n,o+j,none⟩:=by unfold Addr.add;split<;>simp_all
    rw[e] at this;exact this
  have q:n<w.heap.size:=by
   obtain ⟨x,r,rfl⟩: ∃x r,xs=x::r:=by cases xs with | nil=>exact absurd rfl d | cons x r=>exact ⟨x,r,rfl⟩
   have:=c 0 ⟨x.toArray⟩ (by simp)
   exact World.block_lt_of_cell? _ _ this
  have u:(xs.map fun s=>(⟨s.toArray⟩:ByteArray)).map (·.data.toList)=xs:=by rw[List.map_map];simp[Function.comp_def]
  have y:=Tryz.strings_Join n o g (xs.map fun s=>(⟨s.toArray⟩:ByteArray)) ⟨[44].toArray⟩ w c q (by rw[List.length_map];omega) (by rw[List.length_map];exact H) (by rw[u];show (Lib.join xs [44]).length≤_;rw[Q2f];omega)
  rw[u,List.length_map] at y
  refine Wl (fn:=Tryz.f143) Tryz.func143 (by kernel_rfl) (by kernel_rfl) (Calls.mono y ?_)
  rintro e w' ⟨rfl,M⟩
  have:=h w' M
  rw[←Q2f] at this
  exact this
theorem Q9V {m:Hm.Met} {cs:List Value} (p:X2 w σ) (o:E7 σ m cs) (d:SmM m) (g:NmM m) (h: ∀w' q,Stp w σ w' q→K (S (Qu m)) w'):Q1 P F.cg [.agg cs.toArray] w K:=Q5l (by
 obtain ⟨pv,D,H,rfl,r,C,N,L,u,E⟩:=o
 unfold Q1f
 refine Y9 p fun a w1 σ1 c j=>?_
 have n:=Rd m.params g.2
 have k:m.params.length*101≤1000000*101:=Nat.mul_le_mul_right _ d.1
 refine U2 c.sat ?_
 refine X4 (.pointer (some (a.add 1))) (fun w b=>by rw[fa];exact X6 rfl) ?_
 refine X4 (.pointer (some (a.add 2))) (fun w b=>by rw[fa];exact X6 rfl) ?_
 refine X4 pv (fun t w b e=>by rw[e];exact ld b.sat j rfl (X6 rfl)) ?_
 refine X4 (S (H7 m.params)) (fun t w b e=>by rw[e];exact X1U b.sat (r.up c) d.1 g.2 fun w' f=>Q2Z f rfl) ?_
 refine X4 (S ([40]++H7 m.params)) (fun t w b e=>by rw[e];exact Rc (by simp only[List.length_cons,List.length_nil];omega) (X6 rfl)) ?_
 refine X4 (S ([40]++H7 m.params++[41])) (fun t w b e=>by rw[e];exact Rc (by simp only[List.length_append,List.length_cons,List.length_nil];omega) (X6 rfl)) ?_
 refine X4 (S m.result) (fun t w b e=>by rw[e];exact ld b.sat j rfl (X6 rfl)) ?_
 rintro O y J B A z s M i _ _ _ _ _ rfl rfl
 have:=g.1
 refine Rc (by simp only[List.length_append,List.length_cons,List.length_nil];omega) ?_
 exact h _ _ (c.trans i.stp))
end Go.Proofs.YtjdiakhipmggjaaGreatDoor

namespace Go.Emb
open Go.RowKit Go.Hm
variable {P : Program} {w w0 w1 w' w'' : World} {K : Value → World → Prop} {σ σ0 σ1 σ' : Q5}
theorem Ig {α:Type} (f:α→α) (e:α): ∀l:List α,(l++[e]).modify l.length f=l++[f e]
 | []=>rfl
 | x::r=>by simp[Ig f e r]
theorem Q0B (k:List UInt8) (e:MapEntry) (b:e.key=S k): ∀(a:List MapEntry) (i:Nat),Instr.findNow .string (S k) a i=some none→Instr.findNow .string (S k) (a++[e]) i=some (some (i+a.length,e.val))
 | [],i,_=>by
  simp[Instr.findNow,b,Instr.sameNow,Ex]
 | x::r,i,h=>by
  simp only[Instr.findNow,List.cons_append] at h⊢
  split at h
  ·cases h
  ·rename_i c
   rw[Q0B k e b r (i+1) h]
   simp;omega
  ·cases h
theorem Q23 (k:List UInt8) (u:Value): ∀(a:List MapEntry) (i j:Nat) (v:Value),Instr.findNow .string (S k) a i=some (some (j,v))→i≤j∧j-i<a.length∧Instr.findNow .string (S k) (a.modify (j-i) fun e=>{e with val:=u}) i=some (some (j,u))
 | [],i,j,v,h=>by simp[Instr.findNow] at h
 | x::r,i,j,v,h=>by
  simp only[Instr.findNow] at h
  split at h
  ·rename_i b
   cases h
   refine ⟨Nat.le_refl _,by simp,?_⟩
   simp only[Nat.sub_self,List.modify_zero_cons,Instr.findNow,b]
  ·rename_i b
   obtain ⟨d,f,c⟩:=Q23 k u r (i+1) j v h
   refine ⟨by omega,by simp;omega,?_⟩
   rw[show j-i=(j-(i+1))+1 by omega]
   simp only[List.modify_succ_cons,Instr.findNow,b]
   exact c
  ·cases h
theorem Vf {t p q:TypeId} [tm:TM P t p q] (n:P.underlying p=some .string) {r:Nat} {b:Array MapEntry} {a:Nat} {k:List UInt8} {i:Nat} {v:Value} {e:MapEntry} (o:w.heap[r]? =some (.map b a))
 (u:Instr.findNow .string (S k) b.toList 0=some (some (i,v))) (m:b[i]? =some e) (l:e.key=S k):
 (Instr.mapEntry t (.map (some r)) (S k)).run P w= .ok (.tuple #[v,goInt e.born]) {w with heap:=w.heap.setIfInBounds r (.map b a)}:=by
 have s:(getObj r).run P w= .ok (.map b a) w:=by simp[getObj,Sem.run,o]
 have c:(Instr.keyThatStays (S k) (S k)).run P w= .ok (S k) w:=by
  simp[Instr.keyThatStays,Instr.sameBits,Ex]
 have d:(b.modify i fun e=>{e with key:=S k})=b:=by
  apply Array.ext'
  apply List.ext_getElem?
  intro j
  simp only[Array.toList_modify,List.getElem?_modify]
  by_cases g:i=j
  ·subst g
   rw[Array.getElem?_toList,m]
   simp[←l]
  ·cases b.toList[j]? <;>simp[g]
 have f:(setObj r (.map b a)).run P w= .ok () {w with heap:=w.heap.setIfInBounds r (.map b a)}:=by
  simp[setObj,Sem.run,o]
 simp only[Instr.mapEntry,Sem.run_bind,run_underlying tm.h,Result.andThen_ok,Instr.findKey,run_underlying n,u,I2 n,s,Sem.run_pure]
 simp only[m,Option.map_some,Option.getD_some,l,c,Result.andThen_ok,d,f]
theorem Q2u {r:Nat} {o:Obj} (h:w.heap[r]? =some o):({w with heap:=w.heap.setIfInBounds r o}:World)=w:=by
 have:w.heap.setIfInBounds r o=w.heap:=by
  apply Array.ext'
  apply List.ext_getElem?
  intro j
  simp only[Array.toList_setIfInBounds,List.getElem?_set]
  by_cases a:r=j
  ·subst a
   rw[if_pos rfl]
   have:=h
   rw[←Array.getElem?_toList] at this
   rw[this,if_pos (by have:=(Array.getElem?_eq_some_iff.1 h).1;simpa using this)]
  ·rw[if_neg a]
 rw[this]
theorem Q3L {r:Nat} {o a:Obj} (h:w.heap[r]? =some a):Upd w r {w with heap:=w.heap.setIfInBounds r o}∧({w with heap:=w.heap.setIfInBounds r o}:World).heap[r]? =some o:=by
 have b:=(Array.getElem?_eq_some_iff.1 h).1
 exact ⟨⟨rfl,rfl,rfl,by simp,fun k c=>by simp only[Array.getElem?_setIfInBounds];rw[if_neg (by omega)]⟩,by simp[Array.getElem?_setIfInBounds,b]⟩
structure Ent3 (P : Program) (t : TypeId) (r : Nat) (k : List UInt8) (u : Value) (m : List (List UInt8 × Value)) (O0 O1 O2 : Obj) (stamp : Nat) : Prop where
  same : O0 = O2 → O1 = O0
  put : H2 (some O2) (Wm m k u)
  entry : ∀ {w : World} {K : Value → World → Prop}, (w.heap[r]? = some O0 ∨ w.heap[r]? = some O1 ∨ w.heap[r]? = some O2) → (∀ x w', Upd w r w' → (w.heap[r]? = some O0 → w'.heap[r]? = some O1) → (w.heap[r]? ≠ some O0 → w'.heap[r]? = w.heap[r]?) → K (.tuple #[x, I stamp]) w') → mapEntry P t (.map (some r)) (S k) w K
  store : ∀ {w : World} {K : Value → World → Prop}, (w.heap[r]? = some O1 ∨ w.heap[r]? = some O2) → (∀ w', Upd w r w' → w'.heap[r]? = some O2 → K undef w') → entryStore P t (.map (some r)) (I stamp) u w K
theorem X47 {t kt et:TypeId} {ah:Nat} {z:Value} [tm:TM P t kt et] [tz:TZ P et 1 ah z] (O:P.underlying kt=some .string) {r:Nat} {m:List (List UInt8×Value)} (hm:H2 (w.heap[r]?) m) (k:List UInt8) (u:Value):
 ∃X O1 O2 A,w.heap[r]? =some X∧Ent3 P t r k u m X O1 O2 A:=by
 obtain ⟨q,g,h1,h2,Y,h4⟩:=hm
 obtain ⟨r',q1,q2,q3,q4⟩:=Ba k q.toList m 0 h2
 -- the array behind it, the place, the stamp
 have R: ∀(f:Array MapEntry) (d i:Nat) (s:MapEntry) (v1:Value),Instr.findNow .string (S k) f.toList 0=some (some (i,v1))→f[i]? =some s→s.key=S k→(f.toList.map (·.born)).Pairwise (· < ·)→
  (Obj.map q g= .map (f.modify i fun e=>{e with val:=u}) d→Obj.map f d=Obj.map q g)→H2 (some (.map (f.modify i fun e=>{e with val:=u}) d)) (Wm m k u)→
  (∀{w:World},w.heap[r]? =some (.map q g)→ ∃x,(Instr.mapEntry t (.map (some r)) (S k)).run P w= .ok (.tuple #[x,I s.born]) {w with heap:=w.heap.setIfInBounds r (.map f d)})→
  ∃X O1 O2 A,w.heap[r]? =some X∧Ent3 P t r k u m X O1 O2 A:=by
  intro f d i s v1 f1 f2 f3 f4 f5 f6 f7
  obtain ⟨_,H,f8⟩:=Q23 k u f.toList 0 i v1 f1
  simp only[Nat.sub_zero] at H f8
  have ay:i<f.size:=by simpa using H
  have f9:(f.modify i fun e=>{e with val:=u})[i]? =some {s with val:=u}:=by
   rw[Array.getElem?_modify,if_pos rfl,f2];rfl
  have af:Instr.findNow .string (S k) (f.modify i fun e=>{e with val:=u}).toList 0=some (some (i,u)):=by
   rw[Array.toList_modify];exact f8
  have M: ∀(l:Array MapEntry),l.toList.map (·.born)=f.toList.map (·.born)→l.findIdx? (fun e=>(e.born:Int)==s.born)=some i:=by
   intro l D
   obtain ⟨le⟩:=l
   have e0:(Array.mk le).findIdx? (fun e=>(e.born:Int)==s.born)=le.findIdx? (fun e=>(e.born:Int)==s.born):=List.findIdx?_toArray ..
   rw[e0,List.findIdx?_eq_some_iff_getElem]
   generalize V:(Array.mk le)=l at*
   have al:le=l.toList:=by rw[←V]
   subst al
   have a1:l.toList.length=f.toList.length:=by have:=congrArg List.length D;simpa using this
   have U: ∀j (hj:j<l.toList.length),(l.toList[j]).born=(f.toList[j]'(by omega)).born:=fun j hj=>by
    have h5:(l.toList.map (·.born))[j]? =(f.toList.map (·.born))[j]? :=by rw[D]
    rw[List.getElem?_map,List.getElem?_map,List.getElem?_eq_getElem hj,List.getElem?_eq_getElem (by omega)] at h5
    simpa using h5
   have W:f.toList[i]=s:=by
    have:=f2
    rw[←Array.getElem?_toList,List.getElem?_eq_getElem H] at this
    simpa using this
   refine ⟨by omega,by rw[U i (by omega),W];simp,fun j hj=>?_⟩
   have ar:j<f.toList.length:=by omega
   have:=(List.pairwise_iff_getElem.1 f4) j i (by simpa using ar) (by simpa using H) hj
   simp only[List.getElem_map] at this
   rw[U j (by omega)]
   rw[W] at this
   simp only[beq_iff_eq];omega
  have J:(f.modify i fun e=>{e with val:=u}).toList.map (·.born)=f.toList.map (·.born):=by
   apply List.ext_getElem?
   intro j
   simp only[Array.toList_modify,List.getElem?_map,List.getElem?_modify]
   by_cases L:i=j<;>cases f.toList[j]? <;>simp[L]
  have av:(f.modify i fun e=>{e with val:=u}).modify i (fun e=>{e with val:=u})=f.modify i fun e=>{e with val:=u}:=by
   apply Array.ext'
   apply List.ext_getElem?
   intro j
   simp only[Array.toList_modify,List.getElem?_modify]
   by_cases L:i=j<;>cases f.toList[j]? <;>simp[L]
  have B: ∀(l:Array MapEntry) {w:World},l.toList.map (·.born)=f.toList.map (·.born)→w.heap[r]? =some (.map l d)→(Instr.entryStore t (.map (some r)) (I s.born) u).run P w= .ok () {w with heap:=w.heap.setIfInBounds r (.map (l.modify i fun e=>{e with val:=u}) d)}:=by
   intro l w D hw
   have hg:(getObj r).run P w= .ok (.map l d) w:=by simp[getObj,Sem.run,hw]
   have E: ∀o,(setObj r (.map o d)).run P w= .ok () {w with heap:=w.heap.setIfInBounds r (.map o d)}:=by
    intro o;simp[setObj,Sem.run,hw]
   simp only[Instr.entryStore,Sem.run_bind,hg,Result.andThen_ok,asInt,Sem.run_pure,asIntOf,M l D,E]
  refine ⟨.map q g, .map f d, .map (f.modify i fun e=>{e with val:=u}) d,s.born,h1,f5,f6,?_,?_⟩
  ·intro w K hw N
   unfold mapEntry
   rcases hw with hw | hw | hw
   ·obtain ⟨x,hx⟩:=f7 hw
    rw[X9 hx]
    obtain ⟨u1,u2⟩:=Q3L (o:= .map f d) hw
    exact N x _ u1 (fun _=>u2) fun h=>absurd hw h
   ·have:=Vf (P:=P) (t:=t) O hw f1 f2 f3
    rw[Q2u hw] at this
    rw[X9 this]
    refine N _ w ⟨rfl,rfl,rfl,rfl,fun _ _=>rfl⟩ (fun h0=>?_) fun _=>rfl
    exact hw
   ·have:=Vf (P:=P) (t:=t) O hw af f9 f3
    rw[Q2u hw] at this
    rw[X9 this]
    refine N _ w ⟨rfl,rfl,rfl,rfl,fun _ _=>rfl⟩ (fun h0=>?_) fun _=>rfl
    rw[h0] at hw
    cases hw
    rw[h0,f5 rfl]
  ·intro w K hw N
   unfold entryStore
   rcases hw with hw | hw
   ·rw[Li (B f rfl hw)]
    obtain ⟨u1,u2⟩:=Q3L (o:= .map (f.modify i fun e=>{e with val:=u}) d) hw
    exact N _ u1 u2
   ·have:=B _ J hw
    rw[av,Q2u hw] at this
    rw[Li this]
    exact N _ ⟨rfl,rfl,rfl,rfl,fun _ _=>rfl⟩ hw
 cases r' with
 | none=>
  obtain ⟨i,hi,bi,bg,an⟩:=tz.info
  have hz: ∀w:World,(zeroValue et).run P w= .ok z w:=fun w=>Zk tz w
  refine R (q.push {key:=S k,val:=z,born:=g}) (g+1) q.size {key:=S k,val:=z,born:=g} z ?_ (by simp) rfl ?_ ?_ ?_ ?_
  ·have:=Q0B k {key:=S k,val:=z,born:=g} rfl q.toList 0 q1
   simpa using this
  ·simp only[Array.toList_push,List.map_append,List.map_cons,List.map_nil]
   rw[List.pairwise_append]
   refine ⟨Y,by simp,?_⟩
   intro a ha b D
   simp at D;subst D
   obtain ⟨e,he,rfl⟩:=List.mem_map.1 ha
   exact h4 e he
  ·intro e
   injection e with s Z
   omega
  ·refine ⟨_,_,rfl,?_,?_,?_⟩
   ·rw[q4 rfl]
    simp only[Array.toList_modify,Array.toList_push]
    rw[←Array.length_toList,Ig]
    simp[h2]
   ·have:((q.push {key:=S k,val:=z,born:=g}).modify q.size fun e=>{e with val:=u}).toList.map (·.born)=q.toList.map (·.born)++[g]:=by
     simp only[Array.toList_modify,Array.toList_push]
     rw[←Array.length_toList,Ig]
     simp
    rw[this,List.pairwise_append]
    refine ⟨Y,by simp,?_⟩
    intro a ha b D
    simp at D;subst D
    obtain ⟨e,he,rfl⟩:=List.mem_map.1 ha
    exact h4 e he
   ·intro e he
    simp only[Array.toList_modify,Array.toList_push] at he
    rw[←Array.length_toList,Ig] at he
    rcases List.mem_append.1 he with he | he
    ·have:=h4 e he;omega
    ·simp at he;subst he;simp
  ·intro w hw
   have hg:(getObj r).run P w= .ok (.map q g) w:=by simp[getObj,Sem.run,hw]
   have E: ∀o c,(setObj r (.map o c)).run P w= .ok () {w with heap:=w.heap.setIfInBounds r (.map o c)}:=by
    intro o c;simp[setObj,Sem.run,hw]
   refine ⟨z,?_⟩
   simp only[Instr.mapEntry,Sem.run_bind,run_underlying tm.h,Result.andThen_ok,Instr.findKey,run_underlying O,q1,I2 O,hg,Sem.run_pure,hz,E]
   rfl
 | some p=>
  obtain ⟨j,v⟩:=p
  obtain ⟨z1,z2,z3⟩:=q3 j v rfl
  obtain ⟨e,s,Z⟩:=z2
  simp only[Nat.sub_zero] at s z3
  have Q:q[j]? =some e:=by rw[←Array.getElem?_toList];exact s
  refine R q g j e v q1 Q Z Y (fun _=>rfl) ?_ fun hw=>⟨v,Vf O hw q1 Q Z⟩
  refine ⟨_,_,rfl,?_,?_,?_⟩
  ·have:=z3 u
   rw[←this,Array.toList_modify]
   congr 1
   apply List.ext_getElem?
   intro n
   simp only[List.getElem?_modify]
   by_cases C:j=n
   ·subst C;rw[s];simp[Z]
   ·simp[C]
  ·have:(q.modify j fun e=>{e with val:=u}).toList.map (·.born)=q.toList.map (·.born):=by
    apply List.ext_getElem?
    intro n
    simp only[Array.toList_modify,List.getElem?_map,List.getElem?_modify]
    by_cases C:j=n<;>cases q.toList[n]? <;>simp[C]
   rw[this];exact Y
  ·intro x hx
   have:x.born∈(q.modify j fun e=>{e with val:=u}).toList.map (·.born):=List.mem_map.2 ⟨x,hx,rfl⟩
   have D:(q.modify j fun e=>{e with val:=u}).toList.map (·.born)=q.toList.map (·.born):=by
    apply List.ext_getElem?
    intro n
    simp only[Array.toList_modify,List.getElem?_map,List.getElem?_modify]
    by_cases C:j=n<;>cases q.toList[n]? <;>simp[C]
   rw[D] at this
   obtain ⟨y,hy,e⟩:=List.mem_map.1 this
   rw[←e];exact h4 y hy
end Go.Emb

namespace Go.Hm
open Go.Kd Go.Emb
abbrev B0:=List (X0×X0)
def C1:B0→X0→Option X0
 | [],_=>none
 | p::r,k=>if p.1=k then some p.2 else C1 r k
def Rz:B0→X0→X0→B0
 | [],k,v=>[(k,v)]
 | p::r,k,v=>if p.1=k then (k,v)::r else p::Rz r k v
def vals (m:B0):List (List UInt8×Value):=m.map fun p=>(p.1,S p.2)
theorem Q9p (m:B0) (k:X0):C5 (vals m) k=(C1 m k).map S:=by
 induction m with
 | nil=>rfl
 | cons p r a=>
  simp only[vals,List.map_cons,C5,C1]
  split
  ·rfl
  ·exact a
theorem Q5s (m:B0) (k v:X0):Wm (vals m) k (S v)=vals (Rz m k v):=by
 induction m with
 | nil=>rfl
 | cons p r a=>
  simp only[vals,List.map_cons,Wm,Rz]
  split
  ·rfl
  ·rw[List.map_cons];congr 1
theorem Q0f (m:B0) (k v n:X0):C1 (Rz m k v) n=if k=n then some v else C1 m n:=by
 induction m with
 | nil=>simp[Rz,C1]
 | cons p r b=>
  simp only[Rz]
  by_cases h:p.1=k
  ·rw[if_pos h]
   simp only[C1]
   by_cases a:k=n
   ·simp[a]
   ·rw[if_neg a,if_neg a,if_neg (by rw[h];exact a)]
  ·rw[if_neg h]
   simp only[C1]
   by_cases a:p.1=n
   ·rw[if_pos a,if_pos a,if_neg (by intro e;exact h (a.trans e.symm))]
   ·rw[if_neg a,if_neg a];exact b
def Vg (d:X0) (s:B0×B0) (m:Hm.Met):Bool×(B0×B0):=
 ((match C1 s.1 m.name with | some x=> !decide (x=Qu m) | none=>false),(Rz s.1 m.name (Qu m),Rz s.2 m.name d))
end Go.Hm
namespace Go.Emb
open Go.RowKit Go.Hm
theorem H2.of_below {w w':World} {r:Nat} {m:List (List UInt8×Value)} (h:H2 (w.heap[r]?) m) (c:Below w.heap.size w w'):H2 (w'.heap[r]?) m:=by
 obtain ⟨d,a,b,e⟩:=h
 rw[c.block r (Array.getElem?_eq_some_iff.1 b).1]
 exact ⟨d,a,b,e⟩
theorem Q9K {P:Program} {w:World} {K:Value→World→Prop} {t c b:TypeId} {sz a:Nat} {z:Value} [tm:TM P t c b] [tz:TZ P b sz a z] (f:P.underlying c=some .string) {r:Nat} {m:List (List UInt8×Value)} (d:H2 (w.heap[r]?) m) (k:List UInt8)
 (h:K (.tuple #[(C5 m k).getD z, .bool (C5 m k).isSome]) w):lookup P t (.map (some r)) (S k) true w K:=by
 rw[Q2B f d k];cases e:C5 m k<;>rw[e] at h<;>exact h
theorem H2.lt {w:World} {r:Nat} {m:List (List UInt8×Value)} (h:H2 (w.heap[r]?) m):r<w.heap.size:=by
 obtain ⟨c,a,b,d⟩:=h
 exact (Array.getElem?_eq_some_iff.1 b).1
end Go.Emb
namespace Go.Proofs.YtjdiakhipmggjaaGreatDoor
open Go.Emb Go.RowKit Go.Kd Go.Hm
variable {w : World} {K : Value → World → Prop} {σ : Q5} {v : Value} {l : List Cla}
theorem X3A {m:Hm.Met} {cs ds:List Value} {pa pb q:Addr} {b o:Nat} {s:B0×B0} {d:X0} (hs:X2 w σ) (hm:E7 σ m cs) (ac:SmM m) (hn:NmM m) (R:Z4 σ pa [.map (some b)]) (ax:Z4 σ pb [.map (some o)]) (hq:Z4 σ q (S d::ds))
 (ak:σ b=none) (ag:σ o=none) (aa:b≠o) (p:H2 (w.heap[b]?) (vals s.1)) (y:H2 (w.heap[o]?) (vals s.2))
 (h: ∀w',Kpt (fun k=>k=b∨k=o) w w'→H2 (w'.heap[b]?) (vals (Vg d s m).2.1)→H2 (w'.heap[o]?) (vals (Vg d s m).2.2)→K (.bool (Vg d s m).1) w'):
 Q1 P F.aK [.agg cs.toArray, .pointer (some pa), .pointer (some q), .pointer (some pb)] w K:=Hb (by
 have ab:=hm
 obtain ⟨pv,cv,hv,rfl,g1,g2,g3,g4,g5,g6⟩:=hm
 unfold Zb
 refine Y9 hs fun a w1 σ1 f Y=>?_
 have ae:=p.lt
 have aw:=y.lt
 have p:=p.of_below f.bel
 have y:=y.of_below f.bel
 have W:σ1 b=none:=(f.old b ae).trans ak
 have J:σ1 o=none:=(f.old o aw).trans ag
 refine X7 f.sat (R.up f) rfl ?_
 rw[fa]
 refine ld f.sat Y rfl ?_
 refine Q9K X8 p m.name ?_
 have ay:(.tuple #[(C5 (vals s.1) m.name).getD (.string ⟨#[]⟩), .bool (C5 (vals s.1) m.name).isSome]:Value)= .tuple #[S ((C1 s.1 m.name).getD []), .bool (C1 s.1 m.name).isSome]:=by
  rw[Q9p];cases C1 s.1 m.name<;>rfl
 rw[ay]
 refine J7 (vs:=[_,_]) rfl ?_
 refine J7 (vs:=[_,_]) rfl ?_
 obtain ⟨O,M,A,z,ao,E⟩:=X47 (P:=P) (t:=T.w) X8 p m.name (S (Qu m))
 have Q:=p.lt
 refine Kf (fun c i=>Kpt (fun k=>k=b) c i∧(i.heap[b]? =c.heap[b]? ∨(c.heap[b]? =some O∧O≠A∧i.heap[b]? =some M)∨i.heap[b]? =some A))
  (fun c=>Kpt (fun k=>k=b) w1 c∧X2 c σ1∧(c.heap[b]? =some O∨c.heap[b]? =some M∨c.heap[b]? =some A))
  ⟨.of_below (Below.refl _ _).drew,f.sat.below (Below.refl _ _).drew, .inl ao⟩ (fun c i g B=>⟨g.1.trans B.1,B.1.sat g.2.1 (fun k hk=>hk▸W),by
   rcases B.2 with e | ⟨_,_,e⟩ | e
   ·rw[e];exact g.2.2
   ·exact .inr (.inl e)
   ·exact .inr (.inr e)⟩) ?_
 refine X4 (.pointer (some (a.add 0))) (fun w g=>by rw[fa];exact ⟨⟨Kpt.refl, .inl rfl⟩,rfl⟩) ?_
 refine X4 (.pointer (some (a.add 0))) (fun w g=>by rw[fa];exact ⟨⟨Kpt.refl, .inl rfl⟩,rfl⟩) ?_
 refine X4 (.pointer (some (q.add 0))) (fun w g=>by rw[fa];exact ⟨⟨Kpt.refl, .inl rfl⟩,rfl⟩) ?_
 refine X4 (.map (some b)) (fun w g=>X7 g.2.1 (R.up f) rfl ⟨⟨Kpt.refl, .inl rfl⟩,rfl⟩) ?_
 refine X4 (S m.name) (fun t w g e=>by rw[e];exact ld g.2.1 Y rfl ⟨⟨Kpt.refl, .inl rfl⟩,rfl⟩) ?_
 refine X4 (.map (some o)) (fun w g=>X7 g.2.1 (ax.up f) rfl ⟨⟨Kpt.refl, .inl rfl⟩,rfl⟩) ?_
 refine X4 (S m.name) (fun t w g e=>by rw[e];exact ld g.2.1 Y rfl ⟨⟨Kpt.refl, .inl rfl⟩,rfl⟩) ?_
 refine X4 (.agg [S m.name,pv,S m.result, .bool m.abs,I m.locals,cv,hv].toArray) (fun w g=>Y4 g.2.1 Y rfl ⟨⟨Kpt.refl, .inl rfl⟩,rfl⟩) ?_
 refine X4 (S (Qu m)) (fun t c g e=>by
  rw[e]
  exact Q9V g.2.1 (RMe_lift ab ⟨f.le⟩) ac hn fun i σ3 r=>⟨⟨.of_below r.bel, .inl (r.bel.block b (Nat.lt_of_lt_of_le Q g.1.size))⟩,rfl⟩) ?_
 refine X4 (S d) (fun t w g e=>by rw[e];exact ld g.2.1 (hq.up f) rfl ⟨⟨Kpt.refl, .inl rfl⟩,rfl⟩) ?_
 have st: ∀{c i:World},(c.heap[b]? =some M∨c.heap[b]? =some A)→(i.heap[b]? =c.heap[b]? ∨(c.heap[b]? =some O∧O≠A∧i.heap[b]? =some M)∨i.heap[b]? =some A)→(i.heap[b]? =some M∨i.heap[b]? =some A):=by
  intro c i j h2
  rcases h2 with e | ⟨_,_,e⟩ | e
  ·rw[e];exact j
  ·exact .inl e
  ·exact .inr e
 refine H0 (fun u c=>(∃x,u= .tuple #[x,I z])∧(c.heap[b]? =some M∨c.heap[b]? =some A)) (fun u c i j B=>⟨j.1,st j.2 B.2⟩) (fun V av c g e1 e2=>?_) ?_
 ·rw[e1,e2]
  refine E.entry g.2.2 fun x i n ap aq=>?_
  by_cases X:c.heap[b]? =some O
  ·have j:=ap X
   refine ⟨⟨Kpt.of_upd n rfl,?_⟩,⟨x,rfl⟩, .inl j⟩
   by_cases C:O=A
   ·left;rw[j,X,E.same C]
   ·exact .inr (.inl ⟨X,C,j⟩)
  ·have j:=aq X
   refine ⟨⟨Kpt.of_upd n rfl, .inl j⟩,⟨x,rfl⟩,?_⟩
   rw[j];exact g.2.2.resolve_left X
 refine H0 (fun u c=>u=I z∧(c.heap[b]? =some M∨c.heap[b]? =some A)) (fun u c i j B=>⟨j.1,st j.2 B.2⟩) (fun t c g e=>?_) ?_
 ·obtain ⟨⟨x,rfl⟩,j⟩:=e
  exact J7 (vs:=[_,_]) rfl ⟨⟨Kpt.refl, .inl rfl⟩,rfl,j⟩
 refine H0 (fun _ c=>c.heap[b]? =some A) (fun u c i j B=>?_) (fun V am al c g e1 e2 e3=>?_) ?_
 ·rcases B.2 with e | ⟨e,C,_⟩ | e
  ·exact e.trans j
  ·rw[j] at e;cases e;exact absurd rfl C
  ·exact e
 ·rw[e1,e3,e2.1]
  refine E.store e2.2 fun i n h3=>⟨⟨Kpt.of_upd n rfl, .inr (.inr h3)⟩,h3⟩
 rintro ba bj bf V av bk a9 a6 al bi bb am a7 c N _ _ _ _ _ rfl rfl _ _ rfl _ _ ai
 have aj:H2 (c.heap[b]?) (vals (Rz s.1 m.name (Qu m))):=by
  rw[ai,←Q5s];exact E.put
 have ah:H2 (c.heap[o]?) (vals s.2):=by
  rw[N.1.block o y.lt fun e=>aa e.symm];exact y
 refine Pp X8 ⟨J,ah⟩ m.name (S d) fun i n ar=>?_
 have U:H2 (i.heap[o]?) (vals (Rz s.2 m.name d)):=by rw[←Q5s];exact ar.2
 have H:H2 (i.heap[b]?) (vals (Rz s.1 m.name (Qu m))):=by rw[n.block b aa];exact aj
 have r:Kpt (fun k=>k=b∨k=o) w i:=((Kpt.of_below f.bel).trans (N.1.mono fun k _ h=> .inl h)).trans (Kpt.of_upd n (.inr rfl))
 have Z:X2 i σ1:=(Kpt.of_upd (D:=fun k=>k=o) n rfl).sat N.2.1 fun k hk=>hk▸J
 unfold Vg at h
 cases ho:C1 s.1 m.name with
 | none=>
  rw[ho] at h
  simp only[Option.isSome_none,↓M2,M2,Mb,reduceIte]
  exact h i r H U
 | some x=>
  rw[ho] at h
  simp only[Option.isSome_some,Option.getD_some,↓M2,M2,Mb,reduceIte]
  refine Y4 Z Y rfl ?_
  refine Q9V Z (RMe_lift ab ⟨f.le⟩) ac hn fun w4 σ4 L=>?_
  simp only[↓M2,M2,Mb,reduceIte]
  exact h w4 (r.trans (Kpt.of_below L.bel)) (H.of_below L.bel) (U.of_below L.bel))
end Go.Proofs.YtjdiakhipmggjaaGreatDoor

namespace Go.Hm
open Go.Kd Go.Emb
def Sb (s:B0×B0) (c:Cla):Bool×(B0×B0):=((J3 (Vg c.name) s c.methods 0).1.isSome,(J3 (Vg c.name) s c.methods 0).2)
def Hu (a:List Hm.Met):Prop:= ∃x∈a,∃y∈a,x.name=y.name∧Qu x≠Qu y
theorem Q44 (a:List Hm.Met):Mj a=true↔Hu a:=by
 simp[Mj,Hu]
structure Gd (pre : List Hm.Met) (s : B0 × B0) : Prop where
  a : ∀ m ∈ pre, C1 s.1 m.name = some (Qu m)
  b : ∀ k x, C1 s.1 k = some x → ∃ m ∈ pre, m.name = k ∧ Qu m = x
  c : ∀ k, (C1 s.2 k).isSome = true ↔ ∃ m ∈ pre, m.name = k
theorem Gd.no {b:List Hm.Met} {s:B0×B0} (h:Gd b s): ¬Hu b:=by
 rintro ⟨x,d,y,e,f,g⟩
 have c:=h.a x d
 have i:=h.a y e
 rw[f,i] at c
 exact g (Option.some.inj c).symm
theorem Gd.step {j:List Hm.Met} {s:B0×B0} (h:Gd j s) (d:X0) (m:Hm.Met):((Vg d s m).1=true→Hu (j++[m]))∧((Vg d s m).1=false→Gd (j++[m]) (Vg d s m).2):=by
 unfold Vg
 constructor
 ·intro n
  cases o:C1 s.1 m.name with
  | none=>rw[o] at n;cases n
  | some x=>
   rw[o] at n
   obtain ⟨y,hy,f,p⟩:=h.b _ _ o
   exact ⟨y,by simp[hy],m,by simp,f,by rw[p];simpa using n⟩
 ·intro n
  have i: ∀x,C1 s.1 m.name=some x→x=Qu m:=fun x g=>by rw[g] at n;simpa using n
  refine ⟨fun y hy=>?_,fun k x g=>?_,fun k=>?_⟩
  ·simp only[Q0f]
   rcases List.mem_append.1 hy with hy | hy
   ·have:=h.a y hy
    by_cases e:m.name=y.name
    ·rw[if_pos e];congr 1;exact (i _ (by rw[e];exact this)).symm
    ·rw[if_neg e];exact this
   ·simp at hy;subst hy;simp
  ·simp only[Q0f] at g
   by_cases e:m.name=k
   ·rw[if_pos e] at g;cases g;exact ⟨m,by simp,e,rfl⟩
   ·rw[if_neg e] at g
    obtain ⟨y,hy,f⟩:=h.b _ _ g
    exact ⟨y,by simp[hy],f⟩
  ·simp only[Q0f]
   by_cases e:m.name=k
   ·rw[if_pos e];exact ⟨fun _=>⟨m,by simp,e⟩,fun _=>rfl⟩
   ·rw[if_neg e,h.c k]
    constructor
    ·rintro ⟨y,hy,f⟩;exact ⟨y,by simp[hy],f⟩
    ·rintro ⟨y,hy,f⟩
     rcases List.mem_append.1 hy with hy | hy
     ·exact ⟨y,hy,f⟩
     ·simp at hy;subst hy;exact absurd f e
theorem Hu.mono {a b:List Hm.Met} (h:Hu a) (c: ∀x∈a,x∈b):Hu b:=by
 obtain ⟨x,d,y,f,e⟩:=h
 exact ⟨x,c x d,y,c y f,e⟩
theorem Q3k (d:X0): ∀(b a:List Hm.Met) (s:B0×B0) (i:Nat),Gd a s→((J3 (Vg d) s b i).1.isSome=true→Hu (a++b))∧((J3 (Vg d) s b i).1.isSome=false→Gd (a++b) (J3 (Vg d) s b i).2)
 | [],a,s,i,h=>by simpa [J3] using h
 | m::r,a,s,i,h=>by
  obtain ⟨g,j⟩:=h.step d m
  simp only[J3]
  cases f:(Vg d s m).1 with
  | true=>
   simp only[if_true,Option.isSome_some]
   exact ⟨fun _=>(g f).mono fun x c=>by simp at c⊢;rcases c with h | h<;>simp[h],fun e=>by cases e⟩
  | false=>
   simp only[Bool.false_eq_true,if_false]
   have:=Q3k d r (a++[m]) (Vg d s m).2 (i+1) (j f)
   rw[show a++m::r=(a++[m])++r by simp]
   exact this
theorem Q2O: ∀(cs:List Cla) (a:List Hm.Met) (s:B0×B0) (i:Nat),Gd a s→((J3 Sb s cs i).1.isSome=true→Hu (a++cs.flatMap (·.methods)))∧((J3 Sb s cs i).1.isSome=false→Gd (a++cs.flatMap (·.methods)) (J3 Sb s cs i).2)
 | [],a,s,i,h=>by simpa [J3] using h
 | c::r,a,s,i,h=>by
  obtain ⟨d,f⟩:=Q3k c.name c.methods a s 0 h
  simp only[J3]
  cases b:(Sb s c).1 with
  | true=>
   simp only[if_true,Option.isSome_some]
   exact ⟨fun _=>(d b).mono (by simp;intro x hx;rcases hx with hx | hx;exact .inl hx;exact .inr (.inl hx)),fun e=>by cases e⟩
  | false=>
   simp only[Bool.false_eq_true,if_false]
   have:=Q2O r (a++c.methods) (Sb s c).2 (i+1) (f b)
   rw[List.flatMap_cons,←List.append_assoc]
   exact this
theorem X2S:Gd [] ([],[]):=⟨by simp,by simp[C1],by simp[C1]⟩
theorem Q7J (l:List Cla) (n:X0):Lp l n=(Me l n).flatMap (·.methods):=by
 unfold Lp Me
 induction F7 l n with
 | nil=>rfl
 | cons u r a=>
  rw[List.flatMap_cons,List.filterMap_cons]
  cases b:lk l u with
  | none=>simpa [b] using a
  | some c=>simp only[Option.map_some,Option.getD_some,List.flatMap_cons];rw[a]
end Go.Hm
namespace Go.Emb
open Go.RowKit Go.Hm
variable {P : Program} {w w0 w1 w' w'' : World} {K : Value → World → Prop} {σ σ0 σ1 σ' : Q5}
def It (σ:Q5) (w:World) (b r:Nat) (d:Array MapEntry) (a:Nat) (c:Array Nat):Prop:=σ b=none∧ ∃c0,a≤c0∧w.heap[b]? =some (.mapIter (some r) a c c0)
theorem It.step {b r:Nat} {e:Array MapEntry} {a:Nat} {c:Array Nat} (h:It σ w b r e a c) (k:Stp w σ w' σ'):It σ' w' b r e a c:=by
 obtain ⟨g,c0,i,d⟩:=h
 have f:=(Array.getElem?_eq_some_iff.1 d).1
 exact ⟨(k.old b f).trans g,c0,i,(k.bel.block b f).trans d⟩
theorem X3h {t i e:TypeId} [tm:TM P t i e] {r:Nat} {c:Array MapEntry} {a:Nat} (d:X2 w σ) (g:w.heap[r]? =some (.map c a))
 (h: ∀b w' σ',w.heap.size≤b→Stp w σ w' σ'→It σ' w' b r c a #[]→K (.pointer (some ⟨b,0,none⟩)) w'):rng P t (.map (some r)) w K:=by
 unfold rng
 have f:(getObj r).run P w= .ok (.map c a) w:=by simp[getObj,Sem.run,g]
 rw[X9 (v:= .pointer (some ⟨w.heap.size,0,none⟩)) (w':=w.alloc (.mapIter (some r) a #[] a)) (by
  simp only[Instr.range,Sem.run_bind,run_underlying tm.h,Result.andThen_ok,f,Sem.run_pure]
  simp)]
 exact h _ _ _ (Nat.le_refl _) (Stp.own d _) ⟨d.none (Nat.le_refl _),a,Nat.le_refl _,heap_alloc_new w _⟩
theorem X3w {t:TypeId} {b r:Nat} {es:Array MapEntry} {clock:Nat} {seen:Array Nat} (hi:It σ w b r es clock seen) (hm:w.heap[r]? =some (.map es clock)) (hold: ∀x∈es.toList,x.born<clock)
 (h0:(∀e∈es.toList,e.born∈seen)→K (.tuple #[.bool false]) w)
 (h1: ∀e w',e∈es.toList→e.born∉seen→Kpt (fun k=>k=b) w w'→It σ w' b r es clock (seen.push e.born)→w'.heap[b]? =some (.mapIter (some r) clock (seen.push e.born) clock)→K (.tuple #[.bool true,e.key,e.val]) w'):W3 P (.pointer (some ⟨b,0,none⟩)) false t w K:=by
 obtain ⟨hb,c0,hc,hh⟩:=hi
 unfold W3
 rcases run_next_at (P:=P) w t b r clock c0 seen es clock hh hm hold hc with ⟨hz,hrun⟩ | ⟨e,he,w1,hw1,hrun⟩
 ·rw[X9 hrun]
  refine h0 fun e he=>Classical.byContradiction fun hn=>?_
  have:e∈(leftOf es seen).toList:=by
   unfold leftOf
   simp only[Array.toList_filter,List.mem_filter]
   exact ⟨he,by simpa using hn⟩
  have hl:(leftOf es seen).toList.length=0:=by simpa using hz
  rw[List.eq_nil_of_length_eq_zero hl] at this
  cases this
 ·rw[X9 hrun]
  have he':e∈es.toList∧e.born∉seen:=by
   unfold leftOf at he
   simp only[Array.toList_filter,List.mem_filter] at he
   exact ⟨he.1,by simpa using he.2⟩
  have hh1:w1.heap[b]? =some (.mapIter (some r) clock seen c0):=by rcases hw1 with rfl | rfl<;>exact hh
  obtain ⟨u1,u2⟩:=Q3L (w:=w1) (o:= .mapIter (some r) clock (seen.push e.born) clock) hh1
  refine h1 e _ he'.1 he'.2 ?_ ⟨hb,clock,Nat.le_refl _,u2⟩ u2
  have k1:Kpt (fun k=>k=b) w w1:=by
   rcases hw1 with rfl | rfl
   ·exact Kpt.refl
   ·exact .of_below (Below.refl _ _).drew
  exact k1.trans (Kpt.of_upd u1 rfl)
theorem X2Q {b r:Nat} {d:Array MapEntry} {a:Nat} {c:Array Nat} {e:MapEntry} (hh:w.heap[b]? =some (.mapIter (some r) a (c.push e.born) a)) (g:w.heap[r]? =some (.map d a)) (f:e∈d.toList) (i:(d.toList.map (·.born)).Nodup)
 (h:K (.tuple #[e.key,e.val]) w):Q8A P (.pointer (some ⟨b,0,none⟩)) w K:=by
 unfold Q8A
 rw[X9 (run_entry_at w b r a c d a e hh g f i)]
 exact h
end Go.Emb
namespace Go.Proofs.YtjdiakhipmggjaaGreatDoor
open Go.Emb Go.RowKit Go.Kd Go.Hm
variable {w : World} {K : Value → World → Prop} {σ : Q5} {v : Value} {l : List Cla}
theorem T7 (o:Option Nat):decide ((0:Int)≤L5 o)=o.isSome:=by
 cases o with
 | none=>rfl
 | some i=>simp[L5]
theorem Q3F {q:Addr} {s:X0} (c:X2 w σ) (g:Tab σ v l) (d:Z4 σ q [v]) (f:s.length≤U0) (h: ∀w' σ',Stp w σ w' σ'→K (.bool (O7 l s)) w'):Z3 P (.func (.func F.aj) #[] #[.pointer (some q)]) [S s] w K:=Z7 (Sa (by
 unfold Ua
 unfold O7 at h
 refine Vz ?_
 by_cases a:s=H8
 ·have e:decide (s=[110,117,108,108])=true:=decide_eq_true a
  simp only[e,decide_eq_true a,↓M2,M2,Mb,reduceIte] at h⊢
  exact h _ _ (Stp.refl c)
 ·have e:decide (s=[110,117,108,108])=false:=decide_eq_false a
  simp only[e,decide_eq_false a,↓M2,M2,Mb,reduceIte] at h⊢
  refine X7 c d rfl ?_
  refine Q0W c g f fun w1 σ1 b=>?_
  (try simp only[↓M2,M2,Mb,reduceIte])
  exact h _ _ b))
theorem Q8b {q p:Addr} {s:X0} (b:X2 w σ) (f:Tab σ v l) (c:Z4 σ q [v]) (e:Z4 σ p [.func (.func F.aj) #[] #[.pointer (some q)]]) (d:s.length≤U0) (h: ∀w' σ',Stp w σ w' σ'→K (.bool (!O7 l s)) w'):Z3 P (.func (.func F.ak) #[] #[.pointer (some p)]) [S s] w K:=Z7 (Rm (by
 unfold Jz
 refine X7 b e rfl ?_
 refine Q3F b f c d fun w1 σ1 a=>?_
 refine Wa ?_
 exact h _ _ a))
theorem Q6Y {c:Cla} {cs:List Value} {pa D:Addr} {b e:Nat} {s:B0×B0} (N:X2 w σ) (R:V0 σ c cs) (B:Qh c) (Q:Nm c) (t:Z4 σ pa [.map (some b)]) (A:Z4 σ D [.map (some e)])
 (u:σ b=none) (r:σ e=none) (z:b≠e) (i:H2 (w.heap[b]?) (vals s.1)) (o:H2 (w.heap[e]?) (vals s.2))
 (h: ∀w',Kpt (fun k=>k=b∨k=e) w w'→H2 (w'.heap[b]?) (vals (Sb s c).2.1)∧H2 (w'.heap[e]?) (vals (Sb s c).2.2)→K (.bool (Sb s c).1) w'):
 Z3 P (.func (.func F.b1) #[] #[.pointer (some pa), .pointer (some D)]) [.agg cs.toArray] w K:=Z7 (Rl (by
 obtain ⟨lv,fv,mv,rfl,g1,Z,W,g4,Y⟩:=R
 unfold Jo
 refine Y9 N fun q w1 σ1 a H=>?_
 rw[fa]
 refine ld a.sat H rfl ?_
 rw[Qa]
 have p:=i.lt
 have y:=o.lt
 have n:σ1 b=none:=(a.old b p).trans u
 have j:σ1 e=none:=(a.old e y).trans r
 refine Je (Vg c.name) s (fun s w'=>X2 w' σ1∧H2 (w'.heap[b]?) (vals s.1)∧H2 (w'.heap[e]?) (vals s.2)) (fun k=>k=b∨k=e) (fun _ _ h=>h.1) ⟨a.sat,i.of_below a.bel,o.of_below a.bel⟩ (W.up a)
  (fun s x cs E K C f g U J L=>Z7 ?_) fun E f g=>?_
 ·refine X3A (s:=s) (d:=c.name) g.1 U (B.2.2.2 x C) (Q.2.2 x C) (t.up a) (A.up a) H n j z g.2.1 g.2.2 fun X m O V=>?_
  exact L X (f.trans m) ⟨m.sat g.1 fun k M=>by rcases M with rfl | rfl<;>assumption,O,V⟩
 ·exact h E ((Kpt.of_below a.bel).trans f) g.2))
end Go.Proofs.YtjdiakhipmggjaaGreatDoor

namespace Go.Emb
open Go.RowKit Go.Hm
theorem Stp.nx {D:Nat→Prop} {w w1 g:World} {σ σ1 f:Q5} (a:Stp w σ w1 σ1) (c:Nxt D w1 σ1 g f) (hD: ∀k,D k→w.heap.size≤k):Stp w σ g f:=
 ⟨⟨c.kp.os.trans a.bel.os,c.kp.tape.trans a.bel.tape,c.kp.output.trans a.bel.output,Nat.le_trans a.bel.size c.kp.size,fun k d=>(c.kp.block k (Nat.lt_of_lt_of_le d a.bel.size) fun e=>by have:=hD k e;omega).trans (a.bel.block k d)⟩,
  c.sat,fun b o e=>c.le.le b o (a.le b o e),fun k d=>(c.old k (Nat.lt_of_lt_of_le d a.bel.size)).trans (a.old k d)⟩
end Go.Emb
namespace Go.Hm
open Go.Kd Go.Emb
theorem X1w {d:Array MapEntry} {m:B0} (h:d.toList.map (fun e=>(e.key,e.val))=(vals m).map (fun p=>(S p.1,p.2))):
 (∀e∈d.toList,∃k,e.key=S k∧(C1 m k).isSome=true)∧ ∀k,(C1 m k).isSome=true→ ∃e∈d.toList,e.key=S k:=by
 have a: ∀(m:B0) k,(C1 m k).isSome=true↔k∈m.map (·.1):=by
  intro m
  induction m with
  | nil=>intro k;simp[C1]
  | cons p r i=>
   intro k
   simp only[C1,List.map_cons,List.mem_cons]
   by_cases e:p.1=k
   ·simp[e]
   ·rw[if_neg e,i k]
    constructor
    ·exact .inr
    ·rintro (h | h)
     ·exact absurd h.symm e
     ·exact h
 constructor
 ·intro e g
  have c:(e.key,e.val)∈d.toList.map (fun e=>(e.key,e.val)):=List.mem_map.2 ⟨e,g,rfl⟩
  rw[h] at c
  obtain ⟨p,n,b⟩:=List.mem_map.1 c
  obtain ⟨q,f,rfl⟩:=List.mem_map.1 n
  simp only[Prod.mk.injEq] at b
  exact ⟨q.1,b.1.symm,(a m _).2 (List.mem_map.2 ⟨q,f,rfl⟩)⟩
 ·intro k j
  obtain ⟨q,f,rfl⟩:=List.mem_map.1 ((a m k).1 j)
  have c:(S q.1,S q.2)∈(vals m).map (fun p=>(S p.1,p.2)):=List.mem_map.2 ⟨(q.1,S q.2),List.mem_map.2 ⟨q,f,rfl⟩,rfl⟩
  rw[←h] at c
  obtain ⟨e,g,b⟩:=List.mem_map.1 c
  simp only[Prod.mk.injEq] at b
  exact ⟨e,g,b.1⟩
def Eu (l:List Cla) (m:Hm.Met):Bool:=(!O7 l m.result&& !decide (m.result=[]))||m.params.any fun s=> !O7 l s
end Go.Hm
namespace Go.Proofs.YtjdiakhipmggjaaGreatDoor
open Go.Emb Go.RowKit Go.Kd Go.Hm
variable {w : World} {K : Value → World → Prop} {σ : Q5} {v : Value} {l : List Cla}
set_option maxHeartbeats 1000000 in
theorem Q9c {c:Cla} {cs:List Value} (hs:X2 w σ) (ht:Tab σ v l) (ok:Ok l) (hc:V0 σ c cs) (fz:Qh c) (hn:Nm c) (h: ∀w' W,Stp w σ w' W→K (I (V7 l c)) w'):Q1 P F.b8 [v, .agg cs.toArray] w K:=Fc (by
 obtain ⟨lv,fv,mv,rfl,g1,g2,g3,g4,g5⟩:=hc
 unfold Vk
 obtain ⟨a,_,_,_,hv,_⟩:=ht.ex
 unfold V7 at h
 refine U5 hs (by rw[hv];rfl) fun q2 w1 σ1 a9 u=>?_
 refine Y9 a9.sat fun q3 w2 σ2 ar z=>?_
 have d5:=a9.trans ar
 have u:=u.up ar
 have g1:=(g1.up a9).up ar
 have g2:=(g2.up a9).up ar
 have g3:=(g3.up a9).up ar
 have az:=g2.max
 have b9:=g3.max
 rw[fa]
 refine ld ar.sat z rfl ?_
 refine Q8 g2 ?_
 refine U1 c.fields.length (fun n w'=> ∃W,Stp w σ w' W∧SLe σ2 W∧((c.fields.take n).any fun f=>(Jk l c.super f.name).isSome)=false) ⟨σ2,d5,SLe.refl _,by simp⟩ fun n w3 d be ah=>?_
 obtain ⟨σ3,ax,b8,E⟩:=ah
 refine Z0 ?_
 refine Q7 (fun hh=>?_) (fun hh=>?_)
 ·have g:n<c.fields.length:=by simpa using hh
  refine Q8L (g2.lift b8) g fun p aq aa=>?_
  refine Y4 ax.sat aq rfl ?_
  refine Y7 ax.sat (by rfl) rfl (Rep.one aa) fun q4 w4 σ4 V dw=>?_
  have ac:SLe σ2 σ4:=b8.more ⟨V.le⟩
  have a6:=ax.trans V
  refine X7 V.sat (u.lift ac) rfl ?_
  rw[fa]
  refine ld V.sat (z.lift ac) rfl ?_
  rw[fa]
  refine ld V.sat dw rfl ?_
  refine X2b V.sat (ht.lift ⟨a6.le⟩) ok.acy ok.len ok.sm fun w5 σ5 cc=>?_
  refine K8 ?_
  rw[T7]
  refine Q7 (fun am=>?_) (fun am=>?_)
  ·have:Yw l c=true:=S5 g am
   rw[if_pos this] at h
   exact h _ _ (a6.trans cc)
  ·refine N1 ?_
   refine Y5 az g ⟨σ5,a6.trans cc,ac.more ⟨cc.le⟩,?_⟩
   rw[L2 g,E,am];rfl
 have g: ¬n<c.fields.length:=by simpa using hh
 rw[E2 g] at E
 have ed:Yw l c=false:=E
 rw[if_neg (by rw[ed];simp)] at h
 rw[Qa]
 clear E hh g be
 refine U6 ax.sat (by rfl) rfl rfl fun q7 w4 σ4 V a5=>?_
 have ac:SLe σ2 σ4:=b8.more ⟨V.le⟩
 have a6:=ax.trans V
 have u:=u.lift ac
 have z:=z.lift ac
 have g1:=g1.lift ac
 have g2:=g2.lift ac
 have g3:=g3.lift ac
 rw[fa]
 refine ld V.sat z rfl ?_
 refine Q8 g2 ?_
 refine U1 c.fields.length (fun n w'=> ∃W,Stp w σ w' W∧SLe σ4 W∧((c.fields.take n).any fun f=> !O7 l f.kind)=false) ⟨σ4,a6,SLe.refl _,by simp⟩ fun n w5 d be ah=>?_
 obtain ⟨σ5,ba,av,E⟩:=ah
 refine Z0 ?_
 refine Q7 (fun hh=>?_) (fun hh=>?_)
 ·have g:n<c.fields.length:=by simpa using hh
  refine Q8L (g2.lift av) g fun p aq aa=>?_
  refine Y4 ba.sat aq rfl ?_
  refine Y7 ba.sat (by rfl) rfl (Rep.one aa) fun q9 w6 σ6 a3 em=>?_
  have aj:SLe σ4 σ6:=av.more ⟨a3.le⟩
  have U:=ba.trans a3
  refine X7 a3.sat (a5.lift aj) rfl ?_
  rw[fa]
  refine ld a3.sat em rfl ?_
  refine Q3F a3.sat (ht.lift ⟨U.le⟩) (u.lift aj) aa.2.2 fun w7 σ7 H=>?_
  refine Wa ?_
  refine Q7 (fun am=>?_) (fun am=>?_)
  ·have:B2 l c=true:=by
    unfold B2
    rw[S5 (p:=fun f:Fld=> !O7 l f.kind) g am];rfl
   rw[if_pos this] at h
   exact h _ _ (U.trans H)
  ·refine N1 ?_
   refine Y5 az g ⟨σ7,U.trans H,aj.more ⟨H.le⟩,?_⟩
   rw[L2 g,E,am];rfl
 have g: ¬n<c.fields.length:=by simpa using hh
 rw[E2 g] at E
 have d7:=E
 clear E hh g be
 have u:=u.lift av
 have z:=z.lift av
 have a5:=a5.lift av
 have g3:=g3.lift av
 rw[fa]
 refine ld ba.sat z rfl ?_
 refine Q8 g3 ?_
 refine U1 c.methods.length (fun n w'=> ∃W,Stp w σ w' W∧SLe σ5 W∧((c.methods.take n).any (Eu l))=false) ⟨σ5,ba,SLe.refl _,by simp⟩ fun n w6 d be ah=>?_
 obtain ⟨σ6,U,aj,E⟩:=ah
 refine Z0 ?_
 refine Q7 (fun hh=>?_) (fun hh=>?_)
 ·have g:n<c.methods.length:=by simpa using hh
  refine M7 (g3.lift aj) g fun p cells aq dh aa=>?_
  refine Y4 U.sat aq dh ?_
  refine Y7 U.sat (by rfl) dh (Rep.one aa) fun fp w7 σ7 H Y=>?_
  obtain ⟨pv,cv,fq,rfl,m1,m2,m3,m4,m5,m6⟩:=aa
  have cd:SLe σ5 σ7:=aj.more ⟨H.le⟩
  have c0:=U.trans H
  have D:Eu l c.methods[n]=true→ ∀{w8:World} {σ8:Q5},Stp w σ w8 σ8→K (.int .i64 65) w8:=fun hb w8 σ8 q=>by
   have:B2 l c=true:=by
    unfold B2
    have:=S5 (p:=Eu l) g hb
    unfold Eu at this
    rw[this,Bool.or_true]
   rw[if_pos this] at h
   exact h _ _ q
  have A:Eu l c.methods[n]=false→ ∀{w8:World} {σ8:Q5},Stp w σ w8 σ8→SLe σ5 σ8→UpI c.methods.length (fun n w'=> ∃W,Stp w σ w' W∧SLe σ5 W∧((c.methods.take n).any (Eu l))=false) (.int .i64 (IntKind.i64.wrap (n+1))) w8∧Ti c.methods.length (.int .i64 (IntKind.i64.wrap (n+1)))<Ti c.methods.length (I n):=fun hb w8 σ8 q Z=>
   Y5 b9 g ⟨σ8,q,Z,by rw[L2 g,E,hb];rfl⟩
  unfold Eu at D A
  refine X7 H.sat (a5.lift cd) rfl ?_
  rw[fa]
  refine ld H.sat Y rfl ?_
  refine Q3F H.sat (ht.lift ⟨c0.le⟩) (u.lift cd) m5 fun w8 σ8 M=>?_
  have q:=c0.trans M
  have Z:SLe σ5 σ8:=cd.more ⟨M.le⟩
  have Y:=Y.up M
  have m1:=(m1.up H).up M
  -- what the parameters come to
  have bu: ∀{w8:World} {σ8:Q5} {K:Value→World→Prop},Stp w σ w8 σ8→SLe σ5 σ8→Sl 1 U7 σ8 pv c.methods[n].params→(∀w' W,Stp w8 σ8 w' W→K (.bool (c.methods[n].params.any fun s=> !O7 l s)) w')→Q1 P F.c [pv, .func (.func F.ak) #[] #[.pointer (some q7)]] w8 K:=by
   intro w8 σ8 K q Z m1 hK
   refine P0 (fun s=> !O7 l s) q.sat m1 (fun x w9 K _ d4 hx ek=>Q8b d4 (ht.lift ⟨q.le⟩) (u.lift Z) (a5.lift Z) hx fun w' W hk=>ek w' hk.bel) fun w9 hb=>hK w9 σ8 (Stp.of_below q.sat hb)
  cases e1:O7 l c.methods[n].result with
  | true=>
   rw[e1] at D A
   simp only[↓M2,M2,Mb,reduceIte]
   refine ld M.sat Y rfl ?_
   (try simp only[↓M2,M2,Mb,reduceIte])
   refine bu q Z m1 fun w9 σ9 J=>?_
   cases e2:c.methods[n].params.any fun s=> !O7 l s with
   | true=>
    rw[e2] at D
    simp only[↓M2,M2,Mb,reduceIte]
    exact D rfl (q.trans J)
   | false=>
    rw[e2] at A
    simp only[↓M2,M2,Mb,reduceIte]
    exact A rfl (q.trans J) (Z.more ⟨J.le⟩)
  | false=>
   rw[e1] at D A
   simp only[↓M2,M2,Mb,reduceIte]
   refine ld M.sat Y rfl ?_
   simp only[↓M2,M2,Mb,reduceIte]
   by_cases e3:c.methods[n].result=[]
   ·rw[decide_eq_true e3] at D A
    simp only[decide_eq_true e3,↓M2,M2,Mb,reduceIte]
    refine ld M.sat Y rfl ?_
    (try simp only[↓M2,M2,Mb,reduceIte])
    refine bu q Z m1 fun w9 σ9 J=>?_
    cases e2:c.methods[n].params.any fun s=> !O7 l s with
    | true=>
     rw[e2] at D
     simp only[↓M2,M2,Mb,reduceIte]
     exact D rfl (q.trans J)
    | false=>
     rw[e2] at A
     simp only[↓M2,M2,Mb,reduceIte]
     exact A rfl (q.trans J) (Z.more ⟨J.le⟩)
   ·rw[decide_eq_false e3] at D
    simp only[decide_eq_false e3,↓M2,M2,Mb,reduceIte]
    exact D rfl q
 have g: ¬n<c.methods.length:=by simpa using hh
 rw[E2 g] at E
 have ce:B2 l c=false:=by
  unfold B2
  unfold Eu at E
  rw[d7,E];rfl
 rw[if_neg (by rw[ce];simp)] at h
 clear E hh g be
 have u:=u.lift aj
 have z:=z.lift aj
 refine Q3h U.sat fun r1 w7 aa H t=>?_
 refine Q3h H.sat fun N w8 ei M y=>?_
 have aq:=t.lt
 have t:=t.up M
 have eg:r1≠N:=by omega
 have q:=(U.trans H).trans M
 have eq:w.heap.size≤r1:=Nat.le_trans U.bel.size aa
 have et:w.heap.size≤N:=M8 ei (U.trans H)
 refine N0 M.sat fun b1 w9 σ9 d0 J C=>?_
 refine N0 J.sat fun b2 dy fu ef ai B=>?_
 have ez:=C.lt
 have ey:=t.lt
 have e6:=y.lt
 have t:=(t.up J).up ai
 have y:=(y.up J).up ai
 have C:=C.up ai
 have cu:=(q.trans J).trans ai
 have bs:w.heap.size≤b1:=M8 d0 q
 have bw:w.heap.size≤b2:=M8 ef (q.trans J)
 refine st0 C (by simp[Value.cells]) rfl rfl fun cy cf C=>?_
 have c8:=cf.stp cu bs C.1
 have B:=B.upd cf (by omega)
 have ct:Kpt (fun k=>k=b1) dy cy:=Kpt.of_upd cf rfl
 have t:=t.kp ct (by omega)
 have y:=y.kp ct (by omega)
 refine st0 B (by simp[Value.cells]) rfl rfl fun aw cg B=>?_
 have di:=cg.stp c8 bw B.1
 have C:=C.upd cg (by omega)
 have dn:Kpt (fun k=>k=b2) cy aw:=Kpt.of_upd cg rfl
 have t:=t.kp dn (by omega)
 have y:=y.kp dn (by omega)
 obtain ⟨cj,dp,bd,dq,al⟩:=C.keep di bs
 have B:Y1 cj aw b2 _:=⟨(al b2 (by omega)).trans B.1,B.2⟩
 have t:C2 cj aw r1 []:=⟨(al r1 (by omega)).trans t.1,t.2⟩
 have y:C2 cj aw N []:=⟨(al N (by omega)).trans y.1,y.2⟩
 obtain ⟨bb,ag,bm,bq,a4⟩:=B.keep dp bw
 have t:C2 bb aw r1 []:=⟨(a4 r1 (by omega)).trans t.1,t.2⟩
 have y:C2 bb aw N []:=⟨(a4 N (by omega)).trans y.1,y.2⟩
 have bd:=bd.le bq
 have bd:Z4 bb ⟨b1,0,none⟩ [.map (some r1)]:=bd
 have bm:Z4 bb ⟨b2,0,none⟩ [.map (some N)]:=bm
 have c6:SLe σ6 bb:=⟨fun b o e=>bq b o (dq b o (ai.le b o (J.le b o (M.le b o (H.le b o e)))))⟩
 clear C B
 have u:=u.lift c6
 have z:=z.lift c6
 refine X7 ag.sat u rfl ?_
 rw[fa]
 refine ld ag.sat z rfl ?_
 rw[Qa]
 refine Q7z Sb ([],[]) (fun s w'=>H2 (w'.heap[r1]?) (vals s.1)∧H2 (w'.heap[N]?) (vals s.2)) (fun k=>k=r1∨k=N) ag.sat (ht.lift ⟨ag.le⟩) ok.len ok.sm g4
  (fun k hk=>by rcases hk with rfl | rfl;exact ⟨t.lt,t.1⟩;exact ⟨y.lt,y.1⟩) (fun s wa wb hi hk=>by rw[hk r1 (.inl rfl),hk N (.inr rfl)];exact hi) ⟨t.2,y.2⟩
  (fun s d ds wa σa K le el c5 hi hr d2 hK=>?_) fun fm ci ae b3=>?_
 ·have dg:=(V2 d2).2.1
  exact Q6Y el hr (ok.sm d dg) (ok.nm d dg) (bd.lift le) (bm.lift le) (c5 r1 (.inl rfl)) (c5 N (.inr rfl)) eg hi.1 hi.2 hK
 have O:=ag.nx ae fun k hk=>by rcases hk with rfl | rfl<;>assumption
 obtain ⟨dm,c4⟩:=Q2O (Me l c.name) [] ([],[]) 0 X2S
 rw[List.nil_append,←Q7J] at dm c4
 cases db:(J3 Sb ([],[]) (Me l c.name) 0).1.isSome with
 | true=>
  have:Zh l c=true:=(Q44 _).2 (dm db)
  rw[if_pos this] at h
  refine J4 ?_
  exact h _ _ O
 | false=>
  have bj:=c4 db
  have:Zh l c=false:=by
   cases e:Zh l c with
   | false=>rfl
   | true=>exact absurd ((Q44 _).1 e) bj.no
  rw[if_neg (by rw[this];simp)] at h
  refine Z6 ?_
  have u:=u.lift ae.le
  have z:=z.lift ae.le
  rw[fa]
  refine ld O.sat z rfl ?_
  unfold Dl at h
  cases da:c.abs with
  | true=>
   rw[da] at h
   refine J4 ?_
   exact h _ _ O
  | false=>
   rw[da] at h
   simp only[Bool.not_false,Bool.true_and] at h
   refine Z6 ?_
   refine X7 O.sat (bm.lift ae.le) rfl ?_
   generalize fl:(J3 Sb ([],[]) (Me l c.name) 0).2=st at bj b3
   obtain ⟨es,ak,e1,e2,e3,e4⟩:=b3.2
   have df:ci N=none:=(ae.old N y.lt).trans y.1
   obtain ⟨cz,c3⟩:=X1w e2
   refine X3h (tm:=inferInstance) O.sat e1 fun ib fj ea ec ap d6=>?_
   have bv:=(Array.getElem?_eq_some_iff.1 e1).1
   refine Pi (fun d _ w'=> ∃(W:Q5) (Q:Array Nat),d=es.toList.countP (fun e=> !Q.contains e.born)∧Stp w σ w' W∧SLe ci W∧W N=none∧w'.heap[N]? =some (.map es ak)∧It W w' ib N es ak Q∧ ∀e∈es.toList,e.born∈Q→ ∀k,e.key=S k→Yz l c.name k=false) _
    ⟨ea, #[],rfl,O.trans ap,⟨ap.le⟩,(ap.old N bv).trans df,(ap.bel.block N bv).trans e1,d6,by simp⟩ ?_
   rintro ch d x dd fb ⟨dc,Q,rfl,bz,an,c9,a2,a1,a0⟩ ee
   have cq:w.heap.size≤ib:=Nat.le_trans O.bel.size ec
   refine X3w a1 a2 e4 (fun c2=>?_) fun e dj bk a7 br cl c7=>?_
   ·refine J7 (vs:=[_]) rfl ?_
    refine Z6 ?_
    have:((Lp l c.name).any fun m=>Yz l c.name m.name)=false:=by
     rw[List.any_eq_false]
     intro m hm
     obtain ⟨e,he,bg⟩:=c3 m.name ((bj.c m.name).2 ⟨m,hm,rfl⟩)
     rw[a0 e he (c2 e he) _ bg];simp
    rw[this] at h
    exact h _ _ bz
   ·refine J7 (vs:=[_,_,_]) rfl ?_
    refine J4 ?_
    have ao:dj.heap[N]? =some (.map es ak):=by
     rw[br.block N (Array.getElem?_eq_some_iff.1 a2).1 (by omega)];exact a2
    have b7:=a1.1
    have af:Stp w σ dj dc:=bz.kp br fun k hk=>by rw[hk];exact ⟨cq,b7⟩
    refine X2Q c7 ao bk (e3.imp fun cb=>Nat.ne_of_lt cb) ?_
    refine J7 (vs:=[_,_]) rfl ?_
    obtain ⟨k,bg,eb⟩:=cz e bk
    have e0:SLe ci dc:=an
    refine X7 af.sat (u.lift an) rfl ?_
    rw[fa]
    refine ld af.sat (z.lift an) rfl ?_
    rw[bg]
    refine X0b af.sat (ht.lift ⟨af.le⟩) ok fun pv cv hv fd fe L cx=>?_
    refine J7 (vs:=[_,_,_]) rfl ?_
    refine J7 (vs:=[_,_,_]) rfl ?_
    refine J7 (vs:=[_,_,_]) rfl ?_
    refine Y7 L.sat (by rfl) rfl (Rep.one cx) fun fh d8 eo X bp=>?_
    have bc:=(af.trans L).trans X
    have R:Yz l c.name k=true→ ∀{w8:World} {σ8:Q5},Stp w σ w8 σ8→K (.int .i64 67) w8:=fun hb w8 σ8 q=>by
     obtain ⟨m,hm,ce⟩:=(bj.c k).1 eb
     have:((Lp l c.name).any fun m=>Yz l c.name m.name)=true:=List.any_eq_true.2 ⟨m,hm,by rw[ce];exact hb⟩
     rw[this] at h
     exact h _ _ q
    have ck:Yz l c.name k=false→ch () d8:=fun hb=>by
     have cw: ∀e':MapEntry,e'.born∈Q.push e.born↔e'.born∈Q∨e'.born=e.born:=fun e'=>by simp
     refine ee _ _ _ ?_ ⟨eo,Q.push e.born,rfl,bc,an.more ⟨fun b o h=>X.le _ _ (L.le _ _ h)⟩,?_,?_,(cl.step L).step X,fun e' de dx k' ca=>?_⟩
     ·refine Q42 (fun x _ hx=>?_) ⟨e,bk,?_,?_⟩
      ·simp only[Bool.not_eq_true',Array.contains_push,Bool.or_eq_false_iff] at hx⊢
       exact hx.1
      ·simpa using a7
      ·simp
     ·have ay:=(Array.getElem?_eq_some_iff.1 ao).1
      rw[X.old N (Nat.lt_of_lt_of_le ay L.bel.size),L.old N ay];exact c9
     ·have ay:=(Array.getElem?_eq_some_iff.1 ao).1
      rw[X.bel.block N (Nat.lt_of_lt_of_le ay L.bel.size),L.bel.block N ay];exact ao
     ·rcases (cw e').1 dx with h1 | h1
      ·exact a0 e' de h1 k' ca
      ·have:e'=e:=by
        have eh:(es.toList.map (·.born)).Nodup:=e3.imp fun cb=>Nat.ne_of_lt cb
        obtain ⟨i,hi,rfl⟩:=List.getElem_of_mem de
        obtain ⟨j,hj,rfl⟩:=List.getElem_of_mem bk
        have h5:(es.toList.map (·.born))[i]'(by simpa using hi)=(es.toList.map (·.born))[j]'(by simpa using hj):=by simpa using h1
        have:=(List.getElem_inj eh).1 h5
        subst this;rfl
       subst this
       rw[bg] at ca
       have:k=k':=by
        have:=ca
        simp at this
        exact this
       rw[←this];exact hb
    unfold Yz at R ck
    cases c1:V3 l c.name k with
    | none=>
     rw[c1] at R
     simp only[↓M2,M2,Mb,reduceIte,Option.isSome_none]
     exact R rfl bc
    | some r=>
     rw[c1] at R ck bp
     simp only[↓M2,M2,Mb,reduceIte,Option.isSome_some]
     refine ld X.sat bp rfl ?_
     (try simp only[↓M2,M2,Mb,reduceIte])
     cases bo:r.2.abs with
     | true=>
      exact Q7 (fun _=>R bo bc) (fun e=>absurd (bo.symm.trans e) (by simp))
     | false=>
      exact Q7 (fun e=>absurd (bo.symm.trans e) (by simp)) (fun _=>ck bo))
end Go.Proofs.YtjdiakhipmggjaaGreatDoor

namespace Go.Emb
open Go.RowKit Go.Hm
variable {P : Program} {w w0 w1 w' w'' : World} {K : Value → World → Prop} {σ σ0 σ1 σ' : Q5}
theorem X3N {t e:TypeId} {n a:Nat} {z:Value} [ta:TA P t n e] [tz:TZ P e 1 a z] [tg:TG P e false] {cs:List Value} {i:Nat} {v:Value} (d:i<n) (b:cs[i]? =some v) (h:K v w):S9 P t (.agg cs.toArray) (I i) w K:=by
 unfold S9
 have c:(0:Int)≤i∧(i:Int)<n:=⟨by omega,by omega⟩
 rw[X9 (v:=v) (w':=w) (by
  simp only[Instr.index,asIntOf,Sem.run_bind,Sem.run_pure,Result.andThen_ok,run_underlying ta.h,c,and_self,if_true,L3 tz,part,Xu tg]
  simp[b])]
 exact h
theorem Q8x {α:Type} {R:Q5→α→List Value→Prop} {B sz:Nat} {e:TypeId} {v:Value} {xs:List α} {a t:TypeId} {cs:List Bool} [ts:TS P a e] (h:V5 B e sz R σ w v xs) (b:K (I xs.length) w):X3 P .len [a] t cs [v] w K:=Q1r (J8.of_acc h) b
theorem Jp {α:Type} {R:Q5→α→List Value→Prop} {B sz:Nat} {e:TypeId} {v:Value} {xs:List α} (h:V5 B e sz R σ w v xs):v.cells= #[v]∧v.oneCell'=true:=by
 obtain ⟨cells,a,_⟩:=h
 rcases a.2 with ⟨rfl,_⟩ | ⟨g,b,c,rfl,_⟩<;>exact ⟨rfl,rfl⟩
end Go.Emb
namespace Go.Proofs.YtjdiakhipmggjaaGreatDoor
open Go.Emb Go.RowKit Go.Kd Go.Hm
variable {w : World} {K : Value → World → Prop} {σ : Q5} {v : Value} {l : List Cla}
theorem X1Z (A:X2 w σ) (z:Glb σ) (h: ∀u w' σ',Stp w σ w' σ'→V5 w.heap.size T.b 8 V0 σ' w' u G5→K u w'):Q1 P F.cF [] w K:=Q6f (by
 unfold Q0y
 refine W0 (cells:= #[S J9,S [], .slice none 0 0, .bool false, .bool false, .bool false, .slice none 0 0, .slice none 0 0]) (by kernel_rfl) ?_
 refine W0 (cells:= #[S Qe,S D0, .bool false]) (by kernel_rfl) ?_
 refine T4 (R:=R7) (sz:=3) A [.agg #[S Qe,S D0, .bool false]] [⟨Qe,D0,false⟩] rfl rfl (by simp;rfl) rfl ⟨⟨rfl,by decide,by decide⟩,trivial⟩ fun N w1 σ1 c m=>?_
 have i:=m
 obtain ⟨y,b,rfl,_⟩:=i
 refine W0 (cells:= #[S L6,S J9, .slice none 0 0, .bool false, .bool false, .bool false, .slice y 1 b, .slice none 0 0]) (by kernel_rfl) ?_
 refine Yx (R:=V0) (sz:=8) c [.agg #[S J9,S [], .slice none 0 0, .bool false, .bool false, .bool false, .slice none 0 0, .slice none 0 0], .agg #[S L6,S J9, .slice none 0 0, .bool false, .bool false, .bool false, .slice y 1 b, .slice none 0 0]]
  [⟨J9,[],[],false,false,false,[],[]⟩,⟨L6,J9,[],false,false,false,[⟨Qe,D0,false⟩],[]⟩] rfl rfl (by simp;exact ⟨rfl,rfl⟩) rfl
  ⟨⟨_,_,_,rfl,Sl.nil,Sl.nil,Sl.nil,by decide,by decide⟩,⟨_,_,_,rfl,Sl.nil,m,Sl.nil,by decide,by decide⟩,trivial⟩ fun J M p k _=>?_
 have q:=z.lift ⟨c.le⟩
 refine Y4 (cs:=U4.map S) p.sat q.flt rfl ?_
 refine E3 6 (fun n a w'=> ∃σ',Stp w σ w' σ'∧V5 w.heap.size T.b 8 V0 σ' w' a ([⟨J9,[],[],false,false,false,[],[]⟩,⟨L6,J9,[],false,false,false,[⟨Qe,D0,false⟩],[]⟩]++(U4.take n).map fun n=>⟨n,L6,[],false,false,true,[],[]⟩)) ⟨σ1,c.trans p,k⟩ fun n a O d E j=>?_
 obtain ⟨L,g,f⟩:=j
 have D:U4.length=6:=rfl
 refine Z0 ?_
 refine Q7 (fun hh=>?_) (fun hh=>?_)
 ·have e:n<6:=by have:=of_decide_eq_true hh;omega
  refine X3N (v:=S (U4[n]'(by omega))) e (by rw[List.getElem?_map,List.getElem?_eq_getElem (by omega)];rfl) ?_
  refine W0 (cells:= #[S (U4[n]'(by omega)),S L6, .slice none 0 0, .bool false, .bool false, .bool true, .slice none 0 0, .slice none 0 0]) (by kernel_rfl) ?_
  have o:(U4[n]'(by omega)).length≤10:=by
   have: ∀x∈U4,x.length≤10:=by decide
   exact this _ (List.getElem_mem _)
  refine Jv (x:=⟨U4[n]'(by omega),L6,[],false,false,true,[],[]⟩) g f ⟨_,_,_,rfl,Sl.nil,Sl.nil,Sl.nil,Nat.le_trans o (by decide),(by decide:L6.length≤U0)⟩ rfl rfl rfl (by simp;omega) (by simp;omega) fun s u H C B t r _=>?_
  refine N1 ?_
  refine Z9 (by omega) e ⟨C,t,?_⟩
  rw[List.take_add_one,List.getElem?_eq_getElem (by omega),List.map_append,←List.append_assoc]
  exact r
 ·have e: ¬n<6:=by have:=of_decide_eq_false hh;omega
  rw[List.take_of_length_le (by omega)] at f
  exact h _ _ _ g f)
end Go.Proofs.YtjdiakhipmggjaaGreatDoor

namespace Go.Hm
open Go.Kd
def O9 {α:Type} (f:α→Int):List α→Nat→Option (Nat×Int)
 | [],_=>none
 | x::r,i=>if f x=0 then O9 f r (i+1) else some (i,f x)
theorem P5 {α:Type} {f:α→Int}: ∀{l:List α} {i:Nat},O9 f l i=none→ ∀x∈l,f x=0
 | [],_,_=>by simp
 | x::r,i,h=>by
  simp only[O9] at h
  split at h
  ·rename_i a
   intro y hy
   rcases List.mem_cons.1 hy with rfl | hy
   ·exact a
   ·exact P5 h y hy
  ·cases h
def Cg (a:List Cla):Option Nat:=(List.range a.length).find? fun i=>(Z2 (a.take i) (Y2 a i)).isSome
def Q4 (l:List Cla):List Cla:=G5++l
def Sy (a:Cla→Int) (l:List Cla):Option (Int×Int):=match O9 a l 0 with
 | some (i,e)=>some (i,e)
 | none=>match Cg (Q4 l) with
  | some i=>some ((i:Int)-8,60)
  | none=>match O9 (fun c=>(D2 (Q4 l) c:Int)) l 0 with
   | some (i,e)=>some (i,e)
   | none=>match l.findIdx? (P7 (Q4 l)) with
    | some i=>some (i,63)
    | none=>match (W1 (Q4 l) 8).find? fun j=> !decide (V7 (Q4 l) ((Q4 l).getD j Cla.zero)=0) with
     | some j=>some ((j:Int)-8,V7 (Q4 l) ((Q4 l).getD j Cla.zero))
     | none=>none
theorem Q5N {s:X0} (h:name s=true):s.length≤32:=by
 cases s with
 | nil=>simp
 | cons c r=>simp only[name,Bool.and_eq_true,decide_eq_true_eq] at h;exact h.1.1
theorem X0j {s:X0} (h:M6 s=true):s.length≤32:=Q5N (Ma (by rw[h,Bool.or_true]))
theorem Q8f {s:X0} (h:D7 s=true):s.length≤32:=by
 cases s with
 | nil=>simp
 | cons c r=>simp only[D7,Bool.and_eq_true] at h;exact Q5N h.1
theorem Ko {a:List Cla} (h:Cg a=none):T6 a:=by
 unfold Cg at h
 rw[List.find?_eq_none] at h
 unfold T6
 rw[List.nodup_iff_pairwise_ne,List.pairwise_iff_getElem]
 intro i j d b f e
 simp only[List.length_map] at d b
 have:=h j (by simp;exact b)
 apply this
 simp only[List.getElem_map] at e
 cases k:Z2 (a.take j) (Y2 a j) with
 | some _=>rfl
 | none=>
  have c:=List.findIdx?_eq_none_iff.1 k a[i] (List.mem_take_iff_getElem.2 ⟨i,by omega,rfl⟩)
  have g:Y2 a j=a[j].name:=by unfold Y2;rw[List.getD_eq_getElem?_getD,List.getElem?_eq_getElem b];rfl
  rw[g] at c
  simp[e] at c
theorem Uf: ∀c∈G5,Qh c∧Nm c∧c.like=[]:=by
 have h: ∀c∈G5,(c.like=[]∧c.methods=[]∧c.fields.length≤1∧c.name.length≤100∧ ∀f∈c.fields,f.name.length≤100∧f.kind.length≤100):=by decide
 intro c d
 obtain ⟨b,a,i,e,g⟩:=h c d
 refine ⟨⟨by rw[b];simp,by omega,by rw[a];simp,by rw[a];simp⟩,⟨e,g,by rw[a];simp⟩,b⟩
theorem X0r: ∀c∈G5,(c.name=J9∧U3 c=[[]])∨(c.name=L6∧U3 c=[J9])∨(c.name∈U4∧U3 c=[L6]):=by decide
theorem Q57 {l:List Cla} (o:T6 (Q4 l)) (v: ∀c∈l,c.name≠[]) (z: ∀c∈l,P7 (Q4 l) c=false):Jd (Q4 l):=by
 have k:lk (Q4 l) []=none:=by
  cases h:lk (Q4 l) [] with
  | none=>rfl
  | some c=>
   obtain ⟨e,hm,_⟩:=V2 h
   rcases List.mem_append.1 hm with hm | hm
   ·have: ∀c∈G5,c.name≠[]:=by decide
    exact absurd e (this c hm)
   ·exact absurd e (v c hm)
 have j:lk (Q4 l) J9=some ⟨J9,[],[],false,false,false,[],[]⟩:=o.lk (c:=⟨J9,[],[],false,false,false,[],[]⟩) (List.mem_append_left _ (by decide))
 have i:lk (Q4 l) L6=some ⟨L6,J9,[],false,false,false,[⟨Qe,D0,false⟩],[]⟩:=o.lk (c:=⟨L6,J9,[],false,false,false,[⟨Qe,D0,false⟩],[]⟩) (List.mem_append_left _ (by decide))
 have p: ∀b,¬Reach (lk (Q4 l)) [] b:=fun b h=>by obtain ⟨c,d⟩:=h.left;rw[k] at d;cases d
 have q: ∀b,Reach (lk (Q4 l)) J9 b→b=J9:=by
  intro b h
  cases h with
  | refl=>rfl
  | step d f g=>
   rw[j] at d;cases d
   simp[U3] at f;subst f
   exact absurd g (p b)
 have t: ∀b,Reach (lk (Q4 l)) L6 b→b=L6∨b=J9:=by
  intro b h
  cases h with
  | refl=>exact .inl rfl
  | step d f g=>
   rw[i] at d;cases d
   simp[U3] at f;subst f
   exact .inr (q b g)
 rintro a ⟨c,d,u,f,g⟩
 obtain ⟨e,hm,_⟩:=V2 d
 rcases List.mem_append.1 hm with hm | hm
 ·rcases X0r c hm with ⟨m,n⟩ | ⟨m,n⟩ | ⟨m,n⟩<;>rw[n] at f<;>simp at f<;>subst f
  ·exact p _ g
  ·have:=q _ g
   rw[←e,m] at this
   exact absurd this (by decide)
  ·have r: ∀x∈U4,x≠L6∧x≠J9:=by decide
   obtain ⟨s,w⟩:=r _ m
   rw[←e] at g
   rcases t _ g with h | h
   ·exact s h
   ·exact w h
 ·have:=z c hm
  unfold P7 at this
  have y:=List.any_eq_false.1 this u f
  apply y
  rw[List.contains_iff_mem,Ut,e];exact g
end Go.Hm
namespace Go.Proofs.YtjdiakhipmggjaaGreatDoor
open Go.Emb Go.RowKit Go.Kd Go.Hm
theorem Fv {s:X0} (h:right s=true):s.length≤38:=by
 simp only[right,Bool.and_eq_true,decide_eq_true_eq] at h
 have e:=Q1m s
 have:(base s).1.length≤32:=by
  have d:=h.2
  have b:=Ma d
  cases a:(base s).1 with
  | nil=>simp
  | cons c r=>
   rw[a] at b
   simp only[name,Bool.and_eq_true,decide_eq_true_eq] at b
   exact b.1.1
 omega
theorem Bj {c:Cla} (h:D6 c=0):Qh c∧Nm c∧c.name≠[]:=by
 unfold D6 at h
 split at h
 ·cases h
 ·rename_i b
  split at h
  ·rename_i i
   simp only[Zo,Bool.or_eq_true,decide_eq_true_eq,not_or,List.any_eq_true,not_exists,not_and] at b
   obtain ⟨⟨⟨n,z⟩,s⟩,w⟩:=b
   simp only[Lv,Bool.and_eq_true] at i
   obtain ⟨⟨⟨⟨⟨⟨⟨⟨r,A⟩,u⟩,y⟩,t⟩,B⟩,v⟩,o⟩,l⟩:=i
   have a:M6 c.name=true:=List.all_eq_true.1 r c.name (by simp)
   have d: ∀m∈c.methods,m.params.length≤32∧m.catches.length≤32∧m.code.length≤200:=fun m b=>by
    have:=n m b
    simp only[We,Bool.or_eq_true,decide_eq_true_eq,not_or] at this
    omega
   refine ⟨⟨by omega,by omega,by omega,fun m b=>by have:=d m b;unfold SmM;omega⟩,⟨by have:=X0j a;omega,fun f k=>?_,fun m b=>?_⟩,fun e=>by rw[e] at a;simp[M6] at a⟩
   ·have:=List.all_eq_true.1 o f k
    simp only[Dv,Bool.and_eq_true] at this
    have j:=Q8f this.1
    have g:=Fv this.2
    omega
   ·have:=List.all_eq_true.1 l m b
    simp only[I3,Bool.and_eq_true,Bool.or_eq_true,decide_eq_true_eq,List.all_eq_true] at this
    obtain ⟨⟨⟨_,j⟩,g⟩,_⟩:=this
    refine ⟨?_,fun p q=>by have:=Fv (j p q);omega⟩
    rcases g with e | e
    ·rw[e];simp
    ·have:=Fv e;omega
  ·cases h
end Go.Proofs.YtjdiakhipmggjaaGreatDoor

namespace Go.Hm
open Go.Kd
theorem Wh {α:Type} {f:α→Int} {xs:List α} {n:Nat} (h:n<xs.length) (a:O9 f xs 0=O9 f (xs.drop n) n):O9 f xs 0=if f xs[n]=0 then O9 f (xs.drop (n+1)) (n+1) else some (n,f xs[n]):=by
 rw[a,List.drop_eq_getElem_cons h];rfl
theorem Q8m {a:List Cla} {n:Nat} (h:n<a.length) (k:X0):Z2 (a.take (n+1)) k=match Z2 (a.take n) k with
 | some i=>some i
 | none=>if a[n].name=k then some n else none:=by
 unfold Z2
 rw[List.take_add_one,List.getElem?_eq_getElem h]
 simp only[Option.toList_some,List.findIdx?_append]
 cases (a.take n).findIdx? fun c=>decide (c.name=k) with
 | some i=>rfl
 | none=>
  simp only[Option.none_or,List.findIdx?_cons,List.findIdx?_nil,List.length_take]
  by_cases e:a[n].name=k
  ·simp[e];omega
  ·simp[e]
end Go.Hm
namespace Go.Proofs.YtjdiakhipmggjaaGreatDoor
open Go.Emb Go.RowKit Go.Kd Go.Hm
variable {w : World} {K : Value → World → Prop} {σ : Q5} {v : Value} {l : List Cla}
theorem Ke {a:List Cla} {n:Nat} (h:n<a.length):Y2 a n=a[n].name:=by unfold Y2;rw[List.getD_eq_getElem?_getD,List.getElem?_eq_getElem h];rfl
set_option maxHeartbeats 1000000 in
theorem X3p {lv:Value} (hs:X2 w σ) (hg:Glb σ) (hl:Sl 8 V0 σ lv l) (hlen:l.length≤1000) (hsm: ∀c∈l,Qh c)
 (h1: ∀i e w' σ',Sy D6 l=some (i,e)→Stp w σ w' σ'→K (.tuple #[.pointer none,I i,I e]) w')
 (h0: ∀v w' σ',Sy D6 l=none→Stp w σ w' σ'→Tab σ' v (Q4 l)→Ok (Q4 l)→T6 (Q4 l)→K (.tuple #[v,I 0,I 0]) w'):Q1 P F.cN [lv] w K:=Q8G (by
 unfold Q2R
 have hgl:G5.length=8:=rfl
 have hal:(Q4 l).length=8+l.length:=by simp[Q4,hgl]
 refine X1Z hs hg fun x0 w1 σ1 hk1 ha1=>?_
 refine Q3h hk1.sat fun r w2 hr hk2 hm2=>?_
 have ha2:=ha1.up hk2
 have hx0:x0.cells= #[x0]∧x0.oneCell'=true:=Jp ha1
 have hx0s: ∃a n c,x0= .slice a n c:=by
  obtain ⟨cells,q1,_⟩:=ha1
  rcases q1.2 with ⟨rfl,_⟩ | ⟨g,cap,cur,rfl,_⟩<;>exact ⟨_,_,_,rfl⟩
 have hx0r:x0.ownBlock≠some r:=fun e=>by have:=(ha1.mem r e).2.1;omega
 obtain ⟨a0,n0,c0,hx0e⟩:=hx0s
 rw[hx0e]
 refine W0 (cells:= #[.slice a0 n0 c0, .map (some r)]) (by kernel_rfl) ?_
 rw[←hx0e]
 refine Ev (cs:=[x0, .map (some r)]) hk2.sat fun bt w3 σ3 hbt hk3 hbm=>?_
 have hS3:=(hk1.trans hk2).trans hk3
 have ha3:=ha2.up hk3
 have hm3:=hm2.up hk3
 have hrw:w.heap.size≤r:=Nat.le_trans hk1.bel.size hr
 have hrl:r<w2.heap.size:=hm2.lt
 have hbtw:w.heap.size≤bt:=M8 hbt (hk1.trans hk2)
 have hrbt:r≠bt:=by omega
 have hx0b:x0.ownBlock≠some bt:=fun e=>by have:=(ha2.mem bt e).2.1;omega
 rw[L7,fa]
 refine Ya hbm rfl ?_
 refine Q8x ha3 ?_
 rw[hgl]
 have hl3:=hl.up hS3
 refine Q8 hl3 ?_
 -- classes, each by itself
 refine U1 l.length (fun n w'=> ∃σ' x,Stp w σ w' σ'∧SLe σ3 σ'∧Y1 σ' w' bt [x, .map (some r)]∧V5 w.heap.size T.b 8 V0 σ' w' x (G5++l.take n)∧C2 σ' w' r []∧x.ownBlock≠some bt∧x.ownBlock≠some r∧O9 D6 l 0=O9 D6 (l.drop n) n)
  ⟨σ3,x0,hS3,SLe.refl _,hbm,by simpa using ha3,hm3,hx0b,hx0r,rfl⟩ fun n w4 d hn hinv=>?_
 obtain ⟨σ4,x,hS4,le4,hb4,ha4,hm4,hxb,hxr,hfb⟩:=hinv
 refine Z0 ?_
 refine Q7 (fun hh=>?_) (fun hh=>?_)
 ·have hn':n<l.length:=by simpa using hh
  refine M7 (hl3.lift le4) hn' fun p cells hl1 hl2 hr1=>?_
  refine Y4 hS4.sat hl1 hl2 ?_
  refine Y7 hS4.sat (by rfl) hl2 (Rep.one hr1) fun q w5 σ5 hk5 hq5=>?_
  have hS5:=hS4.trans hk5
  have hr5:=RCl_lift hr1 ⟨hk5.le⟩
  refine Y4 hk5.sat hq5 hl2 ?_
  have hsmn:=hsm _ (List.getElem_mem hn')
  refine X1B hk5.sat (hg.lift ⟨hS5.le⟩) hr5 hsmn.1 fun w6 σ6 hk6=>?_
  have hS6:=hS5.trans hk6
  have hfb2:=Wh hn' hfb
  refine Jb ?_
  refine Q7 (fun hh2=>?_) (fun hh2=>?_)
  ·have hne: ¬D6 l[n]=0:=by simpa using hh2
   rw[if_neg hne] at hfb2
   refine h1 _ _ _ _ ?_ hS6
   unfold Sy
   rw[hfb2]
  ·have hz:D6 l[n]=0:=by simpa using hh2
   rw[if_pos hz] at hfb2
   have hk56:=hk5.trans hk6
   have hb6:=hb4.up hk56
   have ha6:=ha4.up hk56
   have hm6:=hm4.up hk56
   have hq6:=hq5.up hk6
   have hr6:=RCl_lift hr5 ⟨hk6.le⟩
   have hxs: ∀k,x.ownBlock=some k→k<w6.heap.size:=fun k hk=>(ha6.mem k hk).2.1
   refine U2 hk6.sat ?_
   refine X4 (.pointer (some ⟨bt,0,none⟩)) (fun w hb=>by rw[L7];exact X6 rfl) ?_
   refine X4 (.pointer (some ((⟨bt,0,none⟩:Addr).add 0))) (fun t w hb e=>by rw[e,fa];exact X6 rfl) ?_
   refine X4 x (fun t w hb e=>by rw[e];exact Ya (hb6.step hb.stp) rfl (X6 rfl)) ?_
   refine X4 (.agg cells.toArray) (fun w hb=>Y4 hb.sat hq6 hl2 (X6 rfl)) ?_
   refine Wb (Φ:=fun σ' v=> ∃ds:List Value,v= .agg ds.toArray∧ds.length=8∧V0 σ' l[n] ds) (fun t w hb e=>by
    rw[e];exact X0x hb.sat hr6 hsmn fun lv fv mv w' σ' hk hrc=>Sv hb hk ⟨_,rfl,rfl,hrc⟩) ?_
   refine Wb (w:=w6) (σ:=σ6) (Φ:=fun σ' v=>Sl 8 V0 σ' v [l[n]]) (fun t w hb e=>by
    obtain ⟨σ',hk,ds,rfl,hd1,hd2⟩:=e
    refine T4 (R:=V0) (sz:=8) hk.sat [.agg ds.toArray] [l[n]] rfl rfl (by simpa [Value.cells] using hd1) rfl ⟨by simpa [Value.cells] using hd2,trivial⟩ fun u w2 σ2 hk2 hu=>?_
    exact ⟨hk2.bel,σ2,hk.trans hk2,hu⟩) ?_
   rintro t43 t44 t45 t46 t47 t48 w7 hb7 _ _ e45 _ _ ⟨σ8,hk8,hu8⟩
   subst e45
   have hS8:=hS6.trans hk8
   have hb8:=hb6.up hk8
   have ha8:=ha6.up hk8
   have hm8:=hm6.up hk8
   have hbl:=hb6.lt
   have hml:=hm6.lt
   refine Wi hS8 ha8 hu8 rfl (by simp[hgl];omega) (by simp[hgl];omega) fun x' w9 hn9 hS9 ha9 hat9=>?_
   have hb9:=hb8.nx hn9 hxb
   have hm9:=hm8.nx hn9 hxr
   have hxb':x'.ownBlock≠some bt:=fun e=>by
    rcases hat9 with e2 | e2
    ·exact hxb (e2▸e)
    ·have:=e2 bt e;have:=hk8.bel.size;omega
   have hxr':x'.ownBlock≠some r:=fun e=>by
    rcases hat9 with e2 | e2
    ·exact hxr (e2▸e)
    ·have:=e2 r e;have:=hk8.bel.size;omega
   obtain ⟨hxc1,hxc2⟩:=Jp ha9
   rw[L7,fa]
   refine Zu hb9 (by simp) hxc1 hxc2 fun w10 u10 hb10=>?_
   have hS10:=u10.stp hS9 hbtw hb9.1
   have k10:Kpt (fun k=>k=bt) w9 w10:=Kpt.of_upd u10 rfl
   refine N1 ?_
   refine Y5 hl3.max hn' ⟨σ8,x',hS10,le4.more ⟨fun b o e=>hk8.le _ _ (hk56.le _ _ e)⟩,hb10,?_,hm9.kp k10 hrbt,hxb',hxr',hfb2⟩
   have:=ha9.kp k10 fun k hk e=>hxb' (e▸hk)
   rw[List.take_add_one,List.getElem?_eq_getElem hn',←List.append_assoc]
   exact this
 have hn': ¬n<l.length:=by simpa using hh
 rw[List.take_of_length_le (by omega)] at ha4
 rw[List.drop_eq_nil_of_le (by omega)] at hfb
 have hfb:O9 D6 l 0=none:=hfb
 have hck:=P5 hfb
 have hcf: ∀c∈l,Qh c∧Nm c∧c.name≠[]:=fun c hc=>Bj (hck c hc)
 have hsmall: ∀c∈Q4 l,Qh c:=fun c hc=>by
  rcases List.mem_append.1 hc with hc | hc
  ·exact (Uf c hc).1
  ·exact (hcf c hc).1
 have hnmall: ∀c∈Q4 l,Nm c:=fun c hc=>by
  rcases List.mem_append.1 hc with hc | hc
  ·exact (Uf c hc).2.1
  ·exact (hcf c hc).2.1
 have hlenall:(Q4 l).length≤100000:=by omega
 unfold Sy at h1 h0
 rw[hfb] at h1 h0
 simp only at h1 h0
 -- from now on the classes stay
 obtain ⟨σ5,hS5,hv5,le5,old5⟩:=ha4.keep hS4
 have hb5:Y1 σ5 w4 bt _:=⟨(old5 bt fun e=>hxb e.symm).trans hb4.1,hb4.2⟩
 have hm5:C2 σ5 w4 r []:=⟨(old5 r fun e=>hxr e.symm).trans hm4.1,hm4.2⟩
 obtain ⟨σ6,hS6,hb6,le6,old6⟩:=hb5.keep hS5 hbtw
 have hm6:C2 σ6 w4 r []:=⟨(old6 r hrbt).trans hm5.1,hm5.2⟩
 have hv6:Sl 8 V0 σ6 x (Q4 l):=hv5.le le6
 clear hb5 hb4 ha4
 rw[L7,fa]
 refine ld hS6.sat hb6 rfl ?_
 refine Q8 hv6 ?_
 refine U1 (Q4 l).length (fun n w'=> ∃σ' m,Stp w σ w' σ'∧SLe σ6 σ'∧C2 σ' w' r m∧(∀k,C5 m k=(Z2 ((Q4 l).take n) k).map (fun i:Nat=>I (i:Int)))∧ ∀j,j<n→(Z2 ((Q4 l).take j) (Y2 (Q4 l) j)).isSome=false)
  ⟨σ6,[],hS6,SLe.refl _,hm6,by simp[C5,Z2],by intro j hj;omega⟩ fun n w5 d hn2 hinv=>?_
 obtain ⟨σ7,m,hS7,le7,hm7,hlm,hnd⟩:=hinv
 refine Z0 ?_
 refine Q7 (fun hh2=>?_) (fun hh2=>?_)
 ·have hn3:n<(Q4 l).length:=by simpa using hh2
  refine M7 (hv6.lift le7) hn3 fun p cells hl1 hl2 hr1=>?_
  refine Y4 hS7.sat hl1 hl2 ?_
  refine Y7 hS7.sat (by rfl) hl2 (Rep.one hr1) fun q w6 σ8 hk8 hq8=>?_
  obtain ⟨lv',fv,mv,rfl,f1,f2,f3,f4,f5⟩:=hr1
  have hS8:=hS7.trans hk8
  have le8:SLe σ6 σ8:=le7.more ⟨hk8.le⟩
  have hm8:=hm7.up hk8
  have hb8:=hb6.lift le8
  rw[fa]
  refine ld hk8.sat hq8 rfl ?_
  refine Et ?_
  unfold Ji
  rw[L7,fa]
  refine ld hk8.sat hb8 rfl ?_
  refine Q9K X8 hm8.2 _ ?_
  refine J7 (vs:=[_,_]) rfl ?_
  refine J7 (vs:=[_,_]) rfl ?_
  have hna:=Ke hn3
  have hfd:=hlm (Q4 l)[n].name
  cases hfc:Z2 ((Q4 l).take n) (Q4 l)[n].name with
  | some i=>
   rw[hfc] at hfd
   rw[hfd]
   refine J4 ?_
   have hdup:Cg (Q4 l)=some n:=by
    unfold Cg
    rw[List.find?_range_eq_some]
    refine ⟨by rw[hna,hfc];rfl,by simpa using hn3,fun j hj=>by rw[hnd j hj];rfl⟩
   refine Zi ⟨by omega,by omega⟩ ?_
   refine h1 _ _ _ _ ?_ hS8
   rw[hdup]
   rfl
  | none=>
   rw[hfc] at hfd
   rw[hfd]
   refine Z6 ?_
   refine U2 hk8.sat ?_
   refine X4 (.pointer (some ⟨bt,0,none⟩)) (fun w hb=>by rw[L7];exact X6 rfl) ?_
   refine X4 (.pointer (some ((⟨bt,0,none⟩:Addr).add 1))) (fun t w hb e=>by rw[e,fa];exact X6 rfl) ?_
   refine X4 (.pointer (some (q.add 0))) (fun w hb=>by rw[fa];exact X6 rfl) ?_
   refine X4 (.map (some r)) (fun t w hb e=>by rw[e];exact ld hb.sat hb8 rfl (X6 rfl)) ?_
   refine X4 (S (Q4 l)[n].name) (fun t w hb e=>by rw[e];exact ld hb.sat hq8 rfl (X6 rfl)) ?_
   rintro t71 t72 t74 t73 t75 w9 hb9 _ _ _ rfl rfl
   refine Pp X8 (hm8.up hb9.stp) _ (I n) fun w10 u10 hm10=>?_
   have hS9:=hS8.trans hb9.stp
   have hS10:=u10.stp hS9 hrw hm10.1
   refine N1 ?_
   refine Y5 (by omega) hn3 ⟨σ8,_,hS10,le8,hm10,fun k=>?_,fun j hj=>?_⟩
   ·rw[Q4w,Q8m hn3 k]
    by_cases e:(Q4 l)[n].name=k
    ·subst e
     rw[if_pos rfl,hfc];simp
    ·rw[if_neg e,hlm k]
     cases Z2 ((Q4 l).take n) k with
     | some i=>rfl
     | none=>simp[e]
   ·by_cases e:j=n
    ·subst e;rw[hna,hfc];rfl
    ·exact hnd j (by omega)
 have hn3: ¬n<(Q4 l).length:=by simpa using hh2
 have hne:n=(Q4 l).length:=by omega
 subst hne
 rw[List.take_of_length_le (Nat.le_refl _)] at hlm
 have hdup:Cg (Q4 l)=none:=by
  unfold Cg
  rw[List.find?_eq_none]
  intro j hj
  rw[hnd j (by simpa using hj)];simp
 rw[hdup] at h1 h0
 simp only at h1 h0
 have hown:=Ko hdup
 obtain ⟨σ8,hS8,hm8,le8,_⟩:=hm7.keep hS7 hrw
 have le68:SLe σ6 σ8:=le7.more ⟨le8⟩
 have ht8:Tab σ8 (.pointer (some ⟨bt,0,none⟩)) (Q4 l):=⟨⟨bt,0,none⟩,x,r,m,rfl,hb6.lift le68,hv6.lift le68,hm8,hlm⟩
 have hb8:=hb6.lift le68
 have hv8:=hv6.lift le68
 clear hm7 hm8 hh2 hn3 hn2 hh hn' hn hnd
 have hdr:(Q4 l).drop 8=l:=by simp[Q4,hgl]
 rw[L7,fa]
 refine ld hS8.sat hb8 rfl ?_
 refine Es hv8 (some (I (8:Nat))) none 8 (Q4 l).length (.inr rfl) (.inl ⟨rfl,rfl⟩) (by omega) (Nat.le_refl _) fun v9 hv9=>?_
 rw[hdr,List.take_of_length_le (by omega)] at hv9
 refine Q8 hv9 ?_
 refine U1 l.length (fun n w'=> ∃σ',Stp w σ w' σ'∧SLe σ8 σ'∧O9 (fun c=>(D2 (Q4 l) c:Int)) l 0=O9 (fun c=>(D2 (Q4 l) c:Int)) (l.drop n) n) ⟨σ8,hS8,SLe.refl _,rfl⟩ fun n w6 d hn hinv=>?_
 obtain ⟨σ9,hS9,le9,hfu⟩:=hinv
 refine Z0 ?_
 refine Q7 (fun hh=>?_) (fun hh=>?_)
 ·have hn':n<l.length:=by simpa using hh
  refine M7 (hv9.lift le9) hn' fun p cells hl1 hl2 hr1=>?_
  refine Y4 hS9.sat hl1 hl2 ?_
  refine Y7 hS9.sat (by rfl) hl2 (Rep.one hr1) fun q w7 σ10 hk10 hq10=>?_
  have hS10:=hS9.trans hk10
  refine Y4 hk10.sat hq10 hl2 ?_
  have hfu2:=Wh hn' hfu
  refine X0M hk10.sat (ht8.lift (le9.more ⟨hk10.le⟩)) (RCl_lift hr1 ⟨hk10.le⟩) fun w8 σ11 hk11=>?_
  refine Jb ?_
  refine Q7 (fun hh2=>?_) (fun hh2=>?_)
  ·have hne: ¬(D2 (Q4 l) l[n]:Int)=0:=by simpa using hh2
   rw[if_neg hne] at hfu2
   refine h1 _ _ _ _ ?_ (hS10.trans hk11)
   rw[hfu2]
  ·have hz:(D2 (Q4 l) l[n]:Int)=0:=by simpa using hh2
   rw[if_pos hz] at hfu2
   refine N1 ?_
   exact Y5 hl3.max hn' ⟨σ11,hS10.trans hk11,le9.more ⟨fun b o e=>hk11.le _ _ (hk10.le _ _ e)⟩,hfu2⟩
 have hn': ¬n<l.length:=by simpa using hh
 rw[List.drop_eq_nil_of_le (by omega)] at hfu
 have hfu:O9 (fun c=>(D2 (Q4 l) c:Int)) l 0=none:=hfu
 rw[hfu] at h1 h0
 simp only at h1 h0
 have hup:=P5 hfu
 have ht9:=ht8.lift le9
 clear hh hn' hn
 rw[L7,fa]
 refine ld hS9.sat (hb8.lift le9) rfl ?_
 refine Es (hv8.lift le9) (some (I (8:Nat))) none 8 (Q4 l).length (.inr rfl) (.inl ⟨rfl,rfl⟩) (by omega) (Nat.le_refl _) fun v10 hv10=>?_
 rw[hdr,List.take_of_length_le (by omega)] at hv10
 rw[Qa]
 refine Fo (P7 (Q4 l)) hS9.sat hv10 (fun c cs w7 K hc hs7 hr hlen hK=>Z7 (first:=[.pointer (some ⟨bt,0,none⟩)]) (caps:=[]) ?_) fun w7 hb7=>?_
 ·exact X2a hs7 ht9 hlenall hsmall hr fun w' σ' hk=>hK w' hk.bel
 have hS10:=hS9.trans (Stp.of_below hS9.sat hb7)
 refine K8 ?_
 rw[T7]
 cases hlo:l.findIdx? (P7 (Q4 l)) with
 | some i=>
  refine J4 ?_
  refine h1 _ _ _ _ ?_ hS10
  rw[hlo];rfl
 | none=>
  rw[hlo] at h1 h0
  simp only at h1 h0
  refine Z6 ?_
  have hlo': ∀c∈l,P7 (Q4 l) c=false:=fun c hc=>List.findIdx?_eq_none_iff.1 hlo c hc
  have hacy:=Q57 hown (fun c hc=>(hcf c hc).2.2) hlo'
  have hfull:X0n (Q4 l):=fun c hc u hu=>by
   rcases List.mem_append.1 hc with hc | hc
   ·rw[(Uf c hc).2.2] at hu;simp at hu
   ·have:=hup c hc
    unfold D2 at this
    split at this
    ·simp at this
    ·split at this
     ·simp at this
     ·rename_i hnb
      have hnb:c.like.any (R2 (Q4 l))=false:=eq_false_of_ne_true hnb
      have:=List.any_eq_false.1 hnb u hu
      unfold R2 at this
      cases hd:lk (Q4 l) u with
      | none=>rw[hd] at this;simp at this
      | some d=>exact ⟨d,rfl⟩
  have hok:Ok (Q4 l):=⟨hacy,hlenall,hsmall,hfull,hnmall⟩
  refine X1x (frm:=8) hS10.sat (ht9.lift ⟨(Stp.of_below hS9.sat hb7).le⟩) hacy hown hlenall hsmall (by omega) (by omega) fun v11 w8 σ11 hk11 hv11 hol hoi=>?_
  have hS11:=hS10.trans hk11
  have ht11:=ht9.lift ⟨fun b o e=>hk11.le _ _ e⟩
  refine Q8 hv11 ?_
  have hil:(ints (W1 (Q4 l) 8)).length=(W1 (Q4 l) 8).length:=by simp
  rw[hil]
  refine U1 (W1 (Q4 l) 8).length (fun n w'=> ∃σ',Stp w σ w' σ'∧SLe σ11 σ'∧ ∀j∈(W1 (Q4 l) 8).take n,V7 (Q4 l) ((Q4 l).getD j Cla.zero)=0) ⟨σ11,hS11,SLe.refl _,by simp⟩ fun n w9 d hn hinv=>?_
  obtain ⟨σ12,hS12,le12,hno⟩:=hinv
  refine Z0 ?_
  refine Q7 (fun hh=>?_) (fun hh=>?_)
  ·have hn':n<(W1 (Q4 l) 8).length:=by simpa using hh
   refine M7 (hv11.lift le12) (by rw[hil];exact hn') fun p cells hl1 hl2 hr1=>?_
   obtain ⟨rfl,_⟩:=hr1
   refine X7 hS12.sat hl1 rfl ?_
   simp only[List.getElem_map]
   rw[L7,fa]
   have le8x:SLe σ8 σ12:=le9.more (SLe.more ⟨hk11.le⟩ le12)
   refine ld hS12.sat (hb8.lift le8x) rfl ?_
   have hji:=hoi _ (List.getElem_mem hn')
   refine M7 (hv8.lift le8x) hji fun p2 cells hl1 hl2 hr1=>?_
   refine Y4 hS12.sat hl1 hl2 ?_
   have hat:(Q4 l).getD (W1 (Q4 l) 8)[n] Cla.zero=(Q4 l)[(W1 (Q4 l) 8)[n]]:=by rw[List.getD_eq_getElem?_getD,List.getElem?_eq_getElem hji];rfl
   have hmem:=List.getElem_mem hji
   refine Q9c hS12.sat (ht11.lift le12) hok hr1 (hsmall _ hmem) (hnmall _ hmem) fun w10 σ13 hk13=>?_
   have hS13:=hS12.trans hk13
   refine Jb ?_
   refine Q7 (fun hh2=>?_) (fun hh2=>?_)
   ·have hne: ¬V7 (Q4 l) (Q4 l)[(W1 (Q4 l) 8)[n]]=0:=by simpa using hh2
    refine Zi ⟨by omega,by omega⟩ ?_
    have hfind:(W1 (Q4 l) 8).find? (fun j=> !decide (V7 (Q4 l) ((Q4 l).getD j Cla.zero)=0))=some (W1 (Q4 l) 8)[n]:=by
     rw[List.find?_eq_some_iff_getElem]
     refine ⟨by rw[hat];simpa using hne,n,hn',rfl,fun j hj=>?_⟩
     have:=hno _ (List.mem_take_iff_getElem.2 ⟨j,by omega,rfl⟩)
     rw[this];simp
    have:=h1 (((W1 (Q4 l) 8)[n]:Int)-8) (V7 (Q4 l) (Q4 l)[(W1 (Q4 l) 8)[n]]) w10 σ13 (by rw[hfind];simp only[hat]) hS13
    exact this
   ·have hz:V7 (Q4 l) (Q4 l)[(W1 (Q4 l) 8)[n]]=0:=by simpa using hh2
    refine N1 ?_
    refine Y5 (by omega) hn' ⟨σ13,hS13,le12.more ⟨hk13.le⟩,fun j hj=>?_⟩
    rw[List.take_add_one,List.getElem?_eq_getElem hn'] at hj
    rcases List.mem_append.1 hj with hj | hj
    ·exact hno j hj
    ·simp at hj;subst hj;rw[hat];exact hz
  ·have hn': ¬n<(W1 (Q4 l) 8).length:=by simpa using hh
   rw[List.take_of_length_le (by omega)] at hno
   have hfind:(W1 (Q4 l) 8).find? (fun j=> !decide (V7 (Q4 l) ((Q4 l).getD j Cla.zero)=0))=none:=by
    rw[List.find?_eq_none]
    intro j hj
    rw[hno j hj];simp
   rw[hfind] at h0
   exact h0 _ _ _ rfl hS12 (ht11.lift le12) hok hown)
end Go.Proofs.YtjdiakhipmggjaaGreatDoor

namespace Go.Hm
open Go.Kd
def Q9L (m:Hm.Met):Bool:= !(decide (50<m.code.length)||decide (8<m.params.length)||decide (8<m.catches.length))
def X0T (c:Cla):Bool:= !(decide (6<c.like.length)||decide (6<c.fields.length)||decide (6<c.methods.length))&&c.methods.all Q9L
def X09 (l:List Cla):Bool:= !decide (12<l.length)&&l.all X0T
theorem Q92 {l:List Cla} (h:X09 l=true):l.length≤12∧ ∀c∈l,X0T c=true:=by
 simp only[X09,Bool.and_eq_true,Bool.not_eq_true',decide_eq_false_iff_not,List.all_eq_true] at h
 exact ⟨by omega,h.2⟩
theorem X2M {l:List Cla} (h:X09 l=true): ∀c∈l,Qh c:=by
 intro c e
 have:=(Q92 h).2 c e
 simp only[X0T,Q9L,Bool.and_eq_true,Bool.not_eq_true',Bool.or_eq_false_iff,decide_eq_false_iff_not,List.all_eq_true] at this
 obtain ⟨⟨⟨a,b⟩,g⟩,d⟩:=this
 refine ⟨by omega,by omega,by omega,fun m f=>?_⟩
 obtain ⟨⟨p,q⟩,r⟩:=d m f
 exact ⟨by omega,by omega,by omega⟩
end Go.Hm
namespace Go.Proofs.YtjdiakhipmggjaaGreatDoor
open Go.Emb Go.RowKit Go.Kd Go.Hm
variable {w : World} {K : Value → World → Prop} {σ : Q5} {v : Value} {l : List Cla}
end Go.Proofs.YtjdiakhipmggjaaGreatDoor

namespace Go.Proofs.YtjdiakhipmggjaaGreatDoor
open Go.Emb Go.RowKit Go.Kd Go.Hm
variable {w : World} {K : Value → World → Prop} {σ : Q5} {v : Value} {l : List Cla}
theorem X3k:P.underlying T.r=some (.pointer T.z):=by kernel_rfl
theorem Q5B (d:Nat) (o:Option Addr):(Op.equalIn (d+1) T.r (.pointer o) (.pointer none)).run P w= .ok o.isNone w:=by
 cases o<;>simp[Op.equalIn,run_underlying X3k]
theorem X2N {a:Addr} {b c:Operand} (h:K (.bool false) w):Q3 P .eql T.r b c (.pointer (some a)) (.pointer none) w K:=by
 have e:(Op.equal T.r (.pointer (some a)) (.pointer none)).run P w= .ok false w:=Q5B 9999 _
 unfold Q3
 rw[X9 (v:= .bool false) (w':=w) (by simp[eqGuard,Go.binOp,e])]
 exact h
end Go.Proofs.YtjdiakhipmggjaaGreatDoor

namespace Go.Hm
open Go.Kd
theorem Q5c {l:List Cla} {frm:Nat}: ∀(f:Nat) (a:List Nat) (i:Nat),(∀y∈a,y∈T9 l frm f a i)∧(0<f→frm≤i→i∈T9 l frm f a i):=by
 intro f
 induction f with
 | zero=>intro a i;exact ⟨fun y b=>b,fun h=>by omega⟩
 | succ f g=>
  intro a i
  have c: ∀(d:List X0) (o:List Nat),∀y∈o,y∈d.foldl (fun a n=>T9 l frm f a ((Z2 l n).getD 0)) o:=by
   intro d
   induction d with
   | nil=>intro o y b;exact b
   | cons u r e=>intro o y b;exact e _ y ((g o _).1 y b)
  simp only[T9]
  split
  ·exact ⟨fun y b=>b,fun _ h=>by omega⟩
  ·split
   ·rename_i h;exact ⟨fun y b=>b,fun _ _=>h⟩
   ·exact ⟨fun y b=>List.mem_append_left _ (c _ _ y b),fun _ _=>by simp⟩
theorem Q9F {l:List Cla} {frm i:Nat} (e:frm≤i) (f:i<l.length):i∈W1 l frm:=by
 unfold W1
 have key: ∀(is b:List Nat),(∀y∈b,y∈is.foldl (fun b i=>T9 l frm (l.length+1) b i) b)∧(i∈is→i∈is.foldl (fun b i=>T9 l frm (l.length+1) b i) b):=by
  intro is
  induction is with
  | nil=>intro b;exact ⟨fun y d=>d,fun h=>by simp at h⟩
  | cons a r c=>
   intro b
   refine ⟨fun y d=>(c _).1 y ((Q5c _ _ _).1 y d),fun h=>?_⟩
   rcases List.mem_cons.1 h with rfl | h
   ·exact (c _).1 _ ((Q5c _ _ _).2 (by omega) e)
   ·exact (c _).2 h
 refine (key _ _).2 ?_
 rw[List.mem_drop_iff_getElem]
 exact ⟨i-frm,by simp;omega,by simp;omega⟩
theorem Q8R {s:X0} (h:M6 s=true):name s=true:=Ma (by rw[h,Bool.or_true])
theorem Q5Y {a:X0} (h:name a=true):arr a=false:=by
 cases d:arr a with
 | false=>rfl
 | true=>
  exfalso
  have e:2≤a.length∧a.drop (a.length-2)=[91,93]:=by simpa [arr] using d
  have b:(93:UInt8)∈a:=List.mem_of_mem_drop (i:=a.length-2) (by rw[e.2];simp)
  cases a with
  | nil=>simp at b
  | cons c r=>
   simp only[name,Bool.and_eq_true,List.all_eq_true] at h
   have:=h.2 _ b
   revert this;decide
end Go.Hm
namespace Go.Proofs.YtjdiakhipmggjaaGreatDoor
open Go.Emb Go.RowKit Go.Kd Go.Hm
theorem Q9E {a:X0} (h:name a=true):base a=(a,0):=by rw[Xj,Q5Y h];simp
theorem Nh {s:X0} (h:M6 s=true):arr s=false∧base s=(s,0)∧right s=true∧plain s=false∧elem s=[]∧s≠H8∧s≠[]:=by
 have b:=Hm.Q8R h
 have d:=Q5Y b
 have a:=Q9E b
 refine ⟨d,a,?_,?_,by simp[elem,d],?_,?_⟩
 ·simp[right,a,h]
 ·cases c:plain s with
  | false=>rfl
  | true=>
   simp only[plain,Bool.or_eq_true,decide_eq_true_eq] at c
   rcases c with (e | e) | e<;>subst e<;>revert h<;>decide
 ·rintro rfl;revert h;decide
 ·rintro rfl;revert h;decide
structure Wf (l : List Cla) : Prop where
  ck : ∀ c ∈ l, D6 c = 0
  own : T6 (Q4 l)
  acy : Jd (Q4 l)
  up : ∀ c ∈ l, D2 (Q4 l) c = 0
  mem : ∀ c ∈ l, V7 (Q4 l) c = 0
theorem X3n {l:List Cla} (h:Sy D6 l=none):Wf l:=by
 unfold Sy at h
 split at h
 ·cases h
 rename_i p
 split at h
 ·cases h
 rename_i o
 split at h
 ·cases h
 rename_i k
 split at h
 ·cases h
 rename_i n
 split at h
 ·cases h
 rename_i j
 have d:=P5 p
 have a:=Ko o
 have g: ∀c∈l,P7 (Q4 l) c=false:=fun c b=>List.findIdx?_eq_none_iff.1 n c b
 refine ⟨d,a,Q57 a (fun c b=>(Bj (d c b)).2.2) g,fun c b=>by have:=P5 k c b;omega,fun c b=>?_⟩
 obtain ⟨i,m,rfl⟩:=List.getElem_of_mem b
 have f:G5.length=8:=rfl
 have:=List.find?_eq_none.1 j (8+i) (Q9F (by omega) (by simp[Q4,f];omega))
 have e:(Q4 l).getD (8+i) Cla.zero=l[i]:=by
  rw[List.getD_eq_getElem?_getD,Q4,List.getElem?_append_right (by omega),f,show 8+i-8=i by omega,List.getElem?_eq_getElem m];rfl
 rw[e] at this
 simpa using this
section
variable {l : List Cla} (wf : Wf l)
include wf
theorem Wf.names {c:Cla} (hc:c∈Q4 l):M6 c.name=true:=by
 rcases List.mem_append.1 hc with hc | hc
 ·have: ∀c∈G5,M6 c.name=true:=by decide+kernel
  exact this c hc
 ·have:=wf.ck c hc
  unfold D6 at this
  split at this
  ·cases this
  ·split at this
   ·rename_i a
    simp only[Lv,Bool.and_eq_true] at a
    obtain ⟨⟨⟨⟨⟨⟨⟨⟨b,_⟩,_⟩,_⟩,_⟩,_⟩,_⟩,_⟩,_⟩:=a
    exact List.all_eq_true.1 b c.name (by simp)
   ·cases this
theorem Wf.lkn {n:X0} {c:Cla} (h:lk (Q4 l) n=some c):M6 n=true:=by
 obtain ⟨e,a,_⟩:=V2 h
 rw[←e];exact wf.names a
theorem Wf.root:lk (Q4 l) J9=some ⟨J9,[],[],false,false,false,[],[]⟩:=wf.own.lk (c:=⟨J9,[],[],false,false,false,[],[]⟩) (List.mem_append_left _ (by decide))
theorem Wf.fault:lk (Q4 l) L6=some ⟨L6,J9,[],false,false,false,[⟨Qe,D0,false⟩],[]⟩:=wf.own.lk (c:=⟨L6,J9,[],false,false,false,[⟨Qe,D0,false⟩],[]⟩) (List.mem_append_left _ (by decide))
theorem Wf.super {c:Cla} (hc:c∈Q4 l):c.name=J9∨ ∃d,lk (Q4 l) c.super=some d:=by
 rcases List.mem_append.1 hc with hc | hc
 ·have: ∀c∈G5,c.name=J9∨c.super=J9∨c.super=L6:=by decide
  rcases this c hc with h | h | h
  ·exact .inl h
  ·exact .inr ⟨_,h▸wf.root⟩
  ·exact .inr ⟨_,h▸wf.fault⟩
 ·right
  have:=wf.up c hc
  unfold D2 at this
  split at this
  ·cases this
  ·rename_i h
   unfold Qt at h
   cases a:lk (Q4 l) c.super with
   | none=>rw[a] at h;simp at h
   | some d=>exact ⟨d,rfl⟩
theorem Wf.toRoot: ∀(k:Nat) {n:X0} {c:Cla},K7 (Q4 l) n<k→lk (Q4 l) n=some c→Hm.Reach (lk (Q4 l)) n J9:=by
 intro k
 induction k with
 | zero=>intro n c h;omega
 | succ k g=>
  intro n c j a
  obtain ⟨e,i,_⟩:=V2 a
  rcases wf.super i with h | ⟨d,f⟩
  ·rw[←e,h];exact .refl wf.root
  ·have b:c.super∈U3 c:=by simp[U3]
   exact .step a b (g (by have:=Xw wf.acy a b f;omega) f)
theorem Wf.atRoot {b:X0} (h:Hm.Reach (lk (Q4 l)) J9 b):b=J9:=by
 cases h with
 | refl=>rfl
 | step a c e=>
  rw[wf.root] at a;cases a
  simp[U3] at c;subst c
  obtain ⟨d,f⟩:=e.left
  exact absurd (wf.lkn f) (by decide)
theorem Wf.kind {n:X0} {c:Cla} (h:lk (Q4 l) n=some c):N3 (Q4 l) n=true:=by
 obtain ⟨i,b,a,d,f,g,e⟩:=Nh (wf.lkn h)
 have:Q0v (Q4 l) n=true:=by rw[Q1o,h];rfl
 simp[N3,a,b,this]
theorem Wf.sub_iff {a b:X0}:Xx (Q4 l) a b=true↔N3 (Q4 l) a=true∧N3 (Q4 l) b=true∧(a=b∨(plain a=false∧plain b=false∧(a=H8∨(elem a≠[]∧b=J9)∨(lk (Q4 l) a≠none∧Hm.Reach (lk (Q4 l)) a b)))):=by
 unfold Xx
 cases m:N3 (Q4 l) a<;>cases k:N3 (Q4 l) b<;>simp
 by_cases e:a=b
 ·simp[e]
 cases pa:plain a<;>cases j:plain b<;>simp[e]
 by_cases f:a=H8
 ·simp[f]
 simp only[f,false_or]
 by_cases d:elem a=[]
 ·simp only[d,if_true,not_true_eq_false,false_and,false_or,Ut]
  constructor
  ·intro h;obtain ⟨c,i⟩:=h.left;exact ⟨by rw[i];simp,h⟩
  ·intro h;exact h.2
 ·simp only[d,if_false,not_false_eq_true,true_and]
  constructor
  ·exact .inl
  ·rintro (h | ⟨h,_⟩)
   ·exact h
   ·cases g:lk (Q4 l) a with
    | none=>exact absurd g h
    | some c=>exact absurd (Nh (wf.lkn g)).2.2.2.2.1 d
theorem Wf.sub_class {a b:X0} {c:Cla} (e:lk (Q4 l) a=some c):Xx (Q4 l) a b=true↔Hm.Reach (lk (Q4 l)) a b:=by
 obtain ⟨o,n,k,i,g,j,m⟩:=Nh (wf.lkn e)
 rw[wf.sub_iff]
 constructor
 ·rintro ⟨_,_,rfl | ⟨_,_,h | ⟨h,_⟩ | ⟨_,h⟩⟩⟩
  ·exact .refl e
  ·exact absurd h j
  ·exact absurd g h
  ·exact h
 ·intro h
  obtain ⟨d,f⟩:=h.right
  exact ⟨wf.kind e,wf.kind f, .inr ⟨i,(Nh (wf.lkn f)).2.2.2.1, .inr (.inr ⟨by rw[e];simp,h⟩)⟩⟩
end
end Go.Proofs.YtjdiakhipmggjaaGreatDoor

namespace Go.Proofs.YtjdiakhipmggjaaGreatDoor
open Go.Emb Go.RowKit Go.Kd Go.Hm
theorem Q6S {L:List Cla} (i:Jd L): ∀(k:Nat) {n:X0} {c:Cla},K7 L n<k→c∈chain L n→Hm.Reach (lk L) n c.name∧lk L c.name=some c:=by
 intro k
 induction k with
 | zero=>intro n c h;omega
 | succ k j=>
  intro n c p hc
  rw[T8 i] at hc
  cases a:lk L n with
  | none=>rw[a] at hc;simp at hc
  | some d=>
   rw[a] at hc
   have b:=(V2 a).1
   rcases List.mem_cons.1 hc with rfl | hc
   ·rw[b];exact ⟨.refl a,a⟩
   ·cases f:lk L d.super with
    | none=>rw[Yj f] at hc;simp at hc
    | some e=>
     have g:d.super∈U3 d:=by simp[U3]
     obtain ⟨o,m⟩:=j (by have:=Xw i a g f;omega) hc
     exact ⟨.step a g o,m⟩
theorem X0h {l:List Cla} {a:X0} (h:N3 (Q4 l) a=true) (g:plain a=false):a=H8∨elem a≠[]∨ ∃c,lk (Q4 l) a=some c:=by
 simp only[N3,Bool.or_eq_true,decide_eq_true_eq,Bool.and_eq_true] at h
 rcases h with h | ⟨e,h⟩
 ·exact .inl h
 ·by_cases d:elem a=[]
  ·right;right
   have b:arr a=false:=by
    cases b:arr a with
    | false=>rfl
    | true=>
     have i:=Q48 b e
     have:elem a=Kd.cutA a:=by simp[elem,b,e]
     rw[this] at d
     have:=I9 b
     rw[d] at this;simp at this;omega
   have f:base a=(a,0):=by rw[Xj,b];simp
   rw[f,g] at h
   have h:Q0v (Q4 l) a=true:=by simpa using h
   rw[Q1o] at h
   exact Option.isSome_iff_exists.1 h
  ·exact .inr (.inl d)
section
variable {l : List Cla} (wf : Wf l)
include wf
theorem Wf.kRoot:N3 (Q4 l) J9=true:=wf.kind wf.root
theorem Wf.lkArr {a:X0} {c:Cla} (h:lk (Q4 l) a=some c):elem a=[]:=(Nh (wf.lkn h)).2.2.2.2.1
theorem Wf.none_null:lk (Q4 l) H8=none:=by
 cases h:lk (Q4 l) H8 with
 | none=>rfl
 | some c=>exact absurd (wf.lkn h) (by decide)
theorem Wf.sub_root {a:X0} (h:N3 (Q4 l) a=true) (b:plain a=false):Xx (Q4 l) a J9=true:=by
 rw[wf.sub_iff]
 refine ⟨h,wf.kRoot, .inr ⟨b,by decide,?_⟩⟩
 rcases X0h h b with e | e | ⟨c,e⟩
 ·exact .inl e
 ·exact .inr (.inl ⟨e,rfl⟩)
 ·exact .inr (.inr ⟨by rw[e];simp,wf.toRoot _ (Nat.lt_succ_self _) e⟩)
theorem Wf.sub_refl {a:X0} (h:N3 (Q4 l) a=true):Xx (Q4 l) a a=true:=wf.sub_iff.2 ⟨h,h, .inl rfl⟩
end
end Go.Proofs.YtjdiakhipmggjaaGreatDoor

namespace Go.Proofs.YtjdiakhipmggjaaGreatDoor
open Go.Emb Go.RowKit Go.Kd Go.Hm
theorem Q6F {c:Cla} (h:D6 c=0):M6 c.name=true∧M6 c.super=true∧(c.iface=true→c.super=J9∧c.fields=[]∧c.abs=true∧ ∀m∈c.methods,m.abs=true)∧(∀m∈c.methods,m.abs=true→c.abs=true)∧c.fields.all Dv=true∧c.methods.all I3=true∧C3 Fld.name [] c.fields=true∧C3 Hm.Met.name [] c.methods=true:=by
 unfold D6 at h
 split at h
 ·cases h
 split at h
 ·rename_i j
  simp only[Lv,Bool.and_eq_true] at j
  obtain ⟨⟨⟨⟨⟨⟨⟨⟨k,v⟩,u⟩,i⟩,f⟩,t⟩,n⟩,r⟩,p⟩:=j
  refine ⟨List.all_eq_true.1 k c.name (by simp),List.all_eq_true.1 k c.super (by simp),fun q=>?_,fun m g s=>?_,r,p,t,n⟩
  ·rw[q] at i
   simp only[Bool.true_and,Bool.not_eq_true',Bool.or_eq_false_iff,Bool.not_eq_false',decide_eq_true_eq] at i
   obtain ⟨⟨⟨a,b⟩,d⟩,e⟩:=i
   refine ⟨b,d,a,fun m g=>?_⟩
   have:=List.any_eq_false.1 e m g
   simpa using this
  ·simp only[Bool.not_eq_true',Bool.or_eq_false_iff] at f
   obtain ⟨_,f⟩:=f
   have o:c.methods.any (·.abs)=true:=List.any_eq_true.2 ⟨m,g,s⟩
   rw[o] at f
   simpa using f
 ·cases h
theorem Q7N {l:List Cla} {c:Cla} (b:c∈Q4 l) (a:c.iface=true):c∈l:=by
 rcases List.mem_append.1 b with h | h
 ·have: ∀c∈G5,c.iface=false:=by decide
  rw[this c h] at a;cases a
 ·exact h
section
variable {l : List Cla} (wf : Wf l)
include wf
theorem Wf.likes {c:Cla} (f:c∈Q4 l) {u:X0} (b:u∈c.like): ∃d,lk (Q4 l) u=some d∧d.iface=true:=by
 rcases List.mem_append.1 f with h | h
 ·rw[(Uf c h).2.2] at b;simp at b
 ·have:=wf.up c h
  unfold D2 at this
  split at this
  ·cases this
  ·split at this
   ·cases this
   ·rename_i a
    have a:=List.any_eq_false.1 (eq_false_of_ne_true a) u b
    unfold R2 at a
    cases e:lk (Q4 l) u with
    | none=>rw[e] at a;simp at a
    | some d=>rw[e] at a;exact ⟨d,rfl,by simpa using a⟩
theorem Wf.above_iface {u b:X0} (h:Hm.Reach (lk (Q4 l)) u b): ∀d,lk (Q4 l) u=some d→d.iface=true→b=J9∨ ∃e,lk (Q4 l) b=some e∧e.iface=true:=by
 induction h with
 | refl h=>intro d c a;exact .inr ⟨d,c,a⟩
 | step i hu j m=>
  intro d c a
  rw[i] at c;cases c
  obtain ⟨e,k,_⟩:=V2 i
  rcases List.mem_cons.1 hu with rfl | hu
  ·rw[((Q6F (wf.ck _ (Q7N k a))).2.2.1 a).1] at j
   exact .inl (wf.atRoot j)
  ·obtain ⟨f,n,g⟩:=wf.likes k hu
   exact m f n g
theorem Wf.by_chain {n b:X0} (h:Hm.Reach (lk (Q4 l)) n b): ∀e,lk (Q4 l) b=some e→e.iface=false→b≠J9→e∈chain (Q4 l) n:=by
 induction h with
 | refl h=>
  intro e c _ _
  rw[T8 wf.acy,c];simp
 | step k hu q r=>
  intro e c j m
  obtain ⟨en,o,_⟩:=V2 k
  rcases List.mem_cons.1 hu with rfl | hu
  ·rw[T8 wf.acy,k]
   exact List.mem_cons_of_mem _ (r e c j m)
  ·obtain ⟨f,p,d⟩:=wf.likes o hu
   rcases wf.above_iface q f p d with h | ⟨g,i,a⟩
   ·exact absurd h m
   ·rw[c] at i;cases i;rw[j] at a;cases a
theorem Wf.chain_tail: ∀(k:Nat) {n:X0} {c:Cla},K7 (Q4 l) n<k→c∈chain (Q4 l) n→ ∃a,chain (Q4 l) n=a++chain (Q4 l) c.name:=by
 intro k
 induction k with
 | zero=>intro n c h;omega
 | succ k i=>
  intro n c o hc
  rw[T8 wf.acy] at hc
  cases b:lk (Q4 l) n with
  | none=>rw[b] at hc;simp at hc
  | some d=>
   rw[b] at hc
   have f:=(V2 b).1
   rcases List.mem_cons.1 hc with rfl | hc
   ·exact ⟨[],by rw[f];rfl⟩
   ·cases g:lk (Q4 l) d.super with
    | none=>rw[Yj g] at hc;simp at hc
    | some e=>
     have j:d.super∈U3 d:=by simp[U3]
     obtain ⟨a,m⟩:=i (by have:=Xw wf.acy b j g;omega) hc
     exact ⟨d::a,by rw[T8 wf.acy,b];show d::chain (Q4 l) d.super=_;rw[m];rfl⟩
theorem Wf.fields_tail {n:X0} {c:Cla} (h:c∈chain (Q4 l) n): ∃a,Y6 (Q4 l) n=Y6 (Q4 l) c.name++a:=by
 obtain ⟨b,d⟩:=wf.chain_tail _ (Nat.lt_succ_self _) h
 exact ⟨b.reverse.flatMap (·.fields),by unfold Y6;rw[d];simp⟩
theorem Wf.none_nil:lk (Q4 l) []=none:=by
 cases h:lk (Q4 l) [] with
 | none=>rfl
 | some c=>exact absurd (wf.lkn h) (by decide)
theorem Wf.fault_fields:Y6 (Q4 l) L6=[⟨Qe,D0,false⟩]:=by
 unfold Y6
 rw[T8 wf.acy,wf.fault]
 simp only
 rw[T8 wf.acy,wf.root]
 simp only
 rw[Yj wf.none_nil]
 rfl
theorem Wf.what {n:X0} (h:Xx (Q4 l) n L6=true) {c:Cla} (e:lk (Q4 l) n=some c):Jk (Q4 l) n Qe=some 0:=by
 have b:=(wf.sub_class e).1 h
 have d:=wf.by_chain b _ wf.fault rfl (by decide)
 obtain ⟨a,f⟩:=wf.fields_tail d
 unfold Jk
 rw[f,show (Cla.mk L6 J9 [] false false false [⟨Qe,D0,false⟩] []).name=L6 from rfl,wf.fault_fields]
 rfl
end
end Go.Proofs.YtjdiakhipmggjaaGreatDoor

namespace Go.Hm
open Go.Kd
end Go.Hm
namespace Go.Proofs.YtjdiakhipmggjaaGreatDoor
open Go.Emb Go.RowKit Go.Kd Go.Hm
section
variable {l : List Cla} (wf : Wf l)
include wf
end
end Go.Proofs.YtjdiakhipmggjaaGreatDoor
namespace Go.Proofs.YtjdiakhipmggjaaGreatDoor
open Go.Emb Go.RowKit Go.Kd Go.Hm
end Go.Proofs.YtjdiakhipmggjaaGreatDoor
namespace Go.Proofs.YtjdiakhipmggjaaGreatDoor
open Go.Emb Go.RowKit Go.Kd Go.Hm
section
variable {l : List Cla} (wf : Wf l)
include wf
end
end Go.Proofs.YtjdiakhipmggjaaGreatDoor

namespace Go.Hm
open Go.Kd
structure Val where
  sort : Int
  n : Int
  s : X0
  ref : Int
deriving DecidableEq
structure Cel where
  kind : X0
  vals : List Val
deriving DecidableEq
def Val.zero:Val:=⟨0,0,[],0⟩
def Cel.zero:Cel:=⟨[],[]⟩
def P6:X0:=[105,110,116]
def Ja:X0:=[98,111,111,108]
def L8 (k:X0):Val:=if k=P6 then ⟨1,0,[],0⟩ else if k=Ja then ⟨2,0,[],0⟩ else if k=D0 then ⟨3,0,[],0⟩ else Val.zero
def Z1 (cs:List Cel):Int:=(cs.map fun c=>1+(c.vals.length:Int)).sum
def W4 (room:Int) (cs:List Cel):Int:=room-Z1 cs
def M0 (cs:List Cel) (r:Int):Bool:=decide (0≤r)&&decide (r<cs.length)
def Wd (cs:List Cel) (r:Int):Cel:=cs.getD r.toNat Cel.zero
def D9 (cs:List Cel) (r:Int):X0:=if M0 cs r then (Wd cs r).kind else []
def Q5W (cs:List Cel) (r:Int):Int:=if M0 cs r then (Wd cs r).vals.length else 0
def P1 (ok:X0→Bool) (cs:List Cel) (v:Val):X0:=
 if v=Val.zero then H8 else if v=⟨1,v.n,[],0⟩ then P6 else if v=⟨2,v.n,[],0⟩∧(v.n=0∨v.n=1) then Ja
 else if v=⟨3,0,v.s,0⟩∧ok v.s=true then D0 else if v=⟨4,0,[],v.ref⟩ then D9 cs v.ref else []
def B4 (ok:X0→Bool) (l:List Cla) (cs:List Cel) (v:Val) (k:X0):Bool:= !decide (P1 ok cs v=[])&&Xx l (P1 ok cs v) k
def Zn (l:List Cla) (room:Int) (cs:List Cel) (k:X0):List Cel×Int:=
 if P3 l k=false then (cs,91) else if W4 room cs<1+((Y6 l k).length:Int) then (cs,90) else (cs++[⟨k,(Y6 l k).map fun f=>L8 f.kind⟩],0)
def F6 (l:List Cla) (e:X0):Bool:= !decide (e=H8)&&N3 l e&&decide (Xi e≤2)
def Zs (l:List Cla) (room:Int) (cs:List Cel) (e:X0) (n:Int):List Cel×Int:=
 if F6 l e=false then (cs,91) else if n<0 then (cs,93) else if W4 room cs≤n then (cs,90) else (cs++[⟨e++[91,93],List.replicate n.toNat (L8 e)⟩],0)
def E4 (cs:List Cel) (r a:Int):Int:=if M0 cs r then (if 0≤a∧a<((Wd cs r).vals.length:Int) then 0 else 93) else 92
def Hg (cs:List Cel) (r a:Int):Val:=if E4 cs r a=0 then (Wd cs r).vals.getD a.toNat Val.zero else Val.zero
def Xd (l:List Cla) (k:X0) (i:Nat):X0:=if elem k=[] then ((Y6 l k).getD i Fld.zero).kind else elem k
def B6 (cs:List Cel) (r a:Int) (v:Val):List Cel:=cs.set r.toNat ⟨(Wd cs r).kind,(Wd cs r).vals.set a.toNat v⟩
def H6 (ok:X0→Bool) (l:List Cla) (cs:List Cel) (r a:Int) (v:Val):List Cel×Int:=
 if E4 cs r a≠0 then (cs,E4 cs r a) else if B4 ok l cs v (Xd l (Wd cs r).kind a.toNat) then (B6 cs r a v,0) else (cs,91)
def F5 (n:Int) (v:Val):Bool:=decide (v.sort=4)&&decide (n≤v.ref)
def Kb (cs:List Cel) (n:Int):List Cel:=
 if (cs.take (max n 0).toNat).any (fun c=>c.vals.any (F5 (max n 0))) then cs else cs.take (max n 0).toNat
structure ActH where
  kind : Int
  s : X0
  n : Int
  ref : Int
  v : Val
deriving DecidableEq
def B8 (ok:X0→Bool) (l:List Cla) (room:Int) (cs:List Cel) (x:ActH):List Cel:=
 if x.kind=0 then (Zn l room cs x.s).1 else if x.kind=1 then (Zs l room cs x.s x.n).1 else if x.kind=2 then (H6 ok l cs x.ref x.n x.v).1
 else if x.kind=4 then Kb cs x.ref else cs
structure GoodC (ok : X0 → Bool) (l : List Cla) (cs : List Cel) (c : Cel) : Prop where
  is : elem c.kind ≠ [] ∨ (P3 l c.kind = true ∧ c.vals.length = (Y6 l c.kind).length)
  kd : N3 l c.kind = true
  fits : ∀ i (h : i < c.vals.length), B4 ok l cs c.vals[i] (Xd l c.kind i) = true
structure GoodH (ok : X0 → Bool) (l : List Cla) (room : Int) (cs : List Cel) : Prop where
  cells : ∀ c ∈ cs, GoodC ok l cs c
  left : 0 ≤ W4 room cs
theorem T3 (a b:List Cel):Z1 (a++b)=Z1 a+Z1 b:=by simp[Z1]
theorem L9 (a:List Cel):0≤Z1 a:=by
 unfold Z1
 induction a with
 | nil=>simp
 | cons c r b=>simp only[List.map_cons,List.sum_cons];omega
theorem T2 (a:List Cel):(a.length:Int)≤Z1 a:=by
 unfold Z1
 induction a with
 | nil=>simp
 | cons c r b=>simp only[List.map_cons,List.sum_cons,List.length_cons];omega
theorem E0 {cs:List Cel} {r:Int}:M0 cs r=true↔ ∃i:Nat,r=i∧i<cs.length:=by
 simp only[M0,Bool.and_eq_true,decide_eq_true_eq]
 constructor
 ·rintro ⟨a,b⟩;exact ⟨r.toNat,by omega,by omega⟩
 ·rintro ⟨i,rfl,h⟩;omega
theorem L4 {cs:List Cel} {i:Nat} (h:i<cs.length):Wd cs (i:Int)=cs[i]:=by
 unfold Wd;rw[Int.toNat_natCast,List.getD_eq_getElem?_getD,List.getElem?_eq_getElem h];rfl
theorem Yl {cs:List Cel} {i:Nat} (h:i<cs.length):D9 cs (i:Int)=cs[i].kind:=by
 unfold D9;rw[if_pos (E0.2 ⟨i,rfl,h⟩),L4 h]
theorem X0z {ok:X0→Bool} {cs a:List Cel} {v:Val} (h:v.sort=4→D9 cs v.ref≠[]→D9 a v.ref=D9 cs v.ref) (c:P1 ok cs v≠[]):P1 ok a v=P1 ok cs v:=by
 unfold P1 at*
 split
 ·rfl
 ·split
  ·rfl
  ·split
   ·rfl
   ·split
    ·rfl
    ·split
     ·rename_i g f d e b
      rw[if_neg g,if_neg f,if_neg d,if_neg e,if_pos b] at c
      exact h (by rw[b]) c
     ·rfl
theorem Hs {ok:X0→Bool} {l:List Cla} {cs a:List Cel} {v:Val} {k:X0} (h:v.sort=4→D9 cs v.ref≠[]→D9 a v.ref=D9 cs v.ref) (b:B4 ok l cs v k=true):B4 ok l a v k=true:=by
 unfold B4 at*
 have c:P1 ok cs v≠[]:=by
  intro e;rw[e] at b;simp at b
 rw[X0z h c];exact b
theorem Q7T {cs more:List Cel} {r:Int} (h:D9 cs r≠[]):D9 (cs++more) r=D9 cs r:=by
 have b:M0 cs r=true:=by
  cases c:M0 cs r with
  | true=>rfl
  | false=>unfold D9 at h;rw[c] at h;simp at h
 obtain ⟨i,rfl,a⟩:=E0.1 b
 rw[Yl a,Yl (by simp;omega),List.getElem_append_left a]
theorem GoodC.app {ok:X0→Bool} {l:List Cla} {cs more:List Cel} {c:Cel} (h:GoodC ok l cs c):GoodC ok l (cs++more) c:=
 ⟨h.is,h.kd,fun i a=>Hs (fun _ b=>Q7T b) (h.fits i a)⟩
section
variable {ok : X0 → Bool} {l : List Cla} {room : Int} {cs : List Cel}
theorem GoodH.snoc (h:GoodH ok l room cs) {c:Cel} (a:GoodC ok l (cs++[c]) c) (b:1+(c.vals.length:Int)≤W4 room cs):GoodH ok l room (cs++[c]):=by
 refine ⟨fun d hd=>?_,?_⟩
 ·rcases List.mem_append.1 hd with hd | hd
  ·exact (h.cells d hd).app
  ·simp at hd;subst hd;exact a
 ·unfold W4 at*;rw[T3];simp only[Z1,List.map_cons,List.map_nil,List.sum_cons,List.sum_nil] at*;omega
end
end Go.Hm
namespace Go.Proofs.YtjdiakhipmggjaaGreatDoor
open Go.Emb Go.RowKit Go.Kd Go.Hm
section
variable {l : List Cla} (wf : Wf l)
include wf
theorem Wf.field_kinds {n:X0} {f:Fld} (h:f∈Y6 (Q4 l) n):O7 (Q4 l) f.kind=true:=by
 unfold Y6 at h
 obtain ⟨c,g,e⟩:=List.mem_flatMap.1 h
 have k:=(Q6S wf.acy _ (Nat.lt_succ_self _) (by simpa using g)).2
 obtain ⟨_,a,_⟩:=V2 k
 rcases List.mem_append.1 a with j | hl
 ·have d: ∀c∈G5,∀f∈c.fields,f.kind=D0:=by decide
  rw[d c j f e]
  have:N3 (Q4 l) D0=true:=by
   have i:right D0=true:=by decide
   have m:plain (base D0).1=true:=by decide
   simp[N3,i,m]
  simp[O7,this];decide
 ·have:=wf.mem c hl
  unfold V7 at this
  split at this
  ·cases this
  ·split at this
   ·cases this
   ·rename_i b
    have b:B2 (Q4 l) c=false:=eq_false_of_ne_true b
    unfold B2 at b
    rw[Bool.or_eq_false_iff] at b
    have:=List.any_eq_false.1 b.1 f e
    simpa using this
theorem Wf.zero_fits {ok:X0→Bool} (i:ok []=true) {cs:List Cel} {k:X0} (h:O7 (Q4 l) k=true):B4 ok (Q4 l) cs (L8 k) k=true:=by
 have a:N3 (Q4 l) k=true∧k≠H8:=by
  simp only[O7,Bool.and_eq_true,Bool.not_eq_true',decide_eq_false_iff_not] at h;exact ⟨h.2,h.1⟩
 by_cases d:k=P6
 ·subst d
  have:B4 ok (Q4 l) cs (L8 P6) P6=Xx (Q4 l) P6 P6:=by
   unfold B4;simp[L8,P1,Val.zero,P6]
  rw[this];exact wf.sub_refl a.1
 by_cases f:k=Ja
 ·subst f
  have:B4 ok (Q4 l) cs (L8 Ja) Ja=Xx (Q4 l) Ja Ja:=by
   unfold B4;simp[L8,P1,Val.zero,Ja,P6]
  rw[this];exact wf.sub_refl a.1
 by_cases c:k=D0
 ·subst c
  have:B4 ok (Q4 l) cs (L8 D0) D0=Xx (Q4 l) D0 D0:=by
   unfold B4;simp[L8,P1,Val.zero,Ja,P6,D0,i]
  rw[this];exact wf.sub_refl a.1
 ·have g:L8 k=Val.zero:=by simp[L8,d,f,c]
  have:B4 ok (Q4 l) cs (L8 k) k=Xx (Q4 l) H8 k:=by
   rw[g];unfold B4 P1;simp[H8]
  rw[this]
  have b:plain k=false:=by
   cases b:plain k with
   | false=>rfl
   | true=>
    simp only[plain,Bool.or_eq_true,decide_eq_true_eq] at b
    rcases b with (e | e) | e
    ·exact absurd e d
    ·exact absurd e f
    ·exact absurd e c
  exact wf.sub_iff.2 ⟨by simp[N3],a.1, .inr ⟨by decide,b, .inl rfl⟩⟩
end
theorem Q6h (a:X0):arr (a++[91,93])=true:=by
 simp[arr]
theorem Q5V (a:X0):Kd.cutA (a++[91,93])=a:=by
 simp[Kd.cutA]
theorem Q0p (a:X0):base (a++[91,93])=((base a).1,(base a).2+1):=by
 rw[Xj,Q6h,if_pos rfl,Q5V]
theorem Q8w {a:X0} (h:right a=true) (b:(base a).2≤2):right (a++[91,93])=true:=by
 unfold right at*
 rw[Q0p]
 simp only[Bool.and_eq_true,decide_eq_true_eq] at*
 exact ⟨by omega,h.2⟩
theorem Q9w {a:X0} (h:right (a++[91,93])=true):elem (a++[91,93])=a:=by
 unfold elem;rw[Q6h,h,Q5V];rfl
theorem Q8E {l:List Cla} {e:X0}:F6 l e=true↔O7 l e=true∧right (e++[91,93])=true:=by
 unfold F6 O7
 simp only[Bool.and_eq_true,Bool.not_eq_true',decide_eq_false_iff_not,decide_eq_true_eq]
 constructor
 ·rintro ⟨⟨b,h2⟩,a⟩
  have c:right e=true:=by
   unfold N3 at h2
   simp only[Bool.or_eq_true,Bool.and_eq_true,decide_eq_true_eq] at h2
   rcases h2 with h2 | h2
   ·exact absurd h2 b
   ·exact h2.1
  unfold Xi at a
  rw[if_pos c] at a
  exact ⟨⟨b,h2⟩,Q8w c a⟩
 ·rintro ⟨⟨b,h2⟩,a⟩
  refine ⟨⟨b,h2⟩,?_⟩
  unfold right at a
  rw[Q0p] at a
  simp only[Bool.and_eq_true,decide_eq_true_eq] at a
  unfold Xi
  split
  ·omega
  ·omega
section
variable {ok : X0 → Bool} {l : List Cla} {room : Int} {cs : List Cel}
theorem GoodH.obj (wf:Wf l) (g:ok []=true) (h:GoodH ok (Q4 l) room cs) (k:X0):GoodH ok (Q4 l) room (Zn (Q4 l) room cs k).1:=by
 unfold Zn
 split
 ·exact h
 split
 ·exact h
 rename_i a j
 have a:P3 (Q4 l) k=true:=by simpa using a
 have e: ∃c,lk (Q4 l) k=some c:=by
  unfold P3 at a
  cases b:lk (Q4 l) k with
  | none=>rw[b] at a;cases a
  | some c=>exact ⟨c,rfl⟩
 obtain ⟨c,b⟩:=e
 have f:elem k=[]:=wf.lkArr b
 refine h.snoc ⟨.inr ⟨a,by simp⟩,wf.kind b,fun i d=>?_⟩ (by simp only[List.length_map];omega)
 simp only[List.length_map] at d
 simp only[List.getElem_map,Xd,f,if_pos]
 rw[List.getD_eq_getElem?_getD,List.getElem?_eq_getElem d]
 exact wf.zero_fits g (wf.field_kinds (List.getElem_mem d))
theorem GoodH.arr (wf:Wf l) (k:ok []=true) (h:GoodH ok (Q4 l) room cs) (e:X0) (n:Int):GoodH ok (Q4 l) room (Zs (Q4 l) room cs e n).1:=by
 unfold Zs
 split
 ·exact h
 split
 ·exact h
 split
 ·exact h
 rename_i f p m
 have f:F6 (Q4 l) e=true:=by simpa using f
 obtain ⟨j,c⟩:=Q8E.1 f
 have g:=Q9w c
 have b:e≠[]:=by
  rintro rfl
  revert c;decide
 have a:N3 (Q4 l) (e++[91,93])=true:=by
  have a:=j
  unfold O7 at a
  simp only[Bool.and_eq_true,Bool.not_eq_true',decide_eq_false_iff_not] at a
  obtain ⟨d,hk2⟩:=a
  unfold N3 at hk2⊢
  simp only[Bool.or_eq_true,Bool.and_eq_true,decide_eq_true_eq] at hk2⊢
  rcases hk2 with hk2 | hk2
  ·exact absurd hk2 d
  ·right;rw[Q0p];exact ⟨c,hk2.2⟩
 refine h.snoc ⟨.inl (by simp only;rw[g];exact b),a,fun i o=>?_⟩ (by simp only[List.length_replicate];omega)
 simp only[List.getElem_replicate,Xd,g,if_neg b]
 exact wf.zero_fits k j
theorem Q3j {r b x:Int} {v:Val} (f:M0 cs r=true):D9 (B6 cs r b v) x=D9 cs x:=by
 obtain ⟨i,rfl,g⟩:=E0.1 f
 have a:(B6 cs i b v).length=cs.length:=by simp[B6]
 cases c:M0 cs x with
 | false=>
  have:M0 (B6 cs i b v) x=false:=by unfold M0 at*;rw[a];exact c
  unfold D9;rw[c,this];rfl
 | true=>
  obtain ⟨j,rfl,d⟩:=E0.1 c
  rw[Yl d,Yl (by rw[a];exact d)]
  simp only[B6,Int.toNat_natCast,L4 g,List.getElem_set]
  split
  ·rename_i e;subst e;rfl
  ·rfl
theorem Lg {r a:Int} (h:E4 cs r a=0): ∃i j:Nat,r=i∧a=j∧ ∃(b:i<cs.length),j<(cs[i]).vals.length:=by
 unfold E4 at h
 split at h
 ·rename_i c
  obtain ⟨i,rfl,b⟩:=E0.1 c
  split at h
  ·rename_i d
   rw[L4 b] at d
   exact ⟨i,a.toNat,rfl,by omega,b,by omega⟩
  ·cases h
 ·cases h
theorem GoodH.set (h:GoodH ok (Q4 l) room cs) (r m:Int) (v:Val):GoodH ok (Q4 l) room (H6 ok (Q4 l) cs r m v).1:=by
 unfold H6
 split
 ·exact h
 rename_i s
 have s:E4 cs r m=0:=by simpa using s
 split
 ·rename_i t
  obtain ⟨i,j,rfl,rfl,g,C⟩:=Lg s
  have z:M0 cs (i:Int)=true:=E0.2 ⟨i,rfl,g⟩
  rw[L4 g,Int.toNat_natCast] at t
  refine ⟨fun c y=>?_,?_⟩
  ·have b: ∀{u:Val} {k:X0},B4 ok (Q4 l) cs u k=true→B4 ok (Q4 l) (B6 cs i j v) u k=true:=fun B=>Hs (fun _ _=>Q3j z) B
   have a: ∀d∈cs,GoodC ok (Q4 l) (B6 cs i j v) d:=fun d p=>⟨(h.cells d p).is,(h.cells d p).kd,fun q n=>b ((h.cells d p).fits q n)⟩
   have f:c∈cs.set i ⟨cs[i].kind,cs[i].vals.set j v⟩:=by simpa [B6,L4 g] using y
   rcases List.mem_or_eq_of_mem_set f with f | rfl
   ·exact a c f
   ·have o:=a _ (List.getElem_mem g)
    refine ⟨by simpa using o.is,o.kd,fun q n=>?_⟩
    simp only[List.length_set] at n
    simp only[List.getElem_set]
    split
    ·rename_i e;subst e;exact b t
    ·exact o.fits q n
  ·have e:Z1 (B6 cs i j v)=Z1 cs:=by
    unfold Z1
    congr 1
    have w:(B6 cs i j v).map (fun c=>1+(c.vals.length:Int))=cs.map (fun c=>1+(c.vals.length:Int)):=by
     unfold B6
     rw[List.map_set,L4 g]
     simp only[List.length_set,Int.toNat_natCast]
     have A:1+(cs[i].vals.length:Int)=(cs.map (fun c=>1+(c.vals.length:Int)))[i]'(by simpa using g):=by simp
     rw[A,List.set_getElem_self]
    exact w
   have:=h.left
   unfold W4 at*
   rw[e];exact this
 ·exact h
theorem GoodH.cut (h:GoodH ok (Q4 l) room cs) (n:Int):GoodH ok (Q4 l) room (Kb cs n):=by
 unfold Kb
 split
 ·exact h
 rename_i hn
 have hn:=eq_false_of_ne_true hn
 generalize hm:max n 0=m at*
 have hm0:0≤m:=by omega
 refine ⟨fun c hc=>?_,?_⟩
 ·have hcs:=List.mem_of_mem_take hc
  refine ⟨(h.cells c hcs).is,(h.cells c hcs).kd,fun i hi=>Hs (fun h4 hk=>?_) ((h.cells c hcs).fits i hi)⟩
  have h1:=List.any_eq_false.1 hn c hc
  have h2: ¬F5 m c.vals[i]=true:=fun e=>h1 (List.any_eq_true.2 ⟨_,List.getElem_mem hi,e⟩)
  have hr:M0 cs c.vals[i].ref=true:=by
   cases he:M0 cs c.vals[i].ref with
   | true=>rfl
   | false=>unfold D9 at hk;rw[he] at hk;simp at hk
  obtain ⟨j,hj,hjl⟩:=E0.1 hr
  have hjm:(j:Int)<m:=by
   simp only[F5,Bool.and_eq_true,decide_eq_true_eq,not_and] at h2
   have:=h2 h4
   omega
  rw[hj,Yl hjl,Yl (by rw[List.length_take];omega)]
  simp
 ·have:Z1 cs=Z1 (cs.take m.toNat)+Z1 (cs.drop m.toNat):=by rw[←T3,List.take_append_drop]
  have h3:=L9 (cs.drop m.toNat)
  have:=h.left
  unfold W4 at*
  omega
theorem GoodH.act (wf:Wf l) (a:ok []=true) (h:GoodH ok (Q4 l) room cs) (x:ActH):GoodH ok (Q4 l) room (B8 ok (Q4 l) room cs x):=by
 unfold B8
 split
 ·exact GoodH.obj wf a h _
 split
 ·exact GoodH.arr wf a h _ _
 split
 ·exact GoodH.set h _ _ _
 split
 ·exact GoodH.cut h _
 ·exact h
theorem GoodH.empty (a:0≤room):GoodH ok l room []:=⟨by simp,by simpa [W4,Z1] using a⟩
end
end Go.Proofs.YtjdiakhipmggjaaGreatDoor

namespace Go.Emb
open Go.RowKit Go.Hm
variable {P : Program} {w w0 w1 w' w'' : World} {K : Value → World → Prop} {σ σ0 σ1 σ' : Q5}
def M5 (_:Q5) (v:Val) (cs:List Value):Prop:=cs=[I v.sort,I v.n,S v.s,I v.ref]∧Yu v.sort∧Yu v.n∧v.s.length≤U0∧Yu v.ref
instance:Rep M5:=⟨fun _ h=>h,fun h u hu=>by rw[h.1] at hu;simp at hu;rcases hu with rfl | rfl | rfl | rfl<;>rfl⟩
def R0 (σ:Q5) (c:Cel) (cs:List Value):Prop:= ∃v,cs=[S c.kind,v]∧Sl 4 M5 σ v c.vals∧c.kind.length≤U0
instance:Rep R0:=⟨fun hk ⟨v,h1,h2,h3⟩=>⟨v,h1,h2.le hk,h3⟩,fun ⟨v,h1,h2,h3⟩ u hu=>by
 rw[h1] at hu;simp at hu;rcases hu with rfl | rfl
 ·rfl
 ·exact A0 h2⟩
theorem Q9x {c:Cel} {cs:List Value} (h:R0 σ0 c cs) (k:SLe σ0 σ):R0 σ c cs:=Rep.up k.le h
def Q3Q (_:Q5) (x:List UInt8×Value) (cs:List Value):Prop:=cs=[S x.1,x.2]∧x.1.length≤U0∧ ∃a n c,x.2= .slice a n c
instance:Rep Q3Q:=⟨fun _ h=>h,fun ⟨h1,_,a,n,c,h2⟩ u hu=>by
 rw[h1,h2] at hu;simp at hu;rcases hu with rfl | rfl<;>rfl⟩
section
variable {α : Type} {R : Q5 → α → List Value → Prop} {B sz : Nat} {e : TypeId} {v u : Value} {xs : List α}
theorem J8.shiftR [hr:Rep R] (h:J8 B e sz R σ w v xs) (r:SLe σ σ') (m: ∀k,v.ownBlock=some k→σ' k=none):J8 B e sz R σ' w v xs:=by
 obtain ⟨a,f,rfl,s,z,c,o⟩:=h
 refine ⟨a,f,rfl,s,z,fun b d=>⟨(c b d).1,(c b d).2.1,(c b d).2.2.1,by subst d;exact m _ rfl⟩,fun y=>?_⟩
 obtain ⟨g,l,j,rfl,A,C,q,t,p⟩:=o y
 exact ⟨g,l,j,rfl,A,m g rfl,q,t,fun i x n=>hr.up r.le (p i x n)⟩
def Kn (w:World):World:={w with heap:= #[]}
theorem Yh (c:X2 w σ):Stp (Kn w) (fun _=>none) w σ:=
 ⟨⟨rfl,rfl,rfl,Nat.zero_le _,fun k d=>absurd d (Nat.not_lt_zero k)⟩,c,fun _ _ h=>(by cases h),fun b a=>absurd a (Nat.not_lt_zero b)⟩
theorem J8.freeze [hr:Rep R] (c:X2 w σ) (h:J8 B e sz R σ w v xs): ∃σ',X2 w σ'∧SLe σ σ'∧Sl sz R σ' v xs∧ ∀k,some k≠v.ownBlock→σ' k=σ k:=by
 obtain ⟨σ',f,d,a,b⟩:=(h.mono (Nat.zero_le B):J8 (Kn w).heap.size e sz R σ w v xs).keep (Yh c)
 exact ⟨σ',f.sat,a,d,b⟩
theorem Y1.freeze {b:Nat} {cs:List Value} (d:X2 w σ) (h:Y1 σ w b cs): ∃σ',X2 w σ'∧SLe σ σ'∧Z4 σ' ⟨b,0,none⟩ cs∧ ∀k,k≠b→σ' k=σ k:=by
 obtain ⟨σ',g,f,a,c⟩:=h.keep (Yh d) (Nat.zero_le b)
 exact ⟨σ',g.sat,⟨a⟩,f,c⟩
end
def X1c (vs:List Value):Prop:=vs.Pairwise fun a b=> ∀k,a.ownBlock=some k→b.ownBlock≠some k
def Q3a (B:Nat) (e:TypeId) (σ:Q5) (w:World) (vs:List Value) (cs:List Cel):Prop:=vs.length=cs.length∧ ∀i (h:i<vs.length) (a:i<cs.length),J8 B e 4 M5 σ w vs[i] cs[i].vals
theorem Q3a.freeze {B:Nat} {e:TypeId}: ∀{vs:List Value} {cs:List Cel} {σ:Q5},X2 w σ→Q3a B e σ w vs cs→X1c vs→
 ∃σ',X2 w σ'∧SLe σ σ'∧(∀i (h:i<vs.length) (z:i<cs.length),Sl 4 M5 σ' vs[i] cs[i].vals)∧ ∀k,(∀v∈vs,v.ownBlock≠some k)→σ' k=σ k
 | [],cs,σ,d,h,j=>⟨σ,d,SLe.refl _,fun i h=>absurd h (Nat.not_lt_zero i),fun _ _=>rfl⟩
 | v::vs,[],σ,d,h,j=>by have:=h.1;simp at this
 | v::vs,c::cs,σ,d,h,j=>by
  obtain ⟨σ1,s,n,p,o1⟩:=(h.2 0 (by simp) (by simp)).freeze d
  obtain ⟨l,g⟩:=List.pairwise_cons.1 j
  have q:Q3a B e σ1 w vs cs:=⟨by simpa using h.1,fun i f a=>by
   have:=h.2 (i+1) (by simpa using f) (by simpa using a)
   simp only[List.getElem_cons_succ] at this
   refine this.shiftR n fun k b=>?_
   rw[o1 k fun e=>l _ (List.getElem_mem f) k e.symm b]
   exact (this.mem b).2.2⟩
  obtain ⟨r,o,m,t,o2⟩:=Q3a.freeze s q g
  refine ⟨r,o,n.more m,fun i f a=>?_,fun k b=>?_⟩
  ·cases i with
   | zero=>exact p.lift m
   | succ i=>exact t i (by simpa using f) (by simpa using a)
  ·rw[o2 k fun u y=>b u (by simp[y]),o1 k fun e=>b v (by simp) e.symm]
def Qs (vs:List Value) (cs:List Cel):List (List UInt8×Value):=List.zipWith (fun v c=>(c.kind,v)) vs cs
theorem Dj {vs:List Value} {cs:List Cel} (h:vs.length=cs.length):(Qs vs cs).length=cs.length:=by simp[Qs,h]
end Go.Emb
namespace Go.Proofs.YtjdiakhipmggjaaGreatDoor
open Go.Emb Go.RowKit Go.Kd Go.Hm
variable {w w' : World} {K : Value → World → Prop} {σ σ' : Q5}
def R9 (σ:Q5) (hp tv:Value) (room:Int) (cs:List Cel):Prop:= ∃a lv,hp= .pointer (some a)∧Z4 σ a [tv,I room,I (Z1 cs),lv]∧Sl 2 R0 σ lv cs
theorem R9.lift {hp tv:Value} {room:Int} {cs:List Cel} (h:R9 σ hp tv room cs) (b:SLe σ σ'):R9 σ' hp tv room cs:=by
 obtain ⟨a,lv,f,d,c⟩:=h
 exact ⟨a,lv,f,d.lift b,c.lift b⟩
structure RowsIs (B : Nat) (D : Nat → Prop) (σ : Q5) (w : World) (lv : Value) (cs : List Cel) : Prop where
  ex : ∃ vs, J8 B T.m 2 Q3Q σ w lv (Qs vs cs) ∧ Q3a B T.g σ w vs cs ∧ X1c (lv :: vs) ∧ ∀ k, D k ↔ ∃ v ∈ lv :: vs, v.ownBlock = some k
structure HeapIs (B : Nat) (D : Nat → Prop) (σ : Q5) (w : World) (hp tv : Value) (room : Int) (cs : List Cel) : Prop where
  ex : ∃ b lv E, hp = .pointer (some ⟨b, 0, none⟩) ∧ B ≤ b ∧ Y1 σ w b [tv, I room, I (Z1 cs), lv] ∧ RowsIs B E σ w lv cs ∧ ¬ E b ∧ ∀ k, D k ↔ (k = b ∨ E k)
section
variable {B : Nat} {D E : Nat → Prop} {lv hp tv : Value} {room : Int} {cs : List Cel}
theorem RowsIs.mem (h:RowsIs B D σ w lv cs) {k:Nat} (a:D k):B≤k∧k<w.heap.size∧σ k=none:=by
 obtain ⟨vs,d,b,f,hD⟩:=h.ex
 obtain ⟨v,hv,a⟩:=(hD k).1 a
 rcases List.mem_cons.1 hv with rfl | hv
 ·exact d.mem a
 ·obtain ⟨i,c,rfl⟩:=List.getElem_of_mem hv
  exact (b.2 i c (by rw[←b.1];exact c)).mem a
theorem RowsIs.nx (h:RowsIs B D σ w lv cs) (k:Nxt E w σ w' σ') (d: ∀k,D k→ ¬E k):RowsIs B D σ' w' lv cs:=by
 obtain ⟨vs,g,c,l,hD⟩:=h.ex
 exact ⟨vs,g.nx k fun i a=>d i ((hD i).2 ⟨lv,by simp,a⟩),⟨c.1,fun i a b=>(c.2 i a b).nx k fun j f=>d j ((hD j).2 ⟨vs[i],by simp[List.getElem_mem a],f⟩)⟩,l,hD⟩
theorem RowsIs.up (h:RowsIs B D σ w lv cs) (k:Stp w σ w' σ'):RowsIs B D σ' w' lv cs:=
 h.nx (E:=fun _=>False) (.of_stp k) fun _ _=>id
theorem RowsIs.freeze (h:RowsIs B D σ w lv cs) (t:X2 w σ): ∃σ',X2 w σ'∧SLe σ σ'∧Sl 2 R0 σ' lv cs∧ ∀k,¬D k→σ' k=σ k:=by
 obtain ⟨vs,r,j,J,hD⟩:=h.ex
 obtain ⟨l,d⟩:=List.pairwise_cons.1 J
 obtain ⟨σ1,C,p,y,o1⟩:=j.freeze t d
 have b:J8 B T.m 2 Q3Q σ1 w lv (Qs vs cs):=r.shiftR p fun k a=>by
  rw[o1 k fun v f e=>l v f k a e];exact (r.mem a).2.2
 obtain ⟨A,s,n,H,o2⟩:=b.freeze C
 refine ⟨A,s,p.more n,H.conv (R':=R0) (ys:=cs) (by rw[Dj j.1]) fun i L m c z=>?_,fun k a=>?_⟩
 ·have g:i<vs.length:=by rw[j.1];exact m
  obtain ⟨o,q,_⟩:=z
  have e:(Qs vs cs)[i]=(cs[i].kind,vs[i]):=by simp[Qs]
  rw[e] at o q
  exact ⟨vs[i],o,(y i g m).lift n,q⟩
 ·rw[o2 k fun e=>a ((hD k).2 ⟨lv,by simp,e.symm⟩),o1 k fun v f e=>a ((hD k).2 ⟨v,by simp[f],e⟩)]
theorem HeapIs.mem (h:HeapIs B D σ w hp tv room cs) {k:Nat} (hk:D k):B≤k∧k<w.heap.size∧σ k=none:=by
 obtain ⟨b,lv,E,rfl,hB,a,c,hE,hD⟩:=h.ex
 rcases (hD k).1 hk with rfl | hk
 ·exact ⟨hB,a.lt,a.1⟩
 ·exact c.mem hk
theorem HeapIs.nx {F:Nat→Prop} (h:HeapIs B D σ w hp tv room cs) (k:Nxt F w σ w' σ') (a: ∀k,D k→ ¬F k):HeapIs B D σ' w' hp tv room cs:=by
 obtain ⟨b,lv,E,rfl,hB,f,c,hE,hD⟩:=h.ex
 exact ⟨b,lv,E,rfl,hB,f.nx k (a b ((hD b).2 (.inl rfl))),c.nx k fun i d=>a i ((hD i).2 (.inr d)),hE,hD⟩
theorem HeapIs.up (h:HeapIs B D σ w hp tv room cs) (k:Stp w σ w' σ'):HeapIs B D σ' w' hp tv room cs:=
 h.nx (F:=fun _=>False) (.of_stp k) fun _ _=>id
theorem HeapIs.freeze (h:HeapIs B D σ w hp tv room cs) (g:X2 w σ): ∃σ',X2 w σ'∧SLe σ σ'∧R9 σ' hp tv room cs∧ ∀k,¬D k→σ' k=σ k:=by
 obtain ⟨b,lv,E,rfl,hB,c,l,hE,hD⟩:=h.ex
 obtain ⟨σ1,n,j,i,o1⟩:=l.freeze g
 have a:Y1 σ1 w b [tv,I room,I (Z1 cs),lv]:=⟨by rw[o1 b hE];exact c.1,c.2⟩
 obtain ⟨m,o,f,p,q⟩:=a.freeze n
 exact ⟨m,o,j.more f,⟨_,lv,rfl,p,i.lift f⟩,fun k d=>by rw[q k fun e=>d ((hD k).2 (.inl e)),o1 k fun e=>d ((hD k).2 (.inr e))]⟩
end
end Go.Proofs.YtjdiakhipmggjaaGreatDoor

namespace Go.Emb
open Go.RowKit Go.Hm
variable {H : Type} {enc : TypeId × Value → H} {P : Program} {W : World} {t : TypeId} {cs : List Value} {fuel : Nat} {x : DataW H × List MemPlace}
theorem X2k {g:Array Field} (j:P.underlying t=some (.struct g)) (h:DataW.trod enc P W 0 (fun _=>true) true fuel t cs=some x) (w:Wt P t x.1) (i:Nat) {o m:Nat} {b:TypeId}
 (r:(g[i]?).map (fun f=>(f.type,f.offset))=some (b,o)) (s:P.cellsOf b=m): ∃n y,DataW.trod enc P W 0 (fun _=>true) true n b ((cs.drop o).take m)=some y∧Wt P b y.1:=by
 obtain ⟨xs,n,_,rfl,A,z,l⟩:=DataW.trod_struct j h
 obtain ⟨f,a,k⟩:=Option.map_eq_some_iff.1 r
 cases k
 have e:=l i f a
 have c:i<xs.length:=by rw[z];exact (Array.getElem?_eq_some_iff.1 a).1
 rw[List.getElem?_eq_getElem c,s] at e
 refine ⟨n,_,e,fun m q=>w m ?_⟩
 simp only[DataW.weights,j]
 exact Q7I (i:=i) (u:=f.type) (by rw[List.getElem?_map,Array.getElem?_toList,a];rfl) (by rw[List.getElem?_map,List.getElem?_eq_getElem c];rfl) m q
def Q0k (_:Q5) (x:ActH) (cs:List Value):Prop:=cs=[I x.kind,S x.s,I x.n,I x.ref,I x.v.sort,I x.v.n,S x.v.s,I x.v.ref]∧(Yu x.kind∧x.s.length≤U0∧Yu x.n∧Yu x.ref)∧Yu x.v.sort∧Yu x.v.n∧x.v.s.length≤U0∧Yu x.v.ref
instance:Rep Q0k:=⟨fun _ h=>h,fun h u hu=>by rw[h.1] at hu;simp at hu;rcases hu with rfl | rfl | rfl | rfl | rfl | rfl | rfl | rfl<;>rfl⟩
end Go.Emb
namespace Go.Proofs.YtjdiakhipmggjaaGreatDoor
open Go.Emb Go.RowKit Go.Kd Go.Hm
variable {H : Type} {enc : TypeId × Value → H} {W : World} {cs : List Value} {fuel : Nat} {x : DataW H × List MemPlace}
def X3m:Array Field:= #[⟨"Sort",T.e,0,false, "", "",0⟩,⟨"N",T.a0,1,false, "", "",8⟩,⟨"S",T.c,2,false, "", "",16⟩,⟨"Ref",T.e,3,false, "", "",32⟩]
theorem Q2S:P.underlying T.g=some (.struct X3m):=by kernel_rfl
theorem Q7y:P.underlying T.a0=some (.int .i64):=by kernel_rfl
theorem X2V (h:DataW.trod enc P W 0 (fun _=>true) true fuel T.g cs=some x) (a:Wt P T.g x.1): ∃y,M5 (Wj W) y cs:=by
 obtain ⟨c0,A,C,B,rfl⟩:=X3Q (Q9n Q2S (by kernel_rfl) h)
 obtain ⟨_,_,l,w0⟩:=Ll (o:=0) Q2S h a 0 rfl Q4U
 obtain ⟨_,_,s,w1⟩:=Ll (o:=1) Q2S h a 1 rfl (by kernel_rfl)
 obtain ⟨_,_,i,w⟩:=Ll (o:=2) Q2S h a 2 rfl Pu
 obtain ⟨_,_,j,D⟩:=Ll (o:=3) Q2S h a 3 rfl Q4U
 obtain ⟨k,c,m⟩:=Gh Q1I l
 obtain ⟨u,f,q⟩:=Gh Q7y s
 obtain ⟨g,e,r⟩:=Q9N X8 i w
 obtain ⟨z,b,n⟩:=Gh Q1I j
 simp at c f e b
 subst c f e b
 exact ⟨⟨k,u,g,z⟩,rfl,m,q,r,n⟩
def X3s:Array Field:= #[⟨"Kind",T.e,0,false, "", "",0⟩,⟨"S",T.c,1,false, "", "",8⟩,⟨"N",T.a0,2,false, "", "",24⟩,⟨"Ref",T.e,3,false, "", "",32⟩,⟨"V",T.g,4,false, "", "",40⟩]
theorem Q1p:P.underlying T.n=some (.struct X3s):=by kernel_rfl
theorem X2y (h:DataW.trod enc P W 0 (fun _=>true) true fuel T.n cs=some x) (a:Wt P T.n x.1): ∃y,Q0k (Wj W) y cs:=by
 obtain ⟨c0,Q,Y,X,O,Z,R,U,rfl⟩:=X3q (Q9n Q1p (by kernel_rfl) h)
 obtain ⟨_,_,s,w0⟩:=Ll (o:=0) Q1p h a 0 rfl Q4U
 obtain ⟨_,_,E,w1⟩:=Ll (o:=1) Q1p h a 1 rfl Pu
 obtain ⟨_,_,k,V⟩:=Ll (o:=2) Q1p h a 2 rfl (by kernel_rfl)
 obtain ⟨_,_,l,w3⟩:=Ll (o:=3) Q1p h a 3 rfl Q4U
 obtain ⟨_,_,B,D⟩:=X2k (o:=4) (m:=4) Q1p h a 4 rfl (by kernel_rfl)
 obtain ⟨q,e,u⟩:=Gh Q1I s
 obtain ⟨J,g,z⟩:=Q9N X8 E w1
 obtain ⟨i,f,A⟩:=Gh Q7y k
 obtain ⟨M,b,w⟩:=Gh Q1I l
 obtain ⟨N,c,C⟩:=X2V B D
 simp at e g f b c
 obtain ⟨j,n,r,L⟩:=c
 subst e g f b j n r L
 exact ⟨⟨q,J,i,M,N⟩,rfl,⟨u,z,A,w⟩,C⟩
theorem Q8U:P.underlying T.a1=some (.slice T.n):=by kernel_rfl
section
variable {v : Value} {d : DataW H} {p : List MemPlace}
set_option maxRecDepth 100000 in
theorem X1C {base:Nat} (f:Value.okWide P W .any base T.a1 v) (h:DataW.Trod enc P W 0 (fun _=>true) true T.a1 v d p) (b:Wt P T.a1 d): ∃l,Sl 8 Q0k (Wj W) v l:=by
 obtain ⟨a,n,c,rfl⟩:=WideShapes.okWide_slice Q8U f
 unfold DataW.Trod at h
 obtain ⟨fuel,h⟩:=h
 obtain ⟨u,l,e,g⟩:=X3G (R:=Q0k) (sz:=8) Q8U (by kernel_rfl) (by decide) (fun _ _ _ h b=>X2y h b) h b
 simp[Value.cells] at e
 subst e
 exact ⟨l,g⟩
end
end Go.Proofs.YtjdiakhipmggjaaGreatDoor

namespace Go.Emb
open Go.RowKit Go.Hm
variable {P : Program} {w : World} {K : Value → World → Prop}
theorem Q8N (n:Int):(BitVec.ofInt 64 n &&& BitVec.ofInt 64 1).toNat=(n % 2).toNat:=by
 rw[BitVec.toNat_and,BitVec.toNat_ofInt,BitVec.toNat_ofInt]
 have e:((1:Int) % ((2 ^ 64:Nat):Int)).toNat=1:=by decide
 rw[e,Nat.and_one_is_mod]
 omega
theorem X2I {t:TypeId} {a b:Operand} {n:Int} (h:K (I (n % 2)) w):Q3 P .and t a b (I n) (I 1) w K:=by
 have e:Q3 P .and t a b (I n) (I 1) w K=K (I (n % 2)) w:=X9 (by
  have f:(BitVec.ofInt IntKind.i64.bits n &&& BitVec.ofInt IntKind.i64.bits 1).toNat=(n % 2).toNat:=Q8N n
  have d:IntKind.i64.wrap ((n % 2).toNat:Int)=n % 2:=by rw[G3 (by omega) (by omega)];omega
  have c:((n % 2 ^ IntKind.i64.bits).toNat &&& 1 % 2 ^ IntKind.i64.bits)=(n % 2).toNat:=by
   show ((n % 18446744073709551616).toNat &&& 1)=_
   rw[Nat.and_one_is_mod];omega
  simp[eqGuard,binOp,Op.intBits,c]
  rw[show max (n % 2) 0=n % 2 by omega,G3 (by omega) (by omega)])
 rw[e];exact h
end Go.Emb
namespace Go.Proofs.YtjdiakhipmggjaaGreatDoor
open Go.Emb Go.RowKit Go.Kd Go.Hm
variable {w w' : World} {K : Value → World → Prop} {σ σ' : Q5} {hp tv : Value} {room : Int} {cs : List Cel} {l : List Cla}
theorem X2U:(P.fieldsOf T.g).toList=[⟨"Sort",T.e,0,false, "", "",0⟩,⟨"N",T.a0,1,false, "", "",8⟩,⟨"S",T.c,2,false, "", "",16⟩,⟨"Ref",T.e,3,false, "", "",32⟩]:=by kernel_rfl
set_option maxRecDepth 100000 in
theorem X1s (a b:Val):(Op.eqFields 9999 [I a.sort,I a.n,S a.s,I a.ref].toArray [I b.sort,I b.n,S b.s,I b.ref].toArray (P.fieldsOf T.g).toList).run P w= .ok (decide (a=b)) w:=by
 rw[X2U]
 have:=Pb (P:=P) (w:=w) (d:=9999) (xs:=[I a.sort,I a.n,S a.s,I a.ref].toArray) (ys:=[I b.sort,I b.n,S b.s,I b.ref].toArray) (f:=⟨"Sort",T.e,0,false, "", "",0⟩) (by decide) rfl rfl (Q3y (k:= .i64) (by kernel_rfl) _ _)
  (Pb (f:=⟨"N",T.a0,1,false, "", "",8⟩) (by decide) rfl rfl (Q3y (k:= .i64) (by kernel_rfl) _ _) (Pb (f:=⟨"S",T.c,2,false, "", "",16⟩) (by decide) rfl rfl (X2m X8 _ _) (Pb (f:=⟨"Ref",T.e,3,false, "", "",32⟩) (by decide) rfl rfl (Q3y (k:= .i64) (by kernel_rfl) _ _) X1Y)))
 rw[this]
 congr 1
 obtain ⟨j,e,h,g⟩:=a
 obtain ⟨m,c,i,o⟩:=b
 simp[Bool.decide_and]
theorem Rq {a b d:Int} {c:X0}: ∀u∈[I a,I b,S c,I d],u.oneCell'=true:=by
 intro u e
 simp only[List.mem_cons,List.not_mem_nil,or_false] at e
 rcases e with rfl | rfl | rfl | rfl<;>rfl
set_option maxRecDepth 100000 in
theorem Dr {j k:Operand} {f b c g a i:Int} {d e:X0} (h:K (.bool (decide ((⟨f,b,d,c⟩:Val)=⟨g,a,e,i⟩))) w):Q3 P .eql T.g j k (.agg [I f,I b,S d,I c].toArray) (.agg [I g,I a,S e,I i].toArray) w K:=
 X1I (by kernel_rfl) (by kernel_rfl) (by kernel_rfl) (X1s ⟨f,b,d,c⟩ ⟨g,a,e,i⟩) h
theorem Sl.elV {v:Value} {xs:List Val} (h:Sl 4 M5 σ v xs) {i:Nat} (a:i<xs.length):Z4 σ (Vq 4 v i) [I xs[i].sort,I xs[i].n,S xs[i].s,I xs[i].ref]∧M5 σ xs[i] [I xs[i].sort,I xs[i].n,S xs[i].s,I xs[i].ref]:=by
 obtain ⟨cs,c,d,rfl,b⟩:=h.el a;exact ⟨c,rfl,b⟩
theorem Sl.elO {v:Value} {xs:List Cel} (h:Sl 2 R0 σ v xs) {i:Nat} (c:i<xs.length): ∃a,Z4 σ (Vq 2 v i) [S xs[i].kind,a]∧Sl 4 M5 σ a xs[i].vals∧xs[i].kind.length≤U0:=by
 obtain ⟨cs,e,f,a,rfl,b,d⟩:=h.el c;exact ⟨a,e,b,d⟩
theorem X31 (b:X2 w σ) (hh:R9 σ hp tv room cs) (h:K (I cs.length) w):Q1 P F.c2 [hp] w K:=Q1W (by
 obtain ⟨a,e,rfl,d,c⟩:=hh
 unfold Hn
 (try simp only[↓M1,M1,Mb,reduceIte])
 refine ld b d rfl ?_
 refine Q8 c ?_
 exact h)
theorem X0v (b:X2 w σ) (hh:R9 σ hp tv room cs) (h:K tv w):Q1 P F.bC [hp] w K:=Q00 (by
 obtain ⟨a,d,rfl,c,e⟩:=hh
 unfold Oe
 rw[L7,fa]
 exact ld b c rfl h)
theorem Q3R (d:X2 w σ) (hh:R9 σ hp tv room cs) (f:0≤W4 room cs) (m:room≤1048576) (h: ∀w',Below w.heap.size w w'→K (I (W4 room cs)) w'):Q1 P F.a7 [hp] w K:=Q1g (by
 obtain ⟨a,e,rfl,k,j⟩:=hh
 unfold Ed
 have i:=L9 cs
 unfold W4 at*
 refine U2 d ?_
 (repeat refine J5 Qd ?_)
 (intros;(repeat (rename_i c;subst c));(try simp only[↓M2,M2,Mb,reduceIte]))
 rename_i g b
 rw[G3 (by omega) (by omega)]
 exact h _ b.stp.bel)
theorem Q56 (c:X2 w σ) (hh:R9 σ hp tv room cs) {r:Int} (h:K (.bool (M0 cs r)) w):Q1 P F.aF [hp,I r] w K:=Q1U (by
 obtain ⟨a,f,rfl,e,d⟩:=hh
 unfold Ho
 refine K8 ?_
 unfold M0 at h
 cases b:decide ((0:Int)≤r) with
 | false=>
  rw[b] at h
  (try simp only[↓M1,M1,Mb,reduceIte])
  exact h
 | true=>
  rw[b] at h
  (try simp only[↓M1,M1,Mb,reduceIte])
  refine ld c e rfl ?_
  refine Q8 d ?_
  refine Z0 ?_
  (try simp only[↓M1,M1,Mb,reduceIte])
  exact h)
theorem Q7d (d:X2 w σ) (hh:R9 σ hp tv room cs) {r:Int} (h:K (S (D9 cs r)) w):Q1 P F.az [hp,I r] w K:=Q0O (by
 unfold Ew
 refine Q56 d hh ?_
 unfold D9 at h
 cases c:M0 cs r with
 | false=>rw[c] at h;(try simp only[↓M1,M1,Mb,reduceIte]);exact h
 | true=>
  rw[c] at h
  obtain ⟨i,rfl,b⟩:=E0.1 c
  rw[L4 b] at h
  obtain ⟨a,k,rfl,g,e⟩:=hh
  obtain ⟨j,f,_,_⟩:=Sl.elO e b
  (try simp only[↓M1,M1,Mb,reduceIte])
  refine ld d g rfl ?_
  refine Y3 e b ?_
  (try simp only[↓M1,M1,Mb,reduceIte])
  exact ld d f rfl h)
theorem X21 (d:X2 w σ) (hh:R9 σ hp tv room cs) {r:Int} (h:K (I (Q5W cs r)) w):Q1 P F.bL [hp,I r] w K:=Q0u (by
 unfold En
 refine Q56 d hh ?_
 unfold Q5W at h
 cases c:M0 cs r with
 | false=>rw[c] at h;(try simp only[↓M1,M1,Mb,reduceIte]);exact h
 | true=>
  rw[c] at h
  obtain ⟨i,rfl,b⟩:=E0.1 c
  rw[L4 b] at h
  obtain ⟨a,m,rfl,f,e⟩:=hh
  obtain ⟨k,g,j,_⟩:=Sl.elO e b
  (try simp only[↓M1,M1,Mb,reduceIte])
  refine ld d f rfl ?_
  refine Y3 e b ?_
  (try simp only[↓M1,M1,Mb,reduceIte])
  refine ld d g rfl ?_
  exact Q8 j h)
theorem Q7o (d:X2 w σ) (hh:R9 σ hp tv room cs) {r i:Int} (h:K (I (E4 cs r i)) w):Q1 P F.aT [hp,I r,I i] w K:=Q05 (by
 unfold Df
 refine Q56 d hh ?_
 unfold E4 at h
 cases e:M0 cs r with
 | false=>rw[e] at h;(try simp only[↓M1,M1,Mb,reduceIte]);exact h
 | true=>
  rw[e] at h
  obtain ⟨j,rfl,c⟩:=E0.1 e
  rw[L4 c] at h
  obtain ⟨a,p,rfl,m,f⟩:=hh
  obtain ⟨o,k,n,_⟩:=Sl.elO f c
  (try simp only[↓M1,M1,Mb,reduceIte])
  by_cases g:i<0
  ·rw[decide_eq_true g]
   (try simp only[↓M1,M1,Mb,reduceIte])
   rw[if_pos rfl,if_neg (by omega)] at h
   exact h
  ·rw[decide_eq_false g]
   (try simp only[↓M1,M1,Mb,reduceIte])
   refine ld d m rfl ?_
   refine Y3 f c ?_
   (try simp only[↓M1,M1,Mb,reduceIte])
   refine ld d k rfl ?_
   refine Q8 n ?_
   refine K8 ?_
   (try simp only[↓M1,M1,Mb,reduceIte])
   refine Q7 (fun b=>?_) (fun b=>?_)
   ·have b:(cs[j].vals.length:Int)≤i:=by simpa using b
    rw[if_pos rfl,if_neg (by omega)] at h
    exact h
   ·have b: ¬(cs[j].vals.length:Int)≤i:=by simpa using b
    rw[if_pos rfl,if_pos (by omega)] at h
    exact h)
theorem X2W (t:X2 w σ) (hh:R9 σ hp tv room cs) {r i:Int} (h: ∀w' σ',Stp w σ w' σ'→K (.tuple #[.agg [I (Hg cs r i).sort,I (Hg cs r i).n,S (Hg cs r i).s,I (Hg cs r i).ref].toArray,I (E4 cs r i)]) w'):Q1 P F.c1 [hp,I r,I i] w K:=Q1K (by
 unfold Hk
 refine N0 t fun b w1 σ1 y c o=>?_
 have k:=hh.lift ⟨c.le⟩
 refine Q7o c.sat k ?_
 refine Jb ?_
 unfold Hg at h
 by_cases g:E4 cs r i=0
 ·have e:decide (E4 cs r i=0)=true:=decide_eq_true g
  rw[if_pos g,g] at h
  obtain ⟨a,H,rfl,C,u⟩:=k
  simp only[e,Bool.not_true,↓M1,M1,Mb,reduceIte]
  obtain ⟨j,m,rfl,rfl,p,q⟩:=Lg g
  rw[L4 p,Int.toNat_natCast] at h
  obtain ⟨E,B,v,_⟩:=Sl.elO u p
  obtain ⟨z,A⟩:=Sl.elV v q
  refine ld c.sat C rfl ?_
  refine Y3 u p ?_
  (try simp only[↓M1,M1,Mb,reduceIte])
  refine ld c.sat B rfl ?_
  refine Y3 v q ?_
  refine Y4 c.sat z rfl ?_
  refine F8 o c (M8 y (Stp.refl t)) rfl rfl (Rep.one A) fun D f d=>?_
  refine V1 d rfl ?_
  have e:cs[j].vals.getD m Val.zero=cs[j].vals[m]:=by rw[List.getD_eq_getElem?_getD,List.getElem?_eq_getElem q];rfl
  rw[e] at h
  exact h _ _ f.stp
 ·have e:decide (E4 cs r i=0)=false:=by simpa using g
  rw[if_neg g] at h
  simp only[e,Bool.not_false,↓M1,M1,Mb,reduceIte]
  refine W0 (cells:= #[I 0,I 0,S [],I 0]) (by kernel_rfl) ?_
  refine F8 (ds:=[I 0,I 0,S [],I 0]) o c (M8 y (Stp.refl t)) rfl rfl Rq fun D f d=>?_
  refine V1 d rfl ?_
  exact h _ _ f.stp)
theorem Q9e {k:X0} (o:X2 w σ) (h: ∀w' σ',Stp w σ w' σ'→K (.agg [I (L8 k).sort,I (L8 k).n,S (L8 k).s,I (L8 k).ref].toArray) w'):Q1 P F.cv [S k] w K:=Q6L (by
 unfold Q26
 refine N0 o fun b w1 σ1 r i m=>?_
 have hB:=M8 r (Stp.refl o)
 unfold L8 at h
 have a: ∀(n:Int) (t:K (.agg [I n,I 0,S [],I 0].toArray)=K (.agg [I n,I 0,S [],I 0].toArray)),(∀w' σ',Stp w σ w' σ'→K (.agg [I n,I 0,S [],I 0].toArray) w')→Y0 P T.g (.pointer (some ⟨b,0,none⟩)) (.agg #[I n,I 0,S [],I 0]) w1 fun _ j=>Y8 P T.g (.pointer (some ⟨b,0,none⟩)) j fun q=>K q j:=fun n _ p=>
  F8 (ds:=[I n,I 0,S [],I 0]) m i hB rfl rfl Rq fun j g f=>V1 f rfl (p _ _ g.stp)
 refine K0 ?_
 by_cases d:k=P6
 ·simp only[if_pos d] at h
  rw[show decide (k=[105,110,116])=true from decide_eq_true d]
  refine J4 ?_
  refine W0 (cells:= #[I 1,I 0,S [],I 0]) (by kernel_rfl) ?_
  exact a 1 rfl h
 simp only[if_neg d] at h
 rw[show decide (k=[105,110,116])=false from decide_eq_false d]
 refine Z6 ?_
 refine K0 ?_
 by_cases e:k=Ja
 ·simp only[if_pos e] at h
  rw[show decide (k=[98,111,111,108])=true from decide_eq_true e]
  refine J4 ?_
  refine W0 (cells:= #[I 2,I 0,S [],I 0]) (by kernel_rfl) ?_
  exact a 2 rfl h
 simp only[if_neg e] at h
 rw[show decide (k=[98,111,111,108])=false from decide_eq_false e]
 refine Z6 ?_
 refine K0 ?_
 by_cases c:k=D0
 ·simp only[if_pos c] at h
  rw[show decide (k=[116,101,120,116])=true from decide_eq_true c]
  refine J4 ?_
  refine W0 (cells:= #[I 3,I 0,S [],I 0]) (by kernel_rfl) ?_
  exact a 3 rfl h
 ·simp only[if_neg c] at h
  rw[show decide (k=[116,101,120,116])=false from decide_eq_false c]
  refine Z6 ?_
  refine W0 (cells:= #[I 0,I 0,S [],I 0]) (by kernel_rfl) ?_
  exact a 0 rfl h)
def W6 (s:X0):Bool:=decide (s.length≤4096)&&Lib.validD s
theorem Q7W (hh:R9 σ hp tv room cs) (r:Int):(D9 cs r).length≤U0:=by
 unfold D9
 split
 ·rename_i c
  obtain ⟨i,rfl,b⟩:=E0.1 c
  rw[L4 b]
  obtain ⟨a,e,rfl,f,d⟩:=hh
  exact (Sl.elO d b).choose_spec.2.2
 ·exact Nat.zero_le _
theorem X2j (hh:R9 σ hp tv room cs) (v:Val):(P1 W6 cs v).length≤U0:=by
 unfold P1
 split
 ·decide
 split
 ·decide
 split
 ·decide
 split
 ·decide
 split
 ·exact Q7W hh _
 ·exact Nat.zero_le _
theorem Q6b (n:Int):n=n % 2↔n=0∨n=1:=by omega
set_option maxHeartbeats 1000000 in
theorem X45 (X:X2 w σ) (W:Glb σ) (hh:R9 σ hp tv room cs) {v:Val} (Y:v.s.length≤U0) (h: ∀w' σ',Stp w σ w' σ'→K (S (P1 W6 cs v)) w'):Q1 P F.ce [hp, .agg [I v.sort,I v.n,S v.s,I v.ref].toArray] w K:=Q2y (by
 unfold Sw
 refine Y9 X fun q w1 σ1 g k=>?_
 have f:=g.sat
 refine Y4 f k rfl ?_
 refine W0 (cells:= #[I 0,I 0,S [],I 0]) (by kernel_rfl) ?_
 refine Dr ?_
 unfold P1 at h
 by_cases z:v=Val.zero
 ·rw[if_pos z] at h
  have:decide ((⟨v.sort,v.n,v.s,v.ref⟩:Val)=⟨0,0,[],0⟩)=true:=decide_eq_true z
  rw[this]
  exact J4 (h _ _ g)
 rw[if_neg z] at h
 have:decide ((⟨v.sort,v.n,v.s,v.ref⟩:Val)=⟨0,0,[],0⟩)=false:=decide_eq_false z
 rw[this]
 refine Z6 ?_
 refine Y4 f k rfl ?_
 refine W2 ?_
 refine ld f k rfl ?_
 refine W0 (cells:= #[I 1,I v.n,S [],I 0]) (by kernel_rfl) ?_
 refine Dr ?_
 by_cases B:v=⟨1,v.n,[],0⟩
 ·rw[if_pos B] at h
  have:decide ((⟨v.sort,v.n,v.s,v.ref⟩:Val)=⟨1,v.n,[],0⟩)=true:=decide_eq_true B
  rw[this]
  exact J4 (h _ _ g)
 rw[if_neg B] at h
 have:decide ((⟨v.sort,v.n,v.s,v.ref⟩:Val)=⟨1,v.n,[],0⟩)=false:=decide_eq_false B
 rw[this]
 refine Z6 ?_
 refine Y4 f k rfl ?_
 refine W2 ?_
 refine ld f k rfl ?_
 refine X2I ?_
 refine W0 (cells:= #[I 2,I (v.n % 2),S [],I 0]) (by kernel_rfl) ?_
 refine Dr ?_
 have p:(v=⟨2,v.n % 2,[],0⟩)↔(v=⟨2,v.n,[],0⟩∧(v.n=0∨v.n=1)):=by
  obtain ⟨a,b,c,d⟩:=v
  simp only[Val.mk.injEq,true_and]
  constructor
  ·rintro ⟨D,O,p⟩;exact ⟨⟨D,p⟩,(Q6b b).1 O⟩
  ·rintro ⟨⟨D,p⟩,O⟩;exact ⟨D,(Q6b b).2 O,p⟩
 by_cases u:v=⟨2,v.n % 2,[],0⟩
 ·rw[if_pos (p.1 u)] at h
  have:decide ((⟨v.sort,v.n,v.s,v.ref⟩:Val)=⟨2,v.n % 2,[],0⟩)=true:=decide_eq_true u
  rw[this]
  exact J4 (h _ _ g)
 rw[if_neg (fun e=>u (p.2 e))] at h
 have:decide ((⟨v.sort,v.n,v.s,v.ref⟩:Val)=⟨2,v.n % 2,[],0⟩)=false:=decide_eq_false u
 rw[this]
 refine Z6 ?_
 refine Y4 f k rfl ?_
 refine W2 ?_
 refine ld f k rfl ?_
 refine W0 (cells:= #[I 3,I 0,S v.s,I 0]) (by kernel_rfl) ?_
 refine Dr ?_
 have i: ∀{A L},Stp w σ A L→SLe σ1 L→(∀w' σ',Stp w σ w' σ'→K (S (if v=⟨4,0,[],v.ref⟩ then D9 cs v.ref else [])) w')→Q2 P T.g (.pointer (some q)) A fun N w=>
  Q2 P T.e (.pointer (some (q.add 3))) w fun C w=>
  H1 P T.g [(0,(.int .i64 4)),(3,C)] w fun R w=>
  Q3 P .eql T.g (.tmp 40) (.tmp 43) N R w fun E w=>
  X1 E (
   Q2 P T.e (.pointer (some (q.add 3))) w fun Q w=>
   Q1 P F.az [hp,Q] w fun M w=>
   K M w) (
   K (.string ⟨#[]⟩) w):=by
  intro A L j H h
  have m:=k.lift H
  refine Y4 j.sat m rfl ?_
  refine ld j.sat m rfl ?_
  refine W0 (cells:= #[I 4,I 0,S [],I v.ref]) (by kernel_rfl) ?_
  refine Dr ?_
  by_cases y:v=⟨4,0,[],v.ref⟩
  ·rw[if_pos y] at h
   have:decide ((⟨v.sort,v.n,v.s,v.ref⟩:Val)=⟨4,0,[],v.ref⟩)=true:=decide_eq_true y
   rw[this]
   refine J4 ?_
   refine ld j.sat m rfl ?_
   exact Q7d j.sat (hh.lift ⟨j.le⟩) (h _ _ j)
  ·rw[if_neg y] at h
   have:decide ((⟨v.sort,v.n,v.s,v.ref⟩:Val)=⟨4,0,[],v.ref⟩)=false:=decide_eq_false y
   rw[this]
   exact Z6 (h _ _ j)
 by_cases t:v=⟨3,0,v.s,0⟩
 ·have:decide ((⟨v.sort,v.n,v.s,v.ref⟩:Val)=⟨3,0,v.s,0⟩)=true:=decide_eq_true t
  rw[this]
  (try simp only[↓M1,M1,Mb,reduceIte])
  refine ld f k rfl ?_
  refine Fh X8 ?_
  refine Q4Z ?_
  by_cases U:v.s.length≤4096
  ·rw[decide_eq_true (show (v.s.length:Int)≤4096 by omega)]
   (try simp only[↓M1,M1,Mb,reduceIte])
   refine ld f k rfl ?_
   refine Tj Y (W.tabs _ (fun b o e=>f b o (g.le b o e))) fun A J=>?_
   have r:=g.trans (Stp.of_below f J)
   cases V:Lib.validD v.s with
   | true=>
    (try simp only[↓M1,M1,Mb,reduceIte])
    rw[if_pos ⟨t,by simp[W6,V,U]⟩] at h
    exact h _ _ r
   | false=>
    (try simp only[↓M1,M1,Mb,reduceIte])
    rw[if_neg (by rintro ⟨_,e⟩;simp[W6,V] at e)] at h
    exact i r (SLe.refl _) h
  ·rw[decide_eq_false (show¬(v.s.length:Int)≤4096 by omega)]
   (try simp only[↓M1,M1,Mb,reduceIte])
   rw[if_neg (by rintro ⟨_,e⟩;simp[W6,U] at e)] at h
   exact i g (SLe.refl _) h
 ·have:decide ((⟨v.sort,v.n,v.s,v.ref⟩:Val)=⟨3,0,v.s,0⟩)=false:=decide_eq_false t
  rw[this]
  (try simp only[↓M1,M1,Mb,reduceIte])
  rw[if_neg (fun e=>t e.1)] at h
  exact i g (SLe.refl _) h)
end Go.Proofs.YtjdiakhipmggjaaGreatDoor

namespace Go.Proofs.YtjdiakhipmggjaaGreatDoor
open Go.Emb Go.RowKit Go.Kd Go.Hm
variable {w : World} {K : Value → World → Prop} {σ : Q5}
theorem Fs {β:Type} {xs:List Val} {v f:Value} (a:β→Val→Bool×β) (i:β) (b:β→World→Prop) (D:Nat→Prop) (j: ∀s w,b s w→X2 w σ) (A:b i w) (u:Sl 4 M5 σ v xs)
 (y: ∀s x cs (w1:World) (K:Value→World→Prop),x∈xs→Kpt D w w1→b s w1→M5 σ x cs→cs.length=4→(∀w',Kpt D w w'→b (a s x).2 w'→K (.bool (a s x).1) w')→Z3 P f [.agg cs.toArray] w1 K)
 (h: ∀w',Kpt D w w'→b (J3 a i xs 0).2 w'→K (I (L5 (J3 a i xs 0).1)) w'):Q1 P F.a3 [v,f] w K:=Yg (by
 unfold G4
 ((try simp only[↓M1,M1,Mb,reduceIte]);repeat ((first | refine ld (by assumption) (by assumption) rfl ?_ | refine X7 (by assumption) (by assumption) rfl ?_ | refine Q8 (by assumption) ?_);(try simp only[↓M1,M1,Mb,reduceIte])))
 refine U1 xs.length (fun n w'=>Kpt D w w'∧ ∃s,b s w'∧J3 a i xs 0=J3 a s (xs.drop n) n) ⟨Kpt.refl,i,A,rfl⟩ fun n w1 d E k=>?_
 obtain ⟨t,s,k,e⟩:=k
 have o:=j s w1 k
 ((try simp only[↓M1,M1,Mb,reduceIte]);repeat ((first | refine ld (by assumption) (by assumption) rfl ?_ | refine X7 (by assumption) (by assumption) rfl ?_ | refine Q8 (by assumption) ?_);(try simp only[↓M1,M1,Mb,reduceIte])))
 refine Q7 (fun q=>?_) (fun q=>?_)
 ·have c:n<xs.length:=by simpa using q
  refine M7 u c fun p cs C g z=>?_
  refine Y4 o C g ?_
  refine y s xs[n] cs w1 _ (List.getElem_mem c) t k z g fun B m l=>?_
  rw[List.drop_eq_getElem_cons c] at e
  simp only[J3] at e
  refine Q7 (fun r=>?_) (fun r=>?_)
  ·rw[r] at e
   have:=h B m
   rw[e] at this
   exact this l
  ·rw[r] at e
   ((try simp only[↓M1,M1,Mb,reduceIte]);repeat ((first | refine ld (by assumption) (by assumption) rfl ?_ | refine X7 (by assumption) (by assumption) rfl ?_ | refine Q8 (by assumption) ?_);(try simp only[↓M1,M1,Mb,reduceIte])))
   exact Y5 u.max c ⟨m,_,l,by simpa using e⟩
 ·have c: ¬n<xs.length:=by simpa using q
  rw[List.drop_eq_nil_of_le (by omega)] at e
  have:=h w1 t
  rw[e] at this
  exact this k)
theorem Ce {β:Type} {xs:List Val} {v f:Value} (b:β→Val→Bool×β) (d:β) (a:β→World→Prop) (D:Nat→Prop) (c: ∀s w,a s w→X2 w σ) (k:a d w) (i:Sl 4 M5 σ v xs)
 (g: ∀s x cs (w1:World) (K:Value→World→Prop),x∈xs→Kpt D w w1→a s w1→M5 σ x cs→cs.length=4→(∀w',Kpt D w w'→a (b s x).2 w'→K (.bool (b s x).1) w')→Z3 P f [.agg cs.toArray] w1 K)
 (h: ∀w',Kpt D w w'→a (J3 b d xs 0).2 w'→K (.bool (J3 b d xs 0).1.isSome) w'):Q1 P F.l [v,f] w K:=Xa (by
 unfold C9
 refine Fs b d a D c k i g fun w1 e j=>?_
 (try simp only[↓M1,M1,Mb,reduceIte])
 rw[Di]
 exact h w1 e j)
theorem Ru {xs:List Val} {v f:Value} (p:Val→Bool) (hs:X2 w σ) (hv:Sl 4 M5 σ v xs)
 (hf: ∀x cs (w1:World) (K:Value→World→Prop),x∈xs→X2 w1 σ→M5 σ x cs→cs.length=4→(∀w',Below w1.heap.size w1 w'→K (.bool (p x)) w')→Z3 P f [.agg cs.toArray] w1 K)
 (h: ∀w',Below w.heap.size w w'→K (.bool (xs.any p)) w'):Q1 P F.l [v,f] w K:=by
 refine Ce (fun (_:Unit) x=>(p x,())) () (fun _ w'=>Below w.heap.size w w') (fun _=>False) (fun _ w' hb=>hs.below hb) (Below.refl _ _) hv (fun s x cs w1 K hx hk hi hr hl hK=>hf x cs w1 K hx (hs.below hi) hr hl fun w' hb=>hK w' (.of_below (bt hi hb)) (bt hi hb)) fun w' hk hi=>?_
 rw[K5]
 simpa using h w' hi
theorem Ky {β:Type} {xs:List Cel} {v f:Value} (a:β→Cel→Bool×β) (i:β) (b:β→World→Prop) (D:Nat→Prop) (j: ∀s w,b s w→X2 w σ) (A:b i w) (u:Sl 2 R0 σ v xs)
 (y: ∀s x cs (w1:World) (K:Value→World→Prop),x∈xs→Kpt D w w1→b s w1→R0 σ x cs→cs.length=2→(∀w',Kpt D w w'→b (a s x).2 w'→K (.bool (a s x).1) w')→Z3 P f [.agg cs.toArray] w1 K)
 (h: ∀w',Kpt D w w'→b (J3 a i xs 0).2 w'→K (I (L5 (J3 a i xs 0).1)) w'):Q1 P F.a9 [v,f] w K:=Zq (by
 unfold I0
 ((try simp only[↓M1,M1,Mb,reduceIte]);repeat ((first | refine ld (by assumption) (by assumption) rfl ?_ | refine X7 (by assumption) (by assumption) rfl ?_ | refine Q8 (by assumption) ?_);(try simp only[↓M1,M1,Mb,reduceIte])))
 refine U1 xs.length (fun n w'=>Kpt D w w'∧ ∃s,b s w'∧J3 a i xs 0=J3 a s (xs.drop n) n) ⟨Kpt.refl,i,A,rfl⟩ fun n w1 d E k=>?_
 obtain ⟨t,s,k,e⟩:=k
 have o:=j s w1 k
 ((try simp only[↓M1,M1,Mb,reduceIte]);repeat ((first | refine ld (by assumption) (by assumption) rfl ?_ | refine X7 (by assumption) (by assumption) rfl ?_ | refine Q8 (by assumption) ?_);(try simp only[↓M1,M1,Mb,reduceIte])))
 refine Q7 (fun q=>?_) (fun q=>?_)
 ·have c:n<xs.length:=by simpa using q
  refine M7 u c fun p cs C g z=>?_
  refine Y4 o C g ?_
  refine y s xs[n] cs w1 _ (List.getElem_mem c) t k z g fun B m l=>?_
  rw[List.drop_eq_getElem_cons c] at e
  simp only[J3] at e
  refine Q7 (fun r=>?_) (fun r=>?_)
  ·rw[r] at e
   have:=h B m
   rw[e] at this
   exact this l
  ·rw[r] at e
   ((try simp only[↓M1,M1,Mb,reduceIte]);repeat ((first | refine ld (by assumption) (by assumption) rfl ?_ | refine X7 (by assumption) (by assumption) rfl ?_ | refine Q8 (by assumption) ?_);(try simp only[↓M1,M1,Mb,reduceIte])))
   exact Y5 u.max c ⟨m,_,l,by simpa using e⟩
 ·have c: ¬n<xs.length:=by simpa using q
  rw[List.drop_eq_nil_of_le (by omega)] at e
  have:=h w1 t
  rw[e] at this
  exact this k)
theorem Cj {β:Type} {xs:List Cel} {v f:Value} (b:β→Cel→Bool×β) (d:β) (a:β→World→Prop) (D:Nat→Prop) (c: ∀s w,a s w→X2 w σ) (k:a d w) (i:Sl 2 R0 σ v xs)
 (g: ∀s x cs (w1:World) (K:Value→World→Prop),x∈xs→Kpt D w w1→a s w1→R0 σ x cs→cs.length=2→(∀w',Kpt D w w'→a (b s x).2 w'→K (.bool (b s x).1) w')→Z3 P f [.agg cs.toArray] w1 K)
 (h: ∀w',Kpt D w w'→a (J3 b d xs 0).2 w'→K (.bool (J3 b d xs 0).1.isSome) w'):Q1 P F.o [v,f] w K:=Xy (by
 unfold B9
 refine Ky b d a D c k i g fun w1 e j=>?_
 (try simp only[↓M1,M1,Mb,reduceIte])
 rw[Di]
 exact h w1 e j)
theorem Ck {xs:List Cel} {v f:Value} (p:Cel→Bool) (hs:X2 w σ) (hv:Sl 2 R0 σ v xs)
 (hf: ∀x cs (w1:World) (K:Value→World→Prop),x∈xs→X2 w1 σ→R0 σ x cs→cs.length=2→(∀w',Below w1.heap.size w1 w'→K (.bool (p x)) w')→Z3 P f [.agg cs.toArray] w1 K)
 (h: ∀w',Below w.heap.size w w'→K (.bool (xs.any p)) w'):Q1 P F.o [v,f] w K:=by
 refine Cj (fun (_:Unit) x=>(p x,())) () (fun _ w'=>Below w.heap.size w w') (fun _=>False) (fun _ w' hb=>hs.below hb) (Below.refl _ _) hv (fun s x cs w1 K hx hk hi hr hl hK=>hf x cs w1 K hx (hs.below hi) hr hl fun w' hb=>hK w' (.of_below (bt hi hb)) (bt hi hb)) fun w' hk hi=>?_
 rw[K5]
 simpa using h w' hi
end Go.Proofs.YtjdiakhipmggjaaGreatDoor
