/- Parts of a proof about the given program: its functions as texts of their own, what each computes, plain laws of that. The conditions of each stand in its statement. -/
import Derived.Test.YtjdiakhipmggjaaGreatDoorB3
import Derived.Shelf.Strings.Builder1
import Derived.Shelf.Strings.Builder2
import Derived.Shelf.Strings.OnBuilder
import Derived.Shelf.Strings.Trim
import Derived.Shelf.Small.Utf8
import Derived.Shelf.Small.Strs
import Derived.Shelf.Strings.BuilderF
import Derived.Shelf.Strings.BuilderK
import Derived.Shelf.Strings.Builder2Cap
import Derived.Shelf.Strings.Search1
import Derived.Shelf.Strings.Search2
import Derived.Shelf.Strings.Search3
import Derived.Shelf.Strings.Cut
import Derived.Shelf.LaysM
import Derived.Shelf.Strings.Shaped
import Derived.Shelf.Strings.Prefix
import Derived.Shelf.Unicode.Decode
import Derived.Shelf.Strings.Runes
import Derived.Shelf.Strings.AsciiSet
import Derived.Shelf.Unicode.DecodeSlow
import Derived.Shelf.Unicode.DecodeAny
import Derived.Shelf.Unicode.DecodeLast
import Derived.Ground.Names2Prog
import Derived.Shelf.Slices.Clone
import Derived.Shelf.Unicode.ValidAny
import Derived.Test.YtjdiakhipmggjaaGreatDoorProg
import Derived.Test.YtjdiakhipmggjaaGreatDoorRows
import Derived.Lib.LaidU8T
import Derived.OpenShut
import Derived.MakeChecks
import Derived.WideShapes
import Derived.Lib.AsciiSet
import Derived.Lib.Join
import Derived.Maps.RangeRun
set_option linter.unnecessarySimpa false
set_option linter.defProp false
set_option linter.unusedSectionVars false
set_option linter.unusedVariables false
set_option linter.unusedSimpArgs false
namespace Go.Proofs
open Go.Shelf
def Tryz.lays156_ren : Go.Shelf.Ren := ⟨fun | 156 => 143 | 165 => 176 | 166 => 177 | 169 => 178 | 240 => 200 | 241 => 201 | 276 => 213 | 277 => 214 | n => n, fun | 31 => 54 | 9 => 9 | 3 => 3 | 4 => 4 | 0 => 0 | 20 => 20 | 72 => 205 | 76 => 208 | 70 => 202 | 37 => 203 | 75 => 207 | 127 => 220 | 164 => 230 | 5 => 5 | 80 => 210 | n => n, fun | n => n⟩
theorem Tryz.lays156 : Go.Proofs.Lays.n156 Tryz.prog Tryz.lays156_ren := {
  mixed := by kernel_rfl
  f156 := Tryz.func143.trans (congrArg some (by kernel_rfl))
  f165 := Tryz.func176.trans (congrArg some (by kernel_rfl))
  f166 := Tryz.func177.trans (congrArg some (by kernel_rfl))
  f169 := Tryz.func178.trans (congrArg some (by kernel_rfl))
  f240 := Tryz.func200.trans (congrArg some (by kernel_rfl))
  f241 := Tryz.func201.trans (congrArg some (by kernel_rfl))
  f276 := Tryz.func213.trans (congrArg some (by kernel_rfl))
  f277 := Tryz.func214.trans (congrArg some (by kernel_rfl))
  t0 := Tryz.underlying0
  a0 := Tryz.isAgg0
  z0 := Tryz.sizeOf0
  v0 := Tryz.zeroValue0
  t3 := Tryz.underlying3
  a3 := Tryz.isAgg3
  z3 := Tryz.sizeOf3
  v3 := Tryz.zeroValue3
  t4 := Tryz.underlying4
  a4 := Tryz.isAgg4
  z4 := Tryz.sizeOf4
  v4 := Tryz.zeroValue4
  t9 := Tryz.underlying9
  a9 := Tryz.isAgg9
  z9 := Tryz.sizeOf9
  v9 := Tryz.zeroValue9
  t20 := Tryz.underlying20
  a20 := Tryz.isAgg20
  z20 := Tryz.sizeOf20
  v20 := Tryz.zeroValue20
  t31 := Tryz.underlying54
  a31 := Tryz.isAgg54
  z31 := Tryz.sizeOf54
  v31 := Tryz.zeroValue54
  t37 := Tryz.underlying203
  a37 := Tryz.isAgg203
  z37 := Tryz.sizeOf203
  v37 := Tryz.zeroValue203
  t70 := Tryz.underlying202
  a70 := Tryz.isAgg202
  z70 := Tryz.sizeOf202
  v70 := Tryz.zeroValue202
  t72 := Tryz.underlying205
  a72 := Tryz.isAgg205
  z72 := Tryz.sizeOf205
  v72 := Tryz.zeroValue205
  t75 := Tryz.underlying207
  a75 := Tryz.isAgg207
  z75 := Tryz.sizeOf207
  v75 := Tryz.zeroValue207
  t76 := Tryz.underlying208
  a76 := Tryz.isAgg208
  z76 := Tryz.sizeOf208
  v76 := Tryz.zeroValue208
  t127 := Tryz.underlying220
  a127 := Tryz.isAgg220
  z127 := Tryz.sizeOf220
  v127 := Tryz.zeroValue220
  t164 := Tryz.underlying230
  a164 := Tryz.isAgg230
  z164 := Tryz.sizeOf230
  v164 := Tryz.zeroValue230 }
theorem Tryz.Builder_Extra_156 : Builder.Extra Tryz.prog Tryz.lays156_ren := {
  sizeBuilder := by kernel_rfl
  liesBuilder := by kernel_rfl
  t5 := Tryz.underlying5
  a5 := Tryz.isAgg5
  z5 := Tryz.sizeOf5
  v5 := Tryz.zeroValue5
  infoByte := by kernel_rfl
  cellsByte := by kernel_rfl
  sizeByte := by kernel_rfl
  neB5 := by decide }
open Go.RowKit in
theorem Tryz.strings_Join_none (a : Option Addr) (c : Nat) (sep : ByteArray) (w : World) :
    Calls Tryz.prog 143 #[.slice a 0 c, .string sep] w fun e w' => e = .returned (.string ⟨#[]⟩) ∧ w' = w := Any.strings_Join_none Tryz.lays156 Tryz.Builder_Extra_156 a c sep w
open Go.RowKit in
theorem Tryz.strings_Join (bk o c : Nat) (xs : List ByteArray) (sep : ByteArray) (w : World) (hcells : ∀ (j : Nat) x, xs[j]? = some x → w.cell? ⟨bk, o + j, none⟩ = some (.string x)) (hbk : bk < w.heap.size) (hN : xs.length ≤ 140737488355328) (hcap : xs.length ≤ c) (hlen : (Lib.join (xs.map (·.data.toList)) sep.data.toList).length ≤ 140737488355328) :
    Calls Tryz.prog 143 #[.slice (some ⟨bk, o, none⟩) xs.length c, .string sep] w fun e w' => e = .returned (.string ⟨(Lib.join (xs.map (·.data.toList)) sep.data.toList).toArray⟩) ∧ Below w.heap.size w w' := Any.strings_Join Tryz.lays156 Tryz.Builder_Extra_156 bk o c xs sep w hcells hbk hN hcap hlen
open Go.RowKit in
def Tryz.lays144_ren : Go.Shelf.Ren := ⟨fun | 144 => 210 | 143 => 223 | 219 => 228 | 217 => 227 | 225 => 220 | 224 => 219 | 267 => 232 | 266 => 231 | 314 => 234 | n => n, fun | 9 => 9 | 4 => 4 | 3 => 3 | 5 => 5 | 46 => 158 | 146 => 242 | 51 => 241 | n => n, fun | 1 => 4 | n => n⟩
theorem Tryz.lays144 : Go.Proofs.Lays.n144 Tryz.prog Tryz.lays144_ren := {
  mixed := by kernel_rfl
  f143 := Tryz.func223.trans (congrArg some (by kernel_rfl))
  f144 := Tryz.func210.trans (congrArg some (by kernel_rfl))
  f217 := Tryz.func227.trans (congrArg some (by kernel_rfl))
  f219 := Tryz.func228.trans (congrArg some (by kernel_rfl))
  f224 := Tryz.func219.trans (congrArg some (by kernel_rfl))
  f225 := Tryz.func220.trans (congrArg some (by kernel_rfl))
  f266 := Tryz.func231.trans (congrArg some (by kernel_rfl))
  f267 := Tryz.func232.trans (congrArg some (by kernel_rfl))
  f314 := Tryz.func234.trans (congrArg some (by kernel_rfl))
  t3 := Tryz.underlying3
  a3 := Tryz.isAgg3
  z3 := Tryz.sizeOf3
  v3 := Tryz.zeroValue3
  t4 := Tryz.underlying4
  a4 := Tryz.isAgg4
  z4 := Tryz.sizeOf4
  v4 := Tryz.zeroValue4
  t5 := Tryz.underlying5
  a5 := Tryz.isAgg5
  z5 := Tryz.sizeOf5
  v5 := Tryz.zeroValue5
  t9 := Tryz.underlying9
  a9 := Tryz.isAgg9
  z9 := Tryz.sizeOf9
  v9 := Tryz.zeroValue9
  t46 := Tryz.underlying158
  a46 := Tryz.isAgg158
  z46 := Tryz.sizeOf158
  v46 := Tryz.zeroValue158
  t51 := Tryz.underlying241
  a51 := Tryz.isAgg241
  z51 := Tryz.sizeOf241
  v51 := Tryz.zeroValue241
  t146 := Tryz.underlying242
  a146 := Tryz.isAgg242
  z146 := Tryz.sizeOf242
  v146 := Tryz.zeroValue242
  g1 := by kernel_rfl }
open Go.RowKit Go.Lib in
theorem Tryz.strings_Contains_one (s : ByteArray) (c : UInt8) (w : World) :
    Calls Tryz.prog 210 #[.string s, .string ⟨#[c]⟩] w fun e w' => e = .returned (.bool (decide (0 ≤ Lib.indexByte s.data.toList c))) ∧ w' = w := Any.strings_Contains_one Tryz.lays144 s c w
def Tryz.lays227_ren : Go.Shelf.Ren := ⟨fun | 227 => 157 | n => n, fun | 9 => 9 | 116 => 190 | 4 => 4 | 0 => 0 | 3 => 3 | 5 => 5 | n => n, fun | n => n⟩
theorem Tryz.lays227 : Go.Proofs.Lays.n227 Tryz.prog Tryz.lays227_ren := {
  mixed := by kernel_rfl
  f227 := Tryz.func157.trans (congrArg some (by kernel_rfl))
  t0 := Tryz.underlying0
  a0 := Tryz.isAgg0
  z0 := Tryz.sizeOf0
  v0 := Tryz.zeroValue0
  t3 := Tryz.underlying3
  a3 := Tryz.isAgg3
  z3 := Tryz.sizeOf3
  v3 := Tryz.zeroValue3
  t4 := Tryz.underlying4
  a4 := Tryz.isAgg4
  z4 := Tryz.sizeOf4
  v4 := Tryz.zeroValue4
  t5 := Tryz.underlying5
  a5 := Tryz.isAgg5
  z5 := Tryz.sizeOf5
  v5 := Tryz.zeroValue5
  t9 := Tryz.underlying9
  a9 := Tryz.isAgg9
  z9 := Tryz.sizeOf9
  v9 := Tryz.zeroValue9
  t116 := Tryz.underlying190
  a116 := Tryz.isAgg190
  z116 := Tryz.sizeOf190 }
open Go.RowKit Go.Lib in
theorem Tryz.strings_makeASCIISet (hv116 : ∀ w, (zeroValue 190).run Tryz.prog w = .ok (.agg (Array.replicate 256 (.bool false))) w) (chars : ByteArray) (w : World) (hs : chars.size < 4294967281) (hascii : ∀ (j : Nat) b, chars.data.toList[j]? = some b → b.toNat < 128) :
    Calls Tryz.prog 157 #[.string chars] w fun e w' => e = .returned (.tuple #[.agg (Lib.setCells chars.data.toList), .bool true]) ∧ w' = w.alloc (.cells (Lib.setCells chars.data.toList) 190) := Any.strings_makeASCIISet Tryz.lays227 hv116 (by kernel_rfl) chars w hs hascii
open Go.RowKit Go.Lib in
def Tryz.lays196_ren : Go.Shelf.Ren := ⟨fun | 196 => 64 | 259 => 112 | n => n, fun | 9 => 9 | 4 => 4 | 3 => 3 | 5 => 5 | 12 => 12 | 119 => 154 | 0 => 0 | 46 => 158 | 139 => 157 | 138 => 156 | 53 => 184 | n => n, fun | 3 => 1 | 4 => 2 | n => n⟩
theorem Tryz.lays196 : Go.Proofs.Lays.n196 Tryz.prog Tryz.lays196_ren := {
  mixed := by kernel_rfl
  f196 := Tryz.func64.trans (congrArg some (by kernel_rfl))
  f259 := Tryz.func112.trans (congrArg some (by kernel_rfl))
  t0 := Tryz.underlying0
  a0 := Tryz.isAgg0
  z0 := Tryz.sizeOf0
  v0 := Tryz.zeroValue0
  t3 := Tryz.underlying3
  a3 := Tryz.isAgg3
  z3 := Tryz.sizeOf3
  v3 := Tryz.zeroValue3
  t4 := Tryz.underlying4
  a4 := Tryz.isAgg4
  z4 := Tryz.sizeOf4
  v4 := Tryz.zeroValue4
  t5 := Tryz.underlying5
  a5 := Tryz.isAgg5
  z5 := Tryz.sizeOf5
  v5 := Tryz.zeroValue5
  t9 := Tryz.underlying9
  a9 := Tryz.isAgg9
  z9 := Tryz.sizeOf9
  v9 := Tryz.zeroValue9
  t12 := Tryz.underlying12
  a12 := Tryz.isAgg12
  z12 := Tryz.sizeOf12
  v12 := Tryz.zeroValue12
  t46 := Tryz.underlying158
  a46 := Tryz.isAgg158
  z46 := Tryz.sizeOf158
  v46 := Tryz.zeroValue158
  t53 := Tryz.underlying184
  a53 := Tryz.isAgg184
  z53 := Tryz.sizeOf184
  v53 := Tryz.zeroValue184
  t119 := Tryz.underlying154
  a119 := Tryz.isAgg154
  z119 := Tryz.sizeOf154
  t138 := Tryz.underlying156
  a138 := Tryz.isAgg156
  z138 := Tryz.sizeOf156
  v138 := Tryz.zeroValue156
  t139 := Tryz.underlying157
  a139 := Tryz.isAgg157
  z139 := Tryz.sizeOf157
  v139 := Tryz.zeroValue157
  g3 := by kernel_rfl
  g4 := by kernel_rfl }
end Go.Proofs

namespace Go.Proofs.YtjdiakhipmggjaaGreatDoor
open Go.Emb Go.RowKit Go.Kd Go.Hm
variable {w : World} {K : Value → World → Prop} {σ : Q6}
theorem X1a {f:FuncId} {fn:Func} {a:List Value} {V:Value} (g:P.funcs[f]? =some fn) (b:fn.body.isSome=true) (c:(fn.name== "runtime.NumGoroutine")=false)
 (h:Calls P f a.toArray w fun e w'=>e= .returned V∧Below w.heap.size w w') (d: ∀w',Below w.heap.size w w'→K V w'):Q1 P f a w K:=by
 refine Wq g b c (Calls.mono h ?_)
 rintro e w' ⟨rfl,b⟩
 exact d w' b
theorem Tt {a:X0} (b:a.length≤U0) (c:Lib.Utf8Tabs G.e G.d w) (h: ∀w',Below w.heap.size w w'→K (.bool (Lib.validD a)) w'):Q1 P F.b1 [S a] w K:=
 X1a Tryz.func64 (by kernel_rfl) (by kernel_rfl) (by
  have:=Any.utf8_ValidString Tryz.lays196 ⟨a.toArray⟩ w (by rw[K0];simp only[U0] at b;omega) c
  simp only[List.toList_toArray] at this
  exact this) h
theorem Q6N {a:X0} {c:UInt8} (h:K (.bool (decide (0≤Lib.indexByte a c))) w):Q1 P F.cC [S a,S [c]] w K:=by
 refine Wq (fn:=Tryz.f210) Tryz.func210 (by kernel_rfl) (by kernel_rfl) (Calls.mono (Tryz.strings_Contains_one ⟨a.toArray⟩ c w) ?_)
 rintro e w' ⟨rfl,rfl⟩
 exact h
structure Glb (σ : Q6) : Prop where
  ops : Q2J σ
  tabs : ∀ w, X2 w σ → Lib.Utf8Tabs G.e G.d w
  flt : Z6 σ ⟨G.b, 0, none⟩ (U5.map S)
theorem Glb.lift {σ0:Q6} (h:Glb σ0) (k:SLe σ0 σ):Glb σ:=⟨h.ops.le k.le,fun w a=>h.tabs w fun b o e=>a b o (k.le b o e),h.flt.le k.le⟩
def txt (n s:X0):Bool:=
 if n=[119,111,114,100] then decide (s.length≤64)&&Lib.validD s&& !decide (0≤Lib.indexByte s 10)
 else if n=[110,101,119] then M7 s
 else if n=[105,115]∨n=[99,97,115,116] then right s&& !plain s
 else if n=[97,114,114,97,121] then right s&&decide (Yf s<3)
 else Zs s
theorem X3k {n a:X0} (ha:a.length≤U0) (hs:X2 w σ) (hg:Glb σ) (h: ∀w' σ',Stp w σ w' σ'→K (.bool (txt n a)) w'):Q1 P F.cJ [S n,S a] w K:=Q7h (by
 unfold Q2g
 have ha':a.length≤140737488355320:=by simp only[U0] at ha;omega
 have ha2:a.length≤140737488355328:=by simp only[U0] at ha;omega
 have hv: ∀{w1:World} {K:Value→World→Prop},X2 w1 σ→(∀w',Below w1.heap.size w1 w'→K (.bool (Lib.validD a)) w')→Q1 P F.b1 [S a] w1 K:=fun hk h=>Tt ha (hg.tabs _ hk) h
 unfold txt at h
 have e:decide ((a.length:Int)≤64)=decide (a.length≤64):=by rw[Bool.eq_iff_iff];simp only[decide_eq_true_eq];omega
 have e3:decide ((Yf a:Int)<3)=decide (Yf a<3):=by rw[Bool.eq_iff_iff];simp only[decide_eq_true_eq];omega
 by_cases h1:n=[119,111,114,100]
 ·rw[if_pos h1] at h
  simp only[decide_eq_true h1,↓M1,M1,Mb,reduceIte,e]
  by_cases h2:a.length≤64
  ·simp only[decide_eq_true h2,↓M1,M1,Mb,reduceIte] at h⊢
   refine hv hs (L3 hs ?_)
   intro w1 σ1 hk
   by_cases h3:Lib.validD a=true
   ·simp only[h3,↓M1,M1,Mb,reduceIte] at h⊢
    refine Q6N ?_
    (repeat' (first | (with_reducible intro _) | (with_reducible refine U7 ?_) | (simp only[↓M2,M2,Mb,reduceIte]) | (with_reducible first | refine ld aS aL aR ?_ | refine X7 aS aL aR ?_ | refine Y5 aS aL aR ?_ | refine Q8 aL ?_ | refine J4 aR ?_ | refine Y9 aS ?_ | refine N1 aS aL ?_ | refine U6 aS aR ?_ | refine Y7 aS aR aR (Rep.one (by assumption)) ?_ | refine U8 aS aR aR aR ?_ | (refine J3 (fun hh=>?_) (fun hh=>?_)<;>(try simp only[hh,Bool.not_true,Bool.not_false,↓M2,M2,Mb,reduceIte])) | (refine Q7 (fun hh=>?_) (fun hh=>?_)<;>(try simp only[hh,Bool.not_true,Bool.not_false,↓M2,M2,Mb,reduceIte])))))
    all_goals exact aF
   ·simp only[eq_false_of_ne_true h3,↓M1,M1,Mb,reduceIte] at h⊢
    (repeat' (first | (with_reducible intro _) | (with_reducible refine U7 ?_) | (simp only[↓M2,M2,Mb,reduceIte]) | (with_reducible first | refine ld aS aL aR ?_ | refine X7 aS aL aR ?_ | refine Y5 aS aL aR ?_ | refine Q8 aL ?_ | refine J4 aR ?_ | refine Y9 aS ?_ | refine N1 aS aL ?_ | refine U6 aS aR ?_ | refine Y7 aS aR aR (Rep.one (by assumption)) ?_ | refine U8 aS aR aR aR ?_ | (refine J3 (fun hh=>?_) (fun hh=>?_)<;>(try simp only[hh,Bool.not_true,Bool.not_false,↓M2,M2,Mb,reduceIte])) | (refine Q7 (fun hh=>?_) (fun hh=>?_)<;>(try simp only[hh,Bool.not_true,Bool.not_false,↓M2,M2,Mb,reduceIte])))))
    all_goals exact aF
  ·simp only[decide_eq_false h2,↓M1,M1,Mb,reduceIte] at h⊢
   (repeat' (first | (with_reducible intro _) | (with_reducible refine U7 ?_) | (simp only[↓M2,M2,Mb,reduceIte]) | (with_reducible first | refine ld aS aL aR ?_ | refine X7 aS aL aR ?_ | refine Y5 aS aL aR ?_ | refine Q8 aL ?_ | refine J4 aR ?_ | refine Y9 aS ?_ | refine N1 aS aL ?_ | refine U6 aS aR ?_ | refine Y7 aS aR aR (Rep.one (by assumption)) ?_ | refine U8 aS aR aR aR ?_ | (refine J3 (fun hh=>?_) (fun hh=>?_)<;>(try simp only[hh,Bool.not_true,Bool.not_false,↓M2,M2,Mb,reduceIte])) | (refine Q7 (fun hh=>?_) (fun hh=>?_)<;>(try simp only[hh,Bool.not_true,Bool.not_false,↓M2,M2,Mb,reduceIte])))))
   all_goals exact aF
 rw[if_neg h1] at h
 simp only[decide_eq_false h1,↓M1,M1,Mb,reduceIte]
 by_cases h2:n=[110,101,119]
 ·rw[if_pos h2] at h
  simp only[decide_eq_true h2,↓M1,M1,Mb,reduceIte]
  (repeat' (first | (with_reducible intro _) | (with_reducible refine U7 ?_) | (simp only[↓M2,M2,Mb,reduceIte]) | (with_reducible first | refine ld aS aL aR ?_ | refine X7 aS aL aR ?_ | refine Y5 aS aL aR ?_ | refine Q8 aL ?_ | refine J4 aR ?_ | refine Y9 aS ?_ | refine N1 aS aL ?_ | refine U6 aS aR ?_ | refine Y7 aS aR aR (Rep.one (by assumption)) ?_ | refine U8 aS aR aR aR ?_ | refine Ru _ au (L3 aS ?_) | (refine J3 (fun hh=>?_) (fun hh=>?_)<;>(try simp only[hh,Bool.not_true,Bool.not_false,↓M2,M2,Mb,reduceIte])) | (refine Q7 (fun hh=>?_) (fun hh=>?_)<;>(try simp only[hh,Bool.not_true,Bool.not_false,↓M2,M2,Mb,reduceIte])))))
  all_goals exact aF
 rw[if_neg h2] at h
 simp only[decide_eq_false h2,↓M1,M1,Mb,reduceIte]
 by_cases h3:n=[105,115]∨n=[99,97,115,116]
 ·rw[if_pos h3] at h
  have e4:(decide (n=[105,115])||decide (n=[99,97,115,116]))=true:=by simpa using h3
  refine U7 ?_
  refine Q7 (fun h4=>?_) (fun h4=>?_)
  ·simp only[h4,↓M1,M1,Mb,reduceIte]
   (repeat' (first | (with_reducible intro _) | (with_reducible refine U7 ?_) | (simp only[↓M2,M2,Mb,reduceIte]) | (with_reducible first | refine ld aS aL aR ?_ | refine X7 aS aL aR ?_ | refine Y5 aS aL aR ?_ | refine Q8 aL ?_ | refine J4 aR ?_ | refine Y9 aS ?_ | refine N1 aS aL ?_ | refine U6 aS aR ?_ | refine Y7 aS aR aR (Rep.one (by assumption)) ?_ | refine U8 aS aR aR aR ?_ | refine Zq _ au (L3 aS ?_) | refine Rs _ ?_ | (refine J3 (fun hh=>?_) (fun hh=>?_)<;>(try simp only[hh,Bool.not_true,Bool.not_false,↓M2,M2,Mb,reduceIte])) | (refine Q7 (fun hh=>?_) (fun hh=>?_)<;>(try simp only[hh,Bool.not_true,Bool.not_false,↓M2,M2,Mb,reduceIte])))))
   all_goals exact aF
  ·rw[h4,Bool.false_or] at e4
   simp only[e4,↓M1,M1,Mb,reduceIte]
   (repeat' (first | (with_reducible intro _) | (with_reducible refine U7 ?_) | (simp only[↓M2,M2,Mb,reduceIte]) | (with_reducible first | refine ld aS aL aR ?_ | refine X7 aS aL aR ?_ | refine Y5 aS aL aR ?_ | refine Q8 aL ?_ | refine J4 aR ?_ | refine Y9 aS ?_ | refine N1 aS aL ?_ | refine U6 aS aR ?_ | refine Y7 aS aR aR (Rep.one (by assumption)) ?_ | refine U8 aS aR aR aR ?_ | refine Zq _ au (L3 aS ?_) | refine Rs _ ?_ | (refine J3 (fun hh=>?_) (fun hh=>?_)<;>(try simp only[hh,Bool.not_true,Bool.not_false,↓M2,M2,Mb,reduceIte])) | (refine Q7 (fun hh=>?_) (fun hh=>?_)<;>(try simp only[hh,Bool.not_true,Bool.not_false,↓M2,M2,Mb,reduceIte])))))
   all_goals exact aF
 rw[if_neg h3] at h
 obtain ⟨h3,h4⟩:=not_or.1 h3
 refine U7 ?_
 simp only[decide_eq_false h3,decide_eq_false h4,↓M1,M1,Mb,reduceIte]
 by_cases h5:n=[97,114,114,97,121]
 ·rw[if_pos h5] at h
  simp only[decide_eq_true h5,↓M1,M1,Mb,reduceIte]
  (repeat' (first | (with_reducible intro _) | (with_reducible refine U7 ?_) | (simp only[↓M2,M2,Mb,reduceIte]) | (with_reducible first | refine ld aS aL aR ?_ | refine X7 aS aL aR ?_ | refine Y5 aS aL aR ?_ | refine Q8 aL ?_ | refine J4 aR ?_ | refine Y9 aS ?_ | refine N1 aS aL ?_ | refine U6 aS aR ?_ | refine Y7 aS aR aR (Rep.one (by assumption)) ?_ | refine U8 aS aR aR aR ?_ | refine Zq _ au (L3 aS ?_) | refine Q9O _ au (L3 aS ?_) | (refine J3 (fun hh=>?_) (fun hh=>?_)<;>(try simp only[hh,Bool.not_true,Bool.not_false,↓M2,M2,Mb,reduceIte])) | (refine Q7 (fun hh=>?_) (fun hh=>?_)<;>(try simp only[hh,Bool.not_true,Bool.not_false,↓M2,M2,Mb,reduceIte])))))
  all_goals (try rw[e3])
  all_goals exact aF
 rw[if_neg h5] at h
 simp only[decide_eq_false h5,↓M1,M1,Mb,reduceIte]
 intro _
 refine X2r a ha2 (L3 hs fun w1 σ1 hk=>?_)
 by_cases hp:Zs a=true
 ·simp only[hp,if_true] at h⊢
  (repeat' (first | (with_reducible intro _) | (with_reducible refine U7 ?_) | (simp only[↓M2,M2,Mb,reduceIte]) | (with_reducible first | refine ld aS aL aR ?_ | refine X7 aS aL aR ?_ | refine Y5 aS aL aR ?_ | refine Q8 aL ?_ | refine J4 aR ?_ | refine Y9 aS ?_ | refine N1 aS aL ?_ | refine U6 aS aR ?_ | refine Y7 aS aR aR (Rep.one (by assumption)) ?_ | refine U8 aS aR aR aR ?_ | (refine J3 (fun hh=>?_) (fun hh=>?_)<;>(try simp only[hh,Bool.not_true,Bool.not_false,↓M2,M2,Mb,reduceIte])) | (refine Q7 (fun hh=>?_) (fun hh=>?_)<;>(try simp only[hh,Bool.not_true,Bool.not_false,↓M2,M2,Mb,reduceIte])))))
  all_goals exact aF
 ·simp only[eq_false_of_ne_true hp,Bool.false_eq_true,if_false] at h⊢
  (repeat' (first | (with_reducible intro _) | (with_reducible refine U7 ?_) | (simp only[↓M2,M2,Mb,reduceIte]) | (with_reducible first | refine ld aS aL aR ?_ | refine X7 aS aL aR ?_ | refine Y5 aS aL aR ?_ | refine Q8 aL ?_ | refine J4 aR ?_ | refine Y9 aS ?_ | refine N1 aS aL ?_ | refine U6 aS aR ?_ | refine Y7 aS aR aR (Rep.one (by assumption)) ?_ | refine U8 aS aR aR aR ?_ | (refine J3 (fun hh=>?_) (fun hh=>?_)<;>(try simp only[hh,Bool.not_true,Bool.not_false,↓M2,M2,Mb,reduceIte])) | (refine Q7 (fun hh=>?_) (fun hh=>?_)<;>(try simp only[hh,Bool.not_true,Bool.not_false,↓M2,M2,Mb,reduceIte])))))
  all_goals exact aF)
def H5 (i:Ins):Int:=if !(S2 i.op).2.2 then 40 else if (!(S2 i.op).1&&decide (i.n≠0))||(!(S2 i.op).2.1&&decide (i.s≠[]))||((S2 i.op).2.1&& !txt i.op i.s) then 41 else 0
theorem X0E {a:X0} (b:X2 w σ) (c:Glb σ) (h: ∀w',Below w.heap.size w w'→K (.tuple #[.bool (S2 a).1, .bool (S2 a).2.1, .bool (S2 a).2.2]) w'):Q1 P F.cl [S a] w K:=X2K b c.ops h
theorem Q73 {i:Ins} {cs:List Value} (hs:X2 w σ) (hg:Glb σ) (hi:Qi σ i cs) (h: ∀w' σ',Stp w σ w' σ'→K (I (H5 i)) w'):Q1 P F.cF [.agg cs.toArray] w K:=Q63 (by
 obtain ⟨rfl,h1,h2,h3⟩:=hi
 unfold Q0R
 unfold H5 at h
 (repeat' (first | (with_reducible intro _) | (with_reducible refine U7 ?_) | (simp only[↓M2,M2,Mb,reduceIte]) | (with_reducible first | refine ld aS aL aR ?_ | refine X7 aS aL aR ?_ | refine Y5 aS aL aR ?_ | refine Q8 aL ?_ | refine J4 aR ?_ | refine Y9 aS ?_ | refine N1 aS aL ?_ | refine U6 aS aR ?_ | refine Y7 aS aR aR (Rep.one (by assumption)) ?_ | refine U8 aS aR aR aR ?_ | refine X0E au au (L3 aS ?_) | refine X3k au au au ?_ | (refine J3 (fun hh=>?_) (fun hh=>?_)<;>(try simp only[hh,Bool.not_true,Bool.not_false,↓M2,M2,Mb,reduceIte])) | (refine Q7 (fun hh=>?_) (fun hh=>?_)<;>(try simp only[hh,Bool.not_true,Bool.not_false,↓M2,M2,Mb,reduceIte])))))
 all_goals exact aF)
end Go.Proofs.YtjdiakhipmggjaaGreatDoor

namespace Go.Emb
open Go.RowKit Go.Hm
variable {P : Program} {W : World}
theorem Q2V {w:World} (c:X2 w (Wi W)) {a:Addr} {v:Value} (h:W.cell? a=some v):w.cell? a=some v:=by
 unfold World.cell? at h⊢
 cases b:W.heap[a.block]? with
 | none=>rw[b] at h;cases h
 | some o=>rw[b] at h;rw[c _ o b];exact h
theorem X2Y {α:Type} {f:α→List Value} {sz:Nat} (k: ∀a,(f a).length=sz): ∀(l:List α) (cs:List Value),cs.length=l.length*sz→(∀i a,l[i]? =some a→(cs.drop (i*sz)).take sz=f a)→cs=l.flatMap f:=by
 intro l
 induction l with
 | nil=>intro cs h _;simp at h;simp[h]
 | cons a r e=>
  intro cs h hh
  have j:=hh 0 a rfl
  have g:=e (cs.drop sz) (by rw[List.length_drop,h,List.length_cons,Nat.succ_mul];omega) (fun i b c=>by
   have:=hh (i+1) b (by simpa using c)
   rw[List.drop_drop]
   rwa [Nat.succ_mul,Nat.add_comm] at this)
  rw[List.flatMap_cons,←g,←j]
  simp
theorem Q4x {α H:Type} {enc:TypeId×Value→H} {base:Nat} {s:Nat→Bool} {b:Bool} {f:α→List Value} {o:α→DataW H} {n sz:Nat} {t e:TypeId} {c:Nat} {cs:List Value} {p:List MemPlace} (B:P.underlying t=some (.array n e)) (z:P.cellsOf e=sz) (k:P.cellsOf t=n*sz)
 (l:List α) (E: ∀a,(f a).length=sz) (g: ∀m cs a q,DataW.trod enc P W base s b m e cs=some (o a,q)→cs=f a)
 (h:DataW.trod enc P W base s b c t cs=some (.agg (l.map o),p)):cs=l.flatMap f:=by
 obtain ⟨xs,m,_,j,D,J,C⟩:=DataW.trod_array B h
 simp only[Prod.mk.injEq,DataW.agg.injEq] at j
 have A:l.length=n:=by have:=congrArg List.length j.1;simp at this;omega
 refine X2Y E l cs (by rw[D,k,A]) fun i a u=>?_
 have L:i<l.length:=(List.getElem?_eq_some_iff.1 u).1
 have r:=C i (by omega)
 have w:i<xs.length:=by omega
 rw[List.getElem?_eq_getElem w,z] at r
 have y:(xs[i]).1=o a:=by
  have:=congrArg (·[i]?) j.1
  simp only[List.getElem?_map,u,List.getElem?_eq_getElem w,Option.map_some,Option.some.injEq] at this
  exact this.symm
 exact g m _ a _ (by rw[r];congr 1;exact Prod.ext y rfl)
theorem Q6v {n:String} {g:Nat} {cs:Array Value} {l:List Value} (h:P.globalNamed n=some g) (a:W.var? P n=some cs) (j:cs.toList=l):Z6 (Wi W) ⟨g,0,none⟩ l:=by
 unfold World.var? at a
 rw[h] at a
 simp only[Option.bind_some] at a
 cases b:W.heap[g]? with
 | none=>rw[b] at a;cases a
 | some o=>
  rw[b] at a
  cases o with
  | cells arr e c=>
   cases a
   refine ⟨rfl,cs,e,c,b,fun i v f=>?_⟩
   subst j
   simpa using f
  | _=>cases a
end Go.Emb
namespace Go.Proofs.YtjdiakhipmggjaaGreatDoor
open Go.Emb Go.RowKit Go.Kd Go.Hm
variable {W : World}
def laidAll:List (String×DataW Unit):=[("unicode/utf8.acceptRanges",Rows.laid_unicode_utf8_acceptRanges),("squinch/code.ops",Rows.laid_squinch_code_ops),("squinch/hier.faults",Rows.laid_squinch_hier_faults),("unicode/utf8.first",Rows.laid_unicode_utf8_first)]
theorem X4a:Rows.laid_squinch_code_ops=(.agg (Uk.map fun o=> .agg [.lit (.string o.name), .lit (.bool o.number), .lit (.bool o.text)]):DataW Unit):=by rfl
theorem X13:Rows.laid_squinch_hier_faults=(.agg (U5.map fun s=> .lit (.string s)):DataW Unit):=by rfl
theorem X4h:(Rows.laid_unicode_utf8_acceptRanges:DataW Unit)=Lib.acceptData:=by rfl
theorem X2q:Rows.laid_unicode_utf8_first=Lib.firstData:=by kernel_rfl
def X4s:Array Field:= #[⟨"name",T.c,0,false, "", "squinch/code",0⟩,⟨"number",T.u,1,false, "", "squinch/code",16⟩,⟨"text",T.u,2,false, "", "squinch/code",17⟩]
theorem X4v:P.underlying T.ad=some (.struct X4s):=by kernel_rfl
theorem X3v (h:laidMetH P laidAll W):Glb (Wi W):=by
 rw[Go.MakeChecks.laidMetH_plain _ _ _ (by kernel_rfl)] at h
 refine ⟨?_,fun w B=>?_,?_⟩
 ·obtain ⟨g,t,cs,r,p,u,k,b,o⟩:=Lib.laidMet.reads h (.tail _ (.head _))
  obtain rfl:=Option.some.inj ((show P.globalNamed "squinch/code.ops"=some G.a by kernel_rfl).symm.trans u)
  obtain rfl:=Option.some.inj ((show (P.globals[G.a]?).map (·.type)=some T.af by kernel_rfl).symm.trans k)
  rw[X4a] at o
  refine Q6v u b (Q4x (f:=cOp) (sz:=3) (n:=42) (e:=T.ad) (by kernel_rfl) (by kernel_rfl) (by kernel_rfl) Uk (fun _=>rfl) (fun m cs a q h=>by
  obtain ⟨xs,n,_,j,h1,Y,A⟩:=DataW.trod_struct X4v h
  simp only[Prod.mk.injEq,DataW.agg.injEq] at j
  have l:cs.length=3:=by rw[h1];kernel_rfl
  obtain ⟨c0,z,y,rfl⟩:=X1w l
  obtain ⟨x0,x1,x2,rfl⟩:=X1w (show xs.length=3 by rw[Y];rfl)
  have j:=j.1
  simp only[List.map_cons,List.map_nil,List.cons.injEq,and_true] at j
  obtain ⟨R,N,Q⟩:=j
  have L:DataW.trod (fun _=>()) P W 0 (fun _=>true) false n T.c (List.take (P.cellsOf T.c) (List.drop 0 [c0,z,y]))=some x0:=A 0 _ rfl
  have C:DataW.trod (fun _=>()) P W 0 (fun _=>true) false n T.u (List.take (P.cellsOf T.u) (List.drop 1 [c0,z,y]))=some x1:=A 1 _ rfl
  have J:DataW.trod (fun _=>()) P W 0 (fun _=>true) false n T.u (List.take (P.cellsOf T.u) (List.drop 2 [c0,z,y]))=some x2:=A 2 _ rfl
  rw[Kg] at L
  rw[X3j] at C J
  obtain ⟨⟨⟨s0⟩⟩,O,U,_⟩:=DataW.trod_string X8 L
  obtain ⟨b1,E,V⟩:=DataW.trod_bool Q37 C
  obtain ⟨b2,D,X⟩:=DataW.trod_bool Q37 J
  simp at O E D
  subst O E D U V X
  simp at R N Q
  simp[cOp,←R,←N,←Q]) o)
 ·have:=utf8Tabs_of_readsT (U8Types.of196 Tryz.lays196) ⟨by kernel_rfl,by kernel_rfl,by kernel_rfl,by kernel_rfl,by kernel_rfl,by kernel_rfl,by kernel_rfl⟩ (X2q▸Lib.laidMet.reads h (.tail _ (.tail _ (.tail _ (.head _))))) (X4h▸Lib.laidMet.reads h (.head _))
  exact ⟨fun c Z=>Q2V B (this.1 c Z),fun i M=>⟨Q2V B (this.2 i M).1,Q2V B (this.2 i M).2⟩⟩
 ·obtain ⟨g,t,cs,r,p,u,k,b,o⟩:=Lib.laidMet.reads h (.tail _ (.tail _ (.head _)))
  obtain rfl:=Option.some.inj ((show P.globalNamed "squinch/hier.faults"=some G.b by kernel_rfl).symm.trans u)
  obtain rfl:=Option.some.inj ((show (P.globals[G.b]?).map (·.type)=some T.ao by kernel_rfl).symm.trans k)
  rw[X13] at o
  have:=Q4x (f:=fun s=>[S s]) (sz:=1) (n:=6) (e:=T.c) (by kernel_rfl) Kg (by kernel_rfl) U5 (fun _=>rfl) (fun m cs a q h=>by
   obtain ⟨⟨⟨s⟩⟩,rfl,j,_⟩:=DataW.trod_string X8 h
   cases j;rfl) o
  exact Q6v u b (this.trans (by rfl))
end Go.Proofs.YtjdiakhipmggjaaGreatDoor
namespace Go.Emb
open Go.RowKit Go.Hm
theorem Q9v {H:Type} {P:Program} {a:List TypeId} {ds:List (DataW H)} (h:(DataW.weightsEach P a ds).all (· ≤reachBytes)=true) {j:Nat} {t:TypeId} {d:DataW H} (e:a[j]? =some t) (c:ds[j]? =some d):Wt P t d:=fun n b=>by
 have:=List.all_eq_true.1 h _ (DataW.weights_mem_each e c n b)
 simpa using this
end Go.Emb
namespace Go.Proofs.YtjdiakhipmggjaaGreatDoor
open Go.Emb Go.RowKit Go.Kd Go.Hm
section
variable {H : Type} {enc : TypeId × Value → H} {W : World} {v : Value} {d : DataW H} {p : List MemPlace}
set_option maxRecDepth 100000 in
theorem X3a {base:Nat} (b:Value.okWide P W .any base T.c v) (h:DataW.Trod enc P W 0 (fun _=>true) true T.c v d p) (c:Wt P T.c d): ∃s:X0,v=S s∧s.length≤U0:=by
 obtain ⟨s,rfl⟩:=WideShapes.okWide_string X8 b
 unfold DataW.Trod at h
 obtain ⟨a,h⟩:=h
 obtain ⟨s,e,f⟩:=Q6y X8 h c
 simp[Value.cells] at e
 exact ⟨s,by rw[e],f⟩
end
end Go.Proofs.YtjdiakhipmggjaaGreatDoor

namespace Go.Proofs.YtjdiakhipmggjaaGreatDoor
open Go.Emb Go.RowKit Go.Kd Go.Hm
variable {w : World} {K : Value → World → Prop} {σ : Q6}
def I4 (n:Int) (x:Cat):Bool:=decide (0≤x.frm)&&decide (x.frm<x.to)&&decide (x.to≤n)&&decide (0≤x.at_)&&decide (x.at_<n)&&M7 x.cls
theorem Q8K {cs:List Value} {c:Cat} {q:Addr} {n:Int} (hs:X2 w σ) (hc:Ju σ c cs) (hq:Z6 σ q [I n]) (h: ∀w' σ',Stp w σ w' σ'→K (.bool (I4 n c)) w'):Q1 P F.bi [.agg cs.toArray, .pointer (some q)] w K:=Q2G (by
 obtain ⟨rfl,h1,h2,h3,h4⟩:=hc
 unfold Sq
 unfold I4 at h
 (repeat' (first | (with_reducible intro _) | (with_reducible refine U7 ?_) | (simp only[↓M2,M2,Mb,reduceIte]) | (with_reducible first | refine ld aS aL aR ?_ | refine X7 aS aL aR ?_ | refine Y5 aS aL aR ?_ | refine Q8 aL ?_ | refine J4 aR ?_ | refine Y9 aS ?_ | refine N1 aS aL ?_ | refine U6 aS aR ?_ | refine Y7 aS aR aR (Rep.one (by assumption)) ?_ | refine U8 aS aR aR aR ?_ | refine Ru _ au (L3 aS ?_) | (refine J3 (fun hh=>?_) (fun hh=>?_)<;>(try simp only[hh,Bool.not_true,Bool.not_false,↓M2,M2,Mb,reduceIte])) | (refine Q7 (fun hh=>?_) (fun hh=>?_)<;>(try simp only[hh,Bool.not_true,Bool.not_false,↓M2,M2,Mb,reduceIte])))))
 all_goals exact aF)
theorem Q97 {cs:List Value} {i:Ins} (hs:X2 w σ) (hg:Glb σ) (hc:Qi σ i cs) (h: ∀w' σ',Stp w σ w' σ'→K (.bool (decide (H5 i=0))) w'):Q1 P F.bj [.agg cs.toArray] w K:=Q2M (by
 obtain ⟨rfl,h1,h2,h3⟩:=hc
 have hc:Qi σ i [S i.op,I i.n,S i.s]:=⟨rfl,h1,h2,h3⟩
 unfold Sm
 (repeat' (first | (with_reducible intro _) | (with_reducible refine U7 ?_) | (simp only[↓M2,M2,Mb,reduceIte]) | (with_reducible first | refine ld aS aL aR ?_ | refine X7 aS aL aR ?_ | refine Y5 aS aL aR ?_ | refine Q8 aL ?_ | refine J4 aR ?_ | refine Y9 aS ?_ | refine N1 aS aL ?_ | refine U6 aS aR ?_ | refine Y7 aS aR aR (Rep.one (by assumption)) ?_ | refine U8 aS aR aR aR ?_ | refine Q73 au au au ?_ | (refine J3 (fun hh=>?_) (fun hh=>?_)<;>(try simp only[hh,Bool.not_true,Bool.not_false,↓M2,M2,Mb,reduceIte])) | (refine Q7 (fun hh=>?_) (fun hh=>?_)<;>(try simp only[hh,Bool.not_true,Bool.not_false,↓M2,M2,Mb,reduceIte])))))
 all_goals exact aF)
def K1 (m:Hm.Met):Bool:=D7 m.name&&m.params.all right&&(decide (m.result=[])||right m.result)&&
 if m.abs then decide (m.locals=0)&&decide (m.code=[])&&decide (m.catches=[])
 else decide (m.code≠[])&&decide ((m.params.length:Int)<m.locals)&&m.code.all (fun i=>decide (H5 i=0))&&m.catches.all (I4 m.code.length)
theorem X0P {cs:List Value} {m:Hm.Met} (hs:X2 w σ) (hg:Glb σ) (hm:E5 σ m cs) (h: ∀w' σ',Stp w σ w' σ'→K (.bool (K1 m)) w'):Q1 P F.bb [.agg cs.toArray] w K:=Q4d (by
 obtain ⟨pv,cv,hv,rfl,g1,g2,g3,g4,g5,g6⟩:=hm
 unfold Fx
 unfold K1 at h
 have e1:decide ((0:Int)<m.code.length)=decide (m.code≠[]):=by cases m.code<;>simp
 have e2:decide ((m.code.length:Int)=0)=decide (m.code=[]):=by cases m.code<;>simp;omega
 have e3:decide ((m.catches.length:Int)=0)=decide (m.catches=[]):=by cases m.catches<;>simp;omega
 have hA: ∀{w1:World} {σ1:Q6} {K:Value→World→Prop},X2 w1 σ1→Sl 1 U9 σ1 pv m.params→(∀w' σ',Stp w1 σ1 w' σ'→K (.bool (m.params.all right)) w')→Q1 P F.ab [pv, .func (.func F.a0) #[] #[]] w1 K:=
  fun hs hv h=>Ik right hs hv (fun σ1 x w1 K _ _ hs hl hK=>Z9 (Zq x (Nat.le_trans hl (by decide)) hK)) (L3 hs h)
 have hB: ∀{w1:World} {σ1:Q6} {K:Value→World→Prop},X2 w1 σ1→Glb σ1→Sl 3 Qi σ1 cv m.code→(∀w' σ',Stp w1 σ1 w' σ'→K (.bool (m.code.all fun i=>decide (H5 i=0))) w')→Q1 P F.az [cv, .func (.func F.bj) #[] #[]] w1 K:=
  fun hs hg hv h=>Q21 (fun i=>decide (H5 i=0)) hs hv (fun σ1 x cs w1 K le _ hs hr hl hK=>Z9 (Q97 hs (hg.lift ⟨le⟩) hr fun w' σ' hk=>hK w' hk.bel)) (L3 hs h)
 have hC: ∀{w1:World} {σ1:Q6} {K:Value→World→Prop} {q:Addr},X2 w1 σ1→Sl 4 Ju σ1 hv m.catches→Z6 σ1 q [I m.code.length]→(∀w' σ',Stp w1 σ1 w' σ'→K (.bool (m.catches.all (I4 m.code.length))) w')→Q1 P F.aA [hv, .func (.func F.bi) #[] #[.pointer (some q)]] w1 K:=
  fun hs hv hq h=>Q25 (I4 m.code.length) hs hv (fun σ1 x cs w1 K le _ hs hr hl hK=>Z9 (Q8K hs hr (hq.le le) fun w' σ' hk=>hK w' hk.bel)) (L3 hs h)
 refine Y9 hs fun a w1 σ1 hk1 ha1=>?_
 (repeat' (first | (with_reducible intro _) | (with_reducible refine U7 ?_) | (simp only[↓M2,M2,Mb,reduceIte]) | (with_reducible first | refine ld aS aL aR ?_ | refine X7 aS aL aR ?_ | refine Y5 aS aL aR ?_ | refine Q8 aL ?_ | refine J4 aR ?_ | refine Y9 aS ?_ | refine N1 aS aL ?_ | refine U6 aS aR ?_ | refine Y7 aS aR aR (Rep.one (by assumption)) ?_ | refine U8 aS aR aR aR ?_ | refine Q6g au (L3 aS ?_) | refine Zq _ au (L3 aS ?_) | refine hA au au ?_ | refine hB au au au ?_ | refine hC au au au ?_ | (refine J3 (fun hh=>?_) (fun hh=>?_)<;>(try simp only[hh,Bool.not_true,Bool.not_false,↓M2,M2,Mb,reduceIte])) | (refine Q7 (fun hh=>?_) (fun hh=>?_)<;>(try simp only[hh,Bool.not_true,Bool.not_false,↓M2,M2,Mb,reduceIte])))))
 all_goals (simp only[←e1,←e2,←e3] at h;clear e1 e2 e3;exact aF))
theorem X07 {cs:List Value} {m:Hm.Met} (a:X2 w σ) (c:Glb σ) (b:E5 σ m cs) (h: ∀w' d,Stp w σ w' d→K (.bool (K1 m)) w'):Z3 P (.func (.func F.bb) #[] #[]) [.agg cs.toArray] w K:=Z9 (X0P a c b h)
def He (f:Fld):Bool:=D7 f.name&&right f.kind
def Mu (c:Cla):Bool:=(c.name::c.super::c.like).all M7&& !((c.super::c.like).any fun y=>decide (c.name=y))&&C7 id [] c.like&&
 !(c.iface&&(!c.abs|| !decide (c.super=U1)|| !decide (c.fields=[])||c.methods.any (fun m=> !m.abs)))&&
 !((c.abs&&c.fin)||(c.methods.any (·.abs)&& !c.abs))&&C7 Fld.name [] c.fields&&C7 Hm.Met.name [] c.methods&&c.fields.all He&&c.methods.all K1
def D6 (c:Cla):Int:=if Zx c then 51 else if Mu c then 0 else 50
theorem X0a {cs:List Value} {f:Fld} (hs:X2 w σ) (hf:R9 σ f cs) (h: ∀w' σ',Stp w σ w' σ'→K (.bool (He f)) w'):Q1 P F.bA [.agg cs.toArray] w K:=Q33 (by
 obtain ⟨rfl,h1,h2⟩:=hf
 unfold Bl
 unfold He at h
 (repeat' (first | (with_reducible intro _) | (with_reducible refine U7 ?_) | (simp only[↓M2,M2,Mb,reduceIte]) | (with_reducible first | refine ld aS aL aR ?_ | refine X7 aS aL aR ?_ | refine Y5 aS aL aR ?_ | refine Q8 aL ?_ | refine J4 aR ?_ | refine Y9 aS ?_ | refine N1 aS aL ?_ | refine U6 aS aR ?_ | refine Y7 aS aR aR (Rep.one (by assumption)) ?_ | refine U8 aS aR aR aR ?_ | refine Q6g au (L3 aS ?_) | refine Zq _ au (L3 aS ?_) | (refine J3 (fun hh=>?_) (fun hh=>?_)<;>(try simp only[hh,Bool.not_true,Bool.not_false,↓M2,M2,Mb,reduceIte])) | (refine Q7 (fun hh=>?_) (fun hh=>?_)<;>(try simp only[hh,Bool.not_true,Bool.not_false,↓M2,M2,Mb,reduceIte])))))
 all_goals exact aF)
set_option maxHeartbeats 1600000 in
theorem X2v {cs:List Value} {c:Cla} (hs:X2 w σ) (hg:Glb σ) (hc:V0 σ c cs) (hl:c.like.length≤1000000) (h: ∀w' σ',Stp w σ w' σ'→K (.bool (Mu c)) w'):Q1 P F.cy [.agg cs.toArray] w K:=Q5d (by
 obtain ⟨lv,fv,mv,rfl,g1,g2,g3,g4,g5⟩:=hc
 unfold Tx
 unfold Mu at h
 refine Y9 hs fun a w1 σ1 hk1 ha1=>?_
 rw[fa]
 refine ld hk1.sat ha1 rfl ?_
 rw[fa]
 refine ld hk1.sat ha1 rfl ?_
 refine Zf (R:=U9) (sz:=1) (xs:=[c.name,c.super]) hk1 [_,_] rfl rfl (by simp;exact ⟨rfl,rfl⟩) rfl ⟨⟨rfl,g4⟩,⟨rfl,g5⟩,trivial⟩ fun v w2 hk2 hacc _=>?_
 rw[fa]
 refine ld hk2.sat ha1 rfl ?_
 refine Wk (hk1.trans hk2) hacc (g1.up hk1) rfl (by simp;omega) (by simp;omega) fun v' w3 hn3 hS3 hacc3 _=>?_
 obtain ⟨σ3,hS3,hv3,le3,_⟩:=hacc3.keep hS3
 have hv3:Sl 1 U9 σ3 v' (c.name::c.super::c.like):=hv3
 have ha3:=ha1.le le3
 have le13:SLe σ σ3:=⟨hS3.le⟩
 have g1:=g1.lift le13
 have g2:=g2.lift le13
 have g3:=g3.lift le13
 have hg:=hg.lift le13
 refine U2 hS3.sat ?_
 refine E8 (fun v _=>Sl 1 U9 σ3 v (c.super::c.like)) (fun _ _ _ h _=>h) (fun w hb=>?_) ?_
 ·refine Ez hv3 (some (I 1)) none 1 (c.like.length+2) (.inr rfl) (.inl ⟨rfl,by simp⟩) (by omega) (by simp) fun v' hv'=>⟨Below.refl _ _,?_⟩
  simpa using hv'
 refine X4 (.pointer (some (a.add 0))) (fun w hb=>by rw[fa];exact X6 rfl) ?_
 refine X4 (S c.name) (fun t w hb e=>by rw[e];exact ld hb.sat ha3 rfl (X6 rfl)) ?_
 rintro t16 t17 t18 w4 hb4 f16 rfl rfl
 have hS4:=hS3.trans hb4.stp
 clear hb4 hk1 hk2 hn3
 have hs4:=hS4.sat
 refine Q24 hs4 f16 ?_
 have hA: ∀{w1:World} {σ1:Q6} {K:Value→World→Prop},X2 w1 σ1→Sl 7 E5 σ1 mv c.methods→(∀w' σ',Stp w1 σ1 w' σ'→K (.bool (c.methods.any (·.abs))) w')→Q1 P F.a [mv, .func (.func F.cm) #[] #[]] w1 K:=
  fun hs hv h=>B9 (·.abs) hs hv (fun x cs w1 K _ hs hr hl hK=>Z9 (Q3u (by
   obtain ⟨pv,cv,hv,rfl,_⟩:=hr
   unfold Bt
   refine Y9 hs fun a w1 σ1 hk1 ha1=>?_
   (repeat' (first | (with_reducible intro _) | (with_reducible refine U7 ?_) | (simp only[↓M2,M2,Mb,reduceIte]) | (with_reducible first | refine ld aS aL aR ?_ | refine X7 aS aL aR ?_ | refine Y5 aS aL aR ?_ | refine Q8 aL ?_ | refine J4 aR ?_ | refine Y9 aS ?_ | refine N1 aS aL ?_ | refine U6 aS aR ?_ | refine Y7 aS aR aR (Rep.one (by assumption)) ?_ | refine U8 aS aR aR aR ?_ | (refine J3 (fun hh=>?_) (fun hh=>?_)<;>(try simp only[hh,Bool.not_true,Bool.not_false,↓M2,M2,Mb,reduceIte])) | (refine Q7 (fun hh=>?_) (fun hh=>?_)<;>(try simp only[hh,Bool.not_true,Bool.not_false,↓M2,M2,Mb,reduceIte])))))
   exact hK _ hk1.bel))) (L3 hs h)
 have hB: ∀{w1:World} {σ1:Q6} {K:Value→World→Prop},X2 w1 σ1→Sl 7 E5 σ1 mv c.methods→(∀w' σ',Stp w1 σ1 w' σ'→K (.bool (c.methods.any fun m=> !m.abs)) w')→Q1 P F.a [mv, .func (.func F.cn) #[] #[]] w1 K:=
  fun hs hv h=>B9 (fun m=> !m.abs) hs hv (fun x cs w1 K _ hs hr hl hK=>Z9 (Q3p (by
   obtain ⟨pv,cv,hv,rfl,_⟩:=hr
   unfold Bp
   refine Y9 hs fun a w1 σ1 hk1 ha1=>?_
   (repeat' (first | (with_reducible intro _) | (with_reducible refine U7 ?_) | (simp only[↓M2,M2,Mb,reduceIte]) | (with_reducible first | refine ld aS aL aR ?_ | refine X7 aS aL aR ?_ | refine Y5 aS aL aR ?_ | refine Q8 aL ?_ | refine J4 aR ?_ | refine Y9 aS ?_ | refine N1 aS aL ?_ | refine U6 aS aR ?_ | refine Y7 aS aR aR (Rep.one (by assumption)) ?_ | refine U8 aS aR aR aR ?_ | (refine J3 (fun hh=>?_) (fun hh=>?_)<;>(try simp only[hh,Bool.not_true,Bool.not_false,↓M2,M2,Mb,reduceIte])) | (refine Q7 (fun hh=>?_) (fun hh=>?_)<;>(try simp only[hh,Bool.not_true,Bool.not_false,↓M2,M2,Mb,reduceIte])))))
   exact hK _ hk1.bel))) (L3 hs h)
 have hC: ∀{w1:World} {σ1:Q6} {K:Value→World→Prop},X2 w1 σ1→Sl 1 U9 σ1 v' (c.name::c.super::c.like)→(∀w' σ',Stp w1 σ1 w' σ'→K (.bool ((c.name::c.super::c.like).all M7)) w')→Q1 P F.ab [v', .func (.func F.ao) #[] #[]] w1 K:=
  fun hs hv h=>Ik M7 hs hv (fun σ1 x w1 K _ _ hs hl hK=>Z9 (Ru x (Nat.le_trans hl (by decide)) hK)) (L3 hs h)
 have hD: ∀{w1:World} {σ1:Q6} {K:Value→World→Prop},X2 w1 σ1→Sl 1 U9 σ1 lv c.like→(∀w' σ',Stp w1 σ1 w' σ'→K (.bool (C7 id [] c.like)) w')→Q1 P F.aV [lv, .func (.func F.co) #[] #[]] w1 K:=
  fun hs hv h=>Q59 id hs hv (fun σ1 x w1 K _ hs hl hK=>Z9 (Q3z (hK _ (Below.refl _ _)))) (L3 hs h)
 have hE: ∀{w1:World} {σ1:Q6} {K:Value→World→Prop},X2 w1 σ1→Sl 3 R9 σ1 fv c.fields→(∀w' σ',Stp w1 σ1 w' σ'→K (.bool (C7 Fld.name [] c.fields)) w')→Q1 P F.aH [fv, .func (.func F.cp) #[] #[]] w1 K:=
  fun hs hv h=>Q2Y Fld.name hs hv (fun σ1 x cs w1 K _ hs hr hl hK=>Z9 (Q3D (by
   obtain ⟨rfl,_⟩:=hr
   unfold Bu
   refine Y9 hs fun a w1 σ1 hk1 ha1=>?_
   (repeat' (first | (with_reducible intro _) | (with_reducible refine U7 ?_) | (simp only[↓M2,M2,Mb,reduceIte]) | (with_reducible first | refine ld aS aL aR ?_ | refine X7 aS aL aR ?_ | refine Y5 aS aL aR ?_ | refine Q8 aL ?_ | refine J4 aR ?_ | refine Y9 aS ?_ | refine N1 aS aL ?_ | refine U6 aS aR ?_ | refine Y7 aS aR aR (Rep.one (by assumption)) ?_ | refine U8 aS aR aR aR ?_ | (refine J3 (fun hh=>?_) (fun hh=>?_)<;>(try simp only[hh,Bool.not_true,Bool.not_false,↓M2,M2,Mb,reduceIte])) | (refine Q7 (fun hh=>?_) (fun hh=>?_)<;>(try simp only[hh,Bool.not_true,Bool.not_false,↓M2,M2,Mb,reduceIte])))))
   exact hK _ hk1.bel))) (L3 hs h)
 have hF: ∀{w1:World} {σ1:Q6} {K:Value→World→Prop},X2 w1 σ1→Sl 7 E5 σ1 mv c.methods→(∀w' σ',Stp w1 σ1 w' σ'→K (.bool (C7 Hm.Met.name [] c.methods)) w')→Q1 P F.aw [mv, .func (.func F.cq) #[] #[]] w1 K:=
  fun hs hv h=>Q2b Hm.Met.name hs hv (fun σ1 x cs w1 K _ hs hr hl hK=>Z9 (Q32 (by
   obtain ⟨pv,cv,hv,rfl,_⟩:=hr
   unfold Bv
   refine Y9 hs fun a w1 σ1 hk1 ha1=>?_
   (repeat' (first | (with_reducible intro _) | (with_reducible refine U7 ?_) | (simp only[↓M2,M2,Mb,reduceIte]) | (with_reducible first | refine ld aS aL aR ?_ | refine X7 aS aL aR ?_ | refine Y5 aS aL aR ?_ | refine Q8 aL ?_ | refine J4 aR ?_ | refine Y9 aS ?_ | refine N1 aS aL ?_ | refine U6 aS aR ?_ | refine Y7 aS aR aR (Rep.one (by assumption)) ?_ | refine U8 aS aR aR aR ?_ | (refine J3 (fun hh=>?_) (fun hh=>?_)<;>(try simp only[hh,Bool.not_true,Bool.not_false,↓M2,M2,Mb,reduceIte])) | (refine Q7 (fun hh=>?_) (fun hh=>?_)<;>(try simp only[hh,Bool.not_true,Bool.not_false,↓M2,M2,Mb,reduceIte])))))
   exact hK _ hk1.bel))) (L3 hs h)
 have hG: ∀{w1:World} {σ1:Q6} {K:Value→World→Prop},X2 w1 σ1→Sl 3 R9 σ1 fv c.fields→(∀w' σ',Stp w1 σ1 w' σ'→K (.bool (c.fields.all He)) w')→Q1 P F.ax [fv, .func (.func F.bA) #[] #[]] w1 K:=
  fun hs hv h=>Q27 He hs hv (fun σ1 x cs w1 K _ _ hs hr hl hK=>Z9 (X0a hs hr fun w' σ' hk=>hK w' hk.bel)) (L3 hs h)
 have hH: ∀{w1:World} {σ1:Q6} {K:Value→World→Prop},X2 w1 σ1→Glb σ1→Sl 7 E5 σ1 mv c.methods→(∀w' σ',Stp w1 σ1 w' σ'→K (.bool (c.methods.all K1)) w')→Q1 P F.ar [mv, .func (.func F.bb) #[] #[]] w1 K:=
  fun hs hg hv h=>Q0x K1 hs hv (fun σ1 x cs w1 K le _ hs hr hl hK=>X07 hs (hg.lift ⟨le⟩) hr fun w' σ' hk=>hK w' hk.bel) (L3 hs h)
 have e1:decide ((0:Int)<c.fields.length)= !decide (c.fields=[]):=by cases c.fields<;>simp
 have e2:decide (c.super=[79,98,106,101,99,116])=decide (c.super=U1):=rfl
 (repeat' (first | (with_reducible intro _) | (with_reducible refine U7 ?_) | (simp only[↓M2,M2,Mb,reduceIte]) | (with_reducible first | refine ld aS aL aR ?_ | refine X7 aS aL aR ?_ | refine Y5 aS aL aR ?_ | refine Q8 aL ?_ | refine J4 aR ?_ | refine Y9 aS ?_ | refine N1 aS aL ?_ | refine U6 aS aR ?_ | refine Y7 aS aR aR (Rep.one (by assumption)) ?_ | refine U8 aS aR aR aR ?_ | refine hA au au ?_ | refine hB au au ?_ | refine hC au au ?_ | refine hD au au ?_ | refine hE au au ?_ | refine hF au au ?_ | refine hG au au ?_ | refine hH au au au ?_ | (refine J3 (fun hh=>?_) (fun hh=>?_)<;>(try simp only[hh,Bool.not_true,Bool.not_false,↓M2,M2,Mb,reduceIte])) | (refine Q7 (fun hh=>?_) (fun hh=>?_)<;>(try simp only[hh,Bool.not_true,Bool.not_false,↓M2,M2,Mb,reduceIte])))))
 all_goals (simp only[←e1,←e2] at h;clear hA hB hC hD hE hF hG hH e1 e2;exact aF))
theorem X2L {cs:List Value} {c:Cla} (hs:X2 w σ) (hg:Glb σ) (hc:V0 σ c cs) (hl:c.like.length≤1000000) (h: ∀w' σ',Stp w σ w' σ'→K (I (D6 c)) w'):Q1 P F.cw [.agg cs.toArray] w K:=Q5e (by
 have hc0:=hc
 obtain ⟨lv,fv,mv,rfl,g1,g2,g3,g4,g5⟩:=hc
 unfold Tq
 unfold D6 at h
 (repeat' (first | (with_reducible intro _) | (with_reducible refine U7 ?_) | (simp only[↓M2,M2,Mb,reduceIte]) | (with_reducible first | refine ld aS aL aR ?_ | refine X7 aS aL aR ?_ | refine Y5 aS aL aR ?_ | refine Q8 aL ?_ | refine J4 aR ?_ | refine Y9 aS ?_ | refine N1 aS aL ?_ | refine U6 aS aR ?_ | refine Y7 aS aR aR (Rep.one (by assumption)) ?_ | refine U8 aS aR aR aR ?_ | refine X3y au au (L3 aS ?_) | refine X2v au au au au ?_ | (refine J3 (fun hh=>?_) (fun hh=>?_)<;>(try simp only[hh,Bool.not_true,Bool.not_false,↓M2,M2,Mb,reduceIte])) | (refine Q7 (fun hh=>?_) (fun hh=>?_)<;>(try simp only[hh,Bool.not_true,Bool.not_false,↓M2,M2,Mb,reduceIte])))))
 all_goals exact aF)
end Go.Proofs.YtjdiakhipmggjaaGreatDoor

namespace Go.Emb
open Go.RowKit Go.Hm
structure Tab (σ : Q6) (v : Value) (l : List Cla) : Prop where
  ex : ∃ a lv r m, v = .pointer (some a) ∧ Z6 σ a [lv, .map (some r)] ∧ Sl 8 V0 σ lv l ∧ Xo σ r m ∧ ∀ n, C3 m n = (Z1 l n).map (fun i : Nat => I (i : Int))
theorem Tab.lift {σ0 σ:Q6} {v:Value} {l:List Cla} (h:Tab σ0 v l) (k:SLe σ0 σ):Tab σ v l:=by
 obtain ⟨a,f,r,m,e,c,d,g,b⟩:=h.ex
 exact ⟨a,f,r,m,e,c.lift k,d.lift k,g.lift k,b⟩
end Go.Emb
namespace Go.Proofs.YtjdiakhipmggjaaGreatDoor
open Go.Emb Go.RowKit Go.Kd Go.Hm
variable {w : World} {K : Value → World → Prop} {σ : Q6} {v : Value} {l : List Cla}
theorem Q8k {n:X0} (b:X2 w σ) (e:Tab σ v l) (h:K (.bool (Q1q l n)) w):Q1 P F.j [v,S n] w K:=Hb (by
 obtain ⟨a,j,r,m,rfl,g,i,c,f⟩:=e.ex
 unfold Jq
 rw[M0,fa]
 refine ld b g rfl ?_
 rw[Q2R X8 (c.is b) n,f n]
 unfold Q1q at h
 cases d:Z1 l n<;>rw[d] at h<;>((try simp only[Option.map_some,Option.map_none]);(try simp only[↓M1,M1,Mb,reduceIte]);exact h))
theorem Zm {n:X0} {c:Cla} (hs:X2 w σ) (R:Tab σ v l) (M:lk l n=some c)
 (h: ∀q s mv w' o,Stp w σ w' o→Sl 1 U9 o q c.like→Sl 3 R9 o s c.fields→Sl 7 E5 o mv c.methods→c.name.length≤U0→c.super.length≤U0→V0 o c [S c.name,S c.super,q, .bool c.iface, .bool c.abs, .bool c.fin,s,mv]→
  K (.agg [S c.name,S c.super,q, .bool c.iface, .bool c.abs, .bool c.fin,s,mv].toArray) w'):Q1 P F.h [v,S n] w K:=Tg (by
 obtain ⟨a,q,r,m,rfl,D,L,H,U⟩:=R.ex
 obtain ⟨_,_,i,N,C⟩:=V4 M
 obtain ⟨B,rfl⟩:=List.getElem?_eq_some_iff.1 C
 unfold Oe
 refine M8 hs fun b w1 σ1 f d A=>?_
 refine U2 d.sat ?_
 refine X4 (.pointer (some a)) (fun w f=>by rw[M0];exact X6 rfl) ?_
 refine X4 (.pointer (some (a.add 0))) (fun t w f e=>by rw[e,fa];exact X6 rfl) ?_
 refine X4 (.pointer (some a)) (fun w f=>by rw[M0];exact X6 rfl) ?_
 refine X4 (.pointer (some (a.add 1))) (fun t w f e=>by rw[e,fa];exact X6 rfl) ?_
 refine X4 q (fun t w f e=>by rw[e];exact ld f.sat (D.up d) rfl (X6 rfl)) ?_
 refine X4 (.map (some r)) (fun t w f e=>by rw[e];exact ld f.sat (D.up d) rfl (X6 rfl)) ?_
 refine X4 (I i) (fun t w f e=>by rw[e,Q4r X8 ((H.up d).is f.sat) n,U n,N];exact X6 rfl) ?_
 rintro t6 t7 X ab t8 Z af w2 g rfl rfl rfl rfl J rfl rfl
 subst J
 have z:=A.step g.stp
 refine M9 (L.up d) B fun p cs Q j E=>?_
 refine Y5 g.sat Q j ?_
 have k:=E
 obtain ⟨V,s,mv,rfl,g1,g2,W,Y,O⟩:=E
 refine G0 z (d.trans g.stp) f rfl rfl (Rep.one k) fun w3 y u=>?_
 refine V2 u rfl ?_
 exact h _ _ _ w3 σ1 y.stp g1 g2 W Y O k)
theorem Q1i {n:X0} (a:X2 w σ) (c:Tab σ v l) (b:lk l n=none) (h:K (.bool false) w):Q1 P F.j [v,S n] w K:=Q8k a c (by rw[Q1w,b];exact h)
theorem Cm {n:X0} {d:Cla} (a:X2 w σ) (c:Tab σ v l) (b:lk l n=some d) (h:K (.bool true) w):Q1 P F.j [v,S n] w K:=Q8k a c (by rw[Q1w,b];exact h)
theorem X1i {c:Cla} {cs:List Value} (hs:X2 w σ) (ht:Tab σ v l) (hc:V0 σ c cs) (h: ∀w' σ',Stp w σ w' σ'→K (I (D1 l c)) w'):Q1 P F.bc [v, .agg cs.toArray] w K:=Gn (by
 obtain ⟨lv,fv,mv,rfl,g1,g2,g3,g4,g5⟩:=hc
 unfold Lw
 unfold D1 at h
 cases hd:lk l c.super with
 | none=>
  simp only[Xd,hd,if_true] at h
  (repeat' (first | (with_reducible intro _) | (with_reducible refine U7 ?_) | (simp only[↓M2,M2,Mb,reduceIte]) | (with_reducible first | refine ld aS aL aR ?_ | refine X7 aS aL aR ?_ | refine Y5 aS aL aR ?_ | refine Q8 aL ?_ | refine J4 aR ?_ | refine Y9 aS ?_ | refine N1 aS aL ?_ | refine U6 aS aR ?_ | refine Y7 aS aR aR (Rep.one (by assumption)) ?_ | refine U8 aS aR aR aR ?_ | refine Q1i au au au ?_ | (refine J3 (fun hh=>?_) (fun hh=>?_)<;>(try simp only[hh,Bool.not_true,Bool.not_false,↓M2,M2,Mb,reduceIte])) | (refine Q7 (fun hh=>?_) (fun hh=>?_)<;>(try simp only[hh,Bool.not_true,Bool.not_false,↓M2,M2,Mb,reduceIte])))))
  all_goals exact aF
 | some d=>
  simp only[Xd,hd] at h
  obtain ⟨dn,ds,dl,di,da,df,dfs,dms⟩:=d
  cases di<;>cases df
  ·simp only[Bool.or_self,Bool.false_eq_true,if_false] at h
   (repeat' (first | (with_reducible intro _) | (with_reducible refine U7 ?_) | (simp only[↓M2,M2,Mb,reduceIte]) | (with_reducible first | refine ld aS aL aR ?_ | refine X7 aS aL aR ?_ | refine Y5 aS aL aR ?_ | refine Q8 aL ?_ | refine J4 aR ?_ | refine Y9 aS ?_ | refine N1 aS aL ?_ | refine U6 aS aR ?_ | refine Y7 aS aR aR (Rep.one (by assumption)) ?_ | refine U8 aS aR aR aR ?_ | refine Cm au au au ?_ | refine Zm au au au ?_ | (refine J3 (fun hh=>?_) (fun hh=>?_)<;>(try simp only[hh,Bool.not_true,Bool.not_false,↓M2,M2,Mb,reduceIte])) | (refine Q7 (fun hh=>?_) (fun hh=>?_)<;>(try simp only[hh,Bool.not_true,Bool.not_false,↓M2,M2,Mb,reduceIte])))))
   rename_i w3 σ3 hk3 _ _ _ _ _ _
   have hS:Stp w σ w3 σ3:=by (repeat (first | exact Stp.refl (by (first | assumption | exact Stp.sat (by assumption) | exact Hst.sat (by assumption))) | assumption | refine Stp.trans ?_ (by first | assumption | exact Hst.stp (by assumption))))
   refine U3 c.like.length (fun n w'=> ∃σ',Stp w σ w' σ'∧SLe σ3 σ'∧((c.like.take n).any (R5 l))=false) ⟨σ3,hS,SLe.refl _,by simp⟩ fun n w4 d hn hi=>?_
   obtain ⟨σ4,hS4,le4,hq⟩:=hi
   clear hk3
   refine Z2 ?_
   refine Q7 (fun hh=>?_) (fun hh=>?_)
   ·have hn':n<c.like.length:=by simpa using hh
    have hmax:c.like.length≤9223372036854775807:=g1.max
    refine Q6o (by (first | assumption | exact Sl.lift (by assumption) (by (repeat (first | exact SLe.refl _ | refine SLe.more ?_ (by assumption) | refine SLe.more ?_ (Nxt.le (by assumption)) | refine SLe.step ?_ (by assumption)))) | exact Z6.lift (by assumption) (by (repeat (first | exact SLe.refl _ | refine SLe.more ?_ (by assumption) | refine SLe.more ?_ (Nxt.le (by assumption)) | refine SLe.step ?_ (by assumption)))) | exact Xo.lift (by assumption) (by (repeat (first | exact SLe.refl _ | refine SLe.more ?_ (by assumption) | refine SLe.more ?_ (Nxt.le (by assumption)) | refine SLe.step ?_ (by assumption)))) | exact RCl_lift (by assumption) (by (repeat (first | exact SLe.refl _ | refine SLe.more ?_ (by assumption) | refine SLe.more ?_ (Nxt.le (by assumption)) | refine SLe.step ?_ (by assumption)))) | exact RMe_lift (by assumption) (by (repeat (first | exact SLe.refl _ | refine SLe.more ?_ (by assumption) | refine SLe.more ?_ (Nxt.le (by assumption)) | refine SLe.step ?_ (by assumption)))) | exact Glb.lift (by assumption) (by (repeat (first | exact SLe.refl _ | refine SLe.more ?_ (by assumption) | refine SLe.more ?_ (Nxt.le (by assumption)) | refine SLe.step ?_ (by assumption)))) | exact Tab.lift (by assumption) (by (repeat (first | exact SLe.refl _ | refine SLe.more ?_ (by assumption) | refine SLe.more ?_ (Nxt.le (by assumption)) | refine SLe.step ?_ (by assumption)))) | exact RIn_any (by assumption) | exact RFd_any (by assumption) | exact RCa_any (by assumption))) hn' fun p hl hbig=>?_
    have hq':=L4 (p:=R5 l) hn'
    rw[hq] at hq'
    cases hx:lk l c.like[n] with
    | none=>
     simp only[S6 (p:=R5 l) hn' (by simp only[R5,hx]),if_true] at h
     (repeat' (first | (with_reducible intro _) | (with_reducible refine U7 ?_) | (simp only[↓M2,M2,Mb,reduceIte]) | (with_reducible first | refine ld aS aL aR ?_ | refine X7 aS aL aR ?_ | refine Y5 aS aL aR ?_ | refine Q8 aL ?_ | refine J4 aR ?_ | refine Y9 aS ?_ | refine N1 aS aL ?_ | refine U6 aS aR ?_ | refine Y7 aS aR aR (Rep.one (by assumption)) ?_ | refine U8 aS aR aR aR ?_ | refine Q1i au au au ?_ | (refine J3 (fun hh=>?_) (fun hh=>?_)<;>(try simp only[hh,Bool.not_true,Bool.not_false,↓M2,M2,Mb,reduceIte])) | (refine Q7 (fun hh=>?_) (fun hh=>?_)<;>(try simp only[hh,Bool.not_true,Bool.not_false,↓M2,M2,Mb,reduceIte])))))
     all_goals exact aF
    | some x=>
     obtain ⟨xn,xs,xl,xi,xa,xf,xfs,xms⟩:=x
     cases xi
     ·simp only[S6 (p:=R5 l) hn' (by simp only[R5,hx];rfl),if_true] at h
      (repeat' (first | (with_reducible intro _) | (with_reducible refine U7 ?_) | (simp only[↓M2,M2,Mb,reduceIte]) | (with_reducible first | refine ld aS aL aR ?_ | refine X7 aS aL aR ?_ | refine Y5 aS aL aR ?_ | refine Q8 aL ?_ | refine J4 aR ?_ | refine Y9 aS ?_ | refine N1 aS aL ?_ | refine U6 aS aR ?_ | refine Y7 aS aR aR (Rep.one (by assumption)) ?_ | refine U8 aS aR aR aR ?_ | refine Cm au au au ?_ | refine Zm au au au ?_ | (refine J3 (fun hh=>?_) (fun hh=>?_)<;>(try simp only[hh,Bool.not_true,Bool.not_false,↓M2,M2,Mb,reduceIte])) | (refine Q7 (fun hh=>?_) (fun hh=>?_)<;>(try simp only[hh,Bool.not_true,Bool.not_false,↓M2,M2,Mb,reduceIte])))))
      all_goals exact aF
     ·(repeat' (first | (with_reducible intro _) | (with_reducible refine U7 ?_) | (simp only[↓M2,M2,Mb,reduceIte]) | (with_reducible first | refine ld aS aL aR ?_ | refine X7 aS aL aR ?_ | refine Y5 aS aL aR ?_ | refine Q8 aL ?_ | refine J4 aR ?_ | refine Y9 aS ?_ | refine N1 aS aL ?_ | refine U6 aS aR ?_ | refine Y7 aS aR aR (Rep.one (by assumption)) ?_ | refine U8 aS aR aR aR ?_ | refine Cm au au au ?_ | refine Zm au au au ?_ | (refine J3 (fun hh=>?_) (fun hh=>?_)<;>(try simp only[hh,Bool.not_true,Bool.not_false,↓M2,M2,Mb,reduceIte])) | (refine Q7 (fun hh=>?_) (fun hh=>?_)<;>(try simp only[hh,Bool.not_true,Bool.not_false,↓M2,M2,Mb,reduceIte])))))
      refine Y6 hmax hn' ⟨_,by (repeat (first | exact Stp.refl (by (first | assumption | exact Stp.sat (by assumption) | exact Hst.sat (by assumption))) | assumption | refine Stp.trans ?_ (by first | assumption | exact Hst.stp (by assumption)))),by (repeat (first | exact SLe.refl _ | refine SLe.more ?_ (by assumption) | refine SLe.more ?_ (Nxt.le (by assumption)) | refine SLe.step ?_ (by assumption))),by rw[hq'];simp only[R5,hx];rfl⟩
   ·have hn': ¬n<c.like.length:=by simpa using hh
    rw[E1 hn'] at hq
    simp only[hq,Bool.false_eq_true,if_false] at h
    exact h _ _ hS4
  all_goals
   simp only[Bool.or_self,Bool.or_true,Bool.true_or,if_true] at h
   (repeat' (first | (with_reducible intro _) | (with_reducible refine U7 ?_) | (simp only[↓M2,M2,Mb,reduceIte]) | (with_reducible first | refine ld aS aL aR ?_ | refine X7 aS aL aR ?_ | refine Y5 aS aL aR ?_ | refine Q8 aL ?_ | refine J4 aR ?_ | refine Y9 aS ?_ | refine N1 aS aL ?_ | refine U6 aS aR ?_ | refine Y7 aS aR aR (Rep.one (by assumption)) ?_ | refine U8 aS aR aR aR ?_ | refine Cm au au au ?_ | refine Zm au au au ?_ | (refine J3 (fun hh=>?_) (fun hh=>?_)<;>(try simp only[hh,Bool.not_true,Bool.not_false,↓M2,M2,Mb,reduceIte])) | (refine Q7 (fun hh=>?_) (fun hh=>?_)<;>(try simp only[hh,Bool.not_true,Bool.not_false,↓M2,M2,Mb,reduceIte])))))
   all_goals exact aF)
end Go.Proofs.YtjdiakhipmggjaaGreatDoor

namespace Go.Emb
open Go.RowKit Go.Hm
variable {P : Program} {w w0 w1 w' w'' : World} {K : Value → World → Prop} {σ σ0 σ1 σ' : Q6}
theorem Q8l {a:Addr} {v:Value} (h:w.cell? a=some v) (b:Below w.heap.size w w'):w'.cell? a=some v:=by
 rw[←h];exact World.cell?_of_block (b.block a.block (World.block_lt_of_cell? _ _ h))
def Ptr {α:Type} (sz:Nat) (R:Q6→α→List Value→Prop) (σ:Q6) (x:α) (p:Value) (w:World):Prop:=
 ∃a cs,p= .pointer (some a)∧(∀j u,cs[j]? =some u→w.cell? (a.add j)=some u)∧cs.length=sz∧R σ x cs
theorem Ptr.below {α:Type} {sz:Nat} {R:Q6→α→List Value→Prop} {x:α} {p:Value} (h:Ptr sz R σ x p w) (b:Below w.heap.size w w'):Ptr sz R σ x p w':=by
 obtain ⟨a,cs,c,d,f⟩:=h
 exact ⟨a,cs,c,fun j u e=>Q8l (d j u e) b,f⟩
end Go.Emb
namespace Go.Proofs.YtjdiakhipmggjaaGreatDoor
open Go.Emb Go.RowKit Go.Kd Go.Hm
variable {w : World} {K : Value → World → Prop} {σ : Q6} {v : Value} {l : List Cla}
theorem Q4o {w0:World} {σ0:Q6} {xs:List Cla} (hS:Stp w0 σ0 w σ) (J:J9 w0.heap.size T.b 8 V0 σ w v xs)
 (h: ∀w',Kpt (fun k=>v.ownBlock=some k) w w'→Stp w0 σ0 w' σ→J9 w0.heap.size T.b 8 V0 σ w' v xs.reverse→K (.tuple #[]) w'):Q1 P F.q [v] w K:=Zv (by
 unfold I5
 have Q:xs.length≤9223372036854775807:=by
  obtain ⟨a,ad,_,g,c,_⟩:=J
  simp only[maxLen] at c;omega
 refine Q1F J ?_
 refine Zl ⟨by omega,by omega⟩ ?_
 refine Wn (fun x w'=> ∃i:Nat,x=(I i,I ((xs.length:Int)-1-i))∧2*i≤xs.length∧Kpt (fun k=>v.ownBlock=some k) w w'∧Stp w0 σ0 w' σ∧J9 w0.heap.size T.b 8 V0 σ w' v (C6 i xs)) (fun x _=>match x.2 with | .int _ n=>(n+1).toNat | _=>0) ⟨0,by simp,by omega,Kpt.refl,hS,J⟩ ?_
 rintro _ d w1 ⟨i,rfl,N,O,m,b⟩
 obtain ⟨M,R⟩:=Q0W xs i N
 refine Z2 ?_
 refine Q7 (fun hh=>?_) (fun hh=>?_)
 ·have W:(i:Int)<(xs.length:Int)-1-i:=by simpa using hh
  have U:((xs.length:Int)-1-i)=((xs.length-1-i:Nat):Int):=by omega
  have o:i<(C6 i xs).length:=by omega
  have q:xs.length-1-i<(C6 i xs).length:=by omega
  refine U2 m.sat ?_
  refine E8 (Ptr 8 V0 σ (C6 i xs)[xs.length-1-i]) (fun _ _ _ h f=>h.below f) (fun w f=>?_) ?_
  ·simp only[U]
   exact Q6q (b.step f.stp) q fun a cs g c r=>⟨Below.refl _ _,a,cs,rfl,g,c,r⟩
  refine E8 (Ptr 8 V0 σ (C6 i xs)[i]) (fun _ _ _ h f=>h.below f) (fun w f=>?_) ?_
  ·exact Q6q (b.step f.stp) o fun a cs g c r=>⟨Below.refl _ _,a,cs,rfl,g,c,r⟩
  refine E8 (fun v _=> ∃cs:List Value,v= .agg cs.toArray∧cs.length=8∧V0 σ (C6 i xs)[xs.length-1-i] cs) (fun _ _ _ h _=>h) (fun t w f e=>?_) ?_
  ·obtain ⟨a,cs,rfl,g,c,r⟩:=e
   exact Kf c g ⟨Below.refl _ _,cs,rfl,c,r⟩
  refine E8 (fun v _=> ∃cs:List Value,v= .agg cs.toArray∧cs.length=8∧V0 σ (C6 i xs)[i] cs) (fun _ _ _ h _=>h) (fun t w f e=>?_) ?_
  ·obtain ⟨a,cs,rfl,g,c,r⟩:=e
   exact Kf c g ⟨Below.refl _ _,cs,rfl,c,r⟩
  rintro ab ae X Y w2 j _ _ ⟨cs,rfl,z,y⟩ ⟨ds,rfl,H,s⟩
  refine Q3v (m.trans j.stp) (b.step j.stp) o z y (Rep.one y) fun p u w3 D B A=>?_
  simp only[U]
  refine Q3v B.stp A (by simpa using q) H s (Rep.one s) fun p u w4 L E C=>?_
  refine Yc ⟨by omega,by omega⟩ ?_
  refine Zl ⟨by omega,by omega⟩ ?_
  refine ⟨⟨i+1,by congr 1<;>congr 1<;>omega,by omega,?_,E.stp,?_⟩,?_⟩
  ·exact ((O.trans (Kpt.of_below j.stp.bel)).trans D).trans L
  ·have Z:(C6 i xs)[i]? =some (C6 i xs)[i]:=List.getElem?_eq_getElem o
   have e2:(C6 i xs)[xs.length-1-i]? =some (C6 i xs)[xs.length-1-i]:=List.getElem?_eq_getElem q
   have:C6 (i+1) xs=((C6 i xs).set i (C6 i xs)[xs.length-1-i]).set (xs.length-1-i) (C6 i xs)[i]:=by
    simp only[C6,Z,e2]
   rw[this];exact C
  ·simp only;omega
 ·have V: ¬(i:Int)<(xs.length:Int)-1-i:=by simpa using hh
  rw[X0h xs i N (by omega)] at b
  exact h w1 O m b)
def sOf:Value→X0 | .string b=>b.data.toList | _=>[]
theorem X0n {n:X0} (N:X2 w σ) (B:Tab σ v l) (R:Jg l) (X:l.length≤100000) (h: ∀q w' σ',Stp w σ w' σ'→J9 w.heap.size T.b 8 V0 σ' w' q (chain l n).reverse→K q w'):Q1 P F.aU [v,S n] w K:=Q0g (by
 unfold Om
 refine Wn (fun x w'=> ∃(s:X0) (k:List Cla) (σ':Q6),x.2=S s∧chain l n=k++chain l s∧Stp w σ w' σ'∧V6 w.heap.size T.b 8 V0 σ' w' x.1 k) (fun x _=>(chain l (sOf x.2)).length)
  ⟨n,[],σ,rfl,rfl,Stp.refl N,V6.nil⟩ ?_
 rintro ⟨x1,_⟩ d w1 ⟨s,k,σ1,rfl,o,a,g⟩
 have i:=B.lift ⟨a.le⟩
 have z:=Bw l n
 have t:sOf (S s)=s:=by simp[sOf]
 simp only[t]
 cases j:lk l s with
 | none=>
  refine Q1i a.sat i j ?_
  refine J0 ?_
  rw[Yy j,List.append_nil] at o
  rw[←o] at g
  refine Q4o a (J9.of_acc g) fun Q e r y=>?_
  exact h _ _ _ r y
 | some c=>
  refine Cm a.sat i j ?_
  refine J7 ?_
  refine Zm a.sat i j fun M C mv Q Y e L J H V U A=>?_
  have b:=A9 R s
  rw[j] at b
  simp only at b
  have E:k.length+1≤l.length+1:=by
   have:=congrArg List.length o
   rw[List.length_append,b,List.length_cons] at this;omega
  refine Jo (a.trans e) (g.up e) A rfl rfl rfl (by omega) (by omega) fun u q w3 Z O f p _=>?_
  refine Zm f.sat (B.lift ⟨f.le⟩) j fun M C mv W D m L J H V U A=>?_
  refine J4 (v:=S c.super) rfl ?_
  refine ⟨⟨c.super,k++[c],D,rfl,?_,f.trans m,p.up m⟩,?_⟩
  ·rw[o,b];simp
  ·have:sOf (S c.super)=c.super:=by simp[sOf]
   simp only[this,b,List.length_cons];omega)
theorem Rv {n:X0} (hs:X2 w σ) (X:Tab σ v l) (ha:Jg l) (W:l.length≤100000) (A: ∀c∈l,Qw c) (h: ∀u w' σ',Stp w σ w' σ'→Sl 3 R9 σ' u (Y4 l n)→K u w'):Q1 P F.u [v,S n] w K:=Fz (by
 unfold Lb
 refine X0n hs X ha W fun v1 w1 σ1 E y=>?_
 obtain ⟨Q,D,m,Z,_⟩:=y.keep E
 generalize j:(chain l n).reverse=cs at*
 have M:cs.length≤l.length+1:=by rw[←j,List.length_reverse];exact Bw l n
 have r: ∀c∈cs,c.fields.length≤1000000:=fun c t=>(A c (Bi (by rw[←j] at t;simpa using t))).2.1
 refine Q8 m ?_
 refine H0 cs.length (fun i a w'=> ∃σ',Stp w σ w' σ'∧SLe Q σ'∧V6 w.heap.size T.n 3 R9 σ' w' a ((cs.take i).flatMap (·.fields))) ⟨Q,D,SLe.refl _,V6.nil⟩ fun i a w3 d hi k=>?_
 obtain ⟨σ3,f,s,g⟩:=k
 refine Z2 ?_
 refine Q7 (fun hh=>?_) (fun hh=>?_)
 ·have b:i<cs.length:=by simpa using hh
  refine M9 (m.lift s) b fun p cells z o O=>?_
  refine Y5 f.sat z o ?_
  refine Y7 f.sat (by rfl) o (Rep.one O) fun q w4 N e hq=>?_
  obtain ⟨lv,fv,mv,rfl,f1,Y,f3,f4,f5⟩:=O
  rw[fa]
  refine ld e.sat hq rfl ?_
  have L:=Vm (fun c:Cla=>c.fields) 1000000 (cs.take i) fun c t=>r c (List.mem_of_mem_take t)
  rw[List.length_take] at L
  have U:=r cs[i] (List.getElem_mem b)
  have R:min i cs.length*1000000≤100000*1000000:=Nat.mul_le_mul_right _ (by omega)
  refine Wk (f.trans e) (g.up e) (Y.up e) rfl (by omega) (by omega) fun u w5 ac B H _=>?_
  refine O8 ?_
  refine J6 (by omega) b ⟨N,B,s.more ⟨e.le⟩,?_⟩
  rw[List.take_add_one,List.getElem?_eq_getElem b,List.flatMap_append]
  simpa using H
 ·have b: ¬i<cs.length:=by simpa using hh
  rw[List.take_of_length_le (by omega)] at g
  obtain ⟨N,C,J,V,_⟩:=g.keep f
  refine h _ _ _ C ?_
  unfold Y4
  rw[j];exact J)
theorem X2t {n f:X0} (hs:X2 w σ) (ht:Tab σ v l) (ha:Jg l) (hl:l.length≤100000) (hsm: ∀c∈l,Qw c) (h: ∀w' σ',Stp w σ w' σ'→K (I (L7 (Ur l n f))) w'):Q1 P F.bo [v,S n,S f] w K:=Pw (by
 unfold Mt
 refine U6 hs rfl fun q w1 σ1 hk1 hq=>?_
 refine Rv hk1.sat (ht.lift ⟨hk1.le⟩) ha hl hsm fun v' w2 σ2 hk2 hv2=>?_
 rw[Qh]
 refine Ic (fun x=>decide (x.name=f)) hk2.sat hv2 (fun x cs w3 K _ hs3 hr hl hK=>Z9 (Fm ?_)) fun w3 hb=>?_
 ·obtain ⟨rfl,_⟩:=hr
  unfold Vt
  have hq2:=hq.up hk2
  refine Y9 hs3 fun a w4 σ4 hk4 ha4=>?_
  (repeat' (first | (with_reducible intro _) | (with_reducible refine U7 ?_) | (simp only[↓M2,M2,Mb,reduceIte]) | (with_reducible first | refine ld aS aL aR ?_ | refine X7 aS aL aR ?_ | refine Y5 aS aL aR ?_ | refine Q8 aL ?_ | refine J4 aR ?_ | refine Y9 aS ?_ | refine N1 aS aL ?_ | refine U6 aS aR ?_ | refine Y7 aS aR aR (Rep.one (by assumption)) ?_ | refine U8 aS aR aR aR ?_ | (refine J3 (fun hh=>?_) (fun hh=>?_)<;>(try simp only[hh,Bool.not_true,Bool.not_false,↓M2,M2,Mb,reduceIte])) | (refine Q7 (fun hh=>?_) (fun hh=>?_)<;>(try simp only[hh,Bool.not_true,Bool.not_false,↓M2,M2,Mb,reduceIte])))))
  exact hK _ hk4.bel
 ·exact h _ _ ((hk1.trans hk2).trans (Stp.of_below hk2.sat hb)))
end Go.Proofs.YtjdiakhipmggjaaGreatDoor

namespace Go.Hm
open Go.Kd
theorem Q5Z {α:Type} (p:α→Bool): ∀xs:List α,xs.find? p=(xs.findIdx? p).bind (xs[·]?)
 | []=>rfl
 | x::r=>by
  rw[List.find?_cons,List.findIdx?_cons]
  cases p x with
  | true=>rfl
  | false=>
   simp only[Bool.false_eq_true,if_false]
   rw[Q5Z p r]
   cases r.findIdx? p<;>simp
def X1k (l:List Cla):Prop:= ∀c∈l,∀u∈c.like,∃d,lk l u=some d
def Nm (c:Cla):Prop:=c.name.length≤100∧(∀f∈c.fields,f.name.length≤100∧f.kind.length≤100)∧ ∀m∈c.methods,m.result.length≤100∧ ∀p∈m.params,p.length≤100
structure Ok (l : List Cla) : Prop where
  acy : Jg l
  len : l.length ≤ 100000
  sm : ∀ c ∈ l, Qw c
  full : X1k l
  nm : ∀ c ∈ l, Nm c
abbrev oM (o:Option Hm.Met):Hm.Met:=o.getD Hm.Met.zero
abbrev o1 (o:Option (X0×Hm.Met)):X0:=(o.map (·.1)).getD []
abbrev o2 (o:Option (X0×Hm.Met)):Hm.Met:=(o.map (·.2)).getD Hm.Met.zero
theorem Yg {α β:Type} {xs:List α} {f:α→Option β} {n:Nat} (h:n<xs.length) (a:(xs.take n).findSome? f=none):(xs.take (n+1)).findSome? f=f xs[n]:=by
 rw[List.take_add_one,List.getElem?_eq_getElem h,List.findSome?_append,a];simp
theorem Ye {α β:Type} {xs:List α} {f:α→Option β} {n:Nat} {y:β} (h:n<xs.length) (a:(xs.take n).findSome? f=none) (b:f xs[n]=some y):xs.findSome? f=some y:=by
 have:=Yg h a
 rw[b] at this
 rw[←List.take_append_drop (n+1) xs,List.findSome?_append,this];rfl
end Go.Hm
namespace Go.Proofs.YtjdiakhipmggjaaGreatDoor
open Go.Emb Go.RowKit Go.Kd Go.Hm
variable {w : World} {K : Value → World → Prop} {σ : Q6} {v : Value} {l : List Cla}
theorem Qz:E5 σ Hm.Met.zero [S [], .slice none 0 0,S [], .bool false,I 0, .slice none 0 0, .slice none 0 0]:=
 ⟨_,_,_,rfl,Sl.nil,Sl.nil,Sl.nil,by decide,by decide,by decide,by decide⟩
theorem Ig (h:K (.agg [S [], .slice none 0 0,S [], .bool false,I 0, .slice none 0 0, .slice none 0 0].toArray) w):H3 P T.d [] w K:=W3 (by kernel_rfl) h
theorem X1A {c:Cla} {cs:List Value} {n:X0} (hs:X2 w σ) (hc:V0 σ c cs) (hsm:Qw c)
 (h: ∀pv cv hv w' σ',Stp w σ w' σ'→E5 σ' (oM (F4 c n)) [S (oM (F4 c n)).name,pv,S (oM (F4 c n)).result, .bool (oM (F4 c n)).abs,I (oM (F4 c n)).locals,cv,hv]→
  K (.tuple #[.agg [S (oM (F4 c n)).name,pv,S (oM (F4 c n)).result, .bool (oM (F4 c n)).abs,I (oM (F4 c n)).locals,cv,hv].toArray, .bool (F4 c n).isSome]) w'):Q1 P F.cA [.agg cs.toArray,S n] w K:=Q8w (by
 obtain ⟨lv,fv,mv,rfl,g1,g2,g3,g4,g5⟩:=hc
 unfold Q3J
 refine Y9 hs fun a w1 σ1 hk1 ha1=>?_
 refine U6 hk1.sat rfl fun q w2 σ2 hk2 hq=>?_
 refine M8 hk2.sat fun b w3 σ3 hb hk3 hm=>?_
 rw[fa]
 have ha3:=(ha1.up hk2).up hk3
 have g3:=((g3.up hk1).up hk2).up hk3
 have hq3:=hq.up hk3
 refine ld hk3.sat ha3 rfl ?_
 rw[Qh]
 have hS3:=(hk1.trans hk2).trans hk3
 have hb0:w.heap.size≤b:=N0 hb (hk1.trans hk2)
 refine Fa (fun x=>decide (x.name=n)) hk3.sat g3 (fun x cs w4 K _ hs4 hr hl hK=>Z9 (Q6e ?_)) fun w4 hb4=>?_
 ·obtain ⟨pv,cv,hv,rfl,_⟩:=hr
  unfold Q1d
  refine Y9 hs4 fun a w5 σ5 hk5 ha5=>?_
  (repeat' (first | (with_reducible intro _) | (with_reducible refine U7 ?_) | (simp only[↓M2,M2,Mb,reduceIte]) | (with_reducible first | refine ld aS aL aR ?_ | refine X7 aS aL aR ?_ | refine Y5 aS aL aR ?_ | refine Q8 aL ?_ | refine J4 aR ?_ | refine Y9 aS ?_ | refine N1 aS aL ?_ | refine U6 aS aR ?_ | refine Y7 aS aR aR (Rep.one (by assumption)) ?_ | refine U8 aS aR aR aR ?_ | (refine J3 (fun hh=>?_) (fun hh=>?_)<;>(try simp only[hh,Bool.not_true,Bool.not_false,↓M2,M2,Mb,reduceIte])) | (refine Q7 (fun hh=>?_) (fun hh=>?_)<;>(try simp only[hh,Bool.not_true,Bool.not_false,↓M2,M2,Mb,reduceIte])))))
  exact hK _ hk5.bel
 have hk4:Stp w3 σ3 w4 σ3:=Stp.of_below hk3.sat hb4
 have hm:=hm.step hk4
 have hS4:=hS3.trans hk4
 unfold F4 at h
 rw[Q5Z] at h
 refine Z2 ?_
 cases hf:c.methods.findIdx? fun x=>decide (x.name=n) with
 | none=>
  rw[hf] at h
  simp only[L7]
  refine J7 ?_
  refine Ig ?_
  refine G0 hm hS4 hb0 rfl rfl (Rep.one (Qz (σ:=σ3))) fun w5 hS5 hm5=>?_
  refine V2 hm5 rfl ?_
  exact h _ _ _ w5 σ3 hS5.stp Qz
 | some i=>
  rw[hf] at h
  have hi:i<c.methods.length:=(List.findIdx?_eq_some_iff_getElem.1 hf).1
  simp only[Option.bind_some,List.getElem?_eq_getElem hi] at h
  simp only[L7]
  refine Q7 (fun hh=>absurd (of_decide_eq_true hh) (by omega)) (fun _=>?_)
  rw[fa]
  refine ld hk4.sat ha3 rfl ?_
  refine M9 g3 hi fun p cells hl1 hl2 hr=>?_
  refine Y5 hk4.sat hl1 hl2 ?_
  refine Q4Z hk4.sat hr (hsm.2.2.2 _ (List.getElem_mem hi)) fun pv cv hv w5 σ5 hk5 hr5=>?_
  refine G0 (hm.step hk5) (hS4.trans hk5) hb0 rfl rfl (Rep.one hr5) fun w6 hS6 hm6=>?_
  refine V2 hm6 rfl ?_
  exact h _ _ _ w6 σ5 hS6.stp hr5)
theorem X3c {n:X0} (ok:Ok l): ∀(k:Nat) {c:Cla} {cs:List Value} {w:World} {σ:Q6} {K:Value→World→Prop},K9 l c.name<k→lk l c.name=some c→X2 w σ→Tab σ v l→V0 σ c cs→
 (∀pv Y W w' Z,Stp w σ w' Z→E5 Z (o2 (V5 l c n)) [S (o2 (V5 l c n)).name,pv,S (o2 (V5 l c n)).result, .bool (o2 (V5 l c n)).abs,I (o2 (V5 l c n)).locals,Y,W]→
  K (.tuple #[S (o1 (V5 l c n)), .agg [S (o2 (V5 l c n)).name,pv,S (o2 (V5 l c n)).result, .bool (o2 (V5 l c n)).abs,I (o2 (V5 l c n)).locals,Y,W].toArray, .bool (V5 l c n).isSome]) w')→
 Q1 P F.aW [v, .agg cs.toArray,S n] w K:=by
 intro k
 induction k with
 | zero=>
  intro c cs w σ K hk
  omega
 | succ k ih=>
  intro c cs w σ K hk hc hs ht hr h
  refine Ag ?_
  obtain ⟨lv,fv,mv,rfl,g1,g2,g3,g4,g5⟩:=hr
  have L:=Q4H ok.acy hc n
  generalize hf:(fun u=>match lk l u with | none=>none | some d=>match F4 d n with | some m=>some (u,m) | none=>V5 l d n)=f at L
  unfold Ol
  refine Y9 hs fun a w1 σ1 E a0=>?_
  refine M8 E.sat fun b w2 σ2 hb B a7=>?_
  have U:w.heap.size≤b:=N0 hb E
  have bb:=a0.up B
  rw[fa]
  refine ld B.sat bb rfl ?_
  have g1:=(g1.up E).up B
  refine Q8 g1 ?_
  refine U3 c.like.length (fun i w'=> ∃Z,Stp w σ w' Z∧SLe σ2 Z∧Y3 Z w' b [S [], .slice none 0 0,S [], .bool false,I 0, .slice none 0 0, .slice none 0 0]∧(c.like.take i).findSome? f=none) ⟨σ2,E.trans B,SLe.refl _,a7,rfl⟩ fun i w3 d hi aa=>?_
  obtain ⟨σ3,z,aj,al,A⟩:=aa
  have a3:=ht.lift ⟨z.le⟩
  refine Z2 ?_
  refine Q7 (fun hh=>?_) (fun hh=>?_)
  ·have g:i<c.like.length:=by simpa using hh
   refine Q6o (g1.lift aj) g fun p a1 ab=>?_
   refine X7 z.sat a1 rfl ?_
   obtain ⟨d,X⟩:=ok.full c (V4 hc).2.1 _ (List.getElem_mem g)
   obtain ⟨ad,aw,_⟩:=V4 X
   have j:f c.like[i]=match F4 d n with | some m=>some (c.like[i],m) | none=>V5 l d n:=by rw[←hf];simp only[X]
   refine Zm z.sat a3 X fun a9 a5 az w4 σ4 J f1 f2 f3 f4 f5 a2=>?_
   refine X1A J.sat a2 (ok.sm d aw) fun pv Y W w5 σ5 H an=>?_
   refine Z5 (vs:=[_,_]) rfl ?_
   refine Z5 (vs:=[_,_]) rfl ?_
   refine Y7 H.sat (by rfl) rfl (Rep.one an) fun q w6 σ6 D am=>?_
   have t:=((z.trans J).trans H).trans D
   have ak:=((al.step J).step H).step D
   have V:=RMe_lift an ⟨D.le⟩
   cases ho:F4 d n with
   | some m=>
    rw[ho] at j V am
    (try simp only[ho])
    refine J7 ?_
    refine U2 t.sat ?_
    refine E8 (fun v _=>v= .agg [S m.name,pv,S m.result, .bool m.abs,I m.locals,Y,W].toArray) (fun _ _ _ h _=>h) (fun w hb=>Y5 hb.sat am rfl ⟨Below.refl _ _,rfl⟩) ?_
    rintro _ w7 ap rfl
    refine G0 (ak.step ap.stp) (t.trans ap.stp) U rfl rfl (Rep.one V) fun w8 aq av=>?_
    refine V2 av rfl ?_
    have O:=L.trans (Ye g A j)
    rw[O] at h
    exact h _ _ _ w8 σ6 aq.stp V
   | none=>
    rw[ho] at j
    (try simp only[Option.isSome_none])
    refine J0 ?_
    refine Zm t.sat (ht.lift ⟨t.le⟩) X fun a9 a5 az w7 σ7 y f1 f2 f3 f4 f5 ar=>?_
    have bl:=Yd ok.acy hc (by simp[U4,List.getElem_mem g]:c.like[i]∈U4 c) X
    refine ih (by rw[ad];omega) (by rw[ad];exact X) y.sat (ht.lift ⟨(t.trans y).le⟩) ar fun pv Y W w8 σ8 M ao=>?_
    refine Z5 (vs:=[_,_,_]) rfl ?_
    refine Z5 (vs:=[_,_,_]) rfl ?_
    refine Z5 (vs:=[_,_,_]) rfl ?_
    refine Y7 M.sat (by rfl) rfl (Rep.one ao) fun q w9 σ9 C ai=>?_
    have R:=((t.trans y).trans M).trans C
    have ae:=((ak.step y).step M).step C
    have Q:=RMe_lift ao ⟨C.le⟩
    cases O:V5 l d n with
    | some r=>
     obtain ⟨s,m⟩:=r
     rw[O] at j Q ai
     (try simp only[O])
     refine J7 ?_
     refine U2 R.sat ?_
     refine E8 (fun v _=>v= .agg [S m.name,pv,S m.result, .bool m.abs,I m.locals,Y,W].toArray) (fun _ _ _ h _=>h) (fun w hb=>Y5 hb.sat ai rfl ⟨Below.refl _ _,rfl⟩) ?_
     rintro _ bn N rfl
     refine G0 (ae.step N.stp) (R.trans N.stp) U rfl rfl (Rep.one Q) fun a6 ag ac=>?_
     refine V2 ac rfl ?_
     have ab:=L.trans (Ye g A j)
     rw[ab] at h
     exact h _ _ _ a6 σ9 ag.stp Q
    | none=>
     rw[O] at j
     (try simp only[Option.isSome_none])
     refine J0 ?_
     refine O8 ?_
     refine Y6 (by have:=g1.max;omega) g ⟨σ9,R,?_,ae,?_⟩
     ·exact aj.more ⟨fun b o e=>C.le _ _ (M.le _ _ (y.le _ _ (D.le _ _ (H.le _ _ (J.le _ _ e)))))⟩
     ·rw[Yg g A];exact j
  ·have g: ¬i<c.like.length:=by simpa using hh
   rw[List.take_of_length_le (by omega)] at A
   refine Ig ?_
   refine G0 al z U rfl rfl (Rep.one (Qz (σ:=σ3))) fun w5 ay ba=>?_
   refine V2 ba rfl ?_
   have O:=L.trans A
   rw[O] at h
   exact h _ _ _ w5 σ3 ay.stp Qz
end Go.Proofs.YtjdiakhipmggjaaGreatDoor

namespace Go.Hm
open Go.Kd
theorem X1d {l:List Cla} {n:X0} {c:Cla} (h:c∈chain l n):lk l c.name=some c:=by
 have key: ∀(f:Nat) (n:X0),c∈I7 (lk l) f n→lk l c.name=some c:=by
  intro f
  induction f with
  | zero=>intro n h;simp[I7] at h
  | succ f b=>
   intro n h
   simp only[I7] at h
   split at h
   ·simp at h
   ·rename_i d a
    rcases List.mem_cons.1 h with rfl | h
    ·rw[(V4 a).1];exact a
    ·exact b _ h
 exact key _ _ h
end Go.Hm
namespace Go.Proofs.YtjdiakhipmggjaaGreatDoor
open Go.Emb Go.RowKit Go.Kd Go.Hm
variable {w : World} {K : Value → World → Prop} {σ : Q6} {v : Value} {l : List Cla}
theorem X0K {k n:X0} (hs:X2 w σ) (ht:Tab σ v l) (ok:Ok l)
 (h: ∀pv Z hv w' H,Stp w σ w' H→E5 H (o2 (V3 l k n)) [S (o2 (V3 l k n)).name,pv,S (o2 (V3 l k n)).result, .bool (o2 (V3 l k n)).abs,I (o2 (V3 l k n)).locals,Z,hv]→
  K (.tuple #[S (o1 (V3 l k n)), .agg [S (o2 (V3 l k n)).name,pv,S (o2 (V3 l k n)).result, .bool (o2 (V3 l k n)).abs,I (o2 (V3 l k n)).locals,Z,hv].toArray, .bool (V3 l k n).isSome]) w'):
 Q1 P F.be [v,S k,S n] w K:=Gq (by
 unfold La
 refine M8 hs fun b w1 σ1 E R ah=>?_
 refine X0n R.sat (ht.lift ⟨R.le⟩) ok.acy ok.len fun v1 w2 σ2 ac aj=>?_
 have a6:=ah.step ac
 have bi:=ah.lt
 refine Q4o (R.trans ac) (aj.mono R.bel.size) fun w3 bc a4 af=>?_
 rw[List.reverse_reverse] at af
 obtain ⟨σ3,ak,N,bh,al⟩:=af.keep a4
 have bg:=Bw l k
 have a1:v1.ownBlock≠some b:=fun e=>by have:=aj.own e;omega
 have ar:Y3 σ3 w3 b [S [], .slice none 0 0,S [], .bool false,I 0, .slice none 0 0, .slice none 0 0]:=by
  have:=a6.kp bc a1
  exact ⟨(al b fun e=>a1 e.symm).trans this.1,this.2⟩
 refine Q8 N ?_
 unfold V3 at h
 refine U3 (chain l k).length (fun i w'=> ∃H,Stp w σ w' H∧SLe σ3 H∧Y3 H w' b [S [], .slice none 0 0,S [], .bool false,I 0, .slice none 0 0, .slice none 0 0]∧((chain l k).take i).findSome? (fun c=>(F4 c n).map (c.name,·))=none) ⟨σ3,ak,SLe.refl _,ar,rfl⟩ fun i w5 d hi C=>?_
 obtain ⟨σ5,L,J,az,u⟩:=C
 refine Z2 ?_
 refine Q7 (fun hh=>?_) (fun hh=>?_)
 ·have a:i<(chain l k).length:=by simpa using hh
  refine M9 (N.lift J) a fun p cells X z hr=>?_
  refine Y5 L.sat X z ?_
  refine Y7 L.sat (by rfl) z (Rep.one hr) fun q w6 σ6 A ax=>?_
  refine Y5 A.sat ax z ?_
  have ay:=Bi (List.getElem_mem a)
  refine X1A A.sat (Rep.up A.le hr) (ok.sm _ ay) fun pv Z hv w7 σ7 j ae=>?_
  refine Z5 (vs:=[_,_]) rfl ?_
  refine Z5 (vs:=[_,_]) rfl ?_
  refine Y7 j.sat (by rfl) rfl (Rep.one ae) fun q8 w8 σ8 y ag=>?_
  have V:=((L.trans A).trans j).trans y
  have ai:=((az.step A).step j).step y
  have B:=RMe_lift ae ⟨y.le⟩
  cases D:F4 (chain l k)[i] n with
  | some m=>
   rw[D] at B ag
   (try simp only[D])
   refine J7 ?_
   obtain ⟨lv,fv,mv,rfl,g⟩:=hr
   refine U2 V.sat ?_
   refine X4 (.pointer (some (q.add 0))) (fun w E=>by rw[fa];exact X6 rfl) ?_
   refine X4 (S (chain l k)[i].name) (fun t w E e=>by rw[e];exact ld E.sat ((ax.up j).up y) rfl (X6 rfl)) ?_
   refine E8 (fun v _=>v= .agg [S m.name,pv,S m.result, .bool m.abs,I m.locals,Z,hv].toArray) (fun _ _ _ h _=>h) (fun w E=>Y5 E.sat ag rfl ⟨Below.refl _ _,rfl⟩) ?_
   rintro _ _ _ w9 am rfl rfl rfl
   refine G0 (ai.step am.stp) (V.trans am.stp) E rfl rfl (Rep.one B) fun a2 aq a0=>?_
   refine V2 a0 rfl ?_
   rw[Ye (f:=fun c=>(F4 c n).map (c.name,·)) a u (by simp only[D];rfl)] at h
   exact h _ _ _ a2 σ8 aq.stp B
  | none=>
   (try simp only[D])
   refine J0 ?_
   refine O8 ?_
   refine Y6 (by have:=ok.len;omega) a ⟨σ8,V,J.more ⟨fun b o e=>y.le _ _ (j.le _ _ (A.le _ _ e))⟩,ai,?_⟩
   rw[Yg a u];simp only[D];rfl
 ·have a: ¬i<(chain l k).length:=by simpa using hh
  rw[List.take_of_length_le (by omega)] at u
  rw[u] at h
  clear ar ak hh
  refine Q8 (N.lift J) ?_
  refine U3 (chain l k).length (fun i w'=> ∃H,Stp w σ w' H∧SLe σ3 H∧Y3 H w' b [S [], .slice none 0 0,S [], .bool false,I 0, .slice none 0 0, .slice none 0 0]∧((chain l k).take i).findSome? (fun c=>V5 l c n)=none) ⟨σ5,L,J,az,rfl⟩ fun i w6 d hi C=>?_
  obtain ⟨σ6,Q,ao,ap,u⟩:=C
  refine Z2 ?_
  refine Q7 (fun hh=>?_) (fun hh=>?_)
  ·have a:i<(chain l k).length:=by simpa using hh
   refine M9 (N.lift ao) a fun p cells X z hr=>?_
   refine Y5 Q.sat X z ?_
   refine Y7 Q.sat (by rfl) z (Rep.one hr) fun q w7 σ7 j a7=>?_
   refine Y5 j.sat a7 z ?_
   have O:=Q.trans j
   have ba:=X1d (List.getElem_mem a)
   refine X3c ok _ (Nat.lt_succ_self _) ba j.sat (ht.lift ⟨O.le⟩) (Rep.up j.le hr) fun pv Z hv w8 σ8 y B=>?_
   refine Z5 (vs:=[_,_,_]) rfl ?_
   refine Z5 (vs:=[_,_,_]) rfl ?_
   refine Z5 (vs:=[_,_,_]) rfl ?_
   refine Y7 y.sat (by rfl) rfl (Rep.one B) fun q9 w9 σ9 M an=>?_
   have W:=(O.trans y).trans M
   have aw:=((ap.step j).step y).step M
   have Y:=RMe_lift B ⟨M.le⟩
   cases D:V5 l (chain l k)[i] n with
   | some r=>
    obtain ⟨s,m⟩:=r
    rw[D] at Y an
    (try simp only[D])
    refine J7 ?_
    refine U2 W.sat ?_
    refine E8 (fun v _=>v= .agg [S m.name,pv,S m.result, .bool m.abs,I m.locals,Z,hv].toArray) (fun _ _ _ h _=>h) (fun w E=>Y5 E.sat an rfl ⟨Below.refl _ _,rfl⟩) ?_
    rintro _ a2 U rfl
    refine G0 (aw.step U.stp) (W.trans U.stp) E rfl rfl (Rep.one Y) fun a5 ad av=>?_
    refine V2 av rfl ?_
    have:=Ye (f:=fun c=>V5 l c n) a u D
    unfold V5 at this
    rw[this] at h
    exact h _ _ _ a5 σ9 ad.stp Y
   | none=>
    (try simp only[D])
    refine J0 ?_
    refine O8 ?_
    refine Y6 (by have:=ok.len;omega) a ⟨σ9,W,ao.more ⟨fun b o e=>M.le _ _ (y.le _ _ (j.le _ _ e))⟩,aw,?_⟩
    rw[Yg a u];exact D
  ·have a: ¬i<(chain l k).length:=by simpa using hh
   rw[List.take_of_length_le (by omega)] at u
   refine Ig ?_
   refine G0 ap Q E rfl rfl (Rep.one (Qz (σ:=σ6))) fun w7 O a8=>?_
   refine V2 a8 rfl ?_
   unfold V5 at u
   rw[u] at h
   exact h _ _ _ w7 σ6 O.stp Qz)
theorem Q4p {n:X0} (hs:X2 w σ) (ht:Tab σ v l) (h: ∀w' σ',Stp w σ w' σ'→K (.bool (A5 l n)) w'):Q1 P F.aG [v,S n] w K:=Fg (by
 unfold Vr
 unfold A5 at h
 cases hd:lk l n with
 | none=>
  rw[hd] at h
  (repeat' (first | (with_reducible intro _) | (with_reducible refine U7 ?_) | (simp only[↓M2,M2,Mb,reduceIte]) | (with_reducible first | refine ld aS aL aR ?_ | refine X7 aS aL aR ?_ | refine Y5 aS aL aR ?_ | refine Q8 aL ?_ | refine J4 aR ?_ | refine Y9 aS ?_ | refine N1 aS aL ?_ | refine U6 aS aR ?_ | refine Y7 aS aR aR (Rep.one (by assumption)) ?_ | refine U8 aS aR aR aR ?_ | refine Q1i au au au ?_ | (refine J3 (fun hh=>?_) (fun hh=>?_)<;>(try simp only[hh,Bool.not_true,Bool.not_false,↓M2,M2,Mb,reduceIte])) | (refine Q7 (fun hh=>?_) (fun hh=>?_)<;>(try simp only[hh,Bool.not_true,Bool.not_false,↓M2,M2,Mb,reduceIte])))))
  all_goals exact aF
 | some d=>
  rw[hd] at h
  (repeat' (first | (with_reducible intro _) | (with_reducible refine U7 ?_) | (simp only[↓M2,M2,Mb,reduceIte]) | (with_reducible first | refine ld aS aL aR ?_ | refine X7 aS aL aR ?_ | refine Y5 aS aL aR ?_ | refine Q8 aL ?_ | refine J4 aR ?_ | refine Y9 aS ?_ | refine N1 aS aL ?_ | refine U6 aS aR ?_ | refine Y7 aS aR aR (Rep.one (by assumption)) ?_ | refine U8 aS aR aR aR ?_ | refine Cm au au au ?_ | refine Zm au au au ?_ | (refine J3 (fun hh=>?_) (fun hh=>?_)<;>(try simp only[hh,Bool.not_true,Bool.not_false,↓M2,M2,Mb,reduceIte])) | (refine Q7 (fun hh=>?_) (fun hh=>?_)<;>(try simp only[hh,Bool.not_true,Bool.not_false,↓M2,M2,Mb,reduceIte])))))
  all_goals exact aF)
end Go.Proofs.YtjdiakhipmggjaaGreatDoor

namespace Go.Kd
def brk (b:UInt8):Bool:=[(91:UInt8),93].contains b
def Q1Q:Nat→X0→X0
 | 0,s=>s
 | n+1,s=>match s.getLast? with
  | some b=>if brk b then Q1Q n (s.take (s.length-1)) else s
  | none=>s
def Ho (s:X0):X0:=Q1Q s.length s
theorem Q8G: ∀(n m:Nat) (s:X0),s.length≤n→s.length≤m→Q1Q n s=Q1Q m s:=by
 intro n
 induction n with
 | zero=>
  intro m s h _
  have:s=[]:=List.eq_nil_of_length_eq_zero (by omega)
  subst this
  cases m<;>rfl
 | succ n a=>
  intro m s h c
  cases m with
  | zero=>
   have:s=[]:=List.eq_nil_of_length_eq_zero (by omega)
   subst this;rfl
  | succ m=>
   simp only[Q1Q]
   cases d:s.getLast? with
   | none=>rfl
   | some b=>
    simp only
    split
    ·exact a m _ (by rw[List.length_take];omega) (by rw[List.length_take];omega)
    ·rfl
theorem Q1u (s:X0):Ho s=match s.getLast? with | some b=>if brk b then Ho (s.take (s.length-1)) else s | none=>s:=by
 unfold Ho
 cases d:s with
 | nil=>rfl
 | cons c r=>
  rw[←d]
  obtain ⟨n,e⟩: ∃n,s.length=n+1:=⟨r.length,by rw[d];rfl⟩
  have a:s.length-1=n:=by omega
  rw[e]
  simp only[Q1Q,a]
  cases f:s.getLast? with
  | none=>rfl
  | some b=>
   simp only
   split
   ·rw[show n+1-1=n by omega];exact Q8G n (s.take n).length _ (by rw[List.length_take];omega) (Nat.le_refl _)
   ·rfl
theorem X06 {s:X0} (h:name s=true): ∃b,s.getLast?=some b∧S8 b.toNat=true:=by
 cases s with
 | nil=>simp[name] at h
 | cons c r=>
  refine ⟨(c::r).getLast (by simp),List.getLast?_eq_some_getLast (by simp),?_⟩
  simp only[name,Bool.and_eq_true,List.all_eq_true] at h
  exact h.2 _ (List.getLast_mem _)
theorem Q9y {b:UInt8} (h:S8 b.toNat=true):brk b=false:=by
 have c:b≠91:=by rintro rfl;revert h;decide
 have a:b≠93:=by rintro rfl;revert h;decide
 simp[brk,c,a]
theorem Np {s:X0} (h:(plain s||M7 s)=true):name s=true:=by
 simp only[Bool.or_eq_true] at h
 rcases h with h | h
 ·simp only[plain,Bool.or_eq_true,decide_eq_true_eq] at h
  rcases h with (h | h) | h<;>subst h<;>decide
 ·cases s with
  | nil=>simp[M7] at h
  | cons c r=>simp only[M7,Bool.and_eq_true] at h;exact h.1
end Go.Kd
namespace Go.Proofs.YtjdiakhipmggjaaGreatDoor
open Go.Emb Go.RowKit Go.Kd Go.Hm
variable {w : World} {K : Value → World → Prop} {σ : Q6} {v : Value} {l : List Cla}
theorem X12 {s:X0} (h:arr s=true):Ho s=Ho (Kd.cutA s):=by
 have e:2≤s.length∧s.drop (s.length-2)=[91,93]:=by simpa [arr] using h
 obtain ⟨i,b⟩:=e
 have a:s=Kd.cutA s++[91,93]:=by unfold Kd.cutA;rw[←b,List.take_append_drop]
 have g:(Kd.cutA s).length+2=s.length:=by unfold Kd.cutA;rw[List.length_take];omega
 have f:s.getLast?=some 93:=by rw[a];simp
 have c:s.take (s.length-1)=Kd.cutA s++[91]:=by
  conv=>lhs;rw[a]
  rw[List.take_append,List.length_append]
  simp
  exact List.take_of_length_le (by omega)
 rw[Q1u s,f]
 simp only[show brk 93=true from rfl,if_true,c]
 rw[Q1u]
 have d:(Kd.cutA s++[91]).getLast?=some 91:=by simp
 rw[d]
 simp only[show brk 91=true from rfl,if_true]
 congr 1
 simp
theorem Q9s {s:X0}:(plain (base s).1||M7 (base s).1)=true→Ho s=(base s).1:=by
 have key: ∀(n:Nat) (s:X0),s.length≤n→(plain (base s).1||M7 (base s).1)=true→Ho s=(base s).1:=by
  intro n
  induction n with
  | zero=>
   intro s h a
   have:s=[]:=List.eq_nil_of_length_eq_zero (by omega)
   subst this;rfl
  | succ n e=>
   intro s h a
   by_cases c:arr s=true
   ·have d:base s=((base (Kd.cutA s)).1,(base (Kd.cutA s)).2+1):=by rw[Yb s,c];simp
    rw[d] at a⊢
    rw[X12 c]
    exact e _ (by have:=K4 c;omega) a
   ·have d:base s=(s,0):=by rw[Yb s,eq_false_of_ne_true c];simp
    rw[d] at a⊢
    obtain ⟨b,g,f⟩:=X06 (Np a)
    rw[Q1u,g]
    simp[Q9y f]
 exact key _ s (Nat.le_refl _)
instance z_asciiSet:TZ P T.ab 256 256 (.agg (Array.replicate 256 (.bool false))):=⟨by kernel_rfl⟩
theorem Q7u (h: ∀w',Below w.heap.size w w'→K (.tuple #[.agg (Lib.setCells [91,93]), .bool true]) w'):Q1 P F.ch [S [91,93]] w K:=by
 refine Wq (fn:=Tryz.f157) Tryz.func157 (by kernel_rfl) (by kernel_rfl) (Calls.mono (Tryz.strings_makeASCIISet (fun w=>Zr z_asciiSet w) ⟨[91,93].toArray⟩ w (by decide) (by
  intro j b a
  have:b∈[(91:UInt8),93]:=List.mem_of_getElem? a
  simp at this;rcases this with rfl | rfl<;>decide)) ?_)
 rintro e w' ⟨rfl,rfl⟩
 exact h _ ((Below.refl _ _).alloc (Nat.le_refl _) _)
theorem Q3n {q:Addr} {b:UInt8} (a:X2 w σ) (c:Z6 σ q (Lib.setCells [91,93]).toList) (h:K (.bool (brk b)) w):Q1 P F.aC [.pointer (some q), .int .u8 b.toNat] w K:=Of (by
 unfold Xg
 rw[M0]
 have d:=b.toNat_lt
 rw[X02 (by omega) (by omega)]
 refine ld a c ?_ h
 have:=Lib.setCells_at [91,93] b
 rw[←Array.getElem?_toList] at this
 simpa [brk] using this)
theorem Q2D {q:Addr} {s:X0} (m:X2 w σ) (k:s.length≤U0) (n:Z6 σ q (Lib.setCells [91,93]).toList) (h:K (S (Ho s)) w):Q1 P F.au [S s, .pointer (some q)] w K:=Sr (by
 unfold Jv
 refine U7 ?_
 refine Wn (fun x w'=>w'=w∧ ∃u:X0,x=S u∧u.length≤U0∧Ho u=Ho s) (fun x _=>(sOf x).length) ⟨rfl,s,rfl,k,rfl⟩ ?_
 rintro _ d _ ⟨rfl,u,rfl,f,g⟩
 have e:sOf (S u)=u:=by simp[sOf]
 simp only[e]
 refine Cc X8 ?_
 refine Iz ?_
 refine Q7 (fun hh=>?_) (fun hh=>?_)
 ·have j:0<u.length:=by simpa using hh
  have o:u.length≤9223372036854775807:=Nat.le_trans f (by decide)
  refine Cc X8 ?_
  refine Zl ⟨by omega,by omega⟩ ?_
  have i:((u.length:Int)-1).toNat=u.length-1:=by omega
  rw[Ya X8 (by omega) (by omega)]
  simp only[i]
  have b:u.getLast?=some (u[u.length-1]'(by omega)):=by rw[List.getLast?_eq_getElem?,List.getElem?_eq_getElem]
  have a:=Q1u u
  rw[b] at a
  simp only at a
  refine Q3n m n ?_
  cases c:brk (u[u.length-1]'(by omega)) with
  | true=>
   rw[c] at a
   simp only[↓M1,M1,Mb,reduceIte]
   rw[F7 (by omega) (by omega),T5 X8 (by omega) (by omega)]
   simp only[i]
   refine ⟨⟨trivial,_,rfl,by rw[List.length_take];omega,?_⟩,?_⟩
   ·rw[←g,a];simp
   ·have:sOf (S (u.take (u.length-1)))=u.take (u.length-1):=by simp[sOf]
    simp only[this,List.length_take];omega
  | false=>
   rw[c] at a
   simp only[↓M1,M1,Mb,reduceIte]
   intro _
   rw[←g,a] at h
   simpa using h
 ·have j: ¬0<u.length:=by simpa using hh
  have:u=[]:=List.eq_nil_of_length_eq_zero (by omega)
  subst this
  intro _
  rw[←g] at h
  exact h)
theorem Q6O {s:X0} (hs:X2 w σ) (hl:s.length≤U0) (h: ∀w' σ',Stp w σ w' σ'→K (S (Ho s)) w'):Q1 P F.bI [S s,S [91,93]] w K:=Aw (by
 unfold Dd
 by_cases hs0:s=[]
 ·subst hs0
  (repeat' (first | (with_reducible intro _) | (with_reducible refine U7 ?_) | (simp only[↓M2,M2,Mb,reduceIte]) | (with_reducible first | refine ld aS aL aR ?_ | refine X7 aS aL aR ?_ | refine Y5 aS aL aR ?_ | refine Q8 aL ?_ | refine J4 aR ?_ | refine Y9 aS ?_ | refine N1 aS aL ?_ | refine U6 aS aR ?_ | refine Y7 aS aR aR (Rep.one (by assumption)) ?_ | refine U8 aS aR aR aR ?_ | (refine J3 (fun hh=>?_) (fun hh=>?_)<;>(try simp only[hh,Bool.not_true,Bool.not_false,↓M2,M2,Mb,reduceIte])) | (refine Q7 (fun hh=>?_) (fun hh=>?_)<;>(try simp only[hh,Bool.not_true,Bool.not_false,↓M2,M2,Mb,reduceIte])))))
  all_goals first | exact h _ _ (by (repeat (first | exact Stp.refl (by (first | assumption | exact Stp.sat (by assumption) | exact Hst.sat (by assumption))) | assumption | refine Stp.trans ?_ (by first | assumption | exact Hst.stp (by assumption))))) | (exfalso;simp_all)
 have d1:decide (s=[])=false:=decide_eq_false hs0
 simp only[d1,show decide (([91,93]:X0)=[])=false from rfl,show decide ((([91,93]:X0).length:Int)=1)=false from rfl,↓M1,M1,Mb,reduceIte]
 refine Q7u (L3 hs fun w1 σ1 hk1=>?_)
 simp only[↓M1,M1,Mb,reduceIte]
 have hsz:(Lib.setCells [91,93]).toList.length=256:=by rw[Array.length_toList];exact Lib.setCells_size _
 have hone: ∀u∈(Lib.setCells [91,93]).toList,u.oneCell'=true:=by
  have:=Lib.setCells_one [91,93]
  rw[Array.all_eq_true'] at this
  intro u hu;exact this u (by simpa using hu)
 have htr: ∀{w:World} {σ:Q6} {K:Value→World→Prop} {q:Addr},X2 w σ→Z6 σ q (Lib.setCells [91,93]).toList→K (S (Ho s)) w→Q1 P F.au [S s, .pointer (some q)] w K:=fun hs hq h=>Q2D hs hl hq h
 have hta:Lib.setCells [91,93]=(Lib.setCells [91,93]).toList.toArray:=Array.toArray_toList.symm
 generalize (Lib.setCells [91,93]).toList=cs at*
 rw[hta]
 refine Y7 hk1.sat (by show (Array.replicate 256 (Value.bool false)).size=256;exact Array.size_replicate) hsz hone fun q w2 σ2 hk2 hq=>?_
 refine htr hk2.sat hq ?_
 exact h _ _ (hk1.trans hk2))
theorem Q0L {s:X0} (hs:X2 w σ) (ht:Tab σ v l) (hl:s.length≤U0) (h: ∀w' σ',Stp w σ w' σ'→K (.bool (N2 l s)) w'):Q1 P F.s [v,S s] w K:=Q03 (by
 unfold Df
 unfold N2 at h
 refine P2 ?_
 refine Q7 (fun hh=>?_) (fun hh=>?_)
 ·have e:decide (s=H8)=true:=hh
  rw[e] at h
  exact h _ _ (Stp.refl hs)
 ·have e:decide (s=H8)=false:=hh
  rw[e] at h
  refine Q6O hs hl fun w1 σ1 hk1=>?_
  refine Zq s (Nat.le_trans hl (by decide)) (L3 hk1.sat fun w2 σ2 hk2=>?_)
  cases hr:right s with
  | false=>
   rw[hr] at h
   (repeat' (first | (with_reducible intro _) | (with_reducible refine U7 ?_) | (simp only[↓M2,M2,Mb,reduceIte]) | (with_reducible first | refine ld aS aL aR ?_ | refine X7 aS aL aR ?_ | refine Y5 aS aL aR ?_ | refine Q8 aL ?_ | refine J4 aR ?_ | refine Y9 aS ?_ | refine N1 aS aL ?_ | refine U6 aS aR ?_ | refine Y7 aS aR aR (Rep.one (by assumption)) ?_ | refine U8 aS aR aR aR ?_ | (refine J3 (fun hh=>?_) (fun hh=>?_)<;>(try simp only[hh,Bool.not_true,Bool.not_false,↓M2,M2,Mb,reduceIte])) | (refine Q7 (fun hh=>?_) (fun hh=>?_)<;>(try simp only[hh,Bool.not_true,Bool.not_false,↓M2,M2,Mb,reduceIte])))))
   all_goals exact aF
  | true=>
   rw[hr] at h
   have hr2:(plain (base s).1||M7 (base s).1)=true:=by
    simp only[right,Bool.and_eq_true] at hr;exact hr.2
   rw[Q9s hr2]
   (repeat' (first | (with_reducible intro _) | (with_reducible refine U7 ?_) | (simp only[↓M2,M2,Mb,reduceIte]) | (with_reducible first | refine ld aS aL aR ?_ | refine X7 aS aL aR ?_ | refine Y5 aS aL aR ?_ | refine Q8 aL ?_ | refine J4 aR ?_ | refine Y9 aS ?_ | refine N1 aS aL ?_ | refine U6 aS aR ?_ | refine Y7 aS aR aR (Rep.one (by assumption)) ?_ | refine U8 aS aR aR aR ?_ | refine Rs _ ?_ | refine Q8k au au ?_ | (refine J3 (fun hh=>?_) (fun hh=>?_)<;>(try simp only[hh,Bool.not_true,Bool.not_false,↓M2,M2,Mb,reduceIte])) | (refine Q7 (fun hh=>?_) (fun hh=>?_)<;>(try simp only[hh,Bool.not_true,Bool.not_false,↓M2,M2,Mb,reduceIte])))))
   all_goals exact aF)
end Go.Proofs.YtjdiakhipmggjaaGreatDoor

namespace Go.Emb
open Go.RowKit Go.Hm
variable {P : Program} {w w0 w1 w' w'' : World} {K : Value → World → Prop} {σ σ0 σ1 σ' : Q6}
theorem Q4E (m:List (List UInt8×Value)) (k n:List UInt8) (v:Value):C3 (Ww m k v) n=if k=n then some v else C3 m n:=by
 induction m with
 | nil=>simp[Ww,C3]
 | cons p r b=>
  simp only[Ww]
  by_cases h:p.1=k
  ·rw[if_pos h]
   simp only[C3]
   by_cases a:k=n
   ·simp[a]
   ·rw[if_neg a,if_neg a,if_neg (by rw[h];exact a)]
  ·rw[if_neg h]
   simp only[C3]
   by_cases a:p.1=n
   ·rw[if_pos a,if_pos a,if_neg (by intro e;exact h (a.trans e.symm))]
   ·rw[if_neg a,if_neg a];exact b
theorem J9.shift {B sz:Nat} {e:TypeId} {v:Value} {xs:List (List UInt8)} (h:J9 B e sz U9 σ w v xs) (m: ∀k,v.ownBlock=some k→σ' k=none):J9 B e sz U9 σ' w v xs:=by
 obtain ⟨a,j,rfl,u,p,c,t⟩:=h
 refine ⟨a,j,rfl,u,p,fun b d=>⟨(c b d).1,(c b d).2.1,(c b d).2.2.1,m _ (by subst d;rfl)⟩,fun q=>?_⟩
 obtain ⟨g,i,f,rfl,o,y,s,n,r⟩:=t q
 exact ⟨g,i,f,rfl,o,m g rfl,s,n,r⟩
theorem Kpt.sat {D:Nat→Prop} (a:X2 w σ) (c:Kpt D w w') (d: ∀k,D k→σ k=none):X2 w' σ:=fun b o e=>by
 rw[c.block b (a.lt e) fun h=>by rw[d b h] at e;cases e];exact a b o e
theorem Nxt.kpt {D D':Nat→Prop} (h:Nxt D w σ w' σ') (a:Kpt D' w' w'') (c: ∀k,D' k→D k) (b: ∀k,D' k→σ' k=none):Nxt D w σ w'' σ':=
 ⟨h.kp.trans (a.mono fun k _ h=>c k h),h.le,h.old,a.sat h.sat b⟩
theorem X3f {t Q:TypeId} {e:TypeId} {p:Nat} {z:Value} {cs:List Bool} [ts:TS P t e] [tz:TZ P e 1 p z] {B:Nat} {A:World} {f σ':Q6} {i u:Value} {xs:List (List UInt8)} {s:List UInt8}
 (D:J9 B e 1 U9 f A i xs) (hB:B≤A.heap.size) (V:J9 B e 1 U9 f w1 i xs) (m:Nxt (fun k=>i.ownBlock=some k) A f w1 σ') (U:Sl 1 U9 σ' u [s]) (M:(z.cells.size==1&&decide (0<1))=true)
 (j:(xs.length+1)*p≤140737488355328) (X:xs.length+1≤1000000000000):
 X3 P .append [t,t] Q cs [i,u] w1 (dk (Im B e 1 U9 f i xs s) (VQa A.heap.size B e 1 U9 f i xs s) w1):=by
 have n: ∀k,i.ownBlock=some k→σ' k=none:=fun k c=>(m.old k (D.mem c).2.1).trans (D.mem c).2.2
 refine Q8j m.sat (Nat.le_trans hB m.kp.size) (V.shift n) U M (by simpa using j) (by simpa using X) fun L W C J y d=>?_
 have b:J9 B e 1 U9 f W L (xs++[s]):=y.shift fun k c=>by
  have:=(y.mem c).2.2
  cases hh:f k with
  | none=>rfl
  | some o=>rw[m.le.le _ _ hh] at this;cases this
 refine ⟨⟨C.mono fun k _ h=>h.1,fun h=>?_,fun a g E h=>?_⟩,b,?_⟩
 ·rcases d with ⟨a,g,q,r⟩ | ⟨j,_⟩
  ·rw[r] at b;rw[q];exact b.pre rfl
  ·exact h.below j
 ·rcases d with ⟨Y,H,q,r⟩ | ⟨j,_⟩
  ·rw[q] at E;injection E with N q2 R
   subst N R
   rw[r] at b;exact b
  ·exact h.below j
 ·rcases d with ⟨a,g,q,r⟩ | ⟨j,O⟩
  ·exact .inl ⟨a,g,q,r⟩
  ·exact .inr ⟨fun k c=>Nat.le_trans m.kp.size (O k c),fun k c=>(D.mem c).2.1⟩
end Go.Emb
namespace Go.Hm
open Go.Kd
def Oc (l:List Cla) (n:X0):List Cla:=(G6 l n).filterMap (lk l)
theorem Q76 {l:List Cla} (h: ∀c∈l,Qw c) (a:List X0):weigh l a≤l.length*1000001:=by
 unfold weigh
 induction l with
 | nil=>simp
 | cons c r b=>
  have f:=b fun c d=>h c (by simp[d])
  have e:=(h c (by simp)).1
  simp only[List.map_cons,List.sum_cons,List.length_cons,Nat.add_mul]
  have g:(U4 c).length=c.like.length+1:=rfl
  split<;>omega
end Go.Hm
namespace Go.Proofs.YtjdiakhipmggjaaGreatDoor
open Go.Emb Go.RowKit Go.Kd Go.Hm
variable {w : World} {K : Value → World → Prop} {σ : Q6} {v : Value} {l : List Cla}
theorem Q7L {β:Type} {n:X0} {f:Value} (J:β→Cla→Bool×β) (s0:β) (N:β→World→Prop) (D:Nat→Prop) (hs:X2 w σ) (ht:Tab σ v l) (hl:l.length≤100000) (bh: ∀c∈l,Qw c) (hn:n.length≤U0)
 (hD: ∀k,D k→k<w.heap.size∧σ k=none) (aj: ∀s w1 w2,N s w1→(∀k,D k→w2.heap[k]? =w1.heap[k]?)→N s w2) (h0:N s0 w)
 (hf: ∀s c cs (w1:World) (σ1:Q6) (K:Value→World→Prop),SLe σ σ1→X2 w1 σ1→(∀k,D k→σ1 k=none)→N s w1→V0 σ1 c cs→lk l c.name=some c→(∀w',Kpt D w1 w'→N (J s c).2 w'→K (.bool (J s c).1) w')→Z3 P f [.agg cs.toArray] w1 K)
 (h: ∀w' σ',Nxt D w σ w' σ'→N (J5 J s0 (Oc l n) 0).2 w'→K (.bool (J5 J s0 (Oc l n) 0).1.isSome) w'):Q1 P F.x [v,S n,f] w K:=Kt (by
 unfold Nd
 refine Zf (R:=U9) (sz:=1) (xs:=[n]) (Stp.refl hs) [S n] rfl rfl (by simp;rfl) rfl ⟨⟨rfl,hn⟩,trivial⟩ fun x0 w1 ay bl _=>?_
 refine Q3E ay.sat fun r w2 hr X ce=>?_
 have cr:=J9.of_acc (bl.up X)
 have bs:=ay.trans X
 have bb:w.heap.size≤r:=Nat.le_trans ay.bel.size hr
 have bx: ∀b,weigh l b≤100001000000:=fun b=>by
  have:=Q76 bh b
  have h2:l.length*1000001≤100000*1000001:=Nat.mul_le_mul_right _ hl
  omega
 refine Pr (fun d x w1=> ∃(B b:List X0) (s:β) (σ1:Q6) (m:List (X0×Value)),d=B.length+weigh l b∧d≤1+weigh l []∧Nxt D w σ w1 σ1∧J9 w.heap.size T.c 1 U9 σ1 w1 x B∧C4 σ1 w1 r m∧(∀k,(C3 m k).isSome=decide (k∈b))∧x.ownBlock≠some r∧N s w1∧
  G6 l n=Uz (lk l) d B b∧(∃i,J5 J s0 (Oc l n) 0=J5 J s (((G6 l n).drop b.length).filterMap (lk l)) i)) (1+weigh l []) ?_ ?_
 ·refine ⟨[n],[],s0,σ,[],by simp,Nat.le_refl _,Nxt.of_stp bs,cr,ce,by simp[C3],?_,aj _ _ _ h0 fun k o=>bs.bel.block k (hD k o).1,rfl,0,by simp[Oc]⟩
  intro e
  have:=bl.mem r e
  omega
 rintro a4 d x dd w3 ⟨B,b,s,σ3,m,hd,c3,A,a1,ae,Q,cn,az,hv,i,y⟩ bg
 have cu:=bx []
 have a6:=A.sat
 obtain ⟨ar,C⟩:=Q1E (lk l) d B b
 rw[←hv] at C
 have ac:(G6 l n).drop b.length=ar:=by rw[C];simp
 rw[ac] at y
 refine Q1F a1 ?_
 refine Iz ?_
 cases af:B with
 | nil=>
  subst af
  refine Q7 (fun hh=>absurd (of_decide_eq_true hh) (by simp)) (fun _=>?_)
  have:G6 l n=b:=by rw[hv];cases d<;>rfl
  have hp:ar=[]:=by rw[this] at C;simpa using C
  rw[hp] at y
  rw[y] at h
  exact h _ _ A az
 | cons t g=>
  subst af
  refine Q7 (fun _=>?_) (fun hh=>absurd (of_decide_eq_false hh) (by simp))
  simp only[List.length_cons] at hd
  refine Q6q (n:=0) a1 (by simp) fun a cs Z h2 h3=>?_
  obtain ⟨rfl,cj⟩:=h3
  simp only[List.getElem_cons_zero] at Z cj
  have aa:=Z 0 _ rfl
  rw[add_zero] at aa
  refine Qg aa ?_
  refine X3X a1 1 (by simp) fun x' Y bp=>?_
  simp only[List.drop_succ_cons,List.drop_zero] at Y
  have L:x'.ownBlock≠some r:=by
   rcases bp with e | e<;>rw[e]
   ·exact cn
   ·simp
  rw[Q2R X8 ae.2 t]
  have ch:d=(g.length+weigh l b)+1:=by omega
  have p:=hv
  rw[ch] at p
  simp only[Uz] at p
  have skip:(lk l t=none∨t∈b)→G6 l n=Uz (lk l) (g.length+weigh l b) g b:=by
   rintro (e | e)
   ·rw[e] at p;exact p
   ·cases e2:lk l t with
    | none=>rw[e2] at p;exact p
    | some c=>rw[e2] at p;simp only[if_pos e] at p;exact p
  have ag:(lk l t=none∨t∈b)→a4 x' w3:=fun b5=>
   bg (g.length+weigh l b) x' w3 (by omega) ⟨g,b,s,σ3,m,rfl,by omega,A,Y,ae,Q,L,az,skip b5,i,by rw[ac];exact y⟩
  have ax:=ht.lift A.le
  have U:=Q t
  cases bd:C3 m t with
  | some u=>
   rw[bd] at U
   have an:t∈b:=by simpa using U
   simp only[↓M2,M2,Mb,reduceIte]
   exact ag (.inr an)
  | none=>
   rw[bd] at U
   have an:t∉b:=by simpa using U
   simp only[↓M2,M2,Mb,reduceIte]
   cases H:lk l t with
   | none=>
    refine Q1i a6 ax H ?_
    simp only[↓M2,M2,Mb,reduceIte]
    exact ag (.inl H)
   | some c=>
    obtain ⟨aq,bo,_⟩:=V4 H
    refine Cm a6 ax H ?_
    simp only[↓M2,M2,Mb,reduceIte]
    refine Ps X8 ae t (I 1) fun w4 bv cp=>?_
    have ad:Kpt (fun k=>k=r) w3 w4:=Kpt.of_upd bv rfl
    have ci:X2 w4 σ3:=ad.sat a6 fun k o=>by rw[o];exact ae.1
    have bw:=Y.kp ad fun k o e=>L (e▸o)
    have cf:=aj _ _ _ az fun k o=>bv.block k (by have:=(hD k o).1;omega)
    have c2:r<w3.heap.size:=ae.lt
    refine Zm ci ax H fun lv fv mv w5 σ5 bn f1 f2 f3 f4 f5 bz=>?_
    refine Y7 bn.sat (by rfl) rfl (Rep.one bz) fun q w6 M V a5=>?_
    refine Y5 V.sat a5 rfl ?_
    have z:=bn.trans V
    have bi: ∀k,D k→k<w4.heap.size:=fun k o=>by
     have Z:=(hD k o).1
     have h2:=A.kp.size
     have h3:=ad.size
     omega
    have b6:=aj _ _ _ cf fun k o=>z.bel.block k (bi k o)
    have a3:SLe σ M:=A.le.more ⟨z.le⟩
    have be: ∀k,D k→M k=none:=fun k o=>by
     rw[z.old k (bi k o),A.old k (hD k o).1];exact (hD k o).2
    refine hf s c _ w6 M _ a3 V.sat be b6 (RCl_lift bz ⟨V.le⟩) (by rw[aq];exact H) fun w7 ai b1=>?_
    have b0:X2 w7 M:=ai.sat V.sat be
    have al:Nxt D w σ w7 M:=⟨((A.kp.more ad fun j e=>by rw[e];exact bb).trans (Kpt.of_below z.bel)).trans ai,a3,fun k o=>by
     rw[z.old k (by have:=A.kp.size;have:=ad.size;omega)];exact A.old k o,b0⟩
    have ao: ∀k,w.heap.size≤k→ ¬D k:=fun k o e=>by have:=(hD k e).1;omega
    have W:=(bw.up z).kp ai fun k o=>ao k ((bw.mem o).1)
    have bf:=(cp.up z).kp ai (ao r bb)
    have br: ∀k,(C3 (Ww m t (I 1)) k).isSome=decide (k∈b++[t]):=fun k=>by
     rw[Q4E]
     by_cases e:t=k
     ·subst e;simp
     ·rw[if_neg e,Q k];simp[Ne.symm e]
    rw[H] at p
    simp only[if_neg an] at p
    obtain ⟨bu,a2⟩:=Q1E (lk l) (g.length+weigh l b) (g++U4 c) (b++[t])
    have bc:ar=t::bu:=by
     have:=C.symm.trans (p.trans a2)
     simpa using this
    rw[bc] at y
    simp only[List.filterMap_cons,H,J5] at y
    cases E:(J s c).1 with
    | true=>
     rw[E] at y
     simp only[if_true] at y
     refine J7 ?_
     have:=h w7 M al
     rw[y] at this
     exact this b1
    | false=>
     rw[E] at y
     simp only[Bool.false_eq_true,if_false] at y
     refine J0 ?_
     have ap:w.heap.size≤w7.heap.size:=al.kp.size
     have ab: ∀k,x'.ownBlock=some k→M k=none:=fun k o=>(W.mem o).2.2
     have hw:=Pz l b c bo (by rw[aq];exact an)
     rw[aq] at hw
     have dj:=bx b
     have b3:g.length≤100001000001:=by omega
     have cb:=(bh c bo).1
     have ct:=bf.lt
     refine Pa (Im w.heap.size T.c 1 U9 M x' g c.super) (fun w1=>Kpt (fun k=>x'.ownBlock=some k) w7 w1∧X2 w1 M∧J9 w.heap.size T.c 1 U9 M w1 x' g)
      ⟨.of_below (Below.refl _ _).drew,b0.below (Below.refl _ _).drew,W.below (Below.refl _ _).drew⟩ (fun w1 w2 E ht=>⟨E.1.trans ht.1,ht.1.sat E.2.1 ab,ht.2.1 E.2.2⟩) ?_
     refine X4 (.pointer (some (q.add 1))) (fun w E=>by rw[fa];exact ⟨Im.refl,rfl⟩) ?_
     refine X4 (.pointer (some (q.add 2))) (fun w E=>by rw[fa];exact ⟨Im.refl,rfl⟩) ?_
     refine X4 (S c.super) (fun t w E e=>by rw[e];exact ld E.2.1 a5 rfl ⟨Im.refl,rfl⟩) ?_
     refine E8 (fun u w1=> ∃σ',Nxt (fun k=>x'.ownBlock=some k) w7 M w1 σ'∧Sl 1 U9 σ' u [c.super]) (fun u w1 w2 e ht=>by obtain ⟨σ',Z,h2⟩:=e;exact ⟨σ',Z.kpt ht.1 (fun _ o=>o) (fun k o=>(Z.old k (W.mem o).2.1).trans (ab k o)),h2⟩) (fun t w1 E e=>?_) ?_
     ·rw[e]
      refine T4 (R:=U9) (sz:=1) E.2.1 [S c.super] [c.super] rfl rfl (by simp;rfl) rfl ⟨⟨rfl,f5⟩,trivial⟩ fun u w2 σ2 X hu=>?_
      have cq:Nxt (fun k=>x'.ownBlock=some k) w7 M w1 M:=⟨E.1,SLe.refl _,fun _ _=>rfl,E.2.1⟩
      exact ⟨Im.below X.bel,σ2,cq.trans (Nxt.of_stp X),hu⟩
     refine E8 (VQa w7.heap.size w.heap.size T.c 1 U9 M x' g c.super) (fun _ _ _ Z ht=>Z.stable ht) (fun u w1 E e=>?_) ?_
     ·obtain ⟨σ',Z,h2⟩:=e
      exact X3f W ap E.2.2 Z h2 rfl (by omega) (by omega)
     refine X4 lv (fun t w E e=>by rw[e];exact ld E.2.1 a5 rfl ⟨Im.refl,rfl⟩) ?_
     rintro cz dc c8 di b9 c0 w8 O _ _ _ _ ⟨cm,bm⟩ rfl
     have a7:b9.ownBlock≠some r:=by
      rcases bm with ⟨a,co,e1,e2⟩ | ⟨e1,_⟩
      ·rw[e2];rw[e1] at L;cases a<;>exact L
      ·intro e;have:=e1 r e;omega
     refine Q8j O.2.1 (Nat.le_trans ap O.1.size) cm (f1.up V) rfl (by rw[List.length_append,List.length_cons,List.length_nil];omega) (by rw[List.length_append,List.length_cons,List.length_nil];omega) fun bj w9 av cg b7 bq=>?_
     have b8:bj.ownBlock≠some r:=by
      rcases bq with ⟨a,co,e1,e2⟩ | ⟨_,e1⟩
      ·rw[e2];rw[e1] at a7;cases a<;>exact a7
      ·intro e;have:=e1 r e;have:=O.1.size;omega
     have cl:Nxt D w σ w9 M:=⟨(al.kp.more O.1 fun j e=>(W.mem e).1).more av fun j e=>e.2.1,a3,al.old,cg⟩
     have cd:=(bf.kp O.1 L).kp av fun e=>a7 e.1
     have cc:=aj _ w7 w9 b1 fun k o=>by
      have Z:=(hD k o).1
      rw[av.block k (by have:=O.1.size;omega) fun e=>by have:=e.2.1;omega,O.1.block k (by omega) fun e=>by have:=(W.mem e).1;omega]
     have c5:(g++U4 c).length=g.length+1+c.like.length:=by simp[U4];omega
     have cv:(U4 c).length=c.like.length+1:=rfl
     have a0:Uz (lk l) (g.length+weigh l b) (g++U4 c) (b++[t])=Uz (lk l) ((g++U4 c).length+weigh l (b++[t])) (g++U4 c) (b++[t]):=by
      have:=X0N l ((g++U4 c).length+weigh l (b++[t])) (g++U4 c) (b++[t]) (Nat.le_refl _) (g.length+weigh l b-((g++U4 c).length+weigh l (b++[t])))
      rw[←this];congr 1;omega
     refine bg ((g++U4 c).length+weigh l (b++[t])) bj w9 (by omega) ⟨g++U4 c,b++[t],(J s c).2,M,_,rfl,by omega,cl,?_,cd,br,b8,cc,p.trans a0,i+1,?_⟩
     ·have:g++U4 c=(g++[c.super])++c.like:=by simp[U4]
      rw[this];exact b7
     ·rw[y,C,bc];simp)
end Go.Proofs.YtjdiakhipmggjaaGreatDoor

namespace Go.Emb
open Go.RowKit Go.Hm
theorem Nxt.stp {w w':World} {σ a:Q6} (h:Nxt (fun _=>False) w σ w' a):Stp w σ w' a:=⟨h.kp.below fun _=>id,h.sat,h.le.le,h.old⟩
end Go.Emb
namespace Go.Hm
open Go.Kd Go.Emb
theorem Q4M {α:Type} (p:α→Bool): ∀(xs:List α) (i:Nat),(J5 (fun (_:Unit) x=>(p x,())) () xs i).1.isSome=xs.any p
 | [],_=>rfl
 | x::r,i=>by
  simp only[J5,List.any_cons]
  cases p x with
  | true=>simp
  | false=>simpa using Q4M p r (i+1)
theorem Q5A {l:List Cla} (n b:X0):((Oc l n).any fun c=>decide (c.name=b))=(G6 l n).contains b:=by
 have key: ∀vs:List X0,(∀x∈vs,∃c,lk l x=some c)→((vs.filterMap (lk l)).any fun c=>decide (c.name=b))=vs.contains b:=by
  intro vs
  induction vs with
  | nil=>intro _;rfl
  | cons x r d=>
   intro h
   obtain ⟨c,a⟩:=h x (by simp)
   rw[List.filterMap_cons,a]
   simp only[List.any_cons,List.contains_cons]
   rw[d fun y e=>h y (by simp[e]),(V4 a).1]
   congr 1
   rw[Bool.eq_iff_iff,beq_iff_eq,decide_eq_true_eq];exact ⟨Eq.symm,Eq.symm⟩
 exact key _ fun x f=>(Uv.1 f).right
end Go.Hm
namespace Go.Proofs.YtjdiakhipmggjaaGreatDoor
open Go.Emb Go.RowKit Go.Kd Go.Hm
variable {w : World} {K : Value → World → Prop} {σ : Q6} {v : Value} {l : List Cla}
theorem Q7K {n:X0} {f:Value} (p:Cla→Bool) (hs:X2 w σ) (ht:Tab σ v l) (hl:l.length≤100000) (hsm: ∀c∈l,Qw c) (hn:n.length≤U0)
 (hf: ∀c cs (w1:World) (σ1:Q6) (K:Value→World→Prop),SLe σ σ1→X2 w1 σ1→V0 σ1 c cs→(∀w' σ',Stp w1 σ1 w' σ'→K (.bool (p c)) w')→Z3 P f [.agg cs.toArray] w1 K)
 (h: ∀w' σ',Stp w σ w' σ'→K (.bool ((Oc l n).any p)) w'):Q1 P F.x [v,S n,f] w K:=by
 refine Q7L (fun (_:Unit) c=>(p c,())) () (fun _ _=>True) (fun _=>False) hs ht hl hsm hn (fun _ e=>e.elim) (fun _ _ _ _ _=>trivial) trivial (fun s c cs w1 σ1 K le hs1 _ _ hr _ hK=>hf c cs w1 σ1 K le hs1 hr fun w' σ' hk=>hK w' (.of_below hk.bel) trivial) fun w' σ' hn _=>?_
 rw[Q4M]
 exact h w' σ' hn.stp
theorem X0V {n b:X0} {q:Addr} (hs:X2 w σ) (ht:Tab σ v l) (ok:Ok l) (hn:n.length≤U0) (hq:Z6 σ q [S b]) (h: ∀w' σ',Stp w σ w' σ'→K (.bool ((G6 l n).contains b)) w'):
 Q1 P F.x [v,S n, .func (.func F.br) #[] #[.pointer (some q)]] w K:=by
 refine Q7K (fun c=>decide (c.name=b)) hs ht ok.len ok.sm hn (fun c cs w1 σ1 K le hs1 hr hK=>Z9 (Pf ?_)) (by rw[Q5A];exact h)
 obtain ⟨lv,fv,mv,rfl,_⟩:=hr
 unfold Mk
 have hq1:=hq.lift le
 refine Y9 hs1 fun a w2 σ2 hk2 ha2=>?_
 (repeat' (first | (with_reducible intro _) | (with_reducible refine U7 ?_) | (simp only[↓M2,M2,Mb,reduceIte]) | (with_reducible first | refine ld aS aL aR ?_ | refine X7 aS aL aR ?_ | refine Y5 aS aL aR ?_ | refine Q8 aL ?_ | refine J4 aR ?_ | refine Y9 aS ?_ | refine N1 aS aL ?_ | refine U6 aS aR ?_ | refine Y7 aS aR aR (Rep.one (by assumption)) ?_ | refine U8 aS aR aR aR ?_ | (refine J3 (fun hh=>?_) (fun hh=>?_)<;>(try simp only[hh,Bool.not_true,Bool.not_false,↓M2,M2,Mb,reduceIte])) | (refine Q7 (fun hh=>?_) (fun hh=>?_)<;>(try simp only[hh,Bool.not_true,Bool.not_false,↓M2,M2,Mb,reduceIte])))))
 exact hK _ _ hk2
theorem X3U {a b:X0} (H:X2 w σ) (r:Tab σ v l) (ok:Ok l) (t:a.length≤U0) (D:b.length≤U0) (h: ∀w' E,Stp w σ w' E→K (.bool (Xt l a b)) w'):Q1 P F.bR [v,S a,S b] w K:=Q0n (by
 unfold Es
 unfold Xt at h
 refine U6 H rfl fun q w1 σ1 m B=>?_
 refine Q0L m.sat (r.lift ⟨m.le⟩) t fun Q U d=>?_
 have j:=m.trans d
 cases z:N2 l a with
 | false=>
  simp only[z,↓M2,M2,Mb,reduceIte,Bool.not_false,Bool.true_or,if_true] at h⊢
  exact h _ _ j
 | true=>
  simp only[z,↓M2,M2,Mb,reduceIte,Bool.not_true,Bool.false_or] at h⊢
  refine X7 d.sat (B.up d) rfl ?_
  refine Q0L d.sat (r.lift ⟨j.le⟩) D fun O N e=>?_
  have c:=j.trans e
  cases A:N2 l b with
  | false=>
   simp only[A,↓M2,M2,Mb,reduceIte,Bool.not_false,if_true] at h⊢
   exact h _ _ c
  | true=>
   simp only[A,↓M2,M2,Mb,reduceIte,Bool.not_true,Bool.false_eq_true,if_false] at h⊢
   have k:=(B.up d).up e
   refine X7 e.sat k rfl ?_
   refine P2 ?_
   by_cases f:a=b
   ·rw[if_pos f] at h
    simp only[decide_eq_true f,↓M2,M2,Mb,reduceIte]
    exact h _ _ c
   rw[if_neg f] at h
   simp only[decide_eq_false f,↓M2,M2,Mb,reduceIte]
   refine Rs a ?_
   cases y:plain a with
   | true=>
    simp only[y,↓M2,M2,Mb,reduceIte,Bool.true_or,if_true] at h⊢
    exact h _ _ c
   | false=>
    simp only[y,↓M2,M2,Mb,reduceIte,Bool.false_or] at h⊢
    refine X7 e.sat k rfl ?_
    refine Rs b ?_
    cases C:plain b with
    | true=>
     simp only[C,↓M2,M2,Mb,reduceIte,if_true] at h⊢
     exact h _ _ c
    | false=>
     simp only[C,↓M2,M2,Mb,reduceIte,Bool.false_eq_true,if_false] at h⊢
     by_cases o:a=H8
     ·rw[if_pos o] at h
      have s:decide (a=[110,117,108,108])=true:=decide_eq_true o
      simp only[s,↓M2,M2,Mb,reduceIte]
      exact h _ _ c
     rw[if_neg o] at h
     have s:decide (a=[110,117,108,108])=false:=decide_eq_false o
     simp only[s,↓M2,M2,Mb,reduceIte]
     refine Q6w a (Nat.le_trans t (by decide)) (L3 e.sat fun L J g=>?_)
     have i:=c.trans g
     have n:=k.up g
     refine Ja ?_
     by_cases p:elem a=[]
     ·rw[if_neg (by simpa using p)] at h
      simp only[decide_eq_true p,↓M2,M2,Mb,reduceIte]
      exact X0V g.sat (r.lift ⟨i.le⟩) ok t n fun M R u=>h _ _ (i.trans u)
     ·rw[if_pos p] at h
      simp only[decide_eq_false p,↓M2,M2,Mb,reduceIte]
      refine X7 g.sat n rfl ?_
      refine P2 ?_
      exact h _ _ i)
theorem X26 {c:Cla} {cs:List Value} (hs:X2 w σ) (ht:Tab σ v l) (hl:l.length≤100000) (hsm: ∀c∈l,Qw c) (hc:V0 σ c cs) (h: ∀w' σ',Stp w σ w' σ'→K (.bool (T0 l c)) w'):Q1 P F.bl [v, .agg cs.toArray] w K:=Pk (by
 obtain ⟨lv,fv,mv,rfl,g1,g2,g3,g4,g5⟩:=hc
 unfold Ma
 obtain ⟨a,_,_,_,rfl,_⟩:=ht.ex
 refine U6 hs rfl fun q w1 σ1 hk1 hq=>?_
 refine Y9 hk1.sat fun q2 w2 σ2 hk2 hq2=>?_
 rw[Qh,fa]
 have hS2:=hk1.trans hk2
 have back: ∀{n:X0} {w3:World} {σ3:Q6} {K:Value→World→Prop},SLe σ2 σ3→X2 w3 σ3→n.length≤U0→(∀w' σ',Stp w3 σ3 w' σ'→K (.bool ((G6 l n).contains c.name)) w')→
  Z3 P (.func (.func F.b9) #[] #[.pointer (some q), .pointer (some q2)]) [S n] w3 K:=by
  intro n w3 σ3 K le hs3 hn hK
  refine Z9 (Fj ?_)
  unfold Wa
  refine X7 hs3 ((hq.up hk2).lift le) rfl ?_
  rw[Qh]
  have le3:SLe σ σ3:=SLe.more ⟨hS2.le⟩ le
  refine Q7K (fun d=>decide (d.name=c.name)) hs3 (ht.lift le3) hl hsm hn (fun d ds w4 σ4 K le4 hs4 hr hK=>Z9 (Sw ?_)) (by rw[Q5A];exact hK)
  obtain ⟨lv,fv,mv,rfl,_⟩:=hr
  unfold Jl
  have hq4:=(hq2.lift le).lift le4
  refine Y9 hs4 fun a w5 σ5 hk5 ha5=>?_
  (repeat' (first | (with_reducible intro _) | (with_reducible refine U7 ?_) | (simp only[↓M2,M2,Mb,reduceIte]) | (with_reducible first | refine ld aS aL aR ?_ | refine X7 aS aL aR ?_ | refine Y5 aS aL aR ?_ | refine Q8 aL ?_ | refine J4 aR ?_ | refine Y9 aS ?_ | refine N1 aS aL ?_ | refine U6 aS aR ?_ | refine Y7 aS aR aR (Rep.one (by assumption)) ?_ | refine U8 aS aR aR aR ?_ | (refine J3 (fun hh=>?_) (fun hh=>?_)<;>(try simp only[hh,Bool.not_true,Bool.not_false,↓M2,M2,Mb,reduceIte])) | (refine Q7 (fun hh=>?_) (fun hh=>?_)<;>(try simp only[hh,Bool.not_true,Bool.not_false,↓M2,M2,Mb,reduceIte])))))
  exact hK _ _ hk5
 refine ld hk2.sat hq2 rfl ?_
 unfold T0 at h
 simp only[U4,List.any_cons] at h
 refine back (SLe.refl _) hk2.sat g5 fun w3 σ3 hk3=>?_
 cases e1:(G6 l c.super).contains c.name with
 | true=>
  rw[e1] at h
  simp only[↓M2,M2,Mb,reduceIte]
  exact h _ _ (hS2.trans hk3)
 | false=>
  rw[e1,Bool.false_or] at h
  simp only[↓M2,M2,Mb,reduceIte]
  refine ld hk3.sat (hq2.up hk3) rfl ?_
  refine P5 (fun n=>(G6 l n).contains c.name) hk3.sat (((g1.up hk1).up hk2).up hk3) (fun x w4 K _ hs4 hx hK=>back ⟨hk3.le⟩ hs4 hx fun w' σ' hk=>hK _ hk.bel) fun w4 hb=>?_
  (try simp only[↓M2,M2,Mb,reduceIte])
  exact h _ _ ((hS2.trans hk3).trans (Stp.of_below hk3.sat hb)))
end Go.Proofs.YtjdiakhipmggjaaGreatDoor

namespace Go.Emb
open Go.RowKit Go.Hm
variable {P : Program} {w w0 w1 w' w'' : World} {K : Value → World → Prop} {σ σ0 σ1 σ' : Q6}
theorem Sl.at {α:Type} {R:Q6→α→List Value→Prop} {sz:Nat} {v:Value} {xs:List α} (h:Sl sz R σ v xs) {i:Nat} (g:i<xs.length):
 ∃p cs,Z6 σ p cs∧cs.length=sz∧R σ xs[i] cs∧ ∀{P:Program} {t e:TypeId} {c:Nat} {z:Value} {w:World} {K:Value→World→Prop} [TS P t e] [TZ P e sz c z],K (.pointer (some p)) w→indexAddr P t v (I i) w K:=by
 obtain ⟨a,n,rfl,q,r,d,f⟩:=h
 cases a with
 | none=>have:=d rfl;omega
 | some b=>
  obtain ⟨cs,m,o,j⟩:=(f b rfl).2 i xs[i] (by simp[g])
  refine ⟨_,cs,m,o,j,?_⟩
  intro P t e c z w K _ _ k
  rw[Se (by omega) (by omega)]
  simpa using k
abbrev ints (xs:List Nat):List Int:=xs.map fun n:Nat=>(n:Int)
theorem V6.grow {α:Type} {R:Q6→α→List Value→Prop} [hr:Rep R] {B sz:Nat} {e:TypeId} {v:Value} {xs:List α} (h:V6 B e sz R σ w v xs) (c:SLe σ σ') (b: ∀k,v.ownBlock=some k→σ' k=none):V6 B e sz R σ' w v xs:=by
 obtain ⟨cells,a,g,f⟩:=h
 exact ⟨cells,a,b,fun i x d=>hr.up c.le (f i x d)⟩
end Go.Emb
namespace Go.Proofs.YtjdiakhipmggjaaGreatDoor
open Go.Emb Go.RowKit Go.Kd Go.Hm
variable {w : World} {K : Value → World → Prop} {σ : Q6} {v : Value} {l : List Cla}
theorem Q6Q {B i:Nat} {xs:List Nat} {x:Value} (o:J9 B T.e 1 Wv σ w x (ints xs)) (h:K (.bool (decide (i∈xs))) w):Q1 P F.aK [x,I i] w K:=Em (by
 unfold Ym
 have k:xs.length≤9223372036854775807:=by
  obtain ⟨a,t,_,m,p,_⟩:=o
  simp only[maxLen,ints,List.length_map] at p m;omega
 refine Cd ?_
 unfold Jy
 refine Q1F o ?_
 have f:(ints xs).length=xs.length:=by simp
 refine U3 xs.length (fun n w'=>w'=w∧i∉xs.take n) ⟨rfl,by simp⟩ fun n w' d u g=>?_
 obtain ⟨rfl,g⟩:=g
 rw[f]
 refine Z2 ?_
 refine Q7 (fun hh=>?_) (fun hh=>?_)
 ·have b:n<xs.length:=by simpa using hh
  refine Q6q o (by rw[f];exact b) fun a cs m p r=>?_
  obtain ⟨rfl,_⟩:=r
  have q:=m 0 _ rfl
  rw[add_zero] at q
  refine Qg q ?_
  simp only[List.getElem_map]
  refine I2 ?_
  refine Q7 (fun c=>?_) (fun c=>?_)
  ·have e:(i:Int)=xs[n]:=by simpa using c
   have:i=xs[n]:=by omega
   have j:decide (i∈xs)=true:=decide_eq_true (by rw[this];exact List.getElem_mem b)
   rw[j] at h
   refine P3 ?_
   rw[decide_eq_true (by omega:(0:Int)≤n)]
   exact h
  ·have e: ¬(i:Int)=xs[n]:=by simpa using c
   refine O8 ?_
   refine Y6 k b ⟨rfl,?_⟩
   rw[List.take_add_one,List.getElem?_eq_getElem b]
   simp only[Option.toList_some,List.mem_append,List.mem_singleton,not_or]
   exact ⟨g,fun s=>e (by rw[s])⟩
 ·have b: ¬n<xs.length:=by simpa using hh
  rw[List.take_of_length_le (by omega)] at g
  rw[decide_eq_false g] at h
  refine P3 ?_
  exact h)
theorem X31 {w0:World} {σ0 σb:Q6} {pf pt pw:Addr} {E frm:Nat} (ha:Jg l) (ho:T7 l) (hl:l.length≤100000) (bj: ∀c∈l,Qw c) (hf:0<frm) (ht:Tab σb v l) (a7:Z6 σb pf [I frm]) (bh:Z6 σb pt [v])
 (bu:Z6 σb pw [.func (.func F.z) #[] #[.pointer (some pf), .pointer (some ⟨E,0,none⟩), .pointer (some pt), .pointer (some pw)]]) (bl:w0.heap.size≤E):
 ∀(k:Nat) {i:Nat} {b:List Nat} {x:Value} {w1:World} {σ1:Q6} {K:Value→World→Prop},i<l.length→(i<frm∨K9 l (Y1 l i)<k)→SLe σb σ1→Stp w0 σ0 w1 σ1→Y3 σ1 w1 E [x]→V6 w0.heap.size T.e 1 Wv σ1 w1 x (ints b)→x.ownBlock≠some E→Few l b→
  (∀w2 σ2 x',SLe σ1 σ2→Stp w0 σ0 w2 σ2→Y3 σ2 w2 E [x']→V6 w0.heap.size T.e 1 Wv σ2 w2 x' (ints (Xu l frm b i))→x'.ownBlock≠some E→K (.tuple #[]) w2)→
  Z3 P (.func (.func F.z) #[] #[.pointer (some pf), .pointer (some ⟨E,0,none⟩), .pointer (some pt), .pointer (some pw)]) [I i] w1 K:=by
 obtain ⟨a,lv,r,m,rfl,t1,t2,t3,t4⟩:=ht.ex
 intro k
 induction k with
 | zero=>
  intro i b x w1 σ1 K hi hk U X hm o hx ab h
  have z:i<frm:=hk.resolve_right (by omega)
  refine Z9 (Wc ?_)
  unfold Xa
  refine X7 X.sat (a7.lift U) rfl ?_
  refine Z2 ?_
  rw[decide_eq_true (by omega:(i:Int)<frm)]
  simp only[↓M2,M2,Mb,reduceIte]
  have:Xu l frm b i=b:=Yw _ _ z
  rw[this] at h
  exact h _ _ _ (SLe.refl _) X hm o hx
 | succ k ih=>
  intro i b x w1 σ1 K hi hk U X hm o hx ab h
  refine Z9 (Wc ?_)
  unfold Xa
  refine X7 X.sat (a7.lift U) rfl ?_
  refine Z2 ?_
  have A:=Q7R ha ho hf b hi
  by_cases z:i<frm
  ·rw[decide_eq_true (by omega:(i:Int)<frm)]
   simp only[↓M2,M2,Mb,reduceIte]
   rw[if_pos z] at A
   rw[A] at h
   exact h _ _ _ (SLe.refl _) X hm o hx
  rw[if_neg z] at A
  rw[decide_eq_false (by omega: ¬(i:Int)<frm)]
  simp only[↓M2,M2,Mb,reduceIte]
  refine Q9a hm rfl ?_
  refine Q6Q (J9.of_acc o) ?_
  by_cases V:i∈b
  ·rw[if_pos V] at A
   rw[A] at h
   simp only[decide_eq_true V,↓M2,M2,Mb,reduceIte]
   exact h _ _ _ (SLe.refl _) X hm o hx
  rw[if_neg V] at A
  simp only[decide_eq_false V,↓M2,M2,Mb,reduceIte]
  have cu:K9 l (Y1 l i)<k+1:=hk.resolve_left z
  have t1:=t1.lift U
  have t2:=t2.lift U
  have t3:=t3.lift U
  have N:=bh.lift U
  obtain ⟨p,cs,bb,cm,bq,a3⟩:=t2.at hi
  obtain ⟨b9,fv,mv,rfl,f1,f2,f3,f4,f5⟩:=bq
  have ay:l.getD i Cla.zero=l[i]:=by rw[List.getD_eq_getElem?_getD,List.getElem?_eq_getElem hi];rfl
  have cr:=hm.lt
  refine U2 X.sat ?_
  refine X4 (.pointer (some a)) (fun w f=>X7 f.sat N rfl (X6 rfl)) ?_
  refine X4 (.pointer (some a)) (fun t w f e=>by rw[e,M0];exact X6 rfl) ?_
  refine X4 (.pointer (some (a.add 0))) (fun t w f e=>by rw[e,fa];exact X6 rfl) ?_
  refine X4 lv (fun t w f e=>by rw[e];exact ld f.sat t1 rfl (X6 rfl)) ?_
  refine X4 (.pointer (some p)) (fun t w f e=>by rw[e];exact a3 (X6 rfl)) ?_
  refine X4 (.pointer (some (p.add 1))) (fun t w f e=>by rw[e,fa];exact X6 rfl) ?_
  refine X4 (S l[i].super) (fun t w f e=>by rw[e];exact ld f.sat bb rfl (X6 rfl)) ?_
  refine E8 (fun u w=>X2 w σ1∧V6 w0.heap.size T.c 1 U9 σ1 w u [l[i].super]∧ ∀k,u.ownBlock=some k→w1.heap.size≤k) (fun u w2 w3 h f=>⟨h.1.below f,h.2.1.up (Stp.of_below h.1 f),h.2.2⟩) (fun t w f e=>?_) ?_
  ·rw[e]
   refine Zf (R:=U9) (sz:=1) (xs:=[l[i].super]) (X.trans f.stp) [S l[i].super] rfl rfl (by simp;rfl) rfl ⟨⟨rfl,f5⟩,trivial⟩ fun u w2 aq hu ca=>?_
   exact ⟨aq.bel,aq.sat,hu,fun k hk=>Nat.le_trans f.stp.bel.size (ca k hk)⟩
  refine X4 (.pointer (some a)) (fun w f=>X7 f.sat N rfl (X6 rfl)) ?_
  refine X4 (.pointer (some a)) (fun t w f e=>by rw[e,M0];exact X6 rfl) ?_
  refine X4 (.pointer (some (a.add 0))) (fun t w f e=>by rw[e,fa];exact X6 rfl) ?_
  refine X4 lv (fun t w f e=>by rw[e];exact ld f.sat t1 rfl (X6 rfl)) ?_
  refine X4 (.pointer (some p)) (fun t w f e=>by rw[e];exact a3 (X6 rfl)) ?_
  refine X4 (.pointer (some (p.add 2))) (fun t w f e=>by rw[e,fa];exact X6 rfl) ?_
  refine X4 b9 (fun t w f e=>by rw[e];exact ld f.sat bb rfl (X6 rfl)) ?_
  rintro db cy dc cn cj cl c9 de c5 ct da c4 cw ci c8 w2 Q _ _ _ _ _ _ _ ⟨co,bk,J⟩ _ _ _ _ _ _ cb
  subst cb
  have b6:=X.trans Q.stp
  have bp:=(bj _ (List.getElem_mem hi)).1
  have bc: ∀j,x.ownBlock=some j→j<w1.heap.size:=fun j B=>(o.mem j B).2.1
  have b0:=hm.step Q.stp
  have ai:=o.step Q.stp
  refine Wk b6 bk f1 rfl (by simp only[List.length_cons,List.length_nil];omega) (by simp only[List.length_cons,List.length_nil];omega) fun a0 w3 a2 bz bm ba=>?_
  have aa: ∀j,a0.ownBlock=some j→w1.heap.size≤j:=fun j B=>by
   rcases ba with e | e
   ·exact J j (e▸B)
   ·exact Nat.le_trans Q.stp.bel.size (e j B)
  have a8:=b0.nx a2 fun e=>by have:=J _ e;omega
  have H:=ai.nx a2 fun j B e=>by have:=J _ e;have:=bc j B;omega
  obtain ⟨σ4,b5,W,a5,Z⟩:=bm.keep bz
  have W:Sl 1 U9 σ4 a0 (U4 l[i]):=W
  have cd:Y3 σ4 w3 E [x]:=⟨(Z E fun e=>by have:=aa E e.symm;omega).trans a8.1,a8.2⟩
  have ag:V6 w0.heap.size T.e 1 Wv σ4 w3 x (ints b):=H.grow ⟨a5⟩ fun j B=>(Z j fun e=>by have:=aa j e.symm;have:=bc j B;omega).trans (H.mem j B).2.2
  have a6:SLe σ1 σ4:=⟨a5⟩
  refine Q8 W ?_
  refine U3 (U4 l[i]).length (fun n w'=> ∃σ' x',SLe σ4 σ'∧Stp w0 σ0 w' σ'∧Y3 σ' w' E [x']∧V6 w0.heap.size T.e 1 Wv σ' w' x' (ints (((U4 l[i]).take n).foldl (fun b u=>Xu l frm b ((Z1 l u).getD 0)) b))∧x'.ownBlock≠some E∧Few l (((U4 l[i]).take n).foldl (fun b u=>Xu l frm b ((Z1 l u).getD 0)) b))
   ⟨σ4,x,SLe.refl _,b5,cd,ag,hx,ab⟩ fun n w5 d hn ar=>?_
  obtain ⟨σ5,x5,ad,O,Y,C,ac,s⟩:=ar
  refine Z2 ?_
  have y:=a6.more ad
  refine Q7 (fun hh=>?_) (fun hh=>?_)
  ·have M:n<(U4 l[i]).length:=by simpa using hh
   refine Q6o (W.lift ad) M fun q hq cv=>?_
   refine X7 O.sat hq rfl ?_
   have e1:((U4 l[i]).take (n+1)).foldl (fun b u=>Xu l frm b ((Z1 l u).getD 0)) b=Xu l frm (((U4 l[i]).take n).foldl (fun b u=>Xu l frm b ((Z1 l u).getD 0)) b) ((Z1 l (U4 l[i])[n]).getD 0):=by
    rw[List.take_add_one,List.getElem?_eq_getElem M,List.foldl_append];rfl
   refine U2 O.sat ?_
   refine X4 _ (fun w f=>X7 f.sat (bu.lift (U.more y)) rfl (X6 rfl)) ?_
   refine X4 (.pointer (some a)) (fun w f=>X7 f.sat (N.lift y) rfl (X6 rfl)) ?_
   refine X4 (.pointer (some a)) (fun t w f e=>by rw[e,M0];exact X6 rfl) ?_
   refine X4 (.pointer (some (a.add 1))) (fun t w f e=>by rw[e,fa];exact X6 rfl) ?_
   refine X4 (.map (some r)) (fun t w f e=>by rw[e];exact ld f.sat (t1.lift y) rfl (X6 rfl)) ?_
   refine X4 (I ((Z1 l (U4 l[i])[n]).getD 0:Nat)) (fun t w f e=>by
    rw[e,Q4r X8 ((t3.lift y).is f.sat) _,t4]
    cases Z1 l (U4 l[i])[n]<;>exact X6 rfl) ?_
   rintro dd c3 cp cx c2 dg w6 ae rfl _ _ _ _ rfl
   have dn:l.length≤9223372036854775807:=by omega
   refine ih ?_ ?_ (U.more y) (O.trans ae.stp) (Y.step ae.stp) (C.step ae.stp) ac s fun w7 σ7 x7 b7 bs bi am cc=>?_
   ·cases B:Z1 l (U4 l[i])[n] with
    | none=>simp only[Option.getD_none];omega
    | some j=>exact (S5 B).1
   ·cases B:Z1 l (U4 l[i])[n] with
    | none=>exact .inl hf
    | some j=>
     right
     have:=Q1A ha ho hi (u:=(U4 l[i])[n]) (by rw[ay];exact List.getElem_mem M) B
     simp only[Option.getD_some];omega
   ·refine O8 ?_
    refine Y6 (by have:(U4 l[i]).length=l[i].like.length+1:=rfl;omega) M ⟨σ7,x7,ad.more b7,bs,bi,?_,cc,?_⟩
    ·rw[e1];exact am
    ·rw[e1]
     cases B:Z1 l (U4 l[i])[n] with
     | none=>simp only[Option.getD_none];rw[show Xu l frm _ 0=_ from Yw _ _ hf];exact s
     | some j=>exact Ta ha ho hf _ _ _ (S5 B).1 s
  ·have M: ¬n<(U4 l[i]).length:=by simpa using hh
   rw[List.take_of_length_le (by omega)] at C s
   rw[ay] at A
   refine Q9a Y rfl ?_
   have dh:=s.len
   refine Jo (x:=(i:Int)) O C ⟨rfl,by omega,by omega⟩ rfl rfl rfl (by rw[List.length_map];omega) (by rw[List.length_map];omega) fun u x8 w8 σ8 ax bg L az=>?_
   have av:=Y.nx ax ac
   have a4:x8.ownBlock≠some E:=fun e=>by
    rcases az with e2 | e2
    ·exact ac (e2▸e)
    ·have:=e2 E e;have:=Y.lt;omega
   have a1:x8.cells= #[x8]∧x8.oneCell'=true:=by
    obtain ⟨cells,h1,_⟩:=L
    rcases h1.2 with ⟨rfl,_⟩ | ⟨g,dm,cq,rfl,_⟩<;>exact ⟨rfl,rfl⟩
   refine st0 av (by simp) a1.1 a1.2 fun w9 aw br=>?_
   have b4:=aw.stp bg bl av.1
   have aj:V6 w0.heap.size T.e 1 Wv σ8 w9 x8 (ints (Xu l frm b i)):=by
    rw[A]
    have:=L.kp (Kpt.of_upd (D:=fun k=>k=E) aw rfl) fun k hk e=>a4 (e▸hk)
    simpa [ints] using this
   exact h w9 σ8 x8 (y.more ax.le) b4 br aj a4
theorem X20 {frm:Nat} (hs:X2 w σ) (ht:Tab σ v l) (ha:Jg l) (ho:T7 l) (hl:l.length≤100000) (ae: ∀c∈l,Qw c) (hf:0<frm) (ar:frm≤l.length) (h: ∀v' w' σ',Stp w σ w' σ'→Sl 1 Wv σ' v' (ints (W0 l frm))→(W0 l frm).length≤l.length→(∀y∈W0 l frm,y<l.length)→K v' w'):Q1 P F.bm [v,I frm] w K:=Px (by
 unfold Nl
 have ap:=ht
 obtain ⟨a,lv,r,m,rfl,t1,t2,t3,t4⟩:=ht.ex
 refine U6 hs rfl fun pt w1 σ1 t Y=>?_
 refine U6 t.sat rfl fun pf w2 σ2 j ai=>?_
 refine M8 j.sat fun E w3 σ3 ag o Q=>?_
 refine M8 o.sat fun bw w4 σ4 ah q W=>?_
 rw[Qh]
 have O:=Q.step q
 have a2:=Q.lt
 have M:=((t.trans j).trans o).trans q
 have R:w.heap.size≤E:=N0 ag (t.trans j)
 have B:w.heap.size≤bw:=N0 ah ((t.trans j).trans o)
 refine st0 W (by simp[Value.cells]) rfl rfl fun w5 N an=>?_
 have af:=N.stp M B W.1
 have z:=O.upd N (by omega)
 obtain ⟨H,V,J,k,U⟩:=an.keep af B
 have aj:Y3 H w5 E [.slice none 0 0]:=⟨(U E (by omega)).trans z.1,z.2⟩
 have k:SLe σ4 H:=⟨k⟩
 have A:=((ai.up o).up q).lift k
 have u:=(((Y.up j).up o).up q).lift k
 have f:SLe σ H:=SLe.more ⟨M.le⟩ k
 have t1:=t1.lift f
 have t2:=t2.lift f
 refine X7 V.sat A rfl ?_
 have a6:(List.range l.length).length=l.length:=List.length_range
 have hz:([Value.nilFunc].set 0 (Value.func (Fn.func F.z) #[] #[.pointer (some pf), .pointer (some ⟨E,0,none⟩), .pointer (some pt), .pointer (some ⟨bw,0,none⟩)]))=[Value.func (Fn.func F.z) #[] #[.pointer (some pf), .pointer (some ⟨E,0,none⟩), .pointer (some pt), .pointer (some ⟨bw,0,none⟩)]]:=rfl
 refine Pr (fun d x w'=> ∃(i:Nat) (σ':Q6) (x':Value),x=I i∧frm≤i∧i≤l.length∧d=l.length-i∧SLe H σ'∧Stp w σ w' σ'∧Y3 σ' w' E [x']∧V6 w.heap.size T.e 1 Wv σ' w' x' (ints (((List.range i).drop frm).foldl (fun e i=>Xu l frm e i) []))∧x'.ownBlock≠some E∧Few l (((List.range i).drop frm).foldl (fun e i=>Xu l frm e i) [])) _
  ⟨frm,H, .slice none 0 0,rfl,Nat.le_refl _,ar,rfl,SLe.refl _,V,aj,by rw[List.drop_eq_nil_of_le (by simp)];exact V6.nil,by simp[Value.ownBlock],by rw[List.drop_eq_nil_of_le (by simp)];exact ⟨by simp,by simp⟩⟩ ?_
 rintro al d x dd w7 ⟨i,σ7,x7,rfl,bc,a9,rfl,g,p,L,n,ao,b⟩ ad
 refine X7 p.sat (u.lift g) rfl ?_
 rw[M0,fa]
 refine ld p.sat (t1.lift g) rfl ?_
 refine Q8 (t2.lift g) ?_
 refine Z2 ?_
 refine Q7 (fun hh=>?_) (fun hh=>?_)
 ·have s:i<l.length:=by simpa using hh
  refine X7 p.sat (J.lift g) rfl ?_
  refine X31 (w0:=w) (σ0:=σ) (σb:=H) ha ho hl ae hf (ap.lift f) A u J R (K9 l (Y1 l i)+1) s (.inr (Nat.lt_succ_self _)) g p L n ao b fun w8 σ8 x8 X C Z D ac=>?_
  refine Yc ⟨by omega,by omega⟩ ?_
  have e1:((List.range (i+1)).drop frm).foldl (fun e i=>Xu l frm e i) []=Xu l frm (((List.range i).drop frm).foldl (fun e i=>Xu l frm e i) []) i:=by
   rw[List.range_succ,List.drop_append_of_le_length (by simp;omega),List.foldl_append];rfl
  refine ad _ _ _ (by omega:l.length-(i+1)<l.length-i) ⟨i+1,σ8,x8,by simp,by omega,by omega,rfl,g.more X,C,Z,?_,ac,?_⟩
  ·rw[e1];exact D
  ·rw[e1];exact Ta ha ho hf _ _ _ s b
 ·have s:i=l.length:=by
   have: ¬i<l.length:=by simpa using hh
   omega
  subst s
  refine Q9a L rfl ?_
  obtain ⟨σ8,C,am,_,_⟩:=n.keep p
  exact h _ _ _ C am b.len b.2)
end Go.Proofs.YtjdiakhipmggjaaGreatDoor

namespace Go.Hm
open Go.Kd
theorem Q7l (x:X0) (r:List X0):H9 (x::r)=x++Lib.joinTail [44] r:=by
 induction r generalizing x with
 | nil=>simp[H9,Lib.joinTail]
 | cons y r a=>
  simp only[H9]
  rw[a y]
  simp[Lib.joinTail]
theorem Q2u (xs:List X0):Lib.join xs [44]=H9 xs:=by
 cases xs with
 | nil=>rfl
 | cons x r=>rw[Lib.join_cons,Q7l]
theorem Rb: ∀xs:List X0,(∀x∈xs,x.length≤100)→(H9 xs).length≤xs.length*101
 | [],_=>by simp[H9]
 | [a],h=>by have:=h a (by simp);simp[H9];omega
 | a::b::r,h=>by
  have e:=h a (by simp)
  have d:=Rb (b::r) fun x c=>h x (by simp[c])
  simp only[H9,List.length_append,List.length_cons,List.length_nil,Nat.add_mul] at*
  omega
def NmM (m:Hm.Met):Prop:=m.result.length≤100∧ ∀p∈m.params,p.length≤100
end Go.Hm
namespace Go.Proofs.YtjdiakhipmggjaaGreatDoor
open Go.Emb Go.RowKit Go.Kd Go.Hm
variable {w : World} {K : Value → World → Prop} {σ : Q6} {v : Value} {l : List Cla}
theorem X2I {xs:List X0} {pv:Value} (L:X2 w σ) (B:Sl 1 U9 σ pv xs) (H:xs.length≤1000000) (N: ∀x∈xs,x.length≤100) (h: ∀w',Below w.heap.size w w'→K (S (H9 xs)) w'):Q1 P F.cN [pv,S [44]] w K:=by
 obtain ⟨a,k,rfl,E,R,A,C⟩:=B
 have t:=Rb xs N
 have y:xs.length*101≤1000000*101:=Nat.mul_le_mul_right _ H
 cases a with
 | none=>
  have Q:=A rfl
  have d:xs=[]:=List.eq_nil_of_length_eq_zero (by omega)
  subst d
  refine Wq (fn:=Tryz.f143) Tryz.func143 (by kernel_rfl) (by kernel_rfl) (Calls.mono (Tryz.strings_Join_none none k ⟨[44].toArray⟩ w) ?_)
  rintro e w' ⟨rfl,rfl⟩
  exact h _ (Below.refl _ _)
 | some b=>
  obtain ⟨f,p⟩:=C b rfl
  by_cases d:xs=[]
  ·subst d
   refine Wq (fn:=Tryz.f143) Tryz.func143 (by kernel_rfl) (by kernel_rfl) (Calls.mono (Tryz.strings_Join_none (some b) k ⟨[44].toArray⟩ w) ?_)
   rintro e w' ⟨rfl,rfl⟩
   exact h _ (Below.refl _ _)
  have f:=f (List.length_pos_iff.2 d)
  obtain ⟨m,o,O⟩:=b
  simp only at f
  subst f
  have c: ∀(j:Nat) (x:ByteArray),(xs.map fun s=>(⟨s.toArray⟩:ByteArray))[j]? =some x→w.cell? ⟨m,o+j,none⟩=some (.string x):=by
   intro j x n
   rw[List.getElem?_map] at n
   cases g:xs[j]? with
   | none=>rw[g] at n;cases n
   | some s=>
    rw[g] at n
    cases n
    obtain ⟨cs,M,U,J⟩:=p j s g
    obtain ⟨rfl,_⟩:=J
    have:=M.cell L (i:=0) (v:=S s) rfl
    rw[add_zero] at this
    have e:(⟨m,o,none⟩:Addr).add (j*1)=⟨m,o+j,none⟩:=by unfold Addr.add;split<;>simp_all
    rw[e] at this;exact this
  have q:m<w.heap.size:=by
   obtain ⟨x,r,rfl⟩: ∃x r,xs=x::r:=by cases xs with | nil=>exact absurd rfl d | cons x r=>exact ⟨x,r,rfl⟩
   have:=c 0 ⟨x.toArray⟩ (by simp)
   exact World.block_lt_of_cell? _ _ this
  have z:(xs.map fun s=>(⟨s.toArray⟩:ByteArray)).map (·.data.toList)=xs:=by rw[List.map_map];simp[Function.comp_def]
  have u:=Tryz.strings_Join m o k (xs.map fun s=>(⟨s.toArray⟩:ByteArray)) ⟨[44].toArray⟩ w c q (by rw[List.length_map];omega) (by rw[List.length_map];exact E) (by rw[z];show (Lib.join xs [44]).length≤_;rw[Q2u];omega)
  rw[z,List.length_map] at u
  refine Wq (fn:=Tryz.f143) Tryz.func143 (by kernel_rfl) (by kernel_rfl) (Calls.mono u ?_)
  rintro e w' ⟨rfl,D⟩
  have:=h w' D
  rw[←Q2u] at this
  exact this
theorem Q9E {m:Hm.Met} {cs:List Value} (p:X2 w σ) (r:E5 σ m cs) (d:SmM m) (f:NmM m) (h: ∀w' o,Stp w σ w' o→K (S (Xc m)) w'):Q1 P F.cf [.agg cs.toArray] w K:=Q6r (by
 obtain ⟨pv,A,s,rfl,q,N,E,H,B,O⟩:=r
 unfold Q0z
 refine Y9 p fun a w1 σ1 c k=>?_
 have n:=Rb m.params f.2
 have j:m.params.length*101≤1000000*101:=Nat.mul_le_mul_right _ d.1
 refine U2 c.sat ?_
 refine X4 (.pointer (some (a.add 1))) (fun w b=>by rw[fa];exact X6 rfl) ?_
 refine X4 (.pointer (some (a.add 2))) (fun w b=>by rw[fa];exact X6 rfl) ?_
 refine X4 pv (fun t w b e=>by rw[e];exact ld b.sat k rfl (X6 rfl)) ?_
 refine X4 (S (H9 m.params)) (fun t w b e=>by rw[e];exact X2I b.sat (q.up c) d.1 f.2 fun w' i=>Q3H i rfl) ?_
 refine X4 (S ([40]++H9 m.params)) (fun t w b e=>by rw[e];exact Ec (by simp only[List.length_cons,List.length_nil];omega) (X6 rfl)) ?_
 refine X4 (S ([40]++H9 m.params++[41])) (fun t w b e=>by rw[e];exact Ec (by simp only[List.length_append,List.length_cons,List.length_nil];omega) (X6 rfl)) ?_
 refine X4 (S m.result) (fun t w b e=>by rw[e];exact ld b.sat k rfl (X6 rfl)) ?_
 rintro u M D J y C z L g _ _ _ _ _ rfl rfl
 have:=f.1
 refine Ec (by simp only[List.length_append,List.length_cons,List.length_nil];omega) ?_
 exact h _ _ (c.trans g.stp))
end Go.Proofs.YtjdiakhipmggjaaGreatDoor

namespace Go.Emb
open Go.RowKit Go.Hm
variable {P : Program} {w w0 w1 w' w'' : World} {K : Value → World → Prop} {σ σ0 σ1 σ' : Q6}
theorem Pl {α:Type} (f:α→α) (e:α): ∀l:List α,(l++[e]).modify l.length f=l++[f e]
 | []=>rfl
 | x::r=>by simp[Pl f e r]
theorem Q0U (k:List UInt8) (e:MapEntry) (b:e.key=S k): ∀(a:List MapEntry) (i:Nat),Instr.findNow .string (S k) a i=some none→Instr.findNow .string (S k) (a++[e]) i=some (some (i+a.length,e.val))
 | [],i,_=>by
  simp[Instr.findNow,b,Instr.sameNow,Hi]
 | x::r,i,h=>by
  simp only[Instr.findNow,List.cons_append] at h⊢
  split at h
  ·cases h
  ·rename_i c
   rw[Q0U k e b r (i+1) h]
   simp;omega
  ·cases h
theorem Q2v (k:List UInt8) (u:Value): ∀(b:List MapEntry) (i j:Nat) (v:Value),Instr.findNow .string (S k) b i=some (some (j,v))→i≤j∧j-i<b.length∧Instr.findNow .string (S k) (b.modify (j-i) fun e=>{e with val:=u}) i=some (some (j,u))
 | [],i,j,v,h=>by simp[Instr.findNow] at h
 | x::r,i,j,v,h=>by
  simp only[Instr.findNow] at h
  split at h
  ·rename_i a
   cases h
   refine ⟨Nat.le_refl _,by simp,?_⟩
   simp only[Nat.sub_self,List.modify_zero_cons,Instr.findNow,a]
  ·rename_i a
   obtain ⟨f,d,c⟩:=Q2v k u r (i+1) j v h
   refine ⟨by omega,by simp;omega,?_⟩
   rw[show j-i=(j-(i+1))+1 by omega]
   simp only[List.modify_succ_cons,Instr.findNow,a]
   exact c
  ·cases h
theorem Vk {t p s:TypeId} [tm:TM P t p s] (o:P.underlying p=some .string) {r:Nat} {b:Array MapEntry} {a:Nat} {k:List UInt8} {i:Nat} {v:Value} {e:MapEntry} (n:w.heap[r]? =some (.map b a))
 (u:Instr.findNow .string (S k) b.toList 0=some (some (i,v))) (m:b[i]? =some e) (g:e.key=S k):
 (Instr.mapEntry t (.map (some r)) (S k)).run P w= .ok (.tuple #[v,goInt e.born]) {w with heap:=w.heap.setIfInBounds r (.map b a)}:=by
 have q:(getObj r).run P w= .ok (.map b a) w:=by simp[getObj,Sem.run,n]
 have c:(Instr.keyThatStays (S k) (S k)).run P w= .ok (S k) w:=by
  simp[Instr.keyThatStays,Instr.sameBits,Hi]
 have l:(b.modify i fun e=>{e with key:=S k})=b:=by
  apply Array.ext'
  apply List.ext_getElem?
  intro j
  simp only[Array.toList_modify,List.getElem?_modify]
  by_cases d:i=j
  ·subst d
   rw[Array.getElem?_toList,m]
   simp[←g]
  ·cases b.toList[j]? <;>simp[d]
 have f:(setObj r (.map b a)).run P w= .ok () {w with heap:=w.heap.setIfInBounds r (.map b a)}:=by
  simp[setObj,Sem.run,n]
 simp only[Instr.mapEntry,Sem.run_bind,run_underlying tm.h,Result.andThen_ok,Instr.findKey,run_underlying o,u,I8 o,q,Sem.run_pure]
 simp only[m,Option.map_some,Option.getD_some,g,c,Result.andThen_ok,l,f]
theorem Q2C {r:Nat} {o:Obj} (h:w.heap[r]? =some o):({w with heap:=w.heap.setIfInBounds r o}:World)=w:=by
 have:w.heap.setIfInBounds r o=w.heap:=by
  apply Array.ext'
  apply List.ext_getElem?
  intro j
  simp only[Array.toList_setIfInBounds,List.getElem?_set]
  by_cases a:r=j
  ·subst a
   rw[if_pos rfl]
   have:=h
   rw[←Array.getElem?_toList] at this
   rw[this,if_pos (by have:=(Array.getElem?_eq_some_iff.1 h).1;simpa using this)]
  ·rw[if_neg a]
 rw[this]
theorem Q41 {r:Nat} {o b:Obj} (h:w.heap[r]? =some b):Upd w r {w with heap:=w.heap.setIfInBounds r o}∧({w with heap:=w.heap.setIfInBounds r o}:World).heap[r]? =some o:=by
 have a:=(Array.getElem?_eq_some_iff.1 h).1
 exact ⟨⟨rfl,rfl,rfl,by simp,fun k c=>by simp only[Array.getElem?_setIfInBounds];rw[if_neg (by omega)]⟩,by simp[Array.getElem?_setIfInBounds,a]⟩
structure Ent3 (P : Program) (t : TypeId) (r : Nat) (k : List UInt8) (u : Value) (m : List (List UInt8 × Value)) (O0 O1 O2 : Obj) (stamp : Nat) : Prop where
  same : O0 = O2 → O1 = O0
  put : H2 (some O2) (Ww m k u)
  entry : ∀ {w : World} {K : Value → World → Prop}, (w.heap[r]? = some O0 ∨ w.heap[r]? = some O1 ∨ w.heap[r]? = some O2) → (∀ x w', Upd w r w' → (w.heap[r]? = some O0 → w'.heap[r]? = some O1) → (w.heap[r]? ≠ some O0 → w'.heap[r]? = w.heap[r]?) → K (.tuple #[x, I stamp]) w') → mapEntry P t (.map (some r)) (S k) w K
  store : ∀ {w : World} {K : Value → World → Prop}, (w.heap[r]? = some O1 ∨ w.heap[r]? = some O2) → (∀ w', Upd w r w' → w'.heap[r]? = some O2 → K undef w') → entryStore P t (.map (some r)) (I stamp) u w K
theorem X4B {t kt et:TypeId} {ao:Nat} {z:Value} [tm:TM P t kt et] [tz:TZ P et 1 ao z] (X:P.underlying kt=some .string) {r:Nat} {m:List (List UInt8×Value)} (hm:H2 (w.heap[r]?) m) (k:List UInt8) (u:Value):
 ∃O O1 O2 A,w.heap[r]? =some O∧Ent3 P t r k u m O O1 O2 A:=by
 obtain ⟨q,g,h1,h2,h3,h4⟩:=hm
 obtain ⟨r',q1,q2,q3,q4⟩:=Bk k q.toList m 0 h2
 -- the array behind it, the place, the stamp
 have V: ∀(f:Array MapEntry) (d i:Nat) (s:MapEntry) (v1:Value),Instr.findNow .string (S k) f.toList 0=some (some (i,v1))→f[i]? =some s→s.key=S k→(f.toList.map (·.born)).Pairwise (· < ·)→
  (Obj.map q g= .map (f.modify i fun e=>{e with val:=u}) d→Obj.map f d=Obj.map q g)→H2 (some (.map (f.modify i fun e=>{e with val:=u}) d)) (Ww m k u)→
  (∀{w:World},w.heap[r]? =some (.map q g)→ ∃x,(Instr.mapEntry t (.map (some r)) (S k)).run P w= .ok (.tuple #[x,I s.born]) {w with heap:=w.heap.setIfInBounds r (.map f d)})→
  ∃O O1 O2 A,w.heap[r]? =some O∧Ent3 P t r k u m O O1 O2 A:=by
  intro f d i s v1 f1 f2 f3 f4 f5 f6 f7
  obtain ⟨_,J,f8⟩:=Q2v k u f.toList 0 i v1 f1
  simp only[Nat.sub_zero] at J f8
  have a1:i<f.size:=by simpa using J
  have f9:(f.modify i fun e=>{e with val:=u})[i]? =some {s with val:=u}:=by
   rw[Array.getElem?_modify,if_pos rfl,f2];rfl
  have af:Instr.findNow .string (S k) (f.modify i fun e=>{e with val:=u}).toList 0=some (some (i,u)):=by
   rw[Array.toList_modify];exact f8
  have L: ∀(l:Array MapEntry),l.toList.map (·.born)=f.toList.map (·.born)→l.findIdx? (fun e=>(e.born:Int)==s.born)=some i:=by
   intro l D
   obtain ⟨Z⟩:=l
   have e0:(Array.mk Z).findIdx? (fun e=>(e.born:Int)==s.born)=Z.findIdx? (fun e=>(e.born:Int)==s.born):=List.findIdx?_toArray ..
   rw[e0,List.findIdx?_eq_some_iff_getElem]
   generalize W:(Array.mk Z)=l at*
   have an:Z=l.toList:=by rw[←W]
   subst an
   have az:l.toList.length=f.toList.length:=by have:=congrArg List.length D;simpa using this
   have U: ∀j (Y:j<l.toList.length),(l.toList[j]).born=(f.toList[j]'(by omega)).born:=fun j Y=>by
    have h5:(l.toList.map (·.born))[j]? =(f.toList.map (·.born))[j]? :=by rw[D]
    rw[List.getElem?_map,List.getElem?_map,List.getElem?_eq_getElem Y,List.getElem?_eq_getElem (by omega)] at h5
    simpa using h5
   have R:f.toList[i]=s:=by
    have:=f2
    rw[←Array.getElem?_toList,List.getElem?_eq_getElem J] at this
    simpa using this
   refine ⟨by omega,by rw[U i (by omega),R];simp,fun j Y=>?_⟩
   have ap:j<f.toList.length:=by omega
   have:=(List.pairwise_iff_getElem.1 f4) j i (by simpa using ap) (by simpa using J) Y
   simp only[List.getElem_map] at this
   rw[U j (by omega)]
   rw[R] at this
   simp only[beq_iff_eq];omega
  have H:(f.modify i fun e=>{e with val:=u}).toList.map (·.born)=f.toList.map (·.born):=by
   apply List.ext_getElem?
   intro j
   simp only[Array.toList_modify,List.getElem?_map,List.getElem?_modify]
   by_cases M:i=j<;>cases f.toList[j]? <;>simp[M]
  have aj:(f.modify i fun e=>{e with val:=u}).modify i (fun e=>{e with val:=u})=f.modify i fun e=>{e with val:=u}:=by
   apply Array.ext'
   apply List.ext_getElem?
   intro j
   simp only[Array.toList_modify,List.getElem?_modify]
   by_cases M:i=j<;>cases f.toList[j]? <;>simp[M]
  have B: ∀(l:Array MapEntry) {w:World},l.toList.map (·.born)=f.toList.map (·.born)→w.heap[r]? =some (.map l d)→(Instr.entryStore t (.map (some r)) (I s.born) u).run P w= .ok () {w with heap:=w.heap.setIfInBounds r (.map (l.modify i fun e=>{e with val:=u}) d)}:=by
   intro l w D hw
   have hg:(getObj r).run P w= .ok (.map l d) w:=by simp[getObj,Sem.run,hw]
   have E: ∀o,(setObj r (.map o d)).run P w= .ok () {w with heap:=w.heap.setIfInBounds r (.map o d)}:=by
    intro o;simp[setObj,Sem.run,hw]
   simp only[Instr.entryStore,Sem.run_bind,hg,Result.andThen_ok,asInt,Sem.run_pure,asIntOf,L l D,E]
  refine ⟨.map q g, .map f d, .map (f.modify i fun e=>{e with val:=u}) d,s.born,h1,f5,f6,?_,?_⟩
  ·intro w K hw N
   unfold mapEntry
   rcases hw with hw | hw | hw
   ·obtain ⟨x,hx⟩:=f7 hw
    rw[X9 hx]
    obtain ⟨u1,u2⟩:=Q41 (o:= .map f d) hw
    exact N x _ u1 (fun _=>u2) fun h=>absurd hw h
   ·have:=Vk (P:=P) (t:=t) X hw f1 f2 f3
    rw[Q2C hw] at this
    rw[X9 this]
    refine N _ w ⟨rfl,rfl,rfl,rfl,fun _ _=>rfl⟩ (fun h0=>?_) fun _=>rfl
    exact hw
   ·have:=Vk (P:=P) (t:=t) X hw af f9 f3
    rw[Q2C hw] at this
    rw[X9 this]
    refine N _ w ⟨rfl,rfl,rfl,rfl,fun _ _=>rfl⟩ (fun h0=>?_) fun _=>rfl
    rw[h0] at hw
    cases hw
    rw[h0,f5 rfl]
  ·intro w K hw N
   unfold entryStore
   rcases hw with hw | hw
   ·rw[Lh (B f rfl hw)]
    obtain ⟨u1,u2⟩:=Q41 (o:= .map (f.modify i fun e=>{e with val:=u}) d) hw
    exact N _ u1 u2
   ·have:=B _ H hw
    rw[aj,Q2C hw] at this
    rw[Lh this]
    exact N _ ⟨rfl,rfl,rfl,rfl,fun _ _=>rfl⟩ hw
 cases r' with
 | none=>
  obtain ⟨i,hi,bh,bc,aq⟩:=tz.info
  have hz: ∀w:World,(zeroValue et).run P w= .ok z w:=fun w=>Zr tz w
  refine V (q.push {key:=S k,val:=z,born:=g}) (g+1) q.size {key:=S k,val:=z,born:=g} z ?_ (by simp) rfl ?_ ?_ ?_ ?_
  ·have:=Q0U k {key:=S k,val:=z,born:=g} rfl q.toList 0 q1
   simpa using this
  ·simp only[Array.toList_push,List.map_append,List.map_cons,List.map_nil]
   rw[List.pairwise_append]
   refine ⟨h3,by simp,?_⟩
   intro a ha b D
   simp at D;subst D
   obtain ⟨e,he,rfl⟩:=List.mem_map.1 ha
   exact h4 e he
  ·intro e
   injection e with s e2
   omega
  ·refine ⟨_,_,rfl,?_,?_,?_⟩
   ·rw[q4 rfl]
    simp only[Array.toList_modify,Array.toList_push]
    rw[←Array.length_toList,Pl]
    simp[h2]
   ·have:((q.push {key:=S k,val:=z,born:=g}).modify q.size fun e=>{e with val:=u}).toList.map (·.born)=q.toList.map (·.born)++[g]:=by
     simp only[Array.toList_modify,Array.toList_push]
     rw[←Array.length_toList,Pl]
     simp
    rw[this,List.pairwise_append]
    refine ⟨h3,by simp,?_⟩
    intro a ha b D
    simp at D;subst D
    obtain ⟨e,he,rfl⟩:=List.mem_map.1 ha
    exact h4 e he
   ·intro e he
    simp only[Array.toList_modify,Array.toList_push] at he
    rw[←Array.length_toList,Pl] at he
    rcases List.mem_append.1 he with he | he
    ·have:=h4 e he;omega
    ·simp at he;subst he;simp
  ·intro w hw
   have hg:(getObj r).run P w= .ok (.map q g) w:=by simp[getObj,Sem.run,hw]
   have E: ∀o c,(setObj r (.map o c)).run P w= .ok () {w with heap:=w.heap.setIfInBounds r (.map o c)}:=by
    intro o c;simp[setObj,Sem.run,hw]
   refine ⟨z,?_⟩
   simp only[Instr.mapEntry,Sem.run_bind,run_underlying tm.h,Result.andThen_ok,Instr.findKey,run_underlying X,q1,I8 X,hg,Sem.run_pure,hz,E]
   rfl
 | some p=>
  obtain ⟨j,v⟩:=p
  obtain ⟨z1,z2,z3⟩:=q3 j v rfl
  obtain ⟨e,s,e2⟩:=z2
  simp only[Nat.sub_zero] at s z3
  have Q:q[j]? =some e:=by rw[←Array.getElem?_toList];exact s
  refine V q g j e v q1 Q e2 h3 (fun _=>rfl) ?_ fun hw=>⟨v,Vk X hw q1 Q e2⟩
  refine ⟨_,_,rfl,?_,?_,?_⟩
  ·have:=z3 u
   rw[←this,Array.toList_modify]
   congr 1
   apply List.ext_getElem?
   intro n
   simp only[List.getElem?_modify]
   by_cases C:j=n
   ·subst C;rw[s];simp[e2]
   ·simp[C]
  ·have:(q.modify j fun e=>{e with val:=u}).toList.map (·.born)=q.toList.map (·.born):=by
    apply List.ext_getElem?
    intro n
    simp only[Array.toList_modify,List.getElem?_map,List.getElem?_modify]
    by_cases C:j=n<;>cases q.toList[n]? <;>simp[C]
   rw[this];exact h3
  ·intro x hx
   have:x.born∈(q.modify j fun e=>{e with val:=u}).toList.map (·.born):=List.mem_map.2 ⟨x,hx,rfl⟩
   have D:(q.modify j fun e=>{e with val:=u}).toList.map (·.born)=q.toList.map (·.born):=by
    apply List.ext_getElem?
    intro n
    simp only[Array.toList_modify,List.getElem?_map,List.getElem?_modify]
    by_cases C:j=n<;>cases q.toList[n]? <;>simp[C]
   rw[D] at this
   obtain ⟨y,hy,e⟩:=List.mem_map.1 this
   rw[←e];exact h4 y hy
end Go.Emb

namespace Go.Hm
open Go.Kd Go.Emb
abbrev B3:=List (X0×X0)
def C5:B3→X0→Option X0
 | [],_=>none
 | p::r,k=>if p.1=k then some p.2 else C5 r k
def Sj:B3→X0→X0→B3
 | [],k,v=>[(k,v)]
 | p::r,k,v=>if p.1=k then (k,v)::r else p::Sj r k v
def vals (m:B3):List (List UInt8×Value):=m.map fun p=>(p.1,S p.2)
theorem Q9k (m:B3) (k:X0):C3 (vals m) k=(C5 m k).map S:=by
 induction m with
 | nil=>rfl
 | cons p r a=>
  simp only[vals,List.map_cons,C3,C5]
  split
  ·rfl
  ·exact a
theorem Q5N (m:B3) (k v:X0):Ww (vals m) k (S v)=vals (Sj m k v):=by
 induction m with
 | nil=>rfl
 | cons p r a=>
  simp only[vals,List.map_cons,Ww,Sj]
  split
  ·rfl
  ·rw[List.map_cons];congr 1
theorem Q0O (m:B3) (k v n:X0):C5 (Sj m k v) n=if k=n then some v else C5 m n:=by
 induction m with
 | nil=>simp[Sj,C5]
 | cons p r b=>
  simp only[Sj]
  by_cases h:p.1=k
  ·rw[if_pos h]
   simp only[C5]
   by_cases a:k=n
   ·simp[a]
   ·rw[if_neg a,if_neg a,if_neg (by rw[h];exact a)]
  ·rw[if_neg h]
   simp only[C5]
   by_cases a:p.1=n
   ·rw[if_pos a,if_pos a,if_neg (by intro e;exact h (a.trans e.symm))]
   ·rw[if_neg a,if_neg a];exact b
def Vj (d:X0) (s:B3×B3) (m:Hm.Met):Bool×(B3×B3):=
 ((match C5 s.1 m.name with | some x=> !decide (x=Xc m) | none=>false),(Sj s.1 m.name (Xc m),Sj s.2 m.name d))
end Go.Hm
namespace Go.Emb
open Go.RowKit Go.Hm
theorem H2.of_below {w w':World} {r:Nat} {m:List (List UInt8×Value)} (h:H2 (w.heap[r]?) m) (c:Below w.heap.size w w'):H2 (w'.heap[r]?) m:=by
 obtain ⟨e,a,b,d⟩:=h
 rw[c.block r (Array.getElem?_eq_some_iff.1 b).1]
 exact ⟨e,a,b,d⟩
theorem Q9U {P:Program} {w:World} {K:Value→World→Prop} {t c b:TypeId} {sz a:Nat} {z:Value} [tm:TM P t c b] [tz:TZ P b sz a z] (d:P.underlying c=some .string) {r:Nat} {m:List (List UInt8×Value)} (f:H2 (w.heap[r]?) m) (k:List UInt8)
 (h:K (.tuple #[(C3 m k).getD z, .bool (C3 m k).isSome]) w):lookup P t (.map (some r)) (S k) true w K:=by
 rw[Q2R d f k];cases e:C3 m k<;>rw[e] at h<;>exact h
theorem H2.lt {w:World} {r:Nat} {m:List (List UInt8×Value)} (h:H2 (w.heap[r]?) m):r<w.heap.size:=by
 obtain ⟨d,a,b,c⟩:=h
 exact (Array.getElem?_eq_some_iff.1 b).1
end Go.Emb
namespace Go.Proofs.YtjdiakhipmggjaaGreatDoor
open Go.Emb Go.RowKit Go.Kd Go.Hm
variable {w : World} {K : Value → World → Prop} {σ : Q6} {v : Value} {l : List Cla}
theorem X4l {m:Hm.Met} {cs ds:List Value} {pa pb q:Addr} {b o:Nat} {s:B3×B3} {d:X0} (hs:X2 w σ) (hm:E5 σ m cs) (U:SmM m) (hn:NmM m) (W:Z6 σ pa [.map (some b)]) (ap:Z6 σ pb [.map (some o)]) (hq:Z6 σ q (S d::ds))
 (ak:σ b=none) (ax:σ o=none) (ab:b≠o) (p:H2 (w.heap[b]?) (vals s.1)) (y:H2 (w.heap[o]?) (vals s.2))
 (h: ∀w',Kpt (fun k=>k=b∨k=o) w w'→H2 (w'.heap[b]?) (vals (Vj d s m).2.1)→H2 (w'.heap[o]?) (vals (Vj d s m).2.2)→K (.bool (Vj d s m).1) w'):
 Q1 P F.aM [.agg cs.toArray, .pointer (some pa), .pointer (some q), .pointer (some pb)] w K:=Hq (by
 have Y:=hm
 obtain ⟨pv,cv,hv,rfl,g1,g2,g3,g4,g5,g6⟩:=hm
 unfold Zj
 refine Y9 hs fun a w1 σ1 f ha=>?_
 have an:=p.lt
 have ae:=y.lt
 have p:=p.of_below f.bel
 have y:=y.of_below f.bel
 have X:σ1 b=none:=(f.old b an).trans ak
 have J:σ1 o=none:=(f.old o ae).trans ax
 refine X7 f.sat (W.up f) rfl ?_
 rw[fa]
 refine ld f.sat ha rfl ?_
 refine Q9U X8 p m.name ?_
 have aj:(.tuple #[(C3 (vals s.1) m.name).getD (.string ⟨#[]⟩), .bool (C3 (vals s.1) m.name).isSome]:Value)= .tuple #[S ((C5 s.1 m.name).getD []), .bool (C5 s.1 m.name).isSome]:=by
  rw[Q9k];cases C5 s.1 m.name<;>rfl
 rw[aj]
 refine Z5 (vs:=[_,_]) rfl ?_
 refine Z5 (vs:=[_,_]) rfl ?_
 obtain ⟨M,L,r,A,al,E⟩:=X4B (P:=P) (t:=T.y) X8 p m.name (S (Xc m))
 have aa:=p.lt
 refine Pa (fun c i=>Kpt (fun k=>k=b) c i∧(i.heap[b]? =c.heap[b]? ∨(c.heap[b]? =some M∧M≠r∧i.heap[b]? =some L)∨i.heap[b]? =some r))
  (fun c=>Kpt (fun k=>k=b) w1 c∧X2 c σ1∧(c.heap[b]? =some M∨c.heap[b]? =some L∨c.heap[b]? =some r))
  ⟨.of_below (Below.refl _ _).drew,f.sat.below (Below.refl _ _).drew, .inl al⟩ (fun c i g C=>⟨g.1.trans C.1,C.1.sat g.2.1 (fun k hk=>hk▸X),by
   rcases C.2 with e | ⟨_,_,e⟩ | e
   ·rw[e];exact g.2.2
   ·exact .inr (.inl e)
   ·exact .inr (.inr e)⟩) ?_
 refine X4 (.pointer (some (a.add 0))) (fun w g=>by rw[fa];exact ⟨⟨Kpt.refl, .inl rfl⟩,rfl⟩) ?_
 refine X4 (.pointer (some (a.add 0))) (fun w g=>by rw[fa];exact ⟨⟨Kpt.refl, .inl rfl⟩,rfl⟩) ?_
 refine X4 (.pointer (some (q.add 0))) (fun w g=>by rw[fa];exact ⟨⟨Kpt.refl, .inl rfl⟩,rfl⟩) ?_
 refine X4 (.map (some b)) (fun w g=>X7 g.2.1 (W.up f) rfl ⟨⟨Kpt.refl, .inl rfl⟩,rfl⟩) ?_
 refine X4 (S m.name) (fun t w g e=>by rw[e];exact ld g.2.1 ha rfl ⟨⟨Kpt.refl, .inl rfl⟩,rfl⟩) ?_
 refine X4 (.map (some o)) (fun w g=>X7 g.2.1 (ap.up f) rfl ⟨⟨Kpt.refl, .inl rfl⟩,rfl⟩) ?_
 refine X4 (S m.name) (fun t w g e=>by rw[e];exact ld g.2.1 ha rfl ⟨⟨Kpt.refl, .inl rfl⟩,rfl⟩) ?_
 refine X4 (.agg [S m.name,pv,S m.result, .bool m.abs,I m.locals,cv,hv].toArray) (fun w g=>Y5 g.2.1 ha rfl ⟨⟨Kpt.refl, .inl rfl⟩,rfl⟩) ?_
 refine X4 (S (Xc m)) (fun t c g e=>by
  rw[e]
  exact Q9E g.2.1 (RMe_lift Y ⟨f.le⟩) U hn fun i σ3 z=>⟨⟨.of_below z.bel, .inl (z.bel.block b (Nat.lt_of_lt_of_le aa g.1.size))⟩,rfl⟩) ?_
 refine X4 (S d) (fun t w g e=>by rw[e];exact ld g.2.1 (hq.up f) rfl ⟨⟨Kpt.refl, .inl rfl⟩,rfl⟩) ?_
 have st: ∀{c i:World},(c.heap[b]? =some L∨c.heap[b]? =some r)→(i.heap[b]? =c.heap[b]? ∨(c.heap[b]? =some M∧M≠r∧i.heap[b]? =some L)∨i.heap[b]? =some r)→(i.heap[b]? =some L∨i.heap[b]? =some r):=by
  intro c i j h2
  rcases h2 with e | ⟨_,_,e⟩ | e
  ·rw[e];exact j
  ·exact .inl e
  ·exact .inr e
 refine E8 (fun u c=>(∃x,u= .tuple #[x,I A])∧(c.heap[b]? =some L∨c.heap[b]? =some r)) (fun u c i j C=>⟨j.1,st j.2 C.2⟩) (fun Q aw c g e1 e2=>?_) ?_
 ·rw[e1,e2]
  refine E.entry g.2.2 fun x i n ao ah=>?_
  by_cases R:c.heap[b]? =some M
  ·have j:=ao R
   refine ⟨⟨Kpt.of_upd n rfl,?_⟩,⟨x,rfl⟩, .inl j⟩
   by_cases B:M=r
   ·left;rw[j,R,E.same B]
   ·exact .inr (.inl ⟨R,B,j⟩)
  ·have j:=ah R
   refine ⟨⟨Kpt.of_upd n rfl, .inl j⟩,⟨x,rfl⟩,?_⟩
   rw[j];exact g.2.2.resolve_left R
 refine E8 (fun u c=>u=I A∧(c.heap[b]? =some L∨c.heap[b]? =some r)) (fun u c i j C=>⟨j.1,st j.2 C.2⟩) (fun t c g e=>?_) ?_
 ·obtain ⟨⟨x,rfl⟩,j⟩:=e
  exact Z5 (vs:=[_,_]) rfl ⟨⟨Kpt.refl, .inl rfl⟩,rfl,j⟩
 refine E8 (fun _ c=>c.heap[b]? =some r) (fun u c i j C=>?_) (fun Q ar ag c g e1 e2 e3=>?_) ?_
 ·rcases C.2 with e | ⟨e,B,_⟩ | e
  ·exact e.trans j
  ·rw[j] at e;cases e;exact absurd rfl B
  ·exact e
 ·rw[e1,e3,e2.1]
  refine E.store e2.2 fun i n h3=>⟨⟨Kpt.of_upd n rfl, .inr (.inr h3)⟩,h3⟩
 rintro ba be a9 Q aw bb bi a7 ag bc a8 ar bf c N _ _ _ _ _ rfl rfl _ _ rfl _ _ ay
 have af:H2 (c.heap[b]?) (vals (Sj s.1 m.name (Xc m))):=by
  rw[ay,←Q5N];exact E.put
 have ai:H2 (c.heap[o]?) (vals s.2):=by
  rw[N.1.block o y.lt fun e=>ab e.symm];exact y
 refine Ps X8 ⟨J,ai⟩ m.name (S d) fun i n am=>?_
 have V:H2 (i.heap[o]?) (vals (Sj s.2 m.name d)):=by rw[←Q5N];exact am.2
 have H:H2 (i.heap[b]?) (vals (Sj s.1 m.name (Xc m))):=by rw[n.block b ab];exact af
 have z:Kpt (fun k=>k=b∨k=o) w i:=((Kpt.of_below f.bel).trans (N.1.mono fun k _ h=> .inl h)).trans (Kpt.of_upd n (.inr rfl))
 have Z:X2 i σ1:=(Kpt.of_upd (D:=fun k=>k=o) n rfl).sat N.2.1 fun k hk=>hk▸J
 unfold Vj at h
 cases ho:C5 s.1 m.name with
 | none=>
  rw[ho] at h
  simp only[Option.isSome_none,↓M2,M2,Mb,reduceIte]
  exact h i z H V
 | some x=>
  rw[ho] at h
  simp only[Option.isSome_some,Option.getD_some,↓M2,M2,Mb,reduceIte]
  refine Y5 Z ha rfl ?_
  refine Q9E Z (RMe_lift Y ⟨f.le⟩) U hn fun w4 σ4 O=>?_
  simp only[↓M2,M2,Mb,reduceIte]
  exact h w4 (z.trans (Kpt.of_below O.bel)) (H.of_below O.bel) (V.of_below O.bel))
end Go.Proofs.YtjdiakhipmggjaaGreatDoor

namespace Go.Hm
open Go.Kd Go.Emb
def Cp (s:B3×B3) (c:Cla):Bool×(B3×B3):=((J5 (Vj c.name) s c.methods 0).1.isSome,(J5 (Vj c.name) s c.methods 0).2)
def Ri (a:List Hm.Met):Prop:= ∃x∈a,∃y∈a,x.name=y.name∧Xc x≠Xc y
theorem Q4z (a:List Hm.Met):Ns a=true↔Ri a:=by
 simp[Ns,Ri]
structure Gd (pre : List Hm.Met) (s : B3 × B3) : Prop where
  a : ∀ m ∈ pre, C5 s.1 m.name = some (Xc m)
  b : ∀ k x, C5 s.1 k = some x → ∃ m ∈ pre, m.name = k ∧ Xc m = x
  c : ∀ k, (C5 s.2 k).isSome = true ↔ ∃ m ∈ pre, m.name = k
theorem Gd.no {b:List Hm.Met} {s:B3×B3} (h:Gd b s): ¬Ri b:=by
 rintro ⟨x,g,y,f,i,e⟩
 have c:=h.a x g
 have d:=h.a y f
 rw[i,d] at c
 exact e (Option.some.inj c).symm
theorem Gd.step {i:List Hm.Met} {s:B3×B3} (h:Gd i s) (d:X0) (m:Hm.Met):((Vj d s m).1=true→Ri (i++[m]))∧((Vj d s m).1=false→Gd (i++[m]) (Vj d s m).2):=by
 unfold Vj
 constructor
 ·intro n
  cases o:C5 s.1 m.name with
  | none=>rw[o] at n;cases n
  | some x=>
   rw[o] at n
   obtain ⟨y,hy,f,p⟩:=h.b _ _ o
   exact ⟨y,by simp[hy],m,by simp,f,by rw[p];simpa using n⟩
 ·intro n
  have g: ∀x,C5 s.1 m.name=some x→x=Xc m:=fun x j=>by rw[j] at n;simpa using n
  refine ⟨fun y hy=>?_,fun k x j=>?_,fun k=>?_⟩
  ·simp only[Q0O]
   rcases List.mem_append.1 hy with hy | hy
   ·have:=h.a y hy
    by_cases e:m.name=y.name
    ·rw[if_pos e];congr 1;exact (g _ (by rw[e];exact this)).symm
    ·rw[if_neg e];exact this
   ·simp at hy;subst hy;simp
  ·simp only[Q0O] at j
   by_cases e:m.name=k
   ·rw[if_pos e] at j;cases j;exact ⟨m,by simp,e,rfl⟩
   ·rw[if_neg e] at j
    obtain ⟨y,hy,f⟩:=h.b _ _ j
    exact ⟨y,by simp[hy],f⟩
  ·simp only[Q0O]
   by_cases e:m.name=k
   ·rw[if_pos e];exact ⟨fun _=>⟨m,by simp,e⟩,fun _=>rfl⟩
   ·rw[if_neg e,h.c k]
    constructor
    ·rintro ⟨y,hy,f⟩;exact ⟨y,by simp[hy],f⟩
    ·rintro ⟨y,hy,f⟩
     rcases List.mem_append.1 hy with hy | hy
     ·exact ⟨y,hy,f⟩
     ·simp at hy;subst hy;exact absurd f e
theorem Ri.mono {a b:List Hm.Met} (h:Ri a) (c: ∀x∈a,x∈b):Ri b:=by
 obtain ⟨x,f,y,d,e⟩:=h
 exact ⟨x,c x f,y,c y d,e⟩
theorem Q3y (d:X0): ∀(b a:List Hm.Met) (s:B3×B3) (i:Nat),Gd a s→((J5 (Vj d) s b i).1.isSome=true→Ri (a++b))∧((J5 (Vj d) s b i).1.isSome=false→Gd (a++b) (J5 (Vj d) s b i).2)
 | [],a,s,i,h=>by simpa [J5] using h
 | m::r,a,s,i,h=>by
  obtain ⟨j,g⟩:=h.step d m
  simp only[J5]
  cases f:(Vj d s m).1 with
  | true=>
   simp only[if_true,Option.isSome_some]
   exact ⟨fun _=>(j f).mono fun x c=>by simp at c⊢;rcases c with h | h<;>simp[h],fun e=>by cases e⟩
  | false=>
   simp only[Bool.false_eq_true,if_false]
   have:=Q3y d r (a++[m]) (Vj d s m).2 (i+1) (g f)
   rw[show a++m::r=(a++[m])++r by simp]
   exact this
theorem Q3C: ∀(cs:List Cla) (a:List Hm.Met) (s:B3×B3) (i:Nat),Gd a s→((J5 Cp s cs i).1.isSome=true→Ri (a++cs.flatMap (·.methods)))∧((J5 Cp s cs i).1.isSome=false→Gd (a++cs.flatMap (·.methods)) (J5 Cp s cs i).2)
 | [],a,s,i,h=>by simpa [J5] using h
 | c::r,a,s,i,h=>by
  obtain ⟨f,d⟩:=Q3y c.name c.methods a s 0 h
  simp only[J5]
  cases b:(Cp s c).1 with
  | true=>
   simp only[if_true,Option.isSome_some]
   exact ⟨fun _=>(f b).mono (by simp;intro x hx;rcases hx with hx | hx;exact .inl hx;exact .inr (.inl hx)),fun e=>by cases e⟩
  | false=>
   simp only[Bool.false_eq_true,if_false]
   have:=Q3C r (a++c.methods) (Cp s c).2 (i+1) (d b)
   rw[List.flatMap_cons,←List.append_assoc]
   exact this
theorem X3G:Gd [] ([],[]):=⟨by simp,by simp[C5],by simp[C5]⟩
theorem Q8s (l:List Cla) (n:X0):Lp l n=(Oc l n).flatMap (·.methods):=by
 unfold Lp Oc
 induction G6 l n with
 | nil=>rfl
 | cons u r a=>
  rw[List.flatMap_cons,List.filterMap_cons]
  cases b:lk l u with
  | none=>simpa [b] using a
  | some c=>simp only[Option.map_some,Option.getD_some,List.flatMap_cons];rw[a]
end Go.Hm
namespace Go.Emb
open Go.RowKit Go.Hm
variable {P : Program} {w w0 w1 w' w'' : World} {K : Value → World → Prop} {σ σ0 σ1 σ' : Q6}
def It (σ:Q6) (w:World) (b r:Nat) (d:Array MapEntry) (a:Nat) (c:Array Nat):Prop:=σ b=none∧ ∃c0,a≤c0∧w.heap[b]? =some (.mapIter (some r) a c c0)
theorem It.step {b r:Nat} {d:Array MapEntry} {a:Nat} {c:Array Nat} (h:It σ w b r d a c) (k:Stp w σ w' σ'):It σ' w' b r d a c:=by
 obtain ⟨g,c0,i,f⟩:=h
 have e:=(Array.getElem?_eq_some_iff.1 f).1
 exact ⟨(k.old b e).trans g,c0,i,(k.bel.block b e).trans f⟩
theorem X41 {t i g:TypeId} [tm:TM P t i g] {r:Nat} {c:Array MapEntry} {a:Nat} (d:X2 w σ) (e:w.heap[r]? =some (.map c a))
 (h: ∀b w' σ',w.heap.size≤b→Stp w σ w' σ'→It σ' w' b r c a #[]→K (.pointer (some ⟨b,0,none⟩)) w'):rng P t (.map (some r)) w K:=by
 unfold rng
 have f:(getObj r).run P w= .ok (.map c a) w:=by simp[getObj,Sem.run,e]
 rw[X9 (v:= .pointer (some ⟨w.heap.size,0,none⟩)) (w':=w.alloc (.mapIter (some r) a #[] a)) (by
  simp only[Instr.range,Sem.run_bind,run_underlying tm.h,Result.andThen_ok,f,Sem.run_pure]
  simp)]
 exact h _ _ _ (Nat.le_refl _) (Stp.own d _) ⟨d.none (Nat.le_refl _),a,Nat.le_refl _,heap_alloc_new w _⟩
theorem X3K {t:TypeId} {b r:Nat} {es:Array MapEntry} {clock:Nat} {seen:Array Nat} (hi:It σ w b r es clock seen) (hm:w.heap[r]? =some (.map es clock)) (hold: ∀x∈es.toList,x.born<clock)
 (h0:(∀e∈es.toList,e.born∈seen)→K (.tuple #[.bool false]) w)
 (h1: ∀e w',e∈es.toList→e.born∉seen→Kpt (fun k=>k=b) w w'→It σ w' b r es clock (seen.push e.born)→w'.heap[b]? =some (.mapIter (some r) clock (seen.push e.born) clock)→K (.tuple #[.bool true,e.key,e.val]) w'):V1 P (.pointer (some ⟨b,0,none⟩)) false t w K:=by
 obtain ⟨hb,c0,hc,hh⟩:=hi
 unfold V1
 rcases run_next_at (P:=P) w t b r clock c0 seen es clock hh hm hold hc with ⟨hz,hrun⟩ | ⟨e,he,w1,hw1,hrun⟩
 ·rw[X9 hrun]
  refine h0 fun e he=>Classical.byContradiction fun hn=>?_
  have:e∈(leftOf es seen).toList:=by
   unfold leftOf
   simp only[Array.toList_filter,List.mem_filter]
   exact ⟨he,by simpa using hn⟩
  have hl:(leftOf es seen).toList.length=0:=by simpa using hz
  rw[List.eq_nil_of_length_eq_zero hl] at this
  cases this
 ·rw[X9 hrun]
  have he':e∈es.toList∧e.born∉seen:=by
   unfold leftOf at he
   simp only[Array.toList_filter,List.mem_filter] at he
   exact ⟨he.1,by simpa using he.2⟩
  have hh1:w1.heap[b]? =some (.mapIter (some r) clock seen c0):=by rcases hw1 with rfl | rfl<;>exact hh
  obtain ⟨u1,u2⟩:=Q41 (w:=w1) (o:= .mapIter (some r) clock (seen.push e.born) clock) hh1
  refine h1 e _ he'.1 he'.2 ?_ ⟨hb,clock,Nat.le_refl _,u2⟩ u2
  have k1:Kpt (fun k=>k=b) w w1:=by
   rcases hw1 with rfl | rfl
   ·exact Kpt.refl
   ·exact .of_below (Below.refl _ _).drew
  exact k1.trans (Kpt.of_upd u1 rfl)
theorem X3x {b r:Nat} {d:Array MapEntry} {a:Nat} {c:Array Nat} {e:MapEntry} (hh:w.heap[b]? =some (.mapIter (some r) a (c.push e.born) a)) (g:w.heap[r]? =some (.map d a)) (i:e∈d.toList) (f:(d.toList.map (·.born)).Nodup)
 (h:K (.tuple #[e.key,e.val]) w):Q8x P (.pointer (some ⟨b,0,none⟩)) w K:=by
 unfold Q8x
 rw[X9 (run_entry_at w b r a c d a e hh g i f)]
 exact h
end Go.Emb
namespace Go.Proofs.YtjdiakhipmggjaaGreatDoor
open Go.Emb Go.RowKit Go.Kd Go.Hm
variable {w : World} {K : Value → World → Prop} {σ : Q6} {v : Value} {l : List Cla}
theorem T9 (o:Option Nat):decide ((0:Int)≤L7 o)=o.isSome:=by
 cases o with
 | none=>rfl
 | some i=>simp[L7]
theorem Q4j {q:Addr} {s:X0} (b:X2 w σ) (g:Tab σ v l) (d:Z6 σ q [v]) (f:s.length≤U0) (h: ∀w' σ',Stp w σ w' σ'→K (.bool (O6 l s)) w'):Z3 P (.func (.func F.ap) #[] #[.pointer (some q)]) [S s] w K:=Z9 (Rz (by
 unfold Um
 unfold O6 at h
 refine Ja ?_
 by_cases a:s=H8
 ·have e:decide (s=[110,117,108,108])=true:=decide_eq_true a
  simp only[e,decide_eq_true a,↓M2,M2,Mb,reduceIte] at h⊢
  exact h _ _ (Stp.refl b)
 ·have e:decide (s=[110,117,108,108])=false:=decide_eq_false a
  simp only[e,decide_eq_false a,↓M2,M2,Mb,reduceIte] at h⊢
  refine X7 b d rfl ?_
  refine Q0L b g f fun w1 σ1 c=>?_
  (try simp only[↓M2,M2,Mb,reduceIte])
  exact h _ _ c))
theorem Q8F {q p:Addr} {s:X0} (b:X2 w σ) (e:Tab σ v l) (c:Z6 σ q [v]) (f:Z6 σ p [.func (.func F.ap) #[] #[.pointer (some q)]]) (d:s.length≤U0) (h: ∀w' σ',Stp w σ w' σ'→K (.bool (!O6 l s)) w'):Z3 P (.func (.func F.aq) #[] #[.pointer (some p)]) [S s] w K:=Z9 (Sk (by
 unfold Jm
 refine X7 b f rfl ?_
 refine Q4j b e c d fun w1 σ1 a=>?_
 refine Wg ?_
 exact h _ _ a))
theorem Q6Y {c:Cla} {cs:List Value} {pa D:Addr} {b e:Nat} {s:B3×B3} (W:X2 w σ) (O:V0 σ c cs) (t:Qw c) (L:Nm c) (B:Z6 σ pa [.map (some b)]) (u:Z6 σ D [.map (some e)])
 (A:σ b=none) (z:σ e=none) (y:b≠e) (n:H2 (w.heap[b]?) (vals s.1)) (i:H2 (w.heap[e]?) (vals s.2))
 (h: ∀w',Kpt (fun k=>k=b∨k=e) w w'→H2 (w'.heap[b]?) (vals (Cp s c).2.1)∧H2 (w'.heap[e]?) (vals (Cp s c).2.2)→K (.bool (Cp s c).1) w'):
 Z3 P (.func (.func F.b0) #[] #[.pointer (some pa), .pointer (some D)]) [.agg cs.toArray] w K:=Z9 (St (by
 obtain ⟨lv,Y,mv,rfl,g1,g2,Q,g4,Z⟩:=O
 unfold Uf
 refine Y9 W fun q w1 σ1 a H=>?_
 rw[fa]
 refine ld a.sat H rfl ?_
 rw[Qh]
 have p:=n.lt
 have r:=i.lt
 have o:σ1 b=none:=(a.old b p).trans A
 have m:σ1 e=none:=(a.old e r).trans z
 refine Jb (Vj c.name) s (fun s w'=>X2 w' σ1∧H2 (w'.heap[b]?) (vals s.1)∧H2 (w'.heap[e]?) (vals s.2)) (fun k=>k=b∨k=e) (fun _ _ h=>h.1) ⟨a.sat,n.of_below a.bel,i.of_below a.bel⟩ (Q.up a)
  (fun s x cs E K J f g N C V=>Z9 ?_) fun E f g=>?_
 ·refine X4l (s:=s) (d:=c.name) g.1 N (t.2.2.2 x J) (L.2.2 x J) (B.up a) (u.up a) H o m y g.2.1 g.2.2 fun U j X M=>?_
  exact V U (f.trans j) ⟨j.sat g.1 fun k R=>by rcases R with rfl | rfl<;>assumption,X,M⟩
 ·exact h E ((Kpt.of_below a.bel).trans f) g.2))
end Go.Proofs.YtjdiakhipmggjaaGreatDoor

namespace Go.Emb
open Go.RowKit Go.Hm
theorem Stp.nx {D:Nat→Prop} {w w1 f:World} {σ σ1 g:Q6} (a:Stp w σ w1 σ1) (c:Nxt D w1 σ1 f g) (hD: ∀k,D k→w.heap.size≤k):Stp w σ f g:=
 ⟨⟨c.kp.os.trans a.bel.os,c.kp.tape.trans a.bel.tape,c.kp.output.trans a.bel.output,Nat.le_trans a.bel.size c.kp.size,fun k d=>(c.kp.block k (Nat.lt_of_lt_of_le d a.bel.size) fun e=>by have:=hD k e;omega).trans (a.bel.block k d)⟩,
  c.sat,fun b o e=>c.le.le b o (a.le b o e),fun k d=>(c.old k (Nat.lt_of_lt_of_le d a.bel.size)).trans (a.old k d)⟩
end Go.Emb
namespace Go.Hm
open Go.Kd Go.Emb
theorem X2F {d:Array MapEntry} {m:B3} (h:d.toList.map (fun e=>(e.key,e.val))=(vals m).map (fun p=>(S p.1,p.2))):
 (∀e∈d.toList,∃k,e.key=S k∧(C5 m k).isSome=true)∧ ∀k,(C5 m k).isSome=true→ ∃e∈d.toList,e.key=S k:=by
 have b: ∀(m:B3) k,(C5 m k).isSome=true↔k∈m.map (·.1):=by
  intro m
  induction m with
  | nil=>intro k;simp[C5]
  | cons p r i=>
   intro k
   simp only[C5,List.map_cons,List.mem_cons]
   by_cases e:p.1=k
   ·simp[e]
   ·rw[if_neg e,i k]
    constructor
    ·exact .inr
    ·rintro (h | h)
     ·exact absurd h.symm e
     ·exact h
 constructor
 ·intro e f
  have a:(e.key,e.val)∈d.toList.map (fun e=>(e.key,e.val)):=List.mem_map.2 ⟨e,f,rfl⟩
  rw[h] at a
  obtain ⟨p,n,c⟩:=List.mem_map.1 a
  obtain ⟨q,g,rfl⟩:=List.mem_map.1 n
  simp only[Prod.mk.injEq] at c
  exact ⟨q.1,c.1.symm,(b m _).2 (List.mem_map.2 ⟨q,g,rfl⟩)⟩
 ·intro k j
  obtain ⟨q,g,rfl⟩:=List.mem_map.1 ((b m k).1 j)
  have a:(S q.1,S q.2)∈(vals m).map (fun p=>(S p.1,p.2)):=List.mem_map.2 ⟨(q.1,S q.2),List.mem_map.2 ⟨q,g,rfl⟩,rfl⟩
  rw[←h] at a
  obtain ⟨e,f,c⟩:=List.mem_map.1 a
  simp only[Prod.mk.injEq] at c
  exact ⟨e,f,c.1⟩
def Hk (l:List Cla) (m:Hm.Met):Bool:=(!O6 l m.result&& !decide (m.result=[]))||m.params.any fun s=> !O6 l s
end Go.Hm
namespace Go.Proofs.YtjdiakhipmggjaaGreatDoor
open Go.Emb Go.RowKit Go.Kd Go.Hm
variable {w : World} {K : Value → World → Prop} {σ : Q6} {v : Value} {l : List Cla}
set_option maxHeartbeats 1000000 in
theorem Q9L {c:Cla} {cs:List Value} (hs:X2 w σ) (ht:Tab σ v l) (ok:Ok l) (hc:V0 σ c cs) (fr:Qw c) (hn:Nm c) (h: ∀w' W,Stp w σ w' W→K (I (V7 l c)) w'):Q1 P F.b6 [v, .agg cs.toArray] w K:=Fw (by
 obtain ⟨lv,fv,mv,rfl,g1,g2,g3,g4,g5⟩:=hc
 unfold Vp
 obtain ⟨a,_,_,_,hv,_⟩:=ht.ex
 unfold V7 at h
 refine U6 hs (by rw[hv];rfl) fun q2 w1 σ1 az y=>?_
 refine Y9 az.sat fun q3 w2 σ2 aq z=>?_
 have ei:=az.trans aq
 have y:=y.up aq
 have g1:=(g1.up az).up aq
 have g2:=(g2.up az).up aq
 have g3:=(g3.up az).up aq
 have a8:=g2.max
 have b8:=g3.max
 rw[fa]
 refine ld aq.sat z rfl ?_
 refine Q8 g2 ?_
 refine U3 c.fields.length (fun n w'=> ∃W,Stp w σ w' W∧SLe σ2 W∧((c.fields.take n).any fun f=>(Ur l c.super f.name).isSome)=false) ⟨σ2,ei,SLe.refl _,by simp⟩ fun n w3 d a6 ae=>?_
 obtain ⟨σ3,bc,ca,H⟩:=ae
 refine Z2 ?_
 refine Q7 (fun hh=>?_) (fun hh=>?_)
 ·have g:n<c.fields.length:=by simpa using hh
  refine Q9r (g2.lift ca) g fun p aw aa=>?_
  refine Y5 bc.sat aw rfl ?_
  refine Y7 bc.sat (by rfl) rfl (Rep.one aa) fun q4 w4 σ4 V d3=>?_
  have ac:SLe σ2 σ4:=ca.more ⟨V.le⟩
  have a1:=bc.trans V
  refine X7 V.sat (y.lift ac) rfl ?_
  rw[fa]
  refine ld V.sat (z.lift ac) rfl ?_
  rw[fa]
  refine ld V.sat d3 rfl ?_
  refine X2t V.sat (ht.lift ⟨a1.le⟩) ok.acy ok.len ok.sm fun w5 σ5 cd=>?_
  refine P3 ?_
  rw[T9]
  refine Q7 (fun am=>?_) (fun am=>?_)
  ·have:Yo l c=true:=S6 g am
   rw[if_pos this] at h
   exact h _ _ (a1.trans cd)
  ·refine O8 ?_
   refine Y6 a8 g ⟨σ5,a1.trans cd,ac.more ⟨cd.le⟩,?_⟩
   rw[L4 g,H,am];rfl
 have g: ¬n<c.fields.length:=by simpa using hh
 rw[E1 g] at H
 have d2:Yo l c=false:=H
 rw[if_neg (by rw[d2];simp)] at h
 rw[Qh]
 clear H hh g a6
 refine U8 bc.sat (by rfl) rfl rfl fun q7 w4 σ4 V bd=>?_
 have ac:SLe σ2 σ4:=ca.more ⟨V.le⟩
 have a1:=bc.trans V
 have y:=y.lift ac
 have z:=z.lift ac
 have g1:=g1.lift ac
 have g2:=g2.lift ac
 have g3:=g3.lift ac
 rw[fa]
 refine ld V.sat z rfl ?_
 refine Q8 g2 ?_
 refine U3 c.fields.length (fun n w'=> ∃W,Stp w σ w' W∧SLe σ4 W∧((c.fields.take n).any fun f=> !O6 l f.kind)=false) ⟨σ4,a1,SLe.refl _,by simp⟩ fun n w5 d a6 ae=>?_
 obtain ⟨σ5,a5,ar,H⟩:=ae
 refine Z2 ?_
 refine Q7 (fun hh=>?_) (fun hh=>?_)
 ·have g:n<c.fields.length:=by simpa using hh
  refine Q9r (g2.lift ar) g fun p aw aa=>?_
  refine Y5 a5.sat aw rfl ?_
  refine Y7 a5.sat (by rfl) rfl (Rep.one aa) fun q9 w6 σ6 ba ej=>?_
  have ah:SLe σ4 σ6:=ar.more ⟨ba.le⟩
  have U:=a5.trans ba
  refine X7 ba.sat (bd.lift ah) rfl ?_
  rw[fa]
  refine ld ba.sat ej rfl ?_
  refine Q4j ba.sat (ht.lift ⟨U.le⟩) (y.lift ah) aa.2.2 fun w7 σ7 E=>?_
  refine Wg ?_
  refine Q7 (fun am=>?_) (fun am=>?_)
  ·have:B4 l c=true:=by
    unfold B4
    rw[S6 (p:=fun f:Fld=> !O6 l f.kind) g am];rfl
   rw[if_pos this] at h
   exact h _ _ (U.trans E)
  ·refine O8 ?_
   refine Y6 a8 g ⟨σ7,U.trans E,ah.more ⟨E.le⟩,?_⟩
   rw[L4 g,H,am];rfl
 have g: ¬n<c.fields.length:=by simpa using hh
 rw[E1 g] at H
 have ea:=H
 clear H hh g a6
 have y:=y.lift ar
 have z:=z.lift ar
 have bd:=bd.lift ar
 have g3:=g3.lift ar
 rw[fa]
 refine ld a5.sat z rfl ?_
 refine Q8 g3 ?_
 refine U3 c.methods.length (fun n w'=> ∃W,Stp w σ w' W∧SLe σ5 W∧((c.methods.take n).any (Hk l))=false) ⟨σ5,a5,SLe.refl _,by simp⟩ fun n w6 d a6 ae=>?_
 obtain ⟨σ6,U,ah,H⟩:=ae
 refine Z2 ?_
 refine Q7 (fun hh=>?_) (fun hh=>?_)
 ·have g:n<c.methods.length:=by simpa using hh
  refine M9 (g3.lift ah) g fun p cells aw de aa=>?_
  refine Y5 U.sat aw de ?_
  refine Y7 U.sat (by rfl) de (Rep.one aa) fun ft w7 σ7 E X=>?_
  obtain ⟨pv,cv,e9,rfl,m1,m2,m3,m4,m5,m6⟩:=aa
  have ci:SLe σ5 σ7:=ah.more ⟨E.le⟩
  have cy:=U.trans E
  have C:Hk l c.methods[n]=true→ ∀{w8:World} {σ8:Q6},Stp w σ w8 σ8→K (.int .i64 65) w8:=fun hb w8 σ8 q=>by
   have:B4 l c=true:=by
    unfold B4
    have:=S6 (p:=Hk l) g hb
    unfold Hk at this
    rw[this,Bool.or_true]
   rw[if_pos this] at h
   exact h _ _ q
  have A:Hk l c.methods[n]=false→ ∀{w8:World} {σ8:Q6},Stp w σ w8 σ8→SLe σ5 σ8→UpI c.methods.length (fun n w'=> ∃W,Stp w σ w' W∧SLe σ5 W∧((c.methods.take n).any (Hk l))=false) (.int .i64 (IntKind.i64.wrap (n+1))) w8∧UpM c.methods.length (.int .i64 (IntKind.i64.wrap (n+1)))<UpM c.methods.length (I n):=fun hb w8 σ8 q Z=>
   Y6 b8 g ⟨σ8,q,Z,by rw[L4 g,H,hb];rfl⟩
  unfold Hk at C A
  refine X7 E.sat (bd.lift ci) rfl ?_
  rw[fa]
  refine ld E.sat X rfl ?_
  refine Q4j E.sat (ht.lift ⟨cy.le⟩) (y.lift ci) m5 fun w8 σ8 M=>?_
  have q:=cy.trans M
  have Z:SLe σ5 σ8:=ci.more ⟨M.le⟩
  have X:=X.up M
  have m1:=(m1.up E).up M
  -- what the parameters come to
  have b3: ∀{w8:World} {σ8:Q6} {K:Value→World→Prop},Stp w σ w8 σ8→SLe σ5 σ8→Sl 1 U9 σ8 pv c.methods[n].params→(∀w' W,Stp w8 σ8 w' W→K (.bool (c.methods[n].params.any fun s=> !O6 l s)) w')→Q1 P F.c [pv, .func (.func F.aq) #[] #[.pointer (some q7)]] w8 K:=by
   intro w8 σ8 K q Z m1 hK
   refine P5 (fun s=> !O6 l s) q.sat m1 (fun x w9 K _ d1 hx d5=>Q8F d1 (ht.lift ⟨q.le⟩) (y.lift Z) (bd.lift Z) hx fun w' W hk=>d5 w' hk.bel) fun w9 hb=>hK w9 σ8 (Stp.of_below q.sat hb)
  cases e1:O6 l c.methods[n].result with
  | true=>
   rw[e1] at C A
   simp only[↓M2,M2,Mb,reduceIte]
   refine ld M.sat X rfl ?_
   (try simp only[↓M2,M2,Mb,reduceIte])
   refine b3 q Z m1 fun w9 σ9 J=>?_
   cases e2:c.methods[n].params.any fun s=> !O6 l s with
   | true=>
    rw[e2] at C
    simp only[↓M2,M2,Mb,reduceIte]
    exact C rfl (q.trans J)
   | false=>
    rw[e2] at A
    simp only[↓M2,M2,Mb,reduceIte]
    exact A rfl (q.trans J) (Z.more ⟨J.le⟩)
  | false=>
   rw[e1] at C A
   simp only[↓M2,M2,Mb,reduceIte]
   refine ld M.sat X rfl ?_
   simp only[↓M2,M2,Mb,reduceIte]
   by_cases e3:c.methods[n].result=[]
   ·rw[decide_eq_true e3] at C A
    simp only[decide_eq_true e3,↓M2,M2,Mb,reduceIte]
    refine ld M.sat X rfl ?_
    (try simp only[↓M2,M2,Mb,reduceIte])
    refine b3 q Z m1 fun w9 σ9 J=>?_
    cases e2:c.methods[n].params.any fun s=> !O6 l s with
    | true=>
     rw[e2] at C
     simp only[↓M2,M2,Mb,reduceIte]
     exact C rfl (q.trans J)
    | false=>
     rw[e2] at A
     simp only[↓M2,M2,Mb,reduceIte]
     exact A rfl (q.trans J) (Z.more ⟨J.le⟩)
   ·rw[decide_eq_false e3] at C
    simp only[decide_eq_false e3,↓M2,M2,Mb,reduceIte]
    exact C rfl q
 have g: ¬n<c.methods.length:=by simpa using hh
 rw[E1 g] at H
 have b5:B4 l c=false:=by
  unfold B4
  unfold Hk at H
  rw[ea,H];rfl
 rw[if_neg (by rw[b5];simp)] at h
 clear H hh g a6
 have y:=y.lift ah
 have z:=z.lift ah
 refine Q3E U.sat fun r1 w7 aa E t=>?_
 refine Q3E E.sat fun N w8 d4 M u=>?_
 have aw:=t.lt
 have t:=t.up M
 have eo:r1≠N:=by omega
 have q:=(U.trans E).trans M
 have et:w.heap.size≤r1:=Nat.le_trans U.bel.size aa
 have ew:w.heap.size≤N:=N0 d4 (U.trans E)
 refine M8 M.sat fun b1 w9 σ9 ef J D=>?_
 refine M8 J.sat fun b2 dy fj ed af B=>?_
 have e0:=D.lt
 have eq:=t.lt
 have ep:=u.lt
 have t:=(t.up J).up af
 have u:=(u.up J).up af
 have D:=D.up af
 have dm:=(q.trans J).trans af
 have bs:w.heap.size≤b1:=N0 ef q
 have br:w.heap.size≤b2:=N0 ed (q.trans J)
 refine st0 D (by simp[Value.cells]) rfl rfl fun c3 cl D=>?_
 have di:=cl.stp dm bs D.1
 have B:=B.upd cl (by omega)
 have cz:Kpt (fun k=>k=b1) dy c3:=Kpt.of_upd cl rfl
 have t:=t.kp cz (by omega)
 have u:=u.kp cz (by omega)
 refine st0 B (by simp[Value.cells]) rfl rfl fun av b6 B=>?_
 have db:=b6.stp di br B.1
 have D:=D.upd b6 (by omega)
 have dp:Kpt (fun k=>k=b2) c3 av:=Kpt.of_upd b6 rfl
 have t:=t.kp dp (by omega)
 have u:=u.kp dp (by omega)
 obtain ⟨ck,dl,ax,dh,al⟩:=D.keep db bs
 have B:Y3 ck av b2 _:=⟨(al b2 (by omega)).trans B.1,B.2⟩
 have t:C4 ck av r1 []:=⟨(al r1 (by omega)).trans t.1,t.2⟩
 have u:C4 ck av N []:=⟨(al N (by omega)).trans u.1,u.2⟩
 obtain ⟨be,aj,bl,bw,a3⟩:=B.keep dl br
 have t:C4 be av r1 []:=⟨(a3 r1 (by omega)).trans t.1,t.2⟩
 have u:C4 be av N []:=⟨(a3 N (by omega)).trans u.1,u.2⟩
 have ax:=ax.le bw
 have ax:Z6 be ⟨b1,0,none⟩ [.map (some r1)]:=ax
 have bl:Z6 be ⟨b2,0,none⟩ [.map (some N)]:=bl
 have da:SLe σ6 be:=⟨fun b o e=>bw b o (dh b o (af.le b o (J.le b o (M.le b o (E.le b o e)))))⟩
 clear D B
 have y:=y.lift da
 have z:=z.lift da
 refine X7 aj.sat y rfl ?_
 rw[fa]
 refine ld aj.sat z rfl ?_
 rw[Qh]
 refine Q7L Cp ([],[]) (fun s w'=>H2 (w'.heap[r1]?) (vals s.1)∧H2 (w'.heap[N]?) (vals s.2)) (fun k=>k=r1∨k=N) aj.sat (ht.lift ⟨aj.le⟩) ok.len ok.sm g4
  (fun k hk=>by rcases hk with rfl | rfl;exact ⟨t.lt,t.1⟩;exact ⟨u.lt,u.1⟩) (fun s wa wb hi hk=>by rw[hk r1 (.inl rfl),hk N (.inr rfl)];exact hi) ⟨t.2,u.2⟩
  (fun s d ds wa σa K le d0 dq hi hr dx hK=>?_) fun ff ch ai bq=>?_
 ·have dc:=(V4 dx).2.1
  exact Q6Y d0 hr (ok.sm d dc) (ok.nm d dc) (ax.lift le) (bl.lift le) (dq r1 (.inl rfl)) (dq N (.inr rfl)) eo hi.1 hi.2 hK
 have Q:=aj.nx ai fun k hk=>by rcases hk with rfl | rfl<;>assumption
 obtain ⟨c1,dg⟩:=Q3C (Oc l c.name) [] ([],[]) 0 X3G
 rw[List.nil_append,←Q8s] at c1 dg
 cases c7:(J5 Cp ([],[]) (Oc l c.name) 0).1.isSome with
 | true=>
  have:Zp l c=true:=(Q4z _).2 (c1 c7)
  rw[if_pos this] at h
  refine J7 ?_
  exact h _ _ Q
 | false=>
  have bg:=dg c7
  have:Zp l c=false:=by
   cases e:Zp l c with
   | false=>rfl
   | true=>exact absurd ((Q4z _).1 e) bg.no
  rw[if_neg (by rw[this];simp)] at h
  refine J0 ?_
  have y:=y.lift ai.le
  have z:=z.lift ai.le
  rw[fa]
  refine ld Q.sat z rfl ?_
  unfold Dr at h
  cases dj:c.abs with
  | true=>
   rw[dj] at h
   refine J7 ?_
   exact h _ _ Q
  | false=>
   rw[dj] at h
   simp only[Bool.not_false,Bool.true_and] at h
   refine J0 ?_
   refine X7 Q.sat (bl.lift ai.le) rfl ?_
   generalize fe:(J5 Cp ([],[]) (Oc l c.name) 0).2=st at bg bq
   obtain ⟨es,ak,e1,e2,e3,e4⟩:=bq.2
   have cu:ch N=none:=(ai.old N u.lt).trans u.1
   obtain ⟨cx,c5⟩:=X2F e2
   refine X41 (tm:=inferInstance) Q.sat e1 fun ib fk d8 eb ap ec=>?_
   have bu:=(Array.getElem?_eq_some_iff.1 e1).1
   refine Pr (fun d _ w'=> ∃(W:Q6) (O:Array Nat),d=es.toList.countP (fun e=> !O.contains e.born)∧Stp w σ w' W∧SLe ch W∧W N=none∧w'.heap[N]? =some (.map es ak)∧It W w' ib N es ak O∧ ∀e∈es.toList,e.born∈O→ ∀k,e.key=S k→Zi l c.name k=false) _
    ⟨d8, #[],rfl,Q.trans ap,⟨ap.le⟩,(ap.old N bu).trans cu,(ap.bel.block N bu).trans e1,ec,by simp⟩ ?_
   rintro cj d x dd fn ⟨c0,O,rfl,bv,ao,dn,bb,ay,a7⟩ d6
   have cq:w.heap.size≤ib:=Nat.le_trans Q.bel.size eb
   refine X3K ay bb e4 (fun c9=>?_) fun e df bh a0 bp cc c2=>?_
   ·refine Z5 (vs:=[_]) rfl ?_
    refine J0 ?_
    have:((Lp l c.name).any fun m=>Zi l c.name m.name)=false:=by
     rw[List.any_eq_false]
     intro m hm
     obtain ⟨e,he,bm⟩:=c5 m.name ((bg.c m.name).2 ⟨m,hm,rfl⟩)
     rw[a7 e he (c9 e he) _ bm];simp
    rw[this] at h
    exact h _ _ bv
   ·refine Z5 (vs:=[_,_,_]) rfl ?_
    refine J7 ?_
    have an:df.heap[N]? =some (.map es ak):=by
     rw[bp.block N (Array.getElem?_eq_some_iff.1 bb).1 (by omega)];exact bb
    have b4:=ay.1
    have ag:Stp w σ df c0:=bv.kp bp fun k hk=>by rw[hk];exact ⟨cq,b4⟩
    refine X3x c2 an bh (e3.imp fun cf=>Nat.ne_of_lt cf) ?_
    refine Z5 (vs:=[_,_]) rfl ?_
    obtain ⟨k,bm,em⟩:=cx e bh
    have e7:SLe ch c0:=ao
    refine X7 ag.sat (y.lift ao) rfl ?_
    rw[fa]
    refine ld ag.sat (z.lift ao) rfl ?_
    rw[bm]
    refine X0K ag.sat (ht.lift ⟨ag.le⟩) ok fun pv cv hv fz fs L cw=>?_
    refine Z5 (vs:=[_,_,_]) rfl ?_
    refine Z5 (vs:=[_,_,_]) rfl ?_
    refine Z5 (vs:=[_,_,_]) rfl ?_
    refine Y7 L.sat (by rfl) rfl (Rep.one cw) fun fx el ee Y b0=>?_
    have a2:=(ag.trans L).trans Y
    have R:Zi l c.name k=true→ ∀{w8:World} {σ8:Q6},Stp w σ w8 σ8→K (.int .i64 67) w8:=fun hb w8 σ8 q=>by
     obtain ⟨m,hm,b5⟩:=(bg.c k).1 em
     have:((Lp l c.name).any fun m=>Zi l c.name m.name)=true:=List.any_eq_true.2 ⟨m,hm,by rw[b5];exact hb⟩
     rw[this] at h
     exact h _ _ q
    have b9:Zi l c.name k=false→cj () el:=fun hb=>by
     have c8: ∀e':MapEntry,e'.born∈O.push e.born↔e'.born∈O∨e'.born=e.born:=fun e'=>by simp
     refine d6 _ _ _ ?_ ⟨ee,O.push e.born,rfl,a2,ao.more ⟨fun b o h=>Y.le _ _ (L.le _ _ h)⟩,?_,?_,(cc.step L).step Y,fun e' cr dz k' ce=>?_⟩
     ·refine Q4P (fun x _ hx=>?_) ⟨e,bh,?_,?_⟩
      ·simp only[Bool.not_eq_true',Array.contains_push,Bool.or_eq_false_iff] at hx⊢
       exact hx.1
      ·simpa using a0
      ·simp
     ·have a4:=(Array.getElem?_eq_some_iff.1 an).1
      rw[Y.old N (Nat.lt_of_lt_of_le a4 L.bel.size),L.old N a4];exact dn
     ·have a4:=(Array.getElem?_eq_some_iff.1 an).1
      rw[Y.bel.block N (Nat.lt_of_lt_of_le a4 L.bel.size),L.bel.block N a4];exact an
     ·rcases (c8 e').1 dz with h1 | h1
      ·exact a7 e' cr h1 k' ce
      ·have:e'=e:=by
        have eg:(es.toList.map (·.born)).Nodup:=e3.imp fun cf=>Nat.ne_of_lt cf
        obtain ⟨i,hi,rfl⟩:=List.getElem_of_mem cr
        obtain ⟨j,hj,rfl⟩:=List.getElem_of_mem bh
        have h5:(es.toList.map (·.born))[i]'(by simpa using hi)=(es.toList.map (·.born))[j]'(by simpa using hj):=by simpa using h1
        have:=(List.getElem_inj eg).1 h5
        subst this;rfl
       subst this
       rw[bm] at ce
       have:k=k':=by
        have:=ce
        simp at this
        exact this
       rw[←this];exact hb
    unfold Zi at R b9
    cases ct:V3 l c.name k with
    | none=>
     rw[ct] at R
     simp only[↓M2,M2,Mb,reduceIte,Option.isSome_none]
     exact R rfl a2
    | some r=>
     rw[ct] at R b9 b0
     simp only[↓M2,M2,Mb,reduceIte,Option.isSome_some]
     refine ld Y.sat b0 rfl ?_
     (try simp only[↓M2,M2,Mb,reduceIte])
     cases bo:r.2.abs with
     | true=>
      exact Q7 (fun _=>R bo a2) (fun e=>absurd (bo.symm.trans e) (by simp))
     | false=>
      exact Q7 (fun e=>absurd (bo.symm.trans e) (by simp)) (fun _=>b9 bo))
end Go.Proofs.YtjdiakhipmggjaaGreatDoor

namespace Go.Emb
open Go.RowKit Go.Hm
variable {P : Program} {w w0 w1 w' w'' : World} {K : Value → World → Prop} {σ σ0 σ1 σ' : Q6}
theorem X3R {t e:TypeId} {n a:Nat} {z:Value} [ta:TA P t n e] [tz:TZ P e 1 a z] [tg:TG P e false] {cs:List Value} {i:Nat} {v:Value} (d:i<n) (b:cs[i]? =some v) (h:K v w):C1 P t (.agg cs.toArray) (I i) w K:=by
 unfold C1
 have c:(0:Int)≤i∧(i:Int)<n:=⟨by omega,by omega⟩
 rw[X9 (v:=v) (w':=w) (by
  simp only[Instr.index,asIntOf,Sem.run_bind,Sem.run_pure,Result.andThen_ok,run_underlying ta.h,c,and_self,if_true,L5 tz,part,Xq tg]
  simp[b])]
 exact h
theorem Q8z {α:Type} {R:Q6→α→List Value→Prop} {B sz:Nat} {e:TypeId} {v:Value} {xs:List α} {a t:TypeId} {cs:List Bool} [ts:TS P a e] (h:V6 B e sz R σ w v xs) (b:K (I xs.length) w):X3 P .len [a] t cs [v] w K:=Q1F (J9.of_acc h) b
theorem Us {α:Type} {R:Q6→α→List Value→Prop} {B sz:Nat} {e:TypeId} {v:Value} {xs:List α} (h:V6 B e sz R σ w v xs):v.cells= #[v]∧v.oneCell'=true:=by
 obtain ⟨cells,a,_⟩:=h
 rcases a.2 with ⟨rfl,_⟩ | ⟨g,b,c,rfl,_⟩<;>exact ⟨rfl,rfl⟩
end Go.Emb
namespace Go.Proofs.YtjdiakhipmggjaaGreatDoor
open Go.Emb Go.RowKit Go.Kd Go.Hm
variable {w : World} {K : Value → World → Prop} {σ : Q6} {v : Value} {l : List Cla}
theorem X2u (C:X2 w σ) (B:Glb σ) (h: ∀r w' σ',Stp w σ w' σ'→V6 w.heap.size T.b 8 V0 σ' w' r I1→K r w'):Q1 P F.cD [] w K:=Q5t (by
 unfold Q1p
 refine W3 (cells:= #[S U1,S [], .slice none 0 0, .bool false, .bool false, .bool false, .slice none 0 0, .slice none 0 0]) (by kernel_rfl) ?_
 refine W3 (cells:= #[S Qk,S D2, .bool false]) (by kernel_rfl) ?_
 refine T4 (R:=R9) (sz:=3) C [.agg #[S Qk,S D2, .bool false]] [⟨Qk,D2,false⟩] rfl rfl (by simp;rfl) rfl ⟨⟨rfl,by decide,by decide⟩,trivial⟩ fun H w1 σ1 e i=>?_
 have o:=i
 obtain ⟨y,b,rfl,_⟩:=o
 refine W3 (cells:= #[S L6,S U1, .slice none 0 0, .bool false, .bool false, .bool false, .slice y 1 b, .slice none 0 0]) (by kernel_rfl) ?_
 refine Zf (R:=V0) (sz:=8) e [.agg #[S U1,S [], .slice none 0 0, .bool false, .bool false, .bool false, .slice none 0 0, .slice none 0 0], .agg #[S L6,S U1, .slice none 0 0, .bool false, .bool false, .bool false, .slice y 1 b, .slice none 0 0]]
  [⟨U1,[],[],false,false,false,[],[]⟩,⟨L6,U1,[],false,false,false,[⟨Qk,D2,false⟩],[]⟩] rfl rfl (by simp;exact ⟨rfl,rfl⟩) rfl
  ⟨⟨_,_,_,rfl,Sl.nil,Sl.nil,Sl.nil,by decide,by decide⟩,⟨_,_,_,rfl,Sl.nil,i,Sl.nil,by decide,by decide⟩,trivial⟩ fun L O g p _=>?_
 have q:=B.lift ⟨e.le⟩
 refine Y5 (cs:=U5.map S) g.sat q.flt rfl ?_
 refine H0 6 (fun n a w'=> ∃σ',Stp w σ w' σ'∧V6 w.heap.size T.b 8 V0 σ' w' a ([⟨U1,[],[],false,false,false,[],[]⟩,⟨L6,U1,[],false,false,false,[⟨Qk,D2,false⟩],[]⟩]++(U5.take n).map fun n=>⟨n,L6,[],false,false,true,[],[]⟩)) ⟨σ1,e.trans g,p⟩ fun n a N d E k=>?_
 obtain ⟨M,m,c⟩:=k
 have D:U5.length=6:=rfl
 refine Z2 ?_
 refine Q7 (fun hh=>?_) (fun hh=>?_)
 ·have f:n<6:=by have:=of_decide_eq_true hh;omega
  refine X3R (v:=S (U5[n]'(by omega))) f (by rw[List.getElem?_map,List.getElem?_eq_getElem (by omega)];rfl) ?_
  refine W3 (cells:= #[S (U5[n]'(by omega)),S L6, .slice none 0 0, .bool false, .bool false, .bool true, .slice none 0 0, .slice none 0 0]) (by kernel_rfl) ?_
  have j:(U5[n]'(by omega)).length≤10:=by
   have: ∀x∈U5,x.length≤10:=by decide
   exact this _ (List.getElem_mem _)
  refine Jo (x:=⟨U5[n]'(by omega),L6,[],false,false,true,[],[]⟩) m c ⟨_,_,_,rfl,Sl.nil,Sl.nil,Sl.nil,Nat.le_trans j (by decide),(by decide:L6.length≤U0)⟩ rfl rfl rfl (by simp;omega) (by simp;omega) fun s r J z A u t _=>?_
  refine O8 ?_
  refine J6 (by omega) f ⟨z,u,?_⟩
  rw[List.take_add_one,List.getElem?_eq_getElem (by omega),List.map_append,←List.append_assoc]
  exact t
 ·have f: ¬n<6:=by have:=of_decide_eq_false hh;omega
  rw[List.take_of_length_le (by omega)] at c
  exact h _ _ _ m c)
end Go.Proofs.YtjdiakhipmggjaaGreatDoor

namespace Go.Hm
open Go.Kd
def D0 {α:Type} (f:α→Int):List α→Nat→Option (Nat×Int)
 | [],_=>none
 | x::r,i=>if f x=0 then D0 f r (i+1) else some (i,f x)
theorem P7 {α:Type} {f:α→Int}: ∀{l:List α} {i:Nat},D0 f l i=none→ ∀x∈l,f x=0
 | [],_,_=>by simp
 | x::r,i,h=>by
  simp only[D0] at h
  split at h
  ·rename_i a
   intro y hy
   rcases List.mem_cons.1 hy with rfl | hy
   ·exact a
   ·exact P7 h y hy
  ·cases h
def Si (a:List Cla):Option Nat:=(List.range a.length).find? fun i=>(Z1 (a.take i) (Y1 a i)).isSome
def Q4 (l:List Cla):List Cla:=I1++l
def Sa (a:Cla→Int) (l:List Cla):Option (Int×Int):=match D0 a l 0 with
 | some (i,e)=>some (i,e)
 | none=>match Si (Q4 l) with
  | some i=>some ((i:Int)-8,60)
  | none=>match D0 (fun c=>(D1 (Q4 l) c:Int)) l 0 with
   | some (i,e)=>some (i,e)
   | none=>match l.findIdx? (T0 (Q4 l)) with
    | some i=>some (i,63)
    | none=>match (W0 (Q4 l) 8).find? fun j=> !decide (V7 (Q4 l) ((Q4 l).getD j Cla.zero)=0) with
     | some j=>some ((j:Int)-8,V7 (Q4 l) ((Q4 l).getD j Cla.zero))
     | none=>none
theorem Q5V {s:X0} (h:name s=true):s.length≤32:=by
 cases s with
 | nil=>simp
 | cons c r=>simp only[name,Bool.and_eq_true,decide_eq_true_eq] at h;exact h.1.1
theorem X0L {s:X0} (h:M7 s=true):s.length≤32:=Q5V (Np (by rw[h,Bool.or_true]))
theorem Q8D {s:X0} (h:D7 s=true):s.length≤32:=by
 cases s with
 | nil=>simp
 | cons c r=>simp only[D7,Bool.and_eq_true] at h;exact Q5V h.1
theorem Kc {a:List Cla} (h:Si a=none):T7 a:=by
 unfold Si at h
 rw[List.find?_eq_none] at h
 unfold T7
 rw[List.nodup_iff_pairwise_ne,List.pairwise_iff_getElem]
 intro i j g b f e
 simp only[List.length_map] at g b
 have:=h j (by simp;exact b)
 apply this
 simp only[List.getElem_map] at e
 cases k:Z1 (a.take j) (Y1 a j) with
 | some _=>rfl
 | none=>
  have c:=List.findIdx?_eq_none_iff.1 k a[i] (List.mem_take_iff_getElem.2 ⟨i,by omega,rfl⟩)
  have d:Y1 a j=a[j].name:=by unfold Y1;rw[List.getD_eq_getElem?_getD,List.getElem?_eq_getElem b];rfl
  rw[d] at c
  simp[e] at c
theorem Jp: ∀c∈I1,Qw c∧Nm c∧c.like=[]:=by
 have h: ∀c∈I1,(c.like=[]∧c.methods=[]∧c.fields.length≤1∧c.name.length≤100∧ ∀f∈c.fields,f.name.length≤100∧f.kind.length≤100):=by decide
 intro c g
 obtain ⟨b,a,i,d,e⟩:=h c g
 refine ⟨⟨by rw[b];simp,by omega,by rw[a];simp,by rw[a];simp⟩,⟨d,e,by rw[a];simp⟩,b⟩
theorem X0A: ∀c∈I1,(c.name=U1∧U4 c=[[]])∨(c.name=L6∧U4 c=[U1])∨(c.name∈U5∧U4 c=[L6]):=by decide
theorem Q6a {l:List Cla} (q:T7 (Q4 l)) (t: ∀c∈l,c.name≠[]) (y: ∀c∈l,T0 (Q4 l) c=false):Jg (Q4 l):=by
 have k:lk (Q4 l) []=none:=by
  cases h:lk (Q4 l) [] with
  | none=>rfl
  | some c=>
   obtain ⟨e,hm,_⟩:=V4 h
   rcases List.mem_append.1 hm with hm | hm
   ·have: ∀c∈I1,c.name≠[]:=by decide
    exact absurd e (this c hm)
   ·exact absurd e (t c hm)
 have j:lk (Q4 l) U1=some ⟨U1,[],[],false,false,false,[],[]⟩:=q.lk (c:=⟨U1,[],[],false,false,false,[],[]⟩) (List.mem_append_left _ (by decide))
 have i:lk (Q4 l) L6=some ⟨L6,U1,[],false,false,false,[⟨Qk,D2,false⟩],[]⟩:=q.lk (c:=⟨L6,U1,[],false,false,false,[⟨Qk,D2,false⟩],[]⟩) (List.mem_append_left _ (by decide))
 have o: ∀b,¬Reach (lk (Q4 l)) [] b:=fun b h=>by obtain ⟨c,d⟩:=h.left;rw[k] at d;cases d
 have p: ∀b,Reach (lk (Q4 l)) U1 b→b=U1:=by
  intro b h
  cases h with
  | refl=>rfl
  | step d f g=>
   rw[j] at d;cases d
   simp[U4] at f;subst f
   exact absurd g (o b)
 have v: ∀b,Reach (lk (Q4 l)) L6 b→b=L6∨b=U1:=by
  intro b h
  cases h with
  | refl=>exact .inl rfl
  | step d f g=>
   rw[i] at d;cases d
   simp[U4] at f;subst f
   exact .inr (p b g)
 rintro a ⟨c,d,u,f,g⟩
 obtain ⟨e,hm,_⟩:=V4 d
 rcases List.mem_append.1 hm with hm | hm
 ·rcases X0A c hm with ⟨m,n⟩ | ⟨m,n⟩ | ⟨m,n⟩<;>rw[n] at f<;>simp at f<;>subst f
  ·exact o _ g
  ·have:=p _ g
   rw[←e,m] at this
   exact absurd this (by decide)
  ·have z: ∀x∈U5,x≠L6∧x≠U1:=by decide
   obtain ⟨r,s⟩:=z _ m
   rw[←e] at g
   rcases v _ g with h | h
   ·exact r h
   ·exact s h
 ·have:=y c hm
  unfold T0 at this
  have w:=List.any_eq_false.1 this u f
  apply w
  rw[List.contains_iff_mem,Uv,e];exact g
end Go.Hm
namespace Go.Proofs.YtjdiakhipmggjaaGreatDoor
open Go.Emb Go.RowKit Go.Kd Go.Hm
theorem Gx {s:X0} (h:right s=true):s.length≤38:=by
 simp only[right,Bool.and_eq_true,decide_eq_true_eq] at h
 have e:=Q1M s
 have:(base s).1.length≤32:=by
  have d:=h.2
  have b:=Np d
  cases a:(base s).1 with
  | nil=>simp
  | cons c r=>
   rw[a] at b
   simp only[name,Bool.and_eq_true,decide_eq_true_eq] at b
   exact b.1.1
 omega
theorem Fh {c:Cla} (h:D6 c=0):Qw c∧Nm c∧c.name≠[]:=by
 unfold D6 at h
 split at h
 ·cases h
 ·rename_i b
  split at h
  ·rename_i g
   simp only[Zx,Bool.or_eq_true,decide_eq_true_eq,not_or,List.any_eq_true,not_exists,not_and] at b
   obtain ⟨⟨⟨o,v⟩,A⟩,s⟩:=b
   simp only[Mu,Bool.and_eq_true] at g
   obtain ⟨⟨⟨⟨⟨⟨⟨⟨n,u⟩,z⟩,t⟩,w⟩,B⟩,y⟩,r⟩,k⟩:=g
   have a:M7 c.name=true:=List.all_eq_true.1 n c.name (by simp)
   have d: ∀m∈c.methods,m.params.length≤32∧m.catches.length≤32∧m.code.length≤200:=fun m b=>by
    have:=o m b
    simp only[Wm,Bool.or_eq_true,decide_eq_true_eq,not_or] at this
    omega
   refine ⟨⟨by omega,by omega,by omega,fun m b=>by have:=d m b;unfold SmM;omega⟩,⟨by have:=X0L a;omega,fun f q=>?_,fun m b=>?_⟩,fun e=>by rw[e] at a;simp[M7] at a⟩
   ·have:=List.all_eq_true.1 r f q
    simp only[He,Bool.and_eq_true] at this
    have i:=Q8D this.1
    have j:=Gx this.2
    omega
   ·have:=List.all_eq_true.1 k m b
    simp only[K1,Bool.and_eq_true,Bool.or_eq_true,decide_eq_true_eq,List.all_eq_true] at this
    obtain ⟨⟨⟨_,i⟩,j⟩,_⟩:=this
    refine ⟨?_,fun p l=>by have:=Gx (i p l);omega⟩
    rcases j with e | e
    ·rw[e];simp
    ·have:=Gx e;omega
  ·cases h
end Go.Proofs.YtjdiakhipmggjaaGreatDoor

namespace Go.Hm
open Go.Kd
theorem Wo {α:Type} {f:α→Int} {xs:List α} {n:Nat} (h:n<xs.length) (a:D0 f xs 0=D0 f (xs.drop n) n):D0 f xs 0=if f xs[n]=0 then D0 f (xs.drop (n+1)) (n+1) else some (n,f xs[n]):=by
 rw[a,List.drop_eq_getElem_cons h];rfl
theorem Q8e {a:List Cla} {n:Nat} (h:n<a.length) (k:X0):Z1 (a.take (n+1)) k=match Z1 (a.take n) k with
 | some i=>some i
 | none=>if a[n].name=k then some n else none:=by
 unfold Z1
 rw[List.take_add_one,List.getElem?_eq_getElem h]
 simp only[Option.toList_some,List.findIdx?_append]
 cases (a.take n).findIdx? fun c=>decide (c.name=k) with
 | some i=>rfl
 | none=>
  simp only[Option.none_or,List.findIdx?_cons,List.findIdx?_nil,List.length_take]
  by_cases e:a[n].name=k
  ·simp[e];omega
  ·simp[e]
end Go.Hm
namespace Go.Proofs.YtjdiakhipmggjaaGreatDoor
open Go.Emb Go.RowKit Go.Kd Go.Hm
variable {w : World} {K : Value → World → Prop} {σ : Q6} {v : Value} {l : List Cla}
theorem Pv {a:List Cla} {n:Nat} (h:n<a.length):Y1 a n=a[n].name:=by unfold Y1;rw[List.getD_eq_getElem?_getD,List.getElem?_eq_getElem h];rfl
set_option maxHeartbeats 1000000 in
theorem X3J {lv:Value} (hs:X2 w σ) (hg:Glb σ) (hl:Sl 8 V0 σ lv l) (hlen:l.length≤1000) (hsm: ∀c∈l,Qw c)
 (h1: ∀i e w' σ',Sa D6 l=some (i,e)→Stp w σ w' σ'→K (.tuple #[.pointer none,I i,I e]) w')
 (h0: ∀v w' σ',Sa D6 l=none→Stp w σ w' σ'→Tab σ' v (Q4 l)→Ok (Q4 l)→T7 (Q4 l)→K (.tuple #[v,I 0,I 0]) w'):Q1 P F.cL [lv] w K:=Q8H (by
 unfold Q3P
 have hgl:I1.length=8:=rfl
 have hal:(Q4 l).length=8+l.length:=by simp[Q4,hgl]
 refine X2u hs hg fun x0 w1 σ1 hk1 ha1=>?_
 refine Q3E hk1.sat fun r w2 hr hk2 hm2=>?_
 have ha2:=ha1.up hk2
 have hx0:x0.cells= #[x0]∧x0.oneCell'=true:=Us ha1
 have hx0s: ∃a n c,x0= .slice a n c:=by
  obtain ⟨cells,q1,_⟩:=ha1
  rcases q1.2 with ⟨rfl,_⟩ | ⟨g,cap,cur,rfl,_⟩<;>exact ⟨_,_,_,rfl⟩
 have hx0r:x0.ownBlock≠some r:=fun e=>by have:=(ha1.mem r e).2.1;omega
 obtain ⟨a0,n0,c0,hx0e⟩:=hx0s
 rw[hx0e]
 refine W3 (cells:= #[.slice a0 n0 c0, .map (some r)]) (by kernel_rfl) ?_
 rw[←hx0e]
 refine Ex (cs:=[x0, .map (some r)]) hk2.sat fun bt w3 σ3 hbt hk3 hbm=>?_
 have hS3:=(hk1.trans hk2).trans hk3
 have ha3:=ha2.up hk3
 have hm3:=hm2.up hk3
 have hrw:w.heap.size≤r:=Nat.le_trans hk1.bel.size hr
 have hrl:r<w2.heap.size:=hm2.lt
 have hbtw:w.heap.size≤bt:=N0 hbt (hk1.trans hk2)
 have hrbt:r≠bt:=by omega
 have hx0b:x0.ownBlock≠some bt:=fun e=>by have:=(ha2.mem bt e).2.1;omega
 rw[M0,fa]
 refine Yk hbm rfl ?_
 refine Q8z ha3 ?_
 rw[hgl]
 have hl3:=hl.up hS3
 refine Q8 hl3 ?_
 -- classes, each by itself
 refine U3 l.length (fun n w'=> ∃σ' x,Stp w σ w' σ'∧SLe σ3 σ'∧Y3 σ' w' bt [x, .map (some r)]∧V6 w.heap.size T.b 8 V0 σ' w' x (I1++l.take n)∧C4 σ' w' r []∧x.ownBlock≠some bt∧x.ownBlock≠some r∧D0 D6 l 0=D0 D6 (l.drop n) n)
  ⟨σ3,x0,hS3,SLe.refl _,hbm,by simpa using ha3,hm3,hx0b,hx0r,rfl⟩ fun n w4 d hn hinv=>?_
 obtain ⟨σ4,x,hS4,le4,hb4,ha4,hm4,hxb,hxr,hfb⟩:=hinv
 refine Z2 ?_
 refine Q7 (fun hh=>?_) (fun hh=>?_)
 ·have hn':n<l.length:=by simpa using hh
  refine M9 (hl3.lift le4) hn' fun p cells hl1 hl2 hr1=>?_
  refine Y5 hS4.sat hl1 hl2 ?_
  refine Y7 hS4.sat (by rfl) hl2 (Rep.one hr1) fun q w5 σ5 hk5 hq5=>?_
  have hS5:=hS4.trans hk5
  have hr5:=RCl_lift hr1 ⟨hk5.le⟩
  refine Y5 hk5.sat hq5 hl2 ?_
  have hsmn:=hsm _ (List.getElem_mem hn')
  refine X2L hk5.sat (hg.lift ⟨hS5.le⟩) hr5 hsmn.1 fun w6 σ6 hk6=>?_
  have hS6:=hS5.trans hk6
  have hfb2:=Wo hn' hfb
  refine Qx ?_
  refine Q7 (fun hh2=>?_) (fun hh2=>?_)
  ·have hne: ¬D6 l[n]=0:=by simpa using hh2
   rw[if_neg hne] at hfb2
   refine h1 _ _ _ _ ?_ hS6
   unfold Sa
   rw[hfb2]
  ·have hz:D6 l[n]=0:=by simpa using hh2
   rw[if_pos hz] at hfb2
   have hk56:=hk5.trans hk6
   have hb6:=hb4.up hk56
   have ha6:=ha4.up hk56
   have hm6:=hm4.up hk56
   have hq6:=hq5.up hk6
   have hr6:=RCl_lift hr5 ⟨hk6.le⟩
   have hxs: ∀k,x.ownBlock=some k→k<w6.heap.size:=fun k hk=>(ha6.mem k hk).2.1
   refine U2 hk6.sat ?_
   refine X4 (.pointer (some ⟨bt,0,none⟩)) (fun w hb=>by rw[M0];exact X6 rfl) ?_
   refine X4 (.pointer (some ((⟨bt,0,none⟩:Addr).add 0))) (fun t w hb e=>by rw[e,fa];exact X6 rfl) ?_
   refine X4 x (fun t w hb e=>by rw[e];exact Yk (hb6.step hb.stp) rfl (X6 rfl)) ?_
   refine X4 (.agg cells.toArray) (fun w hb=>Y5 hb.sat hq6 hl2 (X6 rfl)) ?_
   refine Wh (Φ:=fun σ' v=> ∃ds:List Value,v= .agg ds.toArray∧ds.length=8∧V0 σ' l[n] ds) (fun t w hb e=>by
    rw[e];exact X0t hb.sat hr6 hsmn fun lv fv mv w' σ' hk hrc=>Rx hb hk ⟨_,rfl,rfl,hrc⟩) ?_
   refine Wh (w:=w6) (σ:=σ6) (Φ:=fun σ' v=>Sl 8 V0 σ' v [l[n]]) (fun t w hb e=>by
    obtain ⟨σ',hk,ds,rfl,hd1,hd2⟩:=e
    refine T4 (R:=V0) (sz:=8) hk.sat [.agg ds.toArray] [l[n]] rfl rfl (by simpa [Value.cells] using hd1) rfl ⟨by simpa [Value.cells] using hd2,trivial⟩ fun u w2 σ2 hk2 hu=>?_
    exact ⟨hk2.bel,σ2,hk.trans hk2,hu⟩) ?_
   rintro t43 t44 t45 t46 t47 t48 w7 hb7 _ _ e45 _ _ ⟨σ8,hk8,hu8⟩
   subst e45
   have hS8:=hS6.trans hk8
   have hb8:=hb6.up hk8
   have ha8:=ha6.up hk8
   have hm8:=hm6.up hk8
   have hbl:=hb6.lt
   have hml:=hm6.lt
   refine Wk hS8 ha8 hu8 rfl (by simp[hgl];omega) (by simp[hgl];omega) fun x' w9 hn9 hS9 ha9 hat9=>?_
   have hb9:=hb8.nx hn9 hxb
   have hm9:=hm8.nx hn9 hxr
   have hxb':x'.ownBlock≠some bt:=fun e=>by
    rcases hat9 with e2 | e2
    ·exact hxb (e2▸e)
    ·have:=e2 bt e;have:=hk8.bel.size;omega
   have hxr':x'.ownBlock≠some r:=fun e=>by
    rcases hat9 with e2 | e2
    ·exact hxr (e2▸e)
    ·have:=e2 r e;have:=hk8.bel.size;omega
   obtain ⟨hxc1,hxc2⟩:=Us ha9
   rw[M0,fa]
   refine Ue hb9 (by simp) hxc1 hxc2 fun w10 u10 hb10=>?_
   have hS10:=u10.stp hS9 hbtw hb9.1
   have k10:Kpt (fun k=>k=bt) w9 w10:=Kpt.of_upd u10 rfl
   refine O8 ?_
   refine Y6 hl3.max hn' ⟨σ8,x',hS10,le4.more ⟨fun b o e=>hk8.le _ _ (hk56.le _ _ e)⟩,hb10,?_,hm9.kp k10 hrbt,hxb',hxr',hfb2⟩
   have:=ha9.kp k10 fun k hk e=>hxb' (e▸hk)
   rw[List.take_add_one,List.getElem?_eq_getElem hn',←List.append_assoc]
   exact this
 have hn': ¬n<l.length:=by simpa using hh
 rw[List.take_of_length_le (by omega)] at ha4
 rw[List.drop_eq_nil_of_le (by omega)] at hfb
 have hfb:D0 D6 l 0=none:=hfb
 have hck:=P7 hfb
 have hcf: ∀c∈l,Qw c∧Nm c∧c.name≠[]:=fun c hc=>Fh (hck c hc)
 have hsmall: ∀c∈Q4 l,Qw c:=fun c hc=>by
  rcases List.mem_append.1 hc with hc | hc
  ·exact (Jp c hc).1
  ·exact (hcf c hc).1
 have hnmall: ∀c∈Q4 l,Nm c:=fun c hc=>by
  rcases List.mem_append.1 hc with hc | hc
  ·exact (Jp c hc).2.1
  ·exact (hcf c hc).2.1
 have hlenall:(Q4 l).length≤100000:=by omega
 unfold Sa at h1 h0
 rw[hfb] at h1 h0
 simp only at h1 h0
 -- from now on the classes stay
 obtain ⟨σ5,hS5,hv5,le5,old5⟩:=ha4.keep hS4
 have hb5:Y3 σ5 w4 bt _:=⟨(old5 bt fun e=>hxb e.symm).trans hb4.1,hb4.2⟩
 have hm5:C4 σ5 w4 r []:=⟨(old5 r fun e=>hxr e.symm).trans hm4.1,hm4.2⟩
 obtain ⟨σ6,hS6,hb6,le6,old6⟩:=hb5.keep hS5 hbtw
 have hm6:C4 σ6 w4 r []:=⟨(old6 r hrbt).trans hm5.1,hm5.2⟩
 have hv6:Sl 8 V0 σ6 x (Q4 l):=hv5.le le6
 clear hb5 hb4 ha4
 rw[M0,fa]
 refine ld hS6.sat hb6 rfl ?_
 refine Q8 hv6 ?_
 refine U3 (Q4 l).length (fun n w'=> ∃σ' m,Stp w σ w' σ'∧SLe σ6 σ'∧C4 σ' w' r m∧(∀k,C3 m k=(Z1 ((Q4 l).take n) k).map (fun i:Nat=>I (i:Int)))∧ ∀j,j<n→(Z1 ((Q4 l).take j) (Y1 (Q4 l) j)).isSome=false)
  ⟨σ6,[],hS6,SLe.refl _,hm6,by simp[C3,Z1],by intro j hj;omega⟩ fun n w5 d hn2 hinv=>?_
 obtain ⟨σ7,m,hS7,le7,hm7,hlm,hnd⟩:=hinv
 refine Z2 ?_
 refine Q7 (fun hh2=>?_) (fun hh2=>?_)
 ·have hn3:n<(Q4 l).length:=by simpa using hh2
  refine M9 (hv6.lift le7) hn3 fun p cells hl1 hl2 hr1=>?_
  refine Y5 hS7.sat hl1 hl2 ?_
  refine Y7 hS7.sat (by rfl) hl2 (Rep.one hr1) fun q w6 σ8 hk8 hq8=>?_
  obtain ⟨lv',fv,mv,rfl,f1,f2,f3,f4,f5⟩:=hr1
  have hS8:=hS7.trans hk8
  have le8:SLe σ6 σ8:=le7.more ⟨hk8.le⟩
  have hm8:=hm7.up hk8
  have hb8:=hb6.lift le8
  rw[fa]
  refine ld hk8.sat hq8 rfl ?_
  refine Hb ?_
  unfold Jq
  rw[M0,fa]
  refine ld hk8.sat hb8 rfl ?_
  refine Q9U X8 hm8.2 _ ?_
  refine Z5 (vs:=[_,_]) rfl ?_
  refine Z5 (vs:=[_,_]) rfl ?_
  have hna:=Pv hn3
  have hfd:=hlm (Q4 l)[n].name
  cases hfc:Z1 ((Q4 l).take n) (Q4 l)[n].name with
  | some i=>
   rw[hfc] at hfd
   rw[hfd]
   refine J7 ?_
   have hdup:Si (Q4 l)=some n:=by
    unfold Si
    rw[List.find?_range_eq_some]
    refine ⟨by rw[hna,hfc];rfl,by simpa using hn3,fun j hj=>by rw[hnd j hj];rfl⟩
   refine Zl ⟨by omega,by omega⟩ ?_
   refine h1 _ _ _ _ ?_ hS8
   rw[hdup]
   rfl
  | none=>
   rw[hfc] at hfd
   rw[hfd]
   refine J0 ?_
   refine U2 hk8.sat ?_
   refine X4 (.pointer (some ⟨bt,0,none⟩)) (fun w hb=>by rw[M0];exact X6 rfl) ?_
   refine X4 (.pointer (some ((⟨bt,0,none⟩:Addr).add 1))) (fun t w hb e=>by rw[e,fa];exact X6 rfl) ?_
   refine X4 (.pointer (some (q.add 0))) (fun w hb=>by rw[fa];exact X6 rfl) ?_
   refine X4 (.map (some r)) (fun t w hb e=>by rw[e];exact ld hb.sat hb8 rfl (X6 rfl)) ?_
   refine X4 (S (Q4 l)[n].name) (fun t w hb e=>by rw[e];exact ld hb.sat hq8 rfl (X6 rfl)) ?_
   rintro t71 t72 t74 t73 t75 w9 hb9 _ _ _ rfl rfl
   refine Ps X8 (hm8.up hb9.stp) _ (I n) fun w10 u10 hm10=>?_
   have hS9:=hS8.trans hb9.stp
   have hS10:=u10.stp hS9 hrw hm10.1
   refine O8 ?_
   refine Y6 (by omega) hn3 ⟨σ8,_,hS10,le8,hm10,fun k=>?_,fun j hj=>?_⟩
   ·rw[Q4E,Q8e hn3 k]
    by_cases e:(Q4 l)[n].name=k
    ·subst e
     rw[if_pos rfl,hfc];simp
    ·rw[if_neg e,hlm k]
     cases Z1 ((Q4 l).take n) k with
     | some i=>rfl
     | none=>simp[e]
   ·by_cases e:j=n
    ·subst e;rw[hna,hfc];rfl
    ·exact hnd j (by omega)
 have hn3: ¬n<(Q4 l).length:=by simpa using hh2
 have hne:n=(Q4 l).length:=by omega
 subst hne
 rw[List.take_of_length_le (Nat.le_refl _)] at hlm
 have hdup:Si (Q4 l)=none:=by
  unfold Si
  rw[List.find?_eq_none]
  intro j hj
  rw[hnd j (by simpa using hj)];simp
 rw[hdup] at h1 h0
 simp only at h1 h0
 have hown:=Kc hdup
 obtain ⟨σ8,hS8,hm8,le8,_⟩:=hm7.keep hS7 hrw
 have le68:SLe σ6 σ8:=le7.more ⟨le8⟩
 have ht8:Tab σ8 (.pointer (some ⟨bt,0,none⟩)) (Q4 l):=⟨⟨bt,0,none⟩,x,r,m,rfl,hb6.lift le68,hv6.lift le68,hm8,hlm⟩
 have hb8:=hb6.lift le68
 have hv8:=hv6.lift le68
 clear hm7 hm8 hh2 hn3 hn2 hh hn' hn hnd
 have hdr:(Q4 l).drop 8=l:=by simp[Q4,hgl]
 rw[M0,fa]
 refine ld hS8.sat hb8 rfl ?_
 refine Ez hv8 (some (I (8:Nat))) none 8 (Q4 l).length (.inr rfl) (.inl ⟨rfl,rfl⟩) (by omega) (Nat.le_refl _) fun v9 hv9=>?_
 rw[hdr,List.take_of_length_le (by omega)] at hv9
 refine Q8 hv9 ?_
 refine U3 l.length (fun n w'=> ∃σ',Stp w σ w' σ'∧SLe σ8 σ'∧D0 (fun c=>(D1 (Q4 l) c:Int)) l 0=D0 (fun c=>(D1 (Q4 l) c:Int)) (l.drop n) n) ⟨σ8,hS8,SLe.refl _,rfl⟩ fun n w6 d hn hinv=>?_
 obtain ⟨σ9,hS9,le9,hfu⟩:=hinv
 refine Z2 ?_
 refine Q7 (fun hh=>?_) (fun hh=>?_)
 ·have hn':n<l.length:=by simpa using hh
  refine M9 (hv9.lift le9) hn' fun p cells hl1 hl2 hr1=>?_
  refine Y5 hS9.sat hl1 hl2 ?_
  refine Y7 hS9.sat (by rfl) hl2 (Rep.one hr1) fun q w7 σ10 hk10 hq10=>?_
  have hS10:=hS9.trans hk10
  refine Y5 hk10.sat hq10 hl2 ?_
  have hfu2:=Wo hn' hfu
  refine X1i hk10.sat (ht8.lift (le9.more ⟨hk10.le⟩)) (RCl_lift hr1 ⟨hk10.le⟩) fun w8 σ11 hk11=>?_
  refine Qx ?_
  refine Q7 (fun hh2=>?_) (fun hh2=>?_)
  ·have hne: ¬(D1 (Q4 l) l[n]:Int)=0:=by simpa using hh2
   rw[if_neg hne] at hfu2
   refine h1 _ _ _ _ ?_ (hS10.trans hk11)
   rw[hfu2]
  ·have hz:(D1 (Q4 l) l[n]:Int)=0:=by simpa using hh2
   rw[if_pos hz] at hfu2
   refine O8 ?_
   exact Y6 hl3.max hn' ⟨σ11,hS10.trans hk11,le9.more ⟨fun b o e=>hk11.le _ _ (hk10.le _ _ e)⟩,hfu2⟩
 have hn': ¬n<l.length:=by simpa using hh
 rw[List.drop_eq_nil_of_le (by omega)] at hfu
 have hfu:D0 (fun c=>(D1 (Q4 l) c:Int)) l 0=none:=hfu
 rw[hfu] at h1 h0
 simp only at h1 h0
 have hup:=P7 hfu
 have ht9:=ht8.lift le9
 clear hh hn' hn
 rw[M0,fa]
 refine ld hS9.sat (hb8.lift le9) rfl ?_
 refine Ez (hv8.lift le9) (some (I (8:Nat))) none 8 (Q4 l).length (.inr rfl) (.inl ⟨rfl,rfl⟩) (by omega) (Nat.le_refl _) fun v10 hv10=>?_
 rw[hdr,List.take_of_length_le (by omega)] at hv10
 rw[Qh]
 refine Gz (T0 (Q4 l)) hS9.sat hv10 (fun c cs w7 K hc hs7 hr hlen hK=>Z9 (first:=[.pointer (some ⟨bt,0,none⟩)]) (caps:=[]) ?_) fun w7 hb7=>?_
 ·exact X26 hs7 ht9 hlenall hsmall hr fun w' σ' hk=>hK w' hk.bel
 have hS10:=hS9.trans (Stp.of_below hS9.sat hb7)
 refine P3 ?_
 rw[T9]
 cases hlo:l.findIdx? (T0 (Q4 l)) with
 | some i=>
  refine J7 ?_
  refine h1 _ _ _ _ ?_ hS10
  rw[hlo];rfl
 | none=>
  rw[hlo] at h1 h0
  simp only at h1 h0
  refine J0 ?_
  have hlo': ∀c∈l,T0 (Q4 l) c=false:=fun c hc=>List.findIdx?_eq_none_iff.1 hlo c hc
  have hacy:=Q6a hown (fun c hc=>(hcf c hc).2.2) hlo'
  have hfull:X1k (Q4 l):=fun c hc u hu=>by
   rcases List.mem_append.1 hc with hc | hc
   ·rw[(Jp c hc).2.2] at hu;simp at hu
   ·have:=hup c hc
    unfold D1 at this
    split at this
    ·simp at this
    ·split at this
     ·simp at this
     ·rename_i hnb
      have hnb:c.like.any (R5 (Q4 l))=false:=eq_false_of_ne_true hnb
      have:=List.any_eq_false.1 hnb u hu
      unfold R5 at this
      cases hd:lk (Q4 l) u with
      | none=>rw[hd] at this;simp at this
      | some d=>exact ⟨d,rfl⟩
  have hok:Ok (Q4 l):=⟨hacy,hlenall,hsmall,hfull,hnmall⟩
  refine X20 (frm:=8) hS10.sat (ht9.lift ⟨(Stp.of_below hS9.sat hb7).le⟩) hacy hown hlenall hsmall (by omega) (by omega) fun v11 w8 σ11 hk11 hv11 hol hoi=>?_
  have hS11:=hS10.trans hk11
  have ht11:=ht9.lift ⟨fun b o e=>hk11.le _ _ e⟩
  refine Q8 hv11 ?_
  have hil:(ints (W0 (Q4 l) 8)).length=(W0 (Q4 l) 8).length:=by simp
  rw[hil]
  refine U3 (W0 (Q4 l) 8).length (fun n w'=> ∃σ',Stp w σ w' σ'∧SLe σ11 σ'∧ ∀j∈(W0 (Q4 l) 8).take n,V7 (Q4 l) ((Q4 l).getD j Cla.zero)=0) ⟨σ11,hS11,SLe.refl _,by simp⟩ fun n w9 d hn hinv=>?_
  obtain ⟨σ12,hS12,le12,hno⟩:=hinv
  refine Z2 ?_
  refine Q7 (fun hh=>?_) (fun hh=>?_)
  ·have hn':n<(W0 (Q4 l) 8).length:=by simpa using hh
   refine M9 (hv11.lift le12) (by rw[hil];exact hn') fun p cells hl1 hl2 hr1=>?_
   obtain ⟨rfl,_⟩:=hr1
   refine X7 hS12.sat hl1 rfl ?_
   simp only[List.getElem_map]
   rw[M0,fa]
   have le8x:SLe σ8 σ12:=le9.more (SLe.more ⟨hk11.le⟩ le12)
   refine ld hS12.sat (hb8.lift le8x) rfl ?_
   have hji:=hoi _ (List.getElem_mem hn')
   refine M9 (hv8.lift le8x) hji fun p2 cells hl1 hl2 hr1=>?_
   refine Y5 hS12.sat hl1 hl2 ?_
   have hat:(Q4 l).getD (W0 (Q4 l) 8)[n] Cla.zero=(Q4 l)[(W0 (Q4 l) 8)[n]]:=by rw[List.getD_eq_getElem?_getD,List.getElem?_eq_getElem hji];rfl
   have hmem:=List.getElem_mem hji
   refine Q9L hS12.sat (ht11.lift le12) hok hr1 (hsmall _ hmem) (hnmall _ hmem) fun w10 σ13 hk13=>?_
   have hS13:=hS12.trans hk13
   refine Qx ?_
   refine Q7 (fun hh2=>?_) (fun hh2=>?_)
   ·have hne: ¬V7 (Q4 l) (Q4 l)[(W0 (Q4 l) 8)[n]]=0:=by simpa using hh2
    refine Zl ⟨by omega,by omega⟩ ?_
    have hfind:(W0 (Q4 l) 8).find? (fun j=> !decide (V7 (Q4 l) ((Q4 l).getD j Cla.zero)=0))=some (W0 (Q4 l) 8)[n]:=by
     rw[List.find?_eq_some_iff_getElem]
     refine ⟨by rw[hat];simpa using hne,n,hn',rfl,fun j hj=>?_⟩
     have:=hno _ (List.mem_take_iff_getElem.2 ⟨j,by omega,rfl⟩)
     rw[this];simp
    have:=h1 (((W0 (Q4 l) 8)[n]:Int)-8) (V7 (Q4 l) (Q4 l)[(W0 (Q4 l) 8)[n]]) w10 σ13 (by rw[hfind];simp only[hat]) hS13
    exact this
   ·have hz:V7 (Q4 l) (Q4 l)[(W0 (Q4 l) 8)[n]]=0:=by simpa using hh2
    refine O8 ?_
    refine Y6 (by omega) hn' ⟨σ13,hS13,le12.more ⟨hk13.le⟩,fun j hj=>?_⟩
    rw[List.take_add_one,List.getElem?_eq_getElem hn'] at hj
    rcases List.mem_append.1 hj with hj | hj
    ·exact hno j hj
    ·simp at hj;subst hj;rw[hat];exact hz
  ·have hn': ¬n<(W0 (Q4 l) 8).length:=by simpa using hh
   rw[List.take_of_length_le (by omega)] at hno
   have hfind:(W0 (Q4 l) 8).find? (fun j=> !decide (V7 (Q4 l) ((Q4 l).getD j Cla.zero)=0))=none:=by
    rw[List.find?_eq_none]
    intro j hj
    rw[hno j hj];simp
   rw[hfind] at h0
   exact h0 _ _ _ rfl hS12 (ht11.lift le12) hok hown)
end Go.Proofs.YtjdiakhipmggjaaGreatDoor

namespace Go.Hm
open Go.Kd
def X0g (m:Hm.Met):Bool:= !(decide (50<m.code.length)||decide (8<m.params.length)||decide (8<m.catches.length))
def X0W (c:Cla):Bool:= !(decide (6<c.like.length)||decide (6<c.fields.length)||decide (6<c.methods.length))&&c.methods.all X0g
def X0v (l:List Cla):Bool:= !decide (12<l.length)&&l.all X0W
theorem X01 {l:List Cla} (h:X0v l=true):l.length≤12∧ ∀c∈l,X0W c=true:=by
 simp only[X0v,Bool.and_eq_true,Bool.not_eq_true',decide_eq_false_iff_not,List.all_eq_true] at h
 exact ⟨by omega,h.2⟩
theorem X2Z {l:List Cla} (h:X0v l=true): ∀c∈l,Qw c:=by
 intro c e
 have:=(X01 h).2 c e
 simp only[X0W,X0g,Bool.and_eq_true,Bool.not_eq_true',Bool.or_eq_false_iff,decide_eq_false_iff_not,List.all_eq_true] at this
 obtain ⟨⟨⟨a,b⟩,g⟩,d⟩:=this
 refine ⟨by omega,by omega,by omega,fun m f=>?_⟩
 obtain ⟨⟨p,q⟩,r⟩:=d m f
 exact ⟨by omega,by omega,by omega⟩
end Go.Hm
namespace Go.Proofs.YtjdiakhipmggjaaGreatDoor
open Go.Emb Go.RowKit Go.Kd Go.Hm
variable {w : World} {K : Value → World → Prop} {σ : Q6} {v : Value} {l : List Cla}
end Go.Proofs.YtjdiakhipmggjaaGreatDoor

namespace Go.Proofs.YtjdiakhipmggjaaGreatDoor
open Go.Emb Go.RowKit Go.Kd Go.Hm
variable {w : World} {K : Value → World → Prop} {σ : Q6} {v : Value} {l : List Cla}
theorem X4g:P.underlying T.r=some (.pointer T.a0):=by kernel_rfl
theorem Q5x (d:Nat) (o:Option Addr):(Op.equalIn (d+1) T.r (.pointer o) (.pointer none)).run P w= .ok o.isNone w:=by
 cases o<;>simp[Op.equalIn,run_underlying X4g]
theorem X3e {a:Addr} {c b:Operand} (h:K (.bool false) w):Q3 P .eql T.r c b (.pointer (some a)) (.pointer none) w K:=by
 have e:(Op.equal T.r (.pointer (some a)) (.pointer none)).run P w= .ok false w:=Q5x 9999 _
 unfold Q3
 rw[X9 (v:= .bool false) (w':=w) (by simp[eqGuard,Go.binOp,e])]
 exact h
end Go.Proofs.YtjdiakhipmggjaaGreatDoor

namespace Go.Hm
open Go.Kd
theorem Q6H {l:List Cla} {frm:Nat}: ∀(f:Nat) (a:List Nat) (i:Nat),(∀y∈a,y∈A8 l frm f a i)∧(0<f→frm≤i→i∈A8 l frm f a i):=by
 intro f
 induction f with
 | zero=>intro a i;exact ⟨fun y b=>b,fun h=>by omega⟩
 | succ f g=>
  intro a i
  have c: ∀(e:List X0) (o:List Nat),∀y∈o,y∈e.foldl (fun a n=>A8 l frm f a ((Z1 l n).getD 0)) o:=by
   intro e
   induction e with
   | nil=>intro o y b;exact b
   | cons u r d=>intro o y b;exact d _ y ((g o _).1 y b)
  simp only[A8]
  split
  ·exact ⟨fun y b=>b,fun _ h=>by omega⟩
  ·split
   ·rename_i h;exact ⟨fun y b=>b,fun _ _=>h⟩
   ·exact ⟨fun y b=>List.mem_append_left _ (c _ _ y b),fun _ _=>by simp⟩
theorem Q9R {l:List Cla} {frm i:Nat} (e:frm≤i) (f:i<l.length):i∈W0 l frm:=by
 unfold W0
 have key: ∀(is b:List Nat),(∀y∈b,y∈is.foldl (fun b i=>A8 l frm (l.length+1) b i) b)∧(i∈is→i∈is.foldl (fun b i=>A8 l frm (l.length+1) b i) b):=by
  intro is
  induction is with
  | nil=>intro b;exact ⟨fun y d=>d,fun h=>by simp at h⟩
  | cons a r c=>
   intro b
   refine ⟨fun y d=>(c _).1 y ((Q6H _ _ _).1 y d),fun h=>?_⟩
   rcases List.mem_cons.1 h with rfl | h
   ·exact (c _).1 _ ((Q6H _ _ _).2 (by omega) e)
   ·exact (c _).2 h
 refine (key _ _).2 ?_
 rw[List.mem_drop_iff_getElem]
 exact ⟨i-frm,by simp;omega,by simp;omega⟩
theorem X0e {s:X0} (h:M7 s=true):name s=true:=Np (by rw[h,Bool.or_true])
theorem Q5E {a:X0} (h:name a=true):arr a=false:=by
 cases e:arr a with
 | false=>rfl
 | true=>
  exfalso
  have d:2≤a.length∧a.drop (a.length-2)=[91,93]:=by simpa [arr] using e
  have b:(93:UInt8)∈a:=List.mem_of_mem_drop (i:=a.length-2) (by rw[d.2];simp)
  cases a with
  | nil=>simp at b
  | cons c r=>
   simp only[name,Bool.and_eq_true,List.all_eq_true] at h
   have:=h.2 _ b
   revert this;decide
end Go.Hm
namespace Go.Proofs.YtjdiakhipmggjaaGreatDoor
open Go.Emb Go.RowKit Go.Kd Go.Hm
theorem Q9e {a:X0} (h:name a=true):base a=(a,0):=by rw[Yb,Q5E h];simp
theorem Ms {s:X0} (h:M7 s=true):arr s=false∧base s=(s,0)∧right s=true∧plain s=false∧elem s=[]∧s≠H8∧s≠[]:=by
 have b:=Hm.X0e h
 have c:=Q5E b
 have a:=Q9e b
 refine ⟨c,a,?_,?_,by simp[elem,c],?_,?_⟩
 ·simp[right,a,h]
 ·cases d:plain s with
  | false=>rfl
  | true=>
   simp only[plain,Bool.or_eq_true,decide_eq_true_eq] at d
   rcases d with (e | e) | e<;>subst e<;>revert h<;>decide
 ·rintro rfl;revert h;decide
 ·rintro rfl;revert h;decide
structure Wf (l : List Cla) : Prop where
  ck : ∀ c ∈ l, D6 c = 0
  own : T7 (Q4 l)
  acy : Jg (Q4 l)
  up : ∀ c ∈ l, D1 (Q4 l) c = 0
  mem : ∀ c ∈ l, V7 (Q4 l) c = 0
theorem X3M {l:List Cla} (h:Sa D6 l=none):Wf l:=by
 unfold Sa at h
 split at h
 ·cases h
 rename_i n
 split at h
 ·cases h
 rename_i m
 split at h
 ·cases h
 rename_i p
 split at h
 ·cases h
 rename_i j
 split at h
 ·cases h
 rename_i k
 have d:=P7 n
 have a:=Kc m
 have g: ∀c∈l,T0 (Q4 l) c=false:=fun c b=>List.findIdx?_eq_none_iff.1 j c b
 refine ⟨d,a,Q6a a (fun c b=>(Fh (d c b)).2.2) g,fun c b=>by have:=P7 p c b;omega,fun c b=>?_⟩
 obtain ⟨i,o,rfl⟩:=List.getElem_of_mem b
 have f:I1.length=8:=rfl
 have:=List.find?_eq_none.1 k (8+i) (Q9R (by omega) (by simp[Q4,f];omega))
 have e:(Q4 l).getD (8+i) Cla.zero=l[i]:=by
  rw[List.getD_eq_getElem?_getD,Q4,List.getElem?_append_right (by omega),f,show 8+i-8=i by omega,List.getElem?_eq_getElem o];rfl
 rw[e] at this
 simpa using this
section
variable {l : List Cla} (wf : Wf l)
include wf
theorem Wf.names {c:Cla} (hc:c∈Q4 l):M7 c.name=true:=by
 rcases List.mem_append.1 hc with hc | hc
 ·have: ∀c∈I1,M7 c.name=true:=by decide+kernel
  exact this c hc
 ·have:=wf.ck c hc
  unfold D6 at this
  split at this
  ·cases this
  ·split at this
   ·rename_i a
    simp only[Mu,Bool.and_eq_true] at a
    obtain ⟨⟨⟨⟨⟨⟨⟨⟨b,_⟩,_⟩,_⟩,_⟩,_⟩,_⟩,_⟩,_⟩:=a
    exact List.all_eq_true.1 b c.name (by simp)
   ·cases this
theorem Wf.lkn {n:X0} {c:Cla} (h:lk (Q4 l) n=some c):M7 n=true:=by
 obtain ⟨e,a,_⟩:=V4 h
 rw[←e];exact wf.names a
theorem Wf.root:lk (Q4 l) U1=some ⟨U1,[],[],false,false,false,[],[]⟩:=wf.own.lk (c:=⟨U1,[],[],false,false,false,[],[]⟩) (List.mem_append_left _ (by decide))
theorem Wf.fault:lk (Q4 l) L6=some ⟨L6,U1,[],false,false,false,[⟨Qk,D2,false⟩],[]⟩:=wf.own.lk (c:=⟨L6,U1,[],false,false,false,[⟨Qk,D2,false⟩],[]⟩) (List.mem_append_left _ (by decide))
theorem Wf.super {c:Cla} (hc:c∈Q4 l):c.name=U1∨ ∃d,lk (Q4 l) c.super=some d:=by
 rcases List.mem_append.1 hc with hc | hc
 ·have: ∀c∈I1,c.name=U1∨c.super=U1∨c.super=L6:=by decide
  rcases this c hc with h | h | h
  ·exact .inl h
  ·exact .inr ⟨_,h▸wf.root⟩
  ·exact .inr ⟨_,h▸wf.fault⟩
 ·right
  have:=wf.up c hc
  unfold D1 at this
  split at this
  ·cases this
  ·rename_i h
   unfold Xd at h
   cases a:lk (Q4 l) c.super with
   | none=>rw[a] at h;simp at h
   | some d=>exact ⟨d,rfl⟩
theorem Wf.toRoot: ∀(k:Nat) {n:X0} {c:Cla},K9 (Q4 l) n<k→lk (Q4 l) n=some c→Hm.Reach (lk (Q4 l)) n U1:=by
 intro k
 induction k with
 | zero=>intro n c h;omega
 | succ k g=>
  intro n c j a
  obtain ⟨e,i,_⟩:=V4 a
  rcases wf.super i with h | ⟨d,b⟩
  ·rw[←e,h];exact .refl wf.root
  ·have f:c.super∈U4 c:=by simp[U4]
   exact .step a f (g (by have:=Yd wf.acy a f b;omega) b)
theorem Wf.atRoot {b:X0} (h:Hm.Reach (lk (Q4 l)) U1 b):b=U1:=by
 cases h with
 | refl=>rfl
 | step a c e=>
  rw[wf.root] at a;cases a
  simp[U4] at c;subst c
  obtain ⟨d,f⟩:=e.left
  exact absurd (wf.lkn f) (by decide)
theorem Wf.kind {n:X0} {c:Cla} (h:lk (Q4 l) n=some c):N2 (Q4 l) n=true:=by
 obtain ⟨f,a,b,d,e,g,i⟩:=Ms (wf.lkn h)
 have:Q1q (Q4 l) n=true:=by rw[Q1w,h];rfl
 simp[N2,b,a,this]
theorem Wf.sub_iff {a b:X0}:Xt (Q4 l) a b=true↔N2 (Q4 l) a=true∧N2 (Q4 l) b=true∧(a=b∨(plain a=false∧plain b=false∧(a=H8∨(elem a≠[]∧b=U1)∨(lk (Q4 l) a≠none∧Hm.Reach (lk (Q4 l)) a b)))):=by
 unfold Xt
 cases m:N2 (Q4 l) a<;>cases k:N2 (Q4 l) b<;>simp
 by_cases e:a=b
 ·simp[e]
 cases pa:plain a<;>cases j:plain b<;>simp[e]
 by_cases f:a=H8
 ·simp[f]
 simp only[f,false_or]
 by_cases d:elem a=[]
 ·simp only[d,if_true,not_true_eq_false,false_and,false_or,Uv]
  constructor
  ·intro h;obtain ⟨c,i⟩:=h.left;exact ⟨by rw[i];simp,h⟩
  ·intro h;exact h.2
 ·simp only[d,if_false,not_false_eq_true,true_and]
  constructor
  ·exact .inl
  ·rintro (h | ⟨h,_⟩)
   ·exact h
   ·cases g:lk (Q4 l) a with
    | none=>exact absurd g h
    | some c=>exact absurd (Ms (wf.lkn g)).2.2.2.2.1 d
theorem Wf.sub_class {a b:X0} {c:Cla} (e:lk (Q4 l) a=some c):Xt (Q4 l) a b=true↔Hm.Reach (lk (Q4 l)) a b:=by
 obtain ⟨k,m,o,g,i,j,n⟩:=Ms (wf.lkn e)
 rw[wf.sub_iff]
 constructor
 ·rintro ⟨_,_,rfl | ⟨_,_,h | ⟨h,_⟩ | ⟨_,h⟩⟩⟩
  ·exact .refl e
  ·exact absurd h j
  ·exact absurd i h
  ·exact h
 ·intro h
  obtain ⟨d,f⟩:=h.right
  exact ⟨wf.kind e,wf.kind f, .inr ⟨g,(Ms (wf.lkn f)).2.2.2.1, .inr (.inr ⟨by rw[e];simp,h⟩)⟩⟩
end
end Go.Proofs.YtjdiakhipmggjaaGreatDoor

namespace Go.Proofs.YtjdiakhipmggjaaGreatDoor
open Go.Emb Go.RowKit Go.Kd Go.Hm
theorem Q7o {L:List Cla} (g:Jg L): ∀(k:Nat) {n:X0} {c:Cla},K9 L n<k→c∈chain L n→Hm.Reach (lk L) n c.name∧lk L c.name=some c:=by
 intro k
 induction k with
 | zero=>intro n c h;omega
 | succ k j=>
  intro n c p hc
  rw[A9 g] at hc
  cases a:lk L n with
  | none=>rw[a] at hc;simp at hc
  | some d=>
   rw[a] at hc
   have b:=(V4 a).1
   rcases List.mem_cons.1 hc with rfl | hc
   ·rw[b];exact ⟨.refl a,a⟩
   ·cases f:lk L d.super with
    | none=>rw[Yy f] at hc;simp at hc
    | some e=>
     have i:d.super∈U4 d:=by simp[U4]
     obtain ⟨o,m⟩:=j (by have:=Yd g a i f;omega) hc
     exact ⟨.step a i o,m⟩
theorem X0r {l:List Cla} {a:X0} (h:N2 (Q4 l) a=true) (g:plain a=false):a=H8∨elem a≠[]∨ ∃c,lk (Q4 l) a=some c:=by
 simp only[N2,Bool.or_eq_true,decide_eq_true_eq,Bool.and_eq_true] at h
 rcases h with h | ⟨e,h⟩
 ·exact .inl h
 ·by_cases d:elem a=[]
  ·right;right
   have b:arr a=false:=by
    cases b:arr a with
    | false=>rfl
    | true=>
     have i:=Q4A b e
     have:elem a=Kd.cutA a:=by simp[elem,b,e]
     rw[this] at d
     have:=K4 b
     rw[d] at this;simp at this;omega
   have f:base a=(a,0):=by rw[Yb,b];simp
   rw[f,g] at h
   have h:Q1q (Q4 l) a=true:=by simpa using h
   rw[Q1w] at h
   exact Option.isSome_iff_exists.1 h
  ·exact .inr (.inl d)
section
variable {l : List Cla} (wf : Wf l)
include wf
theorem Wf.kRoot:N2 (Q4 l) U1=true:=wf.kind wf.root
theorem Wf.lkArr {a:X0} {c:Cla} (h:lk (Q4 l) a=some c):elem a=[]:=(Ms (wf.lkn h)).2.2.2.2.1
theorem Wf.none_null:lk (Q4 l) H8=none:=by
 cases h:lk (Q4 l) H8 with
 | none=>rfl
 | some c=>exact absurd (wf.lkn h) (by decide)
theorem Wf.sub_root {a:X0} (h:N2 (Q4 l) a=true) (b:plain a=false):Xt (Q4 l) a U1=true:=by
 rw[wf.sub_iff]
 refine ⟨h,wf.kRoot, .inr ⟨b,by decide,?_⟩⟩
 rcases X0r h b with e | e | ⟨c,e⟩
 ·exact .inl e
 ·exact .inr (.inl ⟨e,rfl⟩)
 ·exact .inr (.inr ⟨by rw[e];simp,wf.toRoot _ (Nat.lt_succ_self _) e⟩)
theorem Wf.sub_refl {a:X0} (h:N2 (Q4 l) a=true):Xt (Q4 l) a a=true:=wf.sub_iff.2 ⟨h,h, .inl rfl⟩
end
end Go.Proofs.YtjdiakhipmggjaaGreatDoor

namespace Go.Proofs.YtjdiakhipmggjaaGreatDoor
open Go.Emb Go.RowKit Go.Kd Go.Hm
theorem Q7p {c:Cla} (h:D6 c=0):M7 c.name=true∧M7 c.super=true∧(c.iface=true→c.super=U1∧c.fields=[]∧c.abs=true∧ ∀m∈c.methods,m.abs=true)∧(∀m∈c.methods,m.abs=true→c.abs=true)∧c.fields.all He=true∧c.methods.all K1=true∧C7 Fld.name [] c.fields=true∧C7 Hm.Met.name [] c.methods=true:=by
 unfold D6 at h
 split at h
 ·cases h
 split at h
 ·rename_i k
  simp only[Mu,Bool.and_eq_true] at k
  obtain ⟨⟨⟨⟨⟨⟨⟨⟨j,u⟩,v⟩,g⟩,f⟩,r⟩,p⟩,t⟩,n⟩:=k
  refine ⟨List.all_eq_true.1 j c.name (by simp),List.all_eq_true.1 j c.super (by simp),fun o=>?_,fun m i s=>?_,t,n,r,p⟩
  ·rw[o] at g
   simp only[Bool.true_and,Bool.not_eq_true',Bool.or_eq_false_iff,Bool.not_eq_false',decide_eq_true_eq] at g
   obtain ⟨⟨⟨a,b⟩,d⟩,e⟩:=g
   refine ⟨b,d,a,fun m i=>?_⟩
   have:=List.any_eq_false.1 e m i
   simpa using this
  ·simp only[Bool.not_eq_true',Bool.or_eq_false_iff] at f
   obtain ⟨_,f⟩:=f
   have q:c.methods.any (·.abs)=true:=List.any_eq_true.2 ⟨m,i,s⟩
   rw[q] at f
   simpa using f
 ·cases h
theorem Q8S {l:List Cla} {c:Cla} (b:c∈Q4 l) (a:c.iface=true):c∈l:=by
 rcases List.mem_append.1 b with h | h
 ·have: ∀c∈I1,c.iface=false:=by decide
  rw[this c h] at a;cases a
 ·exact h
section
variable {l : List Cla} (wf : Wf l)
include wf
theorem Wf.likes {c:Cla} (f:c∈Q4 l) {u:X0} (b:u∈c.like): ∃d,lk (Q4 l) u=some d∧d.iface=true:=by
 rcases List.mem_append.1 f with h | h
 ·rw[(Jp c h).2.2] at b;simp at b
 ·have:=wf.up c h
  unfold D1 at this
  split at this
  ·cases this
  ·split at this
   ·cases this
   ·rename_i a
    have a:=List.any_eq_false.1 (eq_false_of_ne_true a) u b
    unfold R5 at a
    cases e:lk (Q4 l) u with
    | none=>rw[e] at a;simp at a
    | some d=>rw[e] at a;exact ⟨d,rfl,by simpa using a⟩
theorem Wf.above_iface {u b:X0} (h:Hm.Reach (lk (Q4 l)) u b): ∀d,lk (Q4 l) u=some d→d.iface=true→b=U1∨ ∃e,lk (Q4 l) b=some e∧e.iface=true:=by
 induction h with
 | refl h=>intro d a c;exact .inr ⟨d,a,c⟩
 | step j hu i m=>
  intro d a c
  rw[j] at a;cases a
  obtain ⟨e,k,_⟩:=V4 j
  rcases List.mem_cons.1 hu with rfl | hu
  ·rw[((Q7p (wf.ck _ (Q8S k c))).2.2.1 c).1] at i
   exact .inl (wf.atRoot i)
  ·obtain ⟨f,n,g⟩:=wf.likes k hu
   exact m f n g
theorem Wf.by_chain {n b:X0} (h:Hm.Reach (lk (Q4 l)) n b): ∀e,lk (Q4 l) b=some e→e.iface=false→b≠U1→e∈chain (Q4 l) n:=by
 induction h with
 | refl h=>
  intro e c _ _
  rw[A9 wf.acy,c];simp
 | step j hu p o=>
  intro e c k i
  obtain ⟨en,q,_⟩:=V4 j
  rcases List.mem_cons.1 hu with rfl | hu
  ·rw[A9 wf.acy,j]
   exact List.mem_cons_of_mem _ (o e c k i)
  ·obtain ⟨f,r,d⟩:=wf.likes q hu
   rcases wf.above_iface p f r d with h | ⟨g,m,a⟩
   ·exact absurd h i
   ·rw[c] at m;cases m;rw[k] at a;cases a
theorem Wf.chain_tail: ∀(k:Nat) {n:X0} {c:Cla},K9 (Q4 l) n<k→c∈chain (Q4 l) n→ ∃a,chain (Q4 l) n=a++chain (Q4 l) c.name:=by
 intro k
 induction k with
 | zero=>intro n c h;omega
 | succ k i=>
  intro n c o hc
  rw[A9 wf.acy] at hc
  cases b:lk (Q4 l) n with
  | none=>rw[b] at hc;simp at hc
  | some d=>
   rw[b] at hc
   have f:=(V4 b).1
   rcases List.mem_cons.1 hc with rfl | hc
   ·exact ⟨[],by rw[f];rfl⟩
   ·cases g:lk (Q4 l) d.super with
    | none=>rw[Yy g] at hc;simp at hc
    | some e=>
     have m:d.super∈U4 d:=by simp[U4]
     obtain ⟨a,j⟩:=i (by have:=Yd wf.acy b m g;omega) hc
     exact ⟨d::a,by rw[A9 wf.acy,b];show d::chain (Q4 l) d.super=_;rw[j];rfl⟩
theorem Wf.fields_tail {n:X0} {c:Cla} (h:c∈chain (Q4 l) n): ∃a,Y4 (Q4 l) n=Y4 (Q4 l) c.name++a:=by
 obtain ⟨b,d⟩:=wf.chain_tail _ (Nat.lt_succ_self _) h
 exact ⟨b.reverse.flatMap (·.fields),by unfold Y4;rw[d];simp⟩
theorem Wf.none_nil:lk (Q4 l) []=none:=by
 cases h:lk (Q4 l) [] with
 | none=>rfl
 | some c=>exact absurd (wf.lkn h) (by decide)
theorem Wf.fault_fields:Y4 (Q4 l) L6=[⟨Qk,D2,false⟩]:=by
 unfold Y4
 rw[A9 wf.acy,wf.fault]
 simp only
 rw[A9 wf.acy,wf.root]
 simp only
 rw[Yy wf.none_nil]
 rfl
theorem Wf.what {n:X0} (h:Xt (Q4 l) n L6=true) {c:Cla} (b:lk (Q4 l) n=some c):Ur (Q4 l) n Qk=some 0:=by
 have d:=(wf.sub_class b).1 h
 have e:=wf.by_chain d _ wf.fault rfl (by decide)
 obtain ⟨a,f⟩:=wf.fields_tail e
 unfold Ur
 rw[f,show (Cla.mk L6 U1 [] false false false [⟨Qk,D2,false⟩] []).name=L6 from rfl,wf.fault_fields]
 rfl
end
end Go.Proofs.YtjdiakhipmggjaaGreatDoor

namespace Go.Hm
open Go.Kd
end Go.Hm
namespace Go.Proofs.YtjdiakhipmggjaaGreatDoor
open Go.Emb Go.RowKit Go.Kd Go.Hm
section
variable {l : List Cla} (wf : Wf l)
include wf
end
end Go.Proofs.YtjdiakhipmggjaaGreatDoor
namespace Go.Proofs.YtjdiakhipmggjaaGreatDoor
open Go.Emb Go.RowKit Go.Kd Go.Hm
end Go.Proofs.YtjdiakhipmggjaaGreatDoor
namespace Go.Proofs.YtjdiakhipmggjaaGreatDoor
open Go.Emb Go.RowKit Go.Kd Go.Hm
section
variable {l : List Cla} (wf : Wf l)
include wf
end
end Go.Proofs.YtjdiakhipmggjaaGreatDoor

namespace Go.Hm
open Go.Kd
structure Val where
  sort : Int
  n : Int
  s : X0
  ref : Int
deriving DecidableEq
structure Cel where
  kind : X0
  vals : List Val
deriving DecidableEq
def Val.zero:Val:=⟨0,0,[],0⟩
def Cel.zero:Cel:=⟨[],[]⟩
def P9:X0:=[105,110,116]
def Jd:X0:=[98,111,111,108]
def W1 (k:X0):Val:=if k=P9 then ⟨1,0,[],0⟩ else if k=Jd then ⟨2,0,[],0⟩ else if k=D2 then ⟨3,0,[],0⟩ else Val.zero
def Z7 (cs:List Cel):Int:=(cs.map fun c=>1+(c.vals.length:Int)).sum
def W7 (room:Int) (cs:List Cel):Int:=room-Z7 cs
def L9 (cs:List Cel) (r:Int):Bool:=decide (0≤r)&&decide (r<cs.length)
def Wj (cs:List Cel) (r:Int):Cel:=cs.getD r.toNat Cel.zero
def O5 (cs:List Cel) (r:Int):X0:=if L9 cs r then (Wj cs r).kind else []
def Q0t (cs:List Cel) (r:Int):Int:=if L9 cs r then (Wj cs r).vals.length else 0
def P4 (ok:X0→Bool) (cs:List Cel) (v:Val):X0:=
 if v=Val.zero then H8 else if v=⟨1,v.n,[],0⟩ then P9 else if v=⟨2,v.n,[],0⟩∧(v.n=0∨v.n=1) then Jd
 else if v=⟨3,0,v.s,0⟩∧ok v.s=true then D2 else if v=⟨4,0,[],v.ref⟩ then O5 cs v.ref else []
def F2 (ok:X0→Bool) (l:List Cla) (cs:List Cel) (v:Val) (k:X0):Bool:= !decide (P4 ok cs v=[])&&Xt l (P4 ok cs v) k
def P8 (l:List Cla) (room:Int) (cs:List Cel) (k:X0):List Cel×Int:=
 if A5 l k=false then (cs,91) else if W7 room cs<1+((Y4 l k).length:Int) then (cs,90) else (cs++[⟨k,(Y4 l k).map fun f=>W1 f.kind⟩],0)
def B6 (l:List Cla) (e:X0):Bool:= !decide (e=H8)&&N2 l e&&decide (Yf e≤2)
def T3 (l:List Cla) (room:Int) (cs:List Cel) (e:X0) (n:Int):List Cel×Int:=
 if B6 l e=false then (cs,91) else if n<0 then (cs,93) else if W7 room cs≤n then (cs,90) else (cs++[⟨e++[91,93],List.replicate n.toNat (W1 e)⟩],0)
def D9 (cs:List Cel) (r a:Int):Int:=if L9 cs r then (if 0≤a∧a<((Wj cs r).vals.length:Int) then 0 else 93) else 92
def Nt (cs:List Cel) (r a:Int):Val:=if D9 cs r a=0 then (Wj cs r).vals.getD a.toNat Val.zero else Val.zero
def Xl (l:List Cla) (k:X0) (i:Nat):X0:=if elem k=[] then ((Y4 l k).getD i Fld.zero).kind else elem k
def F3 (cs:List Cel) (r a:Int) (v:Val):List Cel:=cs.set r.toNat ⟨(Wj cs r).kind,(Wj cs r).vals.set a.toNat v⟩
def H6 (ok:X0→Bool) (l:List Cla) (cs:List Cel) (r a:Int) (v:Val):List Cel×Int:=
 if D9 cs r a≠0 then (cs,D9 cs r a) else if F2 ok l cs v (Xl l (Wj cs r).kind a.toNat) then (F3 cs r a v,0) else (cs,91)
def G5 (n:Int) (v:Val):Bool:=decide (v.sort=4)&&decide (n≤v.ref)
def Tj (cs:List Cel) (n:Int):List Cel:=
 if (cs.take (max n 0).toNat).any (fun c=>c.vals.any (G5 (max n 0))) then cs else cs.take (max n 0).toNat
structure ActH where
  kind : Int
  s : X0
  n : Int
  ref : Int
  v : Val
deriving DecidableEq
def B2 (ok:X0→Bool) (l:List Cla) (room:Int) (cs:List Cel) (x:ActH):List Cel:=
 if x.kind=0 then (P8 l room cs x.s).1 else if x.kind=1 then (T3 l room cs x.s x.n).1 else if x.kind=2 then (H6 ok l cs x.ref x.n x.v).1
 else if x.kind=4 then Tj cs x.ref else cs
structure GoodC (ok : X0 → Bool) (l : List Cla) (cs : List Cel) (c : Cel) : Prop where
  is : elem c.kind ≠ [] ∨ (A5 l c.kind = true ∧ c.vals.length = (Y4 l c.kind).length)
  kd : N2 l c.kind = true
  fits : ∀ i (h : i < c.vals.length), F2 ok l cs c.vals[i] (Xl l c.kind i) = true
structure GoodH (ok : X0 → Bool) (l : List Cla) (room : Int) (cs : List Cel) : Prop where
  cells : ∀ c ∈ cs, GoodC ok l cs c
  left : 0 ≤ W7 room cs
theorem Ql (a b:List Cel):Z7 (a++b)=Z7 a+Z7 b:=by simp[Z7]
theorem E0 (a:List Cel):0≤Z7 a:=by
 unfold Z7
 induction a with
 | nil=>simp
 | cons c r b=>simp only[List.map_cons,List.sum_cons];omega
theorem Qt (a:List Cel):(a.length:Int)≤Z7 a:=by
 unfold Z7
 induction a with
 | nil=>simp
 | cons c r b=>simp only[List.map_cons,List.sum_cons,List.length_cons];omega
theorem M4 {cs:List Cel} {r:Int}:L9 cs r=true↔ ∃i:Nat,r=i∧i<cs.length:=by
 simp only[L9,Bool.and_eq_true,decide_eq_true_eq]
 constructor
 ·rintro ⟨a,b⟩;exact ⟨r.toNat,by omega,by omega⟩
 ·rintro ⟨i,rfl,h⟩;omega
theorem W4 {cs:List Cel} {i:Nat} (h:i<cs.length):Wj cs (i:Int)=cs[i]:=by
 unfold Wj;rw[Int.toNat_natCast,List.getD_eq_getElem?_getD,List.getElem?_eq_getElem h];rfl
theorem Qs {cs:List Cel} {i:Nat} (h:i<cs.length):O5 cs (i:Int)=cs[i].kind:=by
 unfold O5;rw[if_pos (M4.2 ⟨i,rfl,h⟩),W4 h]
theorem X0O {ok:X0→Bool} {cs a:List Cel} {v:Val} (h:v.sort=4→O5 cs v.ref≠[]→O5 a v.ref=O5 cs v.ref) (c:P4 ok cs v≠[]):P4 ok a v=P4 ok cs v:=by
 unfold P4 at*
 split
 ·rfl
 ·split
  ·rfl
  ·split
   ·rfl
   ·split
    ·rfl
    ·split
     ·rename_i e f g d b
      rw[if_neg e,if_neg f,if_neg g,if_neg d,if_pos b] at c
      exact h (by rw[b]) c
     ·rfl
theorem Rc {ok:X0→Bool} {l:List Cla} {cs a:List Cel} {v:Val} {k:X0} (h:v.sort=4→O5 cs v.ref≠[]→O5 a v.ref=O5 cs v.ref) (b:F2 ok l cs v k=true):F2 ok l a v k=true:=by
 unfold F2 at*
 have c:P4 ok cs v≠[]:=by
  intro e;rw[e] at b;simp at b
 rw[X0O h c];exact b
theorem Q8h {cs more:List Cel} {r:Int} (h:O5 cs r≠[]):O5 (cs++more) r=O5 cs r:=by
 have b:L9 cs r=true:=by
  cases c:L9 cs r with
  | true=>rfl
  | false=>unfold O5 at h;rw[c] at h;simp at h
 obtain ⟨i,rfl,a⟩:=M4.1 b
 rw[Qs a,Qs (by simp;omega),List.getElem_append_left a]
theorem GoodC.app {ok:X0→Bool} {l:List Cla} {cs more:List Cel} {c:Cel} (h:GoodC ok l cs c):GoodC ok l (cs++more) c:=
 ⟨h.is,h.kd,fun i b=>Rc (fun _ a=>Q8h a) (h.fits i b)⟩
section
variable {ok : X0 → Bool} {l : List Cla} {room : Int} {cs : List Cel}
theorem GoodH.snoc (h:GoodH ok l room cs) {c:Cel} (a:GoodC ok l (cs++[c]) c) (b:1+(c.vals.length:Int)≤W7 room cs):GoodH ok l room (cs++[c]):=by
 refine ⟨fun d hd=>?_,?_⟩
 ·rcases List.mem_append.1 hd with hd | hd
  ·exact (h.cells d hd).app
  ·simp at hd;subst hd;exact a
 ·unfold W7 at*;rw[Ql];simp only[Z7,List.map_cons,List.map_nil,List.sum_cons,List.sum_nil] at*;omega
end
end Go.Hm
namespace Go.Proofs.YtjdiakhipmggjaaGreatDoor
open Go.Emb Go.RowKit Go.Kd Go.Hm
section
variable {l : List Cla} (wf : Wf l)
include wf
theorem Wf.field_kinds {n:X0} {f:Fld} (h:f∈Y4 (Q4 l) n):O6 (Q4 l) f.kind=true:=by
 unfold Y4 at h
 obtain ⟨c,i,e⟩:=List.mem_flatMap.1 h
 have j:=(Q7o wf.acy _ (Nat.lt_succ_self _) (by simpa using i)).2
 obtain ⟨_,a,_⟩:=V4 j
 rcases List.mem_append.1 a with k | hl
 ·have d: ∀c∈I1,∀f∈c.fields,f.kind=D2:=by decide
  rw[d c k f e]
  have:N2 (Q4 l) D2=true:=by
   have g:right D2=true:=by decide
   have m:plain (base D2).1=true:=by decide
   simp[N2,g,m]
  simp[O6,this];decide
 ·have:=wf.mem c hl
  unfold V7 at this
  split at this
  ·cases this
  ·split at this
   ·cases this
   ·rename_i b
    have b:B4 (Q4 l) c=false:=eq_false_of_ne_true b
    unfold B4 at b
    rw[Bool.or_eq_false_iff] at b
    have:=List.any_eq_false.1 b.1 f e
    simpa using this
theorem Wf.zero_fits {ok:X0→Bool} (g:ok []=true) {cs:List Cel} {k:X0} (h:O6 (Q4 l) k=true):F2 ok (Q4 l) cs (W1 k) k=true:=by
 have a:N2 (Q4 l) k=true∧k≠H8:=by
  simp only[O6,Bool.and_eq_true,Bool.not_eq_true',decide_eq_false_iff_not] at h;exact ⟨h.2,h.1⟩
 by_cases f:k=P9
 ·subst f
  have:F2 ok (Q4 l) cs (W1 P9) P9=Xt (Q4 l) P9 P9:=by
   unfold F2;simp[W1,P4,Val.zero,P9]
  rw[this];exact wf.sub_refl a.1
 by_cases c:k=Jd
 ·subst c
  have:F2 ok (Q4 l) cs (W1 Jd) Jd=Xt (Q4 l) Jd Jd:=by
   unfold F2;simp[W1,P4,Val.zero,Jd,P9]
  rw[this];exact wf.sub_refl a.1
 by_cases d:k=D2
 ·subst d
  have:F2 ok (Q4 l) cs (W1 D2) D2=Xt (Q4 l) D2 D2:=by
   unfold F2;simp[W1,P4,Val.zero,Jd,P9,D2,g]
  rw[this];exact wf.sub_refl a.1
 ·have i:W1 k=Val.zero:=by simp[W1,f,c,d]
  have:F2 ok (Q4 l) cs (W1 k) k=Xt (Q4 l) H8 k:=by
   rw[i];unfold F2 P4;simp[H8]
  rw[this]
  have b:plain k=false:=by
   cases b:plain k with
   | false=>rfl
   | true=>
    simp only[plain,Bool.or_eq_true,decide_eq_true_eq] at b
    rcases b with (e | e) | e
    ·exact absurd e f
    ·exact absurd e c
    ·exact absurd e d
  exact wf.sub_iff.2 ⟨by simp[N2],a.1, .inr ⟨by decide,b, .inl rfl⟩⟩
end
theorem Q6D (a:X0):arr (a++[91,93])=true:=by
 simp[arr]
theorem Q6z (a:X0):Kd.cutA (a++[91,93])=a:=by
 simp[Kd.cutA]
theorem Q0l (a:X0):base (a++[91,93])=((base a).1,(base a).2+1):=by
 rw[Yb,Q6D,if_pos rfl,Q6z]
theorem Q8f {a:X0} (h:right a=true) (b:(base a).2≤2):right (a++[91,93])=true:=by
 unfold right at*
 rw[Q0l]
 simp only[Bool.and_eq_true,decide_eq_true_eq] at*
 exact ⟨by omega,h.2⟩
theorem Q9T {a:X0} (h:right (a++[91,93])=true):elem (a++[91,93])=a:=by
 unfold elem;rw[Q6D,h,Q6z];rfl
theorem Q3l {l:List Cla} {e:X0}:B6 l e=true↔O6 l e=true∧right (e++[91,93])=true:=by
 unfold B6 O6
 simp only[Bool.and_eq_true,Bool.not_eq_true',decide_eq_false_iff_not,decide_eq_true_eq]
 constructor
 ·rintro ⟨⟨b,h2⟩,a⟩
  have c:right e=true:=by
   unfold N2 at h2
   simp only[Bool.or_eq_true,Bool.and_eq_true,decide_eq_true_eq] at h2
   rcases h2 with h2 | h2
   ·exact absurd h2 b
   ·exact h2.1
  unfold Yf at a
  rw[if_pos c] at a
  exact ⟨⟨b,h2⟩,Q8f c a⟩
 ·rintro ⟨⟨b,h2⟩,a⟩
  refine ⟨⟨b,h2⟩,?_⟩
  unfold right at a
  rw[Q0l] at a
  simp only[Bool.and_eq_true,decide_eq_true_eq] at a
  unfold Yf
  split
  ·omega
  ·omega
section
variable {ok : X0 → Bool} {l : List Cla} {room : Int} {cs : List Cel}
theorem GoodH.obj (wf:Wf l) (f:ok []=true) (h:GoodH ok (Q4 l) room cs) (k:X0):GoodH ok (Q4 l) room (P8 (Q4 l) room cs k).1:=by
 unfold P8
 split
 ·exact h
 split
 ·exact h
 rename_i a j
 have a:A5 (Q4 l) k=true:=by simpa using a
 have d: ∃c,lk (Q4 l) k=some c:=by
  unfold A5 at a
  cases b:lk (Q4 l) k with
  | none=>rw[b] at a;cases a
  | some c=>exact ⟨c,rfl⟩
 obtain ⟨c,b⟩:=d
 have g:elem k=[]:=wf.lkArr b
 refine h.snoc ⟨.inr ⟨a,by simp⟩,wf.kind b,fun i e=>?_⟩ (by simp only[List.length_map];omega)
 simp only[List.length_map] at e
 simp only[List.getElem_map,Xl,g,if_pos]
 rw[List.getD_eq_getElem?_getD,List.getElem?_eq_getElem e]
 exact wf.zero_fits f (wf.field_kinds (List.getElem_mem e))
theorem GoodH.arr (wf:Wf l) (k:ok []=true) (h:GoodH ok (Q4 l) room cs) (e:X0) (n:Int):GoodH ok (Q4 l) room (T3 (Q4 l) room cs e n).1:=by
 unfold T3
 split
 ·exact h
 split
 ·exact h
 split
 ·exact h
 rename_i d m p
 have d:B6 (Q4 l) e=true:=by simpa using d
 obtain ⟨j,c⟩:=Q3l.1 d
 have g:=Q9T c
 have b:e≠[]:=by
  rintro rfl
  revert c;decide
 have a:N2 (Q4 l) (e++[91,93])=true:=by
  have a:=j
  unfold O6 at a
  simp only[Bool.and_eq_true,Bool.not_eq_true',decide_eq_false_iff_not] at a
  obtain ⟨f,hk2⟩:=a
  unfold N2 at hk2⊢
  simp only[Bool.or_eq_true,Bool.and_eq_true,decide_eq_true_eq] at hk2⊢
  rcases hk2 with hk2 | hk2
  ·exact absurd hk2 f
  ·right;rw[Q0l];exact ⟨c,hk2.2⟩
 refine h.snoc ⟨.inl (by simp only;rw[g];exact b),a,fun i o=>?_⟩ (by simp only[List.length_replicate];omega)
 simp only[List.getElem_replicate,Xl,g,if_neg b]
 exact wf.zero_fits k j
theorem Q3t {r b x:Int} {v:Val} (f:L9 cs r=true):O5 (F3 cs r b v) x=O5 cs x:=by
 obtain ⟨i,rfl,g⟩:=M4.1 f
 have a:(F3 cs i b v).length=cs.length:=by simp[F3]
 cases c:L9 cs x with
 | false=>
  have:L9 (F3 cs i b v) x=false:=by unfold L9 at*;rw[a];exact c
  unfold O5;rw[c,this];rfl
 | true=>
  obtain ⟨j,rfl,d⟩:=M4.1 c
  rw[Qs d,Qs (by rw[a];exact d)]
  simp only[F3,Int.toNat_natCast,W4 g,List.getElem_set]
  split
  ·rename_i e;subst e;rfl
  ·rfl
theorem Lm {r a:Int} (h:D9 cs r a=0): ∃i j:Nat,r=i∧a=j∧ ∃(b:i<cs.length),j<(cs[i]).vals.length:=by
 unfold D9 at h
 split at h
 ·rename_i c
  obtain ⟨i,rfl,b⟩:=M4.1 c
  split at h
  ·rename_i d
   rw[W4 b] at d
   exact ⟨i,a.toNat,rfl,by omega,b,by omega⟩
  ·cases h
 ·cases h
theorem GoodH.set (h:GoodH ok (Q4 l) room cs) (r m:Int) (v:Val):GoodH ok (Q4 l) room (H6 ok (Q4 l) cs r m v).1:=by
 unfold H6
 split
 ·exact h
 rename_i p
 have p:D9 cs r m=0:=by simpa using p
 split
 ·rename_i t
  obtain ⟨i,j,rfl,rfl,g,C⟩:=Lm p
  have w:L9 cs (i:Int)=true:=M4.2 ⟨i,rfl,g⟩
  rw[W4 g,Int.toNat_natCast] at t
  refine ⟨fun c y=>?_,?_⟩
  ·have b: ∀{u:Val} {k:X0},F2 ok (Q4 l) cs u k=true→F2 ok (Q4 l) (F3 cs i j v) u k=true:=fun A=>Rc (fun _ _=>Q3t w) A
   have a: ∀d∈cs,GoodC ok (Q4 l) (F3 cs i j v) d:=fun d o=>⟨(h.cells d o).is,(h.cells d o).kd,fun q n=>b ((h.cells d o).fits q n)⟩
   have f:c∈cs.set i ⟨cs[i].kind,cs[i].vals.set j v⟩:=by simpa [F3,W4 g] using y
   rcases List.mem_or_eq_of_mem_set f with f | rfl
   ·exact a c f
   ·have s:=a _ (List.getElem_mem g)
    refine ⟨by simpa using s.is,s.kd,fun q n=>?_⟩
    simp only[List.length_set] at n
    simp only[List.getElem_set]
    split
    ·rename_i e;subst e;exact b t
    ·exact s.fits q n
  ·have e:Z7 (F3 cs i j v)=Z7 cs:=by
    unfold Z7
    congr 1
    have B:(F3 cs i j v).map (fun c=>1+(c.vals.length:Int))=cs.map (fun c=>1+(c.vals.length:Int)):=by
     unfold F3
     rw[List.map_set,W4 g]
     simp only[List.length_set,Int.toNat_natCast]
     have z:1+(cs[i].vals.length:Int)=(cs.map (fun c=>1+(c.vals.length:Int)))[i]'(by simpa using g):=by simp
     rw[z,List.set_getElem_self]
    exact B
   have:=h.left
   unfold W7 at*
   rw[e];exact this
 ·exact h
theorem GoodH.cut (h:GoodH ok (Q4 l) room cs) (n:Int):GoodH ok (Q4 l) room (Tj cs n):=by
 unfold Tj
 split
 ·exact h
 rename_i hn
 have hn:=eq_false_of_ne_true hn
 generalize hm:max n 0=m at*
 have hm0:0≤m:=by omega
 refine ⟨fun c hc=>?_,?_⟩
 ·have hcs:=List.mem_of_mem_take hc
  refine ⟨(h.cells c hcs).is,(h.cells c hcs).kd,fun i hi=>Rc (fun h4 hk=>?_) ((h.cells c hcs).fits i hi)⟩
  have h1:=List.any_eq_false.1 hn c hc
  have h2: ¬G5 m c.vals[i]=true:=fun e=>h1 (List.any_eq_true.2 ⟨_,List.getElem_mem hi,e⟩)
  have hr:L9 cs c.vals[i].ref=true:=by
   cases he:L9 cs c.vals[i].ref with
   | true=>rfl
   | false=>unfold O5 at hk;rw[he] at hk;simp at hk
  obtain ⟨j,hj,hjl⟩:=M4.1 hr
  have hjm:(j:Int)<m:=by
   simp only[G5,Bool.and_eq_true,decide_eq_true_eq,not_and] at h2
   have:=h2 h4
   omega
  rw[hj,Qs hjl,Qs (by rw[List.length_take];omega)]
  simp
 ·have:Z7 cs=Z7 (cs.take m.toNat)+Z7 (cs.drop m.toNat):=by rw[←Ql,List.take_append_drop]
  have h3:=E0 (cs.drop m.toNat)
  have:=h.left
  unfold W7 at*
  omega
theorem GoodH.act (wf:Wf l) (a:ok []=true) (h:GoodH ok (Q4 l) room cs) (x:ActH):GoodH ok (Q4 l) room (B2 ok (Q4 l) room cs x):=by
 unfold B2
 split
 ·exact GoodH.obj wf a h _
 split
 ·exact GoodH.arr wf a h _ _
 split
 ·exact GoodH.set h _ _ _
 split
 ·exact GoodH.cut h _
 ·exact h
theorem GoodH.empty (a:0≤room):GoodH ok l room []:=⟨by simp,by simpa [W7,Z7] using a⟩
end
end Go.Proofs.YtjdiakhipmggjaaGreatDoor

namespace Go.Emb
open Go.RowKit Go.Hm
variable {P : Program} {w w0 w1 w' w'' : World} {K : Value → World → Prop} {σ σ0 σ1 σ' : Q6}
def O9 (_:Q6) (v:Val) (cs:List Value):Prop:=cs=[I v.sort,I v.n,S v.s,I v.ref]∧Yz v.sort∧Yz v.n∧v.s.length≤U0∧Yz v.ref
instance:Rep O9:=⟨fun _ h=>h,fun h u hu=>by rw[h.1] at hu;simp at hu;rcases hu with rfl | rfl | rfl | rfl<;>rfl⟩
def S1 (σ:Q6) (c:Cel) (cs:List Value):Prop:= ∃v,cs=[S c.kind,v]∧Sl 4 O9 σ v c.vals∧c.kind.length≤U0
instance:Rep S1:=⟨fun hk ⟨v,h1,h2,h3⟩=>⟨v,h1,h2.le hk,h3⟩,fun ⟨v,h1,h2,h3⟩ u hu=>by
 rw[h1] at hu;simp at hu;rcases hu with rfl | rfl
 ·rfl
 ·exact A6 h2⟩
theorem X0d {c:Cel} {cs:List Value} (h:S1 σ0 c cs) (k:SLe σ0 σ):S1 σ c cs:=Rep.up k.le h
def Q46 (_:Q6) (x:List UInt8×Value) (cs:List Value):Prop:=cs=[S x.1,x.2]∧x.1.length≤U0∧ ∃a n c,x.2= .slice a n c
instance:Rep Q46:=⟨fun _ h=>h,fun ⟨h1,_,a,n,c,h2⟩ u hu=>by
 rw[h1,h2] at hu;simp at hu;rcases hu with rfl | rfl<;>rfl⟩
section
variable {α : Type} {R : Q6 → α → List Value → Prop} {B sz : Nat} {e : TypeId} {v u : Value} {xs : List α}
theorem J9.shiftR [hr:Rep R] (h:J9 B e sz R σ w v xs) (r:SLe σ σ') (m: ∀k,v.ownBlock=some k→σ' k=none):J9 B e sz R σ' w v xs:=by
 obtain ⟨a,l,rfl,z,p,c,y⟩:=h
 refine ⟨a,l,rfl,z,p,fun b d=>⟨(c b d).1,(c b d).2.1,(c b d).2.2.1,by subst d;exact m _ rfl⟩,fun q=>?_⟩
 obtain ⟨g,j,f,rfl,o,C,t,n,s⟩:=y q
 exact ⟨g,j,f,rfl,o,m g rfl,t,n,fun i x A=>hr.up r.le (s i x A)⟩
def Td (w:World):World:={w with heap:= #[]}
theorem Zb (c:X2 w σ):Stp (Td w) (fun _=>none) w σ:=
 ⟨⟨rfl,rfl,rfl,Nat.zero_le _,fun k d=>absurd d (Nat.not_lt_zero k)⟩,c,fun _ _ h=>(by cases h),fun b a=>absurd a (Nat.not_lt_zero b)⟩
theorem J9.freeze [hr:Rep R] (b:X2 w σ) (h:J9 B e sz R σ w v xs): ∃σ',X2 w σ'∧SLe σ σ'∧Sl sz R σ' v xs∧ ∀k,some k≠v.ownBlock→σ' k=σ k:=by
 obtain ⟨σ',d,c,f,a⟩:=(h.mono (Nat.zero_le B):J9 (Td w).heap.size e sz R σ w v xs).keep (Zb b)
 exact ⟨σ',d.sat,f,c,a⟩
theorem Y3.freeze {b:Nat} {cs:List Value} (c:X2 w σ) (h:Y3 σ w b cs): ∃σ',X2 w σ'∧SLe σ σ'∧Z6 σ' ⟨b,0,none⟩ cs∧ ∀k,k≠b→σ' k=σ k:=by
 obtain ⟨σ',f,d,g,a⟩:=h.keep (Zb c) (Nat.zero_le b)
 exact ⟨σ',f.sat,⟨g⟩,d,a⟩
end
def X1G (vs:List Value):Prop:=vs.Pairwise fun a b=> ∀k,a.ownBlock=some k→b.ownBlock≠some k
def Q30 (B:Nat) (e:TypeId) (σ:Q6) (w:World) (vs:List Value) (cs:List Cel):Prop:=vs.length=cs.length∧ ∀i (h:i<vs.length) (a:i<cs.length),J9 B e 4 O9 σ w vs[i] cs[i].vals
theorem Q30.freeze {B:Nat} {e:TypeId}: ∀{vs:List Value} {cs:List Cel} {σ:Q6},X2 w σ→Q30 B e σ w vs cs→X1G vs→
 ∃σ',X2 w σ'∧SLe σ σ'∧(∀i (h:i<vs.length) (z:i<cs.length),Sl 4 O9 σ' vs[i] cs[i].vals)∧ ∀k,(∀v∈vs,v.ownBlock≠some k)→σ' k=σ k
 | [],cs,σ,f,h,j=>⟨σ,f,SLe.refl _,fun i h=>absurd h (Nat.not_lt_zero i),fun _ _=>rfl⟩
 | v::vs,[],σ,f,h,j=>by have:=h.1;simp at this
 | v::vs,c::cs,σ,f,h,j=>by
  obtain ⟨σ1,t,m,r,o1⟩:=(h.2 0 (by simp) (by simp)).freeze f
  obtain ⟨g,l⟩:=List.pairwise_cons.1 j
  have o:Q30 B e σ1 w vs cs:=⟨by simpa using h.1,fun i d a=>by
   have:=h.2 (i+1) (by simpa using d) (by simpa using a)
   simp only[List.getElem_cons_succ] at this
   refine this.shiftR m fun k b=>?_
   rw[o1 k fun e=>g _ (List.getElem_mem d) k e.symm b]
   exact (this.mem b).2.2⟩
  obtain ⟨y,q,n,p,o2⟩:=Q30.freeze t o l
  refine ⟨y,q,m.more n,fun i d a=>?_,fun k b=>?_⟩
  ·cases i with
   | zero=>exact r.lift n
   | succ i=>exact p i (by simpa using d) (by simpa using a)
  ·rw[o2 k fun u s=>b u (by simp[s]),o1 k fun e=>b v (by simp) e.symm]
def Xb (vs:List Value) (cs:List Cel):List (List UInt8×Value):=List.zipWith (fun v c=>(c.kind,v)) vs cs
theorem Du {vs:List Value} {cs:List Cel} (h:vs.length=cs.length):(Xb vs cs).length=cs.length:=by simp[Xb,h]
end Go.Emb
namespace Go.Proofs.YtjdiakhipmggjaaGreatDoor
open Go.Emb Go.RowKit Go.Kd Go.Hm
variable {w w' : World} {K : Value → World → Prop} {σ σ' : Q6}
def B8 (σ:Q6) (hp tv:Value) (room:Int) (cs:List Cel):Prop:= ∃a lv,hp= .pointer (some a)∧Z6 σ a [tv,I room,I (Z7 cs),lv]∧Sl 2 S1 σ lv cs
theorem B8.lift {hp tv:Value} {room:Int} {cs:List Cel} (h:B8 σ hp tv room cs) (b:SLe σ σ'):B8 σ' hp tv room cs:=by
 obtain ⟨a,lv,d,c,f⟩:=h
 exact ⟨a,lv,d,c.lift b,f.lift b⟩
structure RowsIs (B : Nat) (D : Nat → Prop) (σ : Q6) (w : World) (lv : Value) (cs : List Cel) : Prop where
  ex : ∃ vs, J9 B T.o 2 Q46 σ w lv (Xb vs cs) ∧ Q30 B T.f σ w vs cs ∧ X1G (lv :: vs) ∧ ∀ k, D k ↔ ∃ v ∈ lv :: vs, v.ownBlock = some k
structure HeapIs (B : Nat) (D : Nat → Prop) (σ : Q6) (w : World) (hp tv : Value) (room : Int) (cs : List Cel) : Prop where
  ex : ∃ b lv E, hp = .pointer (some ⟨b, 0, none⟩) ∧ B ≤ b ∧ Y3 σ w b [tv, I room, I (Z7 cs), lv] ∧ RowsIs B E σ w lv cs ∧ ¬ E b ∧ ∀ k, D k ↔ (k = b ∨ E k)
section
variable {B : Nat} {D E : Nat → Prop} {lv hp tv : Value} {room : Int} {cs : List Cel}
theorem RowsIs.mem (h:RowsIs B D σ w lv cs) {k:Nat} (a:D k):B≤k∧k<w.heap.size∧σ k=none:=by
 obtain ⟨vs,d,b,f,hD⟩:=h.ex
 obtain ⟨v,hv,a⟩:=(hD k).1 a
 rcases List.mem_cons.1 hv with rfl | hv
 ·exact d.mem a
 ·obtain ⟨i,c,rfl⟩:=List.getElem_of_mem hv
  exact (b.2 i c (by rw[←b.1];exact c)).mem a
theorem RowsIs.nx (h:RowsIs B D σ w lv cs) (k:Nxt E w σ w' σ') (d: ∀k,D k→ ¬E k):RowsIs B D σ' w' lv cs:=by
 obtain ⟨vs,l,c,g,hD⟩:=h.ex
 exact ⟨vs,l.nx k fun i a=>d i ((hD i).2 ⟨lv,by simp,a⟩),⟨c.1,fun i a b=>(c.2 i a b).nx k fun j f=>d j ((hD j).2 ⟨vs[i],by simp[List.getElem_mem a],f⟩)⟩,g,hD⟩
theorem RowsIs.up (h:RowsIs B D σ w lv cs) (k:Stp w σ w' σ'):RowsIs B D σ' w' lv cs:=
 h.nx (E:=fun _=>False) (.of_stp k) fun _ _=>id
theorem RowsIs.freeze (h:RowsIs B D σ w lv cs) (A:X2 w σ): ∃σ',X2 w σ'∧SLe σ σ'∧Sl 2 S1 σ' lv cs∧ ∀k,¬D k→σ' k=σ k:=by
 obtain ⟨vs,p,g,H,hD⟩:=h.ex
 obtain ⟨d,l⟩:=List.pairwise_cons.1 H
 obtain ⟨σ1,C,m,z,o1⟩:=g.freeze A l
 have f:J9 B T.o 2 Q46 σ1 w lv (Xb vs cs):=p.shiftR m fun k a=>by
  rw[o1 k fun v b e=>d v b k a e];exact (p.mem a).2.2
 obtain ⟨J,y,q,t,o2⟩:=f.freeze C
 refine ⟨J,y,m.more q,t.conv (R':=S1) (ys:=cs) (by rw[Du g.1]) fun i L o c s=>?_,fun k a=>?_⟩
 ·have j:i<vs.length:=by rw[g.1];exact o
  obtain ⟨r,n,_⟩:=s
  have e:(Xb vs cs)[i]=(cs[i].kind,vs[i]):=by simp[Xb]
  rw[e] at r n
  exact ⟨vs[i],r,(z i j o).lift q,n⟩
 ·rw[o2 k fun e=>a ((hD k).2 ⟨lv,by simp,e.symm⟩),o1 k fun v b e=>a ((hD k).2 ⟨v,by simp[b],e⟩)]
theorem HeapIs.mem (h:HeapIs B D σ w hp tv room cs) {k:Nat} (hk:D k):B≤k∧k<w.heap.size∧σ k=none:=by
 obtain ⟨b,lv,E,rfl,hB,a,c,hE,hD⟩:=h.ex
 rcases (hD k).1 hk with rfl | hk
 ·exact ⟨hB,a.lt,a.1⟩
 ·exact c.mem hk
theorem HeapIs.nx {F:Nat→Prop} (h:HeapIs B D σ w hp tv room cs) (k:Nxt F w σ w' σ') (a: ∀k,D k→ ¬F k):HeapIs B D σ' w' hp tv room cs:=by
 obtain ⟨b,lv,E,rfl,hB,d,c,hE,hD⟩:=h.ex
 exact ⟨b,lv,E,rfl,hB,d.nx k (a b ((hD b).2 (.inl rfl))),c.nx k fun i f=>a i ((hD i).2 (.inr f)),hE,hD⟩
theorem HeapIs.up (h:HeapIs B D σ w hp tv room cs) (k:Stp w σ w' σ'):HeapIs B D σ' w' hp tv room cs:=
 h.nx (F:=fun _=>False) (.of_stp k) fun _ _=>id
theorem HeapIs.freeze (h:HeapIs B D σ w hp tv room cs) (p:X2 w σ): ∃σ',X2 w σ'∧SLe σ σ'∧B8 σ' hp tv room cs∧ ∀k,¬D k→σ' k=σ k:=by
 obtain ⟨b,lv,E,rfl,hB,f,i,hE,hD⟩:=h.ex
 obtain ⟨σ1,q,g,m,o1⟩:=i.freeze p
 have a:Y3 σ1 w b [tv,I room,I (Z7 cs),lv]:=⟨by rw[o1 b hE];exact f.1,f.2⟩
 obtain ⟨n,o,c,l,j⟩:=a.freeze q
 exact ⟨n,o,g.more c,⟨_,lv,rfl,l,m.lift c⟩,fun k d=>by rw[j k fun e=>d ((hD k).2 (.inl e)),o1 k fun e=>d ((hD k).2 (.inr e))]⟩
end
end Go.Proofs.YtjdiakhipmggjaaGreatDoor

namespace Go.Emb
open Go.RowKit Go.Hm
variable {H : Type} {enc : TypeId × Value → H} {P : Program} {W : World} {t : TypeId} {cs : List Value} {fuel : Nat} {x : DataW H × List MemPlace}
theorem X1S {g:Array Field} (j:P.underlying t=some (.struct g)) (h:DataW.trod enc P W 0 (fun _=>true) true fuel t cs=some x) (r:Wt P t x.1) (i:Nat) {o m:Nat} {b:TypeId}
 (z:(g[i]?).map (fun f=>(f.type,f.offset))=some (b,o)) (q:P.cellsOf b=m): ∃n y,DataW.trod enc P W 0 (fun _=>true) true n b ((cs.drop o).take m)=some y∧Wt P b y.1:=by
 obtain ⟨xs,n,_,rfl,A,k,s⟩:=DataW.trod_struct j h
 obtain ⟨f,a,l⟩:=Option.map_eq_some_iff.1 z
 cases l
 have c:=s i f a
 have e:i<xs.length:=by rw[k];exact (Array.getElem?_eq_some_iff.1 a).1
 rw[List.getElem?_eq_getElem e,q] at c
 refine ⟨n,_,c,fun m w=>r m ?_⟩
 simp only[DataW.weights,j]
 exact Q84 (i:=i) (u:=f.type) (by rw[List.getElem?_map,Array.getElem?_toList,a];rfl) (by rw[List.getElem?_map,List.getElem?_eq_getElem e];rfl) m w
def Fs (_:Q6) (x:ActH) (cs:List Value):Prop:=cs=[I x.kind,S x.s,I x.n,I x.ref,I x.v.sort,I x.v.n,S x.v.s,I x.v.ref]∧(Yz x.kind∧x.s.length≤U0∧Yz x.n∧Yz x.ref)∧Yz x.v.sort∧Yz x.v.n∧x.v.s.length≤U0∧Yz x.v.ref
instance:Rep Fs:=⟨fun _ h=>h,fun h u hu=>by rw[h.1] at hu;simp at hu;rcases hu with rfl | rfl | rfl | rfl | rfl | rfl | rfl | rfl<;>rfl⟩
end Go.Emb
namespace Go.Proofs.YtjdiakhipmggjaaGreatDoor
open Go.Emb Go.RowKit Go.Kd Go.Hm
variable {H : Type} {enc : TypeId × Value → H} {W : World} {cs : List Value} {fuel : Nat} {x : DataW H × List MemPlace}
def X42:Array Field:= #[⟨"Sort",T.e,0,false, "", "",0⟩,⟨"N",T.a1,1,false, "", "",8⟩,⟨"S",T.c,2,false, "", "",16⟩,⟨"Ref",T.e,3,false, "", "",32⟩]
theorem Q3h:P.underlying T.f=some (.struct X42):=by kernel_rfl
theorem Q48:P.underlying T.a1=some (.int .i64):=by kernel_rfl
theorem X32 (h:DataW.trod enc P W 0 (fun _=>true) true fuel T.f cs=some x) (a:Wt P T.f x.1): ∃y,O9 (Wi W) y cs:=by
 obtain ⟨c0,B,A,C,rfl⟩:=X43 (X08 Q3h (by kernel_rfl) h)
 obtain ⟨_,_,r,w0⟩:=Wz (o:=0) Q3h h a 0 rfl Q5j
 obtain ⟨_,_,k,w1⟩:=Wz (o:=1) Q3h h a 1 rfl (by kernel_rfl)
 obtain ⟨_,_,s,w⟩:=Wz (o:=2) Q3h h a 2 rfl Kg
 obtain ⟨_,_,i,D⟩:=Wz (o:=3) Q3h h a 3 rfl Q5j
 obtain ⟨u,e,g⟩:=Gm Q1N r
 obtain ⟨z,c,j⟩:=Gm Q48 k
 obtain ⟨m,b,l⟩:=Q6y X8 s w
 obtain ⟨q,f,n⟩:=Gm Q1N i
 simp at e c b f
 subst e c b f
 exact ⟨⟨u,z,m,q⟩,rfl,g,j,l,n⟩
def X4d:Array Field:= #[⟨"Kind",T.e,0,false, "", "",0⟩,⟨"S",T.c,1,false, "", "",8⟩,⟨"N",T.a1,2,false, "", "",24⟩,⟨"Ref",T.e,3,false, "", "",32⟩,⟨"V",T.f,4,false, "", "",40⟩]
theorem Q1T:P.underlying T.m=some (.struct X4d):=by kernel_rfl
theorem X2V (h:DataW.trod enc P W 0 (fun _=>true) true fuel T.m cs=some x) (a:Wt P T.m x.1): ∃y,Fs (Wi W) y cs:=by
 obtain ⟨c0,U,Q,X,R,O,V,c7,rfl⟩:=X4c (X08 Q1T (by kernel_rfl) h)
 obtain ⟨_,_,C,w0⟩:=Wz (o:=0) Q1T h a 0 rfl Q5j
 obtain ⟨_,_,l,w1⟩:=Wz (o:=1) Q1T h a 1 rfl Kg
 obtain ⟨_,_,E,Z⟩:=Wz (o:=2) Q1T h a 2 rfl (by kernel_rfl)
 obtain ⟨_,_,j,Y⟩:=Wz (o:=3) Q1T h a 3 rfl Q5j
 obtain ⟨_,_,r,q⟩:=X1S (o:=4) (m:=4) Q1T h a 4 rfl (by kernel_rfl)
 obtain ⟨J,f,i⟩:=Gm Q1N C
 obtain ⟨M,e,k⟩:=Q6y X8 l w1
 obtain ⟨u,c,s⟩:=Gm Q48 E
 obtain ⟨B,g,z⟩:=Gm Q1N j
 obtain ⟨w,b,n⟩:=X32 r q
 simp at f e c g b
 obtain ⟨N,L,A,D⟩:=b
 subst f e c g N L A D
 exact ⟨⟨J,M,u,B,w⟩,rfl,⟨i,k,s,z⟩,n⟩
theorem Q9w:P.underlying T.z=some (.slice T.m):=by kernel_rfl
section
variable {v : Value} {d : DataW H} {p : List MemPlace}
set_option maxRecDepth 100000 in
theorem X2j {base:Nat} (f:Value.okWide P W .any base T.z v) (h:DataW.Trod enc P W 0 (fun _=>true) true T.z v d p) (b:Wt P T.z d): ∃l,Sl 8 Fs (Wi W) v l:=by
 obtain ⟨a,n,c,rfl⟩:=WideShapes.okWide_slice Q9w f
 unfold DataW.Trod at h
 obtain ⟨fuel,h⟩:=h
 obtain ⟨u,l,e,g⟩:=X4k (R:=Fs) (sz:=8) Q9w (by kernel_rfl) (by decide) (fun _ _ _ h b=>X2V h b) h b
 simp[Value.cells] at e
 subst e
 exact ⟨l,g⟩
end
end Go.Proofs.YtjdiakhipmggjaaGreatDoor

namespace Go.Emb
open Go.RowKit Go.Hm
variable {P : Program} {w : World} {K : Value → World → Prop}
theorem Q9j (n:Int):(BitVec.ofInt 64 n &&& BitVec.ofInt 64 1).toNat=(n % 2).toNat:=by
 rw[BitVec.toNat_and,BitVec.toNat_ofInt,BitVec.toNat_ofInt]
 have e:((1:Int) % ((2 ^ 64:Nat):Int)).toNat=1:=by decide
 rw[e,Nat.and_one_is_mod]
 omega
theorem X3t {t:TypeId} {b a:Operand} {n:Int} (h:K (I (n % 2)) w):Q3 P .and t b a (I n) (I 1) w K:=by
 have e:Q3 P .and t b a (I n) (I 1) w K=K (I (n % 2)) w:=X9 (by
  have d:(BitVec.ofInt IntKind.i64.bits n &&& BitVec.ofInt IntKind.i64.bits 1).toNat=(n % 2).toNat:=Q9j n
  have f:IntKind.i64.wrap ((n % 2).toNat:Int)=n % 2:=by rw[F7 (by omega) (by omega)];omega
  have c:((n % 2 ^ IntKind.i64.bits).toNat &&& 1 % 2 ^ IntKind.i64.bits)=(n % 2).toNat:=by
   show ((n % 18446744073709551616).toNat &&& 1)=_
   rw[Nat.and_one_is_mod];omega
  simp[eqGuard,binOp,Op.intBits,c]
  rw[show max (n % 2) 0=n % 2 by omega,F7 (by omega) (by omega)])
 rw[e];exact h
end Go.Emb
namespace Go.Proofs.YtjdiakhipmggjaaGreatDoor
open Go.Emb Go.RowKit Go.Kd Go.Hm
variable {w w' : World} {K : Value → World → Prop} {σ σ' : Q6} {hp tv : Value} {room : Int} {cs : List Cel} {l : List Cla}
theorem X3n:(P.fieldsOf T.f).toList=[⟨"Sort",T.e,0,false, "", "",0⟩,⟨"N",T.a1,1,false, "", "",8⟩,⟨"S",T.c,2,false, "", "",16⟩,⟨"Ref",T.e,3,false, "", "",32⟩]:=by kernel_rfl
set_option maxRecDepth 100000 in
theorem Q7w (a b:Val):(Op.eqFields 9999 [I a.sort,I a.n,S a.s,I a.ref].toArray [I b.sort,I b.n,S b.s,I b.ref].toArray (P.fieldsOf T.f).toList).run P w= .ok (decide (a=b)) w:=by
 rw[X3n]
 have:=Ph (P:=P) (w:=w) (d:=9999) (xs:=[I a.sort,I a.n,S a.s,I a.ref].toArray) (ys:=[I b.sort,I b.n,S b.s,I b.ref].toArray) (f:=⟨"Sort",T.e,0,false, "", "",0⟩) (by decide) rfl rfl (Q4f (k:= .i64) (by kernel_rfl) _ _)
  (Ph (f:=⟨"N",T.a1,1,false, "", "",8⟩) (by decide) rfl rfl (Q4f (k:= .i64) (by kernel_rfl) _ _) (Ph (f:=⟨"S",T.c,2,false, "", "",16⟩) (by decide) rfl rfl (X2H X8 _ _) (Ph (f:=⟨"Ref",T.e,3,false, "", "",32⟩) (by decide) rfl rfl (Q4f (k:= .i64) (by kernel_rfl) _ _) X2f)))
 rw[this]
 congr 1
 obtain ⟨h,g,e,m⟩:=a
 obtain ⟨c,i,j,o⟩:=b
 simp[Bool.decide_and]
theorem Lz {a b d:Int} {c:X0}: ∀u∈[I a,I b,S c,I d],u.oneCell'=true:=by
 intro u e
 simp only[List.mem_cons,List.not_mem_nil,or_false] at e
 rcases e with rfl | rfl | rfl | rfl<;>rfl
set_option maxRecDepth 100000 in
theorem Dx {k j:Operand} {d c g a e i:Int} {b f:X0} (h:K (.bool (decide ((⟨d,c,b,g⟩:Val)=⟨a,e,f,i⟩))) w):Q3 P .eql T.f k j (.agg [I d,I c,S b,I g].toArray) (.agg [I a,I e,S f,I i].toArray) w K:=
 X24 (by kernel_rfl) (by kernel_rfl) (by kernel_rfl) (Q7w ⟨d,c,b,g⟩ ⟨a,e,f,i⟩) h
set_option maxRecDepth 100000 in
theorem Q7N {k j:Operand} {d c g a e i:Int} {b f:X0} (h:K (.bool (!decide ((⟨d,c,b,g⟩:Val)=⟨a,e,f,i⟩))) w):Q3 P .neq T.f k j (.agg [I d,I c,S b,I g].toArray) (.agg [I a,I e,S f,I i].toArray) w K:=
 X21 (by kernel_rfl) (by kernel_rfl) (by kernel_rfl) (Q7w ⟨d,c,b,g⟩ ⟨a,e,f,i⟩) h
theorem Sl.elV {v:Value} {xs:List Val} (h:Sl 4 O9 σ v xs) {i:Nat} (c:i<xs.length):Z6 σ (Vw 4 v i) [I xs[i].sort,I xs[i].n,S xs[i].s,I xs[i].ref]∧O9 σ xs[i] [I xs[i].sort,I xs[i].n,S xs[i].s,I xs[i].ref]:=by
 obtain ⟨cs,b,d,rfl,a⟩:=h.el c;exact ⟨b,rfl,a⟩
theorem Sl.elO {v:Value} {xs:List Cel} (h:Sl 2 S1 σ v xs) {i:Nat} (d:i<xs.length): ∃a,Z6 σ (Vw 2 v i) [S xs[i].kind,a]∧Sl 4 O9 σ a xs[i].vals∧xs[i].kind.length≤U0:=by
 obtain ⟨cs,c,f,a,rfl,e,b⟩:=h.el d;exact ⟨a,c,e,b⟩
theorem X2S (b:X2 w σ) (hh:B8 σ hp tv room cs) (h:K (I cs.length) w):Q1 P F.c1 [hp] w K:=Q20 (by
 obtain ⟨a,e,rfl,c,d⟩:=hh
 unfold Hz
 (try simp only[↓M1,M1,Mb,reduceIte])
 refine ld b c rfl ?_
 refine Q8 d ?_
 exact h)
theorem Q5H (b:X2 w σ) (hh:B8 σ hp tv room cs) (h:K tv w):Q1 P F.aR [hp] w K:=Ah (by
 obtain ⟨a,d,rfl,c,e⟩:=hh
 unfold Di
 rw[M0,fa]
 exact ld b c rfl h)
theorem Q7z (c:X2 w σ) (hh:B8 σ hp tv room cs) (i:0≤W7 room cs) (f:room≤1048576) (h: ∀w',Below w.heap.size w w'→K (I (W7 room cs)) w'):Q1 P F.ag [hp] w K:=Q1a (by
 obtain ⟨a,k,rfl,g,m⟩:=hh
 unfold Ew
 have e:=E0 cs
 unfold W7 at*
 refine U2 c ?_
 (repeat refine Z8 Qd ?_)
 (intros;(repeat (rename_i d;subst d));(try simp only[↓M2,M2,Mb,reduceIte]))
 rename_i j b
 rw[F7 (by omega) (by omega)]
 exact h _ b.stp.bel)
theorem Q5r (c:X2 w σ) (hh:B8 σ hp tv room cs) {r:Int} (h:K (.bool (L9 cs r)) w):Q1 P F.aJ [hp,I r] w K:=Q22 (by
 obtain ⟨a,f,rfl,d,e⟩:=hh
 unfold Hy
 refine P3 ?_
 unfold L9 at h
 cases b:decide ((0:Int)≤r) with
 | false=>
  rw[b] at h
  (try simp only[↓M1,M1,Mb,reduceIte])
  exact h
 | true=>
  rw[b] at h
  (try simp only[↓M1,M1,Mb,reduceIte])
  refine ld c d rfl ?_
  refine Q8 e ?_
  refine Z2 ?_
  (try simp only[↓M1,M1,Mb,reduceIte])
  exact h)
theorem Q1J (b:X2 w σ) (hh:B8 σ hp tv room cs) {r:Int} (h:K (S (O5 cs r)) w):Q1 P F.a7 [hp,I r] w K:=Q19 (by
 unfold Ef
 refine Q5r b hh ?_
 unfold O5 at h
 cases c:L9 cs r with
 | false=>rw[c] at h;(try simp only[↓M1,M1,Mb,reduceIte]);exact h
 | true=>
  rw[c] at h
  obtain ⟨i,rfl,d⟩:=M4.1 c
  rw[W4 d] at h
  obtain ⟨a,k,rfl,f,e⟩:=hh
  obtain ⟨j,g,_,_⟩:=Sl.elO e d
  (try simp only[↓M1,M1,Mb,reduceIte])
  refine ld b f rfl ?_
  refine Y2 e d ?_
  (try simp only[↓M1,M1,Mb,reduceIte])
  exact ld b g rfl h)
theorem Q1x (b:X2 w σ) (hh:B8 σ hp tv room cs) {r:Int} (h:K (I (Q0t cs r)) w):Q1 P F.ah [hp,I r] w K:=Q1m (by
 unfold En
 refine Q5r b hh ?_
 unfold Q0t at h
 cases c:L9 cs r with
 | false=>rw[c] at h;(try simp only[↓M1,M1,Mb,reduceIte]);exact h
 | true=>
  rw[c] at h
  obtain ⟨i,rfl,d⟩:=M4.1 c
  rw[W4 d] at h
  obtain ⟨a,m,rfl,g,e⟩:=hh
  obtain ⟨k,j,f,_⟩:=Sl.elO e d
  (try simp only[↓M1,M1,Mb,reduceIte])
  refine ld b g rfl ?_
  refine Y2 e d ?_
  (try simp only[↓M1,M1,Mb,reduceIte])
  refine ld b j rfl ?_
  exact Q8 f h)
theorem Q7A (e:X2 w σ) (hh:B8 σ hp tv room cs) {r i:Int} (h:K (I (D9 cs r i)) w):Q1 P F.aT [hp,I r,I i] w K:=Aj (by
 unfold Da
 refine Q5r e hh ?_
 unfold D9 at h
 cases c:L9 cs r with
 | false=>rw[c] at h;(try simp only[↓M1,M1,Mb,reduceIte]);exact h
 | true=>
  rw[c] at h
  obtain ⟨j,rfl,d⟩:=M4.1 c
  rw[W4 d] at h
  obtain ⟨a,p,rfl,k,g⟩:=hh
  obtain ⟨o,n,m,_⟩:=Sl.elO g d
  (try simp only[↓M1,M1,Mb,reduceIte])
  by_cases f:i<0
  ·rw[decide_eq_true f]
   (try simp only[↓M1,M1,Mb,reduceIte])
   rw[if_pos rfl,if_neg (by omega)] at h
   exact h
  ·rw[decide_eq_false f]
   (try simp only[↓M1,M1,Mb,reduceIte])
   refine ld e k rfl ?_
   refine Y2 g d ?_
   (try simp only[↓M1,M1,Mb,reduceIte])
   refine ld e n rfl ?_
   refine Q8 m ?_
   refine P3 ?_
   (try simp only[↓M1,M1,Mb,reduceIte])
   refine Q7 (fun b=>?_) (fun b=>?_)
   ·have b:(cs[j].vals.length:Int)≤i:=by simpa using b
    rw[if_pos rfl,if_neg (by omega)] at h
    exact h
   ·have b: ¬(cs[j].vals.length:Int)≤i:=by simpa using b
    rw[if_pos rfl,if_pos (by omega)] at h
    exact h)
theorem Q6n (q:X2 w σ) (hh:B8 σ hp tv room cs) {r i:Int} (h: ∀w' σ',Stp w σ w' σ'→K (.tuple #[.agg [I (Nt cs r i).sort,I (Nt cs r i).n,S (Nt cs r i).s,I (Nt cs r i).ref].toArray,I (D9 cs r i)]) w'):Q1 P F.aI [hp,I r,I i] w K:=Q1Z (by
 unfold Hr
 refine M8 q fun b w1 σ1 u c o=>?_
 have k:=hh.lift ⟨c.le⟩
 refine Q7A c.sat k ?_
 refine Qx ?_
 unfold Nt at h
 by_cases g:D9 cs r i=0
 ·have e:decide (D9 cs r i=0)=true:=decide_eq_true g
  rw[if_pos g,g] at h
  obtain ⟨a,H,rfl,z,y⟩:=k
  simp only[e,Bool.not_true,↓M1,M1,Mb,reduceIte]
  obtain ⟨j,m,rfl,rfl,p,t⟩:=Lm g
  rw[W4 p,Int.toNat_natCast] at h
  obtain ⟨E,D,v,_⟩:=Sl.elO y p
  obtain ⟨C,A⟩:=Sl.elV v t
  refine ld c.sat z rfl ?_
  refine Y2 y p ?_
  (try simp only[↓M1,M1,Mb,reduceIte])
  refine ld c.sat D rfl ?_
  refine Y2 v t ?_
  refine Y5 c.sat C rfl ?_
  refine G0 o c (N0 u (Stp.refl q)) rfl rfl (Rep.one A) fun B f d=>?_
  refine V2 d rfl ?_
  have e:cs[j].vals.getD m Val.zero=cs[j].vals[m]:=by rw[List.getD_eq_getElem?_getD,List.getElem?_eq_getElem t];rfl
  rw[e] at h
  exact h _ _ f.stp
 ·have e:decide (D9 cs r i=0)=false:=by simpa using g
  rw[if_neg g] at h
  simp only[e,Bool.not_false,↓M1,M1,Mb,reduceIte]
  refine W3 (cells:= #[I 0,I 0,S [],I 0]) (by kernel_rfl) ?_
  refine G0 (ds:=[I 0,I 0,S [],I 0]) o c (N0 u (Stp.refl q)) rfl rfl Lz fun B f d=>?_
  refine V2 d rfl ?_
  exact h _ _ f.stp)
theorem Q3M {k:X0} (o:X2 w σ) (h: ∀w' σ',Stp w σ w' σ'→K (.agg [I (W1 k).sort,I (W1 k).n,S (W1 k).s,I (W1 k).ref].toArray) w'):Q1 P F.bk [S k] w K:=Q7a (by
 unfold Q2f
 refine M8 o fun b w1 σ1 q j g=>?_
 have hB:=N0 q (Stp.refl o)
 unfold W1 at h
 have a: ∀(n:Int) (t:K (.agg [I n,I 0,S [],I 0].toArray)=K (.agg [I n,I 0,S [],I 0].toArray)),(∀w' σ',Stp w σ w' σ'→K (.agg [I n,I 0,S [],I 0].toArray) w')→Y0 P T.f (.pointer (some ⟨b,0,none⟩)) (.agg #[I n,I 0,S [],I 0]) w1 fun _ m=>Y8 P T.f (.pointer (some ⟨b,0,none⟩)) m fun p=>K p m:=fun n _ r=>
  G0 (ds:=[I n,I 0,S [],I 0]) g j hB rfl rfl Lz fun m i f=>V2 f rfl (r _ _ i.stp)
 refine P2 ?_
 by_cases e:k=P9
 ·simp only[if_pos e] at h
  rw[show decide (k=[105,110,116])=true from decide_eq_true e]
  refine J7 ?_
  refine W3 (cells:= #[I 1,I 0,S [],I 0]) (by kernel_rfl) ?_
  exact a 1 rfl h
 simp only[if_neg e] at h
 rw[show decide (k=[105,110,116])=false from decide_eq_false e]
 refine J0 ?_
 refine P2 ?_
 by_cases c:k=Jd
 ·simp only[if_pos c] at h
  rw[show decide (k=[98,111,111,108])=true from decide_eq_true c]
  refine J7 ?_
  refine W3 (cells:= #[I 2,I 0,S [],I 0]) (by kernel_rfl) ?_
  exact a 2 rfl h
 simp only[if_neg c] at h
 rw[show decide (k=[98,111,111,108])=false from decide_eq_false c]
 refine J0 ?_
 refine P2 ?_
 by_cases d:k=D2
 ·simp only[if_pos d] at h
  rw[show decide (k=[116,101,120,116])=true from decide_eq_true d]
  refine J7 ?_
  refine W3 (cells:= #[I 3,I 0,S [],I 0]) (by kernel_rfl) ?_
  exact a 3 rfl h
 ·simp only[if_neg d] at h
  rw[show decide (k=[116,101,120,116])=false from decide_eq_false d]
  refine J0 ?_
  refine W3 (cells:= #[I 0,I 0,S [],I 0]) (by kernel_rfl) ?_
  exact a 0 rfl h)
def W8 (s:X0):Bool:=decide (s.length≤4096)&&Lib.validD s
theorem Q8o (hh:B8 σ hp tv room cs) (r:Int):(O5 cs r).length≤U0:=by
 unfold O5
 split
 ·rename_i c
  obtain ⟨i,rfl,b⟩:=M4.1 c
  rw[W4 b]
  obtain ⟨a,f,rfl,e,d⟩:=hh
  exact (Sl.elO d b).choose_spec.2.2
 ·exact Nat.zero_le _
theorem X2d (hh:B8 σ hp tv room cs) (v:Val):(P4 W8 cs v).length≤U0:=by
 unfold P4
 split
 ·decide
 split
 ·decide
 split
 ·decide
 split
 ·decide
 split
 ·exact Q8o hh _
 ·exact Nat.zero_le _
theorem Q6s (n:Int):n=n % 2↔n=0∨n=1:=by omega
set_option maxHeartbeats 1000000 in
theorem X4z (Y:X2 w σ) (X:Glb σ) (hh:B8 σ hp tv room cs) {v:Val} (W:v.s.length≤U0) (h: ∀w' σ',Stp w σ w' σ'→K (S (P4 W8 cs v)) w'):Q1 P F.cd [hp, .agg [I v.sort,I v.n,S v.s,I v.ref].toArray] w K:=Q2O (by
 unfold Rw
 refine Y9 Y fun q w1 σ1 g k=>?_
 have f:=g.sat
 refine Y5 f k rfl ?_
 refine W3 (cells:= #[I 0,I 0,S [],I 0]) (by kernel_rfl) ?_
 refine Dx ?_
 unfold P4 at h
 by_cases u:v=Val.zero
 ·rw[if_pos u] at h
  have:decide ((⟨v.sort,v.n,v.s,v.ref⟩:Val)=⟨0,0,[],0⟩)=true:=decide_eq_true u
  rw[this]
  exact J7 (h _ _ g)
 rw[if_neg u] at h
 have:decide ((⟨v.sort,v.n,v.s,v.ref⟩:Val)=⟨0,0,[],0⟩)=false:=decide_eq_false u
 rw[this]
 refine J0 ?_
 refine Y5 f k rfl ?_
 refine W6 ?_
 refine ld f k rfl ?_
 refine W3 (cells:= #[I 1,I v.n,S [],I 0]) (by kernel_rfl) ?_
 refine Dx ?_
 by_cases y:v=⟨1,v.n,[],0⟩
 ·rw[if_pos y] at h
  have:decide ((⟨v.sort,v.n,v.s,v.ref⟩:Val)=⟨1,v.n,[],0⟩)=true:=decide_eq_true y
  rw[this]
  exact J7 (h _ _ g)
 rw[if_neg y] at h
 have:decide ((⟨v.sort,v.n,v.s,v.ref⟩:Val)=⟨1,v.n,[],0⟩)=false:=decide_eq_false y
 rw[this]
 refine J0 ?_
 refine Y5 f k rfl ?_
 refine W6 ?_
 refine ld f k rfl ?_
 refine X3t ?_
 refine W3 (cells:= #[I 2,I (v.n % 2),S [],I 0]) (by kernel_rfl) ?_
 refine Dx ?_
 have p:(v=⟨2,v.n % 2,[],0⟩)↔(v=⟨2,v.n,[],0⟩∧(v.n=0∨v.n=1)):=by
  obtain ⟨a,b,c,d⟩:=v
  simp only[Val.mk.injEq,true_and]
  constructor
  ·rintro ⟨N,E,p⟩;exact ⟨⟨N,p⟩,(Q6s b).1 E⟩
  ·rintro ⟨⟨N,p⟩,E⟩;exact ⟨N,(Q6s b).2 E,p⟩
 by_cases t:v=⟨2,v.n % 2,[],0⟩
 ·rw[if_pos (p.1 t)] at h
  have:decide ((⟨v.sort,v.n,v.s,v.ref⟩:Val)=⟨2,v.n % 2,[],0⟩)=true:=decide_eq_true t
  rw[this]
  exact J7 (h _ _ g)
 rw[if_neg (fun e=>t (p.2 e))] at h
 have:decide ((⟨v.sort,v.n,v.s,v.ref⟩:Val)=⟨2,v.n % 2,[],0⟩)=false:=decide_eq_false t
 rw[this]
 refine J0 ?_
 refine Y5 f k rfl ?_
 refine W6 ?_
 refine ld f k rfl ?_
 refine W3 (cells:= #[I 3,I 0,S v.s,I 0]) (by kernel_rfl) ?_
 refine Dx ?_
 have j: ∀{A Q},Stp w σ A Q→SLe σ1 Q→(∀w' σ',Stp w σ w' σ'→K (S (if v=⟨4,0,[],v.ref⟩ then O5 cs v.ref else [])) w')→Q2 P T.f (.pointer (some q)) A fun H w=>
  Q2 P T.e (.pointer (some (q.add 3))) w fun L w=>
  H3 P T.f [(0,(.int .i64 4)),(3,L)] w fun D w=>
  Q3 P .eql T.f (.tmp 40) (.tmp 43) H D w fun C w=>
  X1 C (
   Q2 P T.e (.pointer (some (q.add 3))) w fun O w=>
   Q1 P F.a7 [hp,O] w fun R w=>
   K R w) (
   K (.string ⟨#[]⟩) w):=by
  intro A Q i M h
  have m:=k.lift M
  refine Y5 i.sat m rfl ?_
  refine ld i.sat m rfl ?_
  refine W3 (cells:= #[I 4,I 0,S [],I v.ref]) (by kernel_rfl) ?_
  refine Dx ?_
  by_cases z:v=⟨4,0,[],v.ref⟩
  ·rw[if_pos z] at h
   have:decide ((⟨v.sort,v.n,v.s,v.ref⟩:Val)=⟨4,0,[],v.ref⟩)=true:=decide_eq_true z
   rw[this]
   refine J7 ?_
   refine ld i.sat m rfl ?_
   exact Q1J i.sat (hh.lift ⟨i.le⟩) (h _ _ i)
  ·rw[if_neg z] at h
   have:decide ((⟨v.sort,v.n,v.s,v.ref⟩:Val)=⟨4,0,[],v.ref⟩)=false:=decide_eq_false z
   rw[this]
   exact J0 (h _ _ i)
 by_cases B:v=⟨3,0,v.s,0⟩
 ·have:decide ((⟨v.sort,v.n,v.s,v.ref⟩:Val)=⟨3,0,v.s,0⟩)=true:=decide_eq_true B
  rw[this]
  (try simp only[↓M1,M1,Mb,reduceIte])
  refine ld f k rfl ?_
  refine Cc X8 ?_
  refine Q5m ?_
  by_cases V:v.s.length≤4096
  ·rw[decide_eq_true (show (v.s.length:Int)≤4096 by omega)]
   (try simp only[↓M1,M1,Mb,reduceIte])
   refine ld f k rfl ?_
   refine Tt W (X.tabs _ (fun b o e=>f b o (g.le b o e))) fun A J=>?_
   have r:=g.trans (Stp.of_below f J)
   cases U:Lib.validD v.s with
   | true=>
    (try simp only[↓M1,M1,Mb,reduceIte])
    rw[if_pos ⟨B,by simp[W8,U,V]⟩] at h
    exact h _ _ r
   | false=>
    (try simp only[↓M1,M1,Mb,reduceIte])
    rw[if_neg (by rintro ⟨_,e⟩;simp[W8,U] at e)] at h
    exact j r (SLe.refl _) h
  ·rw[decide_eq_false (show¬(v.s.length:Int)≤4096 by omega)]
   (try simp only[↓M1,M1,Mb,reduceIte])
   rw[if_neg (by rintro ⟨_,e⟩;simp[W8,V] at e)] at h
   exact j g (SLe.refl _) h
 ·have:decide ((⟨v.sort,v.n,v.s,v.ref⟩:Val)=⟨3,0,v.s,0⟩)=false:=decide_eq_false B
  rw[this]
  (try simp only[↓M1,M1,Mb,reduceIte])
  rw[if_neg (fun e=>B e.1)] at h
  exact j g (SLe.refl _) h)
end Go.Proofs.YtjdiakhipmggjaaGreatDoor

namespace Go.Proofs.YtjdiakhipmggjaaGreatDoor
open Go.Emb Go.RowKit Go.Kd Go.Hm
variable {w : World} {K : Value → World → Prop} {σ : Q6}
theorem Gi {β:Type} {xs:List Val} {v f:Value} (a:β→Val→Bool×β) (l:β) (b:β→World→Prop) (D:Nat→Prop) (k: ∀s w,b s w→X2 w σ) (z:b l w) (t:Sl 4 O9 σ v xs)
 (C: ∀s x cs (w1:World) (K:Value→World→Prop),x∈xs→Kpt D w w1→b s w1→O9 σ x cs→cs.length=4→(∀w',Kpt D w w'→b (a s x).2 w'→K (.bool (a s x).1) w')→Z3 P f [.agg cs.toArray] w1 K)
 (h: ∀w',Kpt D w w'→b (J5 a l xs 0).2 w'→K (I (L7 (J5 a l xs 0).1)) w'):Q1 P F.a3 [v,f] w K:=Zc (by
 unfold G7
 ((try simp only[↓M1,M1,Mb,reduceIte]);repeat ((first | refine ld (by assumption) (by assumption) rfl ?_ | refine X7 (by assumption) (by assumption) rfl ?_ | refine Q8 (by assumption) ?_);(try simp only[↓M1,M1,Mb,reduceIte])))
 refine U3 xs.length (fun n w'=>Kpt D w w'∧ ∃s,b s w'∧J5 a l xs 0=J5 a s (xs.drop n) n) ⟨Kpt.refl,l,z,rfl⟩ fun n w1 d E j=>?_
 obtain ⟨u,s,j,g⟩:=j
 have r:=k s w1 j
 ((try simp only[↓M1,M1,Mb,reduceIte]);repeat ((first | refine ld (by assumption) (by assumption) rfl ?_ | refine X7 (by assumption) (by assumption) rfl ?_ | refine Q8 (by assumption) ?_);(try simp only[↓M1,M1,Mb,reduceIte])))
 refine Q7 (fun q=>?_) (fun q=>?_)
 ·have c:n<xs.length:=by simpa using q
  refine M9 t c fun p cs A e y=>?_
  refine Y5 r A e ?_
  refine C s xs[n] cs w1 _ (List.getElem_mem c) u j y e fun B i m=>?_
  rw[List.drop_eq_getElem_cons c] at g
  simp only[J5] at g
  refine Q7 (fun o=>?_) (fun o=>?_)
  ·rw[o] at g
   have:=h B i
   rw[g] at this
   exact this m
  ·rw[o] at g
   ((try simp only[↓M1,M1,Mb,reduceIte]);repeat ((first | refine ld (by assumption) (by assumption) rfl ?_ | refine X7 (by assumption) (by assumption) rfl ?_ | refine Q8 (by assumption) ?_);(try simp only[↓M1,M1,Mb,reduceIte])))
   exact Y6 t.max c ⟨i,_,m,by simpa using g⟩
 ·have c: ¬n<xs.length:=by simpa using q
  rw[List.drop_eq_nil_of_le (by omega)] at g
  have:=h w1 u
  rw[g] at this
  exact this j)
theorem Cv {β:Type} {xs:List Val} {v f:Value} (b:β→Val→Bool×β) (d:β) (a:β→World→Prop) (D:Nat→Prop) (c: ∀s w,a s w→X2 w σ) (g:a d w) (e:Sl 4 O9 σ v xs)
 (k: ∀s x cs (w1:World) (K:Value→World→Prop),x∈xs→Kpt D w w1→a s w1→O9 σ x cs→cs.length=4→(∀w',Kpt D w w'→a (b s x).2 w'→K (.bool (b s x).1) w')→Z3 P f [.agg cs.toArray] w1 K)
 (h: ∀w',Kpt D w w'→a (J5 b d xs 0).2 w'→K (.bool (J5 b d xs 0).1.isSome) w'):Q1 P F.k [v,f] w K:=Xh (by
 unfold C9
 refine Gi b d a D c g e k fun w1 j i=>?_
 (try simp only[↓M1,M1,Mb,reduceIte])
 rw[Dv]
 exact h w1 j i)
theorem Cr {xs:List Val} {v f:Value} (p:Val→Bool) (hs:X2 w σ) (hv:Sl 4 O9 σ v xs)
 (hf: ∀x cs (w1:World) (K:Value→World→Prop),x∈xs→X2 w1 σ→O9 σ x cs→cs.length=4→(∀w',Below w1.heap.size w1 w'→K (.bool (p x)) w')→Z3 P f [.agg cs.toArray] w1 K)
 (h: ∀w',Below w.heap.size w w'→K (.bool (xs.any p)) w'):Q1 P F.k [v,f] w K:=by
 refine Cv (fun (_:Unit) x=>(p x,())) () (fun _ w'=>Below w.heap.size w w') (fun _=>False) (fun _ w' hb=>hs.below hb) (Below.refl _ _) hv (fun s x cs w1 K hx hk hi hr hl hK=>hf x cs w1 K hx (hs.below hi) hr hl fun w' hb=>hK w' (.of_below (bt hi hb)) (bt hi hb)) fun w' hk hi=>?_
 rw[P0]
 simpa using h w' hi
theorem Iy {β:Type} {xs:List Cel} {v f:Value} (a:β→Cel→Bool×β) (l:β) (b:β→World→Prop) (D:Nat→Prop) (k: ∀s w,b s w→X2 w σ) (z:b l w) (t:Sl 2 S1 σ v xs)
 (C: ∀s x cs (w1:World) (K:Value→World→Prop),x∈xs→Kpt D w w1→b s w1→S1 σ x cs→cs.length=2→(∀w',Kpt D w w'→b (a s x).2 w'→K (.bool (a s x).1) w')→Z3 P f [.agg cs.toArray] w1 K)
 (h: ∀w',Kpt D w w'→b (J5 a l xs 0).2 w'→K (I (L7 (J5 a l xs 0).1)) w'):Q1 P F.aa [v,f] w K:=Zw (by
 unfold I3
 ((try simp only[↓M1,M1,Mb,reduceIte]);repeat ((first | refine ld (by assumption) (by assumption) rfl ?_ | refine X7 (by assumption) (by assumption) rfl ?_ | refine Q8 (by assumption) ?_);(try simp only[↓M1,M1,Mb,reduceIte])))
 refine U3 xs.length (fun n w'=>Kpt D w w'∧ ∃s,b s w'∧J5 a l xs 0=J5 a s (xs.drop n) n) ⟨Kpt.refl,l,z,rfl⟩ fun n w1 d E j=>?_
 obtain ⟨u,s,j,g⟩:=j
 have r:=k s w1 j
 ((try simp only[↓M1,M1,Mb,reduceIte]);repeat ((first | refine ld (by assumption) (by assumption) rfl ?_ | refine X7 (by assumption) (by assumption) rfl ?_ | refine Q8 (by assumption) ?_);(try simp only[↓M1,M1,Mb,reduceIte])))
 refine Q7 (fun q=>?_) (fun q=>?_)
 ·have c:n<xs.length:=by simpa using q
  refine M9 t c fun p cs A e y=>?_
  refine Y5 r A e ?_
  refine C s xs[n] cs w1 _ (List.getElem_mem c) u j y e fun B i m=>?_
  rw[List.drop_eq_getElem_cons c] at g
  simp only[J5] at g
  refine Q7 (fun o=>?_) (fun o=>?_)
  ·rw[o] at g
   have:=h B i
   rw[g] at this
   exact this m
  ·rw[o] at g
   ((try simp only[↓M1,M1,Mb,reduceIte]);repeat ((first | refine ld (by assumption) (by assumption) rfl ?_ | refine X7 (by assumption) (by assumption) rfl ?_ | refine Q8 (by assumption) ?_);(try simp only[↓M1,M1,Mb,reduceIte])))
   exact Y6 t.max c ⟨i,_,m,by simpa using g⟩
 ·have c: ¬n<xs.length:=by simpa using q
  rw[List.drop_eq_nil_of_le (by omega)] at g
  have:=h w1 u
  rw[g] at this
  exact this j)
theorem Cz {β:Type} {xs:List Cel} {v f:Value} (b:β→Cel→Bool×β) (d:β) (a:β→World→Prop) (D:Nat→Prop) (c: ∀s w,a s w→X2 w σ) (g:a d w) (e:Sl 2 S1 σ v xs)
 (k: ∀s x cs (w1:World) (K:Value→World→Prop),x∈xs→Kpt D w w1→a s w1→S1 σ x cs→cs.length=2→(∀w',Kpt D w w'→a (b s x).2 w'→K (.bool (b s x).1) w')→Z3 P f [.agg cs.toArray] w1 K)
 (h: ∀w',Kpt D w w'→a (J5 b d xs 0).2 w'→K (.bool (J5 b d xs 0).1.isSome) w'):Q1 P F.n [v,f] w K:=Yh (by
 unfold F6
 refine Iy b d a D c g e k fun w1 j i=>?_
 (try simp only[↓M1,M1,Mb,reduceIte])
 rw[Dv]
 exact h w1 j i)
theorem Bc {xs:List Cel} {v f:Value} (p:Cel→Bool) (hs:X2 w σ) (hv:Sl 2 S1 σ v xs)
 (hf: ∀x cs (w1:World) (K:Value→World→Prop),x∈xs→X2 w1 σ→S1 σ x cs→cs.length=2→(∀w',Below w1.heap.size w1 w'→K (.bool (p x)) w')→Z3 P f [.agg cs.toArray] w1 K)
 (h: ∀w',Below w.heap.size w w'→K (.bool (xs.any p)) w'):Q1 P F.n [v,f] w K:=by
 refine Cz (fun (_:Unit) x=>(p x,())) () (fun _ w'=>Below w.heap.size w w') (fun _=>False) (fun _ w' hb=>hs.below hb) (Below.refl _ _) hv (fun s x cs w1 K hx hk hi hr hl hK=>hf x cs w1 K hx (hs.below hi) hr hl fun w' hb=>hK w' (.of_below (bt hi hb)) (bt hi hb)) fun w' hk hi=>?_
 rw[P0]
 simpa using h w' hi
end Go.Proofs.YtjdiakhipmggjaaGreatDoor
