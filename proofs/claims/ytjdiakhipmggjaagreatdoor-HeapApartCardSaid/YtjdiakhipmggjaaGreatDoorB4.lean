/- Parts of a proof about the given program: its functions as texts of their own, what each computes, plain laws of that. The conditions of each stand in its statement. -/
import Derived.Test.YtjdiakhipmggjaaGreatDoorB3
import Derived.Shelf.Strings.Builder1
import Derived.Shelf.Strings.Builder2
import Derived.Shelf.Strings.OnBuilder
import Derived.Shelf.Strings.Trim
import Derived.Shelf.Small.Utf8
import Derived.Shelf.Small.Strs
import Derived.Shelf.Strings.BuilderF
import Derived.Shelf.Strings.BuilderK
import Derived.Shelf.Strings.Builder2Cap
import Derived.Shelf.Strings.Search1
import Derived.Shelf.Strings.Search2
import Derived.Shelf.Strings.Search3
import Derived.Shelf.Strings.Cut
import Derived.Shelf.LaysM
import Derived.Shelf.Strings.Shaped
import Derived.Shelf.Strings.Prefix
import Derived.Shelf.Unicode.Decode
import Derived.Shelf.Strings.Runes
import Derived.Shelf.Strings.AsciiSet
import Derived.Shelf.Unicode.DecodeSlow
import Derived.Shelf.Unicode.DecodeAny
import Derived.Shelf.Unicode.DecodeLast
import Derived.Ground.Names2Prog
import Derived.Shelf.Slices.Clone
import Derived.Shelf.Unicode.ValidAny
import Derived.Test.YtjdiakhipmggjaaGreatDoorProg
import Derived.Test.YtjdiakhipmggjaaGreatDoorRows
import Derived.Lib.LaidU8T
import Derived.OpenShut
import Derived.MakeChecks
import Derived.WideShapes
import Derived.Lib.AsciiSet
import Derived.Lib.Join
import Derived.Maps.RangeRun
set_option linter.unnecessarySimpa false
set_option linter.defProp false
set_option linter.unusedSectionVars false
set_option linter.unusedVariables false
set_option linter.unusedSimpArgs false
namespace Go.Proofs
open Go.Shelf
def Tryz.lays156_ren : Go.Shelf.Ren := ⟨fun | 156 => 143 | 165 => 176 | 166 => 177 | 169 => 178 | 240 => 200 | 241 => 201 | 276 => 213 | 277 => 214 | n => n, fun | 31 => 54 | 9 => 9 | 3 => 3 | 4 => 4 | 0 => 0 | 20 => 20 | 72 => 205 | 76 => 208 | 70 => 202 | 37 => 203 | 75 => 207 | 127 => 220 | 164 => 230 | 5 => 5 | 80 => 210 | n => n, fun | n => n⟩
theorem Tryz.lays156 : Go.Proofs.Lays.n156 Tryz.prog Tryz.lays156_ren := {
  mixed := by kernel_rfl
  f156 := Tryz.func143.trans (congrArg some (by kernel_rfl))
  f165 := Tryz.func176.trans (congrArg some (by kernel_rfl))
  f166 := Tryz.func177.trans (congrArg some (by kernel_rfl))
  f169 := Tryz.func178.trans (congrArg some (by kernel_rfl))
  f240 := Tryz.func200.trans (congrArg some (by kernel_rfl))
  f241 := Tryz.func201.trans (congrArg some (by kernel_rfl))
  f276 := Tryz.func213.trans (congrArg some (by kernel_rfl))
  f277 := Tryz.func214.trans (congrArg some (by kernel_rfl))
  t0 := Tryz.underlying0
  a0 := Tryz.isAgg0
  z0 := Tryz.sizeOf0
  v0 := Tryz.zeroValue0
  t3 := Tryz.underlying3
  a3 := Tryz.isAgg3
  z3 := Tryz.sizeOf3
  v3 := Tryz.zeroValue3
  t4 := Tryz.underlying4
  a4 := Tryz.isAgg4
  z4 := Tryz.sizeOf4
  v4 := Tryz.zeroValue4
  t9 := Tryz.underlying9
  a9 := Tryz.isAgg9
  z9 := Tryz.sizeOf9
  v9 := Tryz.zeroValue9
  t20 := Tryz.underlying20
  a20 := Tryz.isAgg20
  z20 := Tryz.sizeOf20
  v20 := Tryz.zeroValue20
  t31 := Tryz.underlying54
  a31 := Tryz.isAgg54
  z31 := Tryz.sizeOf54
  v31 := Tryz.zeroValue54
  t37 := Tryz.underlying203
  a37 := Tryz.isAgg203
  z37 := Tryz.sizeOf203
  v37 := Tryz.zeroValue203
  t70 := Tryz.underlying202
  a70 := Tryz.isAgg202
  z70 := Tryz.sizeOf202
  v70 := Tryz.zeroValue202
  t72 := Tryz.underlying205
  a72 := Tryz.isAgg205
  z72 := Tryz.sizeOf205
  v72 := Tryz.zeroValue205
  t75 := Tryz.underlying207
  a75 := Tryz.isAgg207
  z75 := Tryz.sizeOf207
  v75 := Tryz.zeroValue207
  t76 := Tryz.underlying208
  a76 := Tryz.isAgg208
  z76 := Tryz.sizeOf208
  v76 := Tryz.zeroValue208
  t127 := Tryz.underlying220
  a127 := Tryz.isAgg220
  z127 := Tryz.sizeOf220
  v127 := Tryz.zeroValue220
  t164 := Tryz.underlying230
  a164 := Tryz.isAgg230
  z164 := Tryz.sizeOf230
  v164 := Tryz.zeroValue230 }
theorem Tryz.Builder_Extra_156 : Builder.Extra Tryz.prog Tryz.lays156_ren := {
  sizeBuilder := by kernel_rfl
  liesBuilder := by kernel_rfl
  t5 := Tryz.underlying5
  a5 := Tryz.isAgg5
  z5 := Tryz.sizeOf5
  v5 := Tryz.zeroValue5
  infoByte := by kernel_rfl
  cellsByte := by kernel_rfl
  sizeByte := by kernel_rfl
  neB5 := by decide }
open Go.RowKit in
theorem Tryz.strings_Join_none (a : Option Addr) (c : Nat) (sep : ByteArray) (w : World) :
    Calls Tryz.prog 143 #[.slice a 0 c, .string sep] w fun e w' => e = .returned (.string ⟨#[]⟩) ∧ w' = w := Any.strings_Join_none Tryz.lays156 Tryz.Builder_Extra_156 a c sep w
open Go.RowKit in
theorem Tryz.strings_Join (bk o c : Nat) (xs : List ByteArray) (sep : ByteArray) (w : World) (hcells : ∀ (j : Nat) x, xs[j]? = some x → w.cell? ⟨bk, o + j, none⟩ = some (.string x)) (hbk : bk < w.heap.size) (hN : xs.length ≤ 140737488355328) (hcap : xs.length ≤ c) (hlen : (Lib.join (xs.map (·.data.toList)) sep.data.toList).length ≤ 140737488355328) :
    Calls Tryz.prog 143 #[.slice (some ⟨bk, o, none⟩) xs.length c, .string sep] w fun e w' => e = .returned (.string ⟨(Lib.join (xs.map (·.data.toList)) sep.data.toList).toArray⟩) ∧ Below w.heap.size w w' := Any.strings_Join Tryz.lays156 Tryz.Builder_Extra_156 bk o c xs sep w hcells hbk hN hcap hlen
open Go.RowKit in
def Tryz.lays144_ren : Go.Shelf.Ren := ⟨fun | 144 => 210 | 143 => 223 | 219 => 228 | 217 => 227 | 225 => 220 | 224 => 219 | 267 => 232 | 266 => 231 | 314 => 234 | n => n, fun | 9 => 9 | 4 => 4 | 3 => 3 | 5 => 5 | 46 => 158 | 146 => 242 | 51 => 241 | n => n, fun | 1 => 4 | n => n⟩
theorem Tryz.lays144 : Go.Proofs.Lays.n144 Tryz.prog Tryz.lays144_ren := {
  mixed := by kernel_rfl
  f143 := Tryz.func223.trans (congrArg some (by kernel_rfl))
  f144 := Tryz.func210.trans (congrArg some (by kernel_rfl))
  f217 := Tryz.func227.trans (congrArg some (by kernel_rfl))
  f219 := Tryz.func228.trans (congrArg some (by kernel_rfl))
  f224 := Tryz.func219.trans (congrArg some (by kernel_rfl))
  f225 := Tryz.func220.trans (congrArg some (by kernel_rfl))
  f266 := Tryz.func231.trans (congrArg some (by kernel_rfl))
  f267 := Tryz.func232.trans (congrArg some (by kernel_rfl))
  f314 := Tryz.func234.trans (congrArg some (by kernel_rfl))
  t3 := Tryz.underlying3
  a3 := Tryz.isAgg3
  z3 := Tryz.sizeOf3
  v3 := Tryz.zeroValue3
  t4 := Tryz.underlying4
  a4 := Tryz.isAgg4
  z4 := Tryz.sizeOf4
  v4 := Tryz.zeroValue4
  t5 := Tryz.underlying5
  a5 := Tryz.isAgg5
  z5 := Tryz.sizeOf5
  v5 := Tryz.zeroValue5
  t9 := Tryz.underlying9
  a9 := Tryz.isAgg9
  z9 := Tryz.sizeOf9
  v9 := Tryz.zeroValue9
  t46 := Tryz.underlying158
  a46 := Tryz.isAgg158
  z46 := Tryz.sizeOf158
  v46 := Tryz.zeroValue158
  t51 := Tryz.underlying241
  a51 := Tryz.isAgg241
  z51 := Tryz.sizeOf241
  v51 := Tryz.zeroValue241
  t146 := Tryz.underlying242
  a146 := Tryz.isAgg242
  z146 := Tryz.sizeOf242
  v146 := Tryz.zeroValue242
  g1 := by kernel_rfl }
open Go.RowKit Go.Lib in
theorem Tryz.strings_Contains_one (s : ByteArray) (c : UInt8) (w : World) :
    Calls Tryz.prog 210 #[.string s, .string ⟨#[c]⟩] w fun e w' => e = .returned (.bool (decide (0 ≤ Lib.indexByte s.data.toList c))) ∧ w' = w := Any.strings_Contains_one Tryz.lays144 s c w
def Tryz.lays227_ren : Go.Shelf.Ren := ⟨fun | 227 => 157 | n => n, fun | 9 => 9 | 116 => 190 | 4 => 4 | 0 => 0 | 3 => 3 | 5 => 5 | n => n, fun | n => n⟩
theorem Tryz.lays227 : Go.Proofs.Lays.n227 Tryz.prog Tryz.lays227_ren := {
  mixed := by kernel_rfl
  f227 := Tryz.func157.trans (congrArg some (by kernel_rfl))
  t0 := Tryz.underlying0
  a0 := Tryz.isAgg0
  z0 := Tryz.sizeOf0
  v0 := Tryz.zeroValue0
  t3 := Tryz.underlying3
  a3 := Tryz.isAgg3
  z3 := Tryz.sizeOf3
  v3 := Tryz.zeroValue3
  t4 := Tryz.underlying4
  a4 := Tryz.isAgg4
  z4 := Tryz.sizeOf4
  v4 := Tryz.zeroValue4
  t5 := Tryz.underlying5
  a5 := Tryz.isAgg5
  z5 := Tryz.sizeOf5
  v5 := Tryz.zeroValue5
  t9 := Tryz.underlying9
  a9 := Tryz.isAgg9
  z9 := Tryz.sizeOf9
  v9 := Tryz.zeroValue9
  t116 := Tryz.underlying190
  a116 := Tryz.isAgg190
  z116 := Tryz.sizeOf190 }
open Go.RowKit Go.Lib in
theorem Tryz.strings_makeASCIISet (hv116 : ∀ w, (zeroValue 190).run Tryz.prog w = .ok (.agg (Array.replicate 256 (.bool false))) w) (chars : ByteArray) (w : World) (hs : chars.size < 4294967281) (hascii : ∀ (j : Nat) b, chars.data.toList[j]? = some b → b.toNat < 128) :
    Calls Tryz.prog 157 #[.string chars] w fun e w' => e = .returned (.tuple #[.agg (Lib.setCells chars.data.toList), .bool true]) ∧ w' = w.alloc (.cells (Lib.setCells chars.data.toList) 190) := Any.strings_makeASCIISet Tryz.lays227 hv116 (by kernel_rfl) chars w hs hascii
open Go.RowKit Go.Lib in
def Tryz.lays196_ren : Go.Shelf.Ren := ⟨fun | 196 => 64 | 259 => 112 | n => n, fun | 9 => 9 | 4 => 4 | 3 => 3 | 5 => 5 | 12 => 12 | 119 => 154 | 0 => 0 | 46 => 158 | 139 => 157 | 138 => 156 | 53 => 184 | n => n, fun | 3 => 1 | 4 => 2 | n => n⟩
theorem Tryz.lays196 : Go.Proofs.Lays.n196 Tryz.prog Tryz.lays196_ren := {
  mixed := by kernel_rfl
  f196 := Tryz.func64.trans (congrArg some (by kernel_rfl))
  f259 := Tryz.func112.trans (congrArg some (by kernel_rfl))
  t0 := Tryz.underlying0
  a0 := Tryz.isAgg0
  z0 := Tryz.sizeOf0
  v0 := Tryz.zeroValue0
  t3 := Tryz.underlying3
  a3 := Tryz.isAgg3
  z3 := Tryz.sizeOf3
  v3 := Tryz.zeroValue3
  t4 := Tryz.underlying4
  a4 := Tryz.isAgg4
  z4 := Tryz.sizeOf4
  v4 := Tryz.zeroValue4
  t5 := Tryz.underlying5
  a5 := Tryz.isAgg5
  z5 := Tryz.sizeOf5
  v5 := Tryz.zeroValue5
  t9 := Tryz.underlying9
  a9 := Tryz.isAgg9
  z9 := Tryz.sizeOf9
  v9 := Tryz.zeroValue9
  t12 := Tryz.underlying12
  a12 := Tryz.isAgg12
  z12 := Tryz.sizeOf12
  v12 := Tryz.zeroValue12
  t46 := Tryz.underlying158
  a46 := Tryz.isAgg158
  z46 := Tryz.sizeOf158
  v46 := Tryz.zeroValue158
  t53 := Tryz.underlying184
  a53 := Tryz.isAgg184
  z53 := Tryz.sizeOf184
  v53 := Tryz.zeroValue184
  t119 := Tryz.underlying154
  a119 := Tryz.isAgg154
  z119 := Tryz.sizeOf154
  t138 := Tryz.underlying156
  a138 := Tryz.isAgg156
  z138 := Tryz.sizeOf156
  v138 := Tryz.zeroValue156
  t139 := Tryz.underlying157
  a139 := Tryz.isAgg157
  z139 := Tryz.sizeOf157
  v139 := Tryz.zeroValue157
  g3 := by kernel_rfl
  g4 := by kernel_rfl }
end Go.Proofs

namespace Go.Proofs.YtjdiakhipmggjaaGreatDoor
open Go.Emb Go.RowKit Go.Kd Go.Hm
variable {w : World} {K : Value → World → Prop} {σ : Q6}
theorem X05 {f:FuncId} {fn:Func} {a:List Value} {V:Value} (c:P.funcs[f]? =some fn) (b:fn.body.isSome=true) (d:(fn.name== "runtime.NumGoroutine")=false)
 (h:Calls P f a.toArray w fun e w'=>e= .returned V∧Below w.heap.size w w') (g: ∀w',Below w.heap.size w w'→K V w'):Q1 P f a w K:=by
 refine Wq c b d (Calls.mono h ?_)
 rintro e w' ⟨rfl,b⟩
 exact g w' b
theorem Tk {a:X0} (c:a.length≤U1) (b:Lib.Utf8Tabs G.e G.d w) (h: ∀w',Below w.heap.size w w'→K (.bool (Lib.validD a)) w'):Q1 P F.aZ [S a] w K:=
 X05 Tryz.func64 (by kernel_rfl) (by kernel_rfl) (by
  have:=Any.utf8_ValidString Tryz.lays196 ⟨a.toArray⟩ w (by rw[I9];simp only[U1] at c;omega) b
  simp only[List.toList_toArray] at this
  exact this) h
theorem Q70 {a:X0} {c:UInt8} (h:K (.bool (decide (0≤Lib.indexByte a c))) w):Q1 P F.cE [S a,S [c]] w K:=by
 refine Wq (fn:=Tryz.f210) Tryz.func210 (by kernel_rfl) (by kernel_rfl) (Calls.mono (Tryz.strings_Contains_one ⟨a.toArray⟩ c w) ?_)
 rintro e w' ⟨rfl,rfl⟩
 exact h
structure Glb (σ : Q6) : Prop where
  ops : Q2u σ
  tabs : ∀ w, X3 w σ → Lib.Utf8Tabs G.e G.d w
  flt : Z4 σ ⟨G.b, 0, none⟩ (U4.map S)
theorem Glb.lift {σ0:Q6} (h:Glb σ0) (k:SLe σ0 σ):Glb σ:=⟨h.ops.le k.le,fun w a=>h.tabs w fun b o e=>a b o (k.le b o e),h.flt.le k.le⟩
def txt (n s:X0):Bool:=
 if n=[119,111,114,100] then decide (s.length≤64)&&Lib.validD s&& !decide (0≤Lib.indexByte s 10)
 else if n=[110,101,119] then M6 s
 else if n=[105,115]∨n=[99,97,115,116] then right s&& !plain s
 else if n=[97,114,114,97,121] then right s&&decide (Xt s<3)
 else Zn s
theorem X2v {n a:X0} (ha:a.length≤U1) (hs:X3 w σ) (hg:Glb σ) (h: ∀w' σ',Stp w σ w' σ'→K (.bool (txt n a)) w'):Q1 P F.cL [S n,S a] w K:=Q6Q (by
 unfold Q29
 have ha':a.length≤140737488355320:=by simp only[U1] at ha;omega
 have ha2:a.length≤140737488355328:=by simp only[U1] at ha;omega
 have hv: ∀{w1:World} {K:Value→World→Prop},X3 w1 σ→(∀w',Below w1.heap.size w1 w'→K (.bool (Lib.validD a)) w')→Q1 P F.aZ [S a] w1 K:=fun hk h=>Tk ha (hg.tabs _ hk) h
 unfold txt at h
 have e:decide ((a.length:Int)≤64)=decide (a.length≤64):=by rw[Bool.eq_iff_iff];simp only[decide_eq_true_eq];omega
 have e3:decide ((Xt a:Int)<3)=decide (Xt a<3):=by rw[Bool.eq_iff_iff];simp only[decide_eq_true_eq];omega
 by_cases h1:n=[119,111,114,100]
 ·rw[if_pos h1] at h
  simp only[decide_eq_true h1,↓M1,M1,Mb,reduceIte,e]
  by_cases h2:a.length≤64
  ·simp only[decide_eq_true h2,↓M1,M1,Mb,reduceIte] at h⊢
   refine hv hs (L2 hs ?_)
   intro w1 σ1 hk
   by_cases h3:Lib.validD a=true
   ·simp only[h3,↓M1,M1,Mb,reduceIte] at h⊢
    refine Q70 ?_
    (repeat' (first | (with_reducible intro _) | (with_reducible refine U6 ?_) | (simp only[↓M2,M2,Mb,reduceIte]) | (with_reducible first | refine ld aS aL aR ?_ | refine X7 aS aL aR ?_ | refine Y4 aS aL aR ?_ | refine Q8 aL ?_ | refine Z9 aR ?_ | refine Z1 aS ?_ | refine N2 aS aL ?_ | refine U5 aS aR ?_ | refine Y9 aS aR aR (Rep.one (by assumption)) ?_ | refine U7 aS aR aR aR ?_ | (refine Z8 (fun hh=>?_) (fun hh=>?_)<;>(try simp only[hh,Bool.not_true,Bool.not_false,↓M2,M2,Mb,reduceIte])) | (refine Q7 (fun hh=>?_) (fun hh=>?_)<;>(try simp only[hh,Bool.not_true,Bool.not_false,↓M2,M2,Mb,reduceIte])))))
    all_goals exact aF
   ·simp only[eq_false_of_ne_true h3,↓M1,M1,Mb,reduceIte] at h⊢
    (repeat' (first | (with_reducible intro _) | (with_reducible refine U6 ?_) | (simp only[↓M2,M2,Mb,reduceIte]) | (with_reducible first | refine ld aS aL aR ?_ | refine X7 aS aL aR ?_ | refine Y4 aS aL aR ?_ | refine Q8 aL ?_ | refine Z9 aR ?_ | refine Z1 aS ?_ | refine N2 aS aL ?_ | refine U5 aS aR ?_ | refine Y9 aS aR aR (Rep.one (by assumption)) ?_ | refine U7 aS aR aR aR ?_ | (refine Z8 (fun hh=>?_) (fun hh=>?_)<;>(try simp only[hh,Bool.not_true,Bool.not_false,↓M2,M2,Mb,reduceIte])) | (refine Q7 (fun hh=>?_) (fun hh=>?_)<;>(try simp only[hh,Bool.not_true,Bool.not_false,↓M2,M2,Mb,reduceIte])))))
    all_goals exact aF
  ·simp only[decide_eq_false h2,↓M1,M1,Mb,reduceIte] at h⊢
   (repeat' (first | (with_reducible intro _) | (with_reducible refine U6 ?_) | (simp only[↓M2,M2,Mb,reduceIte]) | (with_reducible first | refine ld aS aL aR ?_ | refine X7 aS aL aR ?_ | refine Y4 aS aL aR ?_ | refine Q8 aL ?_ | refine Z9 aR ?_ | refine Z1 aS ?_ | refine N2 aS aL ?_ | refine U5 aS aR ?_ | refine Y9 aS aR aR (Rep.one (by assumption)) ?_ | refine U7 aS aR aR aR ?_ | (refine Z8 (fun hh=>?_) (fun hh=>?_)<;>(try simp only[hh,Bool.not_true,Bool.not_false,↓M2,M2,Mb,reduceIte])) | (refine Q7 (fun hh=>?_) (fun hh=>?_)<;>(try simp only[hh,Bool.not_true,Bool.not_false,↓M2,M2,Mb,reduceIte])))))
   all_goals exact aF
 rw[if_neg h1] at h
 simp only[decide_eq_false h1,↓M1,M1,Mb,reduceIte]
 by_cases h2:n=[110,101,119]
 ·rw[if_pos h2] at h
  simp only[decide_eq_true h2,↓M1,M1,Mb,reduceIte]
  (repeat' (first | (with_reducible intro _) | (with_reducible refine U6 ?_) | (simp only[↓M2,M2,Mb,reduceIte]) | (with_reducible first | refine ld aS aL aR ?_ | refine X7 aS aL aR ?_ | refine Y4 aS aL aR ?_ | refine Q8 aL ?_ | refine Z9 aR ?_ | refine Z1 aS ?_ | refine N2 aS aL ?_ | refine U5 aS aR ?_ | refine Y9 aS aR aR (Rep.one (by assumption)) ?_ | refine U7 aS aR aR aR ?_ | refine Rl _ au (L2 aS ?_) | (refine Z8 (fun hh=>?_) (fun hh=>?_)<;>(try simp only[hh,Bool.not_true,Bool.not_false,↓M2,M2,Mb,reduceIte])) | (refine Q7 (fun hh=>?_) (fun hh=>?_)<;>(try simp only[hh,Bool.not_true,Bool.not_false,↓M2,M2,Mb,reduceIte])))))
  all_goals exact aF
 rw[if_neg h2] at h
 simp only[decide_eq_false h2,↓M1,M1,Mb,reduceIte]
 by_cases h3:n=[105,115]∨n=[99,97,115,116]
 ·rw[if_pos h3] at h
  have e4:(decide (n=[105,115])||decide (n=[99,97,115,116]))=true:=by simpa using h3
  refine U6 ?_
  refine Q7 (fun h4=>?_) (fun h4=>?_)
  ·simp only[h4,↓M1,M1,Mb,reduceIte]
   (repeat' (first | (with_reducible intro _) | (with_reducible refine U6 ?_) | (simp only[↓M2,M2,Mb,reduceIte]) | (with_reducible first | refine ld aS aL aR ?_ | refine X7 aS aL aR ?_ | refine Y4 aS aL aR ?_ | refine Q8 aL ?_ | refine Z9 aR ?_ | refine Z1 aS ?_ | refine N2 aS aL ?_ | refine U5 aS aR ?_ | refine Y9 aS aR aR (Rep.one (by assumption)) ?_ | refine U7 aS aR aR aR ?_ | refine Zk _ au (L2 aS ?_) | refine Rm _ ?_ | (refine Z8 (fun hh=>?_) (fun hh=>?_)<;>(try simp only[hh,Bool.not_true,Bool.not_false,↓M2,M2,Mb,reduceIte])) | (refine Q7 (fun hh=>?_) (fun hh=>?_)<;>(try simp only[hh,Bool.not_true,Bool.not_false,↓M2,M2,Mb,reduceIte])))))
   all_goals exact aF
  ·rw[h4,Bool.false_or] at e4
   simp only[e4,↓M1,M1,Mb,reduceIte]
   (repeat' (first | (with_reducible intro _) | (with_reducible refine U6 ?_) | (simp only[↓M2,M2,Mb,reduceIte]) | (with_reducible first | refine ld aS aL aR ?_ | refine X7 aS aL aR ?_ | refine Y4 aS aL aR ?_ | refine Q8 aL ?_ | refine Z9 aR ?_ | refine Z1 aS ?_ | refine N2 aS aL ?_ | refine U5 aS aR ?_ | refine Y9 aS aR aR (Rep.one (by assumption)) ?_ | refine U7 aS aR aR aR ?_ | refine Zk _ au (L2 aS ?_) | refine Rm _ ?_ | (refine Z8 (fun hh=>?_) (fun hh=>?_)<;>(try simp only[hh,Bool.not_true,Bool.not_false,↓M2,M2,Mb,reduceIte])) | (refine Q7 (fun hh=>?_) (fun hh=>?_)<;>(try simp only[hh,Bool.not_true,Bool.not_false,↓M2,M2,Mb,reduceIte])))))
   all_goals exact aF
 rw[if_neg h3] at h
 obtain ⟨h3,h4⟩:=not_or.1 h3
 refine U6 ?_
 simp only[decide_eq_false h3,decide_eq_false h4,↓M1,M1,Mb,reduceIte]
 by_cases h5:n=[97,114,114,97,121]
 ·rw[if_pos h5] at h
  simp only[decide_eq_true h5,↓M1,M1,Mb,reduceIte]
  (repeat' (first | (with_reducible intro _) | (with_reducible refine U6 ?_) | (simp only[↓M2,M2,Mb,reduceIte]) | (with_reducible first | refine ld aS aL aR ?_ | refine X7 aS aL aR ?_ | refine Y4 aS aL aR ?_ | refine Q8 aL ?_ | refine Z9 aR ?_ | refine Z1 aS ?_ | refine N2 aS aL ?_ | refine U5 aS aR ?_ | refine Y9 aS aR aR (Rep.one (by assumption)) ?_ | refine U7 aS aR aR aR ?_ | refine Zk _ au (L2 aS ?_) | refine Q97 _ au (L2 aS ?_) | (refine Z8 (fun hh=>?_) (fun hh=>?_)<;>(try simp only[hh,Bool.not_true,Bool.not_false,↓M2,M2,Mb,reduceIte])) | (refine Q7 (fun hh=>?_) (fun hh=>?_)<;>(try simp only[hh,Bool.not_true,Bool.not_false,↓M2,M2,Mb,reduceIte])))))
  all_goals (try rw[e3])
  all_goals exact aF
 rw[if_neg h5] at h
 simp only[decide_eq_false h5,↓M1,M1,Mb,reduceIte]
 intro _
 refine X28 a ha2 (L2 hs fun w1 σ1 hk=>?_)
 by_cases hp:Zn a=true
 ·simp only[hp,if_true] at h⊢
  (repeat' (first | (with_reducible intro _) | (with_reducible refine U6 ?_) | (simp only[↓M2,M2,Mb,reduceIte]) | (with_reducible first | refine ld aS aL aR ?_ | refine X7 aS aL aR ?_ | refine Y4 aS aL aR ?_ | refine Q8 aL ?_ | refine Z9 aR ?_ | refine Z1 aS ?_ | refine N2 aS aL ?_ | refine U5 aS aR ?_ | refine Y9 aS aR aR (Rep.one (by assumption)) ?_ | refine U7 aS aR aR aR ?_ | (refine Z8 (fun hh=>?_) (fun hh=>?_)<;>(try simp only[hh,Bool.not_true,Bool.not_false,↓M2,M2,Mb,reduceIte])) | (refine Q7 (fun hh=>?_) (fun hh=>?_)<;>(try simp only[hh,Bool.not_true,Bool.not_false,↓M2,M2,Mb,reduceIte])))))
  all_goals exact aF
 ·simp only[eq_false_of_ne_true hp,Bool.false_eq_true,if_false] at h⊢
  (repeat' (first | (with_reducible intro _) | (with_reducible refine U6 ?_) | (simp only[↓M2,M2,Mb,reduceIte]) | (with_reducible first | refine ld aS aL aR ?_ | refine X7 aS aL aR ?_ | refine Y4 aS aL aR ?_ | refine Q8 aL ?_ | refine Z9 aR ?_ | refine Z1 aS ?_ | refine N2 aS aL ?_ | refine U5 aS aR ?_ | refine Y9 aS aR aR (Rep.one (by assumption)) ?_ | refine U7 aS aR aR aR ?_ | (refine Z8 (fun hh=>?_) (fun hh=>?_)<;>(try simp only[hh,Bool.not_true,Bool.not_false,↓M2,M2,Mb,reduceIte])) | (refine Q7 (fun hh=>?_) (fun hh=>?_)<;>(try simp only[hh,Bool.not_true,Bool.not_false,↓M2,M2,Mb,reduceIte])))))
  all_goals exact aF)
def H4 (i:Ins):Int:=if !(takes i.op).2.2 then 40 else if (!(takes i.op).1&&decide (i.n≠0))||(!(takes i.op).2.1&&decide (i.s≠[]))||((takes i.op).2.1&& !txt i.op i.s) then 41 else 0
theorem X0x {a:X0} (c:X3 w σ) (b:Glb σ) (h: ∀w',Below w.heap.size w w'→K (.tuple #[.bool (takes a).1, .bool (takes a).2.1, .bool (takes a).2.2]) w'):Q1 P F.cm [S a] w K:=X1O c b.ops h
theorem Q6E {i:Ins} {cs:List Value} (hs:X3 w σ) (hg:Glb σ) (hi:Qt σ i cs) (h: ∀w' σ',Stp w σ w' σ'→K (I (H4 i)) w'):Q1 P F.cH [.agg cs.toArray] w K:=Q64 (by
 obtain ⟨rfl,h1,h2,h3⟩:=hi
 unfold Q0V
 unfold H4 at h
 (repeat' (first | (with_reducible intro _) | (with_reducible refine U6 ?_) | (simp only[↓M2,M2,Mb,reduceIte]) | (with_reducible first | refine ld aS aL aR ?_ | refine X7 aS aL aR ?_ | refine Y4 aS aL aR ?_ | refine Q8 aL ?_ | refine Z9 aR ?_ | refine Z1 aS ?_ | refine N2 aS aL ?_ | refine U5 aS aR ?_ | refine Y9 aS aR aR (Rep.one (by assumption)) ?_ | refine U7 aS aR aR aR ?_ | refine X0x au au (L2 aS ?_) | refine X2v au au au ?_ | (refine Z8 (fun hh=>?_) (fun hh=>?_)<;>(try simp only[hh,Bool.not_true,Bool.not_false,↓M2,M2,Mb,reduceIte])) | (refine Q7 (fun hh=>?_) (fun hh=>?_)<;>(try simp only[hh,Bool.not_true,Bool.not_false,↓M2,M2,Mb,reduceIte])))))
 all_goals exact aF)
end Go.Proofs.YtjdiakhipmggjaaGreatDoor

namespace Go.Emb
open Go.RowKit Go.Hm
variable {P : Program} {W : World}
theorem Q2C {w:World} (c:X3 w (Wl W)) {a:Addr} {v:Value} (h:W.cell? a=some v):w.cell? a=some v:=by
 unfold World.cell? at h⊢
 cases b:W.heap[a.block]? with
 | none=>rw[b] at h;cases h
 | some o=>rw[b] at h;rw[c _ o b];exact h
theorem X2I {α:Type} {f:α→List Value} {sz:Nat} (k: ∀a,(f a).length=sz): ∀(l:List α) (cs:List Value),cs.length=l.length*sz→(∀i a,l[i]? =some a→(cs.drop (i*sz)).take sz=f a)→cs=l.flatMap f:=by
 intro l
 induction l with
 | nil=>intro cs h _;simp at h;simp[h]
 | cons a r g=>
  intro cs h hh
  have e:=hh 0 a rfl
  have j:=g (cs.drop sz) (by rw[List.length_drop,h,List.length_cons,Nat.succ_mul];omega) (fun i b c=>by
   have:=hh (i+1) b (by simpa using c)
   rw[List.drop_drop]
   rwa [Nat.succ_mul,Nat.add_comm] at this)
  rw[List.flatMap_cons,←j,←e]
  simp
theorem Q4f {α H:Type} {enc:TypeId×Value→H} {base:Nat} {u:Nat→Bool} {b:Bool} {f:α→List Value} {j:α→DataW H} {n sz:Nat} {t e:TypeId} {c:Nat} {cs:List Value} {p:List MemPlace} (C:P.underlying t=some (.array n e)) (D:P.cellsOf e=sz) (g:P.cellsOf t=n*sz)
 (l:List α) (y: ∀a,(f a).length=sz) (o: ∀m cs a q,DataW.trod enc P W base u b m e cs=some (j a,q)→cs=f a)
 (h:DataW.trod enc P W base u b c t cs=some (.agg (l.map j),p)):cs=l.flatMap f:=by
 obtain ⟨xs,m,_,k,E,J,B⟩:=DataW.trod_array C h
 simp only[Prod.mk.injEq,DataW.agg.injEq] at k
 have z:l.length=n:=by have:=congrArg List.length k.1;simp at this;omega
 refine X2I y l cs (by rw[E,g,z]) fun i a w=>?_
 have L:i<l.length:=(List.getElem?_eq_some_iff.1 w).1
 have r:=B i (by omega)
 have s:i<xs.length:=by omega
 rw[List.getElem?_eq_getElem s,D] at r
 have A:(xs[i]).1=j a:=by
  have:=congrArg (·[i]?) k.1
  simp only[List.getElem?_map,w,List.getElem?_eq_getElem s,Option.map_some,Option.some.injEq] at this
  exact this.symm
 exact o m _ a _ (by rw[r];congr 1;exact Prod.ext A rfl)
theorem Q5u {n:String} {g:Nat} {cs:Array Value} {l:List Value} (f:P.globalNamed n=some g) (a:W.var? P n=some cs) (h:cs.toList=l):Z4 (Wl W) ⟨g,0,none⟩ l:=by
 unfold World.var? at a
 rw[f] at a
 simp only[Option.bind_some] at a
 cases b:W.heap[g]? with
 | none=>rw[b] at a;cases a
 | some o=>
  rw[b] at a
  cases o with
  | cells arr e j=>
   cases a
   refine ⟨rfl,cs,e,j,b,fun i v c=>?_⟩
   subst h
   simpa using c
  | _=>cases a
end Go.Emb
namespace Go.Proofs.YtjdiakhipmggjaaGreatDoor
open Go.Emb Go.RowKit Go.Kd Go.Hm
variable {W : World}
def laidAll:List (String×DataW Unit):=[("unicode/utf8.acceptRanges",Rows.laid_unicode_utf8_acceptRanges),("squinch/code.ops",Rows.laid_squinch_code_ops),("squinch/hier.faults",Rows.laid_squinch_hier_faults),("unicode/utf8.first",Rows.laid_unicode_utf8_first)]
theorem X3Z:Rows.laid_squinch_code_ops=(.agg (Um.map fun o=> .agg [.lit (.string o.name), .lit (.bool o.number), .lit (.bool o.text)]):DataW Unit):=by rfl
theorem X0V:Rows.laid_squinch_hier_faults=(.agg (U4.map fun s=> .lit (.string s)):DataW Unit):=by rfl
theorem X3V:(Rows.laid_unicode_utf8_acceptRanges:DataW Unit)=Lib.acceptData:=by rfl
theorem X1Y:Rows.laid_unicode_utf8_first=Lib.firstData:=by kernel_rfl
def X4i:Array Field:= #[⟨"name",T.c,0,false, "", "squinch/code",0⟩,⟨"number",T.u,1,false, "", "squinch/code",16⟩,⟨"text",T.u,2,false, "", "squinch/code",17⟩]
theorem X4k:P.underlying T.ad=some (.struct X4i):=by kernel_rfl
theorem X2R (h:laidMetH P laidAll W):Glb (Wl W):=by
 rw[Go.MakeChecks.laidMetH_plain _ _ _ (by kernel_rfl)] at h
 refine ⟨?_,fun w y=>?_,?_⟩
 ·obtain ⟨g,t,cs,r,p,l,k,b,o⟩:=Lib.laidMet.reads h (.tail _ (.head _))
  obtain rfl:=Option.some.inj ((show P.globalNamed "squinch/code.ops"=some G.a by kernel_rfl).symm.trans l)
  obtain rfl:=Option.some.inj ((show (P.globals[G.a]?).map (·.type)=some T.af by kernel_rfl).symm.trans k)
  rw[X3Z] at o
  refine Q5u l b (Q4f (f:=cOp) (sz:=3) (n:=42) (e:=T.ad) (by kernel_rfl) (by kernel_rfl) (by kernel_rfl) Um (fun _=>rfl) (fun m cs a q h=>by
  obtain ⟨xs,n,_,j,Y,U,z⟩:=DataW.trod_struct X4k h
  simp only[Prod.mk.injEq,DataW.agg.injEq] at j
  have u:cs.length=3:=by rw[Y];kernel_rfl
  obtain ⟨c0,B,A,rfl⟩:=X12 u
  obtain ⟨x0,x1,Z,rfl⟩:=X12 (show xs.length=3 by rw[U];rfl)
  have j:=j.1
  simp only[List.map_cons,List.map_nil,List.cons.injEq,and_true] at j
  obtain ⟨D,R,N⟩:=j
  have L:DataW.trod (fun _=>()) P W 0 (fun _=>true) false n T.c (List.take (P.cellsOf T.c) (List.drop 0 [c0,B,A]))=some x0:=z 0 _ rfl
  have C:DataW.trod (fun _=>()) P W 0 (fun _=>true) false n T.u (List.take (P.cellsOf T.u) (List.drop 1 [c0,B,A]))=some x1:=z 1 _ rfl
  have J:DataW.trod (fun _=>()) P W 0 (fun _=>true) false n T.u (List.take (P.cellsOf T.u) (List.drop 2 [c0,B,A]))=some Z:=z 2 _ rfl
  rw[Pw] at L
  rw[X2T] at C J
  obtain ⟨⟨⟨s0⟩⟩,E,r0,_⟩:=DataW.trod_string X8 L
  obtain ⟨b1,M,X⟩:=DataW.trod_bool Q2N C
  obtain ⟨b2,Q,r2⟩:=DataW.trod_bool Q2N J
  simp at E M Q
  subst E M Q r0 X r2
  simp at D R N
  simp[cOp,←D,←R,←N]) o)
 ·have:=utf8Tabs_of_readsT (U8Types.of196 Tryz.lays196) ⟨by kernel_rfl,by kernel_rfl,by kernel_rfl,by kernel_rfl,by kernel_rfl,by kernel_rfl,by kernel_rfl⟩ (X1Y▸Lib.laidMet.reads h (.tail _ (.tail _ (.tail _ (.head _))))) (X3V▸Lib.laidMet.reads h (.head _))
  exact ⟨fun c V=>Q2C y (this.1 c V),fun i O=>⟨Q2C y (this.2 i O).1,Q2C y (this.2 i O).2⟩⟩
 ·obtain ⟨g,t,cs,r,p,l,k,b,o⟩:=Lib.laidMet.reads h (.tail _ (.tail _ (.head _)))
  obtain rfl:=Option.some.inj ((show P.globalNamed "squinch/hier.faults"=some G.b by kernel_rfl).symm.trans l)
  obtain rfl:=Option.some.inj ((show (P.globals[G.b]?).map (·.type)=some T.ao by kernel_rfl).symm.trans k)
  rw[X0V] at o
  have:=Q4f (f:=fun s=>[S s]) (sz:=1) (n:=6) (e:=T.c) (by kernel_rfl) Pw (by kernel_rfl) U4 (fun _=>rfl) (fun m cs a q h=>by
   obtain ⟨⟨⟨s⟩⟩,rfl,j,_⟩:=DataW.trod_string X8 h
   cases j;rfl) o
  exact Q5u l b (this.trans (by rfl))
end Go.Proofs.YtjdiakhipmggjaaGreatDoor
namespace Go.Emb
open Go.RowKit Go.Hm
theorem X30 {H:Type} {P:Program} {a:List TypeId} {ds:List (DataW H)} (h:(DataW.weightsEach P a ds).all (· ≤reachBytes)=true) {j:Nat} {t:TypeId} {d:DataW H} (c:a[j]? =some t) (e:ds[j]? =some d):Wt P t d:=fun n b=>by
 have:=List.all_eq_true.1 h _ (DataW.weights_mem_each c e n b)
 simpa using this
end Go.Emb
namespace Go.Proofs.YtjdiakhipmggjaaGreatDoor
open Go.Emb Go.RowKit Go.Kd Go.Hm
section
variable {H : Type} {enc : TypeId × Value → H} {W : World} {v : Value} {d : DataW H} {p : List MemPlace}
end
end Go.Proofs.YtjdiakhipmggjaaGreatDoor

namespace Go.Proofs.YtjdiakhipmggjaaGreatDoor
open Go.Emb Go.RowKit Go.Kd Go.Hm
variable {w : World} {K : Value → World → Prop} {σ : Q6}
def I3 (n:Int) (x:Cat):Bool:=decide (0≤x.frm)&&decide (x.frm<x.to)&&decide (x.to≤n)&&decide (0≤x.at_)&&decide (x.at_<n)&&M6 x.cls
theorem Q8F {cs:List Value} {c:Cat} {q:Addr} {n:Int} (hs:X3 w σ) (hc:Jk σ c cs) (hq:Z4 σ q [I n]) (h: ∀w' σ',Stp w σ w' σ'→K (.bool (I3 n c)) w'):Q1 P F.bg [.agg cs.toArray, .pointer (some q)] w K:=Q2r (by
 obtain ⟨rfl,h1,h2,h3,h4⟩:=hc
 unfold Sq
 unfold I3 at h
 (repeat' (first | (with_reducible intro _) | (with_reducible refine U6 ?_) | (simp only[↓M2,M2,Mb,reduceIte]) | (with_reducible first | refine ld aS aL aR ?_ | refine X7 aS aL aR ?_ | refine Y4 aS aL aR ?_ | refine Q8 aL ?_ | refine Z9 aR ?_ | refine Z1 aS ?_ | refine N2 aS aL ?_ | refine U5 aS aR ?_ | refine Y9 aS aR aR (Rep.one (by assumption)) ?_ | refine U7 aS aR aR aR ?_ | refine Rl _ au (L2 aS ?_) | (refine Z8 (fun hh=>?_) (fun hh=>?_)<;>(try simp only[hh,Bool.not_true,Bool.not_false,↓M2,M2,Mb,reduceIte])) | (refine Q7 (fun hh=>?_) (fun hh=>?_)<;>(try simp only[hh,Bool.not_true,Bool.not_false,↓M2,M2,Mb,reduceIte])))))
 all_goals exact aF)
theorem Q8y {cs:List Value} {i:Ins} (hs:X3 w σ) (hg:Glb σ) (hc:Qt σ i cs) (h: ∀w' σ',Stp w σ w' σ'→K (.bool (decide (H4 i=0))) w'):Q1 P F.bh [.agg cs.toArray] w K:=Q2x (by
 obtain ⟨rfl,h1,h2,h3⟩:=hc
 have hc:Qt σ i [S i.op,I i.n,S i.s]:=⟨rfl,h1,h2,h3⟩
 unfold Ci
 (repeat' (first | (with_reducible intro _) | (with_reducible refine U6 ?_) | (simp only[↓M2,M2,Mb,reduceIte]) | (with_reducible first | refine ld aS aL aR ?_ | refine X7 aS aL aR ?_ | refine Y4 aS aL aR ?_ | refine Q8 aL ?_ | refine Z9 aR ?_ | refine Z1 aS ?_ | refine N2 aS aL ?_ | refine U5 aS aR ?_ | refine Y9 aS aR aR (Rep.one (by assumption)) ?_ | refine U7 aS aR aR aR ?_ | refine Q6E au au au ?_ | (refine Z8 (fun hh=>?_) (fun hh=>?_)<;>(try simp only[hh,Bool.not_true,Bool.not_false,↓M2,M2,Mb,reduceIte])) | (refine Q7 (fun hh=>?_) (fun hh=>?_)<;>(try simp only[hh,Bool.not_true,Bool.not_false,↓M2,M2,Mb,reduceIte])))))
 all_goals exact aF)
def I5 (m:Hm.Met):Bool:=D6 m.name&&m.params.all right&&(decide (m.result=[])||right m.result)&&
 if m.abs then decide (m.locals=0)&&decide (m.code=[])&&decide (m.catches=[])
 else decide (m.code≠[])&&decide ((m.params.length:Int)<m.locals)&&m.code.all (fun i=>decide (H4 i=0))&&m.catches.all (I3 m.code.length)
theorem X0A {cs:List Value} {m:Hm.Met} (hs:X3 w σ) (hg:Glb σ) (hm:E8 σ m cs) (h: ∀w' σ',Stp w σ w' σ'→K (.bool (I5 m)) w'):Q1 P F.b9 [.agg cs.toArray] w K:=Q3L (by
 obtain ⟨pv,cv,hv,rfl,g1,g2,g3,g4,g5,g6⟩:=hm
 unfold Gw
 unfold I5 at h
 have e1:decide ((0:Int)<m.code.length)=decide (m.code≠[]):=by cases m.code<;>simp
 have e2:decide ((m.code.length:Int)=0)=decide (m.code=[]):=by cases m.code<;>simp;omega
 have e3:decide ((m.catches.length:Int)=0)=decide (m.catches=[]):=by cases m.catches<;>simp;omega
 have hA: ∀{w1:World} {σ1:Q6} {K:Value→World→Prop},X3 w1 σ1→Sl 1 U8 σ1 pv m.params→(∀w' σ',Stp w1 σ1 w' σ'→K (.bool (m.params.all right)) w')→Q1 P F.a9 [pv, .func (.func F.z) #[] #[]] w1 K:=
  fun hs hv h=>Gc right hs hv (fun σ1 x w1 K _ _ hs hl hK=>Z6 (Zk x (Nat.le_trans hl (by decide)) hK)) (L2 hs h)
 have hB: ∀{w1:World} {σ1:Q6} {K:Value→World→Prop},X3 w1 σ1→Glb σ1→Sl 3 Qt σ1 cv m.code→(∀w' σ',Stp w1 σ1 w' σ'→K (.bool (m.code.all fun i=>decide (H4 i=0))) w')→Q1 P F.au [cv, .func (.func F.bh) #[] #[]] w1 K:=
  fun hs hg hv h=>Q1P (fun i=>decide (H4 i=0)) hs hv (fun σ1 x cs w1 K le _ hs hr hl hK=>Z6 (Q8y hs (hg.lift ⟨le⟩) hr fun w' σ' hk=>hK w' hk.bel)) (L2 hs h)
 have hC: ∀{w1:World} {σ1:Q6} {K:Value→World→Prop} {q:Addr},X3 w1 σ1→Sl 4 Jk σ1 hv m.catches→Z4 σ1 q [I m.code.length]→(∀w' σ',Stp w1 σ1 w' σ'→K (.bool (m.catches.all (I3 m.code.length))) w')→Q1 P F.av [hv, .func (.func F.bg) #[] #[.pointer (some q)]] w1 K:=
  fun hs hv hq h=>Q1Z (I3 m.code.length) hs hv (fun σ1 x cs w1 K le _ hs hr hl hK=>Z6 (Q8F hs hr (hq.le le) fun w' σ' hk=>hK w' hk.bel)) (L2 hs h)
 refine Z1 hs fun a w1 σ1 hk1 ha1=>?_
 (repeat' (first | (with_reducible intro _) | (with_reducible refine U6 ?_) | (simp only[↓M2,M2,Mb,reduceIte]) | (with_reducible first | refine ld aS aL aR ?_ | refine X7 aS aL aR ?_ | refine Y4 aS aL aR ?_ | refine Q8 aL ?_ | refine Z9 aR ?_ | refine Z1 aS ?_ | refine N2 aS aL ?_ | refine U5 aS aR ?_ | refine Y9 aS aR aR (Rep.one (by assumption)) ?_ | refine U7 aS aR aR aR ?_ | refine Q6a au (L2 aS ?_) | refine Zk _ au (L2 aS ?_) | refine hA au au ?_ | refine hB au au au ?_ | refine hC au au au ?_ | (refine Z8 (fun hh=>?_) (fun hh=>?_)<;>(try simp only[hh,Bool.not_true,Bool.not_false,↓M2,M2,Mb,reduceIte])) | (refine Q7 (fun hh=>?_) (fun hh=>?_)<;>(try simp only[hh,Bool.not_true,Bool.not_false,↓M2,M2,Mb,reduceIte])))))
 all_goals (simp only[←e1,←e2,←e3] at h;clear e1 e2 e3;exact aF))
theorem Q9S {cs:List Value} {m:Hm.Met} (c:X3 w σ) (a:Glb σ) (d:E8 σ m cs) (h: ∀w' b,Stp w σ w' b→K (.bool (I5 m)) w'):Z3 P (.func (.func F.b9) #[] #[]) [.agg cs.toArray] w K:=Z6 (X0A c a d h)
def Dy (f:Fld):Bool:=D6 f.name&&right f.kind
def Nw (c:Cla):Bool:=(c.name::c.super::c.like).all M6&& !((c.super::c.like).any fun y=>decide (c.name=y))&&C6 id [] c.like&&
 !(c.iface&&(!c.abs|| !decide (c.super=J9)|| !decide (c.fields=[])||c.methods.any (fun m=> !m.abs)))&&
 !((c.abs&&c.fin)||(c.methods.any (·.abs)&& !c.abs))&&C6 Fld.name [] c.fields&&C6 Hm.Met.name [] c.methods&&c.fields.all Dy&&c.methods.all I5
def D2 (c:Cla):Int:=if Zp c then 51 else if Nw c then 0 else 50
theorem Q8T {cs:List Value} {f:Fld} (hs:X3 w σ) (hf:R7 σ f cs) (h: ∀w' σ',Stp w σ w' σ'→K (.bool (Dy f)) w'):Q1 P F.bw [.agg cs.toArray] w K:=Q2J (by
 obtain ⟨rfl,h1,h2⟩:=hf
 unfold Cz
 unfold Dy at h
 (repeat' (first | (with_reducible intro _) | (with_reducible refine U6 ?_) | (simp only[↓M2,M2,Mb,reduceIte]) | (with_reducible first | refine ld aS aL aR ?_ | refine X7 aS aL aR ?_ | refine Y4 aS aL aR ?_ | refine Q8 aL ?_ | refine Z9 aR ?_ | refine Z1 aS ?_ | refine N2 aS aL ?_ | refine U5 aS aR ?_ | refine Y9 aS aR aR (Rep.one (by assumption)) ?_ | refine U7 aS aR aR aR ?_ | refine Q6a au (L2 aS ?_) | refine Zk _ au (L2 aS ?_) | (refine Z8 (fun hh=>?_) (fun hh=>?_)<;>(try simp only[hh,Bool.not_true,Bool.not_false,↓M2,M2,Mb,reduceIte])) | (refine Q7 (fun hh=>?_) (fun hh=>?_)<;>(try simp only[hh,Bool.not_true,Bool.not_false,↓M2,M2,Mb,reduceIte])))))
 all_goals exact aF)
set_option maxHeartbeats 1600000 in
theorem X2s {cs:List Value} {c:Cla} (hs:X3 w σ) (hg:Glb σ) (hc:V0 σ c cs) (hl:c.like.length≤1000000) (h: ∀w' σ',Stp w σ w' σ'→K (.bool (Nw c)) w'):Q1 P F.cA [.agg cs.toArray] w K:=Q4G (by
 obtain ⟨lv,fv,mv,rfl,g1,g2,g3,g4,g5⟩:=hc
 unfold Td
 unfold Nw at h
 refine Z1 hs fun a w1 σ1 hk1 ha1=>?_
 rw[fa]
 refine ld hk1.sat ha1 rfl ?_
 rw[fa]
 refine ld hk1.sat ha1 rfl ?_
 refine Zc (R:=U8) (sz:=1) (xs:=[c.name,c.super]) hk1 [_,_] rfl rfl (by simp;exact ⟨rfl,rfl⟩) rfl ⟨⟨rfl,g4⟩,⟨rfl,g5⟩,trivial⟩ fun v w2 hk2 hacc _=>?_
 rw[fa]
 refine ld hk2.sat ha1 rfl ?_
 refine Wk (hk1.trans hk2) hacc (g1.up hk1) rfl (by simp;omega) (by simp;omega) fun v' w3 hn3 hS3 hacc3 _=>?_
 obtain ⟨σ3,hS3,hv3,le3,_⟩:=hacc3.keep hS3
 have hv3:Sl 1 U8 σ3 v' (c.name::c.super::c.like):=hv3
 have ha3:=ha1.le le3
 have le13:SLe σ σ3:=⟨hS3.le⟩
 have g1:=g1.lift le13
 have g2:=g2.lift le13
 have g3:=g3.lift le13
 have hg:=hg.lift le13
 refine U2 hS3.sat ?_
 refine H0 (fun v _=>Sl 1 U8 σ3 v (c.super::c.like)) (fun _ _ _ h _=>h) (fun w hb=>?_) ?_
 ·refine Ee hv3 (some (I 1)) none 1 (c.like.length+2) (.inr rfl) (.inl ⟨rfl,by simp⟩) (by omega) (by simp) fun v' hv'=>⟨Below.refl _ _,?_⟩
  simpa using hv'
 refine X4 (.pointer (some (a.add 0))) (fun w hb=>by rw[fa];exact X6 rfl) ?_
 refine X4 (S c.name) (fun t w hb e=>by rw[e];exact ld hb.sat ha3 rfl (X6 rfl)) ?_
 rintro t16 t17 t18 w4 hb4 f16 rfl rfl
 have hS4:=hS3.trans hb4.stp
 clear hb4 hk1 hk2 hn3
 have hs4:=hS4.sat
 refine Q1O hs4 f16 ?_
 have hA: ∀{w1:World} {σ1:Q6} {K:Value→World→Prop},X3 w1 σ1→Sl 7 E8 σ1 mv c.methods→(∀w' σ',Stp w1 σ1 w' σ'→K (.bool (c.methods.any (·.abs))) w')→Q1 P F.a [mv, .func (.func F.cn) #[] #[]] w1 K:=
  fun hs hv h=>B8 (·.abs) hs hv (fun x cs w1 K _ hs hr hl hK=>Z6 (Q2P (by
   obtain ⟨pv,cv,hv,rfl,_⟩:=hr
   unfold Bi
   refine Z1 hs fun a w1 σ1 hk1 ha1=>?_
   (repeat' (first | (with_reducible intro _) | (with_reducible refine U6 ?_) | (simp only[↓M2,M2,Mb,reduceIte]) | (with_reducible first | refine ld aS aL aR ?_ | refine X7 aS aL aR ?_ | refine Y4 aS aL aR ?_ | refine Q8 aL ?_ | refine Z9 aR ?_ | refine Z1 aS ?_ | refine N2 aS aL ?_ | refine U5 aS aR ?_ | refine Y9 aS aR aR (Rep.one (by assumption)) ?_ | refine U7 aS aR aR aR ?_ | (refine Z8 (fun hh=>?_) (fun hh=>?_)<;>(try simp only[hh,Bool.not_true,Bool.not_false,↓M2,M2,Mb,reduceIte])) | (refine Q7 (fun hh=>?_) (fun hh=>?_)<;>(try simp only[hh,Bool.not_true,Bool.not_false,↓M2,M2,Mb,reduceIte])))))
   exact hK _ hk1.bel))) (L2 hs h)
 have hB: ∀{w1:World} {σ1:Q6} {K:Value→World→Prop},X3 w1 σ1→Sl 7 E8 σ1 mv c.methods→(∀w' σ',Stp w1 σ1 w' σ'→K (.bool (c.methods.any fun m=> !m.abs)) w')→Q1 P F.a [mv, .func (.func F.co) #[] #[]] w1 K:=
  fun hs hv h=>B8 (fun m=> !m.abs) hs hv (fun x cs w1 K _ hs hr hl hK=>Z6 (Q3i (by
   obtain ⟨pv,cv,hv,rfl,_⟩:=hr
   unfold Bg
   refine Z1 hs fun a w1 σ1 hk1 ha1=>?_
   (repeat' (first | (with_reducible intro _) | (with_reducible refine U6 ?_) | (simp only[↓M2,M2,Mb,reduceIte]) | (with_reducible first | refine ld aS aL aR ?_ | refine X7 aS aL aR ?_ | refine Y4 aS aL aR ?_ | refine Q8 aL ?_ | refine Z9 aR ?_ | refine Z1 aS ?_ | refine N2 aS aL ?_ | refine U5 aS aR ?_ | refine Y9 aS aR aR (Rep.one (by assumption)) ?_ | refine U7 aS aR aR aR ?_ | (refine Z8 (fun hh=>?_) (fun hh=>?_)<;>(try simp only[hh,Bool.not_true,Bool.not_false,↓M2,M2,Mb,reduceIte])) | (refine Q7 (fun hh=>?_) (fun hh=>?_)<;>(try simp only[hh,Bool.not_true,Bool.not_false,↓M2,M2,Mb,reduceIte])))))
   exact hK _ hk1.bel))) (L2 hs h)
 have hC: ∀{w1:World} {σ1:Q6} {K:Value→World→Prop},X3 w1 σ1→Sl 1 U8 σ1 v' (c.name::c.super::c.like)→(∀w' σ',Stp w1 σ1 w' σ'→K (.bool ((c.name::c.super::c.like).all M6)) w')→Q1 P F.a9 [v', .func (.func F.ak) #[] #[]] w1 K:=
  fun hs hv h=>Gc M6 hs hv (fun σ1 x w1 K _ _ hs hl hK=>Z6 (Rl x (Nat.le_trans hl (by decide)) hK)) (L2 hs h)
 have hD: ∀{w1:World} {σ1:Q6} {K:Value→World→Prop},X3 w1 σ1→Sl 1 U8 σ1 lv c.like→(∀w' σ',Stp w1 σ1 w' σ'→K (.bool (C6 id [] c.like)) w')→Q1 P F.aT [lv, .func (.func F.cp) #[] #[]] w1 K:=
  fun hs hv h=>Q4P id hs hv (fun σ1 x w1 K _ hs hl hK=>Z6 (Q36 (hK _ (Below.refl _ _)))) (L2 hs h)
 have hE: ∀{w1:World} {σ1:Q6} {K:Value→World→Prop},X3 w1 σ1→Sl 3 R7 σ1 fv c.fields→(∀w' σ',Stp w1 σ1 w' σ'→K (.bool (C6 Fld.name [] c.fields)) w')→Q1 P F.aE [fv, .func (.func F.cq) #[] #[]] w1 K:=
  fun hs hv h=>Q2v Fld.name hs hv (fun σ1 x cs w1 K _ hs hr hl hK=>Z6 (Q2W (by
   obtain ⟨rfl,_⟩:=hr
   unfold Cu
   refine Z1 hs fun a w1 σ1 hk1 ha1=>?_
   (repeat' (first | (with_reducible intro _) | (with_reducible refine U6 ?_) | (simp only[↓M2,M2,Mb,reduceIte]) | (with_reducible first | refine ld aS aL aR ?_ | refine X7 aS aL aR ?_ | refine Y4 aS aL aR ?_ | refine Q8 aL ?_ | refine Z9 aR ?_ | refine Z1 aS ?_ | refine N2 aS aL ?_ | refine U5 aS aR ?_ | refine Y9 aS aR aR (Rep.one (by assumption)) ?_ | refine U7 aS aR aR aR ?_ | (refine Z8 (fun hh=>?_) (fun hh=>?_)<;>(try simp only[hh,Bool.not_true,Bool.not_false,↓M2,M2,Mb,reduceIte])) | (refine Q7 (fun hh=>?_) (fun hh=>?_)<;>(try simp only[hh,Bool.not_true,Bool.not_false,↓M2,M2,Mb,reduceIte])))))
   exact hK _ hk1.bel))) (L2 hs h)
 have hF: ∀{w1:World} {σ1:Q6} {K:Value→World→Prop},X3 w1 σ1→Sl 7 E8 σ1 mv c.methods→(∀w' σ',Stp w1 σ1 w' σ'→K (.bool (C6 Hm.Met.name [] c.methods)) w')→Q1 P F.ap [mv, .func (.func F.cr) #[] #[]] w1 K:=
  fun hs hv h=>Q1V Hm.Met.name hs hv (fun σ1 x cs w1 K _ hs hr hl hK=>Z6 (Q34 (by
   obtain ⟨pv,cv,hv,rfl,_⟩:=hr
   unfold Bd
   refine Z1 hs fun a w1 σ1 hk1 ha1=>?_
   (repeat' (first | (with_reducible intro _) | (with_reducible refine U6 ?_) | (simp only[↓M2,M2,Mb,reduceIte]) | (with_reducible first | refine ld aS aL aR ?_ | refine X7 aS aL aR ?_ | refine Y4 aS aL aR ?_ | refine Q8 aL ?_ | refine Z9 aR ?_ | refine Z1 aS ?_ | refine N2 aS aL ?_ | refine U5 aS aR ?_ | refine Y9 aS aR aR (Rep.one (by assumption)) ?_ | refine U7 aS aR aR aR ?_ | (refine Z8 (fun hh=>?_) (fun hh=>?_)<;>(try simp only[hh,Bool.not_true,Bool.not_false,↓M2,M2,Mb,reduceIte])) | (refine Q7 (fun hh=>?_) (fun hh=>?_)<;>(try simp only[hh,Bool.not_true,Bool.not_false,↓M2,M2,Mb,reduceIte])))))
   exact hK _ hk1.bel))) (L2 hs h)
 have hG: ∀{w1:World} {σ1:Q6} {K:Value→World→Prop},X3 w1 σ1→Sl 3 R7 σ1 fv c.fields→(∀w' σ',Stp w1 σ1 w' σ'→K (.bool (c.fields.all Dy)) w')→Q1 P F.aq [fv, .func (.func F.bw) #[] #[]] w1 K:=
  fun hs hv h=>Q1R Dy hs hv (fun σ1 x cs w1 K _ _ hs hr hl hK=>Z6 (Q8T hs hr fun w' σ' hk=>hK w' hk.bel)) (L2 hs h)
 have hH: ∀{w1:World} {σ1:Q6} {K:Value→World→Prop},X3 w1 σ1→Glb σ1→Sl 7 E8 σ1 mv c.methods→(∀w' σ',Stp w1 σ1 w' σ'→K (.bool (c.methods.all I5)) w')→Q1 P F.an [mv, .func (.func F.b9) #[] #[]] w1 K:=
  fun hs hg hv h=>Q0x I5 hs hv (fun σ1 x cs w1 K le _ hs hr hl hK=>Q9S hs (hg.lift ⟨le⟩) hr fun w' σ' hk=>hK w' hk.bel) (L2 hs h)
 have e1:decide ((0:Int)<c.fields.length)= !decide (c.fields=[]):=by cases c.fields<;>simp
 have e2:decide (c.super=[79,98,106,101,99,116])=decide (c.super=J9):=rfl
 (repeat' (first | (with_reducible intro _) | (with_reducible refine U6 ?_) | (simp only[↓M2,M2,Mb,reduceIte]) | (with_reducible first | refine ld aS aL aR ?_ | refine X7 aS aL aR ?_ | refine Y4 aS aL aR ?_ | refine Q8 aL ?_ | refine Z9 aR ?_ | refine Z1 aS ?_ | refine N2 aS aL ?_ | refine U5 aS aR ?_ | refine Y9 aS aR aR (Rep.one (by assumption)) ?_ | refine U7 aS aR aR aR ?_ | refine hA au au ?_ | refine hB au au ?_ | refine hC au au ?_ | refine hD au au ?_ | refine hE au au ?_ | refine hF au au ?_ | refine hG au au ?_ | refine hH au au au ?_ | (refine Z8 (fun hh=>?_) (fun hh=>?_)<;>(try simp only[hh,Bool.not_true,Bool.not_false,↓M2,M2,Mb,reduceIte])) | (refine Q7 (fun hh=>?_) (fun hh=>?_)<;>(try simp only[hh,Bool.not_true,Bool.not_false,↓M2,M2,Mb,reduceIte])))))
 all_goals (simp only[←e1,←e2] at h;clear hA hB hC hD hE hF hG hH e1 e2;exact aF))
theorem X1H {cs:List Value} {c:Cla} (hs:X3 w σ) (hg:Glb σ) (hc:V0 σ c cs) (hl:c.like.length≤1000000) (h: ∀w' σ',Stp w σ w' σ'→K (I (D2 c)) w'):Q1 P F.cy [.agg cs.toArray] w K:=Q4K (by
 have hc0:=hc
 obtain ⟨lv,fv,mv,rfl,g1,g2,g3,g4,g5⟩:=hc
 unfold Tc
 unfold D2 at h
 (repeat' (first | (with_reducible intro _) | (with_reducible refine U6 ?_) | (simp only[↓M2,M2,Mb,reduceIte]) | (with_reducible first | refine ld aS aL aR ?_ | refine X7 aS aL aR ?_ | refine Y4 aS aL aR ?_ | refine Q8 aL ?_ | refine Z9 aR ?_ | refine Z1 aS ?_ | refine N2 aS aL ?_ | refine U5 aS aR ?_ | refine Y9 aS aR aR (Rep.one (by assumption)) ?_ | refine U7 aS aR aR aR ?_ | refine X3a au au (L2 aS ?_) | refine X2s au au au au ?_ | (refine Z8 (fun hh=>?_) (fun hh=>?_)<;>(try simp only[hh,Bool.not_true,Bool.not_false,↓M2,M2,Mb,reduceIte])) | (refine Q7 (fun hh=>?_) (fun hh=>?_)<;>(try simp only[hh,Bool.not_true,Bool.not_false,↓M2,M2,Mb,reduceIte])))))
 all_goals exact aF)
end Go.Proofs.YtjdiakhipmggjaaGreatDoor

namespace Go.Emb
open Go.RowKit Go.Hm
structure Tab (σ : Q6) (v : Value) (l : List Cla) : Prop where
  ex : ∃ a lv r m, v = .pointer (some a) ∧ Z4 σ a [lv, .map (some r)] ∧ Sl 8 V0 σ lv l ∧ Xi σ r m ∧ ∀ n, C4 m n = (Z2 l n).map (fun i : Nat => I (i : Int))
theorem Tab.lift {σ0 σ:Q6} {v:Value} {l:List Cla} (h:Tab σ0 v l) (k:SLe σ0 σ):Tab σ v l:=by
 obtain ⟨a,f,r,m,c,d,e,g,b⟩:=h.ex
 exact ⟨a,f,r,m,c,d.lift k,e.lift k,g.lift k,b⟩
end Go.Emb
namespace Go.Proofs.YtjdiakhipmggjaaGreatDoor
open Go.Emb Go.RowKit Go.Kd Go.Hm
variable {w : World} {K : Value → World → Prop} {σ : Q6} {v : Value} {l : List Cla}
theorem Q8a {n:X0} (b:X3 w σ) (e:Tab σ v l) (h:K (.bool (Q0G l n)) w):Q1 P F.j [v,S n] w K:=Ea (by
 obtain ⟨a,j,r,m,rfl,g,i,f,c⟩:=e.ex
 unfold Up
 rw[L7,fa]
 refine ld b g rfl ?_
 rw[Q2A X8 (f.is b) n,c n]
 unfold Q0G at h
 cases d:Z2 l n<;>rw[d] at h<;>((try simp only[Option.map_some,Option.map_none]);(try simp only[↓M1,M1,Mb,reduceIte]);exact h))
theorem Zo {n:X0} {c:Cla} (N:X3 w σ) (R:Tab σ v l) (U:lk l n=some c)
 (h: ∀k s mv w' o,Stp w σ w' o→Sl 1 U8 o k c.like→Sl 3 R7 o s c.fields→Sl 7 E8 o mv c.methods→c.name.length≤U1→c.super.length≤U1→V0 o c [S c.name,S c.super,k, .bool c.iface, .bool c.abs, .bool c.fin,s,mv]→
  K (.agg [S c.name,S c.super,k, .bool c.iface, .bool c.abs, .bool c.fin,s,mv].toArray) w'):Q1 P F.h [v,S n] w K:=Kj (by
 obtain ⟨a,k,r,m,rfl,D,H,Q,Y⟩:=R.ex
 obtain ⟨_,_,i,X,z⟩:=V3 U
 obtain ⟨A,rfl⟩:=List.getElem?_eq_some_iff.1 z
 unfold Lv
 refine M8 N fun b w1 σ1 f d B=>?_
 refine U2 d.sat ?_
 refine X4 (.pointer (some a)) (fun w f=>by rw[L7];exact X6 rfl) ?_
 refine X4 (.pointer (some (a.add 0))) (fun t w f e=>by rw[e,fa];exact X6 rfl) ?_
 refine X4 (.pointer (some a)) (fun w f=>by rw[L7];exact X6 rfl) ?_
 refine X4 (.pointer (some (a.add 1))) (fun t w f e=>by rw[e,fa];exact X6 rfl) ?_
 refine X4 k (fun t w f e=>by rw[e];exact ld f.sat (D.up d) rfl (X6 rfl)) ?_
 refine X4 (.map (some r)) (fun t w f e=>by rw[e];exact ld f.sat (D.up d) rfl (X6 rfl)) ?_
 refine X4 (I i) (fun t w f e=>by rw[e,Q4t X8 ((Q.up d).is f.sat) n,Y n,X];exact X6 rfl) ?_
 rintro t6 t7 V O t8 ac aa w2 g rfl rfl rfl rfl J rfl rfl
 subst J
 have C:=B.step g.stp
 refine M9 (H.up d) A fun p cs L q E=>?_
 refine Y4 g.sat L q ?_
 have j:=E
 obtain ⟨ae,s,mv,rfl,g1,W,Z,g4,M⟩:=E
 refine F6 C (d.trans g.stp) f rfl rfl (Rep.one j) fun w3 u y=>?_
 refine V1 y rfl ?_
 exact h _ _ _ w3 σ1 u.stp g1 W Z g4 M j)
theorem Q0m {n:X0} (c:X3 w σ) (a:Tab σ v l) (b:lk l n=none) (h:K (.bool false) w):Q1 P F.j [v,S n] w K:=Q8a c a (by rw[Q1v,b];exact h)
theorem Ru {n:X0} {d:Cla} (c:X3 w σ) (a:Tab σ v l) (b:lk l n=some d) (h:K (.bool true) w):Q1 P F.j [v,S n] w K:=Q8a c a (by rw[Q1v,b];exact h)
theorem X0B {c:Cla} {cs:List Value} (hs:X3 w σ) (ht:Tab σ v l) (hc:V0 σ c cs) (h: ∀w' σ',Stp w σ w' σ'→K (I (D0 l c)) w'):Q1 P F.ba [v, .agg cs.toArray] w K:=Fm (by
 obtain ⟨lv,fv,mv,rfl,g1,g2,g3,g4,g5⟩:=hc
 unfold Lj
 unfold D0 at h
 cases hd:lk l c.super with
 | none=>
  simp only[Qv,hd,if_true] at h
  (repeat' (first | (with_reducible intro _) | (with_reducible refine U6 ?_) | (simp only[↓M2,M2,Mb,reduceIte]) | (with_reducible first | refine ld aS aL aR ?_ | refine X7 aS aL aR ?_ | refine Y4 aS aL aR ?_ | refine Q8 aL ?_ | refine Z9 aR ?_ | refine Z1 aS ?_ | refine N2 aS aL ?_ | refine U5 aS aR ?_ | refine Y9 aS aR aR (Rep.one (by assumption)) ?_ | refine U7 aS aR aR aR ?_ | refine Q0m au au au ?_ | (refine Z8 (fun hh=>?_) (fun hh=>?_)<;>(try simp only[hh,Bool.not_true,Bool.not_false,↓M2,M2,Mb,reduceIte])) | (refine Q7 (fun hh=>?_) (fun hh=>?_)<;>(try simp only[hh,Bool.not_true,Bool.not_false,↓M2,M2,Mb,reduceIte])))))
  all_goals exact aF
 | some d=>
  simp only[Qv,hd] at h
  obtain ⟨dn,ds,dl,di,da,df,dfs,dms⟩:=d
  cases di<;>cases df
  ·simp only[Bool.or_self,Bool.false_eq_true,if_false] at h
   (repeat' (first | (with_reducible intro _) | (with_reducible refine U6 ?_) | (simp only[↓M2,M2,Mb,reduceIte]) | (with_reducible first | refine ld aS aL aR ?_ | refine X7 aS aL aR ?_ | refine Y4 aS aL aR ?_ | refine Q8 aL ?_ | refine Z9 aR ?_ | refine Z1 aS ?_ | refine N2 aS aL ?_ | refine U5 aS aR ?_ | refine Y9 aS aR aR (Rep.one (by assumption)) ?_ | refine U7 aS aR aR aR ?_ | refine Ru au au au ?_ | refine Zo au au au ?_ | (refine Z8 (fun hh=>?_) (fun hh=>?_)<;>(try simp only[hh,Bool.not_true,Bool.not_false,↓M2,M2,Mb,reduceIte])) | (refine Q7 (fun hh=>?_) (fun hh=>?_)<;>(try simp only[hh,Bool.not_true,Bool.not_false,↓M2,M2,Mb,reduceIte])))))
   rename_i w3 σ3 hk3 _ _ _ _ _ _
   have hS:Stp w σ w3 σ3:=by (repeat (first | exact Stp.refl (by (first | assumption | exact Stp.sat (by assumption) | exact Hst.sat (by assumption))) | assumption | refine Stp.trans ?_ (by first | assumption | exact Hst.stp (by assumption))))
   refine U0 c.like.length (fun n w'=> ∃σ',Stp w σ w' σ'∧SLe σ3 σ'∧((c.like.take n).any (R3 l))=false) ⟨σ3,hS,SLe.refl _,by simp⟩ fun n w4 d hn hi=>?_
   obtain ⟨σ4,hS4,le4,hq⟩:=hi
   clear hk3
   refine Z0 ?_
   refine Q7 (fun hh=>?_) (fun hh=>?_)
   ·have hn':n<c.like.length:=by simpa using hh
    have hmax:c.like.length≤9223372036854775807:=g1.max
    refine Q51 (by (first | assumption | exact Sl.lift (by assumption) (by (repeat (first | exact SLe.refl _ | refine SLe.more ?_ (by assumption) | refine SLe.more ?_ (Nxt.le (by assumption)) | refine SLe.step ?_ (by assumption)))) | exact Z4.lift (by assumption) (by (repeat (first | exact SLe.refl _ | refine SLe.more ?_ (by assumption) | refine SLe.more ?_ (Nxt.le (by assumption)) | refine SLe.step ?_ (by assumption)))) | exact Xi.lift (by assumption) (by (repeat (first | exact SLe.refl _ | refine SLe.more ?_ (by assumption) | refine SLe.more ?_ (Nxt.le (by assumption)) | refine SLe.step ?_ (by assumption)))) | exact RCl_lift (by assumption) (by (repeat (first | exact SLe.refl _ | refine SLe.more ?_ (by assumption) | refine SLe.more ?_ (Nxt.le (by assumption)) | refine SLe.step ?_ (by assumption)))) | exact RMe_lift (by assumption) (by (repeat (first | exact SLe.refl _ | refine SLe.more ?_ (by assumption) | refine SLe.more ?_ (Nxt.le (by assumption)) | refine SLe.step ?_ (by assumption)))) | exact Glb.lift (by assumption) (by (repeat (first | exact SLe.refl _ | refine SLe.more ?_ (by assumption) | refine SLe.more ?_ (Nxt.le (by assumption)) | refine SLe.step ?_ (by assumption)))) | exact Tab.lift (by assumption) (by (repeat (first | exact SLe.refl _ | refine SLe.more ?_ (by assumption) | refine SLe.more ?_ (Nxt.le (by assumption)) | refine SLe.step ?_ (by assumption)))) | exact RIn_any (by assumption) | exact RFd_any (by assumption) | exact RCa_any (by assumption))) hn' fun p hl hbig=>?_
    have hq':=L3 (p:=R3 l) hn'
    rw[hq] at hq'
    cases hx:lk l c.like[n] with
    | none=>
     simp only[S6 (p:=R3 l) hn' (by simp only[R3,hx]),if_true] at h
     (repeat' (first | (with_reducible intro _) | (with_reducible refine U6 ?_) | (simp only[↓M2,M2,Mb,reduceIte]) | (with_reducible first | refine ld aS aL aR ?_ | refine X7 aS aL aR ?_ | refine Y4 aS aL aR ?_ | refine Q8 aL ?_ | refine Z9 aR ?_ | refine Z1 aS ?_ | refine N2 aS aL ?_ | refine U5 aS aR ?_ | refine Y9 aS aR aR (Rep.one (by assumption)) ?_ | refine U7 aS aR aR aR ?_ | refine Q0m au au au ?_ | (refine Z8 (fun hh=>?_) (fun hh=>?_)<;>(try simp only[hh,Bool.not_true,Bool.not_false,↓M2,M2,Mb,reduceIte])) | (refine Q7 (fun hh=>?_) (fun hh=>?_)<;>(try simp only[hh,Bool.not_true,Bool.not_false,↓M2,M2,Mb,reduceIte])))))
     all_goals exact aF
    | some x=>
     obtain ⟨xn,xs,xl,xi,xa,xf,xfs,xms⟩:=x
     cases xi
     ·simp only[S6 (p:=R3 l) hn' (by simp only[R3,hx];rfl),if_true] at h
      (repeat' (first | (with_reducible intro _) | (with_reducible refine U6 ?_) | (simp only[↓M2,M2,Mb,reduceIte]) | (with_reducible first | refine ld aS aL aR ?_ | refine X7 aS aL aR ?_ | refine Y4 aS aL aR ?_ | refine Q8 aL ?_ | refine Z9 aR ?_ | refine Z1 aS ?_ | refine N2 aS aL ?_ | refine U5 aS aR ?_ | refine Y9 aS aR aR (Rep.one (by assumption)) ?_ | refine U7 aS aR aR aR ?_ | refine Ru au au au ?_ | refine Zo au au au ?_ | (refine Z8 (fun hh=>?_) (fun hh=>?_)<;>(try simp only[hh,Bool.not_true,Bool.not_false,↓M2,M2,Mb,reduceIte])) | (refine Q7 (fun hh=>?_) (fun hh=>?_)<;>(try simp only[hh,Bool.not_true,Bool.not_false,↓M2,M2,Mb,reduceIte])))))
      all_goals exact aF
     ·(repeat' (first | (with_reducible intro _) | (with_reducible refine U6 ?_) | (simp only[↓M2,M2,Mb,reduceIte]) | (with_reducible first | refine ld aS aL aR ?_ | refine X7 aS aL aR ?_ | refine Y4 aS aL aR ?_ | refine Q8 aL ?_ | refine Z9 aR ?_ | refine Z1 aS ?_ | refine N2 aS aL ?_ | refine U5 aS aR ?_ | refine Y9 aS aR aR (Rep.one (by assumption)) ?_ | refine U7 aS aR aR aR ?_ | refine Ru au au au ?_ | refine Zo au au au ?_ | (refine Z8 (fun hh=>?_) (fun hh=>?_)<;>(try simp only[hh,Bool.not_true,Bool.not_false,↓M2,M2,Mb,reduceIte])) | (refine Q7 (fun hh=>?_) (fun hh=>?_)<;>(try simp only[hh,Bool.not_true,Bool.not_false,↓M2,M2,Mb,reduceIte])))))
      refine Y5 hmax hn' ⟨_,by (repeat (first | exact Stp.refl (by (first | assumption | exact Stp.sat (by assumption) | exact Hst.sat (by assumption))) | assumption | refine Stp.trans ?_ (by first | assumption | exact Hst.stp (by assumption)))),by (repeat (first | exact SLe.refl _ | refine SLe.more ?_ (by assumption) | refine SLe.more ?_ (Nxt.le (by assumption)) | refine SLe.step ?_ (by assumption))),by rw[hq'];simp only[R3,hx];rfl⟩
   ·have hn': ¬n<c.like.length:=by simpa using hh
    rw[E0 hn'] at hq
    simp only[hq,Bool.false_eq_true,if_false] at h
    exact h _ _ hS4
  all_goals
   simp only[Bool.or_self,Bool.or_true,Bool.true_or,if_true] at h
   (repeat' (first | (with_reducible intro _) | (with_reducible refine U6 ?_) | (simp only[↓M2,M2,Mb,reduceIte]) | (with_reducible first | refine ld aS aL aR ?_ | refine X7 aS aL aR ?_ | refine Y4 aS aL aR ?_ | refine Q8 aL ?_ | refine Z9 aR ?_ | refine Z1 aS ?_ | refine N2 aS aL ?_ | refine U5 aS aR ?_ | refine Y9 aS aR aR (Rep.one (by assumption)) ?_ | refine U7 aS aR aR aR ?_ | refine Ru au au au ?_ | refine Zo au au au ?_ | (refine Z8 (fun hh=>?_) (fun hh=>?_)<;>(try simp only[hh,Bool.not_true,Bool.not_false,↓M2,M2,Mb,reduceIte])) | (refine Q7 (fun hh=>?_) (fun hh=>?_)<;>(try simp only[hh,Bool.not_true,Bool.not_false,↓M2,M2,Mb,reduceIte])))))
   all_goals exact aF)
end Go.Proofs.YtjdiakhipmggjaaGreatDoor

namespace Go.Emb
open Go.RowKit Go.Hm
variable {P : Program} {w w0 w1 w' w'' : World} {K : Value → World → Prop} {σ σ0 σ1 σ' : Q6}
theorem Q87 {a:Addr} {v:Value} (h:w.cell? a=some v) (b:Below w.heap.size w w'):w'.cell? a=some v:=by
 rw[←h];exact World.cell?_of_block (b.block a.block (World.block_lt_of_cell? _ _ h))
def Ptr {α:Type} (sz:Nat) (R:Q6→α→List Value→Prop) (σ:Q6) (x:α) (p:Value) (w:World):Prop:=
 ∃a cs,p= .pointer (some a)∧(∀j u,cs[j]? =some u→w.cell? (a.add j)=some u)∧cs.length=sz∧R σ x cs
theorem Ptr.below {α:Type} {sz:Nat} {R:Q6→α→List Value→Prop} {x:α} {p:Value} (h:Ptr sz R σ x p w) (b:Below w.heap.size w w'):Ptr sz R σ x p w':=by
 obtain ⟨a,cs,e,d,f⟩:=h
 exact ⟨a,cs,e,fun j u c=>Q87 (d j u c) b,f⟩
end Go.Emb
namespace Go.Proofs.YtjdiakhipmggjaaGreatDoor
open Go.Emb Go.RowKit Go.Kd Go.Hm
variable {w : World} {K : Value → World → Prop} {σ : Q6} {v : Value} {l : List Cla}
theorem Q4c {w0:World} {σ0:Q6} {xs:List Cla} (hS:Stp w0 σ0 w σ) (E:J7 w0.heap.size T.b 8 V0 σ w v xs)
 (h: ∀w',Kpt (fun k=>v.ownBlock=some k) w w'→Stp w0 σ0 w' σ→J7 w0.heap.size T.b 8 V0 σ w' v xs.reverse→K (.tuple #[]) w'):Q1 P F.q [v] w K:=Zq (by
 unfold I1
 have M:xs.length≤9223372036854775807:=by
  obtain ⟨a,aa,_,g,b,_⟩:=E
  simp only[maxLen] at b;omega
 refine Q1G E ?_
 refine Zi ⟨by omega,by omega⟩ ?_
 refine We (fun x w'=> ∃i:Nat,x=(I i,I ((xs.length:Int)-1-i))∧2*i≤xs.length∧Kpt (fun k=>v.ownBlock=some k) w w'∧Stp w0 σ0 w' σ∧J7 w0.heap.size T.b 8 V0 σ w' v (C7 i xs)) (fun x _=>match x.2 with | .int _ n=>(n+1).toNat | _=>0) ⟨0,by simp,by omega,Kpt.refl,hS,E⟩ ?_
 rintro _ d w1 ⟨i,rfl,O,U,q,c⟩
 obtain ⟨R,Q⟩:=Q0e xs i O
 refine Z0 ?_
 refine Q7 (fun hh=>?_) (fun hh=>?_)
 ·have W:(i:Int)<(xs.length:Int)-1-i:=by simpa using hh
  have N:((xs.length:Int)-1-i)=((xs.length-1-i:Nat):Int):=by omega
  have r:i<(C7 i xs).length:=by omega
  have m:xs.length-1-i<(C7 i xs).length:=by omega
  refine U2 q.sat ?_
  refine H0 (Ptr 8 V0 σ (C7 i xs)[xs.length-1-i]) (fun _ _ _ h f=>h.below f) (fun w f=>?_) ?_
  ·simp only[N]
   exact Q66 (c.step f.stp) m fun a cs g b o=>⟨Below.refl _ _,a,cs,rfl,g,b,o⟩
  refine H0 (Ptr 8 V0 σ (C7 i xs)[i]) (fun _ _ _ h f=>h.below f) (fun w f=>?_) ?_
  ·exact Q66 (c.step f.stp) r fun a cs g b o=>⟨Below.refl _ _,a,cs,rfl,g,b,o⟩
  refine H0 (fun v _=> ∃cs:List Value,v= .agg cs.toArray∧cs.length=8∧V0 σ (C7 i xs)[xs.length-1-i] cs) (fun _ _ _ h _=>h) (fun t w f e=>?_) ?_
  ·obtain ⟨a,cs,rfl,g,b,o⟩:=e
   exact Tb b g ⟨Below.refl _ _,cs,rfl,b,o⟩
  refine H0 (fun v _=> ∃cs:List Value,v= .agg cs.toArray∧cs.length=8∧V0 σ (C7 i xs)[i] cs) (fun _ _ _ h _=>h) (fun t w f e=>?_) ?_
  ·obtain ⟨a,cs,rfl,g,b,o⟩:=e
   exact Tb b g ⟨Below.refl _ _,cs,rfl,b,o⟩
  rintro ae V X Y w2 j _ _ ⟨cs,rfl,z,y⟩ ⟨ds,rfl,D,s⟩
  refine Q1p (q.trans j.stp) (c.step j.stp) r z y (Rep.one y) fun p u w3 L A H=>?_
  simp only[N]
  refine Q1p A.stp H (by simpa using m) D s (Rep.one s) fun p u w4 B J C=>?_
  refine Xq ⟨by omega,by omega⟩ ?_
  refine Zi ⟨by omega,by omega⟩ ?_
  refine ⟨⟨i+1,by congr 1<;>congr 1<;>omega,by omega,?_,J.stp,?_⟩,?_⟩
  ·exact ((U.trans (Kpt.of_below j.stp.bel)).trans L).trans B
  ·have e1:(C7 i xs)[i]? =some (C7 i xs)[i]:=List.getElem?_eq_getElem r
   have Z:(C7 i xs)[xs.length-1-i]? =some (C7 i xs)[xs.length-1-i]:=List.getElem?_eq_getElem m
   have:C7 (i+1) xs=((C7 i xs).set i (C7 i xs)[xs.length-1-i]).set (xs.length-1-i) (C7 i xs)[i]:=by
    simp only[C7,e1,Z]
   rw[this];exact C
  ·simp only;omega
 ·have ab: ¬(i:Int)<(xs.length:Int)-1-i:=by simpa using hh
  rw[Q8Z xs i O (by omega)] at c
  exact h w1 U q c)
def sOf:Value→X0 | .string b=>b.data.toList | _=>[]
theorem Q9s {n:X0} (H:X3 w σ) (z:Tab σ v l) (L:Jd l) (X:l.length≤100000) (h: ∀y w' σ',Stp w σ w' σ'→J7 w.heap.size T.b 8 V0 σ' w' y (chain l n).reverse→K y w'):Q1 P F.aS [v,S n] w K:=Tm (by
 unfold Dc
 refine We (fun x w'=> ∃(s:X0) (k:List Cla) (σ':Q6),x.2=S s∧chain l n=k++chain l s∧Stp w σ w' σ'∧V5 w.heap.size T.b 8 V0 σ' w' x.1 k) (fun x _=>(chain l (sOf x.2)).length)
  ⟨n,[],σ,rfl,rfl,Stp.refl H,V5.nil⟩ ?_
 rintro ⟨x1,_⟩ d w1 ⟨s,k,σ1,rfl,o,a,g⟩
 have f:=z.lift ⟨a.le⟩
 have B:=Ct l n
 have p:sOf (S s)=s:=by simp[sOf]
 simp only[p]
 cases j:lk l s with
 | none=>
  refine Q0m a.sat f j ?_
  refine Z7 ?_
  rw[Ym j,List.append_nil] at o
  rw[←o] at g
  refine Q4c a (J7.of_acc g) fun J i q t=>?_
  exact h _ _ _ q t
 | some c=>
  refine Ru a.sat f j ?_
  refine J5 ?_
  refine Zo a.sat f j fun N M mv J W i Q E R C V A=>?_
  have b:=A7 L s
  rw[j] at b
  simp only at b
  have U:k.length+1≤l.length+1:=by
   have:=congrArg List.length o
   rw[List.length_append,b,List.length_cons] at this;omega
  refine Jl (a.trans i) (g.up i) A rfl rfl rfl (by omega) (by omega) fun u y Z Y O e r _=>?_
  refine Zo e.sat (z.lift ⟨e.le⟩) j fun N M mv w4 D m Q E R C V A=>?_
  refine Z9 (v:=S c.super) rfl ?_
  refine ⟨⟨c.super,k++[c],D,rfl,?_,e.trans m,r.up m⟩,?_⟩
  ·rw[o,b];simp
  ·have:sOf (S c.super)=c.super:=by simp[sOf]
   simp only[this,b,List.length_cons];omega)
theorem Ia {n:X0} (W:X3 w σ) (Y:Tab σ v l) (ha:Jd l) (U:l.length≤100000) (u: ∀c∈l,Qm c) (h: ∀L w' σ',Stp w σ w' σ'→Sl 3 R7 σ' L (Y6 l n)→K L w'):Q1 P F.a2 [v,S n] w K:=Fj (by
 unfold Lm
 refine Q9s W Y ha U fun v1 w1 σ1 D B=>?_
 obtain ⟨M,C,s,ad,_⟩:=B.keep D
 generalize j:(chain l n).reverse=cs at*
 have R:cs.length≤l.length+1:=by rw[←j,List.length_reverse];exact Ct l n
 have m: ∀c∈cs,c.fields.length≤1000000:=fun c t=>(u c (Bk (by rw[←j] at t;simpa using t))).2.1
 refine Q8 s ?_
 refine E4 cs.length (fun i a w'=> ∃σ',Stp w σ w' σ'∧SLe M σ'∧V5 w.heap.size T.o 3 R7 σ' w' a ((cs.take i).flatMap (·.fields))) ⟨M,C,SLe.refl _,V5.nil⟩ fun i a w3 d hi k=>?_
 obtain ⟨σ3,f,o,g⟩:=k
 refine Z0 ?_
 refine Q7 (fun hh=>?_) (fun hh=>?_)
 ·have e:i<cs.length:=by simpa using hh
  refine M9 (s.lift o) e fun p cells E r Q=>?_
  refine Y4 f.sat E r ?_
  refine Y9 f.sat (by rfl) r (Rep.one Q) fun q w4 N b Z=>?_
  obtain ⟨lv,fv,mv,rfl,f1,V,f3,f4,f5⟩:=Q
  rw[fa]
  refine ld b.sat Z rfl ?_
  have H:=Vy (fun c:Cla=>c.fields) 1000000 (cs.take i) fun c t=>m c (List.mem_of_mem_take t)
  rw[List.length_take] at H
  have aa:=m cs[i] (List.getElem_mem e)
  have O:min i cs.length*1000000≤100000*1000000:=Nat.mul_le_mul_right _ (by omega)
  refine Wk (f.trans b) (g.up b) (V.up b) rfl (by omega) (by omega) fun L w5 X z y _=>?_
  refine N3 ?_
  refine J3 (by omega) e ⟨N,z,o.more ⟨b.le⟩,?_⟩
  rw[List.take_add_one,List.getElem?_eq_getElem e,List.flatMap_append]
  simpa using y
 ·have e: ¬i<cs.length:=by simpa using hh
  rw[List.take_of_length_le (by omega)] at g
  obtain ⟨N,J,A,ac,_⟩:=g.keep f
  refine h _ _ _ J ?_
  unfold Y6
  rw[j];exact A)
theorem X1C {n f:X0} (hs:X3 w σ) (ht:Tab σ v l) (ha:Jd l) (hl:l.length≤100000) (hsm: ∀c∈l,Qm c) (h: ∀w' σ',Stp w σ w' σ'→K (I (L5 (Ju l n f))) w'):Q1 P F.bl [v,S n,S f] w K:=Kb (by
 unfold Ma
 refine U5 hs rfl fun q w1 σ1 hk1 hq=>?_
 refine Ia hk1.sat (ht.lift ⟨hk1.le⟩) ha hl hsm fun v' w2 σ2 hk2 hv2=>?_
 rw[Qe]
 refine Gl (fun x=>decide (x.name=f)) hk2.sat hv2 (fun x cs w3 K _ hs3 hr hl hK=>Z6 (Fc ?_)) fun w3 hb=>?_
 ·obtain ⟨rfl,_⟩:=hr
  unfold Wb
  have hq2:=hq.up hk2
  refine Z1 hs3 fun a w4 σ4 hk4 ha4=>?_
  (repeat' (first | (with_reducible intro _) | (with_reducible refine U6 ?_) | (simp only[↓M2,M2,Mb,reduceIte]) | (with_reducible first | refine ld aS aL aR ?_ | refine X7 aS aL aR ?_ | refine Y4 aS aL aR ?_ | refine Q8 aL ?_ | refine Z9 aR ?_ | refine Z1 aS ?_ | refine N2 aS aL ?_ | refine U5 aS aR ?_ | refine Y9 aS aR aR (Rep.one (by assumption)) ?_ | refine U7 aS aR aR aR ?_ | (refine Z8 (fun hh=>?_) (fun hh=>?_)<;>(try simp only[hh,Bool.not_true,Bool.not_false,↓M2,M2,Mb,reduceIte])) | (refine Q7 (fun hh=>?_) (fun hh=>?_)<;>(try simp only[hh,Bool.not_true,Bool.not_false,↓M2,M2,Mb,reduceIte])))))
  exact hK _ hk4.bel
 ·exact h _ _ ((hk1.trans hk2).trans (Stp.of_below hk2.sat hb)))
end Go.Proofs.YtjdiakhipmggjaaGreatDoor

namespace Go.Hm
open Go.Kd
theorem Q5W {α:Type} (p:α→Bool): ∀xs:List α,xs.find? p=(xs.findIdx? p).bind (xs[·]?)
 | []=>rfl
 | x::r=>by
  rw[List.find?_cons,List.findIdx?_cons]
  cases p x with
  | true=>rfl
  | false=>
   simp only[Bool.false_eq_true,if_false]
   rw[Q5W p r]
   cases r.findIdx? p<;>simp
def X0i (l:List Cla):Prop:= ∀c∈l,∀u∈c.like,∃d,lk l u=some d
def Nm (c:Cla):Prop:=c.name.length≤100∧(∀f∈c.fields,f.name.length≤100∧f.kind.length≤100)∧ ∀m∈c.methods,m.result.length≤100∧ ∀p∈m.params,p.length≤100
structure Ok (l : List Cla) : Prop where
  acy : Jd l
  len : l.length ≤ 100000
  sm : ∀ c ∈ l, Qm c
  full : X0i l
  nm : ∀ c ∈ l, Nm c
abbrev oM (o:Option Hm.Met):Hm.Met:=o.getD Hm.Met.zero
abbrev o1 (o:Option (X0×Hm.Met)):X0:=(o.map (·.1)).getD []
abbrev o2 (o:Option (X0×Hm.Met)):Hm.Met:=(o.map (·.2)).getD Hm.Met.zero
theorem Xn {α β:Type} {xs:List α} {f:α→Option β} {n:Nat} (h:n<xs.length) (a:(xs.take n).findSome? f=none):(xs.take (n+1)).findSome? f=f xs[n]:=by
 rw[List.take_add_one,List.getElem?_eq_getElem h,List.findSome?_append,a];simp
theorem Xm {α β:Type} {xs:List α} {f:α→Option β} {n:Nat} {y:β} (h:n<xs.length) (a:(xs.take n).findSome? f=none) (b:f xs[n]=some y):xs.findSome? f=some y:=by
 have:=Xn h a
 rw[b] at this
 rw[←List.take_append_drop (n+1) xs,List.findSome?_append,this];rfl
end Go.Hm
namespace Go.Proofs.YtjdiakhipmggjaaGreatDoor
open Go.Emb Go.RowKit Go.Kd Go.Hm
variable {w : World} {K : Value → World → Prop} {σ : Q6} {v : Value} {l : List Cla}
theorem Qx:E8 σ Hm.Met.zero [S [], .slice none 0 0,S [], .bool false,I 0, .slice none 0 0, .slice none 0 0]:=
 ⟨_,_,_,rfl,Sl.nil,Sl.nil,Sl.nil,by decide,by decide,by decide,by decide⟩
theorem Fv (h:K (.agg [S [], .slice none 0 0,S [], .bool false,I 0, .slice none 0 0, .slice none 0 0].toArray) w):E3 P T.d [] w K:=V6 (by kernel_rfl) h
theorem X1n {c:Cla} {cs:List Value} {n:X0} (hs:X3 w σ) (hc:V0 σ c cs) (hsm:Qm c)
 (h: ∀pv cv hv w' σ',Stp w σ w' σ'→E8 σ' (oM (B9 c n)) [S (oM (B9 c n)).name,pv,S (oM (B9 c n)).result, .bool (oM (B9 c n)).abs,I (oM (B9 c n)).locals,cv,hv]→
  K (.tuple #[.agg [S (oM (B9 c n)).name,pv,S (oM (B9 c n)).result, .bool (oM (B9 c n)).abs,I (oM (B9 c n)).locals,cv,hv].toArray, .bool (B9 c n).isSome]) w'):Q1 P F.cC [.agg cs.toArray,S n] w K:=Q8i (by
 obtain ⟨lv,fv,mv,rfl,g1,g2,g3,g4,g5⟩:=hc
 unfold Q30
 refine Z1 hs fun a w1 σ1 hk1 ha1=>?_
 refine U5 hk1.sat rfl fun q w2 σ2 hk2 hq=>?_
 refine M8 hk2.sat fun b w3 σ3 hb hk3 hm=>?_
 rw[fa]
 have ha3:=(ha1.up hk2).up hk3
 have g3:=((g3.up hk1).up hk2).up hk3
 have hq3:=hq.up hk3
 refine ld hk3.sat ha3 rfl ?_
 rw[Qe]
 have hS3:=(hk1.trans hk2).trans hk3
 have hb0:w.heap.size≤b:=N0 hb (hk1.trans hk2)
 refine Fg (fun x=>decide (x.name=n)) hk3.sat g3 (fun x cs w4 K _ hs4 hr hl hK=>Z6 (Q5j ?_)) fun w4 hb4=>?_
 ·obtain ⟨pv,cv,hv,rfl,_⟩:=hr
  unfold Q0W
  refine Z1 hs4 fun a w5 σ5 hk5 ha5=>?_
  (repeat' (first | (with_reducible intro _) | (with_reducible refine U6 ?_) | (simp only[↓M2,M2,Mb,reduceIte]) | (with_reducible first | refine ld aS aL aR ?_ | refine X7 aS aL aR ?_ | refine Y4 aS aL aR ?_ | refine Q8 aL ?_ | refine Z9 aR ?_ | refine Z1 aS ?_ | refine N2 aS aL ?_ | refine U5 aS aR ?_ | refine Y9 aS aR aR (Rep.one (by assumption)) ?_ | refine U7 aS aR aR aR ?_ | (refine Z8 (fun hh=>?_) (fun hh=>?_)<;>(try simp only[hh,Bool.not_true,Bool.not_false,↓M2,M2,Mb,reduceIte])) | (refine Q7 (fun hh=>?_) (fun hh=>?_)<;>(try simp only[hh,Bool.not_true,Bool.not_false,↓M2,M2,Mb,reduceIte])))))
  exact hK _ hk5.bel
 have hk4:Stp w3 σ3 w4 σ3:=Stp.of_below hk3.sat hb4
 have hm:=hm.step hk4
 have hS4:=hS3.trans hk4
 unfold B9 at h
 rw[Q5W] at h
 refine Z0 ?_
 cases hf:c.methods.findIdx? fun x=>decide (x.name=n) with
 | none=>
  rw[hf] at h
  simp only[L5]
  refine J5 ?_
  refine Fv ?_
  refine F6 hm hS4 hb0 rfl rfl (Rep.one (Qx (σ:=σ3))) fun w5 hS5 hm5=>?_
  refine V1 hm5 rfl ?_
  exact h _ _ _ w5 σ3 hS5.stp Qx
 | some i=>
  rw[hf] at h
  have hi:i<c.methods.length:=(List.findIdx?_eq_some_iff_getElem.1 hf).1
  simp only[Option.bind_some,List.getElem?_eq_getElem hi] at h
  simp only[L5]
  refine Q7 (fun hh=>absurd (of_decide_eq_true hh) (by omega)) (fun _=>?_)
  rw[fa]
  refine ld hk4.sat ha3 rfl ?_
  refine M9 g3 hi fun p cells hl1 hl2 hr=>?_
  refine Y4 hk4.sat hl1 hl2 ?_
  refine Q4q hk4.sat hr (hsm.2.2.2 _ (List.getElem_mem hi)) fun pv cv hv w5 σ5 hk5 hr5=>?_
  refine F6 (hm.step hk5) (hS4.trans hk5) hb0 rfl rfl (Rep.one hr5) fun w6 hS6 hm6=>?_
  refine V1 hm6 rfl ?_
  exact h _ _ _ w6 σ5 hS6.stp hr5)
theorem X34 {n:X0} (ok:Ok l): ∀(k:Nat) {c:Cla} {cs:List Value} {w:World} {σ:Q6} {K:Value→World→Prop},K6 l c.name<k→lk l c.name=some c→X3 w σ→Tab σ v l→V0 σ c cs→
 (∀pv Z W w' X,Stp w σ w' X→E8 X (o2 (V4 l c n)) [S (o2 (V4 l c n)).name,pv,S (o2 (V4 l c n)).result, .bool (o2 (V4 l c n)).abs,I (o2 (V4 l c n)).locals,Z,W]→
  K (.tuple #[S (o1 (V4 l c n)), .agg [S (o2 (V4 l c n)).name,pv,S (o2 (V4 l c n)).result, .bool (o2 (V4 l c n)).abs,I (o2 (V4 l c n)).locals,Z,W].toArray, .bool (V4 l c n).isSome]) w')→
 Q1 P F.aU [v, .agg cs.toArray,S n] w K:=by
 intro k
 induction k with
 | zero=>
  intro c cs w σ K hk
  omega
 | succ k ih=>
  intro c cs w σ K hk hc hs ht hr h
  refine Ab ?_
  obtain ⟨lv,fv,mv,rfl,g1,g2,g3,g4,g5⟩:=hr
  have D:=Q4g ok.acy hc n
  generalize hf:(fun u=>match lk l u with | none=>none | some d=>match B9 d n with | some m=>some (u,m) | none=>V4 l d n)=f at D
  unfold On
  refine Z1 hs fun a w1 σ1 J a9=>?_
  refine M8 J.sat fun b w2 σ2 hb L a2=>?_
  have U:w.heap.size≤b:=N0 hb J
  have a4:=a9.up L
  rw[fa]
  refine ld L.sat a4 rfl ?_
  have g1:=(g1.up J).up L
  refine Q8 g1 ?_
  refine U0 c.like.length (fun i w'=> ∃X,Stp w σ w' X∧SLe σ2 X∧Y2 X w' b [S [], .slice none 0 0,S [], .bool false,I 0, .slice none 0 0, .slice none 0 0]∧(c.like.take i).findSome? f=none) ⟨σ2,J.trans L,SLe.refl _,a2,rfl⟩ fun i w3 d hi aj=>?_
  obtain ⟨σ3,y,ak,am,z⟩:=aj
  have a8:=ht.lift ⟨y.le⟩
  refine Z0 ?_
  refine Q7 (fun hh=>?_) (fun hh=>?_)
  ·have g:i<c.like.length:=by simpa using hh
   refine Q51 (g1.lift ak) g fun p a3 af=>?_
   refine X7 y.sat a3 rfl ?_
   obtain ⟨d,Y⟩:=ok.full c (V3 hc).2.1 _ (List.getElem_mem g)
   obtain ⟨ad,av,_⟩:=V3 Y
   have j:f c.like[i]=match B9 d n with | some m=>some (c.like[i],m) | none=>V4 l d n:=by rw[←hf];simp only[Y]
   refine Zo y.sat a8 Y fun a5 a1 aq w4 σ4 H f1 f2 f3 f4 f5 az=>?_
   refine X1n H.sat az (ok.sm d av) fun pv Z W w5 σ5 M ag=>?_
   refine J6 (vs:=[_,_]) rfl ?_
   refine J6 (vs:=[_,_]) rfl ?_
   refine Y9 M.sat (by rfl) rfl (Rep.one ag) fun q w6 σ6 B ae=>?_
   have t:=((y.trans H).trans M).trans B
   have ac:=((am.step H).step M).step B
   have R:=RMe_lift ag ⟨B.le⟩
   cases ho:B9 d n with
   | some m=>
    rw[ho] at j R ae
    (try simp only[ho])
    refine J5 ?_
    refine U2 t.sat ?_
    refine H0 (fun v _=>v= .agg [S m.name,pv,S m.result, .bool m.abs,I m.locals,Z,W].toArray) (fun _ _ _ h _=>h) (fun w hb=>Y4 hb.sat ae rfl ⟨Below.refl _ _,rfl⟩) ?_
    rintro _ w7 ah rfl
    refine F6 (ac.step ah.stp) (t.trans ah.stp) U rfl rfl (Rep.one R) fun w8 ar aw=>?_
    refine V1 aw rfl ?_
    have Q:=D.trans (Xm g z j)
    rw[Q] at h
    exact h _ _ _ w8 σ6 ar.stp R
   | none=>
    rw[ho] at j
    (try simp only[Option.isSome_none])
    refine Z7 ?_
    refine Zo t.sat (ht.lift ⟨t.le⟩) Y fun a5 a1 aq w7 σ7 A f1 f2 f3 f4 f5 a0=>?_
    have bn:=Xy ok.acy hc (by simp[U3,List.getElem_mem g]:c.like[i]∈U3 c) Y
    refine ih (by rw[ad];omega) (by rw[ad];exact Y) A.sat (ht.lift ⟨(t.trans A).le⟩) a0 fun pv Z W w8 σ8 C aa=>?_
    refine J6 (vs:=[_,_,_]) rfl ?_
    refine J6 (vs:=[_,_,_]) rfl ?_
    refine J6 (vs:=[_,_,_]) rfl ?_
    refine Y9 C.sat (by rfl) rfl (Rep.one aa) fun q w9 σ9 E al=>?_
    have V:=((t.trans A).trans C).trans E
    have ai:=((ac.step A).step C).step E
    have O:=RMe_lift aa ⟨E.le⟩
    cases Q:V4 l d n with
    | some r=>
     obtain ⟨s,m⟩:=r
     rw[Q] at j O al
     (try simp only[Q])
     refine J5 ?_
     refine U2 V.sat ?_
     refine H0 (fun v _=>v= .agg [S m.name,pv,S m.result, .bool m.abs,I m.locals,Z,W].toArray) (fun _ _ _ h _=>h) (fun w hb=>Y4 hb.sat al rfl ⟨Below.refl _ _,rfl⟩) ?_
     rintro _ bq N rfl
     refine F6 (ai.step N.stp) (V.trans N.stp) U rfl rfl (Rep.one O) fun ba ab ao=>?_
     refine V1 ao rfl ?_
     have af:=D.trans (Xm g z j)
     rw[af] at h
     exact h _ _ _ ba σ9 ab.stp O
    | none=>
     rw[Q] at j
     (try simp only[Option.isSome_none])
     refine Z7 ?_
     refine N3 ?_
     refine Y5 (by have:=g1.max;omega) g ⟨σ9,V,?_,ai,?_⟩
     ·exact ak.more ⟨fun b o e=>E.le _ _ (C.le _ _ (A.le _ _ (B.le _ _ (M.le _ _ (H.le _ _ e)))))⟩
     ·rw[Xn g z];exact j
  ·have g: ¬i<c.like.length:=by simpa using hh
   rw[List.take_of_length_le (by omega)] at z
   refine Fv ?_
   refine F6 am y U rfl rfl (Rep.one (Qx (σ:=σ3))) fun w5 a6 a7=>?_
   refine V1 a7 rfl ?_
   have Q:=D.trans z
   rw[Q] at h
   exact h _ _ _ w5 σ3 a6.stp Qx
end Go.Proofs.YtjdiakhipmggjaaGreatDoor

namespace Go.Hm
open Go.Kd
theorem X0j {l:List Cla} {n:X0} {c:Cla} (h:c∈chain l n):lk l c.name=some c:=by
 have key: ∀(f:Nat) (n:X0),c∈I4 (lk l) f n→lk l c.name=some c:=by
  intro f
  induction f with
  | zero=>intro n h;simp[I4] at h
  | succ f b=>
   intro n h
   simp only[I4] at h
   split at h
   ·simp at h
   ·rename_i d a
    rcases List.mem_cons.1 h with rfl | h
    ·rw[(V3 a).1];exact a
    ·exact b _ h
 exact key _ _ h
end Go.Hm
namespace Go.Proofs.YtjdiakhipmggjaaGreatDoor
open Go.Emb Go.RowKit Go.Kd Go.Hm
variable {w : World} {K : Value → World → Prop} {σ : Q6} {v : Value} {l : List Cla}
theorem X0l {k n:X0} (hs:X3 w σ) (ht:Tab σ v l) (ok:Ok l)
 (h: ∀pv cv hv w' H,Stp w σ w' H→E8 H (o2 (V2 l k n)) [S (o2 (V2 l k n)).name,pv,S (o2 (V2 l k n)).result, .bool (o2 (V2 l k n)).abs,I (o2 (V2 l k n)).locals,cv,hv]→
  K (.tuple #[S (o1 (V2 l k n)), .agg [S (o2 (V2 l k n)).name,pv,S (o2 (V2 l k n)).result, .bool (o2 (V2 l k n)).abs,I (o2 (V2 l k n)).locals,cv,hv].toArray, .bool (V2 l k n).isSome]) w'):
 Q1 P F.bc [v,S k,S n] w K:=Gv (by
 unfold Wz
 refine M8 hs fun b w1 σ1 E Q ax=>?_
 refine Q9s Q.sat (ht.lift ⟨Q.le⟩) ok.acy ok.len fun v1 w2 σ2 a0 a1=>?_
 have ba:=ax.step a0
 have bh:=ax.lt
 refine Q4c (Q.trans a0) (a1.mono Q.bel.size) fun w3 a6 a7 az=>?_
 rw[List.reverse_reverse] at az
 obtain ⟨σ3,ak,L,bp,ae⟩:=az.keep a7
 have br:=Ct l k
 have am:v1.ownBlock≠some b:=fun e=>by have:=a1.own e;omega
 have ap:Y2 σ3 w3 b [S [], .slice none 0 0,S [], .bool false,I 0, .slice none 0 0, .slice none 0 0]:=by
  have:=ba.kp a6 am
  exact ⟨(ae b fun e=>am e.symm).trans this.1,this.2⟩
 refine Q8 L ?_
 unfold V2 at h
 refine U0 (chain l k).length (fun i w'=> ∃H,Stp w σ w' H∧SLe σ3 H∧Y2 H w' b [S [], .slice none 0 0,S [], .bool false,I 0, .slice none 0 0, .slice none 0 0]∧((chain l k).take i).findSome? (fun c=>(B9 c n).map (c.name,·))=none) ⟨σ3,ak,SLe.refl _,ap,rfl⟩ fun i w5 d hi C=>?_
 obtain ⟨σ5,J,O,ad,y⟩:=C
 refine Z0 ?_
 refine Q7 (fun hh=>?_) (fun hh=>?_)
 ·have a:i<(chain l k).length:=by simpa using hh
  refine M9 (L.lift O) a fun p cells Y z Z=>?_
  refine Y4 J.sat Y z ?_
  refine Y9 J.sat (by rfl) z (Rep.one Z) fun q w6 σ6 A an=>?_
  refine Y4 A.sat an z ?_
  have ac:=Bk (List.getElem_mem a)
  refine X1n A.sat (Rep.up A.le Z) (ok.sm _ ac) fun pv cv hv w7 σ7 j ay=>?_
  refine J6 (vs:=[_,_]) rfl ?_
  refine J6 (vs:=[_,_]) rfl ?_
  refine Y9 j.sat (by rfl) rfl (Rep.one ay) fun q8 w8 σ8 u aw=>?_
  have V:=((J.trans A).trans j).trans u
  have aj:=((ad.step A).step j).step u
  have B:=RMe_lift ay ⟨u.le⟩
  cases D:B9 (chain l k)[i] n with
  | some m=>
   rw[D] at B aw
   (try simp only[D])
   refine J5 ?_
   obtain ⟨lv,fv,mv,rfl,g⟩:=Z
   refine U2 V.sat ?_
   refine X4 (.pointer (some (q.add 0))) (fun w E=>by rw[fa];exact X6 rfl) ?_
   refine X4 (S (chain l k)[i].name) (fun t w E e=>by rw[e];exact ld E.sat ((an.up j).up u) rfl (X6 rfl)) ?_
   refine H0 (fun v _=>v= .agg [S m.name,pv,S m.result, .bool m.abs,I m.locals,cv,hv].toArray) (fun _ _ _ h _=>h) (fun w E=>Y4 E.sat aw rfl ⟨Below.refl _ _,rfl⟩) ?_
   rintro _ _ _ w9 aq rfl rfl rfl
   refine F6 (aj.step aq.stp) (V.trans aq.stp) E rfl rfl (Rep.one B) fun ag al av=>?_
   refine V1 av rfl ?_
   rw[Xm (f:=fun c=>(B9 c n).map (c.name,·)) a y (by simp only[D];rfl)] at h
   exact h _ _ _ ag σ8 al.stp B
  | none=>
   (try simp only[D])
   refine Z7 ?_
   refine N3 ?_
   refine Y5 (by have:=ok.len;omega) a ⟨σ8,V,O.more ⟨fun b o e=>u.le _ _ (j.le _ _ (A.le _ _ e))⟩,aj,?_⟩
   rw[Xn a y];simp only[D];rfl
 ·have a: ¬i<(chain l k).length:=by simpa using hh
  rw[List.take_of_length_le (by omega)] at y
  rw[y] at h
  clear ap ak hh
  refine Q8 (L.lift O) ?_
  refine U0 (chain l k).length (fun i w'=> ∃H,Stp w σ w' H∧SLe σ3 H∧Y2 H w' b [S [], .slice none 0 0,S [], .bool false,I 0, .slice none 0 0, .slice none 0 0]∧((chain l k).take i).findSome? (fun c=>V4 l c n)=none) ⟨σ5,J,O,ad,rfl⟩ fun i w6 d hi C=>?_
  obtain ⟨σ6,N,ar,ai,y⟩:=C
  refine Z0 ?_
  refine Q7 (fun hh=>?_) (fun hh=>?_)
  ·have a:i<(chain l k).length:=by simpa using hh
   refine M9 (L.lift ar) a fun p cells Y z Z=>?_
   refine Y4 N.sat Y z ?_
   refine Y9 N.sat (by rfl) z (Rep.one Z) fun q w7 σ7 j a4=>?_
   refine Y4 j.sat a4 z ?_
   have R:=N.trans j
   have a9:=X0j (List.getElem_mem a)
   refine X34 ok _ (Nat.lt_succ_self _) a9 j.sat (ht.lift ⟨R.le⟩) (Rep.up j.le Z) fun pv cv hv w8 σ8 u B=>?_
   refine J6 (vs:=[_,_,_]) rfl ?_
   refine J6 (vs:=[_,_,_]) rfl ?_
   refine J6 (vs:=[_,_,_]) rfl ?_
   refine Y9 u.sat (by rfl) rfl (Rep.one B) fun q9 w9 σ9 M ao=>?_
   have X:=(R.trans u).trans M
   have af:=((ai.step j).step u).step M
   have W:=RMe_lift B ⟨M.le⟩
   cases D:V4 l (chain l k)[i] n with
   | some r=>
    obtain ⟨s,m⟩:=r
    rw[D] at W ao
    (try simp only[D])
    refine J5 ?_
    refine U2 X.sat ?_
    refine H0 (fun v _=>v= .agg [S m.name,pv,S m.result, .bool m.abs,I m.locals,cv,hv].toArray) (fun _ _ _ h _=>h) (fun w E=>Y4 E.sat ao rfl ⟨Below.refl _ _,rfl⟩) ?_
    rintro _ ag U rfl
    refine F6 (af.step U.stp) (X.trans U.stp) E rfl rfl (Rep.one W) fun a5 ah a2=>?_
    refine V1 a2 rfl ?_
    have:=Xm (f:=fun c=>V4 l c n) a y D
    unfold V4 at this
    rw[this] at h
    exact h _ _ _ a5 σ9 ah.stp W
   | none=>
    (try simp only[D])
    refine Z7 ?_
    refine N3 ?_
    refine Y5 (by have:=ok.len;omega) a ⟨σ9,X,ar.more ⟨fun b o e=>M.le _ _ (u.le _ _ (j.le _ _ e))⟩,af,?_⟩
    rw[Xn a y];exact D
  ·have a: ¬i<(chain l k).length:=by simpa using hh
   rw[List.take_of_length_le (by omega)] at y
   refine Fv ?_
   refine F6 ai N E rfl rfl (Rep.one (Qx (σ:=σ6))) fun w7 R a8=>?_
   refine V1 a8 rfl ?_
   unfold V4 at y
   rw[y] at h
   exact h _ _ _ w7 σ6 R.stp Qx)
theorem Q45 {n:X0} (hs:X3 w σ) (ht:Tab σ v l) (h: ∀w' σ',Stp w σ w' σ'→K (.bool (A4 l n)) w'):Q1 P F.aD [v,S n] w K:=Fa (by
 unfold Vs
 unfold A4 at h
 cases hd:lk l n with
 | none=>
  rw[hd] at h
  (repeat' (first | (with_reducible intro _) | (with_reducible refine U6 ?_) | (simp only[↓M2,M2,Mb,reduceIte]) | (with_reducible first | refine ld aS aL aR ?_ | refine X7 aS aL aR ?_ | refine Y4 aS aL aR ?_ | refine Q8 aL ?_ | refine Z9 aR ?_ | refine Z1 aS ?_ | refine N2 aS aL ?_ | refine U5 aS aR ?_ | refine Y9 aS aR aR (Rep.one (by assumption)) ?_ | refine U7 aS aR aR aR ?_ | refine Q0m au au au ?_ | (refine Z8 (fun hh=>?_) (fun hh=>?_)<;>(try simp only[hh,Bool.not_true,Bool.not_false,↓M2,M2,Mb,reduceIte])) | (refine Q7 (fun hh=>?_) (fun hh=>?_)<;>(try simp only[hh,Bool.not_true,Bool.not_false,↓M2,M2,Mb,reduceIte])))))
  all_goals exact aF
 | some d=>
  rw[hd] at h
  (repeat' (first | (with_reducible intro _) | (with_reducible refine U6 ?_) | (simp only[↓M2,M2,Mb,reduceIte]) | (with_reducible first | refine ld aS aL aR ?_ | refine X7 aS aL aR ?_ | refine Y4 aS aL aR ?_ | refine Q8 aL ?_ | refine Z9 aR ?_ | refine Z1 aS ?_ | refine N2 aS aL ?_ | refine U5 aS aR ?_ | refine Y9 aS aR aR (Rep.one (by assumption)) ?_ | refine U7 aS aR aR aR ?_ | refine Ru au au au ?_ | refine Zo au au au ?_ | (refine Z8 (fun hh=>?_) (fun hh=>?_)<;>(try simp only[hh,Bool.not_true,Bool.not_false,↓M2,M2,Mb,reduceIte])) | (refine Q7 (fun hh=>?_) (fun hh=>?_)<;>(try simp only[hh,Bool.not_true,Bool.not_false,↓M2,M2,Mb,reduceIte])))))
  all_goals exact aF)
end Go.Proofs.YtjdiakhipmggjaaGreatDoor

namespace Go.Kd
def brk (b:UInt8):Bool:=[(91:UInt8),93].contains b
def Q1F:Nat→X0→X0
 | 0,s=>s
 | n+1,s=>match s.getLast? with
  | some b=>if brk b then Q1F n (s.take (s.length-1)) else s
  | none=>s
def Hg (s:X0):X0:=Q1F s.length s
theorem Q8x: ∀(n m:Nat) (s:X0),s.length≤n→s.length≤m→Q1F n s=Q1F m s:=by
 intro n
 induction n with
 | zero=>
  intro m s h _
  have:s=[]:=List.eq_nil_of_length_eq_zero (by omega)
  subst this
  cases m<;>rfl
 | succ n a=>
  intro m s h d
  cases m with
  | zero=>
   have:s=[]:=List.eq_nil_of_length_eq_zero (by omega)
   subst this;rfl
  | succ m=>
   simp only[Q1F]
   cases c:s.getLast? with
   | none=>rfl
   | some b=>
    simp only
    split
    ·exact a m _ (by rw[List.length_take];omega) (by rw[List.length_take];omega)
    ·rfl
theorem Q1u (s:X0):Hg s=match s.getLast? with | some b=>if brk b then Hg (s.take (s.length-1)) else s | none=>s:=by
 unfold Hg
 cases d:s with
 | nil=>rfl
 | cons c r=>
  rw[←d]
  obtain ⟨n,e⟩: ∃n,s.length=n+1:=⟨r.length,by rw[d];rfl⟩
  have a:s.length-1=n:=by omega
  rw[e]
  simp only[Q1F,a]
  cases f:s.getLast? with
  | none=>rfl
  | some b=>
   simp only
   split
   ·rw[show n+1-1=n by omega];exact Q8x n (s.take n).length _ (by rw[List.length_take];omega) (Nat.le_refl _)
   ·rfl
theorem Q8O {s:X0} (h:name s=true): ∃b,s.getLast?=some b∧S8 b.toNat=true:=by
 cases s with
 | nil=>simp[name] at h
 | cons c r=>
  refine ⟨(c::r).getLast (by simp),List.getLast?_eq_some_getLast (by simp),?_⟩
  simp only[name,Bool.and_eq_true,List.all_eq_true] at h
  exact h.2 _ (List.getLast_mem _)
theorem Q96 {b:UInt8} (h:S8 b.toNat=true):brk b=false:=by
 have a:b≠91:=by rintro rfl;revert h;decide
 have c:b≠93:=by rintro rfl;revert h;decide
 simp[brk,a,c]
theorem Mi {s:X0} (h:(plain s||M6 s)=true):name s=true:=by
 simp only[Bool.or_eq_true] at h
 rcases h with h | h
 ·simp only[plain,Bool.or_eq_true,decide_eq_true_eq] at h
  rcases h with (h | h) | h<;>subst h<;>decide
 ·cases s with
  | nil=>simp[M6] at h
  | cons c r=>simp only[M6,Bool.and_eq_true] at h;exact h.1
end Go.Kd
namespace Go.Proofs.YtjdiakhipmggjaaGreatDoor
open Go.Emb Go.RowKit Go.Kd Go.Hm
variable {w : World} {K : Value → World → Prop} {σ : Q6} {v : Value} {l : List Cla}
theorem X09 {s:X0} (h:arr s=true):Hg s=Hg (Kd.cutA s):=by
 have b:2≤s.length∧s.drop (s.length-2)=[91,93]:=by simpa [arr] using h
 obtain ⟨i,e⟩:=b
 have a:s=Kd.cutA s++[91,93]:=by unfold Kd.cutA;rw[←e,List.take_append_drop]
 have g:(Kd.cutA s).length+2=s.length:=by unfold Kd.cutA;rw[List.length_take];omega
 have f:s.getLast?=some 93:=by rw[a];simp
 have d:s.take (s.length-1)=Kd.cutA s++[91]:=by
  conv=>lhs;rw[a]
  rw[List.take_append,List.length_append]
  simp
  exact List.take_of_length_le (by omega)
 rw[Q1u s,f]
 simp only[show brk 93=true from rfl,if_true,d]
 rw[Q1u]
 have c:(Kd.cutA s++[91]).getLast?=some 91:=by simp
 rw[c]
 simp only[show brk 91=true from rfl,if_true]
 congr 1
 simp
theorem Q8L {s:X0}:(plain (base s).1||M6 (base s).1)=true→Hg s=(base s).1:=by
 have key: ∀(n:Nat) (s:X0),s.length≤n→(plain (base s).1||M6 (base s).1)=true→Hg s=(base s).1:=by
  intro n
  induction n with
  | zero=>
   intro s h a
   have:s=[]:=List.eq_nil_of_length_eq_zero (by omega)
   subst this;rfl
  | succ n e=>
   intro s h a
   by_cases c:arr s=true
   ·have d:base s=((base (Kd.cutA s)).1,(base (Kd.cutA s)).2+1):=by rw[Xo s,c];simp
    rw[d] at a⊢
    rw[X09 c]
    exact e _ (by have:=K1 c;omega) a
   ·have d:base s=(s,0):=by rw[Xo s,eq_false_of_ne_true c];simp
    rw[d] at a⊢
    obtain ⟨b,f,g⟩:=Q8O (Mi a)
    rw[Q1u,f]
    simp[Q96 g]
 exact key _ s (Nat.le_refl _)
instance z_asciiSet:TZ P T.ab 256 256 (.agg (Array.replicate 256 (.bool false))):=⟨by kernel_rfl⟩
theorem Q6z (h: ∀w',Below w.heap.size w w'→K (.tuple #[.agg (Lib.setCells [91,93]), .bool true]) w'):Q1 P F.ci [S [91,93]] w K:=by
 refine Wq (fn:=Tryz.f157) Tryz.func157 (by kernel_rfl) (by kernel_rfl) (Calls.mono (Tryz.strings_makeASCIISet (fun w=>Zj z_asciiSet w) ⟨[91,93].toArray⟩ w (by decide) (by
  intro j b a
  have:b∈[(91:UInt8),93]:=List.mem_of_getElem? a
  simp at this;rcases this with rfl | rfl<;>decide)) ?_)
 rintro e w' ⟨rfl,rfl⟩
 exact h _ ((Below.refl _ _).alloc (Nat.le_refl _) _)
theorem Q3q {q:Addr} {b:UInt8} (c:X3 w σ) (a:Z4 σ q (Lib.setCells [91,93]).toList) (h:K (.bool (brk b)) w):Q1 P F.ax [.pointer (some q), .int .u8 b.toNat] w K:=Oa (by
 unfold Xa
 rw[L7]
 have d:=b.toNat_lt
 rw[Q9T (by omega) (by omega)]
 refine ld c a ?_ h
 have:=Lib.setCells_at [91,93] b
 rw[←Array.getElem?_toList] at this
 simpa [brk] using this)
theorem Q2D {q:Addr} {s:X0} (k:X3 w σ) (j:s.length≤U1) (n:Z4 σ q (Lib.setCells [91,93]).toList) (h:K (S (Hg s)) w):Q1 P F.ao [S s, .pointer (some q)] w K:=Sp (by
 unfold Ul
 refine U6 ?_
 refine We (fun x w'=>w'=w∧ ∃u:X0,x=S u∧u.length≤U1∧Hg u=Hg s) (fun x _=>(sOf x).length) ⟨rfl,s,rfl,j,rfl⟩ ?_
 rintro _ d _ ⟨rfl,u,rfl,e,g⟩
 have f:sOf (S u)=u:=by simp[sOf]
 simp only[f]
 refine Fq X8 ?_
 refine Q1x ?_
 refine Q7 (fun hh=>?_) (fun hh=>?_)
 ·have m:0<u.length:=by simpa using hh
  have o:u.length≤9223372036854775807:=Nat.le_trans e (by decide)
  refine Fq X8 ?_
  refine Zi ⟨by omega,by omega⟩ ?_
  have i:((u.length:Int)-1).toNat=u.length-1:=by omega
  rw[Xw X8 (by omega) (by omega)]
  simp only[i]
  have b:u.getLast?=some (u[u.length-1]'(by omega)):=by rw[List.getLast?_eq_getElem?,List.getElem?_eq_getElem]
  have a:=Q1u u
  rw[b] at a
  simp only at a
  refine Q3q k n ?_
  cases c:brk (u[u.length-1]'(by omega)) with
  | true=>
   rw[c] at a
   simp only[↓M1,M1,Mb,reduceIte]
   rw[F9 (by omega) (by omega),T3 X8 (by omega) (by omega)]
   simp only[i]
   refine ⟨⟨trivial,_,rfl,by rw[List.length_take];omega,?_⟩,?_⟩
   ·rw[←g,a];simp
   ·have:sOf (S (u.take (u.length-1)))=u.take (u.length-1):=by simp[sOf]
    simp only[this,List.length_take];omega
  | false=>
   rw[c] at a
   simp only[↓M1,M1,Mb,reduceIte]
   intro _
   rw[←g,a] at h
   simpa using h
 ·have m: ¬0<u.length:=by simpa using hh
  have:u=[]:=List.eq_nil_of_length_eq_zero (by omega)
  subst this
  intro _
  rw[←g] at h
  exact h)
theorem Q6P {s:X0} (hs:X3 w σ) (hl:s.length≤U1) (h: ∀w' σ',Stp w σ w' σ'→K (S (Hg s)) w'):Q1 P F.bH [S s,S [91,93]] w K:=Tt (by
 unfold Ol
 by_cases hs0:s=[]
 ·subst hs0
  (repeat' (first | (with_reducible intro _) | (with_reducible refine U6 ?_) | (simp only[↓M2,M2,Mb,reduceIte]) | (with_reducible first | refine ld aS aL aR ?_ | refine X7 aS aL aR ?_ | refine Y4 aS aL aR ?_ | refine Q8 aL ?_ | refine Z9 aR ?_ | refine Z1 aS ?_ | refine N2 aS aL ?_ | refine U5 aS aR ?_ | refine Y9 aS aR aR (Rep.one (by assumption)) ?_ | refine U7 aS aR aR aR ?_ | (refine Z8 (fun hh=>?_) (fun hh=>?_)<;>(try simp only[hh,Bool.not_true,Bool.not_false,↓M2,M2,Mb,reduceIte])) | (refine Q7 (fun hh=>?_) (fun hh=>?_)<;>(try simp only[hh,Bool.not_true,Bool.not_false,↓M2,M2,Mb,reduceIte])))))
  all_goals first | exact h _ _ (by (repeat (first | exact Stp.refl (by (first | assumption | exact Stp.sat (by assumption) | exact Hst.sat (by assumption))) | assumption | refine Stp.trans ?_ (by first | assumption | exact Hst.stp (by assumption))))) | (exfalso;simp_all)
 have d1:decide (s=[])=false:=decide_eq_false hs0
 simp only[d1,show decide (([91,93]:X0)=[])=false from rfl,show decide ((([91,93]:X0).length:Int)=1)=false from rfl,↓M1,M1,Mb,reduceIte]
 refine Q6z (L2 hs fun w1 σ1 hk1=>?_)
 simp only[↓M1,M1,Mb,reduceIte]
 have hsz:(Lib.setCells [91,93]).toList.length=256:=by rw[Array.length_toList];exact Lib.setCells_size _
 have hone: ∀u∈(Lib.setCells [91,93]).toList,u.oneCell'=true:=by
  have:=Lib.setCells_one [91,93]
  rw[Array.all_eq_true'] at this
  intro u hu;exact this u (by simpa using hu)
 have htr: ∀{w:World} {σ:Q6} {K:Value→World→Prop} {q:Addr},X3 w σ→Z4 σ q (Lib.setCells [91,93]).toList→K (S (Hg s)) w→Q1 P F.ao [S s, .pointer (some q)] w K:=fun hs hq h=>Q2D hs hl hq h
 have hta:Lib.setCells [91,93]=(Lib.setCells [91,93]).toList.toArray:=Array.toArray_toList.symm
 generalize (Lib.setCells [91,93]).toList=cs at*
 rw[hta]
 refine Y9 hk1.sat (by show (Array.replicate 256 (Value.bool false)).size=256;exact Array.size_replicate) hsz hone fun q w2 σ2 hk2 hq=>?_
 refine htr hk2.sat hq ?_
 exact h _ _ (hk1.trans hk2))
theorem Q0L {s:X0} (hs:X3 w σ) (ht:Tab σ v l) (hl:s.length≤U1) (h: ∀w' σ',Stp w σ w' σ'→K (.bool (N1 l s)) w'):Q1 P F.s [v,S s] w K:=Ap (by
 unfold Dj
 unfold N1 at h
 refine P4 ?_
 refine Q7 (fun hh=>?_) (fun hh=>?_)
 ·have e:decide (s=H7)=true:=hh
  rw[e] at h
  exact h _ _ (Stp.refl hs)
 ·have e:decide (s=H7)=false:=hh
  rw[e] at h
  refine Q6P hs hl fun w1 σ1 hk1=>?_
  refine Zk s (Nat.le_trans hl (by decide)) (L2 hk1.sat fun w2 σ2 hk2=>?_)
  cases hr:right s with
  | false=>
   rw[hr] at h
   (repeat' (first | (with_reducible intro _) | (with_reducible refine U6 ?_) | (simp only[↓M2,M2,Mb,reduceIte]) | (with_reducible first | refine ld aS aL aR ?_ | refine X7 aS aL aR ?_ | refine Y4 aS aL aR ?_ | refine Q8 aL ?_ | refine Z9 aR ?_ | refine Z1 aS ?_ | refine N2 aS aL ?_ | refine U5 aS aR ?_ | refine Y9 aS aR aR (Rep.one (by assumption)) ?_ | refine U7 aS aR aR aR ?_ | (refine Z8 (fun hh=>?_) (fun hh=>?_)<;>(try simp only[hh,Bool.not_true,Bool.not_false,↓M2,M2,Mb,reduceIte])) | (refine Q7 (fun hh=>?_) (fun hh=>?_)<;>(try simp only[hh,Bool.not_true,Bool.not_false,↓M2,M2,Mb,reduceIte])))))
   all_goals exact aF
  | true=>
   rw[hr] at h
   have hr2:(plain (base s).1||M6 (base s).1)=true:=by
    simp only[right,Bool.and_eq_true] at hr;exact hr.2
   rw[Q8L hr2]
   (repeat' (first | (with_reducible intro _) | (with_reducible refine U6 ?_) | (simp only[↓M2,M2,Mb,reduceIte]) | (with_reducible first | refine ld aS aL aR ?_ | refine X7 aS aL aR ?_ | refine Y4 aS aL aR ?_ | refine Q8 aL ?_ | refine Z9 aR ?_ | refine Z1 aS ?_ | refine N2 aS aL ?_ | refine U5 aS aR ?_ | refine Y9 aS aR aR (Rep.one (by assumption)) ?_ | refine U7 aS aR aR aR ?_ | refine Rm _ ?_ | refine Q8a au au ?_ | (refine Z8 (fun hh=>?_) (fun hh=>?_)<;>(try simp only[hh,Bool.not_true,Bool.not_false,↓M2,M2,Mb,reduceIte])) | (refine Q7 (fun hh=>?_) (fun hh=>?_)<;>(try simp only[hh,Bool.not_true,Bool.not_false,↓M2,M2,Mb,reduceIte])))))
   all_goals exact aF)
end Go.Proofs.YtjdiakhipmggjaaGreatDoor

namespace Go.Emb
open Go.RowKit Go.Hm
variable {P : Program} {w w0 w1 w' w'' : World} {K : Value → World → Prop} {σ σ0 σ1 σ' : Q6}
theorem Q4E (m:List (List UInt8×Value)) (k n:List UInt8) (v:Value):C4 (Wp m k v) n=if k=n then some v else C4 m n:=by
 induction m with
 | nil=>simp[Wp,C4]
 | cons p r b=>
  simp only[Wp]
  by_cases h:p.1=k
  ·rw[if_pos h]
   simp only[C4]
   by_cases a:k=n
   ·simp[a]
   ·rw[if_neg a,if_neg a,if_neg (by rw[h];exact a)]
  ·rw[if_neg h]
   simp only[C4]
   by_cases a:p.1=n
   ·rw[if_pos a,if_pos a,if_neg (by intro e;exact h (a.trans e.symm))]
   ·rw[if_neg a,if_neg a];exact b
theorem J7.shift {B sz:Nat} {e:TypeId} {v:Value} {xs:List (List UInt8)} (h:J7 B e sz U8 σ w v xs) (m: ∀k,v.ownBlock=some k→σ' k=none):J7 B e sz U8 σ' w v xs:=by
 obtain ⟨a,i,rfl,t,p,c,q⟩:=h
 refine ⟨a,i,rfl,t,p,fun b d=>⟨(c b d).1,(c b d).2.1,(c b d).2.2.1,m _ (by subst d;rfl)⟩,fun s=>?_⟩
 obtain ⟨g,j,f,rfl,r,y,n,o,u⟩:=q s
 exact ⟨g,j,f,rfl,r,m g rfl,n,o,u⟩
theorem Kpt.sat {D:Nat→Prop} (a:X3 w σ) (c:Kpt D w w') (d: ∀k,D k→σ k=none):X3 w' σ:=fun b o e=>by
 rw[c.block b (a.lt e) fun h=>by rw[d b h] at e;cases e];exact a b o e
theorem Nxt.kpt {D D':Nat→Prop} (h:Nxt D w σ w' σ') (a:Kpt D' w' w'') (c: ∀k,D' k→D k) (b: ∀k,D' k→σ' k=none):Nxt D w σ w'' σ':=
 ⟨h.kp.trans (a.mono fun k _ h=>c k h),h.le,h.old,a.sat h.sat b⟩
theorem X3m {t V:TypeId} {e:TypeId} {p:Nat} {z:Value} {cs:List Bool} [ts:TS P t e] [tz:TZ P e 1 p z] {B:Nat} {A:World} {f σ':Q6} {d u:Value} {xs:List (List UInt8)} {s:List UInt8}
 (C:J7 B e 1 U8 f A d xs) (hB:B≤A.heap.size) (U:J7 B e 1 U8 f w1 d xs) (m:Nxt (fun k=>d.ownBlock=some k) A f w1 σ') (R:Sl 1 U8 σ' u [s]) (O:(z.cells.size==1&&decide (0<1))=true)
 (j:(xs.length+1)*p≤140737488355328) (W:xs.length+1≤1000000000000):
 X2 P .append [t,t] V cs [d,u] w1 (dk (Gq B e 1 U8 f d xs s) (VQa A.heap.size B e 1 U8 f d xs s) w1):=by
 have y: ∀k,d.ownBlock=some k→σ' k=none:=fun k c=>(m.old k (C.mem c).2.1).trans (C.mem c).2.2
 refine Q8E m.sat (Nat.le_trans hB m.kp.size) (U.shift y) R O (by simpa using j) (by simpa using W) fun X N D J q i=>?_
 have b:J7 B e 1 U8 f N X (xs++[s]):=q.shift fun k c=>by
  have:=(q.mem c).2.2
  cases hh:f k with
  | none=>rfl
  | some o=>rw[m.le.le _ _ hh] at this;cases this
 refine ⟨⟨D.mono fun k _ h=>h.1,fun h=>?_,fun a g E h=>?_⟩,b,?_⟩
 ·rcases i with ⟨a,g,r,n⟩ | ⟨j,_⟩
  ·rw[n] at b;rw[r];exact b.pre rfl
  ·exact h.below j
 ·rcases i with ⟨Y,H,r,n⟩ | ⟨j,_⟩
  ·rw[r] at E;injection E with Q q2 L
   subst Q L
   rw[n] at b;exact b
  ·exact h.below j
 ·rcases i with ⟨a,g,r,n⟩ | ⟨j,M⟩
  ·exact .inl ⟨a,g,r,n⟩
  ·exact .inr ⟨fun k c=>Nat.le_trans m.kp.size (M k c),fun k c=>(C.mem c).2.1⟩
end Go.Emb
namespace Go.Hm
open Go.Kd
def Mf (l:List Cla) (n:X0):List Cla:=(G4 l n).filterMap (lk l)
theorem Q6y {l:List Cla} (h: ∀c∈l,Qm c) (a:List X0):weigh l a≤l.length*1000001:=by
 unfold weigh
 induction l with
 | nil=>simp
 | cons c r b=>
  have f:=b fun c d=>h c (by simp[d])
  have g:=(h c (by simp)).1
  simp only[List.map_cons,List.sum_cons,List.length_cons,Nat.add_mul]
  have e:(U3 c).length=c.like.length+1:=rfl
  split<;>omega
end Go.Hm
namespace Go.Proofs.YtjdiakhipmggjaaGreatDoor
open Go.Emb Go.RowKit Go.Kd Go.Hm
variable {w : World} {K : Value → World → Prop} {σ : Q6} {v : Value} {l : List Cla}
theorem Q77 {β:Type} {n:X0} {f:Value} (J:β→Cla→Bool×β) (s0:β) (Q:β→World→Prop) (D:Nat→Prop) (hs:X3 w σ) (ht:Tab σ v l) (hl:l.length≤100000) (bc: ∀c∈l,Qm c) (hn:n.length≤U1)
 (hD: ∀k,D k→k<w.heap.size∧σ k=none) (ai: ∀s w1 w2,Q s w1→(∀k,D k→w2.heap[k]? =w1.heap[k]?)→Q s w2) (h0:Q s0 w)
 (hf: ∀s c cs (w1:World) (σ1:Q6) (K:Value→World→Prop),SLe σ σ1→X3 w1 σ1→(∀k,D k→σ1 k=none)→Q s w1→V0 σ1 c cs→lk l c.name=some c→(∀w',Kpt D w1 w'→Q (J s c).2 w'→K (.bool (J s c).1) w')→Z3 P f [.agg cs.toArray] w1 K)
 (h: ∀w' σ',Nxt D w σ w' σ'→Q (J4 J s0 (Mf l n) 0).2 w'→K (.bool (J4 J s0 (Mf l n) 0).1.isSome) w'):Q1 P F.w [v,S n,f] w K:=Pz (by
 unfold Nd
 refine Zc (R:=U8) (sz:=1) (xs:=[n]) (Stp.refl hs) [S n] rfl rfl (by simp;rfl) rfl ⟨⟨rfl,hn⟩,trivial⟩ fun x0 w1 a6 br _=>?_
 refine Q3l a6.sat fun r w2 hr ae ch=>?_
 have ck:=J7.of_acc (br.up ae)
 have bi:=a6.trans ae
 have bx:w.heap.size≤r:=Nat.le_trans a6.bel.size hr
 have bu: ∀b,weigh l b≤100001000000:=fun b=>by
  have:=Q6y bc b
  have h2:l.length*1000001≤100000*1000001:=Nat.mul_le_mul_right _ hl
  omega
 refine Ky (fun d x w1=> ∃(B b:List X0) (s:β) (σ1:Q6) (m:List (X0×Value)),d=B.length+weigh l b∧d≤1+weigh l []∧Nxt D w σ w1 σ1∧J7 w.heap.size T.c 1 U8 σ1 w1 x B∧C3 σ1 w1 r m∧(∀k,(C4 m k).isSome=decide (k∈b))∧x.ownBlock≠some r∧Q s w1∧
  G4 l n=Vf (lk l) d B b∧(∃i,J4 J s0 (Mf l n) 0=J4 J s (((G4 l n).drop b.length).filterMap (lk l)) i)) (1+weigh l []) ?_ ?_
 ·refine ⟨[n],[],s0,σ,[],by simp,Nat.le_refl _,Nxt.of_stp bi,ck,ch,by simp[C4],?_,ai _ _ _ h0 fun k o=>bi.bel.block k (hD k o).1,rfl,0,by simp[Mf]⟩
  intro e
  have:=br.mem r e
  omega
 rintro a5 d x dd w3 ⟨B,b,s,σ3,m,hd,c4,A,a1,ad,N,ci,aw,hv,i,y⟩ bb
 have cv:=bu []
 have aq:=A.sat
 obtain ⟨av,C⟩:=Q1I (lk l) d B b
 rw[←hv] at C
 have ac:(G4 l n).drop b.length=av:=by rw[C];simp
 rw[ac] at y
 refine Q1G a1 ?_
 refine Q1x ?_
 cases ag:B with
 | nil=>
  subst ag
  refine Q7 (fun hh=>absurd (of_decide_eq_true hh) (by simp)) (fun _=>?_)
  have:G4 l n=b:=by rw[hv];cases d<;>rfl
  have hp:av=[]:=by rw[this] at C;simpa using C
  rw[hp] at y
  rw[y] at h
  exact h _ _ A aw
 | cons t g=>
  subst ag
  refine Q7 (fun _=>?_) (fun hh=>absurd (of_decide_eq_false hh) (by simp))
  simp only[List.length_cons] at hd
  refine Q66 (n:=0) a1 (by simp) fun a cs h1 h2 h3=>?_
  obtain ⟨rfl,b8⟩:=h3
  simp only[List.getElem_cons_zero] at h1 b8
  have ab:=h1 0 _ rfl
  rw[add_zero] at ab
  refine Qf ab ?_
  refine X3O a1 1 (by simp) fun x' Y bo=>?_
  simp only[List.drop_succ_cons,List.drop_zero] at Y
  have H:x'.ownBlock≠some r:=by
   rcases bo with e | e<;>rw[e]
   ·exact ci
   ·simp
  rw[Q2A X8 ad.2 t]
  have cg:d=(g.length+weigh l b)+1:=by omega
  have p:=hv
  rw[cg] at p
  simp only[Vf] at p
  have skip:(lk l t=none∨t∈b)→G4 l n=Vf (lk l) (g.length+weigh l b) g b:=by
   rintro (e | e)
   ·rw[e] at p;exact p
   ·cases e2:lk l t with
    | none=>rw[e2] at p;exact p
    | some c=>rw[e2] at p;simp only[if_pos e] at p;exact p
  have aa:(lk l t=none∨t∈b)→a5 x' w3:=fun b4=>
   bb (g.length+weigh l b) x' w3 (by omega) ⟨g,b,s,σ3,m,rfl,by omega,A,Y,ad,N,H,aw,skip b4,i,by rw[ac];exact y⟩
  have a2:=ht.lift A.le
  have U:=N t
  cases bp:C4 m t with
  | some u=>
   rw[bp] at U
   have am:t∈b:=by simpa using U
   simp only[↓M2,M2,Mb,reduceIte]
   exact aa (.inr am)
  | none=>
   rw[bp] at U
   have am:t∉b:=by simpa using U
   simp only[↓M2,M2,Mb,reduceIte]
   cases L:lk l t with
   | none=>
    refine Q0m aq a2 L ?_
    simp only[↓M2,M2,Mb,reduceIte]
    exact aa (.inl L)
   | some c=>
    obtain ⟨a4,bg,_⟩:=V3 L
    refine Ru aq a2 L ?_
    simp only[↓M2,M2,Mb,reduceIte]
    refine Ph X8 ad t (I 1) fun w4 bv cj=>?_
    have Z:Kpt (fun k=>k=r) w3 w4:=Kpt.of_upd bv rfl
    have b6:X3 w4 σ3:=Z.sat aq fun k o=>by rw[o];exact ad.1
    have bq:=Y.kp Z fun k o e=>H (e▸o)
    have b5:=ai _ _ _ aw fun k o=>bv.block k (by have:=(hD k o).1;omega)
    have dl:r<w3.heap.size:=ad.lt
    refine Zo b6 a2 L fun lv fv mv w5 σ5 b1 f1 f2 f3 f4 f5 bm=>?_
    refine Y9 b1.sat (by rfl) rfl (Rep.one bm) fun q w6 M V az=>?_
    refine Y4 V.sat az rfl ?_
    have z:=b1.trans V
    have bd: ∀k,D k→k<w4.heap.size:=fun k o=>by
     have h1:=(hD k o).1
     have h2:=A.kp.size
     have h3:=Z.size
     omega
    have cq:=ai _ _ _ b5 fun k o=>z.bel.block k (bd k o)
    have a0:SLe σ M:=A.le.more ⟨z.le⟩
    have bs: ∀k,D k→M k=none:=fun k o=>by
     rw[z.old k (bd k o),A.old k (hD k o).1];exact (hD k o).2
    refine hf s c _ w6 M _ a0 V.sat bs cq (RCl_lift bm ⟨V.le⟩) (by rw[a4];exact L) fun w7 al bw=>?_
    have bz:X3 w7 M:=al.sat V.sat bs
    have aj:Nxt D w σ w7 M:=⟨((A.kp.more Z fun j e=>by rw[e];exact bx).trans (Kpt.of_below z.bel)).trans al,a0,fun k o=>by
     rw[z.old k (by have:=A.kp.size;have:=Z.size;omega)];exact A.old k o,bz⟩
    have ap: ∀k,w.heap.size≤k→ ¬D k:=fun k o e=>by have:=(hD k e).1;omega
    have W:=(bq.up z).kp al fun k o=>ap k ((bq.mem o).1)
    have bh:=(cj.up z).kp al (ap r bx)
    have bj: ∀k,(C4 (Wp m t (I 1)) k).isSome=decide (k∈b++[t]):=fun k=>by
     rw[Q4E]
     by_cases e:t=k
     ·subst e;simp
     ·rw[if_neg e,N k];simp[Ne.symm e]
    rw[L] at p
    simp only[if_neg am] at p
    obtain ⟨bl,a7⟩:=Q1I (lk l) (g.length+weigh l b) (g++U3 c) (b++[t])
    have bk:av=t::bl:=by
     have:=C.symm.trans (p.trans a7)
     simpa using this
    rw[bk] at y
    simp only[List.filterMap_cons,L,J4] at y
    cases E:(J s c).1 with
    | true=>
     rw[E] at y
     simp only[if_true] at y
     refine J5 ?_
     have:=h w7 M aj
     rw[y] at this
     exact this bw
    | false=>
     rw[E] at y
     simp only[Bool.false_eq_true,if_false] at y
     refine Z7 ?_
     have ao:w.heap.size≤w7.heap.size:=aj.kp.size
     have X: ∀k,x'.ownBlock=some k→M k=none:=fun k o=>(W.mem o).2.2
     have hw:=Iu l b c bg (by rw[a4];exact am)
     rw[a4] at hw
     have c6:=bu b
     have cb:g.length≤100001000001:=by omega
     have b3:=(bc c bg).1
     have ct:=bh.lt
     refine Is (Gq w.heap.size T.c 1 U8 M x' g c.super) (fun w1=>Kpt (fun k=>x'.ownBlock=some k) w7 w1∧X3 w1 M∧J7 w.heap.size T.c 1 U8 M w1 x' g)
      ⟨.of_below (Below.refl _ _).drew,bz.below (Below.refl _ _).drew,W.below (Below.refl _ _).drew⟩ (fun w1 w2 E ht=>⟨E.1.trans ht.1,ht.1.sat E.2.1 X,ht.2.1 E.2.2⟩) ?_
     refine X4 (.pointer (some (q.add 1))) (fun w E=>by rw[fa];exact ⟨Gq.refl,rfl⟩) ?_
     refine X4 (.pointer (some (q.add 2))) (fun w E=>by rw[fa];exact ⟨Gq.refl,rfl⟩) ?_
     refine X4 (S c.super) (fun t w E e=>by rw[e];exact ld E.2.1 az rfl ⟨Gq.refl,rfl⟩) ?_
     refine H0 (fun u w1=> ∃σ',Nxt (fun k=>x'.ownBlock=some k) w7 M w1 σ'∧Sl 1 U8 σ' u [c.super]) (fun u w1 w2 e ht=>by obtain ⟨σ',h1,h2⟩:=e;exact ⟨σ',h1.kpt ht.1 (fun _ o=>o) (fun k o=>(h1.old k (W.mem o).2.1).trans (X k o)),h2⟩) (fun t w1 E e=>?_) ?_
     ·rw[e]
      refine T1 (R:=U8) (sz:=1) E.2.1 [S c.super] [c.super] rfl rfl (by simp;rfl) rfl ⟨⟨rfl,f5⟩,trivial⟩ fun u w2 σ2 ae hu=>?_
      have co:Nxt (fun k=>x'.ownBlock=some k) w7 M w1 M:=⟨E.1,SLe.refl _,fun _ _=>rfl,E.2.1⟩
      exact ⟨Gq.below ae.bel,σ2,co.trans (Nxt.of_stp ae),hu⟩
     refine H0 (VQa w7.heap.size w.heap.size T.c 1 U8 M x' g c.super) (fun _ _ _ h1 ht=>h1.stable ht) (fun u w1 E e=>?_) ?_
     ·obtain ⟨σ',h1,h2⟩:=e
      exact X3m W ao E.2.2 h1 h2 rfl (by omega) (by omega)
     refine X4 lv (fun t w E e=>by rw[e];exact ld E.2.1 az rfl ⟨Gq.refl,rfl⟩) ?_
     rintro di c8 dn dj cf dm w8 O _ _ _ _ ⟨cp,b0⟩ rfl
     have ax:cf.ownBlock≠some r:=by
      rcases b0 with ⟨a,b7,e1,e2⟩ | ⟨e1,_⟩
      ·rw[e2];rw[e1] at H;cases a<;>exact H
      ·intro e;have:=e1 r e;omega
     refine Q8E O.2.1 (Nat.le_trans ao O.1.size) cp (f1.up V) rfl (by rw[List.length_append,List.length_cons,List.length_nil];omega) (by rw[List.length_append,List.length_cons,List.length_nil];omega) fun bn w9 a3 ca b9 bf=>?_
     have cr:bn.ownBlock≠some r:=by
      rcases bf with ⟨a,b7,e1,e2⟩ | ⟨_,e1⟩
      ·rw[e2];rw[e1] at ax;cases a<;>exact ax
      ·intro e;have:=e1 r e;have:=O.1.size;omega
     have cl:Nxt D w σ w9 M:=⟨(aj.kp.more O.1 fun j e=>(W.mem e).1).more a3 fun j e=>e.2.1,a0,aj.old,ca⟩
     have cn:=(bh.kp O.1 H).kp a3 fun e=>ax e.1
     have cc:=ai _ w7 w9 bw fun k o=>by
      have h1:=(hD k o).1
      rw[a3.block k (by have:=O.1.size;omega) fun e=>by have:=e.2.1;omega,O.1.block k (by omega) fun e=>by have:=(W.mem e).1;omega]
     have dg:(g++U3 c).length=g.length+1+c.like.length:=by simp[U3];omega
     have cu:(U3 c).length=c.like.length+1:=rfl
     have ar:Vf (lk l) (g.length+weigh l b) (g++U3 c) (b++[t])=Vf (lk l) ((g++U3 c).length+weigh l (b++[t])) (g++U3 c) (b++[t]):=by
      have:=X0w l ((g++U3 c).length+weigh l (b++[t])) (g++U3 c) (b++[t]) (Nat.le_refl _) (g.length+weigh l b-((g++U3 c).length+weigh l (b++[t])))
      rw[←this];congr 1;omega
     refine bb ((g++U3 c).length+weigh l (b++[t])) bn w9 (by omega) ⟨g++U3 c,b++[t],(J s c).2,M,_,rfl,by omega,cl,?_,cn,bj,cr,cc,p.trans ar,i+1,?_⟩
     ·have:g++U3 c=(g++[c.super])++c.like:=by simp[U3]
      rw[this];exact b9
     ·rw[y,C,bk];simp)
end Go.Proofs.YtjdiakhipmggjaaGreatDoor

namespace Go.Emb
open Go.RowKit Go.Hm
theorem Nxt.stp {w w':World} {σ a:Q6} (h:Nxt (fun _=>False) w σ w' a):Stp w σ w' a:=⟨h.kp.below fun _=>id,h.sat,h.le.le,h.old⟩
end Go.Emb
namespace Go.Hm
open Go.Kd Go.Emb
theorem Q4A {α:Type} (p:α→Bool): ∀(xs:List α) (i:Nat),(J4 (fun (_:Unit) x=>(p x,())) () xs i).1.isSome=xs.any p
 | [],_=>rfl
 | x::r,i=>by
  simp only[J4,List.any_cons]
  cases p x with
  | true=>simp
  | false=>simpa using Q4A p r (i+1)
theorem Q5l {l:List Cla} (n b:X0):((Mf l n).any fun c=>decide (c.name=b))=(G4 l n).contains b:=by
 have key: ∀vs:List X0,(∀x∈vs,∃c,lk l x=some c)→((vs.filterMap (lk l)).any fun c=>decide (c.name=b))=vs.contains b:=by
  intro vs
  induction vs with
  | nil=>intro _;rfl
  | cons x r d=>
   intro h
   obtain ⟨c,a⟩:=h x (by simp)
   rw[List.filterMap_cons,a]
   simp only[List.any_cons,List.contains_cons]
   rw[d fun y e=>h y (by simp[e]),(V3 a).1]
   congr 1
   rw[Bool.eq_iff_iff,beq_iff_eq,decide_eq_true_eq];exact ⟨Eq.symm,Eq.symm⟩
 exact key _ fun x f=>(Uq.1 f).right
end Go.Hm
namespace Go.Proofs.YtjdiakhipmggjaaGreatDoor
open Go.Emb Go.RowKit Go.Kd Go.Hm
variable {w : World} {K : Value → World → Prop} {σ : Q6} {v : Value} {l : List Cla}
theorem Q7B {n:X0} {f:Value} (p:Cla→Bool) (hs:X3 w σ) (ht:Tab σ v l) (hl:l.length≤100000) (hsm: ∀c∈l,Qm c) (hn:n.length≤U1)
 (hf: ∀c cs (w1:World) (σ1:Q6) (K:Value→World→Prop),SLe σ σ1→X3 w1 σ1→V0 σ1 c cs→(∀w' σ',Stp w1 σ1 w' σ'→K (.bool (p c)) w')→Z3 P f [.agg cs.toArray] w1 K)
 (h: ∀w' σ',Stp w σ w' σ'→K (.bool ((Mf l n).any p)) w'):Q1 P F.w [v,S n,f] w K:=by
 refine Q77 (fun (_:Unit) c=>(p c,())) () (fun _ _=>True) (fun _=>False) hs ht hl hsm hn (fun _ e=>e.elim) (fun _ _ _ _ _=>trivial) trivial (fun s c cs w1 σ1 K le hs1 _ _ hr _ hK=>hf c cs w1 σ1 K le hs1 hr fun w' σ' hk=>hK w' (.of_below hk.bel) trivial) fun w' σ' hn _=>?_
 rw[Q4A]
 exact h w' σ' hn.stp
theorem X0Z {n b:X0} {q:Addr} (hs:X3 w σ) (ht:Tab σ v l) (ok:Ok l) (hn:n.length≤U1) (hq:Z4 σ q [S b]) (h: ∀w' σ',Stp w σ w' σ'→K (.bool ((G4 l n).contains b)) w'):
 Q1 P F.w [v,S n, .func (.func F.bo) #[] #[.pointer (some q)]] w K:=by
 refine Q7B (fun c=>decide (c.name=b)) hs ht ok.len ok.sm hn (fun c cs w1 σ1 K le hs1 hr hK=>Z6 (Pm ?_)) (by rw[Q5l];exact h)
 obtain ⟨lv,fv,mv,rfl,_⟩:=hr
 unfold Mw
 have hq1:=hq.lift le
 refine Z1 hs1 fun a w2 σ2 hk2 ha2=>?_
 (repeat' (first | (with_reducible intro _) | (with_reducible refine U6 ?_) | (simp only[↓M2,M2,Mb,reduceIte]) | (with_reducible first | refine ld aS aL aR ?_ | refine X7 aS aL aR ?_ | refine Y4 aS aL aR ?_ | refine Q8 aL ?_ | refine Z9 aR ?_ | refine Z1 aS ?_ | refine N2 aS aL ?_ | refine U5 aS aR ?_ | refine Y9 aS aR aR (Rep.one (by assumption)) ?_ | refine U7 aS aR aR aR ?_ | (refine Z8 (fun hh=>?_) (fun hh=>?_)<;>(try simp only[hh,Bool.not_true,Bool.not_false,↓M2,M2,Mb,reduceIte])) | (refine Q7 (fun hh=>?_) (fun hh=>?_)<;>(try simp only[hh,Bool.not_true,Bool.not_false,↓M2,M2,Mb,reduceIte])))))
 exact hK _ _ hk2
theorem X3w {a b:X0} (D:X3 w σ) (r:Tab σ v l) (ok:Ok l) (t:a.length≤U1) (E:b.length≤U1) (h: ∀w' H,Stp w σ w' H→K (.bool (Xv l a b)) w'):Q1 P F.bR [v,S a,S b] w K:=Q0N (by
 unfold Ef
 unfold Xv at h
 refine U5 D rfl fun q w1 σ1 j y=>?_
 refine Q0L j.sat (r.lift ⟨j.le⟩) t fun N J d=>?_
 have i:=j.trans d
 cases C:N1 l a with
 | false=>
  simp only[C,↓M2,M2,Mb,reduceIte,Bool.not_false,Bool.true_or,if_true] at h⊢
  exact h _ _ i
 | true=>
  simp only[C,↓M2,M2,Mb,reduceIte,Bool.not_true,Bool.false_or] at h⊢
  refine X7 d.sat (y.up d) rfl ?_
  refine Q0L d.sat (r.lift ⟨i.le⟩) E fun Q L e=>?_
  have c:=i.trans e
  cases z:N1 l b with
  | false=>
   simp only[z,↓M2,M2,Mb,reduceIte,Bool.not_false,if_true] at h⊢
   exact h _ _ c
  | true=>
   simp only[z,↓M2,M2,Mb,reduceIte,Bool.not_true,Bool.false_eq_true,if_false] at h⊢
   have k:=(y.up d).up e
   refine X7 e.sat k rfl ?_
   refine P4 ?_
   by_cases g:a=b
   ·rw[if_pos g] at h
    simp only[decide_eq_true g,↓M2,M2,Mb,reduceIte]
    exact h _ _ c
   rw[if_neg g] at h
   simp only[decide_eq_false g,↓M2,M2,Mb,reduceIte]
   refine Rm a ?_
   cases A:plain a with
   | true=>
    simp only[A,↓M2,M2,Mb,reduceIte,Bool.true_or,if_true] at h⊢
    exact h _ _ c
   | false=>
    simp only[A,↓M2,M2,Mb,reduceIte,Bool.false_or] at h⊢
    refine X7 e.sat k rfl ?_
    refine Rm b ?_
    cases B:plain b with
    | true=>
     simp only[B,↓M2,M2,Mb,reduceIte,if_true] at h⊢
     exact h _ _ c
    | false=>
     simp only[B,↓M2,M2,Mb,reduceIte,Bool.false_eq_true,if_false] at h⊢
     by_cases o:a=H7
     ·rw[if_pos o] at h
      have s:decide (a=[110,117,108,108])=true:=decide_eq_true o
      simp only[s,↓M2,M2,Mb,reduceIte]
      exact h _ _ c
     rw[if_neg o] at h
     have s:decide (a=[110,117,108,108])=false:=decide_eq_false o
     simp only[s,↓M2,M2,Mb,reduceIte]
     refine Q61 a (Nat.le_trans t (by decide)) (L2 e.sat fun R M f=>?_)
     have m:=c.trans f
     have n:=k.up f
     refine Zy ?_
     by_cases p:elem a=[]
     ·rw[if_neg (by simpa using p)] at h
      simp only[decide_eq_true p,↓M2,M2,Mb,reduceIte]
      exact X0Z f.sat (r.lift ⟨m.le⟩) ok t n fun U O u=>h _ _ (m.trans u)
     ·rw[if_pos p] at h
      simp only[decide_eq_false p,↓M2,M2,Mb,reduceIte]
      refine X7 f.sat n rfl ?_
      refine P4 ?_
      exact h _ _ m)
theorem X1D {c:Cla} {cs:List Value} (hs:X3 w σ) (ht:Tab σ v l) (hl:l.length≤100000) (hsm: ∀c∈l,Qm c) (hc:V0 σ c cs) (h: ∀w' σ',Stp w σ w' σ'→K (.bool (P9 l c)) w'):Q1 P F.bi [v, .agg cs.toArray] w K:=Pb (by
 obtain ⟨lv,fv,mv,rfl,g1,g2,g3,g4,g5⟩:=hc
 unfold Mu
 obtain ⟨a,_,_,_,rfl,_⟩:=ht.ex
 refine U5 hs rfl fun q w1 σ1 hk1 hq=>?_
 refine Z1 hk1.sat fun q2 w2 σ2 hk2 hq2=>?_
 rw[Qe,fa]
 have hS2:=hk1.trans hk2
 have back: ∀{n:X0} {w3:World} {σ3:Q6} {K:Value→World→Prop},SLe σ2 σ3→X3 w3 σ3→n.length≤U1→(∀w' σ',Stp w3 σ3 w' σ'→K (.bool ((G4 l n).contains c.name)) w')→
  Z3 P (.func (.func F.b7) #[] #[.pointer (some q), .pointer (some q2)]) [S n] w3 K:=by
  intro n w3 σ3 K le hs3 hn hK
  refine Z6 (Bs ?_)
  unfold Vz
  refine X7 hs3 ((hq.up hk2).lift le) rfl ?_
  rw[Qe]
  have le3:SLe σ σ3:=SLe.more ⟨hS2.le⟩ le
  refine Q7B (fun d=>decide (d.name=c.name)) hs3 (ht.lift le3) hl hsm hn (fun d ds w4 σ4 K le4 hs4 hr hK=>Z6 (Rw ?_)) (by rw[Q5l];exact hK)
  obtain ⟨lv,fv,mv,rfl,_⟩:=hr
  unfold Uk
  have hq4:=(hq2.lift le).lift le4
  refine Z1 hs4 fun a w5 σ5 hk5 ha5=>?_
  (repeat' (first | (with_reducible intro _) | (with_reducible refine U6 ?_) | (simp only[↓M2,M2,Mb,reduceIte]) | (with_reducible first | refine ld aS aL aR ?_ | refine X7 aS aL aR ?_ | refine Y4 aS aL aR ?_ | refine Q8 aL ?_ | refine Z9 aR ?_ | refine Z1 aS ?_ | refine N2 aS aL ?_ | refine U5 aS aR ?_ | refine Y9 aS aR aR (Rep.one (by assumption)) ?_ | refine U7 aS aR aR aR ?_ | (refine Z8 (fun hh=>?_) (fun hh=>?_)<;>(try simp only[hh,Bool.not_true,Bool.not_false,↓M2,M2,Mb,reduceIte])) | (refine Q7 (fun hh=>?_) (fun hh=>?_)<;>(try simp only[hh,Bool.not_true,Bool.not_false,↓M2,M2,Mb,reduceIte])))))
  exact hK _ _ hk5
 refine ld hk2.sat hq2 rfl ?_
 unfold P9 at h
 simp only[U3,List.any_cons] at h
 refine back (SLe.refl _) hk2.sat g5 fun w3 σ3 hk3=>?_
 cases e1:(G4 l c.super).contains c.name with
 | true=>
  rw[e1] at h
  simp only[↓M2,M2,Mb,reduceIte]
  exact h _ _ (hS2.trans hk3)
 | false=>
  rw[e1,Bool.false_or] at h
  simp only[↓M2,M2,Mb,reduceIte]
  refine ld hk3.sat (hq2.up hk3) rfl ?_
  refine P3 (fun n=>(G4 l n).contains c.name) hk3.sat (((g1.up hk1).up hk2).up hk3) (fun x w4 K _ hs4 hx hK=>back ⟨hk3.le⟩ hs4 hx fun w' σ' hk=>hK _ hk.bel) fun w4 hb=>?_
  (try simp only[↓M2,M2,Mb,reduceIte])
  exact h _ _ ((hS2.trans hk3).trans (Stp.of_below hk3.sat hb)))
end Go.Proofs.YtjdiakhipmggjaaGreatDoor

namespace Go.Emb
open Go.RowKit Go.Hm
variable {P : Program} {w w0 w1 w' w'' : World} {K : Value → World → Prop} {σ σ0 σ1 σ' : Q6}
theorem Sl.at {α:Type} {R:Q6→α→List Value→Prop} {sz:Nat} {v:Value} {xs:List α} (h:Sl sz R σ v xs) {i:Nat} (k:i<xs.length):
 ∃p cs,Z4 σ p cs∧cs.length=sz∧R σ xs[i] cs∧ ∀{P:Program} {t e:TypeId} {c:Nat} {z:Value} {w:World} {K:Value→World→Prop} [TS P t e] [TZ P e sz c z],K (.pointer (some p)) w→indexAddr P t v (I i) w K:=by
 obtain ⟨a,j,rfl,q,r,d,f⟩:=h
 cases a with
 | none=>have:=d rfl;omega
 | some b=>
  obtain ⟨cs,o,g,m⟩:=(f b rfl).2 i xs[i] (by simp[k])
  refine ⟨_,cs,o,g,m,?_⟩
  intro P t e c z w K _ _ n
  rw[Eb (by omega) (by omega)]
  simpa using n
abbrev ints (xs:List Nat):List Int:=xs.map fun n:Nat=>(n:Int)
theorem V5.grow {α:Type} {R:Q6→α→List Value→Prop} [hr:Rep R] {B sz:Nat} {e:TypeId} {v:Value} {xs:List α} (h:V5 B e sz R σ w v xs) (a:SLe σ σ') (b: ∀k,v.ownBlock=some k→σ' k=none):V5 B e sz R σ' w v xs:=by
 obtain ⟨cells,d,g,f⟩:=h
 exact ⟨cells,d,b,fun i x c=>hr.up a.le (f i x c)⟩
end Go.Emb
namespace Go.Proofs.YtjdiakhipmggjaaGreatDoor
open Go.Emb Go.RowKit Go.Kd Go.Hm
variable {w : World} {K : Value → World → Prop} {σ : Q6} {v : Value} {l : List Cla}
theorem Q6u {B i:Nat} {xs:List Nat} {x:Value} (m:J7 B T.e 1 Ww σ w x (ints xs)) (h:K (.bool (decide (i∈xs))) w):Q1 P F.aG [x,I i] w K:=Eg (by
 unfold Yb
 have g:xs.length≤9223372036854775807:=by
  obtain ⟨a,t,_,o,p,_⟩:=m
  simp only[maxLen,ints,List.length_map] at p o;omega
 refine Sc ?_
 unfold Uj
 refine Q1G m ?_
 have f:(ints xs).length=xs.length:=by simp
 refine U0 xs.length (fun n w'=>w'=w∧i∉xs.take n) ⟨rfl,by simp⟩ fun n w' d u k=>?_
 obtain ⟨rfl,k⟩:=k
 rw[f]
 refine Z0 ?_
 refine Q7 (fun hh=>?_) (fun hh=>?_)
 ·have b:n<xs.length:=by simpa using hh
  refine Q66 m (by rw[f];exact b) fun a cs o p r=>?_
  obtain ⟨rfl,_⟩:=r
  have q:=o 0 _ rfl
  rw[add_zero] at q
  refine Qf q ?_
  simp only[List.getElem_map]
  refine P1 ?_
  refine Q7 (fun c=>?_) (fun c=>?_)
  ·have e:(i:Int)=xs[n]:=by simpa using c
   have:i=xs[n]:=by omega
   have j:decide (i∈xs)=true:=decide_eq_true (by rw[this];exact List.getElem_mem b)
   rw[j] at h
   refine P6 ?_
   rw[decide_eq_true (by omega:(0:Int)≤n)]
   exact h
  ·have e: ¬(i:Int)=xs[n]:=by simpa using c
   refine N3 ?_
   refine Y5 g b ⟨rfl,?_⟩
   rw[List.take_add_one,List.getElem?_eq_getElem b]
   simp only[Option.toList_some,List.mem_append,List.mem_singleton,not_or]
   exact ⟨k,fun s=>e (by rw[s])⟩
 ·have b: ¬n<xs.length:=by simpa using hh
  rw[List.take_of_length_le (by omega)] at k
  rw[decide_eq_false k] at h
  refine P6 ?_
  exact h)
theorem X2B {w0:World} {σ0 σb:Q6} {pf pt pw:Addr} {E frm:Nat} (ha:Jd l) (ho:T6 l) (hl:l.length≤100000) (bi: ∀c∈l,Qm c) (hf:0<frm) (ht:Tab σb v l) (a3:Z4 σb pf [I frm]) (bx:Z4 σb pt [v])
 (bl:Z4 σb pw [.func (.func F.y) #[] #[.pointer (some pf), .pointer (some ⟨E,0,none⟩), .pointer (some pt), .pointer (some pw)]]) (b6:w0.heap.size≤E):
 ∀(k:Nat) {i:Nat} {b:List Nat} {x:Value} {w1:World} {σ1:Q6} {K:Value→World→Prop},i<l.length→(i<frm∨K6 l (Y3 l i)<k)→SLe σb σ1→Stp w0 σ0 w1 σ1→Y2 σ1 w1 E [x]→V5 w0.heap.size T.e 1 Ww σ1 w1 x (ints b)→x.ownBlock≠some E→Few l b→
  (∀w2 σ2 x',SLe σ1 σ2→Stp w0 σ0 w2 σ2→Y2 σ2 w2 E [x']→V5 w0.heap.size T.e 1 Ww σ2 w2 x' (ints (Xl l frm b i))→x'.ownBlock≠some E→K (.tuple #[]) w2)→
  Z3 P (.func (.func F.y) #[] #[.pointer (some pf), .pointer (some ⟨E,0,none⟩), .pointer (some pt), .pointer (some pw)]) [I i] w1 K:=by
 obtain ⟨a,lv,r,m,rfl,t1,t2,t3,t4⟩:=ht.ex
 intro k
 induction k with
 | zero=>
  intro i b x w1 σ1 K hi hk W X hm s hx ab h
  have z:i<frm:=hk.resolve_right (by omega)
  refine Z6 (Wc ?_)
  unfold Qw
  refine X7 X.sat (a3.lift W) rfl ?_
  refine Z0 ?_
  rw[decide_eq_true (by omega:(i:Int)<frm)]
  simp only[↓M2,M2,Mb,reduceIte]
  have:Xl l frm b i=b:=Yv _ _ z
  rw[this] at h
  exact h _ _ _ (SLe.refl _) X hm s hx
 | succ k ih=>
  intro i b x w1 σ1 K hi hk W X hm s hx ab h
  refine Z6 (Wc ?_)
  unfold Qw
  refine X7 X.sat (a3.lift W) rfl ?_
  refine Z0 ?_
  have A:=Q7j ha ho hf b hi
  by_cases z:i<frm
  ·rw[decide_eq_true (by omega:(i:Int)<frm)]
   simp only[↓M2,M2,Mb,reduceIte]
   rw[if_pos z] at A
   rw[A] at h
   exact h _ _ _ (SLe.refl _) X hm s hx
  rw[if_neg z] at A
  rw[decide_eq_false (by omega: ¬(i:Int)<frm)]
  simp only[↓M2,M2,Mb,reduceIte]
  refine Q8v hm rfl ?_
  refine Q6u (J7.of_acc s) ?_
  by_cases Y:i∈b
  ·rw[if_pos Y] at A
   rw[A] at h
   simp only[decide_eq_true Y,↓M2,M2,Mb,reduceIte]
   exact h _ _ _ (SLe.refl _) X hm s hx
  rw[if_neg Y] at A
  simp only[decide_eq_false Y,↓M2,M2,Mb,reduceIte]
  have c6:K6 l (Y3 l i)<k+1:=hk.resolve_left z
  have t1:=t1.lift W
  have t2:=t2.lift W
  have t3:=t3.lift W
  have L:=bx.lift W
  obtain ⟨p,cs,a0,cz,bp,bc⟩:=t2.at hi
  obtain ⟨b3,fv,mv,rfl,f1,f2,f3,f4,f5⟩:=bp
  have bd:l.getD i Cla.zero=l[i]:=by rw[List.getD_eq_getElem?_getD,List.getElem?_eq_getElem hi];rfl
  have c5:=hm.lt
  refine U2 X.sat ?_
  refine X4 (.pointer (some a)) (fun w f=>X7 f.sat L rfl (X6 rfl)) ?_
  refine X4 (.pointer (some a)) (fun t w f e=>by rw[e,L7];exact X6 rfl) ?_
  refine X4 (.pointer (some (a.add 0))) (fun t w f e=>by rw[e,fa];exact X6 rfl) ?_
  refine X4 lv (fun t w f e=>by rw[e];exact ld f.sat t1 rfl (X6 rfl)) ?_
  refine X4 (.pointer (some p)) (fun t w f e=>by rw[e];exact bc (X6 rfl)) ?_
  refine X4 (.pointer (some (p.add 1))) (fun t w f e=>by rw[e,fa];exact X6 rfl) ?_
  refine X4 (S l[i].super) (fun t w f e=>by rw[e];exact ld f.sat a0 rfl (X6 rfl)) ?_
  refine H0 (fun u w=>X3 w σ1∧V5 w0.heap.size T.c 1 U8 σ1 w u [l[i].super]∧ ∀k,u.ownBlock=some k→w1.heap.size≤k) (fun u w2 w3 h f=>⟨h.1.below f,h.2.1.up (Stp.of_below h.1 f),h.2.2⟩) (fun t w f e=>?_) ?_
  ·rw[e]
   refine Zc (R:=U8) (sz:=1) (xs:=[l[i].super]) (X.trans f.stp) [S l[i].super] rfl rfl (by simp;rfl) rfl ⟨⟨rfl,f5⟩,trivial⟩ fun u w2 ba hu b5=>?_
   exact ⟨ba.bel,ba.sat,hu,fun k hk=>Nat.le_trans f.stp.bel.size (b5 k hk)⟩
  refine X4 (.pointer (some a)) (fun w f=>X7 f.sat L rfl (X6 rfl)) ?_
  refine X4 (.pointer (some a)) (fun t w f e=>by rw[e,L7];exact X6 rfl) ?_
  refine X4 (.pointer (some (a.add 0))) (fun t w f e=>by rw[e,fa];exact X6 rfl) ?_
  refine X4 lv (fun t w f e=>by rw[e];exact ld f.sat t1 rfl (X6 rfl)) ?_
  refine X4 (.pointer (some p)) (fun t w f e=>by rw[e];exact bc (X6 rfl)) ?_
  refine X4 (.pointer (some (p.add 2))) (fun t w f e=>by rw[e,fa];exact X6 rfl) ?_
  refine X4 b3 (fun t w f e=>by rw[e];exact ld f.sat a0 rfl (X6 rfl)) ?_
  rintro c4 di c0 c9 cl df cu db dg cq cn de co dc cw w2 Q _ _ _ _ _ _ _ ⟨ci,cc,N⟩ _ _ _ _ _ _ bw
  subst bw
  have bv:=X.trans Q.stp
  have bh:=(bi _ (List.getElem_mem hi)).1
  have a6: ∀j,x.ownBlock=some j→j<w1.heap.size:=fun j B=>(s.mem j B).2.1
  have bz:=hm.step Q.stp
  have ae:=s.step Q.stp
  refine Wk bv cc f1 rfl (by simp only[List.length_cons,List.length_nil];omega) (by simp only[List.length_cons,List.length_nil];omega) fun ay w3 a4 bq bj ar=>?_
  have aa: ∀j,ay.ownBlock=some j→w1.heap.size≤j:=fun j B=>by
   rcases ar with e | e
   ·exact N j (e▸B)
   ·exact Nat.le_trans Q.stp.bel.size (e j B)
  have a8:=bz.nx a4 fun e=>by have:=N _ e;omega
  have J:=ae.nx a4 fun j B e=>by have:=N _ e;have:=a6 j B;omega
  obtain ⟨σ4,bn,O,a9,Z⟩:=bj.keep bq
  have O:Sl 1 U8 σ4 ay (U3 l[i]):=O
  have b1:Y2 σ4 w3 E [x]:=⟨(Z E fun e=>by have:=aa E e.symm;omega).trans a8.1,a8.2⟩
  have af:V5 w0.heap.size T.e 1 Ww σ4 w3 x (ints b):=J.grow ⟨a9⟩ fun j B=>(Z j fun e=>by have:=aa j e.symm;have:=a6 j B;omega).trans (J.mem j B).2.2
  have a1:SLe σ1 σ4:=⟨a9⟩
  refine Q8 O ?_
  refine U0 (U3 l[i]).length (fun n w'=> ∃σ' x',SLe σ4 σ'∧Stp w0 σ0 w' σ'∧Y2 σ' w' E [x']∧V5 w0.heap.size T.e 1 Ww σ' w' x' (ints (((U3 l[i]).take n).foldl (fun b u=>Xl l frm b ((Z2 l u).getD 0)) b))∧x'.ownBlock≠some E∧Few l (((U3 l[i]).take n).foldl (fun b u=>Xl l frm b ((Z2 l u).getD 0)) b))
   ⟨σ4,x,SLe.refl _,bn,b1,af,hx,ab⟩ fun n w5 d hn a5=>?_
  obtain ⟨σ5,x5,ak,U,V,C,ac,o⟩:=a5
  refine Z0 ?_
  have y:=a1.more ak
  refine Q7 (fun hh=>?_) (fun hh=>?_)
  ·have M:n<(U3 l[i]).length:=by simpa using hh
   refine Q51 (O.lift ak) M fun q hq ct=>?_
   refine X7 U.sat hq rfl ?_
   have e1:((U3 l[i]).take (n+1)).foldl (fun b u=>Xl l frm b ((Z2 l u).getD 0)) b=Xl l frm (((U3 l[i]).take n).foldl (fun b u=>Xl l frm b ((Z2 l u).getD 0)) b) ((Z2 l (U3 l[i])[n]).getD 0):=by
    rw[List.take_add_one,List.getElem?_eq_getElem M,List.foldl_append];rfl
   refine U2 U.sat ?_
   refine X4 _ (fun w f=>X7 f.sat (bl.lift (W.more y)) rfl (X6 rfl)) ?_
   refine X4 (.pointer (some a)) (fun w f=>X7 f.sat (L.lift y) rfl (X6 rfl)) ?_
   refine X4 (.pointer (some a)) (fun t w f e=>by rw[e,L7];exact X6 rfl) ?_
   refine X4 (.pointer (some (a.add 1))) (fun t w f e=>by rw[e,fa];exact X6 rfl) ?_
   refine X4 (.map (some r)) (fun t w f e=>by rw[e];exact ld f.sat (t1.lift y) rfl (X6 rfl)) ?_
   refine X4 (I ((Z2 l (U3 l[i])[n]).getD 0:Nat)) (fun t w f e=>by
    rw[e,Q4t X8 ((t3.lift y).is f.sat) _,t4]
    cases Z2 l (U3 l[i])[n]<;>exact X6 rfl) ?_
   rintro dn cm cj cr dh c2 w6 ad rfl _ _ _ _ rfl
   have dd:l.length≤9223372036854775807:=by omega
   refine ih ?_ ?_ (W.more y) (U.trans ad.stp) (V.step ad.stp) (C.step ad.stp) ac o fun w7 σ7 x7 b2 cd br ah bs=>?_
   ·cases B:Z2 l (U3 l[i])[n] with
    | none=>simp only[Option.getD_none];omega
    | some j=>exact (S3 B).1
   ·cases B:Z2 l (U3 l[i])[n] with
    | none=>exact .inl hf
    | some j=>
     right
     have:=Q1B ha ho hi (u:=(U3 l[i])[n]) (by rw[bd];exact List.getElem_mem M) B
     simp only[Option.getD_some];omega
   ·refine N3 ?_
    refine Y5 (by have:(U3 l[i]).length=l[i].like.length+1:=rfl;omega) M ⟨σ7,x7,ak.more b2,cd,br,?_,bs,?_⟩
    ·rw[e1];exact ah
    ·rw[e1]
     cases B:Z2 l (U3 l[i])[n] with
     | none=>simp only[Option.getD_none];rw[show Xl l frm _ 0=_ from Yv _ _ hf];exact o
     | some j=>exact Pk ha ho hf _ _ _ (S3 B).1 o
  ·have M: ¬n<(U3 l[i]).length:=by simpa using hh
   rw[List.take_of_length_le (by omega)] at C o
   rw[bd] at A
   refine Q8v V rfl ?_
   have dm:=o.len
   refine Jl (x:=(i:Int)) U C ⟨rfl,by omega,by omega⟩ rfl rfl rfl (by rw[List.length_map];omega) (by rw[List.length_map];omega) fun u x8 w8 σ8 az bk H bb=>?_
   have av:=V.nx az ac
   have ax:x8.ownBlock≠some E:=fun e=>by
    rcases bb with e2 | e2
    ·exact ac (e2▸e)
    ·have:=e2 E e;have:=V.lt;omega
   have aw:x8.cells= #[x8]∧x8.oneCell'=true:=by
    obtain ⟨cells,h1,_⟩:=H
    rcases h1.2 with ⟨rfl,_⟩ | ⟨g,cp,cx,rfl,_⟩<;>exact ⟨rfl,rfl⟩
   refine st0 av (by simp) aw.1 aw.2 fun w9 a2 b4=>?_
   have b9:=a2.stp bk b6 av.1
   have am:V5 w0.heap.size T.e 1 Ww σ8 w9 x8 (ints (Xl l frm b i)):=by
    rw[A]
    have:=H.kp (Kpt.of_upd (D:=fun k=>k=E) a2 rfl) fun k hk e=>ax (e▸hk)
    simpa [ints] using this
   exact h w9 σ8 x8 (y.more az.le) b9 b4 am ax
theorem X1J {frm:Nat} (hs:X3 w σ) (ht:Tab σ v l) (ha:Jd l) (ho:T6 l) (hl:l.length≤100000) (Z: ∀c∈l,Qm c) (hf:0<frm) (aq:frm≤l.length) (h: ∀v' w' σ',Stp w σ w' σ'→Sl 1 Ww σ' v' (ints (V9 l frm))→(V9 l frm).length≤l.length→(∀y∈V9 l frm,y<l.length)→K v' w'):Q1 P F.bj [v,I frm] w K:=Pd (by
 unfold Ml
 have ao:=ht
 obtain ⟨a,lv,r,m,rfl,t1,X,t3,t4⟩:=ht.ex
 refine U5 hs rfl fun pt w1 σ1 s ap=>?_
 refine U5 s.sat rfl fun pf w2 σ2 o ar=>?_
 refine M8 o.sat fun E w3 σ3 ag k R=>?_
 refine M8 k.sat fun bw w4 σ4 an q W=>?_
 rw[Qe]
 have J:=R.step q
 have ax:=R.lt
 have N:=((s.trans o).trans k).trans q
 have V:w.heap.size≤E:=N0 ag (s.trans o)
 have z:w.heap.size≤bw:=N0 an ((s.trans o).trans k)
 refine st0 W (by simp[Value.cells]) rfl rfl fun w5 Q aa=>?_
 have ab:=Q.stp N z W.1
 have A:=J.upd Q (by omega)
 obtain ⟨H,M,L,n,U⟩:=aa.keep ab z
 have ad:Y2 H w5 E [.slice none 0 0]:=⟨(U E (by omega)).trans A.1,A.2⟩
 have n:SLe σ4 H:=⟨n⟩
 have u:=((ar.up k).up q).lift n
 have B:=(((ap.up o).up k).up q).lift n
 have f:SLe σ H:=SLe.more ⟨N.le⟩ n
 have t1:=t1.lift f
 have X:=X.lift f
 refine X7 M.sat u rfl ?_
 have a8:(List.range l.length).length=l.length:=List.length_range
 have hz:([Value.nilFunc].set 0 (Value.func (Fn.func F.y) #[] #[.pointer (some pf), .pointer (some ⟨E,0,none⟩), .pointer (some pt), .pointer (some ⟨bw,0,none⟩)]))=[Value.func (Fn.func F.y) #[] #[.pointer (some pf), .pointer (some ⟨E,0,none⟩), .pointer (some pt), .pointer (some ⟨bw,0,none⟩)]]:=rfl
 refine Ky (fun d x w'=> ∃(i:Nat) (σ':Q6) (x':Value),x=I i∧frm≤i∧i≤l.length∧d=l.length-i∧SLe H σ'∧Stp w σ w' σ'∧Y2 σ' w' E [x']∧V5 w.heap.size T.e 1 Ww σ' w' x' (ints (((List.range i).drop frm).foldl (fun e i=>Xl l frm e i) []))∧x'.ownBlock≠some E∧Few l (((List.range i).drop frm).foldl (fun e i=>Xl l frm e i) [])) _
  ⟨frm,H, .slice none 0 0,rfl,Nat.le_refl _,aq,rfl,SLe.refl _,M,ad,by rw[List.drop_eq_nil_of_le (by simp)];exact V5.nil,by simp[Value.ownBlock],by rw[List.drop_eq_nil_of_le (by simp)];exact ⟨by simp,by simp⟩⟩ ?_
 rintro aj d x dd w7 ⟨i,σ7,x7,rfl,bc,bb,rfl,g,p,O,j,am,b⟩ Y
 refine X7 p.sat (B.lift g) rfl ?_
 rw[L7,fa]
 refine ld p.sat (t1.lift g) rfl ?_
 refine Q8 (X.lift g) ?_
 refine Z0 ?_
 refine Q7 (fun hh=>?_) (fun hh=>?_)
 ·have t:i<l.length:=by simpa using hh
  refine X7 p.sat (L.lift g) rfl ?_
  refine X2B (w0:=w) (σ0:=σ) (σb:=H) ha ho hl Z hf (ao.lift f) u B L V (K6 l (Y3 l i)+1) t (.inr (Nat.lt_succ_self _)) g p O j am b fun w8 σ8 x8 ai C ae D af=>?_
  refine Xq ⟨by omega,by omega⟩ ?_
  have e1:((List.range (i+1)).drop frm).foldl (fun e i=>Xl l frm e i) []=Xl l frm (((List.range i).drop frm).foldl (fun e i=>Xl l frm e i) []) i:=by
   rw[List.range_succ,List.drop_append_of_le_length (by simp;omega),List.foldl_append];rfl
  refine Y _ _ _ (by omega:l.length-(i+1)<l.length-i) ⟨i+1,σ8,x8,by simp,by omega,by omega,rfl,g.more ai,C,ae,?_,af,?_⟩
  ·rw[e1];exact D
  ·rw[e1];exact Pk ha ho hf _ _ _ t b
 ·have t:i=l.length:=by
   have: ¬i<l.length:=by simpa using hh
   omega
  subst t
  refine Q8v O rfl ?_
  obtain ⟨σ8,C,ah,_,_⟩:=j.keep p
  exact h _ _ _ C ah b.len b.2)
end Go.Proofs.YtjdiakhipmggjaaGreatDoor

namespace Go.Hm
open Go.Kd
theorem Q72 (x:X0) (r:List X0):H8 (x::r)=x++Lib.joinTail [44] r:=by
 induction r generalizing x with
 | nil=>simp[H8,Lib.joinTail]
 | cons y r a=>
  simp only[H8]
  rw[a y]
  simp[Lib.joinTail]
theorem Q2n (xs:List X0):Lib.join xs [44]=H8 xs:=by
 cases xs with
 | nil=>rfl
 | cons x r=>rw[Lib.join_cons,Q72]
theorem Rd: ∀xs:List X0,(∀x∈xs,x.length≤100)→(H8 xs).length≤xs.length*101
 | [],_=>by simp[H8]
 | [a],h=>by have:=h a (by simp);simp[H8];omega
 | a::b::r,h=>by
  have d:=h a (by simp)
  have e:=Rd (b::r) fun x c=>h x (by simp[c])
  simp only[H8,List.length_append,List.length_cons,List.length_nil,Nat.add_mul] at*
  omega
def NmM (m:Hm.Met):Prop:=m.result.length≤100∧ ∀p∈m.params,p.length≤100
end Go.Hm
namespace Go.Proofs.YtjdiakhipmggjaaGreatDoor
open Go.Emb Go.RowKit Go.Kd Go.Hm
variable {w : World} {K : Value → World → Prop} {σ : Q6} {v : Value} {l : List Cla}
theorem X1L {xs:List X0} {pv:Value} (E:X3 w σ) (J:Sl 1 U8 σ pv xs) (B:xs.length≤1000000) (D: ∀x∈xs,x.length≤100) (h: ∀w',Below w.heap.size w w'→K (S (H8 xs)) w'):Q1 P F.cP [pv,S [44]] w K:=by
 obtain ⟨a,k,rfl,H,O,A,C⟩:=J
 have p:=Rd xs D
 have u:xs.length*101≤1000000*101:=Nat.mul_le_mul_right _ B
 cases a with
 | none=>
  have R:=A rfl
  have d:xs=[]:=List.eq_nil_of_length_eq_zero (by omega)
  subst d
  refine Wq (fn:=Tryz.f143) Tryz.func143 (by kernel_rfl) (by kernel_rfl) (Calls.mono (Tryz.strings_Join_none none k ⟨[44].toArray⟩ w) ?_)
  rintro e w' ⟨rfl,rfl⟩
  exact h _ (Below.refl _ _)
 | some b=>
  obtain ⟨f,q⟩:=C b rfl
  by_cases d:xs=[]
  ·subst d
   refine Wq (fn:=Tryz.f143) Tryz.func143 (by kernel_rfl) (by kernel_rfl) (Calls.mono (Tryz.strings_Join_none (some b) k ⟨[44].toArray⟩ w) ?_)
   rintro e w' ⟨rfl,rfl⟩
   exact h _ (Below.refl _ _)
  have f:=f (List.length_pos_iff.2 d)
  obtain ⟨m,o,Q⟩:=b
  simp only at f
  subst f
  have c: ∀(j:Nat) (x:ByteArray),(xs.map fun s=>(⟨s.toArray⟩:ByteArray))[j]? =some x→w.cell? ⟨m,o+j,none⟩=some (.string x):=by
   intro j x n
   rw[List.getElem?_map] at n
   cases g:xs[j]? with
   | none=>rw[g] at n;cases n
   | some s=>
    rw[g] at n
    cases n
    obtain ⟨cs,N,U,M⟩:=q j s g
    obtain ⟨rfl,_⟩:=M
    have:=N.cell E (i:=0) (v:=S s) rfl
    rw[add_zero] at this
    have e:(⟨m,o,none⟩:Addr).add (j*1)=⟨m,o+j,none⟩:=by unfold Addr.add;split<;>simp_all
    rw[e] at this;exact this
  have t:m<w.heap.size:=by
   obtain ⟨x,r,rfl⟩: ∃x r,xs=x::r:=by cases xs with | nil=>exact absurd rfl d | cons x r=>exact ⟨x,r,rfl⟩
   have:=c 0 ⟨x.toArray⟩ (by simp)
   exact World.block_lt_of_cell? _ _ this
  have z:(xs.map fun s=>(⟨s.toArray⟩:ByteArray)).map (·.data.toList)=xs:=by rw[List.map_map];simp[Function.comp_def]
  have y:=Tryz.strings_Join m o k (xs.map fun s=>(⟨s.toArray⟩:ByteArray)) ⟨[44].toArray⟩ w c t (by rw[List.length_map];omega) (by rw[List.length_map];exact H) (by rw[z];show (Lib.join xs [44]).length≤_;rw[Q2n];omega)
  rw[z,List.length_map] at y
  refine Wq (fn:=Tryz.f143) Tryz.func143 (by kernel_rfl) (by kernel_rfl) (Calls.mono y ?_)
  rintro e w' ⟨rfl,L⟩
  have:=h w' L
  rw[←Q2n] at this
  exact this
theorem Q8P {m:Hm.Met} {cs:List Value} (n:X3 w σ) (q:E8 σ m cs) (d:SmM m) (g:NmM m) (h: ∀w' p,Stp w σ w' p→K (S (Qu m)) w'):Q1 P F.cg [.agg cs.toArray] w K:=Q55 (by
 obtain ⟨pv,y,C,rfl,r,H,N,O,A,J⟩:=q
 unfold Q11
 refine Z1 n fun a w1 σ1 c k=>?_
 have o:=Rd m.params g.2
 have j:m.params.length*101≤1000000*101:=Nat.mul_le_mul_right _ d.1
 refine U2 c.sat ?_
 refine X4 (.pointer (some (a.add 1))) (fun w b=>by rw[fa];exact X6 rfl) ?_
 refine X4 (.pointer (some (a.add 2))) (fun w b=>by rw[fa];exact X6 rfl) ?_
 refine X4 pv (fun t w b e=>by rw[e];exact ld b.sat k rfl (X6 rfl)) ?_
 refine X4 (S (H8 m.params)) (fun t w b e=>by rw[e];exact X1L b.sat (r.up c) d.1 g.2 fun w' i=>Q2O i rfl) ?_
 refine X4 (S ([40]++H8 m.params)) (fun t w b e=>by rw[e];exact Re (by simp only[List.length_cons,List.length_nil];omega) (X6 rfl)) ?_
 refine X4 (S ([40]++H8 m.params++[41])) (fun t w b e=>by rw[e];exact Re (by simp only[List.length_append,List.length_cons,List.length_nil];omega) (X6 rfl)) ?_
 refine X4 (S m.result) (fun t w b e=>by rw[e];exact ld b.sat k rfl (X6 rfl)) ?_
 rintro D z L s E u M B f _ _ _ _ _ rfl rfl
 have:=g.1
 refine Re (by simp only[List.length_append,List.length_cons,List.length_nil];omega) ?_
 exact h _ _ (c.trans f.stp))
end Go.Proofs.YtjdiakhipmggjaaGreatDoor

namespace Go.Emb
open Go.RowKit Go.Hm
variable {P : Program} {w w0 w1 w' w'' : World} {K : Value → World → Prop} {σ σ0 σ1 σ' : Q6}
theorem Kz {α:Type} (f:α→α) (e:α): ∀l:List α,(l++[e]).modify l.length f=l++[f e]
 | []=>rfl
 | x::r=>by simp[Kz f e r]
theorem Q0C (k:List UInt8) (e:MapEntry) (b:e.key=S k): ∀(a:List MapEntry) (i:Nat),Instr.findNow .string (S k) a i=some none→Instr.findNow .string (S k) (a++[e]) i=some (some (i+a.length,e.val))
 | [],i,_=>by
  simp[Instr.findNow,b,Instr.sameNow,Em]
 | x::r,i,h=>by
  simp only[Instr.findNow,List.cons_append] at h⊢
  split at h
  ·cases h
  ·rename_i c
   rw[Q0C k e b r (i+1) h]
   simp;omega
  ·cases h
theorem Q2a (k:List UInt8) (u:Value): ∀(a:List MapEntry) (i j:Nat) (v:Value),Instr.findNow .string (S k) a i=some (some (j,v))→i≤j∧j-i<a.length∧Instr.findNow .string (S k) (a.modify (j-i) fun e=>{e with val:=u}) i=some (some (j,u))
 | [],i,j,v,h=>by simp[Instr.findNow] at h
 | x::r,i,j,v,h=>by
  simp only[Instr.findNow] at h
  split at h
  ·rename_i b
   cases h
   refine ⟨Nat.le_refl _,by simp,?_⟩
   simp only[Nat.sub_self,List.modify_zero_cons,Instr.findNow,b]
  ·rename_i b
   obtain ⟨d,f,c⟩:=Q2a k u r (i+1) j v h
   refine ⟨by omega,by simp;omega,?_⟩
   rw[show j-i=(j-(i+1))+1 by omega]
   simp only[List.modify_succ_cons,Instr.findNow,b]
   exact c
  ·cases h
theorem Vl {t m q:TypeId} [tm:TM P t m q] (o:P.underlying m=some .string) {r:Nat} {b:Array MapEntry} {a:Nat} {k:List UInt8} {i:Nat} {v:Value} {e:MapEntry} (p:w.heap[r]? =some (.map b a))
 (s:Instr.findNow .string (S k) b.toList 0=some (some (i,v))) (n:b[i]? =some e) (g:e.key=S k):
 (Instr.mapEntry t (.map (some r)) (S k)).run P w= .ok (.tuple #[v,goInt e.born]) {w with heap:=w.heap.setIfInBounds r (.map b a)}:=by
 have u:(getObj r).run P w= .ok (.map b a) w:=by simp[getObj,Sem.run,p]
 have c:(Instr.keyThatStays (S k) (S k)).run P w= .ok (S k) w:=by
  simp[Instr.keyThatStays,Instr.sameBits,Em]
 have l:(b.modify i fun e=>{e with key:=S k})=b:=by
  apply Array.ext'
  apply List.ext_getElem?
  intro j
  simp only[Array.toList_modify,List.getElem?_modify]
  by_cases d:i=j
  ·subst d
   rw[Array.getElem?_toList,n]
   simp[←g]
  ·cases b.toList[j]? <;>simp[d]
 have f:(setObj r (.map b a)).run P w= .ok () {w with heap:=w.heap.setIfInBounds r (.map b a)}:=by
  simp[setObj,Sem.run,p]
 simp only[Instr.mapEntry,Sem.run_bind,run_underlying tm.h,Result.andThen_ok,Instr.findKey,run_underlying o,s,I7 o,u,Sem.run_pure]
 simp only[n,Option.map_some,Option.getD_some,g,c,Result.andThen_ok,l,f]
theorem Q2p {r:Nat} {o:Obj} (h:w.heap[r]? =some o):({w with heap:=w.heap.setIfInBounds r o}:World)=w:=by
 have:w.heap.setIfInBounds r o=w.heap:=by
  apply Array.ext'
  apply List.ext_getElem?
  intro j
  simp only[Array.toList_setIfInBounds,List.getElem?_set]
  by_cases a:r=j
  ·subst a
   rw[if_pos rfl]
   have:=h
   rw[←Array.getElem?_toList] at this
   rw[this,if_pos (by have:=(Array.getElem?_eq_some_iff.1 h).1;simpa using this)]
  ·rw[if_neg a]
 rw[this]
theorem Q3C {r:Nat} {o a:Obj} (h:w.heap[r]? =some a):Upd w r {w with heap:=w.heap.setIfInBounds r o}∧({w with heap:=w.heap.setIfInBounds r o}:World).heap[r]? =some o:=by
 have b:=(Array.getElem?_eq_some_iff.1 h).1
 exact ⟨⟨rfl,rfl,rfl,by simp,fun k c=>by simp only[Array.getElem?_setIfInBounds];rw[if_neg (by omega)]⟩,by simp[Array.getElem?_setIfInBounds,b]⟩
structure Ent3 (P : Program) (t : TypeId) (r : Nat) (k : List UInt8) (u : Value) (m : List (List UInt8 × Value)) (O0 O1 O2 : Obj) (stamp : Nat) : Prop where
  same : O0 = O2 → O1 = O0
  put : H2 (some O2) (Wp m k u)
  entry : ∀ {w : World} {K : Value → World → Prop}, (w.heap[r]? = some O0 ∨ w.heap[r]? = some O1 ∨ w.heap[r]? = some O2) → (∀ x w', Upd w r w' → (w.heap[r]? = some O0 → w'.heap[r]? = some O1) → (w.heap[r]? ≠ some O0 → w'.heap[r]? = w.heap[r]?) → K (.tuple #[x, I stamp]) w') → mapEntry P t (.map (some r)) (S k) w K
  store : ∀ {w : World} {K : Value → World → Prop}, (w.heap[r]? = some O1 ∨ w.heap[r]? = some O2) → (∀ w', Upd w r w' → w'.heap[r]? = some O2 → K undef w') → entryStore P t (.map (some r)) (I stamp) u w K
theorem X4f {t kt et:TypeId} {av:Nat} {z:Value} [tm:TM P t kt et] [tz:TZ P et 1 av z] (Q:P.underlying kt=some .string) {r:Nat} {m:List (List UInt8×Value)} (hm:H2 (w.heap[r]?) m) (k:List UInt8) (u:Value):
 ∃W O1 O2 A,w.heap[r]? =some W∧Ent3 P t r k u m W O1 O2 A:=by
 obtain ⟨q,g,h1,h2,h3,Y⟩:=hm
 obtain ⟨r',Z,q2,q3,q4⟩:=Bc k q.toList m 0 h2
 -- the array behind it, the place, the stamp
 have X: ∀(f:Array MapEntry) (d i:Nat) (s:MapEntry) (v1:Value),Instr.findNow .string (S k) f.toList 0=some (some (i,v1))→f[i]? =some s→s.key=S k→(f.toList.map (·.born)).Pairwise (· < ·)→
  (Obj.map q g= .map (f.modify i fun e=>{e with val:=u}) d→Obj.map f d=Obj.map q g)→H2 (some (.map (f.modify i fun e=>{e with val:=u}) d)) (Wp m k u)→
  (∀{w:World},w.heap[r]? =some (.map q g)→ ∃x,(Instr.mapEntry t (.map (some r)) (S k)).run P w= .ok (.tuple #[x,I s.born]) {w with heap:=w.heap.setIfInBounds r (.map f d)})→
  ∃W O1 O2 A,w.heap[r]? =some W∧Ent3 P t r k u m W O1 O2 A:=by
  intro f d i s v1 f1 f2 f3 f4 f5 f6 f7
  obtain ⟨_,J,f8⟩:=Q2a k u f.toList 0 i v1 f1
  simp only[Nat.sub_zero] at J f8
  have a0:i<f.size:=by simpa using J
  have f9:(f.modify i fun e=>{e with val:=u})[i]? =some {s with val:=u}:=by
   rw[Array.getElem?_modify,if_pos rfl,f2];rfl
  have ax:Instr.findNow .string (S k) (f.modify i fun e=>{e with val:=u}).toList 0=some (some (i,u)):=by
   rw[Array.toList_modify];exact f8
  have L: ∀(l:Array MapEntry),l.toList.map (·.born)=f.toList.map (·.born)→l.findIdx? (fun e=>(e.born:Int)==s.born)=some i:=by
   intro l D
   obtain ⟨le⟩:=l
   have e0:(Array.mk le).findIdx? (fun e=>(e.born:Int)==s.born)=le.findIdx? (fun e=>(e.born:Int)==s.born):=List.findIdx?_toArray ..
   rw[e0,List.findIdx?_eq_some_iff_getElem]
   generalize O:(Array.mk le)=l at*
   have aq:le=l.toList:=by rw[←O]
   subst aq
   have a4:l.toList.length=f.toList.length:=by have:=congrArg List.length D;simpa using this
   have R: ∀j (hj:j<l.toList.length),(l.toList[j]).born=(f.toList[j]'(by omega)).born:=fun j hj=>by
    have h5:(l.toList.map (·.born))[j]? =(f.toList.map (·.born))[j]? :=by rw[D]
    rw[List.getElem?_map,List.getElem?_map,List.getElem?_eq_getElem hj,List.getElem?_eq_getElem (by omega)] at h5
    simpa using h5
   have U:f.toList[i]=s:=by
    have:=f2
    rw[←Array.getElem?_toList,List.getElem?_eq_getElem J] at this
    simpa using this
   refine ⟨by omega,by rw[R i (by omega),U];simp,fun j hj=>?_⟩
   have ae:j<f.toList.length:=by omega
   have:=(List.pairwise_iff_getElem.1 f4) j i (by simpa using ae) (by simpa using J) hj
   simp only[List.getElem_map] at this
   rw[R j (by omega)]
   rw[U] at this
   simp only[beq_iff_eq];omega
  have H:(f.modify i fun e=>{e with val:=u}).toList.map (·.born)=f.toList.map (·.born):=by
   apply List.ext_getElem?
   intro j
   simp only[Array.toList_modify,List.getElem?_map,List.getElem?_modify]
   by_cases M:i=j<;>cases f.toList[j]? <;>simp[M]
  have al:(f.modify i fun e=>{e with val:=u}).modify i (fun e=>{e with val:=u})=f.modify i fun e=>{e with val:=u}:=by
   apply Array.ext'
   apply List.ext_getElem?
   intro j
   simp only[Array.toList_modify,List.getElem?_modify]
   by_cases M:i=j<;>cases f.toList[j]? <;>simp[M]
  have B: ∀(l:Array MapEntry) {w:World},l.toList.map (·.born)=f.toList.map (·.born)→w.heap[r]? =some (.map l d)→(Instr.entryStore t (.map (some r)) (I s.born) u).run P w= .ok () {w with heap:=w.heap.setIfInBounds r (.map (l.modify i fun e=>{e with val:=u}) d)}:=by
   intro l w D hw
   have hg:(getObj r).run P w= .ok (.map l d) w:=by simp[getObj,Sem.run,hw]
   have E: ∀o,(setObj r (.map o d)).run P w= .ok () {w with heap:=w.heap.setIfInBounds r (.map o d)}:=by
    intro o;simp[setObj,Sem.run,hw]
   simp only[Instr.entryStore,Sem.run_bind,hg,Result.andThen_ok,asInt,Sem.run_pure,asIntOf,L l D,E]
  refine ⟨.map q g, .map f d, .map (f.modify i fun e=>{e with val:=u}) d,s.born,h1,f5,f6,?_,?_⟩
  ·intro w K hw N
   unfold mapEntry
   rcases hw with hw | hw | hw
   ·obtain ⟨x,hx⟩:=f7 hw
    rw[Y0 hx]
    obtain ⟨u1,u2⟩:=Q3C (o:= .map f d) hw
    exact N x _ u1 (fun _=>u2) fun h=>absurd hw h
   ·have:=Vl (P:=P) (t:=t) Q hw f1 f2 f3
    rw[Q2p hw] at this
    rw[Y0 this]
    refine N _ w ⟨rfl,rfl,rfl,rfl,fun _ _=>rfl⟩ (fun h0=>?_) fun _=>rfl
    exact hw
   ·have:=Vl (P:=P) (t:=t) Q hw ax f9 f3
    rw[Q2p hw] at this
    rw[Y0 this]
    refine N _ w ⟨rfl,rfl,rfl,rfl,fun _ _=>rfl⟩ (fun h0=>?_) fun _=>rfl
    rw[h0] at hw
    cases hw
    rw[h0,f5 rfl]
  ·intro w K hw N
   unfold entryStore
   rcases hw with hw | hw
   ·rw[Uw (B f rfl hw)]
    obtain ⟨u1,u2⟩:=Q3C (o:= .map (f.modify i fun e=>{e with val:=u}) d) hw
    exact N _ u1 u2
   ·have:=B _ H hw
    rw[al,Q2p hw] at this
    rw[Uw this]
    exact N _ ⟨rfl,rfl,rfl,rfl,fun _ _=>rfl⟩ hw
 cases r' with
 | none=>
  obtain ⟨i,hi,bd,bc,aj⟩:=tz.info
  have hz: ∀w:World,(zeroValue et).run P w= .ok z w:=fun w=>Zj tz w
  refine X (q.push {key:=S k,val:=z,born:=g}) (g+1) q.size {key:=S k,val:=z,born:=g} z ?_ (by simp) rfl ?_ ?_ ?_ ?_
  ·have:=Q0C k {key:=S k,val:=z,born:=g} rfl q.toList 0 Z
   simpa using this
  ·simp only[Array.toList_push,List.map_append,List.map_cons,List.map_nil]
   rw[List.pairwise_append]
   refine ⟨h3,by simp,?_⟩
   intro a ha b D
   simp at D;subst D
   obtain ⟨e,he,rfl⟩:=List.mem_map.1 ha
   exact Y e he
  ·intro e
   injection e with s e2
   omega
  ·refine ⟨_,_,rfl,?_,?_,?_⟩
   ·rw[q4 rfl]
    simp only[Array.toList_modify,Array.toList_push]
    rw[←Array.length_toList,Kz]
    simp[h2]
   ·have:((q.push {key:=S k,val:=z,born:=g}).modify q.size fun e=>{e with val:=u}).toList.map (·.born)=q.toList.map (·.born)++[g]:=by
     simp only[Array.toList_modify,Array.toList_push]
     rw[←Array.length_toList,Kz]
     simp
    rw[this,List.pairwise_append]
    refine ⟨h3,by simp,?_⟩
    intro a ha b D
    simp at D;subst D
    obtain ⟨e,he,rfl⟩:=List.mem_map.1 ha
    exact Y e he
   ·intro e he
    simp only[Array.toList_modify,Array.toList_push] at he
    rw[←Array.length_toList,Kz] at he
    rcases List.mem_append.1 he with he | he
    ·have:=Y e he;omega
    ·simp at he;subst he;simp
  ·intro w hw
   have hg:(getObj r).run P w= .ok (.map q g) w:=by simp[getObj,Sem.run,hw]
   have E: ∀o c,(setObj r (.map o c)).run P w= .ok () {w with heap:=w.heap.setIfInBounds r (.map o c)}:=by
    intro o c;simp[setObj,Sem.run,hw]
   refine ⟨z,?_⟩
   simp only[Instr.mapEntry,Sem.run_bind,run_underlying tm.h,Result.andThen_ok,Instr.findKey,run_underlying Q,Z,I7 Q,hg,Sem.run_pure,hz,E]
   rfl
 | some p=>
  obtain ⟨j,v⟩:=p
  obtain ⟨z1,z2,z3⟩:=q3 j v rfl
  obtain ⟨e,s,e2⟩:=z2
  simp only[Nat.sub_zero] at s z3
  have V:q[j]? =some e:=by rw[←Array.getElem?_toList];exact s
  refine X q g j e v Z V e2 h3 (fun _=>rfl) ?_ fun hw=>⟨v,Vl Q hw Z V e2⟩
  refine ⟨_,_,rfl,?_,?_,?_⟩
  ·have:=z3 u
   rw[←this,Array.toList_modify]
   congr 1
   apply List.ext_getElem?
   intro n
   simp only[List.getElem?_modify]
   by_cases C:j=n
   ·subst C;rw[s];simp[e2]
   ·simp[C]
  ·have:(q.modify j fun e=>{e with val:=u}).toList.map (·.born)=q.toList.map (·.born):=by
    apply List.ext_getElem?
    intro n
    simp only[Array.toList_modify,List.getElem?_map,List.getElem?_modify]
    by_cases C:j=n<;>cases q.toList[n]? <;>simp[C]
   rw[this];exact h3
  ·intro x hx
   have:x.born∈(q.modify j fun e=>{e with val:=u}).toList.map (·.born):=List.mem_map.2 ⟨x,hx,rfl⟩
   have D:(q.modify j fun e=>{e with val:=u}).toList.map (·.born)=q.toList.map (·.born):=by
    apply List.ext_getElem?
    intro n
    simp only[Array.toList_modify,List.getElem?_map,List.getElem?_modify]
    by_cases C:j=n<;>cases q.toList[n]? <;>simp[C]
   rw[D] at this
   obtain ⟨y,hy,e⟩:=List.mem_map.1 this
   rw[←e];exact Y y hy
end Go.Emb

namespace Go.Hm
open Go.Kd Go.Emb
abbrev B2:=List (X0×X0)
def C5:B2→X0→Option X0
 | [],_=>none
 | p::r,k=>if p.1=k then some p.2 else C5 r k
def Rx:B2→X0→X0→B2
 | [],k,v=>[(k,v)]
 | p::r,k,v=>if p.1=k then (k,v)::r else p::Rx r k v
def vals (m:B2):List (List UInt8×Value):=m.map fun p=>(p.1,S p.2)
theorem Q9a (m:B2) (k:X0):C4 (vals m) k=(C5 m k).map S:=by
 induction m with
 | nil=>rfl
 | cons p r a=>
  simp only[vals,List.map_cons,C4,C5]
  split
  ·rfl
  ·exact a
theorem Q5o (m:B2) (k v:X0):Wp (vals m) k (S v)=vals (Rx m k v):=by
 induction m with
 | nil=>rfl
 | cons p r a=>
  simp only[vals,List.map_cons,Wp,Rx]
  split
  ·rfl
  ·rw[List.map_cons];congr 1
theorem Q0T (m:B2) (k v n:X0):C5 (Rx m k v) n=if k=n then some v else C5 m n:=by
 induction m with
 | nil=>simp[Rx,C5]
 | cons p r b=>
  simp only[Rx]
  by_cases h:p.1=k
  ·rw[if_pos h]
   simp only[C5]
   by_cases a:k=n
   ·simp[a]
   ·rw[if_neg a,if_neg a,if_neg (by rw[h];exact a)]
  ·rw[if_neg h]
   simp only[C5]
   by_cases a:p.1=n
   ·rw[if_pos a,if_pos a,if_neg (by intro e;exact h (a.trans e.symm))]
   ·rw[if_neg a,if_neg a];exact b
def Vi (d:X0) (s:B2×B2) (m:Hm.Met):Bool×(B2×B2):=
 ((match C5 s.1 m.name with | some x=> !decide (x=Qu m) | none=>false),(Rx s.1 m.name (Qu m),Rx s.2 m.name d))
end Go.Hm
namespace Go.Emb
open Go.RowKit Go.Hm
theorem H2.of_below {w w':World} {r:Nat} {m:List (List UInt8×Value)} (h:H2 (w.heap[r]?) m) (c:Below w.heap.size w w'):H2 (w'.heap[r]?) m:=by
 obtain ⟨d,a,b,e⟩:=h
 rw[c.block r (Array.getElem?_eq_some_iff.1 b).1]
 exact ⟨d,a,b,e⟩
theorem Q9W {P:Program} {w:World} {K:Value→World→Prop} {t b c:TypeId} {sz a:Nat} {z:Value} [tm:TM P t b c] [tz:TZ P c sz a z] (d:P.underlying b=some .string) {r:Nat} {m:List (List UInt8×Value)} (f:H2 (w.heap[r]?) m) (k:List UInt8)
 (h:K (.tuple #[(C4 m k).getD z, .bool (C4 m k).isSome]) w):lookup P t (.map (some r)) (S k) true w K:=by
 rw[Q2A d f k];cases e:C4 m k<;>rw[e] at h<;>exact h
theorem H2.lt {w:World} {r:Nat} {m:List (List UInt8×Value)} (h:H2 (w.heap[r]?) m):r<w.heap.size:=by
 obtain ⟨c,a,b,d⟩:=h
 exact (Array.getElem?_eq_some_iff.1 b).1
end Go.Emb
namespace Go.Proofs.YtjdiakhipmggjaaGreatDoor
open Go.Emb Go.RowKit Go.Kd Go.Hm
variable {w : World} {K : Value → World → Prop} {σ : Q6} {v : Value} {l : List Cla}
theorem X3U {m:Hm.Met} {cs ds:List Value} {pa pb q:Addr} {b o:Nat} {s:B2×B2} {d:X0} (hs:X3 w σ) (hm:E8 σ m cs) (Q:SmM m) (hn:NmM m) (Z:Z4 σ pa [.map (some b)]) (ai:Z4 σ pb [.map (some o)]) (hq:Z4 σ q (S d::ds))
 (ao:σ b=none) (ah:σ o=none) (X:b≠o) (p:H2 (w.heap[b]?) (vals s.1)) (r:H2 (w.heap[o]?) (vals s.2))
 (h: ∀w',Kpt (fun k=>k=b∨k=o) w w'→H2 (w'.heap[b]?) (vals (Vi d s m).2.1)→H2 (w'.heap[o]?) (vals (Vi d s m).2.2)→K (.bool (Vi d s m).1) w'):
 Q1 P F.aK [.agg cs.toArray, .pointer (some pa), .pointer (some q), .pointer (some pb)] w K:=Hj (by
 have ab:=hm
 obtain ⟨pv,cv,hv,rfl,g1,g2,g3,g4,g5,g6⟩:=hm
 unfold Zd
 refine Z1 hs fun a w1 σ1 f Y=>?_
 have aw:=p.lt
 have ax:=r.lt
 have p:=p.of_below f.bel
 have r:=r.of_below f.bel
 have aa:σ1 b=none:=(f.old b aw).trans ao
 have H:σ1 o=none:=(f.old o ax).trans ah
 refine X7 f.sat (Z.up f) rfl ?_
 rw[fa]
 refine ld f.sat Y rfl ?_
 refine Q9W X8 p m.name ?_
 have av:(.tuple #[(C4 (vals s.1) m.name).getD (.string ⟨#[]⟩), .bool (C4 (vals s.1) m.name).isSome]:Value)= .tuple #[S ((C5 s.1 m.name).getD []), .bool (C5 s.1 m.name).isSome]:=by
  rw[Q9a];cases C5 s.1 m.name<;>rfl
 rw[av]
 refine J6 (vs:=[_,_]) rfl ?_
 refine J6 (vs:=[_,_]) rfl ?_
 obtain ⟨O,M,A,z,af,E⟩:=X4f (P:=P) (t:=T.w) X8 p m.name (S (Qu m))
 have W:=p.lt
 refine Is (fun c i=>Kpt (fun k=>k=b) c i∧(i.heap[b]? =c.heap[b]? ∨(c.heap[b]? =some O∧O≠A∧i.heap[b]? =some M)∨i.heap[b]? =some A))
  (fun c=>Kpt (fun k=>k=b) w1 c∧X3 c σ1∧(c.heap[b]? =some O∨c.heap[b]? =some M∨c.heap[b]? =some A))
  ⟨.of_below (Below.refl _ _).drew,f.sat.below (Below.refl _ _).drew, .inl af⟩ (fun c i g C=>⟨g.1.trans C.1,C.1.sat g.2.1 (fun k hk=>hk▸aa),by
   rcases C.2 with e | ⟨_,_,e⟩ | e
   ·rw[e];exact g.2.2
   ·exact .inr (.inl e)
   ·exact .inr (.inr e)⟩) ?_
 refine X4 (.pointer (some (a.add 0))) (fun w g=>by rw[fa];exact ⟨⟨Kpt.refl, .inl rfl⟩,rfl⟩) ?_
 refine X4 (.pointer (some (a.add 0))) (fun w g=>by rw[fa];exact ⟨⟨Kpt.refl, .inl rfl⟩,rfl⟩) ?_
 refine X4 (.pointer (some (q.add 0))) (fun w g=>by rw[fa];exact ⟨⟨Kpt.refl, .inl rfl⟩,rfl⟩) ?_
 refine X4 (.map (some b)) (fun w g=>X7 g.2.1 (Z.up f) rfl ⟨⟨Kpt.refl, .inl rfl⟩,rfl⟩) ?_
 refine X4 (S m.name) (fun t w g e=>by rw[e];exact ld g.2.1 Y rfl ⟨⟨Kpt.refl, .inl rfl⟩,rfl⟩) ?_
 refine X4 (.map (some o)) (fun w g=>X7 g.2.1 (ai.up f) rfl ⟨⟨Kpt.refl, .inl rfl⟩,rfl⟩) ?_
 refine X4 (S m.name) (fun t w g e=>by rw[e];exact ld g.2.1 Y rfl ⟨⟨Kpt.refl, .inl rfl⟩,rfl⟩) ?_
 refine X4 (.agg [S m.name,pv,S m.result, .bool m.abs,I m.locals,cv,hv].toArray) (fun w g=>Y4 g.2.1 Y rfl ⟨⟨Kpt.refl, .inl rfl⟩,rfl⟩) ?_
 refine X4 (S (Qu m)) (fun t c g e=>by
  rw[e]
  exact Q8P g.2.1 (RMe_lift ab ⟨f.le⟩) Q hn fun i σ3 y=>⟨⟨.of_below y.bel, .inl (y.bel.block b (Nat.lt_of_lt_of_le W g.1.size))⟩,rfl⟩) ?_
 refine X4 (S d) (fun t w g e=>by rw[e];exact ld g.2.1 (hq.up f) rfl ⟨⟨Kpt.refl, .inl rfl⟩,rfl⟩) ?_
 have st: ∀{c i:World},(c.heap[b]? =some M∨c.heap[b]? =some A)→(i.heap[b]? =c.heap[b]? ∨(c.heap[b]? =some O∧O≠A∧i.heap[b]? =some M)∨i.heap[b]? =some A)→(i.heap[b]? =some M∨i.heap[b]? =some A):=by
  intro c i j h2
  rcases h2 with e | ⟨_,_,e⟩ | e
  ·rw[e];exact j
  ·exact .inl e
  ·exact .inr e
 refine H0 (fun u c=>(∃x,u= .tuple #[x,I z])∧(c.heap[b]? =some M∨c.heap[b]? =some A)) (fun u c i j C=>⟨j.1,st j.2 C.2⟩) (fun ac ar c g e1 e2=>?_) ?_
 ·rw[e1,e2]
  refine E.entry g.2.2 fun x i n ae an=>?_
  by_cases U:c.heap[b]? =some O
  ·have j:=ae U
   refine ⟨⟨Kpt.of_upd n rfl,?_⟩,⟨x,rfl⟩, .inl j⟩
   by_cases B:O=A
   ·left;rw[j,U,E.same B]
   ·exact .inr (.inl ⟨U,B,j⟩)
  ·have j:=an U
   refine ⟨⟨Kpt.of_upd n rfl, .inl j⟩,⟨x,rfl⟩,?_⟩
   rw[j];exact g.2.2.resolve_left U
 refine H0 (fun u c=>u=I z∧(c.heap[b]? =some M∨c.heap[b]? =some A)) (fun u c i j C=>⟨j.1,st j.2 C.2⟩) (fun t c g e=>?_) ?_
 ·obtain ⟨⟨x,rfl⟩,j⟩:=e
  exact J6 (vs:=[_,_]) rfl ⟨⟨Kpt.refl, .inl rfl⟩,rfl,j⟩
 refine H0 (fun _ c=>c.heap[b]? =some A) (fun u c i j C=>?_) (fun ac ag aq c g e1 e2 e3=>?_) ?_
 ·rcases C.2 with e | ⟨e,B,_⟩ | e
  ·exact e.trans j
  ·rw[j] at e;cases e;exact absurd rfl B
  ·exact e
 ·rw[e1,e3,e2.1]
  refine E.store e2.2 fun i n h3=>⟨⟨Kpt.of_upd n rfl, .inr (.inr h3)⟩,h3⟩
 rintro bj a9 a8 ac ar bh ba a6 aq bb bg ag a5 c N _ _ _ _ _ rfl rfl _ _ rfl _ _ aj
 have ak:H2 (c.heap[b]?) (vals (Rx s.1 m.name (Qu m))):=by
  rw[aj,←Q5o];exact E.put
 have ay:H2 (c.heap[o]?) (vals s.2):=by
  rw[N.1.block o r.lt fun e=>X e.symm];exact r
 refine Ph X8 ⟨H,ay⟩ m.name (S d) fun i n ap=>?_
 have V:H2 (i.heap[o]?) (vals (Rx s.2 m.name d)):=by rw[←Q5o];exact ap.2
 have J:H2 (i.heap[b]?) (vals (Rx s.1 m.name (Qu m))):=by rw[n.block b X];exact ak
 have y:Kpt (fun k=>k=b∨k=o) w i:=((Kpt.of_below f.bel).trans (N.1.mono fun k _ h=> .inl h)).trans (Kpt.of_upd n (.inr rfl))
 have R:X3 i σ1:=(Kpt.of_upd (D:=fun k=>k=o) n rfl).sat N.2.1 fun k hk=>hk▸H
 unfold Vi at h
 cases ho:C5 s.1 m.name with
 | none=>
  rw[ho] at h
  simp only[Option.isSome_none,↓M2,M2,Mb,reduceIte]
  exact h i y J V
 | some x=>
  rw[ho] at h
  simp only[Option.isSome_some,Option.getD_some,↓M2,M2,Mb,reduceIte]
  refine Y4 R Y rfl ?_
  refine Q8P R (RMe_lift ab ⟨f.le⟩) Q hn fun w4 σ4 L=>?_
  simp only[↓M2,M2,Mb,reduceIte]
  exact h w4 (y.trans (Kpt.of_below L.bel)) (J.of_below L.bel) (V.of_below L.bel))
end Go.Proofs.YtjdiakhipmggjaaGreatDoor

namespace Go.Hm
open Go.Kd Go.Emb
def Sv (s:B2×B2) (c:Cla):Bool×(B2×B2):=((J4 (Vi c.name) s c.methods 0).1.isSome,(J4 (Vi c.name) s c.methods 0).2)
def Rf (a:List Hm.Met):Prop:= ∃x∈a,∃y∈a,x.name=y.name∧Qu x≠Qu y
theorem Q4n (a:List Hm.Met):Mj a=true↔Rf a:=by
 simp[Mj,Rf]
structure Gd (pre : List Hm.Met) (s : B2 × B2) : Prop where
  a : ∀ m ∈ pre, C5 s.1 m.name = some (Qu m)
  b : ∀ k x, C5 s.1 k = some x → ∃ m ∈ pre, m.name = k ∧ Qu m = x
  c : ∀ k, (C5 s.2 k).isSome = true ↔ ∃ m ∈ pre, m.name = k
theorem Gd.no {b:List Hm.Met} {s:B2×B2} (h:Gd b s): ¬Rf b:=by
 rintro ⟨x,e,y,d,i,f⟩
 have c:=h.a x e
 have g:=h.a y d
 rw[i,g] at c
 exact f (Option.some.inj c).symm
theorem Gd.step {i:List Hm.Met} {s:B2×B2} (h:Gd i s) (d:X0) (m:Hm.Met):((Vi d s m).1=true→Rf (i++[m]))∧((Vi d s m).1=false→Gd (i++[m]) (Vi d s m).2):=by
 unfold Vi
 constructor
 ·intro j
  cases o:C5 s.1 m.name with
  | none=>rw[o] at j;cases j
  | some x=>
   rw[o] at j
   obtain ⟨y,hy,f,p⟩:=h.b _ _ o
   exact ⟨y,by simp[hy],m,by simp,f,by rw[p];simpa using j⟩
 ·intro j
  have g: ∀x,C5 s.1 m.name=some x→x=Qu m:=fun x n=>by rw[n] at j;simpa using j
  refine ⟨fun y hy=>?_,fun k x n=>?_,fun k=>?_⟩
  ·simp only[Q0T]
   rcases List.mem_append.1 hy with hy | hy
   ·have:=h.a y hy
    by_cases e:m.name=y.name
    ·rw[if_pos e];congr 1;exact (g _ (by rw[e];exact this)).symm
    ·rw[if_neg e];exact this
   ·simp at hy;subst hy;simp
  ·simp only[Q0T] at n
   by_cases e:m.name=k
   ·rw[if_pos e] at n;cases n;exact ⟨m,by simp,e,rfl⟩
   ·rw[if_neg e] at n
    obtain ⟨y,hy,f⟩:=h.b _ _ n
    exact ⟨y,by simp[hy],f⟩
  ·simp only[Q0T]
   by_cases e:m.name=k
   ·rw[if_pos e];exact ⟨fun _=>⟨m,by simp,e⟩,fun _=>rfl⟩
   ·rw[if_neg e,h.c k]
    constructor
    ·rintro ⟨y,hy,f⟩;exact ⟨y,by simp[hy],f⟩
    ·rintro ⟨y,hy,f⟩
     rcases List.mem_append.1 hy with hy | hy
     ·exact ⟨y,hy,f⟩
     ·simp at hy;subst hy;exact absurd f e
theorem Rf.mono {a b:List Hm.Met} (h:Rf a) (c: ∀x∈a,x∈b):Rf b:=by
 obtain ⟨x,f,y,d,e⟩:=h
 exact ⟨x,c x f,y,c y d,e⟩
theorem Q33 (d:X0): ∀(b a:List Hm.Met) (s:B2×B2) (i:Nat),Gd a s→((J4 (Vi d) s b i).1.isSome=true→Rf (a++b))∧((J4 (Vi d) s b i).1.isSome=false→Gd (a++b) (J4 (Vi d) s b i).2)
 | [],a,s,i,h=>by simpa [J4] using h
 | m::r,a,s,i,h=>by
  obtain ⟨g,j⟩:=h.step d m
  simp only[J4]
  cases c:(Vi d s m).1 with
  | true=>
   simp only[if_true,Option.isSome_some]
   exact ⟨fun _=>(g c).mono fun x f=>by simp at f⊢;rcases f with h | h<;>simp[h],fun e=>by cases e⟩
  | false=>
   simp only[Bool.false_eq_true,if_false]
   have:=Q33 d r (a++[m]) (Vi d s m).2 (i+1) (j c)
   rw[show a++m::r=(a++[m])++r by simp]
   exact this
theorem Q2L: ∀(cs:List Cla) (a:List Hm.Met) (s:B2×B2) (i:Nat),Gd a s→((J4 Sv s cs i).1.isSome=true→Rf (a++cs.flatMap (·.methods)))∧((J4 Sv s cs i).1.isSome=false→Gd (a++cs.flatMap (·.methods)) (J4 Sv s cs i).2)
 | [],a,s,i,h=>by simpa [J4] using h
 | c::r,a,s,i,h=>by
  obtain ⟨d,f⟩:=Q33 c.name c.methods a s 0 h
  simp only[J4]
  cases b:(Sv s c).1 with
  | true=>
   simp only[if_true,Option.isSome_some]
   exact ⟨fun _=>(d b).mono (by simp;intro x hx;rcases hx with hx | hx;exact .inl hx;exact .inr (.inl hx)),fun e=>by cases e⟩
  | false=>
   simp only[Bool.false_eq_true,if_false]
   have:=Q2L r (a++c.methods) (Sv s c).2 (i+1) (f b)
   rw[List.flatMap_cons,←List.append_assoc]
   exact this
theorem X2O:Gd [] ([],[]):=⟨by simp,by simp[C5],by simp[C5]⟩
theorem Q8b (l:List Cla) (n:X0):Lb l n=(Mf l n).flatMap (·.methods):=by
 unfold Lb Mf
 induction G4 l n with
 | nil=>rfl
 | cons u r a=>
  rw[List.flatMap_cons,List.filterMap_cons]
  cases b:lk l u with
  | none=>simpa [b] using a
  | some c=>simp only[Option.map_some,Option.getD_some,List.flatMap_cons];rw[a]
end Go.Hm
namespace Go.Emb
open Go.RowKit Go.Hm
variable {P : Program} {w w0 w1 w' w'' : World} {K : Value → World → Prop} {σ σ0 σ1 σ' : Q6}
def It (σ:Q6) (w:World) (b r:Nat) (d:Array MapEntry) (a:Nat) (c:Array Nat):Prop:=σ b=none∧ ∃c0,a≤c0∧w.heap[b]? =some (.mapIter (some r) a c c0)
theorem It.step {b r:Nat} {d:Array MapEntry} {a:Nat} {c:Array Nat} (h:It σ w b r d a c) (k:Stp w σ w' σ'):It σ' w' b r d a c:=by
 obtain ⟨g,c0,i,f⟩:=h
 have e:=(Array.getElem?_eq_some_iff.1 f).1
 exact ⟨(k.old b e).trans g,c0,i,(k.bel.block b e).trans f⟩
theorem X3X {t e f:TypeId} [tm:TM P t e f] {r:Nat} {c:Array MapEntry} {a:Nat} (d:X3 w σ) (i:w.heap[r]? =some (.map c a))
 (h: ∀b w' σ',w.heap.size≤b→Stp w σ w' σ'→It σ' w' b r c a #[]→K (.pointer (some ⟨b,0,none⟩)) w'):rng P t (.map (some r)) w K:=by
 unfold rng
 have g:(getObj r).run P w= .ok (.map c a) w:=by simp[getObj,Sem.run,i]
 rw[Y0 (v:= .pointer (some ⟨w.heap.size,0,none⟩)) (w':=w.alloc (.mapIter (some r) a #[] a)) (by
  simp only[Instr.range,Sem.run_bind,run_underlying tm.h,Result.andThen_ok,g,Sem.run_pure]
  simp)]
 exact h _ _ _ (Nat.le_refl _) (Stp.own d _) ⟨d.none (Nat.le_refl _),a,Nat.le_refl _,heap_alloc_new w _⟩
theorem X3C {t:TypeId} {b r:Nat} {es:Array MapEntry} {clock:Nat} {seen:Array Nat} (hi:It σ w b r es clock seen) (hm:w.heap[r]? =some (.map es clock)) (hold: ∀x∈es.toList,x.born<clock)
 (h0:(∀e∈es.toList,e.born∈seen)→K (.tuple #[.bool false]) w)
 (h1: ∀e w',e∈es.toList→e.born∉seen→Kpt (fun k=>k=b) w w'→It σ w' b r es clock (seen.push e.born)→w'.heap[b]? =some (.mapIter (some r) clock (seen.push e.born) clock)→K (.tuple #[.bool true,e.key,e.val]) w'):W3 P (.pointer (some ⟨b,0,none⟩)) false t w K:=by
 obtain ⟨hb,c0,hc,hh⟩:=hi
 unfold W3
 rcases run_next_at (P:=P) w t b r clock c0 seen es clock hh hm hold hc with ⟨hz,hrun⟩ | ⟨e,he,w1,hw1,hrun⟩
 ·rw[Y0 hrun]
  refine h0 fun e he=>Classical.byContradiction fun hn=>?_
  have:e∈(leftOf es seen).toList:=by
   unfold leftOf
   simp only[Array.toList_filter,List.mem_filter]
   exact ⟨he,by simpa using hn⟩
  have hl:(leftOf es seen).toList.length=0:=by simpa using hz
  rw[List.eq_nil_of_length_eq_zero hl] at this
  cases this
 ·rw[Y0 hrun]
  have he':e∈es.toList∧e.born∉seen:=by
   unfold leftOf at he
   simp only[Array.toList_filter,List.mem_filter] at he
   exact ⟨he.1,by simpa using he.2⟩
  have hh1:w1.heap[b]? =some (.mapIter (some r) clock seen c0):=by rcases hw1 with rfl | rfl<;>exact hh
  obtain ⟨u1,u2⟩:=Q3C (w:=w1) (o:= .mapIter (some r) clock (seen.push e.born) clock) hh1
  refine h1 e _ he'.1 he'.2 ?_ ⟨hb,clock,Nat.le_refl _,u2⟩ u2
  have k1:Kpt (fun k=>k=b) w w1:=by
   rcases hw1 with rfl | rfl
   ·exact Kpt.refl
   ·exact .of_below (Below.refl _ _).drew
  exact k1.trans (Kpt.of_upd u1 rfl)
theorem X2E {b r:Nat} {d:Array MapEntry} {a:Nat} {c:Array Nat} {e:MapEntry} (hh:w.heap[b]? =some (.mapIter (some r) a (c.push e.born) a)) (i:w.heap[r]? =some (.map d a)) (g:e∈d.toList) (f:(d.toList.map (·.born)).Nodup)
 (h:K (.tuple #[e.key,e.val]) w):Q8o P (.pointer (some ⟨b,0,none⟩)) w K:=by
 unfold Q8o
 rw[Y0 (run_entry_at w b r a c d a e hh i g f)]
 exact h
end Go.Emb
namespace Go.Proofs.YtjdiakhipmggjaaGreatDoor
open Go.Emb Go.RowKit Go.Kd Go.Hm
variable {w : World} {K : Value → World → Prop} {σ : Q6} {v : Value} {l : List Cla}
theorem T8 (o:Option Nat):decide ((0:Int)≤L5 o)=o.isSome:=by
 cases o with
 | none=>rfl
 | some i=>simp[L5]
theorem Q41 {q:Addr} {s:X0} (b:X3 w σ) (d:Tab σ v l) (g:Z4 σ q [v]) (f:s.length≤U1) (h: ∀w' σ',Stp w σ w' σ'→K (.bool (O6 l s)) w'):Z3 P (.func (.func F.al) #[] #[.pointer (some q)]) [S s] w K:=Z6 (Sx (by
 unfold Js
 unfold O6 at h
 refine Zy ?_
 by_cases a:s=H7
 ·have e:decide (s=[110,117,108,108])=true:=decide_eq_true a
  simp only[e,decide_eq_true a,↓M2,M2,Mb,reduceIte] at h⊢
  exact h _ _ (Stp.refl b)
 ·have e:decide (s=[110,117,108,108])=false:=decide_eq_false a
  simp only[e,decide_eq_false a,↓M2,M2,Mb,reduceIte] at h⊢
  refine X7 b g rfl ?_
  refine Q0L b d f fun w1 σ1 c=>?_
  (try simp only[↓M2,M2,Mb,reduceIte])
  exact h _ _ c))
theorem Q8t {q p:Addr} {s:X0} (b:X3 w σ) (d:Tab σ v l) (f:Z4 σ q [v]) (c:Z4 σ p [.func (.func F.al) #[] #[.pointer (some q)]]) (e:s.length≤U1) (h: ∀w' σ',Stp w σ w' σ'→K (.bool (!O6 l s)) w'):Z3 P (.func (.func F.am) #[] #[.pointer (some p)]) [S s] w K:=Z6 (Sk (by
 unfold Ji
 refine X7 b c rfl ?_
 refine Q41 b d f e fun w1 σ1 a=>?_
 refine Wh ?_
 exact h _ _ a))
theorem Q6S {c:Cla} {cs:List Value} {pa E:Addr} {b e:Nat} {s:B2×B2} (M:X3 w σ) (O:V0 σ c cs) (p:Qm c) (L:Nm c) (u:Z4 σ pa [.map (some b)]) (y:Z4 σ E [.map (some e)])
 (t:σ b=none) (z:σ e=none) (r:b≠e) (o:H2 (w.heap[b]?) (vals s.1)) (i:H2 (w.heap[e]?) (vals s.2))
 (h: ∀w',Kpt (fun k=>k=b∨k=e) w w'→H2 (w'.heap[b]?) (vals (Sv s c).2.1)∧H2 (w'.heap[e]?) (vals (Sv s c).2.2)→K (.bool (Sv s c).1) w'):
 Z3 P (.func (.func F.aY) #[] #[.pointer (some pa), .pointer (some E)]) [.agg cs.toArray] w K:=Z6 (Sw (by
 obtain ⟨lv,Z,mv,rfl,g1,g2,U,g4,Y⟩:=O
 unfold Jq
 refine Z1 M fun q w1 σ1 a H=>?_
 rw[fa]
 refine ld a.sat H rfl ?_
 rw[Qe]
 have A:=o.lt
 have B:=i.lt
 have m:σ1 b=none:=(a.old b A).trans t
 have j:σ1 e=none:=(a.old e B).trans z
 refine Jb (Vi c.name) s (fun s w'=>X3 w' σ1∧H2 (w'.heap[b]?) (vals s.1)∧H2 (w'.heap[e]?) (vals s.2)) (fun k=>k=b∨k=e) (fun _ _ h=>h.1) ⟨a.sat,o.of_below a.bel,i.of_below a.bel⟩ (U.up a)
  (fun s x cs D K C f g Q J X=>Z6 ?_) fun D f g=>?_
 ·refine X3U (s:=s) (d:=c.name) g.1 Q (p.2.2.2 x C) (L.2.2 x C) (u.up a) (y.up a) H m j r g.2.1 g.2.2 fun V n R N=>?_
  exact X V (f.trans n) ⟨n.sat g.1 fun k W=>by rcases W with rfl | rfl<;>assumption,R,N⟩
 ·exact h D ((Kpt.of_below a.bel).trans f) g.2))
end Go.Proofs.YtjdiakhipmggjaaGreatDoor

namespace Go.Emb
open Go.RowKit Go.Hm
theorem Stp.nx {D:Nat→Prop} {w w1 g:World} {σ σ1 f:Q6} (a:Stp w σ w1 σ1) (c:Nxt D w1 σ1 g f) (hD: ∀k,D k→w.heap.size≤k):Stp w σ g f:=
 ⟨⟨c.kp.os.trans a.bel.os,c.kp.tape.trans a.bel.tape,c.kp.output.trans a.bel.output,Nat.le_trans a.bel.size c.kp.size,fun k d=>(c.kp.block k (Nat.lt_of_lt_of_le d a.bel.size) fun e=>by have:=hD k e;omega).trans (a.bel.block k d)⟩,
  c.sat,fun b o e=>c.le.le b o (a.le b o e),fun k d=>(c.old k (Nat.lt_of_lt_of_le d a.bel.size)).trans (a.old k d)⟩
end Go.Emb
namespace Go.Hm
open Go.Kd Go.Emb
theorem X1K {d:Array MapEntry} {m:B2} (h:d.toList.map (fun e=>(e.key,e.val))=(vals m).map (fun p=>(S p.1,p.2))):
 (∀e∈d.toList,∃k,e.key=S k∧(C5 m k).isSome=true)∧ ∀k,(C5 m k).isSome=true→ ∃e∈d.toList,e.key=S k:=by
 have b: ∀(m:B2) k,(C5 m k).isSome=true↔k∈m.map (·.1):=by
  intro m
  induction m with
  | nil=>intro k;simp[C5]
  | cons p r j=>
   intro k
   simp only[C5,List.map_cons,List.mem_cons]
   by_cases e:p.1=k
   ·simp[e]
   ·rw[if_neg e,j k]
    constructor
    ·exact .inr
    ·rintro (h | h)
     ·exact absurd h.symm e
     ·exact h
 constructor
 ·intro e g
  have a:(e.key,e.val)∈d.toList.map (fun e=>(e.key,e.val)):=List.mem_map.2 ⟨e,g,rfl⟩
  rw[h] at a
  obtain ⟨p,i,c⟩:=List.mem_map.1 a
  obtain ⟨q,f,rfl⟩:=List.mem_map.1 i
  simp only[Prod.mk.injEq] at c
  exact ⟨q.1,c.1.symm,(b m _).2 (List.mem_map.2 ⟨q,f,rfl⟩)⟩
 ·intro k n
  obtain ⟨q,f,rfl⟩:=List.mem_map.1 ((b m k).1 n)
  have a:(S q.1,S q.2)∈(vals m).map (fun p=>(S p.1,p.2)):=List.mem_map.2 ⟨(q.1,S q.2),List.mem_map.2 ⟨q,f,rfl⟩,rfl⟩
  rw[←h] at a
  obtain ⟨e,g,c⟩:=List.mem_map.1 a
  simp only[Prod.mk.injEq] at c
  exact ⟨e,g,c.1⟩
def Ec (l:List Cla) (m:Hm.Met):Bool:=(!O6 l m.result&& !decide (m.result=[]))||m.params.any fun s=> !O6 l s
end Go.Hm
namespace Go.Proofs.YtjdiakhipmggjaaGreatDoor
open Go.Emb Go.RowKit Go.Kd Go.Hm
variable {w : World} {K : Value → World → Prop} {σ : Q6} {v : Value} {l : List Cla}
set_option maxHeartbeats 1000000 in
theorem Q9M {c:Cla} {cs:List Value} (hs:X3 w σ) (ht:Tab σ v l) (ok:Ok l) (hc:V0 σ c cs) (fn:Qm c) (hn:Nm c) (h: ∀w' V,Stp w σ w' V→K (I (V8 l c)) w'):Q1 P F.b4 [v, .agg cs.toArray] w K:=Bv (by
 obtain ⟨lv,fv,mv,rfl,g1,g2,g3,g4,g5⟩:=hc
 unfold Wa
 obtain ⟨a,_,_,_,hv,_⟩:=ht.ex
 unfold V8 at h
 refine U5 hs (by rw[hv];rfl) fun q2 w1 σ1 bc u=>?_
 refine Z1 bc.sat fun q3 w2 σ2 aw A=>?_
 have d4:=bc.trans aw
 have u:=u.up aw
 have g1:=(g1.up bc).up aw
 have g2:=(g2.up bc).up aw
 have g3:=(g3.up bc).up aw
 have a8:=g2.max
 have cf:=g3.max
 rw[fa]
 refine ld aw.sat A rfl ?_
 refine Q8 g2 ?_
 refine U0 c.fields.length (fun n w'=> ∃V,Stp w σ w' V∧SLe σ2 V∧((c.fields.take n).any fun f=>(Ju l c.super f.name).isSome)=false) ⟨σ2,d4,SLe.refl _,by simp⟩ fun n w3 d a2 ag=>?_
 obtain ⟨σ3,a7,ch,E⟩:=ag
 refine Z0 ?_
 refine Q7 (fun hh=>?_) (fun hh=>?_)
 ·have g:n<c.fields.length:=by simpa using hh
  refine Q8Q (g2.lift ch) g fun p ar Z=>?_
  refine Y4 a7.sat ar rfl ?_
  refine Y9 a7.sat (by rfl) rfl (Rep.one Z) fun q4 w4 σ4 W d7=>?_
  have ab:SLe σ2 σ4:=ch.more ⟨W.le⟩
  have a0:=a7.trans W
  refine X7 W.sat (u.lift ab) rfl ?_
  rw[fa]
  refine ld W.sat (A.lift ab) rfl ?_
  rw[fa]
  refine ld W.sat d7 rfl ?_
  refine X1C W.sat (ht.lift ⟨a0.le⟩) ok.acy ok.len ok.sm fun w5 σ5 cl=>?_
  refine P6 ?_
  rw[T8]
  refine Q7 (fun ak=>?_) (fun ak=>?_)
  ·have:Yk l c=true:=S6 g ak
   rw[if_pos this] at h
   exact h _ _ (a0.trans cl)
  ·refine N3 ?_
   refine Y5 a8 g ⟨σ5,a0.trans cl,ab.more ⟨cl.le⟩,?_⟩
   rw[L3 g,E,ak];rfl
 have g: ¬n<c.fields.length:=by simpa using hh
 rw[E0 g] at E
 have d8:Yk l c=false:=E
 rw[if_neg (by rw[d8];simp)] at h
 rw[Qe]
 clear E hh g a2
 refine U7 a7.sat (by rfl) rfl rfl fun q7 w4 σ4 W az=>?_
 have ab:SLe σ2 σ4:=ch.more ⟨W.le⟩
 have a0:=a7.trans W
 have u:=u.lift ab
 have A:=A.lift ab
 have g1:=g1.lift ab
 have g2:=g2.lift ab
 have g3:=g3.lift ab
 rw[fa]
 refine ld W.sat A rfl ?_
 refine Q8 g2 ?_
 refine U0 c.fields.length (fun n w'=> ∃V,Stp w σ w' V∧SLe σ4 V∧((c.fields.take n).any fun f=> !O6 l f.kind)=false) ⟨σ4,a0,SLe.refl _,by simp⟩ fun n w5 d a2 ag=>?_
 obtain ⟨σ5,a1,av,E⟩:=ag
 refine Z0 ?_
 refine Q7 (fun hh=>?_) (fun hh=>?_)
 ·have g:n<c.fields.length:=by simpa using hh
  refine Q8Q (g2.lift av) g fun p ar Z=>?_
  refine Y4 a1.sat ar rfl ?_
  refine Y9 a1.sat (by rfl) rfl (Rep.one Z) fun q9 w6 σ6 ay eb=>?_
  have af:SLe σ4 σ6:=av.more ⟨ay.le⟩
  have Q:=a1.trans ay
  refine X7 ay.sat (az.lift af) rfl ?_
  rw[fa]
  refine ld ay.sat eb rfl ?_
  refine Q41 ay.sat (ht.lift ⟨Q.le⟩) (u.lift af) Z.2.2 fun w7 σ7 H=>?_
  refine Wh ?_
  refine Q7 (fun ak=>?_) (fun ak=>?_)
  ·have:B5 l c=true:=by
    unfold B5
    rw[S6 (p:=fun f:Fld=> !O6 l f.kind) g ak];rfl
   rw[if_pos this] at h
   exact h _ _ (Q.trans H)
  ·refine N3 ?_
   refine Y5 a8 g ⟨σ7,Q.trans H,af.more ⟨H.le⟩,?_⟩
   rw[L3 g,E,ak];rfl
 have g: ¬n<c.fields.length:=by simpa using hh
 rw[E0 g] at E
 have d2:=E
 clear E hh g a2
 have u:=u.lift av
 have A:=A.lift av
 have az:=az.lift av
 have g3:=g3.lift av
 rw[fa]
 refine ld a1.sat A rfl ?_
 refine Q8 g3 ?_
 refine U0 c.methods.length (fun n w'=> ∃V,Stp w σ w' V∧SLe σ5 V∧((c.methods.take n).any (Ec l))=false) ⟨σ5,a1,SLe.refl _,by simp⟩ fun n w6 d a2 ag=>?_
 obtain ⟨σ6,Q,af,E⟩:=ag
 refine Z0 ?_
 refine Q7 (fun hh=>?_) (fun hh=>?_)
 ·have g:n<c.methods.length:=by simpa using hh
  refine M9 (g3.lift af) g fun p cells ar dj Z=>?_
  refine Y4 Q.sat ar dj ?_
  refine Y9 Q.sat (by rfl) dj (Rep.one Z) fun fs w7 σ7 H X=>?_
  obtain ⟨pv,cv,fx,rfl,m1,m2,m3,m4,m5,m6⟩:=Z
  have ca:SLe σ5 σ7:=af.more ⟨H.le⟩
  have c8:=Q.trans H
  have D:Ec l c.methods[n]=true→ ∀{w8:World} {σ8:Q6},Stp w σ w8 σ8→K (.int .i64 65) w8:=fun hb w8 σ8 q=>by
   have:B5 l c=true:=by
    unfold B5
    have:=S6 (p:=Ec l) g hb
    unfold Ec at this
    rw[this,Bool.or_true]
   rw[if_pos this] at h
   exact h _ _ q
  have z:Ec l c.methods[n]=false→ ∀{w8:World} {σ8:Q6},Stp w σ w8 σ8→SLe σ5 σ8→UpI c.methods.length (fun n w'=> ∃V,Stp w σ w' V∧SLe σ5 V∧((c.methods.take n).any (Ec l))=false) (.int .i64 (IntKind.i64.wrap (n+1))) w8∧UpM c.methods.length (.int .i64 (IntKind.i64.wrap (n+1)))<UpM c.methods.length (I n):=fun hb w8 σ8 q aa=>
   Y5 cf g ⟨σ8,q,aa,by rw[L3 g,E,hb];rfl⟩
  unfold Ec at D z
  refine X7 H.sat (az.lift ca) rfl ?_
  rw[fa]
  refine ld H.sat X rfl ?_
  refine Q41 H.sat (ht.lift ⟨c8.le⟩) (u.lift ca) m5 fun w8 σ8 M=>?_
  have q:=c8.trans M
  have aa:SLe σ5 σ8:=ca.more ⟨M.le⟩
  have X:=X.up M
  have m1:=(m1.up H).up M
  -- what the parameters come to
  have bv: ∀{w8:World} {σ8:Q6} {K:Value→World→Prop},Stp w σ w8 σ8→SLe σ5 σ8→Sl 1 U8 σ8 pv c.methods[n].params→(∀w' V,Stp w8 σ8 w' V→K (.bool (c.methods[n].params.any fun s=> !O6 l s)) w')→Q1 P F.c [pv, .func (.func F.am) #[] #[.pointer (some q7)]] w8 K:=by
   intro w8 σ8 K q aa m1 hK
   refine P3 (fun s=> !O6 l s) q.sat m1 (fun x w9 K _ d3 hx ej=>Q8t d3 (ht.lift ⟨q.le⟩) (u.lift aa) (az.lift aa) hx fun w' V hk=>ej w' hk.bel) fun w9 hb=>hK w9 σ8 (Stp.of_below q.sat hb)
  cases e1:O6 l c.methods[n].result with
  | true=>
   rw[e1] at D z
   simp only[↓M2,M2,Mb,reduceIte]
   refine ld M.sat X rfl ?_
   (try simp only[↓M2,M2,Mb,reduceIte])
   refine bv q aa m1 fun w9 σ9 J=>?_
   cases e2:c.methods[n].params.any fun s=> !O6 l s with
   | true=>
    rw[e2] at D
    simp only[↓M2,M2,Mb,reduceIte]
    exact D rfl (q.trans J)
   | false=>
    rw[e2] at z
    simp only[↓M2,M2,Mb,reduceIte]
    exact z rfl (q.trans J) (aa.more ⟨J.le⟩)
  | false=>
   rw[e1] at D z
   simp only[↓M2,M2,Mb,reduceIte]
   refine ld M.sat X rfl ?_
   simp only[↓M2,M2,Mb,reduceIte]
   by_cases e3:c.methods[n].result=[]
   ·rw[decide_eq_true e3] at D z
    simp only[decide_eq_true e3,↓M2,M2,Mb,reduceIte]
    refine ld M.sat X rfl ?_
    (try simp only[↓M2,M2,Mb,reduceIte])
    refine bv q aa m1 fun w9 σ9 J=>?_
    cases e2:c.methods[n].params.any fun s=> !O6 l s with
    | true=>
     rw[e2] at D
     simp only[↓M2,M2,Mb,reduceIte]
     exact D rfl (q.trans J)
    | false=>
     rw[e2] at z
     simp only[↓M2,M2,Mb,reduceIte]
     exact z rfl (q.trans J) (aa.more ⟨J.le⟩)
   ·rw[decide_eq_false e3] at D
    simp only[decide_eq_false e3,↓M2,M2,Mb,reduceIte]
    exact D rfl q
 have g: ¬n<c.methods.length:=by simpa using hh
 rw[E0 g] at E
 have cc:B5 l c=false:=by
  unfold B5
  unfold Ec at E
  rw[d2,E];rfl
 rw[if_neg (by rw[cc];simp)] at h
 clear E hh g a2
 have u:=u.lift af
 have A:=A.lift af
 refine Q3l Q.sat fun r1 w7 Z H t=>?_
 refine Q3l H.sat fun N w8 ee M y=>?_
 have ar:=t.lt
 have t:=t.up M
 have eg:r1≠N:=by omega
 have q:=(Q.trans H).trans M
 have ew:w.heap.size≤r1:=Nat.le_trans Q.bel.size Z
 have ey:w.heap.size≤N:=N0 ee (Q.trans H)
 refine M8 M.sat fun b1 w9 σ9 ed J B=>?_
 refine M8 J.sat fun b2 d9 fm d1 ai C=>?_
 have e6:=B.lt
 have er:=t.lt
 have eu:=y.lt
 have t:=(t.up J).up ai
 have y:=(y.up J).up ai
 have B:=B.up ai
 have c4:=(q.trans J).trans ai
 have bs:w.heap.size≤b1:=N0 ed q
 have bw:w.heap.size≤b2:=N0 d1 (q.trans J)
 refine st0 B (by simp[Value.cells]) rfl rfl fun c3 ce B=>?_
 have de:=ce.stp c4 bs B.1
 have C:=C.upd ce (by omega)
 have dn:Kpt (fun k=>k=b1) d9 c3:=Kpt.of_upd ce rfl
 have t:=t.kp dn (by omega)
 have y:=y.kp dn (by omega)
 refine st0 C (by simp[Value.cells]) rfl rfl fun aq b4 C=>?_
 have c6:=b4.stp de bw C.1
 have B:=B.upd b4 (by omega)
 have cq:Kpt (fun k=>k=b2) c3 aq:=Kpt.of_upd b4 rfl
 have t:=t.kp cq (by omega)
 have y:=y.kp cq (by omega)
 obtain ⟨cg,c9,ba,cx,al⟩:=B.keep c6 bs
 have C:Y2 cg aq b2 _:=⟨(al b2 (by omega)).trans C.1,C.2⟩
 have t:C3 cg aq r1 []:=⟨(al r1 (by omega)).trans t.1,t.2⟩
 have y:C3 cg aq N []:=⟨(al N (by omega)).trans y.1,y.2⟩
 obtain ⟨a6,ah,bh,bx,be⟩:=C.keep c9 bw
 have t:C3 a6 aq r1 []:=⟨(be r1 (by omega)).trans t.1,t.2⟩
 have y:C3 a6 aq N []:=⟨(be N (by omega)).trans y.1,y.2⟩
 have ba:=ba.le bx
 have ba:Z4 a6 ⟨b1,0,none⟩ [.map (some r1)]:=ba
 have bh:Z4 a6 ⟨b2,0,none⟩ [.map (some N)]:=bh
 have c7:SLe σ6 a6:=⟨fun b o e=>bx b o (cx b o (ai.le b o (J.le b o (M.le b o (H.le b o e)))))⟩
 clear B C
 have u:=u.lift c7
 have A:=A.lift c7
 refine X7 ah.sat u rfl ?_
 rw[fa]
 refine ld ah.sat A rfl ?_
 rw[Qe]
 refine Q77 Sv ([],[]) (fun s w'=>H2 (w'.heap[r1]?) (vals s.1)∧H2 (w'.heap[N]?) (vals s.2)) (fun k=>k=r1∨k=N) ah.sat (ht.lift ⟨ah.le⟩) ok.len ok.sm g4
  (fun k hk=>by rcases hk with rfl | rfl;exact ⟨t.lt,t.1⟩;exact ⟨y.lt,y.1⟩) (fun s wa wb hi hk=>by rw[hk r1 (.inl rfl),hk N (.inr rfl)];exact hi) ⟨t.2,y.2⟩
  (fun s d ds wa σa K le eh dc hi hr d5 hK=>?_) fun fh ci ae bq=>?_
 ·have da:=(V3 d5).2.1
  exact Q6S eh hr (ok.sm d da) (ok.nm d da) (ba.lift le) (bh.lift le) (dc r1 (.inl rfl)) (dc N (.inr rfl)) eg hi.1 hi.2 hK
 have O:=ah.nx ae fun k hk=>by rcases hk with rfl | rfl<;>assumption
 obtain ⟨ct,cy⟩:=Q2L (Mf l c.name) [] ([],[]) 0 X2O
 rw[List.nil_append,←Q8b] at ct cy
 cases dh:(J4 Sv ([],[]) (Mf l c.name) 0).1.isSome with
 | true=>
  have:Zm l c=true:=(Q4n _).2 (ct dh)
  rw[if_pos this] at h
  refine J5 ?_
  exact h _ _ O
 | false=>
  have bo:=cy dh
  have:Zm l c=false:=by
   cases e:Zm l c with
   | false=>rfl
   | true=>exact absurd ((Q4n _).1 e) bo.no
  rw[if_neg (by rw[this];simp)] at h
  refine Z7 ?_
  have u:=u.lift ae.le
  have A:=A.lift ae.le
  rw[fa]
  refine ld O.sat A rfl ?_
  unfold Dl at h
  cases cr:c.abs with
  | true=>
   rw[cr] at h
   refine J5 ?_
   exact h _ _ O
  | false=>
   rw[cr] at h
   simp only[Bool.not_false,Bool.true_and] at h
   refine Z7 ?_
   refine X7 O.sat (bh.lift ae.le) rfl ?_
   generalize fq:(J4 Sv ([],[]) (Mf l c.name) 0).2=st at bo bq
   obtain ⟨es,am,e1,e2,e3,e4⟩:=bq.2
   have cw:ci N=none:=(ae.old N y.lt).trans y.1
   obtain ⟨cu,c5⟩:=X1K e2
   refine X3X (tm:=inferInstance) O.sat e1 fun ib e9 d0 ec ap ei=>?_
   have bp:=(Array.getElem?_eq_some_iff.1 e1).1
   refine Ky (fun d _ w'=> ∃(V:Q6) (R:Array Nat),d=es.toList.countP (fun e=> !R.contains e.born)∧Stp w σ w' V∧SLe ci V∧V N=none∧w'.heap[N]? =some (.map es am)∧It V w' ib N es am R∧ ∀e∈es.toList,e.born∈R→ ∀k,e.key=S k→Ze l c.name k=false) _
    ⟨d0, #[],rfl,O.trans ap,⟨ap.le⟩,(ap.old N bp).trans cw,(ap.bel.block N bp).trans e1,ei,by simp⟩ ?_
   rintro ck d x dd fz ⟨dp,R,rfl,b0,ao,c0,a9,a5,bd⟩ dw
   have dl:w.heap.size≤ib:=Nat.le_trans O.bel.size ec
   refine X3C a5 a9 e4 (fun di=>?_) fun e c1 bl ax bz cb dg=>?_
   ·refine J6 (vs:=[_]) rfl ?_
    refine Z7 ?_
    have:((Lb l c.name).any fun m=>Ze l c.name m.name)=false:=by
     rw[List.any_eq_false]
     intro m hm
     obtain ⟨e,he,bn⟩:=c5 m.name ((bo.c m.name).2 ⟨m,hm,rfl⟩)
     rw[bd e he (di e he) _ bn];simp
    rw[this] at h
    exact h _ _ b0
   ·refine J6 (vs:=[_,_,_]) rfl ?_
    refine J5 ?_
    have an:c1.heap[N]? =some (.map es am):=by
     rw[bz.block N (Array.getElem?_eq_some_iff.1 a9).1 (by omega)];exact a9
    have b9:=a5.1
    have aj:Stp w σ c1 dp:=b0.kp bz fun k hk=>by rw[hk];exact ⟨dl,b9⟩
    refine X2E dg an bl (e3.imp fun cj=>Nat.ne_of_lt cj) ?_
    refine J6 (vs:=[_,_]) rfl ?_
    obtain ⟨k,bn,ek⟩:=cu e bl
    have ep:SLe ci dp:=ao
    refine X7 aj.sat (u.lift ao) rfl ?_
    rw[fa]
    refine ld aj.sat (A.lift ao) rfl ?_
    rw[bn]
    refine X0l aj.sat (ht.lift ⟨aj.le⟩) ok fun pv cv hv fi fk L df=>?_
    refine J6 (vs:=[_,_,_]) rfl ?_
    refine J6 (vs:=[_,_,_]) rfl ?_
    refine J6 (vs:=[_,_,_]) rfl ?_
    refine Y9 L.sat (by rfl) rfl (Rep.one df) fun ff dz dy Y br=>?_
    have a3:=(aj.trans L).trans Y
    have U:Ze l c.name k=true→ ∀{w8:World} {σ8:Q6},Stp w σ w8 σ8→K (.int .i64 67) w8:=fun hb w8 σ8 q=>by
     obtain ⟨m,hm,cc⟩:=(bo.c k).1 ek
     have:((Lb l c.name).any fun m=>Ze l c.name m.name)=true:=List.any_eq_true.2 ⟨m,hm,by rw[cc];exact hb⟩
     rw[this] at h
     exact h _ _ q
    have b6:Ze l c.name k=false→ck () dz:=fun hb=>by
     have dm: ∀e':MapEntry,e'.born∈R.push e.born↔e'.born∈R∨e'.born=e.born:=fun e'=>by simp
     refine dw _ _ _ ?_ ⟨dy,R.push e.born,rfl,a3,ao.more ⟨fun b o h=>Y.le _ _ (L.le _ _ h)⟩,?_,?_,(cb.step L).step Y,fun e' c2 ef k' b7=>?_⟩
     ·refine Q43 (fun x _ hx=>?_) ⟨e,bl,?_,?_⟩
      ·simp only[Bool.not_eq_true',Array.contains_push,Bool.or_eq_false_iff] at hx⊢
       exact hx.1
      ·simpa using ax
      ·simp
     ·have a4:=(Array.getElem?_eq_some_iff.1 an).1
      rw[Y.old N (Nat.lt_of_lt_of_le a4 L.bel.size),L.old N a4];exact c0
     ·have a4:=(Array.getElem?_eq_some_iff.1 an).1
      rw[Y.bel.block N (Nat.lt_of_lt_of_le a4 L.bel.size),L.bel.block N a4];exact an
     ·rcases (dm e').1 ef with h1 | h1
      ·exact bd e' c2 h1 k' b7
      ·have:e'=e:=by
        have dx:(es.toList.map (·.born)).Nodup:=e3.imp fun cj=>Nat.ne_of_lt cj
        obtain ⟨i,hi,rfl⟩:=List.getElem_of_mem c2
        obtain ⟨j,hj,rfl⟩:=List.getElem_of_mem bl
        have h5:(es.toList.map (·.born))[i]'(by simpa using hi)=(es.toList.map (·.born))[j]'(by simpa using hj):=by simpa using h1
        have:=(List.getElem_inj dx).1 h5
        subst this;rfl
       subst this
       rw[bn] at b7
       have:k=k':=by
        have:=b7
        simp at this
        exact this
       rw[←this];exact hb
    unfold Ze at U b6
    cases db:V2 l c.name k with
    | none=>
     rw[db] at U
     simp only[↓M2,M2,Mb,reduceIte,Option.isSome_none]
     exact U rfl a3
    | some r=>
     rw[db] at U b6 br
     simp only[↓M2,M2,Mb,reduceIte,Option.isSome_some]
     refine ld Y.sat br rfl ?_
     (try simp only[↓M2,M2,Mb,reduceIte])
     cases bk:r.2.abs with
     | true=>
      exact Q7 (fun _=>U bk a3) (fun e=>absurd (bk.symm.trans e) (by simp))
     | false=>
      exact Q7 (fun e=>absurd (bk.symm.trans e) (by simp)) (fun _=>b6 bk))
end Go.Proofs.YtjdiakhipmggjaaGreatDoor

namespace Go.Emb
open Go.RowKit Go.Hm
variable {P : Program} {w w0 w1 w' w'' : World} {K : Value → World → Prop} {σ σ0 σ1 σ' : Q6}
theorem X3D {t e:TypeId} {n a:Nat} {z:Value} [ta:TA P t n e] [tz:TZ P e 1 a z] [tg:TG P e false] {cs:List Value} {i:Nat} {v:Value} (d:i<n) (b:cs[i]? =some v) (h:K v w):C2 P t (.agg cs.toArray) (I i) w K:=by
 unfold C2
 have c:(0:Int)≤i∧(i:Int)<n:=⟨by omega,by omega⟩
 rw[Y0 (v:=v) (w':=w) (by
  simp only[Instr.index,asIntOf,Sem.run_bind,Sem.run_pure,Result.andThen_ok,run_underlying ta.h,c,and_self,if_true,W5 tz,part,Xs tg]
  simp[b])]
 exact h
theorem Q8H {α:Type} {R:Q6→α→List Value→Prop} {B sz:Nat} {e:TypeId} {v:Value} {xs:List α} {a t:TypeId} {cs:List Bool} [ts:TS P a e] (h:V5 B e sz R σ w v xs) (b:K (I xs.length) w):X2 P .len [a] t cs [v] w K:=Q1G (J7.of_acc h) b
theorem Uo {α:Type} {R:Q6→α→List Value→Prop} {B sz:Nat} {e:TypeId} {v:Value} {xs:List α} (h:V5 B e sz R σ w v xs):v.cells= #[v]∧v.oneCell'=true:=by
 obtain ⟨cells,b,_⟩:=h
 rcases b.2 with ⟨rfl,_⟩ | ⟨g,a,c,rfl,_⟩<;>exact ⟨rfl,rfl⟩
end Go.Emb
namespace Go.Proofs.YtjdiakhipmggjaaGreatDoor
open Go.Emb Go.RowKit Go.Kd Go.Hm
variable {w : World} {K : Value → World → Prop} {σ : Q6} {v : Value} {l : List Cla}
theorem X1T (A:X3 w σ) (B:Glb σ) (h: ∀u w' σ',Stp w σ w' σ'→V5 w.heap.size T.b 8 V0 σ' w' u G9→K u w'):Q1 P F.cF [] w K:=Q6f (by
 unfold Q0h
 refine V6 (cells:= #[S J9,S [], .slice none 0 0, .bool false, .bool false, .bool false, .slice none 0 0, .slice none 0 0]) (by kernel_rfl) ?_
 refine V6 (cells:= #[S Ql,S O9, .bool false]) (by kernel_rfl) ?_
 refine T1 (R:=R7) (sz:=3) A [.agg #[S Ql,S O9, .bool false]] [⟨Ql,O9,false⟩] rfl rfl (by simp;rfl) rfl ⟨⟨rfl,by decide,by decide⟩,trivial⟩ fun M w1 σ1 c m=>?_
 have o:=m
 obtain ⟨y,b,rfl,_⟩:=o
 refine V6 (cells:= #[S L6,S J9, .slice none 0 0, .bool false, .bool false, .bool false, .slice y 1 b, .slice none 0 0]) (by kernel_rfl) ?_
 refine Zc (R:=V0) (sz:=8) c [.agg #[S J9,S [], .slice none 0 0, .bool false, .bool false, .bool false, .slice none 0 0, .slice none 0 0], .agg #[S L6,S J9, .slice none 0 0, .bool false, .bool false, .bool false, .slice y 1 b, .slice none 0 0]]
  [⟨J9,[],[],false,false,false,[],[]⟩,⟨L6,J9,[],false,false,false,[⟨Ql,O9,false⟩],[]⟩] rfl rfl (by simp;exact ⟨rfl,rfl⟩) rfl
  ⟨⟨_,_,_,rfl,Sl.nil,Sl.nil,Sl.nil,by decide,by decide⟩,⟨_,_,_,rfl,Sl.nil,m,Sl.nil,by decide,by decide⟩,trivial⟩ fun L J k i _=>?_
 have t:=B.lift ⟨c.le⟩
 refine Y4 (cs:=U4.map S) k.sat t.flt rfl ?_
 refine E4 6 (fun n a w'=> ∃σ',Stp w σ w' σ'∧V5 w.heap.size T.b 8 V0 σ' w' a ([⟨J9,[],[],false,false,false,[],[]⟩,⟨L6,J9,[],false,false,false,[⟨Ql,O9,false⟩],[]⟩]++(U4.take n).map fun n=>⟨n,L6,[],false,false,true,[],[]⟩)) ⟨σ1,c.trans k,i⟩ fun n a N d E j=>?_
 obtain ⟨H,g,e⟩:=j
 have D:U4.length=6:=rfl
 refine Z0 ?_
 refine Q7 (fun hh=>?_) (fun hh=>?_)
 ·have f:n<6:=by have:=of_decide_eq_true hh;omega
  refine X3D (v:=S (U4[n]'(by omega))) f (by rw[List.getElem?_map,List.getElem?_eq_getElem (by omega)];rfl) ?_
  refine V6 (cells:= #[S (U4[n]'(by omega)),S L6, .slice none 0 0, .bool false, .bool false, .bool true, .slice none 0 0, .slice none 0 0]) (by kernel_rfl) ?_
  have p:(U4[n]'(by omega)).length≤10:=by
   have: ∀x∈U4,x.length≤10:=by decide
   exact this _ (List.getElem_mem _)
  refine Jl (x:=⟨U4[n]'(by omega),L6,[],false,false,true,[],[]⟩) g e ⟨_,_,_,rfl,Sl.nil,Sl.nil,Sl.nil,Nat.le_trans p (by decide),(by decide:L6.length≤U1)⟩ rfl rfl rfl (by simp;omega) (by simp;omega) fun s u O z C r q _=>?_
  refine N3 ?_
  refine J3 (by omega) f ⟨z,r,?_⟩
  rw[List.take_add_one,List.getElem?_eq_getElem (by omega),List.map_append,←List.append_assoc]
  exact q
 ·have f: ¬n<6:=by have:=of_decide_eq_false hh;omega
  rw[List.take_of_length_le (by omega)] at e
  exact h _ _ _ g e)
end Go.Proofs.YtjdiakhipmggjaaGreatDoor

namespace Go.Hm
open Go.Kd
def O8 {α:Type} (f:α→Int):List α→Nat→Option (Nat×Int)
 | [],_=>none
 | x::r,i=>if f x=0 then O8 f r (i+1) else some (i,f x)
theorem P8 {α:Type} {f:α→Int}: ∀{l:List α} {i:Nat},O8 f l i=none→ ∀x∈l,f x=0
 | [],_,_=>by simp
 | x::r,i,h=>by
  simp only[O8] at h
  split at h
  ·rename_i a
   intro y hy
   rcases List.mem_cons.1 hy with rfl | hy
   ·exact a
   ·exact P8 h y hy
  ·cases h
def Sn (a:List Cla):Option Nat:=(List.range a.length).find? fun i=>(Z2 (a.take i) (Y3 a i)).isSome
def Q4 (l:List Cla):List Cla:=G9++l
def St (a:Cla→Int) (l:List Cla):Option (Int×Int):=match O8 a l 0 with
 | some (i,e)=>some (i,e)
 | none=>match Sn (Q4 l) with
  | some i=>some ((i:Int)-8,60)
  | none=>match O8 (fun c=>(D0 (Q4 l) c:Int)) l 0 with
   | some (i,e)=>some (i,e)
   | none=>match l.findIdx? (P9 (Q4 l)) with
    | some i=>some (i,63)
    | none=>match (V9 (Q4 l) 8).find? fun j=> !decide (V8 (Q4 l) ((Q4 l).getD j Cla.zero)=0) with
     | some j=>some ((j:Int)-8,V8 (Q4 l) ((Q4 l).getD j Cla.zero))
     | none=>none
theorem Q5r {s:X0} (h:name s=true):s.length≤32:=by
 cases s with
 | nil=>simp
 | cons c r=>simp only[name,Bool.and_eq_true,decide_eq_true_eq] at h;exact h.1.1
theorem X0m {s:X0} (h:M6 s=true):s.length≤32:=Q5r (Mi (by rw[h,Bool.or_true]))
theorem Q8r {s:X0} (h:D6 s=true):s.length≤32:=by
 cases s with
 | nil=>simp
 | cons c r=>simp only[D6,Bool.and_eq_true] at h;exact Q5r h.1
theorem Ku {a:List Cla} (h:Sn a=none):T6 a:=by
 unfold Sn at h
 rw[List.find?_eq_none] at h
 unfold T6
 rw[List.nodup_iff_pairwise_ne,List.pairwise_iff_getElem]
 intro i j d b g e
 simp only[List.length_map] at d b
 have:=h j (by simp;exact b)
 apply this
 simp only[List.getElem_map] at e
 cases f:Z2 (a.take j) (Y3 a j) with
 | some _=>rfl
 | none=>
  have c:=List.findIdx?_eq_none_iff.1 f a[i] (List.mem_take_iff_getElem.2 ⟨i,by omega,rfl⟩)
  have k:Y3 a j=a[j].name:=by unfold Y3;rw[List.getD_eq_getElem?_getD,List.getElem?_eq_getElem b];rfl
  rw[k] at c
  simp[e] at c
theorem Ua: ∀c∈G9,Qm c∧Nm c∧c.like=[]:=by
 have h: ∀c∈G9,(c.like=[]∧c.methods=[]∧c.fields.length≤1∧c.name.length≤100∧ ∀f∈c.fields,f.name.length≤100∧f.kind.length≤100):=by decide
 intro c g
 obtain ⟨b,a,i,d,e⟩:=h c g
 refine ⟨⟨by rw[b];simp,by omega,by rw[a];simp,by rw[a];simp⟩,⟨d,e,by rw[a];simp⟩,b⟩
theorem X0F: ∀c∈G9,(c.name=J9∧U3 c=[[]])∨(c.name=L6∧U3 c=[J9])∨(c.name∈U4∧U3 c=[L6]):=by decide
theorem Q5f {l:List Cla} (p:T6 (Q4 l)) (s: ∀c∈l,c.name≠[]) (t: ∀c∈l,P9 (Q4 l) c=false):Jd (Q4 l):=by
 have k:lk (Q4 l) []=none:=by
  cases h:lk (Q4 l) [] with
  | none=>rfl
  | some c=>
   obtain ⟨e,hm,_⟩:=V3 h
   rcases List.mem_append.1 hm with hm | hm
   ·have: ∀c∈G9,c.name≠[]:=by decide
    exact absurd e (this c hm)
   ·exact absurd e (s c hm)
 have j:lk (Q4 l) J9=some ⟨J9,[],[],false,false,false,[],[]⟩:=p.lk (c:=⟨J9,[],[],false,false,false,[],[]⟩) (List.mem_append_left _ (by decide))
 have g:lk (Q4 l) L6=some ⟨L6,J9,[],false,false,false,[⟨Ql,O9,false⟩],[]⟩:=p.lk (c:=⟨L6,J9,[],false,false,false,[⟨Ql,O9,false⟩],[]⟩) (List.mem_append_left _ (by decide))
 have q: ∀b,¬Reach (lk (Q4 l)) [] b:=fun b h=>by obtain ⟨c,d⟩:=h.left;rw[k] at d;cases d
 have o: ∀b,Reach (lk (Q4 l)) J9 b→b=J9:=by
  intro b h
  cases h with
  | refl=>rfl
  | step d f i=>
   rw[j] at d;cases d
   simp[U3] at f;subst f
   exact absurd i (q b)
 have z: ∀b,Reach (lk (Q4 l)) L6 b→b=L6∨b=J9:=by
  intro b h
  cases h with
  | refl=>exact .inl rfl
  | step d f i=>
   rw[g] at d;cases d
   simp[U3] at f;subst f
   exact .inr (o b i)
 rintro a ⟨c,d,u,f,i⟩
 obtain ⟨e,hm,_⟩:=V3 d
 rcases List.mem_append.1 hm with hm | hm
 ·rcases X0F c hm with ⟨m,n⟩ | ⟨m,n⟩ | ⟨m,n⟩<;>rw[n] at f<;>simp at f<;>subst f
  ·exact q _ i
  ·have:=o _ i
   rw[←e,m] at this
   exact absurd this (by decide)
  ·have y: ∀x∈U4,x≠L6∧x≠J9:=by decide
   obtain ⟨r,v⟩:=y _ m
   rw[←e] at i
   rcases z _ i with h | h
   ·exact r h
   ·exact v h
 ·have:=t c hm
  unfold P9 at this
  have w:=List.any_eq_false.1 this u f
  apply w
  rw[List.contains_iff_mem,Uq,e];exact i
end Go.Hm
namespace Go.Proofs.YtjdiakhipmggjaaGreatDoor
open Go.Emb Go.RowKit Go.Kd Go.Hm
theorem Gy {s:X0} (h:right s=true):s.length≤38:=by
 simp only[right,Bool.and_eq_true,decide_eq_true_eq] at h
 have e:=Q1D s
 have:(base s).1.length≤32:=by
  have d:=h.2
  have b:=Mi d
  cases a:(base s).1 with
  | nil=>simp
  | cons c r=>
   rw[a] at b
   simp only[name,Bool.and_eq_true,decide_eq_true_eq] at b
   exact b.1.1
 omega
theorem Fh {c:Cla} (h:D2 c=0):Qm c∧Nm c∧c.name≠[]:=by
 unfold D2 at h
 split at h
 ·cases h
 ·rename_i b
  split at h
  ·rename_i i
   simp only[Zp,Bool.or_eq_true,decide_eq_true_eq,not_or,List.any_eq_true,not_exists,not_and] at b
   obtain ⟨⟨⟨r,v⟩,w⟩,s⟩:=b
   simp only[Nw,Bool.and_eq_true] at i
   obtain ⟨⟨⟨⟨⟨⟨⟨⟨n,A⟩,t⟩,u⟩,z⟩,B⟩,y⟩,o⟩,q⟩:=i
   have a:M6 c.name=true:=List.all_eq_true.1 n c.name (by simp)
   have d: ∀m∈c.methods,m.params.length≤32∧m.catches.length≤32∧m.code.length≤200:=fun m b=>by
    have:=r m b
    simp only[Wi,Bool.or_eq_true,decide_eq_true_eq,not_or] at this
    omega
   refine ⟨⟨by omega,by omega,by omega,fun m b=>by have:=d m b;unfold SmM;omega⟩,⟨by have:=X0m a;omega,fun f l=>?_,fun m b=>?_⟩,fun e=>by rw[e] at a;simp[M6] at a⟩
   ·have:=List.all_eq_true.1 o f l
    simp only[Dy,Bool.and_eq_true] at this
    have j:=Q8r this.1
    have g:=Gy this.2
    omega
   ·have:=List.all_eq_true.1 q m b
    simp only[I5,Bool.and_eq_true,Bool.or_eq_true,decide_eq_true_eq,List.all_eq_true] at this
    obtain ⟨⟨⟨_,j⟩,g⟩,_⟩:=this
    refine ⟨?_,fun p k=>by have:=Gy (j p k);omega⟩
    rcases g with e | e
    ·rw[e];simp
    ·have:=Gy e;omega
  ·cases h
end Go.Proofs.YtjdiakhipmggjaaGreatDoor

namespace Go.Hm
open Go.Kd
theorem Wm {α:Type} {f:α→Int} {xs:List α} {n:Nat} (h:n<xs.length) (a:O8 f xs 0=O8 f (xs.drop n) n):O8 f xs 0=if f xs[n]=0 then O8 f (xs.drop (n+1)) (n+1) else some (n,f xs[n]):=by
 rw[a,List.drop_eq_getElem_cons h];rfl
theorem Q7J {a:List Cla} {n:Nat} (h:n<a.length) (k:X0):Z2 (a.take (n+1)) k=match Z2 (a.take n) k with
 | some i=>some i
 | none=>if a[n].name=k then some n else none:=by
 unfold Z2
 rw[List.take_add_one,List.getElem?_eq_getElem h]
 simp only[Option.toList_some,List.findIdx?_append]
 cases (a.take n).findIdx? fun c=>decide (c.name=k) with
 | some i=>rfl
 | none=>
  simp only[Option.none_or,List.findIdx?_cons,List.findIdx?_nil,List.length_take]
  by_cases e:a[n].name=k
  ·simp[e];omega
  ·simp[e]
end Go.Hm
namespace Go.Proofs.YtjdiakhipmggjaaGreatDoor
open Go.Emb Go.RowKit Go.Kd Go.Hm
variable {w : World} {K : Value → World → Prop} {σ : Q6} {v : Value} {l : List Cla}
theorem Po {a:List Cla} {n:Nat} (h:n<a.length):Y3 a n=a[n].name:=by unfold Y3;rw[List.getD_eq_getElem?_getD,List.getElem?_eq_getElem h];rfl
set_option maxHeartbeats 1000000 in
theorem X3M {lv:Value} (hs:X3 w σ) (hg:Glb σ) (hl:Sl 8 V0 σ lv l) (hlen:l.length≤1000) (hsm: ∀c∈l,Qm c)
 (h1: ∀i e w' σ',St D2 l=some (i,e)→Stp w σ w' σ'→K (.tuple #[.pointer none,I i,I e]) w')
 (h0: ∀v w' σ',St D2 l=none→Stp w σ w' σ'→Tab σ' v (Q4 l)→Ok (Q4 l)→T6 (Q4 l)→K (.tuple #[v,I 0,I 0]) w'):Q1 P F.cN [lv] w K:=Q8s (by
 unfold Q2X
 have hgl:G9.length=8:=rfl
 have hal:(Q4 l).length=8+l.length:=by simp[Q4,hgl]
 refine X1T hs hg fun x0 w1 σ1 hk1 ha1=>?_
 refine Q3l hk1.sat fun r w2 hr hk2 hm2=>?_
 have ha2:=ha1.up hk2
 have hx0:x0.cells= #[x0]∧x0.oneCell'=true:=Uo ha1
 have hx0s: ∃a n c,x0= .slice a n c:=by
  obtain ⟨cells,q1,_⟩:=ha1
  rcases q1.2 with ⟨rfl,_⟩ | ⟨g,cap,cur,rfl,_⟩<;>exact ⟨_,_,_,rfl⟩
 have hx0r:x0.ownBlock≠some r:=fun e=>by have:=(ha1.mem r e).2.1;omega
 obtain ⟨a0,n0,c0,hx0e⟩:=hx0s
 rw[hx0e]
 refine V6 (cells:= #[.slice a0 n0 c0, .map (some r)]) (by kernel_rfl) ?_
 rw[←hx0e]
 refine Dx (cs:=[x0, .map (some r)]) hk2.sat fun bt w3 σ3 hbt hk3 hbm=>?_
 have hS3:=(hk1.trans hk2).trans hk3
 have ha3:=ha2.up hk3
 have hm3:=hm2.up hk3
 have hrw:w.heap.size≤r:=Nat.le_trans hk1.bel.size hr
 have hrl:r<w2.heap.size:=hm2.lt
 have hbtw:w.heap.size≤bt:=N0 hbt (hk1.trans hk2)
 have hrbt:r≠bt:=by omega
 have hx0b:x0.ownBlock≠some bt:=fun e=>by have:=(ha2.mem bt e).2.1;omega
 rw[L7,fa]
 refine Yc hbm rfl ?_
 refine Q8H ha3 ?_
 rw[hgl]
 have hl3:=hl.up hS3
 refine Q8 hl3 ?_
 -- classes, each by itself
 refine U0 l.length (fun n w'=> ∃σ' x,Stp w σ w' σ'∧SLe σ3 σ'∧Y2 σ' w' bt [x, .map (some r)]∧V5 w.heap.size T.b 8 V0 σ' w' x (G9++l.take n)∧C3 σ' w' r []∧x.ownBlock≠some bt∧x.ownBlock≠some r∧O8 D2 l 0=O8 D2 (l.drop n) n)
  ⟨σ3,x0,hS3,SLe.refl _,hbm,by simpa using ha3,hm3,hx0b,hx0r,rfl⟩ fun n w4 d hn hinv=>?_
 obtain ⟨σ4,x,hS4,le4,hb4,ha4,hm4,hxb,hxr,hfb⟩:=hinv
 refine Z0 ?_
 refine Q7 (fun hh=>?_) (fun hh=>?_)
 ·have hn':n<l.length:=by simpa using hh
  refine M9 (hl3.lift le4) hn' fun p cells hl1 hl2 hr1=>?_
  refine Y4 hS4.sat hl1 hl2 ?_
  refine Y9 hS4.sat (by rfl) hl2 (Rep.one hr1) fun q w5 σ5 hk5 hq5=>?_
  have hS5:=hS4.trans hk5
  have hr5:=RCl_lift hr1 ⟨hk5.le⟩
  refine Y4 hk5.sat hq5 hl2 ?_
  have hsmn:=hsm _ (List.getElem_mem hn')
  refine X1H hk5.sat (hg.lift ⟨hS5.le⟩) hr5 hsmn.1 fun w6 σ6 hk6=>?_
  have hS6:=hS5.trans hk6
  have hfb2:=Wm hn' hfb
  refine Jf ?_
  refine Q7 (fun hh2=>?_) (fun hh2=>?_)
  ·have hne: ¬D2 l[n]=0:=by simpa using hh2
   rw[if_neg hne] at hfb2
   refine h1 _ _ _ _ ?_ hS6
   unfold St
   rw[hfb2]
  ·have hz:D2 l[n]=0:=by simpa using hh2
   rw[if_pos hz] at hfb2
   have hk56:=hk5.trans hk6
   have hb6:=hb4.up hk56
   have ha6:=ha4.up hk56
   have hm6:=hm4.up hk56
   have hq6:=hq5.up hk6
   have hr6:=RCl_lift hr5 ⟨hk6.le⟩
   have hxs: ∀k,x.ownBlock=some k→k<w6.heap.size:=fun k hk=>(ha6.mem k hk).2.1
   refine U2 hk6.sat ?_
   refine X4 (.pointer (some ⟨bt,0,none⟩)) (fun w hb=>by rw[L7];exact X6 rfl) ?_
   refine X4 (.pointer (some ((⟨bt,0,none⟩:Addr).add 0))) (fun t w hb e=>by rw[e,fa];exact X6 rfl) ?_
   refine X4 x (fun t w hb e=>by rw[e];exact Yc (hb6.step hb.stp) rfl (X6 rfl)) ?_
   refine X4 (.agg cells.toArray) (fun w hb=>Y4 hb.sat hq6 hl2 (X6 rfl)) ?_
   refine Uu (Φ:=fun σ' v=> ∃ds:List Value,v= .agg ds.toArray∧ds.length=8∧V0 σ' l[n] ds) (fun t w hb e=>by
    rw[e];exact X0U hb.sat hr6 hsmn fun lv fv mv w' σ' hk hrc=>Hi hb hk ⟨_,rfl,rfl,hrc⟩) ?_
   refine Uu (w:=w6) (σ:=σ6) (Φ:=fun σ' v=>Sl 8 V0 σ' v [l[n]]) (fun t w hb e=>by
    obtain ⟨σ',hk,ds,rfl,hd1,hd2⟩:=e
    refine T1 (R:=V0) (sz:=8) hk.sat [.agg ds.toArray] [l[n]] rfl rfl (by simpa [Value.cells] using hd1) rfl ⟨by simpa [Value.cells] using hd2,trivial⟩ fun u w2 σ2 hk2 hu=>?_
    exact ⟨hk2.bel,σ2,hk.trans hk2,hu⟩) ?_
   rintro t43 t44 t45 t46 t47 t48 w7 hb7 _ _ e45 _ _ ⟨σ8,hk8,hu8⟩
   subst e45
   have hS8:=hS6.trans hk8
   have hb8:=hb6.up hk8
   have ha8:=ha6.up hk8
   have hm8:=hm6.up hk8
   have hbl:=hb6.lt
   have hml:=hm6.lt
   refine Wk hS8 ha8 hu8 rfl (by simp[hgl];omega) (by simp[hgl];omega) fun x' w9 hn9 hS9 ha9 hat9=>?_
   have hb9:=hb8.nx hn9 hxb
   have hm9:=hm8.nx hn9 hxr
   have hxb':x'.ownBlock≠some bt:=fun e=>by
    rcases hat9 with e2 | e2
    ·exact hxb (e2▸e)
    ·have:=e2 bt e;have:=hk8.bel.size;omega
   have hxr':x'.ownBlock≠some r:=fun e=>by
    rcases hat9 with e2 | e2
    ·exact hxr (e2▸e)
    ·have:=e2 r e;have:=hk8.bel.size;omega
   obtain ⟨hxc1,hxc2⟩:=Uo ha9
   rw[L7,fa]
   refine Uf hb9 (by simp) hxc1 hxc2 fun w10 u10 hb10=>?_
   have hS10:=u10.stp hS9 hbtw hb9.1
   have k10:Kpt (fun k=>k=bt) w9 w10:=Kpt.of_upd u10 rfl
   refine N3 ?_
   refine Y5 hl3.max hn' ⟨σ8,x',hS10,le4.more ⟨fun b o e=>hk8.le _ _ (hk56.le _ _ e)⟩,hb10,?_,hm9.kp k10 hrbt,hxb',hxr',hfb2⟩
   have:=ha9.kp k10 fun k hk e=>hxb' (e▸hk)
   rw[List.take_add_one,List.getElem?_eq_getElem hn',←List.append_assoc]
   exact this
 have hn': ¬n<l.length:=by simpa using hh
 rw[List.take_of_length_le (by omega)] at ha4
 rw[List.drop_eq_nil_of_le (by omega)] at hfb
 have hfb:O8 D2 l 0=none:=hfb
 have hck:=P8 hfb
 have hcf: ∀c∈l,Qm c∧Nm c∧c.name≠[]:=fun c hc=>Fh (hck c hc)
 have hsmall: ∀c∈Q4 l,Qm c:=fun c hc=>by
  rcases List.mem_append.1 hc with hc | hc
  ·exact (Ua c hc).1
  ·exact (hcf c hc).1
 have hnmall: ∀c∈Q4 l,Nm c:=fun c hc=>by
  rcases List.mem_append.1 hc with hc | hc
  ·exact (Ua c hc).2.1
  ·exact (hcf c hc).2.1
 have hlenall:(Q4 l).length≤100000:=by omega
 unfold St at h1 h0
 rw[hfb] at h1 h0
 simp only at h1 h0
 -- from now on the classes stay
 obtain ⟨σ5,hS5,hv5,le5,old5⟩:=ha4.keep hS4
 have hb5:Y2 σ5 w4 bt _:=⟨(old5 bt fun e=>hxb e.symm).trans hb4.1,hb4.2⟩
 have hm5:C3 σ5 w4 r []:=⟨(old5 r fun e=>hxr e.symm).trans hm4.1,hm4.2⟩
 obtain ⟨σ6,hS6,hb6,le6,old6⟩:=hb5.keep hS5 hbtw
 have hm6:C3 σ6 w4 r []:=⟨(old6 r hrbt).trans hm5.1,hm5.2⟩
 have hv6:Sl 8 V0 σ6 x (Q4 l):=hv5.le le6
 clear hb5 hb4 ha4
 rw[L7,fa]
 refine ld hS6.sat hb6 rfl ?_
 refine Q8 hv6 ?_
 refine U0 (Q4 l).length (fun n w'=> ∃σ' m,Stp w σ w' σ'∧SLe σ6 σ'∧C3 σ' w' r m∧(∀k,C4 m k=(Z2 ((Q4 l).take n) k).map (fun i:Nat=>I (i:Int)))∧ ∀j,j<n→(Z2 ((Q4 l).take j) (Y3 (Q4 l) j)).isSome=false)
  ⟨σ6,[],hS6,SLe.refl _,hm6,by simp[C4,Z2],by intro j hj;omega⟩ fun n w5 d hn2 hinv=>?_
 obtain ⟨σ7,m,hS7,le7,hm7,hlm,hnd⟩:=hinv
 refine Z0 ?_
 refine Q7 (fun hh2=>?_) (fun hh2=>?_)
 ·have hn3:n<(Q4 l).length:=by simpa using hh2
  refine M9 (hv6.lift le7) hn3 fun p cells hl1 hl2 hr1=>?_
  refine Y4 hS7.sat hl1 hl2 ?_
  refine Y9 hS7.sat (by rfl) hl2 (Rep.one hr1) fun q w6 σ8 hk8 hq8=>?_
  obtain ⟨lv',fv,mv,rfl,f1,f2,f3,f4,f5⟩:=hr1
  have hS8:=hS7.trans hk8
  have le8:SLe σ6 σ8:=le7.more ⟨hk8.le⟩
  have hm8:=hm7.up hk8
  have hb8:=hb6.lift le8
  rw[fa]
  refine ld hk8.sat hq8 rfl ?_
  refine Ea ?_
  unfold Up
  rw[L7,fa]
  refine ld hk8.sat hb8 rfl ?_
  refine Q9W X8 hm8.2 _ ?_
  refine J6 (vs:=[_,_]) rfl ?_
  refine J6 (vs:=[_,_]) rfl ?_
  have hna:=Po hn3
  have hfd:=hlm (Q4 l)[n].name
  cases hfc:Z2 ((Q4 l).take n) (Q4 l)[n].name with
  | some i=>
   rw[hfc] at hfd
   rw[hfd]
   refine J5 ?_
   have hdup:Sn (Q4 l)=some n:=by
    unfold Sn
    rw[List.find?_range_eq_some]
    refine ⟨by rw[hna,hfc];rfl,by simpa using hn3,fun j hj=>by rw[hnd j hj];rfl⟩
   refine Zi ⟨by omega,by omega⟩ ?_
   refine h1 _ _ _ _ ?_ hS8
   rw[hdup]
   rfl
  | none=>
   rw[hfc] at hfd
   rw[hfd]
   refine Z7 ?_
   refine U2 hk8.sat ?_
   refine X4 (.pointer (some ⟨bt,0,none⟩)) (fun w hb=>by rw[L7];exact X6 rfl) ?_
   refine X4 (.pointer (some ((⟨bt,0,none⟩:Addr).add 1))) (fun t w hb e=>by rw[e,fa];exact X6 rfl) ?_
   refine X4 (.pointer (some (q.add 0))) (fun w hb=>by rw[fa];exact X6 rfl) ?_
   refine X4 (.map (some r)) (fun t w hb e=>by rw[e];exact ld hb.sat hb8 rfl (X6 rfl)) ?_
   refine X4 (S (Q4 l)[n].name) (fun t w hb e=>by rw[e];exact ld hb.sat hq8 rfl (X6 rfl)) ?_
   rintro t71 t72 t74 t73 t75 w9 hb9 _ _ _ rfl rfl
   refine Ph X8 (hm8.up hb9.stp) _ (I n) fun w10 u10 hm10=>?_
   have hS9:=hS8.trans hb9.stp
   have hS10:=u10.stp hS9 hrw hm10.1
   refine N3 ?_
   refine Y5 (by omega) hn3 ⟨σ8,_,hS10,le8,hm10,fun k=>?_,fun j hj=>?_⟩
   ·rw[Q4E,Q7J hn3 k]
    by_cases e:(Q4 l)[n].name=k
    ·subst e
     rw[if_pos rfl,hfc];simp
    ·rw[if_neg e,hlm k]
     cases Z2 ((Q4 l).take n) k with
     | some i=>rfl
     | none=>simp[e]
   ·by_cases e:j=n
    ·subst e;rw[hna,hfc];rfl
    ·exact hnd j (by omega)
 have hn3: ¬n<(Q4 l).length:=by simpa using hh2
 have hne:n=(Q4 l).length:=by omega
 subst hne
 rw[List.take_of_length_le (Nat.le_refl _)] at hlm
 have hdup:Sn (Q4 l)=none:=by
  unfold Sn
  rw[List.find?_eq_none]
  intro j hj
  rw[hnd j (by simpa using hj)];simp
 rw[hdup] at h1 h0
 simp only at h1 h0
 have hown:=Ku hdup
 obtain ⟨σ8,hS8,hm8,le8,_⟩:=hm7.keep hS7 hrw
 have le68:SLe σ6 σ8:=le7.more ⟨le8⟩
 have ht8:Tab σ8 (.pointer (some ⟨bt,0,none⟩)) (Q4 l):=⟨⟨bt,0,none⟩,x,r,m,rfl,hb6.lift le68,hv6.lift le68,hm8,hlm⟩
 have hb8:=hb6.lift le68
 have hv8:=hv6.lift le68
 clear hm7 hm8 hh2 hn3 hn2 hh hn' hn hnd
 have hdr:(Q4 l).drop 8=l:=by simp[Q4,hgl]
 rw[L7,fa]
 refine ld hS8.sat hb8 rfl ?_
 refine Ee hv8 (some (I (8:Nat))) none 8 (Q4 l).length (.inr rfl) (.inl ⟨rfl,rfl⟩) (by omega) (Nat.le_refl _) fun v9 hv9=>?_
 rw[hdr,List.take_of_length_le (by omega)] at hv9
 refine Q8 hv9 ?_
 refine U0 l.length (fun n w'=> ∃σ',Stp w σ w' σ'∧SLe σ8 σ'∧O8 (fun c=>(D0 (Q4 l) c:Int)) l 0=O8 (fun c=>(D0 (Q4 l) c:Int)) (l.drop n) n) ⟨σ8,hS8,SLe.refl _,rfl⟩ fun n w6 d hn hinv=>?_
 obtain ⟨σ9,hS9,le9,hfu⟩:=hinv
 refine Z0 ?_
 refine Q7 (fun hh=>?_) (fun hh=>?_)
 ·have hn':n<l.length:=by simpa using hh
  refine M9 (hv9.lift le9) hn' fun p cells hl1 hl2 hr1=>?_
  refine Y4 hS9.sat hl1 hl2 ?_
  refine Y9 hS9.sat (by rfl) hl2 (Rep.one hr1) fun q w7 σ10 hk10 hq10=>?_
  have hS10:=hS9.trans hk10
  refine Y4 hk10.sat hq10 hl2 ?_
  have hfu2:=Wm hn' hfu
  refine X0B hk10.sat (ht8.lift (le9.more ⟨hk10.le⟩)) (RCl_lift hr1 ⟨hk10.le⟩) fun w8 σ11 hk11=>?_
  refine Jf ?_
  refine Q7 (fun hh2=>?_) (fun hh2=>?_)
  ·have hne: ¬(D0 (Q4 l) l[n]:Int)=0:=by simpa using hh2
   rw[if_neg hne] at hfu2
   refine h1 _ _ _ _ ?_ (hS10.trans hk11)
   rw[hfu2]
  ·have hz:(D0 (Q4 l) l[n]:Int)=0:=by simpa using hh2
   rw[if_pos hz] at hfu2
   refine N3 ?_
   exact Y5 hl3.max hn' ⟨σ11,hS10.trans hk11,le9.more ⟨fun b o e=>hk11.le _ _ (hk10.le _ _ e)⟩,hfu2⟩
 have hn': ¬n<l.length:=by simpa using hh
 rw[List.drop_eq_nil_of_le (by omega)] at hfu
 have hfu:O8 (fun c=>(D0 (Q4 l) c:Int)) l 0=none:=hfu
 rw[hfu] at h1 h0
 simp only at h1 h0
 have hup:=P8 hfu
 have ht9:=ht8.lift le9
 clear hh hn' hn
 rw[L7,fa]
 refine ld hS9.sat (hb8.lift le9) rfl ?_
 refine Ee (hv8.lift le9) (some (I (8:Nat))) none 8 (Q4 l).length (.inr rfl) (.inl ⟨rfl,rfl⟩) (by omega) (Nat.le_refl _) fun v10 hv10=>?_
 rw[hdr,List.take_of_length_le (by omega)] at hv10
 rw[Qe]
 refine Gs (P9 (Q4 l)) hS9.sat hv10 (fun c cs w7 K hc hs7 hr hlen hK=>Z6 (first:=[.pointer (some ⟨bt,0,none⟩)]) (caps:=[]) ?_) fun w7 hb7=>?_
 ·exact X1D hs7 ht9 hlenall hsmall hr fun w' σ' hk=>hK w' hk.bel
 have hS10:=hS9.trans (Stp.of_below hS9.sat hb7)
 refine P6 ?_
 rw[T8]
 cases hlo:l.findIdx? (P9 (Q4 l)) with
 | some i=>
  refine J5 ?_
  refine h1 _ _ _ _ ?_ hS10
  rw[hlo];rfl
 | none=>
  rw[hlo] at h1 h0
  simp only at h1 h0
  refine Z7 ?_
  have hlo': ∀c∈l,P9 (Q4 l) c=false:=fun c hc=>List.findIdx?_eq_none_iff.1 hlo c hc
  have hacy:=Q5f hown (fun c hc=>(hcf c hc).2.2) hlo'
  have hfull:X0i (Q4 l):=fun c hc u hu=>by
   rcases List.mem_append.1 hc with hc | hc
   ·rw[(Ua c hc).2.2] at hu;simp at hu
   ·have:=hup c hc
    unfold D0 at this
    split at this
    ·simp at this
    ·split at this
     ·simp at this
     ·rename_i hnb
      have hnb:c.like.any (R3 (Q4 l))=false:=eq_false_of_ne_true hnb
      have:=List.any_eq_false.1 hnb u hu
      unfold R3 at this
      cases hd:lk (Q4 l) u with
      | none=>rw[hd] at this;simp at this
      | some d=>exact ⟨d,rfl⟩
  have hok:Ok (Q4 l):=⟨hacy,hlenall,hsmall,hfull,hnmall⟩
  refine X1J (frm:=8) hS10.sat (ht9.lift ⟨(Stp.of_below hS9.sat hb7).le⟩) hacy hown hlenall hsmall (by omega) (by omega) fun v11 w8 σ11 hk11 hv11 hol hoi=>?_
  have hS11:=hS10.trans hk11
  have ht11:=ht9.lift ⟨fun b o e=>hk11.le _ _ e⟩
  refine Q8 hv11 ?_
  have hil:(ints (V9 (Q4 l) 8)).length=(V9 (Q4 l) 8).length:=by simp
  rw[hil]
  refine U0 (V9 (Q4 l) 8).length (fun n w'=> ∃σ',Stp w σ w' σ'∧SLe σ11 σ'∧ ∀j∈(V9 (Q4 l) 8).take n,V8 (Q4 l) ((Q4 l).getD j Cla.zero)=0) ⟨σ11,hS11,SLe.refl _,by simp⟩ fun n w9 d hn hinv=>?_
  obtain ⟨σ12,hS12,le12,hno⟩:=hinv
  refine Z0 ?_
  refine Q7 (fun hh=>?_) (fun hh=>?_)
  ·have hn':n<(V9 (Q4 l) 8).length:=by simpa using hh
   refine M9 (hv11.lift le12) (by rw[hil];exact hn') fun p cells hl1 hl2 hr1=>?_
   obtain ⟨rfl,_⟩:=hr1
   refine X7 hS12.sat hl1 rfl ?_
   simp only[List.getElem_map]
   rw[L7,fa]
   have le8x:SLe σ8 σ12:=le9.more (SLe.more ⟨hk11.le⟩ le12)
   refine ld hS12.sat (hb8.lift le8x) rfl ?_
   have hji:=hoi _ (List.getElem_mem hn')
   refine M9 (hv8.lift le8x) hji fun p2 cells hl1 hl2 hr1=>?_
   refine Y4 hS12.sat hl1 hl2 ?_
   have hat:(Q4 l).getD (V9 (Q4 l) 8)[n] Cla.zero=(Q4 l)[(V9 (Q4 l) 8)[n]]:=by rw[List.getD_eq_getElem?_getD,List.getElem?_eq_getElem hji];rfl
   have hmem:=List.getElem_mem hji
   refine Q9M hS12.sat (ht11.lift le12) hok hr1 (hsmall _ hmem) (hnmall _ hmem) fun w10 σ13 hk13=>?_
   have hS13:=hS12.trans hk13
   refine Jf ?_
   refine Q7 (fun hh2=>?_) (fun hh2=>?_)
   ·have hne: ¬V8 (Q4 l) (Q4 l)[(V9 (Q4 l) 8)[n]]=0:=by simpa using hh2
    refine Zi ⟨by omega,by omega⟩ ?_
    have hfind:(V9 (Q4 l) 8).find? (fun j=> !decide (V8 (Q4 l) ((Q4 l).getD j Cla.zero)=0))=some (V9 (Q4 l) 8)[n]:=by
     rw[List.find?_eq_some_iff_getElem]
     refine ⟨by rw[hat];simpa using hne,n,hn',rfl,fun j hj=>?_⟩
     have:=hno _ (List.mem_take_iff_getElem.2 ⟨j,by omega,rfl⟩)
     rw[this];simp
    have:=h1 (((V9 (Q4 l) 8)[n]:Int)-8) (V8 (Q4 l) (Q4 l)[(V9 (Q4 l) 8)[n]]) w10 σ13 (by rw[hfind];simp only[hat]) hS13
    exact this
   ·have hz:V8 (Q4 l) (Q4 l)[(V9 (Q4 l) 8)[n]]=0:=by simpa using hh2
    refine N3 ?_
    refine Y5 (by omega) hn' ⟨σ13,hS13,le12.more ⟨hk13.le⟩,fun j hj=>?_⟩
    rw[List.take_add_one,List.getElem?_eq_getElem hn'] at hj
    rcases List.mem_append.1 hj with hj | hj
    ·exact hno j hj
    ·simp at hj;subst hj;rw[hat];exact hz
  ·have hn': ¬n<(V9 (Q4 l) 8).length:=by simpa using hh
   rw[List.take_of_length_le (by omega)] at hno
   have hfind:(V9 (Q4 l) 8).find? (fun j=> !decide (V8 (Q4 l) ((Q4 l).getD j Cla.zero)=0))=none:=by
    rw[List.find?_eq_none]
    intro j hj
    rw[hno j hj];simp
   rw[hfind] at h0
   exact h0 _ _ _ rfl hS12 (ht11.lift le12) hok hown)
end Go.Proofs.YtjdiakhipmggjaaGreatDoor

namespace Go.Hm
open Go.Kd
def Q9G (m:Hm.Met):Bool:= !(decide (50<m.code.length)||decide (8<m.params.length)||decide (8<m.catches.length))
def X0L (c:Cla):Bool:= !(decide (6<c.like.length)||decide (6<c.fields.length)||decide (6<c.methods.length))&&c.methods.all Q9G
def X0e (l:List Cla):Bool:= !decide (12<l.length)&&l.all X0L
theorem Q9R {l:List Cla} (h:X0e l=true):l.length≤12∧ ∀c∈l,X0L c=true:=by
 simp only[X0e,Bool.and_eq_true,Bool.not_eq_true',decide_eq_false_iff_not,List.all_eq_true] at h
 exact ⟨by omega,h.2⟩
theorem X3o {l:List Cla} (h:X0e l=true): ∀c∈l,Qm c:=by
 intro c e
 have:=(Q9R h).2 c e
 simp only[X0L,Q9G,Bool.and_eq_true,Bool.not_eq_true',Bool.or_eq_false_iff,decide_eq_false_iff_not,List.all_eq_true] at this
 obtain ⟨⟨⟨a,b⟩,g⟩,d⟩:=this
 refine ⟨by omega,by omega,by omega,fun m f=>?_⟩
 obtain ⟨⟨p,q⟩,r⟩:=d m f
 exact ⟨by omega,by omega,by omega⟩
end Go.Hm
namespace Go.Proofs.YtjdiakhipmggjaaGreatDoor
open Go.Emb Go.RowKit Go.Kd Go.Hm
variable {w : World} {K : Value → World → Prop} {σ : Q6} {v : Value} {l : List Cla}
end Go.Proofs.YtjdiakhipmggjaaGreatDoor

namespace Go.Proofs.YtjdiakhipmggjaaGreatDoor
open Go.Emb Go.RowKit Go.Kd Go.Hm
variable {w : World} {K : Value → World → Prop} {σ : Q6} {v : Value} {l : List Cla}
theorem X3J:P.underlying T.r=some (.pointer T.a0):=by kernel_rfl
theorem Q6n (d:Nat) (o:Option Addr):(Op.equalIn (d+1) T.r (.pointer o) (.pointer none)).run P w= .ok o.isNone w:=by
 cases o<;>simp[Op.equalIn,run_underlying X3J]
theorem X35 {a:Addr} {b c:Operand} (h:K (.bool false) w):Q3 P .eql T.r b c (.pointer (some a)) (.pointer none) w K:=by
 have e:(Op.equal T.r (.pointer (some a)) (.pointer none)).run P w= .ok false w:=Q6n 9999 _
 unfold Q3
 rw[Y0 (v:= .bool false) (w':=w) (by simp[eqGuard,Go.binOp,e])]
 exact h
end Go.Proofs.YtjdiakhipmggjaaGreatDoor

namespace Go.Hm
open Go.Kd
theorem Q5i {l:List Cla} {frm:Nat}: ∀(f:Nat) (a:List Nat) (i:Nat),(∀y∈a,y∈A9 l frm f a i)∧(0<f→frm≤i→i∈A9 l frm f a i):=by
 intro f
 induction f with
 | zero=>intro a i;exact ⟨fun y b=>b,fun h=>by omega⟩
 | succ f g=>
  intro a i
  have c: ∀(e:List X0) (o:List Nat),∀y∈o,y∈e.foldl (fun a n=>A9 l frm f a ((Z2 l n).getD 0)) o:=by
   intro e
   induction e with
   | nil=>intro o y b;exact b
   | cons u r d=>intro o y b;exact d _ y ((g o _).1 y b)
  simp only[A9]
  split
  ·exact ⟨fun y b=>b,fun _ h=>by omega⟩
  ·split
   ·rename_i h;exact ⟨fun y b=>b,fun _ _=>h⟩
   ·exact ⟨fun y b=>List.mem_append_left _ (c _ _ y b),fun _ _=>by simp⟩
theorem Q9O {l:List Cla} {frm i:Nat} (e:frm≤i) (f:i<l.length):i∈V9 l frm:=by
 unfold V9
 have key: ∀(is b:List Nat),(∀y∈b,y∈is.foldl (fun b i=>A9 l frm (l.length+1) b i) b)∧(i∈is→i∈is.foldl (fun b i=>A9 l frm (l.length+1) b i) b):=by
  intro is
  induction is with
  | nil=>intro b;exact ⟨fun y d=>d,fun h=>by simp at h⟩
  | cons a r c=>
   intro b
   refine ⟨fun y d=>(c _).1 y ((Q5i _ _ _).1 y d),fun h=>?_⟩
   rcases List.mem_cons.1 h with rfl | h
   ·exact (c _).1 _ ((Q5i _ _ _).2 (by omega) e)
   ·exact (c _).2 h
 refine (key _ _).2 ?_
 rw[List.mem_drop_iff_getElem]
 exact ⟨i-frm,by simp;omega,by simp;omega⟩
theorem Q8V {s:X0} (h:M6 s=true):name s=true:=Mi (by rw[h,Bool.or_true])
theorem Q5q {a:X0} (h:name a=true):arr a=false:=by
 cases d:arr a with
 | false=>rfl
 | true=>
  exfalso
  have e:2≤a.length∧a.drop (a.length-2)=[91,93]:=by simpa [arr] using d
  have b:(93:UInt8)∈a:=List.mem_of_mem_drop (i:=a.length-2) (by rw[e.2];simp)
  cases a with
  | nil=>simp at b
  | cons c r=>
   simp only[name,Bool.and_eq_true,List.all_eq_true] at h
   have:=h.2 _ b
   revert this;decide
end Go.Hm
namespace Go.Proofs.YtjdiakhipmggjaaGreatDoor
open Go.Emb Go.RowKit Go.Kd Go.Hm
theorem Q8R {a:X0} (h:name a=true):base a=(a,0):=by rw[Xo,Q5q h];simp
theorem Ni {s:X0} (h:M6 s=true):arr s=false∧base s=(s,0)∧right s=true∧plain s=false∧elem s=[]∧s≠H7∧s≠[]:=by
 have b:=Hm.Q8V h
 have d:=Q5q b
 have a:=Q8R b
 refine ⟨d,a,?_,?_,by simp[elem,d],?_,?_⟩
 ·simp[right,a,h]
 ·cases c:plain s with
  | false=>rfl
  | true=>
   simp only[plain,Bool.or_eq_true,decide_eq_true_eq] at c
   rcases c with (e | e) | e<;>subst e<;>revert h<;>decide
 ·rintro rfl;revert h;decide
 ·rintro rfl;revert h;decide
structure Wf (l : List Cla) : Prop where
  ck : ∀ c ∈ l, D2 c = 0
  own : T6 (Q4 l)
  acy : Jd (Q4 l)
  up : ∀ c ∈ l, D0 (Q4 l) c = 0
  mem : ∀ c ∈ l, V8 (Q4 l) c = 0
theorem X3K {l:List Cla} (h:St D2 l=none):Wf l:=by
 unfold St at h
 split at h
 ·cases h
 rename_i n
 split at h
 ·cases h
 rename_i o
 split at h
 ·cases h
 rename_i p
 split at h
 ·cases h
 rename_i j
 split at h
 ·cases h
 rename_i m
 have d:=P8 n
 have a:=Ku o
 have g: ∀c∈l,P9 (Q4 l) c=false:=fun c b=>List.findIdx?_eq_none_iff.1 j c b
 refine ⟨d,a,Q5f a (fun c b=>(Fh (d c b)).2.2) g,fun c b=>by have:=P8 p c b;omega,fun c b=>?_⟩
 obtain ⟨i,k,rfl⟩:=List.getElem_of_mem b
 have f:G9.length=8:=rfl
 have:=List.find?_eq_none.1 m (8+i) (Q9O (by omega) (by simp[Q4,f];omega))
 have e:(Q4 l).getD (8+i) Cla.zero=l[i]:=by
  rw[List.getD_eq_getElem?_getD,Q4,List.getElem?_append_right (by omega),f,show 8+i-8=i by omega,List.getElem?_eq_getElem k];rfl
 rw[e] at this
 simpa using this
section
variable {l : List Cla} (wf : Wf l)
include wf
theorem Wf.names {c:Cla} (hc:c∈Q4 l):M6 c.name=true:=by
 rcases List.mem_append.1 hc with hc | hc
 ·have: ∀c∈G9,M6 c.name=true:=by decide+kernel
  exact this c hc
 ·have:=wf.ck c hc
  unfold D2 at this
  split at this
  ·cases this
  ·split at this
   ·rename_i a
    simp only[Nw,Bool.and_eq_true] at a
    obtain ⟨⟨⟨⟨⟨⟨⟨⟨b,_⟩,_⟩,_⟩,_⟩,_⟩,_⟩,_⟩,_⟩:=a
    exact List.all_eq_true.1 b c.name (by simp)
   ·cases this
theorem Wf.lkn {n:X0} {c:Cla} (h:lk (Q4 l) n=some c):M6 n=true:=by
 obtain ⟨e,a,_⟩:=V3 h
 rw[←e];exact wf.names a
theorem Wf.root:lk (Q4 l) J9=some ⟨J9,[],[],false,false,false,[],[]⟩:=wf.own.lk (c:=⟨J9,[],[],false,false,false,[],[]⟩) (List.mem_append_left _ (by decide))
theorem Wf.fault:lk (Q4 l) L6=some ⟨L6,J9,[],false,false,false,[⟨Ql,O9,false⟩],[]⟩:=wf.own.lk (c:=⟨L6,J9,[],false,false,false,[⟨Ql,O9,false⟩],[]⟩) (List.mem_append_left _ (by decide))
theorem Wf.super {c:Cla} (hc:c∈Q4 l):c.name=J9∨ ∃d,lk (Q4 l) c.super=some d:=by
 rcases List.mem_append.1 hc with hc | hc
 ·have: ∀c∈G9,c.name=J9∨c.super=J9∨c.super=L6:=by decide
  rcases this c hc with h | h | h
  ·exact .inl h
  ·exact .inr ⟨_,h▸wf.root⟩
  ·exact .inr ⟨_,h▸wf.fault⟩
 ·right
  have:=wf.up c hc
  unfold D0 at this
  split at this
  ·cases this
  ·rename_i h
   unfold Qv at h
   cases a:lk (Q4 l) c.super with
   | none=>rw[a] at h;simp at h
   | some d=>exact ⟨d,rfl⟩
theorem Wf.toRoot: ∀(k:Nat) {n:X0} {c:Cla},K6 (Q4 l) n<k→lk (Q4 l) n=some c→Hm.Reach (lk (Q4 l)) n J9:=by
 intro k
 induction k with
 | zero=>intro n c h;omega
 | succ k g=>
  intro n c j a
  obtain ⟨e,i,_⟩:=V3 a
  rcases wf.super i with h | ⟨d,f⟩
  ·rw[←e,h];exact .refl wf.root
  ·have b:c.super∈U3 c:=by simp[U3]
   exact .step a b (g (by have:=Xy wf.acy a b f;omega) f)
theorem Wf.atRoot {b:X0} (h:Hm.Reach (lk (Q4 l)) J9 b):b=J9:=by
 cases h with
 | refl=>rfl
 | step c a e=>
  rw[wf.root] at c;cases c
  simp[U3] at a;subst a
  obtain ⟨d,f⟩:=e.left
  exact absurd (wf.lkn f) (by decide)
theorem Wf.kind {n:X0} {c:Cla} (h:lk (Q4 l) n=some c):N1 (Q4 l) n=true:=by
 obtain ⟨i,a,b,d,f,g,e⟩:=Ni (wf.lkn h)
 have:Q0G (Q4 l) n=true:=by rw[Q1v,h];rfl
 simp[N1,b,a,this]
theorem Wf.sub_iff {a b:X0}:Xv (Q4 l) a b=true↔N1 (Q4 l) a=true∧N1 (Q4 l) b=true∧(a=b∨(plain a=false∧plain b=false∧(a=H7∨(elem a≠[]∧b=J9)∨(lk (Q4 l) a≠none∧Hm.Reach (lk (Q4 l)) a b)))):=by
 unfold Xv
 cases j:N1 (Q4 l) a<;>cases m:N1 (Q4 l) b<;>simp
 by_cases e:a=b
 ·simp[e]
 cases pa:plain a<;>cases k:plain b<;>simp[e]
 by_cases f:a=H7
 ·simp[f]
 simp only[f,false_or]
 by_cases d:elem a=[]
 ·simp only[d,if_true,not_true_eq_false,false_and,false_or,Uq]
  constructor
  ·intro h;obtain ⟨c,i⟩:=h.left;exact ⟨by rw[i];simp,h⟩
  ·intro h;exact h.2
 ·simp only[d,if_false,not_false_eq_true,true_and]
  constructor
  ·exact .inl
  ·rintro (h | ⟨h,_⟩)
   ·exact h
   ·cases g:lk (Q4 l) a with
    | none=>exact absurd g h
    | some c=>exact absurd (Ni (wf.lkn g)).2.2.2.2.1 d
theorem Wf.sub_class {a b:X0} {c:Cla} (e:lk (Q4 l) a=some c):Xv (Q4 l) a b=true↔Hm.Reach (lk (Q4 l)) a b:=by
 obtain ⟨m,n,o,g,i,j,k⟩:=Ni (wf.lkn e)
 rw[wf.sub_iff]
 constructor
 ·rintro ⟨_,_,rfl | ⟨_,_,h | ⟨h,_⟩ | ⟨_,h⟩⟩⟩
  ·exact .refl e
  ·exact absurd h j
  ·exact absurd i h
  ·exact h
 ·intro h
  obtain ⟨d,f⟩:=h.right
  exact ⟨wf.kind e,wf.kind f, .inr ⟨g,(Ni (wf.lkn f)).2.2.2.1, .inr (.inr ⟨by rw[e];simp,h⟩)⟩⟩
end
end Go.Proofs.YtjdiakhipmggjaaGreatDoor

namespace Go.Proofs.YtjdiakhipmggjaaGreatDoor
open Go.Emb Go.RowKit Go.Kd Go.Hm
theorem Q6N {L:List Cla} (g:Jd L): ∀(k:Nat) {n:X0} {c:Cla},K6 L n<k→c∈chain L n→Hm.Reach (lk L) n c.name∧lk L c.name=some c:=by
 intro k
 induction k with
 | zero=>intro n c h;omega
 | succ k j=>
  intro n c p hc
  rw[A7 g] at hc
  cases a:lk L n with
  | none=>rw[a] at hc;simp at hc
  | some d=>
   rw[a] at hc
   have b:=(V3 a).1
   rcases List.mem_cons.1 hc with rfl | hc
   ·rw[b];exact ⟨.refl a,a⟩
   ·cases i:lk L d.super with
    | none=>rw[Ym i] at hc;simp at hc
    | some e=>
     have f:d.super∈U3 d:=by simp[U3]
     obtain ⟨m,o⟩:=j (by have:=Xy g a f i;omega) hc
     exact ⟨.step a f m,o⟩
theorem X0t {l:List Cla} {a:X0} (h:N1 (Q4 l) a=true) (g:plain a=false):a=H7∨elem a≠[]∨ ∃c,lk (Q4 l) a=some c:=by
 simp only[N1,Bool.or_eq_true,decide_eq_true_eq,Bool.and_eq_true] at h
 rcases h with h | ⟨e,h⟩
 ·exact .inl h
 ·by_cases d:elem a=[]
  ·right;right
   have b:arr a=false:=by
    cases b:arr a with
    | false=>rfl
    | true=>
     have i:=Q4b b e
     have:elem a=Kd.cutA a:=by simp[elem,b,e]
     rw[this] at d
     have:=K1 b
     rw[d] at this;simp at this;omega
   have f:base a=(a,0):=by rw[Xo,b];simp
   rw[f,g] at h
   have h:Q0G (Q4 l) a=true:=by simpa using h
   rw[Q1v] at h
   exact Option.isSome_iff_exists.1 h
  ·exact .inr (.inl d)
section
variable {l : List Cla} (wf : Wf l)
include wf
theorem Wf.kRoot:N1 (Q4 l) J9=true:=wf.kind wf.root
theorem Wf.lkArr {a:X0} {c:Cla} (h:lk (Q4 l) a=some c):elem a=[]:=(Ni (wf.lkn h)).2.2.2.2.1
theorem Wf.none_null:lk (Q4 l) H7=none:=by
 cases h:lk (Q4 l) H7 with
 | none=>rfl
 | some c=>exact absurd (wf.lkn h) (by decide)
theorem Wf.sub_root {a:X0} (h:N1 (Q4 l) a=true) (b:plain a=false):Xv (Q4 l) a J9=true:=by
 rw[wf.sub_iff]
 refine ⟨h,wf.kRoot, .inr ⟨b,by decide,?_⟩⟩
 rcases X0t h b with e | e | ⟨c,e⟩
 ·exact .inl e
 ·exact .inr (.inl ⟨e,rfl⟩)
 ·exact .inr (.inr ⟨by rw[e];simp,wf.toRoot _ (Nat.lt_succ_self _) e⟩)
theorem Wf.sub_refl {a:X0} (h:N1 (Q4 l) a=true):Xv (Q4 l) a a=true:=wf.sub_iff.2 ⟨h,h, .inl rfl⟩
end
end Go.Proofs.YtjdiakhipmggjaaGreatDoor

namespace Go.Proofs.YtjdiakhipmggjaaGreatDoor
open Go.Emb Go.RowKit Go.Kd Go.Hm
theorem Q6U {c:Cla} (h:D2 c=0):M6 c.name=true∧M6 c.super=true∧(c.iface=true→c.super=J9∧c.fields=[]∧c.abs=true∧ ∀m∈c.methods,m.abs=true)∧(∀m∈c.methods,m.abs=true→c.abs=true)∧c.fields.all Dy=true∧c.methods.all I5=true∧C6 Fld.name [] c.fields=true∧C6 Hm.Met.name [] c.methods=true:=by
 unfold D2 at h
 split at h
 ·cases h
 split at h
 ·rename_i k
  simp only[Nw,Bool.and_eq_true] at k
  obtain ⟨⟨⟨⟨⟨⟨⟨⟨j,v⟩,u⟩,g⟩,f⟩,t⟩,o⟩,q⟩,r⟩:=k
  refine ⟨List.all_eq_true.1 j c.name (by simp),List.all_eq_true.1 j c.super (by simp),fun p=>?_,fun m i n=>?_,q,r,t,o⟩
  ·rw[p] at g
   simp only[Bool.true_and,Bool.not_eq_true',Bool.or_eq_false_iff,Bool.not_eq_false',decide_eq_true_eq] at g
   obtain ⟨⟨⟨a,b⟩,d⟩,e⟩:=g
   refine ⟨b,d,a,fun m i=>?_⟩
   have:=List.any_eq_false.1 e m i
   simpa using this
  ·simp only[Bool.not_eq_true',Bool.or_eq_false_iff] at f
   obtain ⟨_,f⟩:=f
   have s:c.methods.any (·.abs)=true:=List.any_eq_true.2 ⟨m,i,n⟩
   rw[s] at f
   simpa using f
 ·cases h
theorem Q7M {l:List Cla} {c:Cla} (b:c∈Q4 l) (a:c.iface=true):c∈l:=by
 rcases List.mem_append.1 b with h | h
 ·have: ∀c∈G9,c.iface=false:=by decide
  rw[this c h] at a;cases a
 ·exact h
section
variable {l : List Cla} (wf : Wf l)
include wf
theorem Wf.likes {c:Cla} (f:c∈Q4 l) {u:X0} (b:u∈c.like): ∃d,lk (Q4 l) u=some d∧d.iface=true:=by
 rcases List.mem_append.1 f with h | h
 ·rw[(Ua c h).2.2] at b;simp at b
 ·have:=wf.up c h
  unfold D0 at this
  split at this
  ·cases this
  ·split at this
   ·cases this
   ·rename_i a
    have a:=List.any_eq_false.1 (eq_false_of_ne_true a) u b
    unfold R3 at a
    cases e:lk (Q4 l) u with
    | none=>rw[e] at a;simp at a
    | some d=>rw[e] at a;exact ⟨d,rfl,by simpa using a⟩
theorem Wf.above_iface {u b:X0} (h:Hm.Reach (lk (Q4 l)) u b): ∀d,lk (Q4 l) u=some d→d.iface=true→b=J9∨ ∃e,lk (Q4 l) b=some e∧e.iface=true:=by
 induction h with
 | refl h=>intro d c a;exact .inr ⟨d,c,a⟩
 | step j hu i n=>
  intro d c a
  rw[j] at c;cases c
  obtain ⟨e,k,_⟩:=V3 j
  rcases List.mem_cons.1 hu with rfl | hu
  ·rw[((Q6U (wf.ck _ (Q7M k a))).2.2.1 a).1] at i
   exact .inl (wf.atRoot i)
  ·obtain ⟨f,m,g⟩:=wf.likes k hu
   exact n f m g
theorem Wf.by_chain {n b:X0} (h:Hm.Reach (lk (Q4 l)) n b): ∀e,lk (Q4 l) b=some e→e.iface=false→b≠J9→e∈chain (Q4 l) n:=by
 induction h with
 | refl h=>
  intro e c _ _
  rw[A7 wf.acy,c];simp
 | step j hu q p=>
  intro e c m k
  obtain ⟨en,r,_⟩:=V3 j
  rcases List.mem_cons.1 hu with rfl | hu
  ·rw[A7 wf.acy,j]
   exact List.mem_cons_of_mem _ (p e c m k)
  ·obtain ⟨f,o,d⟩:=wf.likes r hu
   rcases wf.above_iface q f o d with h | ⟨g,i,a⟩
   ·exact absurd h k
   ·rw[c] at i;cases i;rw[m] at a;cases a
theorem Wf.chain_tail: ∀(k:Nat) {n:X0} {c:Cla},K6 (Q4 l) n<k→c∈chain (Q4 l) n→ ∃a,chain (Q4 l) n=a++chain (Q4 l) c.name:=by
 intro k
 induction k with
 | zero=>intro n c h;omega
 | succ k i=>
  intro n c o hc
  rw[A7 wf.acy] at hc
  cases b:lk (Q4 l) n with
  | none=>rw[b] at hc;simp at hc
  | some d=>
   rw[b] at hc
   have f:=(V3 b).1
   rcases List.mem_cons.1 hc with rfl | hc
   ·exact ⟨[],by rw[f];rfl⟩
   ·cases g:lk (Q4 l) d.super with
    | none=>rw[Ym g] at hc;simp at hc
    | some e=>
     have j:d.super∈U3 d:=by simp[U3]
     obtain ⟨a,m⟩:=i (by have:=Xy wf.acy b j g;omega) hc
     exact ⟨d::a,by rw[A7 wf.acy,b];show d::chain (Q4 l) d.super=_;rw[m];rfl⟩
theorem Wf.fields_tail {n:X0} {c:Cla} (h:c∈chain (Q4 l) n): ∃a,Y6 (Q4 l) n=Y6 (Q4 l) c.name++a:=by
 obtain ⟨b,d⟩:=wf.chain_tail _ (Nat.lt_succ_self _) h
 exact ⟨b.reverse.flatMap (·.fields),by unfold Y6;rw[d];simp⟩
theorem Wf.none_nil:lk (Q4 l) []=none:=by
 cases h:lk (Q4 l) [] with
 | none=>rfl
 | some c=>exact absurd (wf.lkn h) (by decide)
theorem Wf.fault_fields:Y6 (Q4 l) L6=[⟨Ql,O9,false⟩]:=by
 unfold Y6
 rw[A7 wf.acy,wf.fault]
 simp only
 rw[A7 wf.acy,wf.root]
 simp only
 rw[Ym wf.none_nil]
 rfl
theorem Wf.what {n:X0} (h:Xv (Q4 l) n L6=true) {c:Cla} (d:lk (Q4 l) n=some c):Ju (Q4 l) n Ql=some 0:=by
 have e:=(wf.sub_class d).1 h
 have f:=wf.by_chain e _ wf.fault rfl (by decide)
 obtain ⟨a,b⟩:=wf.fields_tail f
 unfold Ju
 rw[b,show (Cla.mk L6 J9 [] false false false [⟨Ql,O9,false⟩] []).name=L6 from rfl,wf.fault_fields]
 rfl
end
end Go.Proofs.YtjdiakhipmggjaaGreatDoor

namespace Go.Hm
open Go.Kd
end Go.Hm
namespace Go.Proofs.YtjdiakhipmggjaaGreatDoor
open Go.Emb Go.RowKit Go.Kd Go.Hm
section
variable {l : List Cla} (wf : Wf l)
include wf
end
end Go.Proofs.YtjdiakhipmggjaaGreatDoor
namespace Go.Proofs.YtjdiakhipmggjaaGreatDoor
open Go.Emb Go.RowKit Go.Kd Go.Hm
end Go.Proofs.YtjdiakhipmggjaaGreatDoor
namespace Go.Proofs.YtjdiakhipmggjaaGreatDoor
open Go.Emb Go.RowKit Go.Kd Go.Hm
section
variable {l : List Cla} (wf : Wf l)
include wf
end
end Go.Proofs.YtjdiakhipmggjaaGreatDoor

namespace Go.Hm
open Go.Kd
structure Val where
  sort : Int
  n : Int
  s : X0
  ref : Int
deriving DecidableEq
structure Cel where
  kind : X0
  vals : List Val
deriving DecidableEq
def Val.zero:Val:=⟨0,0,[],0⟩
def Cel.zero:Cel:=⟨[],[]⟩
def P7:X0:=[105,110,116]
def Zx:X0:=[98,111,111,108]
def L9 (k:X0):Val:=if k=P7 then ⟨1,0,[],0⟩ else if k=Zx then ⟨2,0,[],0⟩ else if k=O9 then ⟨3,0,[],0⟩ else Val.zero
def Y8 (cs:List Cel):Int:=(cs.map fun c=>1+(c.vals.length:Int)).sum
def W4 (room:Int) (cs:List Cel):Int:=room-Y8 cs
def M3 (cs:List Cel) (r:Int):Bool:=decide (0≤r)&&decide (r<cs.length)
def Wj (cs:List Cel) (r:Int):Cel:=cs.getD r.toNat Cel.zero
def D7 (cs:List Cel) (r:Int):X0:=if M3 cs r then (Wj cs r).kind else []
def Q5J (cs:List Cel) (r:Int):Int:=if M3 cs r then (Wj cs r).vals.length else 0
def P5 (ok:X0→Bool) (cs:List Cel) (v:Val):X0:=
 if v=Val.zero then H7 else if v=⟨1,v.n,[],0⟩ then P7 else if v=⟨2,v.n,[],0⟩∧(v.n=0∨v.n=1) then Zx
 else if v=⟨3,0,v.s,0⟩∧ok v.s=true then O9 else if v=⟨4,0,[],v.ref⟩ then D7 cs v.ref else []
def B7 (ok:X0→Bool) (l:List Cla) (cs:List Cel) (v:Val) (k:X0):Bool:= !decide (P5 ok cs v=[])&&Xv l (P5 ok cs v) k
def Zr (l:List Cla) (room:Int) (cs:List Cel) (k:X0):List Cel×Int:=
 if A4 l k=false then (cs,91) else if W4 room cs<1+((Y6 l k).length:Int) then (cs,90) else (cs++[⟨k,(Y6 l k).map fun f=>L9 f.kind⟩],0)
def G2 (l:List Cla) (e:X0):Bool:= !decide (e=H7)&&N1 l e&&decide (Xt e≤2)
def Zu (l:List Cla) (room:Int) (cs:List Cel) (e:X0) (n:Int):List Cel×Int:=
 if G2 l e=false then (cs,91) else if n<0 then (cs,93) else if W4 room cs≤n then (cs,90) else (cs++[⟨e++[91,93],List.replicate n.toNat (L9 e)⟩],0)
def E2 (cs:List Cel) (r a:Int):Int:=if M3 cs r then (if 0≤a∧a<((Wj cs r).vals.length:Int) then 0 else 93) else 92
def Hf (cs:List Cel) (r a:Int):Val:=if E2 cs r a=0 then (Wj cs r).vals.getD a.toNat Val.zero else Val.zero
def Xj (l:List Cla) (k:X0) (i:Nat):X0:=if elem k=[] then ((Y6 l k).getD i Fld.zero).kind else elem k
def F0 (cs:List Cel) (r a:Int) (v:Val):List Cel:=cs.set r.toNat ⟨(Wj cs r).kind,(Wj cs r).vals.set a.toNat v⟩
def H5 (ok:X0→Bool) (l:List Cla) (cs:List Cel) (r a:Int) (v:Val):List Cel×Int:=
 if E2 cs r a≠0 then (cs,E2 cs r a) else if B7 ok l cs v (Xj l (Wj cs r).kind a.toNat) then (F0 cs r a v,0) else (cs,91)
def G0 (n:Int) (v:Val):Bool:=decide (v.sort=4)&&decide (n≤v.ref)
def Py (cs:List Cel) (n:Int):List Cel:=
 if (cs.take (max n 0).toNat).any (fun c=>c.vals.any (G0 (max n 0))) then cs else cs.take (max n 0).toNat
structure ActH where
  kind : Int
  s : X0
  n : Int
  ref : Int
  v : Val
deriving DecidableEq
def B3 (ok:X0→Bool) (l:List Cla) (room:Int) (cs:List Cel) (x:ActH):List Cel:=
 if x.kind=0 then (Zr l room cs x.s).1 else if x.kind=1 then (Zu l room cs x.s x.n).1 else if x.kind=2 then (H5 ok l cs x.ref x.n x.v).1
 else if x.kind=4 then Py cs x.ref else cs
structure GoodC (ok : X0 → Bool) (l : List Cla) (cs : List Cel) (c : Cel) : Prop where
  is : elem c.kind ≠ [] ∨ (A4 l c.kind = true ∧ c.vals.length = (Y6 l c.kind).length)
  kd : N1 l c.kind = true
  fits : ∀ i (h : i < c.vals.length), B7 ok l cs c.vals[i] (Xj l c.kind i) = true
structure GoodH (ok : X0 → Bool) (l : List Cla) (room : Int) (cs : List Cel) : Prop where
  cells : ∀ c ∈ cs, GoodC ok l cs c
  left : 0 ≤ W4 room cs
theorem T5 (a b:List Cel):Y8 (a++b)=Y8 a+Y8 b:=by simp[Y8]
theorem L8 (a:List Cel):0≤Y8 a:=by
 unfold Y8
 induction a with
 | nil=>simp
 | cons c r b=>simp only[List.map_cons,List.sum_cons];omega
theorem K4 (a:List Cel):(a.length:Int)≤Y8 a:=by
 unfold Y8
 induction a with
 | nil=>simp
 | cons c r b=>simp only[List.map_cons,List.sum_cons,List.length_cons];omega
theorem D9 {cs:List Cel} {r:Int}:M3 cs r=true↔ ∃i:Nat,r=i∧i<cs.length:=by
 simp only[M3,Bool.and_eq_true,decide_eq_true_eq]
 constructor
 ·rintro ⟨a,b⟩;exact ⟨r.toNat,by omega,by omega⟩
 ·rintro ⟨i,rfl,h⟩;omega
theorem L4 {cs:List Cel} {i:Nat} (h:i<cs.length):Wj cs (i:Int)=cs[i]:=by
 unfold Wj;rw[Int.toNat_natCast,List.getD_eq_getElem?_getD,List.getElem?_eq_getElem h];rfl
theorem Yx {cs:List Cel} {i:Nat} (h:i<cs.length):D7 cs (i:Int)=cs[i].kind:=by
 unfold D7;rw[if_pos (D9.2 ⟨i,rfl,h⟩),L4 h]
theorem X0z {ok:X0→Bool} {cs a:List Cel} {v:Val} (h:v.sort=4→D7 cs v.ref≠[]→D7 a v.ref=D7 cs v.ref) (b:P5 ok cs v≠[]):P5 ok a v=P5 ok cs v:=by
 unfold P5 at*
 split
 ·rfl
 ·split
  ·rfl
  ·split
   ·rfl
   ·split
    ·rfl
    ·split
     ·rename_i f e g d c
      rw[if_neg f,if_neg e,if_neg g,if_neg d,if_pos c] at b
      exact h (by rw[c]) b
     ·rfl
theorem Rc {ok:X0→Bool} {l:List Cla} {cs a:List Cel} {v:Val} {k:X0} (h:v.sort=4→D7 cs v.ref≠[]→D7 a v.ref=D7 cs v.ref) (b:B7 ok l cs v k=true):B7 ok l a v k=true:=by
 unfold B7 at*
 have c:P5 ok cs v≠[]:=by
  intro e;rw[e] at b;simp at b
 rw[X0z h c];exact b
theorem Q8f {cs more:List Cel} {r:Int} (h:D7 cs r≠[]):D7 (cs++more) r=D7 cs r:=by
 have b:M3 cs r=true:=by
  cases c:M3 cs r with
  | true=>rfl
  | false=>unfold D7 at h;rw[c] at h;simp at h
 obtain ⟨i,rfl,a⟩:=D9.1 b
 rw[Yx a,Yx (by simp;omega),List.getElem_append_left a]
theorem GoodC.app {ok:X0→Bool} {l:List Cla} {cs more:List Cel} {c:Cel} (h:GoodC ok l cs c):GoodC ok l (cs++more) c:=
 ⟨h.is,h.kd,fun i a=>Rc (fun _ b=>Q8f b) (h.fits i a)⟩
section
variable {ok : X0 → Bool} {l : List Cla} {room : Int} {cs : List Cel}
theorem GoodH.snoc (h:GoodH ok l room cs) {c:Cel} (a:GoodC ok l (cs++[c]) c) (b:1+(c.vals.length:Int)≤W4 room cs):GoodH ok l room (cs++[c]):=by
 refine ⟨fun d hd=>?_,?_⟩
 ·rcases List.mem_append.1 hd with hd | hd
  ·exact (h.cells d hd).app
  ·simp at hd;subst hd;exact a
 ·unfold W4 at*;rw[T5];simp only[Y8,List.map_cons,List.map_nil,List.sum_cons,List.sum_nil] at*;omega
end
end Go.Hm
namespace Go.Proofs.YtjdiakhipmggjaaGreatDoor
open Go.Emb Go.RowKit Go.Kd Go.Hm
section
variable {l : List Cla} (wf : Wf l)
include wf
theorem Wf.field_kinds {n:X0} {f:Fld} (h:f∈Y6 (Q4 l) n):O6 (Q4 l) f.kind=true:=by
 unfold Y6 at h
 obtain ⟨c,k,e⟩:=List.mem_flatMap.1 h
 have m:=(Q6N wf.acy _ (Nat.lt_succ_self _) (by simpa using k)).2
 obtain ⟨_,a,_⟩:=V3 m
 rcases List.mem_append.1 a with g | hl
 ·have d: ∀c∈G9,∀f∈c.fields,f.kind=O9:=by decide
  rw[d c g f e]
  have:N1 (Q4 l) O9=true:=by
   have j:right O9=true:=by decide
   have i:plain (base O9).1=true:=by decide
   simp[N1,j,i]
  simp[O6,this];decide
 ·have:=wf.mem c hl
  unfold V8 at this
  split at this
  ·cases this
  ·split at this
   ·cases this
   ·rename_i b
    have b:B5 (Q4 l) c=false:=eq_false_of_ne_true b
    unfold B5 at b
    rw[Bool.or_eq_false_iff] at b
    have:=List.any_eq_false.1 b.1 f e
    simpa using this
theorem Wf.zero_fits {ok:X0→Bool} (g:ok []=true) {cs:List Cel} {k:X0} (h:O6 (Q4 l) k=true):B7 ok (Q4 l) cs (L9 k) k=true:=by
 have b:N1 (Q4 l) k=true∧k≠H7:=by
  simp only[O6,Bool.and_eq_true,Bool.not_eq_true',decide_eq_false_iff_not] at h;exact ⟨h.2,h.1⟩
 by_cases f:k=P7
 ·subst f
  have:B7 ok (Q4 l) cs (L9 P7) P7=Xv (Q4 l) P7 P7:=by
   unfold B7;simp[L9,P5,Val.zero,P7]
  rw[this];exact wf.sub_refl b.1
 by_cases d:k=Zx
 ·subst d
  have:B7 ok (Q4 l) cs (L9 Zx) Zx=Xv (Q4 l) Zx Zx:=by
   unfold B7;simp[L9,P5,Val.zero,Zx,P7]
  rw[this];exact wf.sub_refl b.1
 by_cases c:k=O9
 ·subst c
  have:B7 ok (Q4 l) cs (L9 O9) O9=Xv (Q4 l) O9 O9:=by
   unfold B7;simp[L9,P5,Val.zero,Zx,P7,O9,g]
  rw[this];exact wf.sub_refl b.1
 ·have i:L9 k=Val.zero:=by simp[L9,f,d,c]
  have:B7 ok (Q4 l) cs (L9 k) k=Xv (Q4 l) H7 k:=by
   rw[i];unfold B7 P5;simp[H7]
  rw[this]
  have a:plain k=false:=by
   cases a:plain k with
   | false=>rfl
   | true=>
    simp only[plain,Bool.or_eq_true,decide_eq_true_eq] at a
    rcases a with (e | e) | e
    ·exact absurd e f
    ·exact absurd e d
    ·exact absurd e c
  exact wf.sub_iff.2 ⟨by simp[N1],b.1, .inr ⟨by decide,a, .inl rfl⟩⟩
end
theorem Q5E (a:X0):arr (a++[91,93])=true:=by
 simp[arr]
theorem Q6j (a:X0):Kd.cutA (a++[91,93])=a:=by
 simp[Kd.cutA]
theorem Q0b (a:X0):base (a++[91,93])=((base a).1,(base a).2+1):=by
 rw[Xo,Q5E,if_pos rfl,Q6j]
theorem Q7R {a:X0} (h:right a=true) (b:(base a).2≤2):right (a++[91,93])=true:=by
 unfold right at*
 rw[Q0b]
 simp only[Bool.and_eq_true,decide_eq_true_eq] at*
 exact ⟨by omega,h.2⟩
theorem Q9A {a:X0} (h:right (a++[91,93])=true):elem (a++[91,93])=a:=by
 unfold elem;rw[Q5E,h,Q6j];rfl
theorem Q8l {l:List Cla} {e:X0}:G2 l e=true↔O6 l e=true∧right (e++[91,93])=true:=by
 unfold G2 O6
 simp only[Bool.and_eq_true,Bool.not_eq_true',decide_eq_false_iff_not,decide_eq_true_eq]
 constructor
 ·rintro ⟨⟨b,h2⟩,a⟩
  have c:right e=true:=by
   unfold N1 at h2
   simp only[Bool.or_eq_true,Bool.and_eq_true,decide_eq_true_eq] at h2
   rcases h2 with h2 | h2
   ·exact absurd h2 b
   ·exact h2.1
  unfold Xt at a
  rw[if_pos c] at a
  exact ⟨⟨b,h2⟩,Q7R c a⟩
 ·rintro ⟨⟨b,h2⟩,a⟩
  refine ⟨⟨b,h2⟩,?_⟩
  unfold right at a
  rw[Q0b] at a
  simp only[Bool.and_eq_true,decide_eq_true_eq] at a
  unfold Xt
  split
  ·omega
  ·omega
section
variable {ok : X0 → Bool} {l : List Cla} {room : Int} {cs : List Cel}
theorem GoodH.obj (wf:Wf l) (f:ok []=true) (h:GoodH ok (Q4 l) room cs) (k:X0):GoodH ok (Q4 l) room (Zr (Q4 l) room cs k).1:=by
 unfold Zr
 split
 ·exact h
 split
 ·exact h
 rename_i a j
 have a:A4 (Q4 l) k=true:=by simpa using a
 have e: ∃c,lk (Q4 l) k=some c:=by
  unfold A4 at a
  cases b:lk (Q4 l) k with
  | none=>rw[b] at a;cases a
  | some c=>exact ⟨c,rfl⟩
 obtain ⟨c,b⟩:=e
 have g:elem k=[]:=wf.lkArr b
 refine h.snoc ⟨.inr ⟨a,by simp⟩,wf.kind b,fun i d=>?_⟩ (by simp only[List.length_map];omega)
 simp only[List.length_map] at d
 simp only[List.getElem_map,Xj,g,if_pos]
 rw[List.getD_eq_getElem?_getD,List.getElem?_eq_getElem d]
 exact wf.zero_fits f (wf.field_kinds (List.getElem_mem d))
theorem GoodH.arr (wf:Wf l) (k:ok []=true) (h:GoodH ok (Q4 l) room cs) (e:X0) (n:Int):GoodH ok (Q4 l) room (Zu (Q4 l) room cs e n).1:=by
 unfold Zu
 split
 ·exact h
 split
 ·exact h
 split
 ·exact h
 rename_i d o p
 have d:G2 (Q4 l) e=true:=by simpa using d
 obtain ⟨g,c⟩:=Q8l.1 d
 have j:=Q9A c
 have a:e≠[]:=by
  rintro rfl
  revert c;decide
 have b:N1 (Q4 l) (e++[91,93])=true:=by
  have b:=g
  unfold O6 at b
  simp only[Bool.and_eq_true,Bool.not_eq_true',decide_eq_false_iff_not] at b
  obtain ⟨f,hk2⟩:=b
  unfold N1 at hk2⊢
  simp only[Bool.or_eq_true,Bool.and_eq_true,decide_eq_true_eq] at hk2⊢
  rcases hk2 with hk2 | hk2
  ·exact absurd hk2 f
  ·right;rw[Q0b];exact ⟨c,hk2.2⟩
 refine h.snoc ⟨.inl (by simp only;rw[j];exact a),b,fun i m=>?_⟩ (by simp only[List.length_replicate];omega)
 simp only[List.getElem_replicate,Xj,j,if_neg a]
 exact wf.zero_fits k g
theorem Q38 {r b x:Int} {v:Val} (g:M3 cs r=true):D7 (F0 cs r b v) x=D7 cs x:=by
 obtain ⟨i,rfl,f⟩:=D9.1 g
 have a:(F0 cs i b v).length=cs.length:=by simp[F0]
 cases c:M3 cs x with
 | false=>
  have:M3 (F0 cs i b v) x=false:=by unfold M3 at*;rw[a];exact c
  unfold D7;rw[c,this];rfl
 | true=>
  obtain ⟨j,rfl,d⟩:=D9.1 c
  rw[Yx d,Yx (by rw[a];exact d)]
  simp only[F0,Int.toNat_natCast,L4 f,List.getElem_set]
  split
  ·rename_i e;subst e;rfl
  ·rfl
theorem Lk {r a:Int} (h:E2 cs r a=0): ∃i j:Nat,r=i∧a=j∧ ∃(b:i<cs.length),j<(cs[i]).vals.length:=by
 unfold E2 at h
 split at h
 ·rename_i c
  obtain ⟨i,rfl,b⟩:=D9.1 c
  split at h
  ·rename_i d
   rw[L4 b] at d
   exact ⟨i,a.toNat,rfl,by omega,b,by omega⟩
  ·cases h
 ·cases h
theorem GoodH.set (h:GoodH ok (Q4 l) room cs) (r m:Int) (v:Val):GoodH ok (Q4 l) room (H5 ok (Q4 l) cs r m v).1:=by
 unfold H5
 split
 ·exact h
 rename_i o
 have o:E2 cs r m=0:=by simpa using o
 split
 ·rename_i t
  obtain ⟨i,j,rfl,rfl,g,C⟩:=Lk o
  have y:M3 cs (i:Int)=true:=D9.2 ⟨i,rfl,g⟩
  rw[L4 g,Int.toNat_natCast] at t
  refine ⟨fun c w=>?_,?_⟩
  ·have a: ∀{u:Val} {k:X0},B7 ok (Q4 l) cs u k=true→B7 ok (Q4 l) (F0 cs i j v) u k=true:=fun z=>Rc (fun _ _=>Q38 y) z
   have b: ∀d∈cs,GoodC ok (Q4 l) (F0 cs i j v) d:=fun d s=>⟨(h.cells d s).is,(h.cells d s).kd,fun q n=>a ((h.cells d s).fits q n)⟩
   have f:c∈cs.set i ⟨cs[i].kind,cs[i].vals.set j v⟩:=by simpa [F0,L4 g] using w
   rcases List.mem_or_eq_of_mem_set f with f | rfl
   ·exact b c f
   ·have p:=b _ (List.getElem_mem g)
    refine ⟨by simpa using p.is,p.kd,fun q n=>?_⟩
    simp only[List.length_set] at n
    simp only[List.getElem_set]
    split
    ·rename_i e;subst e;exact a t
    ·exact p.fits q n
  ·have e:Y8 (F0 cs i j v)=Y8 cs:=by
    unfold Y8
    congr 1
    have A:(F0 cs i j v).map (fun c=>1+(c.vals.length:Int))=cs.map (fun c=>1+(c.vals.length:Int)):=by
     unfold F0
     rw[List.map_set,L4 g]
     simp only[List.length_set,Int.toNat_natCast]
     have B:1+(cs[i].vals.length:Int)=(cs.map (fun c=>1+(c.vals.length:Int)))[i]'(by simpa using g):=by simp
     rw[B,List.set_getElem_self]
    exact A
   have:=h.left
   unfold W4 at*
   rw[e];exact this
 ·exact h
theorem GoodH.cut (h:GoodH ok (Q4 l) room cs) (n:Int):GoodH ok (Q4 l) room (Py cs n):=by
 unfold Py
 split
 ·exact h
 rename_i hn
 have hn:=eq_false_of_ne_true hn
 generalize hm:max n 0=m at*
 have hm0:0≤m:=by omega
 refine ⟨fun c hc=>?_,?_⟩
 ·have hcs:=List.mem_of_mem_take hc
  refine ⟨(h.cells c hcs).is,(h.cells c hcs).kd,fun i hi=>Rc (fun h4 hk=>?_) ((h.cells c hcs).fits i hi)⟩
  have h1:=List.any_eq_false.1 hn c hc
  have h2: ¬G0 m c.vals[i]=true:=fun e=>h1 (List.any_eq_true.2 ⟨_,List.getElem_mem hi,e⟩)
  have hr:M3 cs c.vals[i].ref=true:=by
   cases he:M3 cs c.vals[i].ref with
   | true=>rfl
   | false=>unfold D7 at hk;rw[he] at hk;simp at hk
  obtain ⟨j,hj,hjl⟩:=D9.1 hr
  have hjm:(j:Int)<m:=by
   simp only[G0,Bool.and_eq_true,decide_eq_true_eq,not_and] at h2
   have:=h2 h4
   omega
  rw[hj,Yx hjl,Yx (by rw[List.length_take];omega)]
  simp
 ·have:Y8 cs=Y8 (cs.take m.toNat)+Y8 (cs.drop m.toNat):=by rw[←T5,List.take_append_drop]
  have h3:=L8 (cs.drop m.toNat)
  have:=h.left
  unfold W4 at*
  omega
theorem GoodH.act (wf:Wf l) (a:ok []=true) (h:GoodH ok (Q4 l) room cs) (x:ActH):GoodH ok (Q4 l) room (B3 ok (Q4 l) room cs x):=by
 unfold B3
 split
 ·exact GoodH.obj wf a h _
 split
 ·exact GoodH.arr wf a h _ _
 split
 ·exact GoodH.set h _ _ _
 split
 ·exact GoodH.cut h _
 ·exact h
theorem GoodH.empty (a:0≤room):GoodH ok l room []:=⟨by simp,by simpa [W4,Y8] using a⟩
end
end Go.Proofs.YtjdiakhipmggjaaGreatDoor

namespace Go.Emb
open Go.RowKit Go.Hm
variable {P : Program} {w w0 w1 w' w'' : World} {K : Value → World → Prop} {σ σ0 σ1 σ' : Q6}
def M7 (_:Q6) (v:Val) (cs:List Value):Prop:=cs=[I v.sort,I v.n,S v.s,I v.ref]∧Yy v.sort∧Yy v.n∧v.s.length≤U1∧Yy v.ref
instance:Rep M7:=⟨fun _ h=>h,fun h u hu=>by rw[h.1] at hu;simp at hu;rcases hu with rfl | rfl | rfl | rfl<;>rfl⟩
def E5 (σ:Q6) (c:Cel) (cs:List Value):Prop:= ∃v,cs=[S c.kind,v]∧Sl 4 M7 σ v c.vals∧c.kind.length≤U1
instance:Rep E5:=⟨fun hk ⟨v,h1,h2,h3⟩=>⟨v,h1,h2.le hk,h3⟩,fun ⟨v,h1,h2,h3⟩ u hu=>by
 rw[h1] at hu;simp at hu;rcases hu with rfl | rfl
 ·rfl
 ·exact A0 h2⟩
theorem Q9n {c:Cel} {cs:List Value} (h:E5 σ0 c cs) (k:SLe σ0 σ):E5 σ c cs:=Rep.up k.le h
def Q3y (_:Q6) (x:List UInt8×Value) (cs:List Value):Prop:=cs=[S x.1,x.2]∧x.1.length≤U1∧ ∃a n c,x.2= .slice a n c
instance:Rep Q3y:=⟨fun _ h=>h,fun ⟨h1,_,a,n,c,h2⟩ u hu=>by
 rw[h1,h2] at hu;simp at hu;rcases hu with rfl | rfl<;>rfl⟩
section
variable {α : Type} {R : Q6 → α → List Value → Prop} {B sz : Nat} {e : TypeId} {v u : Value} {xs : List α}
theorem J7.shiftR [hr:Rep R] (h:J7 B e sz R σ w v xs) (A:SLe σ σ') (m: ∀k,v.ownBlock=some k→σ' k=none):J7 B e sz R σ' w v xs:=by
 obtain ⟨a,j,rfl,y,q,c,r⟩:=h
 refine ⟨a,j,rfl,y,q,fun b d=>⟨(c b d).1,(c b d).2.1,(c b d).2.2.1,by subst d;exact m _ rfl⟩,fun t=>?_⟩
 obtain ⟨g,l,f,rfl,s,C,o,p,z⟩:=r t
 exact ⟨g,l,f,rfl,s,m g rfl,o,p,fun i x n=>hr.up A.le (z i x n)⟩
def Hy (w:World):World:={w with heap:= #[]}
theorem A6 (d:X3 w σ):Stp (Hy w) (fun _=>none) w σ:=
 ⟨⟨rfl,rfl,rfl,Nat.zero_le _,fun k c=>absurd c (Nat.not_lt_zero k)⟩,d,fun _ _ h=>(by cases h),fun b a=>absurd a (Nat.not_lt_zero b)⟩
theorem J7.freeze [hr:Rep R] (b:X3 w σ) (h:J7 B e sz R σ w v xs): ∃σ',X3 w σ'∧SLe σ σ'∧Sl sz R σ' v xs∧ ∀k,some k≠v.ownBlock→σ' k=σ k:=by
 obtain ⟨σ',c,d,f,a⟩:=(h.mono (Nat.zero_le B):J7 (Hy w).heap.size e sz R σ w v xs).keep (A6 b)
 exact ⟨σ',c.sat,f,d,a⟩
theorem Y2.freeze {b:Nat} {cs:List Value} (c:X3 w σ) (h:Y2 σ w b cs): ∃σ',X3 w σ'∧SLe σ σ'∧Z4 σ' ⟨b,0,none⟩ cs∧ ∀k,k≠b→σ' k=σ k:=by
 obtain ⟨σ',d,f,g,a⟩:=h.keep (A6 c) (Nat.zero_le b)
 exact ⟨σ',d.sat,⟨g⟩,f,a⟩
end
def X1c (vs:List Value):Prop:=vs.Pairwise fun a b=> ∀k,a.ownBlock=some k→b.ownBlock≠some k
def Q3s (B:Nat) (e:TypeId) (σ:Q6) (w:World) (vs:List Value) (cs:List Cel):Prop:=vs.length=cs.length∧ ∀i (h:i<vs.length) (a:i<cs.length),J7 B e 4 M7 σ w vs[i] cs[i].vals
theorem Q3s.freeze {B:Nat} {e:TypeId}: ∀{vs:List Value} {cs:List Cel} {σ:Q6},X3 w σ→Q3s B e σ w vs cs→X1c vs→
 ∃σ',X3 w σ'∧SLe σ σ'∧(∀i (h:i<vs.length) (z:i<cs.length),Sl 4 M7 σ' vs[i] cs[i].vals)∧ ∀k,(∀v∈vs,v.ownBlock≠some k)→σ' k=σ k
 | [],cs,σ,d,h,j=>⟨σ,d,SLe.refl _,fun i h=>absurd h (Nat.not_lt_zero i),fun _ _=>rfl⟩
 | v::vs,[],σ,d,h,j=>by have:=h.1;simp at this
 | v::vs,c::cs,σ,d,h,j=>by
  obtain ⟨σ1,s,m,t,o1⟩:=(h.2 0 (by simp) (by simp)).freeze d
  obtain ⟨g,l⟩:=List.pairwise_cons.1 j
  have q:Q3s B e σ1 w vs cs:=⟨by simpa using h.1,fun i f a=>by
   have:=h.2 (i+1) (by simpa using f) (by simpa using a)
   simp only[List.getElem_cons_succ] at this
   refine this.shiftR m fun k b=>?_
   rw[o1 k fun e=>g _ (List.getElem_mem f) k e.symm b]
   exact (this.mem b).2.2⟩
  obtain ⟨o,y,n,p,o2⟩:=Q3s.freeze s q l
  refine ⟨o,y,m.more n,fun i f a=>?_,fun k b=>?_⟩
  ·cases i with
   | zero=>exact t.lift n
   | succ i=>exact p i (by simpa using f) (by simpa using a)
  ·rw[o2 k fun u r=>b u (by simp[r]),o1 k fun e=>b v (by simp) e.symm]
def R8 (vs:List Value) (cs:List Cel):List (List UInt8×Value):=List.zipWith (fun v c=>(c.kind,v)) vs cs
theorem Yq {vs:List Value} {cs:List Cel} (h:vs.length=cs.length):(R8 vs cs).length=cs.length:=by simp[R8,h]
end Go.Emb
namespace Go.Proofs.YtjdiakhipmggjaaGreatDoor
open Go.Emb Go.RowKit Go.Kd Go.Hm
variable {w w' : World} {K : Value → World → Prop} {σ σ' : Q6}
def H9 (σ:Q6) (hp tv:Value) (room:Int) (cs:List Cel):Prop:= ∃a lv,hp= .pointer (some a)∧Z4 σ a [tv,I room,I (Y8 cs),lv]∧Sl 2 E5 σ lv cs
theorem H9.lift {hp tv:Value} {room:Int} {cs:List Cel} (h:H9 σ hp tv room cs) (b:SLe σ σ'):H9 σ' hp tv room cs:=by
 obtain ⟨a,lv,c,d,f⟩:=h
 exact ⟨a,lv,c,d.lift b,f.lift b⟩
structure RowsIs (B : Nat) (D : Nat → Prop) (σ : Q6) (w : World) (lv : Value) (cs : List Cel) : Prop where
  ex : ∃ vs, J7 B T.m 2 Q3y σ w lv (R8 vs cs) ∧ Q3s B T.g σ w vs cs ∧ X1c (lv :: vs) ∧ ∀ k, D k ↔ ∃ v ∈ lv :: vs, v.ownBlock = some k
structure HeapIs (B : Nat) (D : Nat → Prop) (σ : Q6) (w : World) (hp tv : Value) (room : Int) (cs : List Cel) : Prop where
  ex : ∃ b lv E, hp = .pointer (some ⟨b, 0, none⟩) ∧ B ≤ b ∧ Y2 σ w b [tv, I room, I (Y8 cs), lv] ∧ RowsIs B E σ w lv cs ∧ ¬ E b ∧ ∀ k, D k ↔ (k = b ∨ E k)
section
variable {B : Nat} {D E : Nat → Prop} {lv hp tv : Value} {room : Int} {cs : List Cel}
theorem RowsIs.mem (h:RowsIs B D σ w lv cs) {k:Nat} (a:D k):B≤k∧k<w.heap.size∧σ k=none:=by
 obtain ⟨vs,d,c,f,hD⟩:=h.ex
 obtain ⟨v,hv,a⟩:=(hD k).1 a
 rcases List.mem_cons.1 hv with rfl | hv
 ·exact d.mem a
 ·obtain ⟨i,b,rfl⟩:=List.getElem_of_mem hv
  exact (c.2 i b (by rw[←c.1];exact b)).mem a
theorem RowsIs.nx (h:RowsIs B D σ w lv cs) (k:Nxt E w σ w' σ') (d: ∀k,D k→ ¬E k):RowsIs B D σ' w' lv cs:=by
 obtain ⟨vs,f,c,g,hD⟩:=h.ex
 exact ⟨vs,f.nx k fun i a=>d i ((hD i).2 ⟨lv,by simp,a⟩),⟨c.1,fun i a b=>(c.2 i a b).nx k fun j l=>d j ((hD j).2 ⟨vs[i],by simp[List.getElem_mem a],l⟩)⟩,g,hD⟩
theorem RowsIs.up (h:RowsIs B D σ w lv cs) (k:Stp w σ w' σ'):RowsIs B D σ' w' lv cs:=
 h.nx (E:=fun _=>False) (.of_stp k) fun _ _=>id
theorem RowsIs.freeze (h:RowsIs B D σ w lv cs) (y:X3 w σ): ∃σ',X3 w σ'∧SLe σ σ'∧Sl 2 E5 σ' lv cs∧ ∀k,¬D k→σ' k=σ k:=by
 obtain ⟨vs,m,g,z,hD⟩:=h.ex
 obtain ⟨f,l⟩:=List.pairwise_cons.1 z
 obtain ⟨σ1,C,o,H,o1⟩:=g.freeze y l
 have j:J7 B T.m 2 Q3y σ1 w lv (R8 vs cs):=m.shiftR o fun k a=>by
  rw[o1 k fun v d e=>f v d k a e];exact (m.mem a).2.2
 obtain ⟨s,J,q,t,o2⟩:=j.freeze C
 refine ⟨s,J,o.more q,t.conv (R':=E5) (ys:=cs) (by rw[Yq g.1]) fun i L r c A=>?_,fun k a=>?_⟩
 ·have b:i<vs.length:=by rw[g.1];exact r
  obtain ⟨p,n,_⟩:=A
  have e:(R8 vs cs)[i]=(cs[i].kind,vs[i]):=by simp[R8]
  rw[e] at p n
  exact ⟨vs[i],p,(H i b r).lift q,n⟩
 ·rw[o2 k fun e=>a ((hD k).2 ⟨lv,by simp,e.symm⟩),o1 k fun v d e=>a ((hD k).2 ⟨v,by simp[d],e⟩)]
theorem HeapIs.mem (h:HeapIs B D σ w hp tv room cs) {k:Nat} (hk:D k):B≤k∧k<w.heap.size∧σ k=none:=by
 obtain ⟨b,lv,E,rfl,hB,a,c,hE,hD⟩:=h.ex
 rcases (hD k).1 hk with rfl | hk
 ·exact ⟨hB,a.lt,a.1⟩
 ·exact c.mem hk
theorem HeapIs.nx {F:Nat→Prop} (h:HeapIs B D σ w hp tv room cs) (k:Nxt F w σ w' σ') (a: ∀k,D k→ ¬F k):HeapIs B D σ' w' hp tv room cs:=by
 obtain ⟨b,lv,E,rfl,hB,f,d,hE,hD⟩:=h.ex
 exact ⟨b,lv,E,rfl,hB,f.nx k (a b ((hD b).2 (.inl rfl))),d.nx k fun i c=>a i ((hD i).2 (.inr c)),hE,hD⟩
theorem HeapIs.up (h:HeapIs B D σ w hp tv room cs) (k:Stp w σ w' σ'):HeapIs B D σ' w' hp tv room cs:=
 h.nx (F:=fun _=>False) (.of_stp k) fun _ _=>id
theorem HeapIs.freeze (h:HeapIs B D σ w hp tv room cs) (i:X3 w σ): ∃σ',X3 w σ'∧SLe σ σ'∧H9 σ' hp tv room cs∧ ∀k,¬D k→σ' k=σ k:=by
 obtain ⟨b,lv,E,rfl,hB,d,n,hE,hD⟩:=h.ex
 obtain ⟨σ1,o,j,p,o1⟩:=n.freeze i
 have a:Y2 σ1 w b [tv,I room,I (Y8 cs),lv]:=⟨by rw[o1 b hE];exact d.1,d.2⟩
 obtain ⟨g,l,c,q,m⟩:=a.freeze o
 exact ⟨g,l,j.more c,⟨_,lv,rfl,q,p.lift c⟩,fun k f=>by rw[m k fun e=>f ((hD k).2 (.inl e)),o1 k fun e=>f ((hD k).2 (.inr e))]⟩
end
end Go.Proofs.YtjdiakhipmggjaaGreatDoor

namespace Go.Emb
open Go.RowKit Go.Hm
variable {H : Type} {enc : TypeId × Value → H} {P : Program} {W : World} {t : TypeId} {cs : List Value} {fuel : Nat} {x : DataW H × List MemPlace}
theorem X2r {j:Array Field} (g:P.underlying t=some (.struct j)) (h:DataW.trod enc P W 0 (fun _=>true) true fuel t cs=some x) (z:Wt P t x.1) (i:Nat) {o m:Nat} {b:TypeId}
 (k:(j[i]?).map (fun f=>(f.type,f.offset))=some (b,o)) (r:P.cellsOf b=m): ∃n y,DataW.trod enc P W 0 (fun _=>true) true n b ((cs.drop o).take m)=some y∧Wt P b y.1:=by
 obtain ⟨xs,n,_,rfl,A,l,q⟩:=DataW.trod_struct g h
 obtain ⟨f,a,s⟩:=Option.map_eq_some_iff.1 k
 cases s
 have c:=q i f a
 have e:i<xs.length:=by rw[l];exact (Array.getElem?_eq_some_iff.1 a).1
 rw[List.getElem?_eq_getElem e,r] at c
 refine ⟨n,_,c,fun m w=>z m ?_⟩
 simp only[DataW.weights,g]
 exact Q7s (i:=i) (u:=f.type) (by rw[List.getElem?_map,Array.getElem?_toList,a];rfl) (by rw[List.getElem?_map,List.getElem?_eq_getElem e];rfl) m w
def Bo (_:Q6) (x:ActH) (cs:List Value):Prop:=cs=[I x.kind,S x.s,I x.n,I x.ref,I x.v.sort,I x.v.n,S x.v.s,I x.v.ref]∧(Yy x.kind∧x.s.length≤U1∧Yy x.n∧Yy x.ref)∧Yy x.v.sort∧Yy x.v.n∧x.v.s.length≤U1∧Yy x.v.ref
instance:Rep Bo:=⟨fun _ h=>h,fun h u hu=>by rw[h.1] at hu;simp at hu;rcases hu with rfl | rfl | rfl | rfl | rfl | rfl | rfl | rfl<;>rfl⟩
end Go.Emb
namespace Go.Proofs.YtjdiakhipmggjaaGreatDoor
open Go.Emb Go.RowKit Go.Kd Go.Hm
variable {H : Type} {enc : TypeId × Value → H} {W : World} {cs : List Value} {fuel : Nat} {x : DataW H × List MemPlace}
def X3N:Array Field:= #[⟨"Sort",T.e,0,false, "", "",0⟩,⟨"N",T.a1,1,false, "", "",8⟩,⟨"S",T.c,2,false, "", "",16⟩,⟨"Ref",T.e,3,false, "", "",32⟩]
theorem Q3o:P.underlying T.g=some (.struct X3N):=by kernel_rfl
theorem Q78:P.underlying T.a1=some (.int .i64):=by kernel_rfl
theorem X3l (h:DataW.trod enc P W 0 (fun _=>true) true fuel T.g cs=some x) (a:Wt P T.g x.1): ∃y,M7 (Wl W) y cs:=by
 obtain ⟨c0,C,B,A,rfl⟩:=X44 (Q8W Q3o (by kernel_rfl) h)
 obtain ⟨_,_,q,w0⟩:=Wy (o:=0) Q3o h a 0 rfl Q4U
 obtain ⟨_,_,u,w1⟩:=Wy (o:=1) Q3o h a 1 rfl (by kernel_rfl)
 obtain ⟨_,_,r,g⟩:=Wy (o:=2) Q3o h a 2 rfl Pw
 obtain ⟨_,_,l,D⟩:=Wy (o:=3) Q3o h a 3 rfl Q4U
 obtain ⟨i,b,w⟩:=Gg Q1s q
 obtain ⟨n,e,k⟩:=Gg Q78 u
 obtain ⟨z,f,s⟩:=Q9b X8 r g
 obtain ⟨j,c,m⟩:=Gg Q1s l
 simp at b e f c
 subst b e f c
 exact ⟨⟨i,n,z,j⟩,rfl,w,k,s,m⟩
def X3y:Array Field:= #[⟨"Kind",T.e,0,false, "", "",0⟩,⟨"S",T.c,1,false, "", "",8⟩,⟨"N",T.a1,2,false, "", "",24⟩,⟨"Ref",T.e,3,false, "", "",32⟩,⟨"V",T.g,4,false, "", "",40⟩]
theorem Q1t:P.underlying T.n=some (.struct X3y):=by kernel_rfl
theorem X3h (h:DataW.trod enc P W 0 (fun _=>true) true fuel T.n cs=some x) (a:Wt P T.n x.1): ∃y,Bo (Wl W) y cs:=by
 obtain ⟨c0,Y,U,O,Q,c5,V,X,rfl⟩:=X3T (Q8W Q1t (by kernel_rfl) h)
 obtain ⟨_,_,A,w0⟩:=Wy (o:=0) Q1t h a 0 rfl Q4U
 obtain ⟨_,_,D,w1⟩:=Wy (o:=1) Q1t h a 1 rfl Pw
 obtain ⟨_,_,B,R⟩:=Wy (o:=2) Q1t h a 2 rfl (by kernel_rfl)
 obtain ⟨_,_,r,Z⟩:=Wy (o:=3) Q1t h a 3 rfl Q4U
 obtain ⟨_,_,w,M⟩:=X2r (o:=4) (m:=4) Q1t h a 4 rfl (by kernel_rfl)
 obtain ⟨i,b,E⟩:=Gg Q1s A
 obtain ⟨u,f,n⟩:=Q9b X8 D w1
 obtain ⟨N,g,C⟩:=Gg Q78 B
 obtain ⟨l,c,s⟩:=Gg Q1s r
 obtain ⟨k,e,q⟩:=X3l w M
 simp at b f g c e
 obtain ⟨z,j,J,L⟩:=e
 subst b f g c z j J L
 exact ⟨⟨i,u,N,l,k⟩,rfl,⟨E,n,C,s⟩,q⟩
theorem Q8U:P.underlying T.z=some (.slice T.n):=by kernel_rfl
section
variable {v : Value} {d : DataW H} {p : List MemPlace}
set_option maxRecDepth 100000 in
theorem X1V {base:Nat} (f:Value.okWide P W .any base T.z v) (h:DataW.Trod enc P W 0 (fun _=>true) true T.z v d p) (b:Wt P T.z d): ∃l,Sl 8 Bo (Wl W) v l:=by
 obtain ⟨a,n,c,rfl⟩:=WideShapes.okWide_slice Q8U f
 unfold DataW.Trod at h
 obtain ⟨fuel,h⟩:=h
 obtain ⟨u,l,e,g⟩:=X3S (R:=Bo) (sz:=8) Q8U (by kernel_rfl) (by decide) (fun _ _ _ h b=>X3h h b) h b
 simp[Value.cells] at e
 subst e
 exact ⟨l,g⟩
end
end Go.Proofs.YtjdiakhipmggjaaGreatDoor

namespace Go.Emb
open Go.RowKit Go.Hm
variable {P : Program} {w : World} {K : Value → World → Prop}
theorem Q93 (n:Int):(BitVec.ofInt 64 n &&& BitVec.ofInt 64 1).toNat=(n % 2).toNat:=by
 rw[BitVec.toNat_and,BitVec.toNat_ofInt,BitVec.toNat_ofInt]
 have e:((1:Int) % ((2 ^ 64:Nat):Int)).toNat=1:=by decide
 rw[e,Nat.and_one_is_mod]
 omega
theorem X3c {t:TypeId} {a b:Operand} {n:Int} (h:K (I (n % 2)) w):Q3 P .and t a b (I n) (I 1) w K:=by
 have e:Q3 P .and t a b (I n) (I 1) w K=K (I (n % 2)) w:=Y0 (by
  have d:(BitVec.ofInt IntKind.i64.bits n &&& BitVec.ofInt IntKind.i64.bits 1).toNat=(n % 2).toNat:=Q93 n
  have f:IntKind.i64.wrap ((n % 2).toNat:Int)=n % 2:=by rw[F9 (by omega) (by omega)];omega
  have c:((n % 2 ^ IntKind.i64.bits).toNat &&& 1 % 2 ^ IntKind.i64.bits)=(n % 2).toNat:=by
   show ((n % 18446744073709551616).toNat &&& 1)=_
   rw[Nat.and_one_is_mod];omega
  simp[eqGuard,binOp,Op.intBits,c]
  rw[show max (n % 2) 0=n % 2 by omega,F9 (by omega) (by omega)])
 rw[e];exact h
end Go.Emb
namespace Go.Proofs.YtjdiakhipmggjaaGreatDoor
open Go.Emb Go.RowKit Go.Kd Go.Hm
variable {w w' : World} {K : Value → World → Prop} {σ σ' : Q6} {hp tv : Value} {room : Int} {cs : List Cel} {l : List Cla}
theorem X2D:(P.fieldsOf T.g).toList=[⟨"Sort",T.e,0,false, "", "",0⟩,⟨"N",T.a1,1,false, "", "",8⟩,⟨"S",T.c,2,false, "", "",16⟩,⟨"Ref",T.e,3,false, "", "",32⟩]:=by kernel_rfl
set_option maxRecDepth 100000 in
theorem Q7G (a b:Val):(Op.eqFields 9999 [I a.sort,I a.n,S a.s,I a.ref].toArray [I b.sort,I b.n,S b.s,I b.ref].toArray (P.fieldsOf T.g).toList).run P w= .ok (decide (a=b)) w:=by
 rw[X2D]
 have:=Pg (P:=P) (w:=w) (d:=9999) (xs:=[I a.sort,I a.n,S a.s,I a.ref].toArray) (ys:=[I b.sort,I b.n,S b.s,I b.ref].toArray) (f:=⟨"Sort",T.e,0,false, "", "",0⟩) (by decide) rfl rfl (Q3H (k:= .i64) (by kernel_rfl) _ _)
  (Pg (f:=⟨"N",T.a1,1,false, "", "",8⟩) (by decide) rfl rfl (Q3H (k:= .i64) (by kernel_rfl) _ _) (Pg (f:=⟨"S",T.c,2,false, "", "",16⟩) (by decide) rfl rfl (X2l X8 _ _) (Pg (f:=⟨"Ref",T.e,3,false, "", "",32⟩) (by decide) rfl rfl (Q3H (k:= .i64) (by kernel_rfl) _ _) X2k)))
 rw[this]
 congr 1
 obtain ⟨i,g,m,c⟩:=a
 obtain ⟨o,e,j,h⟩:=b
 simp[Bool.decide_and]
theorem Rt {a b d:Int} {c:X0}: ∀u∈[I a,I b,S c,I d],u.oneCell'=true:=by
 intro u e
 simp only[List.mem_cons,List.not_mem_nil,or_false] at e
 rcases e with rfl | rfl | rfl | rfl<;>rfl
set_option maxRecDepth 100000 in
theorem Dr {j k:Operand} {e c a i b d:Int} {g f:X0} (h:K (.bool (decide ((⟨e,c,g,a⟩:Val)=⟨i,b,f,d⟩))) w):Q3 P .eql T.g j k (.agg [I e,I c,S g,I a].toArray) (.agg [I i,I b,S f,I d].toArray) w K:=
 X1Z (by kernel_rfl) (by kernel_rfl) (by kernel_rfl) (Q7G ⟨e,c,g,a⟩ ⟨i,b,f,d⟩) h
set_option maxRecDepth 100000 in
theorem X1Q {j k:Operand} {e c a i b d:Int} {g f:X0} (h:K (.bool (!decide ((⟨e,c,g,a⟩:Val)=⟨i,b,f,d⟩))) w):Q3 P .neq T.g j k (.agg [I e,I c,S g,I a].toArray) (.agg [I i,I b,S f,I d].toArray) w K:=
 X25 (by kernel_rfl) (by kernel_rfl) (by kernel_rfl) (Q7G ⟨e,c,g,a⟩ ⟨i,b,f,d⟩) h
theorem Sl.elV {v:Value} {xs:List Val} (h:Sl 4 M7 σ v xs) {i:Nat} (b:i<xs.length):Z4 σ (Vo 4 v i) [I xs[i].sort,I xs[i].n,S xs[i].s,I xs[i].ref]∧M7 σ xs[i] [I xs[i].sort,I xs[i].n,S xs[i].s,I xs[i].ref]:=by
 obtain ⟨cs,c,d,rfl,a⟩:=h.el b;exact ⟨c,rfl,a⟩
theorem Sl.elO {v:Value} {xs:List Cel} (h:Sl 2 E5 σ v xs) {i:Nat} (c:i<xs.length): ∃a,Z4 σ (Vo 2 v i) [S xs[i].kind,a]∧Sl 4 M7 σ a xs[i].vals∧xs[i].kind.length≤U1:=by
 obtain ⟨cs,d,f,a,rfl,e,b⟩:=h.el c;exact ⟨a,d,e,b⟩
theorem X2Q (c:X3 w σ) (hh:H9 σ hp tv room cs) (h:K (I cs.length) w):Q1 P F.c2 [hp] w K:=Q1X (by
 obtain ⟨a,e,rfl,d,b⟩:=hh
 unfold Ht
 (try simp only[↓M1,M1,Mb,reduceIte])
 refine ld c d rfl ?_
 refine Q8 b ?_
 exact h)
theorem X08 (b:X3 w σ) (hh:H9 σ hp tv room cs) (h:K tv w):Q1 P F.bA [hp] w K:=As (by
 obtain ⟨a,e,rfl,c,d⟩:=hh
 unfold Oy
 rw[L7,fa]
 exact ld b c rfl h)
theorem Q7A (d:X3 w σ) (hh:H9 σ hp tv room cs) (f:0≤W4 room cs) (i:room≤1048576) (h: ∀w',Below w.heap.size w w'→K (I (W4 room cs)) w'):Q1 P F.af [hp] w K:=Q0Y (by
 obtain ⟨a,j,rfl,m,e⟩:=hh
 unfold Er
 have g:=L8 cs
 unfold W4 at*
 refine U2 d ?_
 (repeat refine J0 A8 ?_)
 (intros;(repeat (rename_i c;subst c));(try simp only[↓M2,M2,Mb,reduceIte]))
 rename_i k b
 rw[F9 (by omega) (by omega)]
 exact h _ b.stp.bel)
theorem Q5Y (d:X3 w σ) (hh:H9 σ hp tv room cs) {r:Int} (h:K (.bool (M3 cs r)) w):Q1 P F.aF [hp,I r] w K:=Q1T (by
 obtain ⟨a,f,rfl,e,c⟩:=hh
 unfold Hk
 refine P6 ?_
 unfold M3 at h
 cases b:decide ((0:Int)≤r) with
 | false=>
  rw[b] at h
  (try simp only[↓M1,M1,Mb,reduceIte])
  exact h
 | true=>
  rw[b] at h
  (try simp only[↓M1,M1,Mb,reduceIte])
  refine ld d e rfl ?_
  refine Q8 c ?_
  refine Z0 ?_
  (try simp only[↓M1,M1,Mb,reduceIte])
  exact h)
theorem Q7n (d:X3 w σ) (hh:H9 σ hp tv room cs) {r:Int} (h:K (S (D7 cs r)) w):Q1 P F.az [hp,I r] w K:=Q0z (by
 unfold Hc
 refine Q5Y d hh ?_
 unfold D7 at h
 cases b:M3 cs r with
 | false=>rw[b] at h;(try simp only[↓M1,M1,Mb,reduceIte]);exact h
 | true=>
  rw[b] at h
  obtain ⟨i,rfl,c⟩:=D9.1 b
  rw[L4 c] at h
  obtain ⟨a,j,rfl,g,e⟩:=hh
  obtain ⟨k,f,_,_⟩:=Sl.elO e c
  (try simp only[↓M1,M1,Mb,reduceIte])
  refine ld d g rfl ?_
  refine Y1 e c ?_
  (try simp only[↓M1,M1,Mb,reduceIte])
  exact ld d f rfl h)
theorem X2q (d:X3 w σ) (hh:H9 σ hp tv room cs) {r:Int} (h:K (I (Q5J cs r)) w):Q1 P F.bM [hp,I r] w K:=Q0t (by
 unfold Dz
 refine Q5Y d hh ?_
 unfold Q5J at h
 cases b:M3 cs r with
 | false=>rw[b] at h;(try simp only[↓M1,M1,Mb,reduceIte]);exact h
 | true=>
  rw[b] at h
  obtain ⟨i,rfl,c⟩:=D9.1 b
  rw[L4 c] at h
  obtain ⟨a,k,rfl,j,e⟩:=hh
  obtain ⟨m,f,g,_⟩:=Sl.elO e c
  (try simp only[↓M1,M1,Mb,reduceIte])
  refine ld d j rfl ?_
  refine Y1 e c ?_
  (try simp only[↓M1,M1,Mb,reduceIte])
  refine ld d f rfl ?_
  exact Q8 g h)
theorem Q7k (c:X3 w σ) (hh:H9 σ hp tv room cs) {r i:Int} (h:K (I (E2 cs r i)) w):Q1 P F.aR [hp,I r,I i] w K:=Ak (by
 unfold Db
 refine Q5Y c hh ?_
 unfold E2 at h
 cases e:M3 cs r with
 | false=>rw[e] at h;(try simp only[↓M1,M1,Mb,reduceIte]);exact h
 | true=>
  rw[e] at h
  obtain ⟨j,rfl,d⟩:=D9.1 e
  rw[L4 d] at h
  obtain ⟨a,o,rfl,n,f⟩:=hh
  obtain ⟨p,m,k,_⟩:=Sl.elO f d
  (try simp only[↓M1,M1,Mb,reduceIte])
  by_cases g:i<0
  ·rw[decide_eq_true g]
   (try simp only[↓M1,M1,Mb,reduceIte])
   rw[if_pos rfl,if_neg (by omega)] at h
   exact h
  ·rw[decide_eq_false g]
   (try simp only[↓M1,M1,Mb,reduceIte])
   refine ld c n rfl ?_
   refine Y1 f d ?_
   (try simp only[↓M1,M1,Mb,reduceIte])
   refine ld c m rfl ?_
   refine Q8 k ?_
   refine P6 ?_
   (try simp only[↓M1,M1,Mb,reduceIte])
   refine Q7 (fun b=>?_) (fun b=>?_)
   ·have b:(cs[j].vals.length:Int)≤i:=by simpa using b
    rw[if_pos rfl,if_neg (by omega)] at h
    exact h
   ·have b: ¬(cs[j].vals.length:Int)≤i:=by simpa using b
    rw[if_pos rfl,if_pos (by omega)] at h
    exact h)
theorem X3i (p:X3 w σ) (hh:H9 σ hp tv room cs) {r i:Int} (h: ∀w' σ',Stp w σ w' σ'→K (.tuple #[.agg [I (Hf cs r i).sort,I (Hf cs r i).n,S (Hf cs r i).s,I (Hf cs r i).ref].toArray,I (E2 cs r i)]) w'):Q1 P F.c1 [hp,I r,I i] w K:=Q1U (by
 unfold Hs
 refine M8 p fun b w1 σ1 y c k=>?_
 have o:=hh.lift ⟨c.le⟩
 refine Q7k c.sat o ?_
 refine Jf ?_
 unfold Hf at h
 by_cases g:E2 cs r i=0
 ·have e:decide (E2 cs r i=0)=true:=decide_eq_true g
  rw[if_pos g,g] at h
  obtain ⟨a,H,rfl,D,u⟩:=o
  simp only[e,Bool.not_true,↓M1,M1,Mb,reduceIte]
  obtain ⟨j,m,rfl,rfl,t,q⟩:=Lk g
  rw[L4 t,Int.toNat_natCast] at h
  obtain ⟨E,C,v,_⟩:=Sl.elO u t
  obtain ⟨z,B⟩:=Sl.elV v q
  refine ld c.sat D rfl ?_
  refine Y1 u t ?_
  (try simp only[↓M1,M1,Mb,reduceIte])
  refine ld c.sat C rfl ?_
  refine Y1 v q ?_
  refine Y4 c.sat z rfl ?_
  refine F6 k c (N0 y (Stp.refl p)) rfl rfl (Rep.one B) fun A d f=>?_
  refine V1 f rfl ?_
  have e:cs[j].vals.getD m Val.zero=cs[j].vals[m]:=by rw[List.getD_eq_getElem?_getD,List.getElem?_eq_getElem q];rfl
  rw[e] at h
  exact h _ _ d.stp
 ·have e:decide (E2 cs r i=0)=false:=by simpa using g
  rw[if_neg g] at h
  simp only[e,Bool.not_false,↓M1,M1,Mb,reduceIte]
  refine V6 (cells:= #[I 0,I 0,S [],I 0]) (by kernel_rfl) ?_
  refine F6 (ds:=[I 0,I 0,S [],I 0]) k c (N0 y (Stp.refl p)) rfl rfl Rt fun A d f=>?_
  refine V1 f rfl ?_
  exact h _ _ d.stp)
theorem Q9P {k:X0} (o:X3 w σ) (h: ∀w' σ',Stp w σ w' σ'→K (.agg [I (L9 k).sort,I (L9 k).n,S (L9 k).s,I (L9 k).ref].toArray) w'):Q1 P F.cv [S k] w K:=Q6J (by
 unfold Q21
 refine M8 o fun b w1 σ1 p i j=>?_
 have hB:=N0 p (Stp.refl o)
 unfold L9 at h
 have a: ∀(n:Int) (t:K (.agg [I n,I 0,S [],I 0].toArray)=K (.agg [I n,I 0,S [],I 0].toArray)),(∀w' σ',Stp w σ w' σ'→K (.agg [I n,I 0,S [],I 0].toArray) w')→X9 P T.g (.pointer (some ⟨b,0,none⟩)) (.agg #[I n,I 0,S [],I 0]) w1 fun _ g=>Y7 P T.g (.pointer (some ⟨b,0,none⟩)) g fun q=>K q g:=fun n _ r=>
  F6 (ds:=[I n,I 0,S [],I 0]) j i hB rfl rfl Rt fun g f m=>V1 m rfl (r _ _ f.stp)
 refine P4 ?_
 by_cases e:k=P7
 ·simp only[if_pos e] at h
  rw[show decide (k=[105,110,116])=true from decide_eq_true e]
  refine J5 ?_
  refine V6 (cells:= #[I 1,I 0,S [],I 0]) (by kernel_rfl) ?_
  exact a 1 rfl h
 simp only[if_neg e] at h
 rw[show decide (k=[105,110,116])=false from decide_eq_false e]
 refine Z7 ?_
 refine P4 ?_
 by_cases c:k=Zx
 ·simp only[if_pos c] at h
  rw[show decide (k=[98,111,111,108])=true from decide_eq_true c]
  refine J5 ?_
  refine V6 (cells:= #[I 2,I 0,S [],I 0]) (by kernel_rfl) ?_
  exact a 2 rfl h
 simp only[if_neg c] at h
 rw[show decide (k=[98,111,111,108])=false from decide_eq_false c]
 refine Z7 ?_
 refine P4 ?_
 by_cases d:k=O9
 ·simp only[if_pos d] at h
  rw[show decide (k=[116,101,120,116])=true from decide_eq_true d]
  refine J5 ?_
  refine V6 (cells:= #[I 3,I 0,S [],I 0]) (by kernel_rfl) ?_
  exact a 3 rfl h
 ·simp only[if_neg d] at h
  rw[show decide (k=[116,101,120,116])=false from decide_eq_false d]
  refine Z7 ?_
  refine V6 (cells:= #[I 0,I 0,S [],I 0]) (by kernel_rfl) ?_
  exact a 0 rfl h)
def W6 (s:X0):Bool:=decide (s.length≤4096)&&Lib.validD s
theorem Q8A (hh:H9 σ hp tv room cs) (r:Int):(D7 cs r).length≤U1:=by
 unfold D7
 split
 ·rename_i d
  obtain ⟨i,rfl,b⟩:=D9.1 d
  rw[L4 b]
  obtain ⟨a,e,rfl,f,c⟩:=hh
  exact (Sl.elO c b).choose_spec.2.2
 ·exact Nat.zero_le _
theorem X2f (hh:H9 σ hp tv room cs) (v:Val):(P5 W6 cs v).length≤U1:=by
 unfold P5
 split
 ·decide
 split
 ·decide
 split
 ·decide
 split
 ·decide
 split
 ·exact Q8A hh _
 ·exact Nat.zero_le _
theorem Q5m (n:Int):n=n % 2↔n=0∨n=1:=by omega
set_option maxHeartbeats 1000000 in
theorem X4a (W:X3 w σ) (X:Glb σ) (hh:H9 σ hp tv room cs) {v:Val} (Y:v.s.length≤U1) (h: ∀w' σ',Stp w σ w' σ'→K (S (P5 W6 cs v)) w'):Q1 P F.ce [hp, .agg [I v.sort,I v.n,S v.s,I v.ref].toArray] w K:=Q2q (by
 unfold Su
 refine Z1 W fun q w1 σ1 g k=>?_
 have f:=g.sat
 refine Y4 f k rfl ?_
 refine V6 (cells:= #[I 0,I 0,S [],I 0]) (by kernel_rfl) ?_
 refine Dr ?_
 unfold P5 at h
 by_cases z:v=Val.zero
 ·rw[if_pos z] at h
  have:decide ((⟨v.sort,v.n,v.s,v.ref⟩:Val)=⟨0,0,[],0⟩)=true:=decide_eq_true z
  rw[this]
  exact J5 (h _ _ g)
 rw[if_neg z] at h
 have:decide ((⟨v.sort,v.n,v.s,v.ref⟩:Val)=⟨0,0,[],0⟩)=false:=decide_eq_false z
 rw[this]
 refine Z7 ?_
 refine Y4 f k rfl ?_
 refine W0 ?_
 refine ld f k rfl ?_
 refine V6 (cells:= #[I 1,I v.n,S [],I 0]) (by kernel_rfl) ?_
 refine Dr ?_
 by_cases y:v=⟨1,v.n,[],0⟩
 ·rw[if_pos y] at h
  have:decide ((⟨v.sort,v.n,v.s,v.ref⟩:Val)=⟨1,v.n,[],0⟩)=true:=decide_eq_true y
  rw[this]
  exact J5 (h _ _ g)
 rw[if_neg y] at h
 have:decide ((⟨v.sort,v.n,v.s,v.ref⟩:Val)=⟨1,v.n,[],0⟩)=false:=decide_eq_false y
 rw[this]
 refine Z7 ?_
 refine Y4 f k rfl ?_
 refine W0 ?_
 refine ld f k rfl ?_
 refine X3c ?_
 refine V6 (cells:= #[I 2,I (v.n % 2),S [],I 0]) (by kernel_rfl) ?_
 refine Dr ?_
 have p:(v=⟨2,v.n % 2,[],0⟩)↔(v=⟨2,v.n,[],0⟩∧(v.n=0∨v.n=1)):=by
  obtain ⟨a,b,c,d⟩:=v
  simp only[Val.mk.injEq,true_and]
  constructor
  ·rintro ⟨R,J,p⟩;exact ⟨⟨R,p⟩,(Q5m b).1 J⟩
  ·rintro ⟨⟨R,p⟩,J⟩;exact ⟨R,(Q5m b).2 J,p⟩
 by_cases A:v=⟨2,v.n % 2,[],0⟩
 ·rw[if_pos (p.1 A)] at h
  have:decide ((⟨v.sort,v.n,v.s,v.ref⟩:Val)=⟨2,v.n % 2,[],0⟩)=true:=decide_eq_true A
  rw[this]
  exact J5 (h _ _ g)
 rw[if_neg (fun e=>A (p.2 e))] at h
 have:decide ((⟨v.sort,v.n,v.s,v.ref⟩:Val)=⟨2,v.n % 2,[],0⟩)=false:=decide_eq_false A
 rw[this]
 refine Z7 ?_
 refine Y4 f k rfl ?_
 refine W0 ?_
 refine ld f k rfl ?_
 refine V6 (cells:= #[I 3,I 0,S v.s,I 0]) (by kernel_rfl) ?_
 refine Dr ?_
 have j: ∀{t C},Stp w σ t C→SLe σ1 C→(∀w' σ',Stp w σ w' σ'→K (S (if v=⟨4,0,[],v.ref⟩ then D7 cs v.ref else [])) w')→Q2 P T.g (.pointer (some q)) t fun M w=>
  Q2 P T.e (.pointer (some (q.add 3))) w fun Q w=>
  E3 P T.g [(0,(.int .i64 4)),(3,Q)] w fun N w=>
  Q3 P .eql T.g (.tmp 40) (.tmp 43) M N w fun E w=>
  X1 E (
   Q2 P T.e (.pointer (some (q.add 3))) w fun H w=>
   Q1 P F.az [hp,H] w fun L w=>
   K L w) (
   K (.string ⟨#[]⟩) w):=by
  intro t C i O h
  have m:=k.lift O
  refine Y4 i.sat m rfl ?_
  refine ld i.sat m rfl ?_
  refine V6 (cells:= #[I 4,I 0,S [],I v.ref]) (by kernel_rfl) ?_
  refine Dr ?_
  by_cases u:v=⟨4,0,[],v.ref⟩
  ·rw[if_pos u] at h
   have:decide ((⟨v.sort,v.n,v.s,v.ref⟩:Val)=⟨4,0,[],v.ref⟩)=true:=decide_eq_true u
   rw[this]
   refine J5 ?_
   refine ld i.sat m rfl ?_
   exact Q7n i.sat (hh.lift ⟨i.le⟩) (h _ _ i)
  ·rw[if_neg u] at h
   have:decide ((⟨v.sort,v.n,v.s,v.ref⟩:Val)=⟨4,0,[],v.ref⟩)=false:=decide_eq_false u
   rw[this]
   exact Z7 (h _ _ i)
 by_cases B:v=⟨3,0,v.s,0⟩
 ·have:decide ((⟨v.sort,v.n,v.s,v.ref⟩:Val)=⟨3,0,v.s,0⟩)=true:=decide_eq_true B
  rw[this]
  (try simp only[↓M1,M1,Mb,reduceIte])
  refine ld f k rfl ?_
  refine Fq X8 ?_
  refine Q4X ?_
  by_cases V:v.s.length≤4096
  ·rw[decide_eq_true (show (v.s.length:Int)≤4096 by omega)]
   (try simp only[↓M1,M1,Mb,reduceIte])
   refine ld f k rfl ?_
   refine Tk Y (X.tabs _ (fun b o e=>f b o (g.le b o e))) fun t D=>?_
   have r:=g.trans (Stp.of_below f D)
   cases U:Lib.validD v.s with
   | true=>
    (try simp only[↓M1,M1,Mb,reduceIte])
    rw[if_pos ⟨B,by simp[W6,U,V]⟩] at h
    exact h _ _ r
   | false=>
    (try simp only[↓M1,M1,Mb,reduceIte])
    rw[if_neg (by rintro ⟨_,e⟩;simp[W6,U] at e)] at h
    exact j r (SLe.refl _) h
  ·rw[decide_eq_false (show¬(v.s.length:Int)≤4096 by omega)]
   (try simp only[↓M1,M1,Mb,reduceIte])
   rw[if_neg (by rintro ⟨_,e⟩;simp[W6,V] at e)] at h
   exact j g (SLe.refl _) h
 ·have:decide ((⟨v.sort,v.n,v.s,v.ref⟩:Val)=⟨3,0,v.s,0⟩)=false:=decide_eq_false B
  rw[this]
  (try simp only[↓M1,M1,Mb,reduceIte])
  rw[if_neg (fun e=>B e.1)] at h
  exact j g (SLe.refl _) h)
end Go.Proofs.YtjdiakhipmggjaaGreatDoor

namespace Go.Proofs.YtjdiakhipmggjaaGreatDoor
open Go.Emb Go.RowKit Go.Kd Go.Hm
variable {w : World} {K : Value → World → Prop} {σ : Q6}
theorem Gi {β:Type} {xs:List Val} {v f:Value} (b:β→Val→Bool×β) (j:β) (a:β→World→Prop) (D:Nat→Prop) (m: ∀s w,a s w→X3 w σ) (B:a j w) (t:Sl 4 M7 σ v xs)
 (y: ∀s x cs (w1:World) (K:Value→World→Prop),x∈xs→Kpt D w w1→a s w1→M7 σ x cs→cs.length=4→(∀w',Kpt D w w'→a (b s x).2 w'→K (.bool (b s x).1) w')→Z3 P f [.agg cs.toArray] w1 K)
 (h: ∀w',Kpt D w w'→a (J4 b j xs 0).2 w'→K (I (L5 (J4 b j xs 0).1)) w'):Q1 P F.a3 [v,f] w K:=Yn (by
 unfold G6
 ((try simp only[↓M1,M1,Mb,reduceIte]);repeat ((first | refine ld (by assumption) (by assumption) rfl ?_ | refine X7 (by assumption) (by assumption) rfl ?_ | refine Q8 (by assumption) ?_);(try simp only[↓M1,M1,Mb,reduceIte])))
 refine U0 xs.length (fun n w'=>Kpt D w w'∧ ∃s,a s w'∧J4 b j xs 0=J4 b s (xs.drop n) n) ⟨Kpt.refl,j,B,rfl⟩ fun n w1 d E k=>?_
 obtain ⟨u,s,k,e⟩:=k
 have q:=m s w1 k
 ((try simp only[↓M1,M1,Mb,reduceIte]);repeat ((first | refine ld (by assumption) (by assumption) rfl ?_ | refine X7 (by assumption) (by assumption) rfl ?_ | refine Q8 (by assumption) ?_);(try simp only[↓M1,M1,Mb,reduceIte])))
 refine Q7 (fun o=>?_) (fun o=>?_)
 ·have c:n<xs.length:=by simpa using o
  refine M9 t c fun p cs z g C=>?_
  refine Y4 q z g ?_
  refine y s xs[n] cs w1 _ (List.getElem_mem c) u k C g fun A l i=>?_
  rw[List.drop_eq_getElem_cons c] at e
  simp only[J4] at e
  refine Q7 (fun r=>?_) (fun r=>?_)
  ·rw[r] at e
   have:=h A l
   rw[e] at this
   exact this i
  ·rw[r] at e
   ((try simp only[↓M1,M1,Mb,reduceIte]);repeat ((first | refine ld (by assumption) (by assumption) rfl ?_ | refine X7 (by assumption) (by assumption) rfl ?_ | refine Q8 (by assumption) ?_);(try simp only[↓M1,M1,Mb,reduceIte])))
   exact Y5 t.max c ⟨l,_,i,by simpa using e⟩
 ·have c: ¬n<xs.length:=by simpa using o
  rw[List.drop_eq_nil_of_le (by omega)] at e
  have:=h w1 u
  rw[e] at this
  exact this k)
theorem Ch {β:Type} {xs:List Val} {v f:Value} (b:β→Val→Bool×β) (d:β) (a:β→World→Prop) (D:Nat→Prop) (c: ∀s w,a s w→X3 w σ) (i:a d w) (g:Sl 4 M7 σ v xs)
 (e: ∀s x cs (w1:World) (K:Value→World→Prop),x∈xs→Kpt D w w1→a s w1→M7 σ x cs→cs.length=4→(∀w',Kpt D w w'→a (b s x).2 w'→K (.bool (b s x).1) w')→Z3 P f [.agg cs.toArray] w1 K)
 (h: ∀w',Kpt D w w'→a (J4 b d xs 0).2 w'→K (.bool (J4 b d xs 0).1.isSome) w'):Q1 P F.k [v,f] w K:=Xc (by
 unfold B0
 refine Gi b d a D c i g e fun w1 k j=>?_
 (try simp only[↓M1,M1,Mb,reduceIte])
 rw[Dq]
 exact h w1 k j)
theorem Sz {xs:List Val} {v f:Value} (p:Val→Bool) (hs:X3 w σ) (hv:Sl 4 M7 σ v xs)
 (hf: ∀x cs (w1:World) (K:Value→World→Prop),x∈xs→X3 w1 σ→M7 σ x cs→cs.length=4→(∀w',Below w1.heap.size w1 w'→K (.bool (p x)) w')→Z3 P f [.agg cs.toArray] w1 K)
 (h: ∀w',Below w.heap.size w w'→K (.bool (xs.any p)) w'):Q1 P F.k [v,f] w K:=by
 refine Ch (fun (_:Unit) x=>(p x,())) () (fun _ w'=>Below w.heap.size w w') (fun _=>False) (fun _ w' hb=>hs.below hb) (Below.refl _ _) hv (fun s x cs w1 K hx hk hi hr hl hK=>hf x cs w1 K hx (hs.below hi) hr hl fun w' hb=>hK w' (.of_below (bt hi hb)) (bt hi hb)) fun w' hk hi=>?_
 rw[K5]
 simpa using h w' hi
theorem Ii {β:Type} {xs:List Cel} {v f:Value} (b:β→Cel→Bool×β) (j:β) (a:β→World→Prop) (D:Nat→Prop) (m: ∀s w,a s w→X3 w σ) (B:a j w) (t:Sl 2 E5 σ v xs)
 (y: ∀s x cs (w1:World) (K:Value→World→Prop),x∈xs→Kpt D w w1→a s w1→E5 σ x cs→cs.length=2→(∀w',Kpt D w w'→a (b s x).2 w'→K (.bool (b s x).1) w')→Z3 P f [.agg cs.toArray] w1 K)
 (h: ∀w',Kpt D w w'→a (J4 b j xs 0).2 w'→K (I (L5 (J4 b j xs 0).1)) w'):Q1 P F.a8 [v,f] w K:=Zs (by
 unfold I0
 ((try simp only[↓M1,M1,Mb,reduceIte]);repeat ((first | refine ld (by assumption) (by assumption) rfl ?_ | refine X7 (by assumption) (by assumption) rfl ?_ | refine Q8 (by assumption) ?_);(try simp only[↓M1,M1,Mb,reduceIte])))
 refine U0 xs.length (fun n w'=>Kpt D w w'∧ ∃s,a s w'∧J4 b j xs 0=J4 b s (xs.drop n) n) ⟨Kpt.refl,j,B,rfl⟩ fun n w1 d E k=>?_
 obtain ⟨u,s,k,e⟩:=k
 have q:=m s w1 k
 ((try simp only[↓M1,M1,Mb,reduceIte]);repeat ((first | refine ld (by assumption) (by assumption) rfl ?_ | refine X7 (by assumption) (by assumption) rfl ?_ | refine Q8 (by assumption) ?_);(try simp only[↓M1,M1,Mb,reduceIte])))
 refine Q7 (fun o=>?_) (fun o=>?_)
 ·have c:n<xs.length:=by simpa using o
  refine M9 t c fun p cs z g C=>?_
  refine Y4 q z g ?_
  refine y s xs[n] cs w1 _ (List.getElem_mem c) u k C g fun A l i=>?_
  rw[List.drop_eq_getElem_cons c] at e
  simp only[J4] at e
  refine Q7 (fun r=>?_) (fun r=>?_)
  ·rw[r] at e
   have:=h A l
   rw[e] at this
   exact this i
  ·rw[r] at e
   ((try simp only[↓M1,M1,Mb,reduceIte]);repeat ((first | refine ld (by assumption) (by assumption) rfl ?_ | refine X7 (by assumption) (by assumption) rfl ?_ | refine Q8 (by assumption) ?_);(try simp only[↓M1,M1,Mb,reduceIte])))
   exact Y5 t.max c ⟨l,_,i,by simpa using e⟩
 ·have c: ¬n<xs.length:=by simpa using o
  rw[List.drop_eq_nil_of_le (by omega)] at e
  have:=h w1 u
  rw[e] at this
  exact this k)
theorem Cj {β:Type} {xs:List Cel} {v f:Value} (b:β→Cel→Bool×β) (d:β) (a:β→World→Prop) (D:Nat→Prop) (c: ∀s w,a s w→X3 w σ) (i:a d w) (g:Sl 2 E5 σ v xs)
 (e: ∀s x cs (w1:World) (K:Value→World→Prop),x∈xs→Kpt D w w1→a s w1→E5 σ x cs→cs.length=2→(∀w',Kpt D w w'→a (b s x).2 w'→K (.bool (b s x).1) w')→Z3 P f [.agg cs.toArray] w1 K)
 (h: ∀w',Kpt D w w'→a (J4 b d xs 0).2 w'→K (.bool (J4 b d xs 0).1.isSome) w'):Q1 P F.n [v,f] w K:=Ya (by
 unfold F2
 refine Ii b d a D c i g e fun w1 k j=>?_
 (try simp only[↓M1,M1,Mb,reduceIte])
 rw[Dq]
 exact h w1 k j)
theorem Cl {xs:List Cel} {v f:Value} (p:Cel→Bool) (hs:X3 w σ) (hv:Sl 2 E5 σ v xs)
 (hf: ∀x cs (w1:World) (K:Value→World→Prop),x∈xs→X3 w1 σ→E5 σ x cs→cs.length=2→(∀w',Below w1.heap.size w1 w'→K (.bool (p x)) w')→Z3 P f [.agg cs.toArray] w1 K)
 (h: ∀w',Below w.heap.size w w'→K (.bool (xs.any p)) w'):Q1 P F.n [v,f] w K:=by
 refine Cj (fun (_:Unit) x=>(p x,())) () (fun _ w'=>Below w.heap.size w w') (fun _=>False) (fun _ w' hb=>hs.below hb) (Below.refl _ _) hv (fun s x cs w1 K hx hk hi hr hl hK=>hf x cs w1 K hx (hs.below hi) hr hl fun w' hb=>hK w' (.of_below (bt hi hb)) (bt hi hb)) fun w' hk hi=>?_
 rw[K5]
 simpa using h w' hi
end Go.Proofs.YtjdiakhipmggjaaGreatDoor
