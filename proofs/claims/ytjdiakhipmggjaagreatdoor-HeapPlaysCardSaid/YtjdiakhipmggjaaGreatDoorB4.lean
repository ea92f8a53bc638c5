/- Parts of a proof about the given program: its functions as texts of their own, what each computes, plain laws of that. The conditions of each stand in its statement. -/
import Derived.Test.YtjdiakhipmggjaaGreatDoorB3
import Derived.Shelf.Strings.Builder1
import Derived.Shelf.Strings.Builder2
import Derived.Shelf.Strings.OnBuilder
import Derived.Shelf.Strings.Trim
import Derived.Shelf.Small.Utf8
import Derived.Shelf.Small.Strs
import Derived.Shelf.Strings.BuilderF
import Derived.Shelf.Strings.BuilderK
import Derived.Shelf.Strings.Builder2Cap
import Derived.Shelf.Strings.Search1
import Derived.Shelf.Strings.Search2
import Derived.Shelf.Strings.Search3
import Derived.Shelf.Strings.Cut
import Derived.Shelf.LaysM
import Derived.Shelf.Strings.Shaped
import Derived.Shelf.Strings.Prefix
import Derived.Shelf.Unicode.Decode
import Derived.Shelf.Strings.Runes
import Derived.Shelf.Strings.AsciiSet
import Derived.Shelf.Unicode.DecodeSlow
import Derived.Shelf.Unicode.DecodeAny
import Derived.Shelf.Unicode.DecodeLast
import Derived.Ground.Names2Prog
import Derived.Shelf.Slices.Clone
import Derived.Shelf.Unicode.ValidAny
import Derived.Test.YtjdiakhipmggjaaGreatDoorProg
import Derived.Test.YtjdiakhipmggjaaGreatDoorRows
import Derived.Lib.LaidU8T
import Derived.OpenShut
import Derived.MakeChecks
import Derived.WideShapes
import Derived.Lib.AsciiSet
import Derived.Lib.Join
import Derived.Maps.RangeRun
set_option linter.unnecessarySimpa false
set_option linter.defProp false
set_option linter.unusedSectionVars false
set_option linter.unusedVariables false
set_option linter.unusedSimpArgs false
namespace Go.Proofs
open Go.Shelf
def Tryz.lays156_ren : Go.Shelf.Ren := ⟨fun | 156 => 143 | 165 => 176 | 166 => 177 | 169 => 178 | 240 => 200 | 241 => 201 | 276 => 213 | 277 => 214 | n => n, fun | 31 => 54 | 9 => 9 | 3 => 3 | 4 => 4 | 0 => 0 | 20 => 20 | 72 => 205 | 76 => 208 | 70 => 202 | 37 => 203 | 75 => 207 | 127 => 220 | 164 => 230 | 5 => 5 | 80 => 210 | n => n, fun | n => n⟩
theorem Tryz.lays156 : Go.Proofs.Lays.n156 Tryz.prog Tryz.lays156_ren := {
  mixed := by kernel_rfl
  f156 := Tryz.func143.trans (congrArg some (by kernel_rfl))
  f165 := Tryz.func176.trans (congrArg some (by kernel_rfl))
  f166 := Tryz.func177.trans (congrArg some (by kernel_rfl))
  f169 := Tryz.func178.trans (congrArg some (by kernel_rfl))
  f240 := Tryz.func200.trans (congrArg some (by kernel_rfl))
  f241 := Tryz.func201.trans (congrArg some (by kernel_rfl))
  f276 := Tryz.func213.trans (congrArg some (by kernel_rfl))
  f277 := Tryz.func214.trans (congrArg some (by kernel_rfl))
  t0 := Tryz.underlying0
  a0 := Tryz.isAgg0
  z0 := Tryz.sizeOf0
  v0 := Tryz.zeroValue0
  t3 := Tryz.underlying3
  a3 := Tryz.isAgg3
  z3 := Tryz.sizeOf3
  v3 := Tryz.zeroValue3
  t4 := Tryz.underlying4
  a4 := Tryz.isAgg4
  z4 := Tryz.sizeOf4
  v4 := Tryz.zeroValue4
  t9 := Tryz.underlying9
  a9 := Tryz.isAgg9
  z9 := Tryz.sizeOf9
  v9 := Tryz.zeroValue9
  t20 := Tryz.underlying20
  a20 := Tryz.isAgg20
  z20 := Tryz.sizeOf20
  v20 := Tryz.zeroValue20
  t31 := Tryz.underlying54
  a31 := Tryz.isAgg54
  z31 := Tryz.sizeOf54
  v31 := Tryz.zeroValue54
  t37 := Tryz.underlying203
  a37 := Tryz.isAgg203
  z37 := Tryz.sizeOf203
  v37 := Tryz.zeroValue203
  t70 := Tryz.underlying202
  a70 := Tryz.isAgg202
  z70 := Tryz.sizeOf202
  v70 := Tryz.zeroValue202
  t72 := Tryz.underlying205
  a72 := Tryz.isAgg205
  z72 := Tryz.sizeOf205
  v72 := Tryz.zeroValue205
  t75 := Tryz.underlying207
  a75 := Tryz.isAgg207
  z75 := Tryz.sizeOf207
  v75 := Tryz.zeroValue207
  t76 := Tryz.underlying208
  a76 := Tryz.isAgg208
  z76 := Tryz.sizeOf208
  v76 := Tryz.zeroValue208
  t127 := Tryz.underlying220
  a127 := Tryz.isAgg220
  z127 := Tryz.sizeOf220
  v127 := Tryz.zeroValue220
  t164 := Tryz.underlying230
  a164 := Tryz.isAgg230
  z164 := Tryz.sizeOf230
  v164 := Tryz.zeroValue230 }
theorem Tryz.Builder_Extra_156 : Builder.Extra Tryz.prog Tryz.lays156_ren := {
  sizeBuilder := by kernel_rfl
  liesBuilder := by kernel_rfl
  t5 := Tryz.underlying5
  a5 := Tryz.isAgg5
  z5 := Tryz.sizeOf5
  v5 := Tryz.zeroValue5
  infoByte := by kernel_rfl
  cellsByte := by kernel_rfl
  sizeByte := by kernel_rfl
  neB5 := by decide }
open Go.RowKit in
theorem Tryz.strings_Join_none (a : Option Addr) (c : Nat) (sep : ByteArray) (w : World) :
    Calls Tryz.prog 143 #[.slice a 0 c, .string sep] w fun e w' => e = .returned (.string ⟨#[]⟩) ∧ w' = w := Any.strings_Join_none Tryz.lays156 Tryz.Builder_Extra_156 a c sep w
open Go.RowKit in
theorem Tryz.strings_Join (bk o c : Nat) (xs : List ByteArray) (sep : ByteArray) (w : World) (hcells : ∀ (j : Nat) x, xs[j]? = some x → w.cell? ⟨bk, o + j, none⟩ = some (.string x)) (hbk : bk < w.heap.size) (hN : xs.length ≤ 140737488355328) (hcap : xs.length ≤ c) (hlen : (Lib.join (xs.map (·.data.toList)) sep.data.toList).length ≤ 140737488355328) :
    Calls Tryz.prog 143 #[.slice (some ⟨bk, o, none⟩) xs.length c, .string sep] w fun e w' => e = .returned (.string ⟨(Lib.join (xs.map (·.data.toList)) sep.data.toList).toArray⟩) ∧ Below w.heap.size w w' := Any.strings_Join Tryz.lays156 Tryz.Builder_Extra_156 bk o c xs sep w hcells hbk hN hcap hlen
open Go.RowKit in
def Tryz.lays144_ren : Go.Shelf.Ren := ⟨fun | 144 => 210 | 143 => 223 | 219 => 228 | 217 => 227 | 225 => 220 | 224 => 219 | 267 => 232 | 266 => 231 | 314 => 234 | n => n, fun | 9 => 9 | 4 => 4 | 3 => 3 | 5 => 5 | 46 => 158 | 146 => 242 | 51 => 241 | n => n, fun | 1 => 4 | n => n⟩
theorem Tryz.lays144 : Go.Proofs.Lays.n144 Tryz.prog Tryz.lays144_ren := {
  mixed := by kernel_rfl
  f143 := Tryz.func223.trans (congrArg some (by kernel_rfl))
  f144 := Tryz.func210.trans (congrArg some (by kernel_rfl))
  f217 := Tryz.func227.trans (congrArg some (by kernel_rfl))
  f219 := Tryz.func228.trans (congrArg some (by kernel_rfl))
  f224 := Tryz.func219.trans (congrArg some (by kernel_rfl))
  f225 := Tryz.func220.trans (congrArg some (by kernel_rfl))
  f266 := Tryz.func231.trans (congrArg some (by kernel_rfl))
  f267 := Tryz.func232.trans (congrArg some (by kernel_rfl))
  f314 := Tryz.func234.trans (congrArg some (by kernel_rfl))
  t3 := Tryz.underlying3
  a3 := Tryz.isAgg3
  z3 := Tryz.sizeOf3
  v3 := Tryz.zeroValue3
  t4 := Tryz.underlying4
  a4 := Tryz.isAgg4
  z4 := Tryz.sizeOf4
  v4 := Tryz.zeroValue4
  t5 := Tryz.underlying5
  a5 := Tryz.isAgg5
  z5 := Tryz.sizeOf5
  v5 := Tryz.zeroValue5
  t9 := Tryz.underlying9
  a9 := Tryz.isAgg9
  z9 := Tryz.sizeOf9
  v9 := Tryz.zeroValue9
  t46 := Tryz.underlying158
  a46 := Tryz.isAgg158
  z46 := Tryz.sizeOf158
  v46 := Tryz.zeroValue158
  t51 := Tryz.underlying241
  a51 := Tryz.isAgg241
  z51 := Tryz.sizeOf241
  v51 := Tryz.zeroValue241
  t146 := Tryz.underlying242
  a146 := Tryz.isAgg242
  z146 := Tryz.sizeOf242
  v146 := Tryz.zeroValue242
  g1 := by kernel_rfl }
open Go.RowKit Go.Lib in
theorem Tryz.strings_Contains_one (s : ByteArray) (c : UInt8) (w : World) :
    Calls Tryz.prog 210 #[.string s, .string ⟨#[c]⟩] w fun e w' => e = .returned (.bool (decide (0 ≤ Lib.indexByte s.data.toList c))) ∧ w' = w := Any.strings_Contains_one Tryz.lays144 s c w
def Tryz.lays227_ren : Go.Shelf.Ren := ⟨fun | 227 => 157 | n => n, fun | 9 => 9 | 116 => 190 | 4 => 4 | 0 => 0 | 3 => 3 | 5 => 5 | n => n, fun | n => n⟩
theorem Tryz.lays227 : Go.Proofs.Lays.n227 Tryz.prog Tryz.lays227_ren := {
  mixed := by kernel_rfl
  f227 := Tryz.func157.trans (congrArg some (by kernel_rfl))
  t0 := Tryz.underlying0
  a0 := Tryz.isAgg0
  z0 := Tryz.sizeOf0
  v0 := Tryz.zeroValue0
  t3 := Tryz.underlying3
  a3 := Tryz.isAgg3
  z3 := Tryz.sizeOf3
  v3 := Tryz.zeroValue3
  t4 := Tryz.underlying4
  a4 := Tryz.isAgg4
  z4 := Tryz.sizeOf4
  v4 := Tryz.zeroValue4
  t5 := Tryz.underlying5
  a5 := Tryz.isAgg5
  z5 := Tryz.sizeOf5
  v5 := Tryz.zeroValue5
  t9 := Tryz.underlying9
  a9 := Tryz.isAgg9
  z9 := Tryz.sizeOf9
  v9 := Tryz.zeroValue9
  t116 := Tryz.underlying190
  a116 := Tryz.isAgg190
  z116 := Tryz.sizeOf190 }
open Go.RowKit Go.Lib in
theorem Tryz.strings_makeASCIISet (hv116 : ∀ w, (zeroValue 190).run Tryz.prog w = .ok (.agg (Array.replicate 256 (.bool false))) w) (chars : ByteArray) (w : World) (hs : chars.size < 4294967281) (hascii : ∀ (j : Nat) b, chars.data.toList[j]? = some b → b.toNat < 128) :
    Calls Tryz.prog 157 #[.string chars] w fun e w' => e = .returned (.tuple #[.agg (Lib.setCells chars.data.toList), .bool true]) ∧ w' = w.alloc (.cells (Lib.setCells chars.data.toList) 190) := Any.strings_makeASCIISet Tryz.lays227 hv116 (by kernel_rfl) chars w hs hascii
open Go.RowKit Go.Lib in
def Tryz.lays196_ren : Go.Shelf.Ren := ⟨fun | 196 => 64 | 259 => 112 | n => n, fun | 9 => 9 | 4 => 4 | 3 => 3 | 5 => 5 | 12 => 12 | 119 => 154 | 0 => 0 | 46 => 158 | 139 => 157 | 138 => 156 | 53 => 184 | n => n, fun | 3 => 1 | 4 => 2 | n => n⟩
theorem Tryz.lays196 : Go.Proofs.Lays.n196 Tryz.prog Tryz.lays196_ren := {
  mixed := by kernel_rfl
  f196 := Tryz.func64.trans (congrArg some (by kernel_rfl))
  f259 := Tryz.func112.trans (congrArg some (by kernel_rfl))
  t0 := Tryz.underlying0
  a0 := Tryz.isAgg0
  z0 := Tryz.sizeOf0
  v0 := Tryz.zeroValue0
  t3 := Tryz.underlying3
  a3 := Tryz.isAgg3
  z3 := Tryz.sizeOf3
  v3 := Tryz.zeroValue3
  t4 := Tryz.underlying4
  a4 := Tryz.isAgg4
  z4 := Tryz.sizeOf4
  v4 := Tryz.zeroValue4
  t5 := Tryz.underlying5
  a5 := Tryz.isAgg5
  z5 := Tryz.sizeOf5
  v5 := Tryz.zeroValue5
  t9 := Tryz.underlying9
  a9 := Tryz.isAgg9
  z9 := Tryz.sizeOf9
  v9 := Tryz.zeroValue9
  t12 := Tryz.underlying12
  a12 := Tryz.isAgg12
  z12 := Tryz.sizeOf12
  v12 := Tryz.zeroValue12
  t46 := Tryz.underlying158
  a46 := Tryz.isAgg158
  z46 := Tryz.sizeOf158
  v46 := Tryz.zeroValue158
  t53 := Tryz.underlying184
  a53 := Tryz.isAgg184
  z53 := Tryz.sizeOf184
  v53 := Tryz.zeroValue184
  t119 := Tryz.underlying154
  a119 := Tryz.isAgg154
  z119 := Tryz.sizeOf154
  t138 := Tryz.underlying156
  a138 := Tryz.isAgg156
  z138 := Tryz.sizeOf156
  v138 := Tryz.zeroValue156
  t139 := Tryz.underlying157
  a139 := Tryz.isAgg157
  z139 := Tryz.sizeOf157
  v139 := Tryz.zeroValue157
  g3 := by kernel_rfl
  g4 := by kernel_rfl }
end Go.Proofs

namespace Go.Proofs.YtjdiakhipmggjaaGreatDoor
open Go.Emb Go.RowKit Go.Kd Go.Hm
variable {w : World} {K : Value → World → Prop} {σ : Q6}
theorem X0u {f:FuncId} {fn:Func} {a:List Value} {V:Value} (c:P.funcs[f]? =some fn) (b:fn.body.isSome=true) (d:(fn.name== "runtime.NumGoroutine")=false)
 (h:Calls P f a.toArray w fun e w'=>e= .returned V∧Below w.heap.size w w') (g: ∀w',Below w.heap.size w w'→K V w'):Q1 P f a w K:=by
 refine Ws c b d (Calls.mono h ?_)
 rintro e w' ⟨rfl,b⟩
 exact g w' b
theorem Tu {a:X0} (c:a.length≤U2) (b:Lib.Utf8Tabs G.e G.d w) (h: ∀w',Below w.heap.size w w'→K (.bool (Lib.validD a)) w'):Q1 P F.b0 [S a] w K:=
 X0u Tryz.func64 (by kernel_rfl) (by kernel_rfl) (by
  have:=Any.utf8_ValidString Tryz.lays196 ⟨a.toArray⟩ w (by rw[K1];simp only[U2] at c;omega) b
  simp only[List.toList_toArray] at this
  exact this) h
theorem Q70 {a:X0} {c:UInt8} (h:K (.bool (decide (0≤Lib.indexByte a c))) w):Q1 P F.cE [S a,S [c]] w K:=by
 refine Ws (fn:=Tryz.f210) Tryz.func210 (by kernel_rfl) (by kernel_rfl) (Calls.mono (Tryz.strings_Contains_one ⟨a.toArray⟩ c w) ?_)
 rintro e w' ⟨rfl,rfl⟩
 exact h
structure Glb (σ : Q6) : Prop where
  ops : Q2H σ
  tabs : ∀ w, X3 w σ → Lib.Utf8Tabs G.e G.d w
  flt : Z6 σ ⟨G.b, 0, none⟩ (U5.map S)
theorem Glb.lift {σ0:Q6} (h:Glb σ0) (k:SLe σ0 σ):Glb σ:=⟨h.ops.le k.le,fun w a=>h.tabs w fun b o e=>a b o (k.le b o e),h.flt.le k.le⟩
def txt (n s:X0):Bool:=
 if n=[119,111,114,100] then decide (s.length≤64)&&Lib.validD s&& !decide (0≤Lib.indexByte s 10)
 else if n=[110,101,119] then M9 s
 else if n=[105,115]∨n=[99,97,115,116] then right s&& !plain s
 else if n=[97,114,114,97,121] then right s&&decide (Xt s<3)
 else Zq s
theorem X3p {n a:X0} (ha:a.length≤U2) (hs:X3 w σ) (hg:Glb σ) (h: ∀w' σ',Stp w σ w' σ'→K (.bool (txt n a)) w'):Q1 P F.cL [S n,S a] w K:=Q77 (by
 unfold Q2p
 have ha':a.length≤140737488355320:=by simp only[U2] at ha;omega
 have ha2:a.length≤140737488355328:=by simp only[U2] at ha;omega
 have hv: ∀{w1:World} {K:Value→World→Prop},X3 w1 σ→(∀w',Below w1.heap.size w1 w'→K (.bool (Lib.validD a)) w')→Q1 P F.b0 [S a] w1 K:=fun hk h=>Tu ha (hg.tabs _ hk) h
 unfold txt at h
 have e:decide ((a.length:Int)≤64)=decide (a.length≤64):=by rw[Bool.eq_iff_iff];simp only[decide_eq_true_eq];omega
 have e3:decide ((Xt a:Int)<3)=decide (Xt a<3):=by rw[Bool.eq_iff_iff];simp only[decide_eq_true_eq];omega
 by_cases h1:n=[119,111,114,100]
 ·rw[if_pos h1] at h
  simp only[decide_eq_true h1,↓M1,M1,Mb,reduceIte,e]
  by_cases h2:a.length≤64
  ·simp only[decide_eq_true h2,↓M1,M1,Mb,reduceIte] at h⊢
   refine hv hs (W8 hs ?_)
   intro w1 σ1 hk
   by_cases h3:Lib.validD a=true
   ·simp only[h3,↓M1,M1,Mb,reduceIte] at h⊢
    refine Q70 ?_
    (repeat' (first | (with_reducible intro _) | (with_reducible refine V0 ?_) | (simp only[↓M2,M2,Mb,reduceIte]) | (with_reducible first | refine ld aS aL aR ?_ | refine X7 aS aL aR ?_ | refine Y4 aS aL aR ?_ | refine Q8 aL ?_ | refine J3 aR ?_ | refine Z1 aS ?_ | refine N2 aS aL ?_ | refine U6 aS aR ?_ | refine Y8 aS aR aR (Rep.one (by assumption)) ?_ | refine U7 aS aR aR aR ?_ | (refine J0 (fun hh=>?_) (fun hh=>?_)<;>(try simp only[hh,Bool.not_true,Bool.not_false,↓M2,M2,Mb,reduceIte])) | (refine Q7 (fun hh=>?_) (fun hh=>?_)<;>(try simp only[hh,Bool.not_true,Bool.not_false,↓M2,M2,Mb,reduceIte])))))
    all_goals exact aF
   ·simp only[eq_false_of_ne_true h3,↓M1,M1,Mb,reduceIte] at h⊢
    (repeat' (first | (with_reducible intro _) | (with_reducible refine V0 ?_) | (simp only[↓M2,M2,Mb,reduceIte]) | (with_reducible first | refine ld aS aL aR ?_ | refine X7 aS aL aR ?_ | refine Y4 aS aL aR ?_ | refine Q8 aL ?_ | refine J3 aR ?_ | refine Z1 aS ?_ | refine N2 aS aL ?_ | refine U6 aS aR ?_ | refine Y8 aS aR aR (Rep.one (by assumption)) ?_ | refine U7 aS aR aR aR ?_ | (refine J0 (fun hh=>?_) (fun hh=>?_)<;>(try simp only[hh,Bool.not_true,Bool.not_false,↓M2,M2,Mb,reduceIte])) | (refine Q7 (fun hh=>?_) (fun hh=>?_)<;>(try simp only[hh,Bool.not_true,Bool.not_false,↓M2,M2,Mb,reduceIte])))))
    all_goals exact aF
  ·simp only[decide_eq_false h2,↓M1,M1,Mb,reduceIte] at h⊢
   (repeat' (first | (with_reducible intro _) | (with_reducible refine V0 ?_) | (simp only[↓M2,M2,Mb,reduceIte]) | (with_reducible first | refine ld aS aL aR ?_ | refine X7 aS aL aR ?_ | refine Y4 aS aL aR ?_ | refine Q8 aL ?_ | refine J3 aR ?_ | refine Z1 aS ?_ | refine N2 aS aL ?_ | refine U6 aS aR ?_ | refine Y8 aS aR aR (Rep.one (by assumption)) ?_ | refine U7 aS aR aR aR ?_ | (refine J0 (fun hh=>?_) (fun hh=>?_)<;>(try simp only[hh,Bool.not_true,Bool.not_false,↓M2,M2,Mb,reduceIte])) | (refine Q7 (fun hh=>?_) (fun hh=>?_)<;>(try simp only[hh,Bool.not_true,Bool.not_false,↓M2,M2,Mb,reduceIte])))))
   all_goals exact aF
 rw[if_neg h1] at h
 simp only[decide_eq_false h1,↓M1,M1,Mb,reduceIte]
 by_cases h2:n=[110,101,119]
 ·rw[if_pos h2] at h
  simp only[decide_eq_true h2,↓M1,M1,Mb,reduceIte]
  (repeat' (first | (with_reducible intro _) | (with_reducible refine V0 ?_) | (simp only[↓M2,M2,Mb,reduceIte]) | (with_reducible first | refine ld aS aL aR ?_ | refine X7 aS aL aR ?_ | refine Y4 aS aL aR ?_ | refine Q8 aL ?_ | refine J3 aR ?_ | refine Z1 aS ?_ | refine N2 aS aL ?_ | refine U6 aS aR ?_ | refine Y8 aS aR aR (Rep.one (by assumption)) ?_ | refine U7 aS aR aR aR ?_ | refine Ru _ au (W8 aS ?_) | (refine J0 (fun hh=>?_) (fun hh=>?_)<;>(try simp only[hh,Bool.not_true,Bool.not_false,↓M2,M2,Mb,reduceIte])) | (refine Q7 (fun hh=>?_) (fun hh=>?_)<;>(try simp only[hh,Bool.not_true,Bool.not_false,↓M2,M2,Mb,reduceIte])))))
  all_goals exact aF
 rw[if_neg h2] at h
 simp only[decide_eq_false h2,↓M1,M1,Mb,reduceIte]
 by_cases h3:n=[105,115]∨n=[99,97,115,116]
 ·rw[if_pos h3] at h
  have e4:(decide (n=[105,115])||decide (n=[99,97,115,116]))=true:=by simpa using h3
  refine V0 ?_
  refine Q7 (fun h4=>?_) (fun h4=>?_)
  ·simp only[h4,↓M1,M1,Mb,reduceIte]
   (repeat' (first | (with_reducible intro _) | (with_reducible refine V0 ?_) | (simp only[↓M2,M2,Mb,reduceIte]) | (with_reducible first | refine ld aS aL aR ?_ | refine X7 aS aL aR ?_ | refine Y4 aS aL aR ?_ | refine Q8 aL ?_ | refine J3 aR ?_ | refine Z1 aS ?_ | refine N2 aS aL ?_ | refine U6 aS aR ?_ | refine Y8 aS aR aR (Rep.one (by assumption)) ?_ | refine U7 aS aR aR aR ?_ | refine Zn _ au (W8 aS ?_) | refine Rv _ ?_ | (refine J0 (fun hh=>?_) (fun hh=>?_)<;>(try simp only[hh,Bool.not_true,Bool.not_false,↓M2,M2,Mb,reduceIte])) | (refine Q7 (fun hh=>?_) (fun hh=>?_)<;>(try simp only[hh,Bool.not_true,Bool.not_false,↓M2,M2,Mb,reduceIte])))))
   all_goals exact aF
  ·rw[h4,Bool.false_or] at e4
   simp only[e4,↓M1,M1,Mb,reduceIte]
   (repeat' (first | (with_reducible intro _) | (with_reducible refine V0 ?_) | (simp only[↓M2,M2,Mb,reduceIte]) | (with_reducible first | refine ld aS aL aR ?_ | refine X7 aS aL aR ?_ | refine Y4 aS aL aR ?_ | refine Q8 aL ?_ | refine J3 aR ?_ | refine Z1 aS ?_ | refine N2 aS aL ?_ | refine U6 aS aR ?_ | refine Y8 aS aR aR (Rep.one (by assumption)) ?_ | refine U7 aS aR aR aR ?_ | refine Zn _ au (W8 aS ?_) | refine Rv _ ?_ | (refine J0 (fun hh=>?_) (fun hh=>?_)<;>(try simp only[hh,Bool.not_true,Bool.not_false,↓M2,M2,Mb,reduceIte])) | (refine Q7 (fun hh=>?_) (fun hh=>?_)<;>(try simp only[hh,Bool.not_true,Bool.not_false,↓M2,M2,Mb,reduceIte])))))
   all_goals exact aF
 rw[if_neg h3] at h
 obtain ⟨h3,h4⟩:=not_or.1 h3
 refine V0 ?_
 simp only[decide_eq_false h3,decide_eq_false h4,↓M1,M1,Mb,reduceIte]
 by_cases h5:n=[97,114,114,97,121]
 ·rw[if_pos h5] at h
  simp only[decide_eq_true h5,↓M1,M1,Mb,reduceIte]
  (repeat' (first | (with_reducible intro _) | (with_reducible refine V0 ?_) | (simp only[↓M2,M2,Mb,reduceIte]) | (with_reducible first | refine ld aS aL aR ?_ | refine X7 aS aL aR ?_ | refine Y4 aS aL aR ?_ | refine Q8 aL ?_ | refine J3 aR ?_ | refine Z1 aS ?_ | refine N2 aS aL ?_ | refine U6 aS aR ?_ | refine Y8 aS aR aR (Rep.one (by assumption)) ?_ | refine U7 aS aR aR aR ?_ | refine Zn _ au (W8 aS ?_) | refine X0g _ au (W8 aS ?_) | (refine J0 (fun hh=>?_) (fun hh=>?_)<;>(try simp only[hh,Bool.not_true,Bool.not_false,↓M2,M2,Mb,reduceIte])) | (refine Q7 (fun hh=>?_) (fun hh=>?_)<;>(try simp only[hh,Bool.not_true,Bool.not_false,↓M2,M2,Mb,reduceIte])))))
  all_goals (try rw[e3])
  all_goals exact aF
 rw[if_neg h5] at h
 simp only[decide_eq_false h5,↓M1,M1,Mb,reduceIte]
 intro _
 refine X1V a ha2 (W8 hs fun w1 σ1 hk=>?_)
 by_cases hp:Zq a=true
 ·simp only[hp,if_true] at h⊢
  (repeat' (first | (with_reducible intro _) | (with_reducible refine V0 ?_) | (simp only[↓M2,M2,Mb,reduceIte]) | (with_reducible first | refine ld aS aL aR ?_ | refine X7 aS aL aR ?_ | refine Y4 aS aL aR ?_ | refine Q8 aL ?_ | refine J3 aR ?_ | refine Z1 aS ?_ | refine N2 aS aL ?_ | refine U6 aS aR ?_ | refine Y8 aS aR aR (Rep.one (by assumption)) ?_ | refine U7 aS aR aR aR ?_ | (refine J0 (fun hh=>?_) (fun hh=>?_)<;>(try simp only[hh,Bool.not_true,Bool.not_false,↓M2,M2,Mb,reduceIte])) | (refine Q7 (fun hh=>?_) (fun hh=>?_)<;>(try simp only[hh,Bool.not_true,Bool.not_false,↓M2,M2,Mb,reduceIte])))))
  all_goals exact aF
 ·simp only[eq_false_of_ne_true hp,Bool.false_eq_true,if_false] at h⊢
  (repeat' (first | (with_reducible intro _) | (with_reducible refine V0 ?_) | (simp only[↓M2,M2,Mb,reduceIte]) | (with_reducible first | refine ld aS aL aR ?_ | refine X7 aS aL aR ?_ | refine Y4 aS aL aR ?_ | refine Q8 aL ?_ | refine J3 aR ?_ | refine Z1 aS ?_ | refine N2 aS aL ?_ | refine U6 aS aR ?_ | refine Y8 aS aR aR (Rep.one (by assumption)) ?_ | refine U7 aS aR aR aR ?_ | (refine J0 (fun hh=>?_) (fun hh=>?_)<;>(try simp only[hh,Bool.not_true,Bool.not_false,↓M2,M2,Mb,reduceIte])) | (refine Q7 (fun hh=>?_) (fun hh=>?_)<;>(try simp only[hh,Bool.not_true,Bool.not_false,↓M2,M2,Mb,reduceIte])))))
  all_goals exact aF)
def H4 (i:Ins):Int:=if !(takes i.op).2.2 then 40 else if (!(takes i.op).1&&decide (i.n≠0))||(!(takes i.op).2.1&&decide (i.s≠[]))||((takes i.op).2.1&& !txt i.op i.s) then 41 else 0
theorem X10 {a:X0} (b:X3 w σ) (c:Glb σ) (h: ∀w',Below w.heap.size w w'→K (.tuple #[.bool (takes a).1, .bool (takes a).2.1, .bool (takes a).2.2]) w'):Q1 P F.cm [S a] w K:=X2E b c.ops h
theorem Q6Y {i:Ins} {cs:List Value} (hs:X3 w σ) (hg:Glb σ) (hi:Qp σ i cs) (h: ∀w' σ',Stp w σ w' σ'→K (I (H4 i)) w'):Q1 P F.cH [.agg cs.toArray] w K:=Q6u (by
 obtain ⟨rfl,h1,h2,h3⟩:=hi
 unfold Q1s
 unfold H4 at h
 (repeat' (first | (with_reducible intro _) | (with_reducible refine V0 ?_) | (simp only[↓M2,M2,Mb,reduceIte]) | (with_reducible first | refine ld aS aL aR ?_ | refine X7 aS aL aR ?_ | refine Y4 aS aL aR ?_ | refine Q8 aL ?_ | refine J3 aR ?_ | refine Z1 aS ?_ | refine N2 aS aL ?_ | refine U6 aS aR ?_ | refine Y8 aS aR aR (Rep.one (by assumption)) ?_ | refine U7 aS aR aR aR ?_ | refine X10 au au (W8 aS ?_) | refine X3p au au au ?_ | (refine J0 (fun hh=>?_) (fun hh=>?_)<;>(try simp only[hh,Bool.not_true,Bool.not_false,↓M2,M2,Mb,reduceIte])) | (refine Q7 (fun hh=>?_) (fun hh=>?_)<;>(try simp only[hh,Bool.not_true,Bool.not_false,↓M2,M2,Mb,reduceIte])))))
 all_goals exact aF)
end Go.Proofs.YtjdiakhipmggjaaGreatDoor

namespace Go.Emb
open Go.RowKit Go.Hm
variable {P : Program} {W : World}
theorem Q2F {w:World} (c:X3 w (Wq W)) {a:Addr} {v:Value} (h:W.cell? a=some v):w.cell? a=some v:=by
 unfold World.cell? at h⊢
 cases b:W.heap[a.block]? with
 | none=>rw[b] at h;cases h
 | some o=>rw[b] at h;rw[c _ o b];exact h
theorem X2V {α:Type} {f:α→List Value} {sz:Nat} (k: ∀a,(f a).length=sz): ∀(l:List α) (cs:List Value),cs.length=l.length*sz→(∀i a,l[i]? =some a→(cs.drop (i*sz)).take sz=f a)→cs=l.flatMap f:=by
 intro l
 induction l with
 | nil=>intro cs h _;simp at h;simp[h]
 | cons a r c=>
  intro cs h hh
  have j:=hh 0 a rfl
  have e:=c (cs.drop sz) (by rw[List.length_drop,h,List.length_cons,Nat.succ_mul];omega) (fun i b g=>by
   have:=hh (i+1) b (by simpa using g)
   rw[List.drop_drop]
   rwa [Nat.succ_mul,Nat.add_comm] at this)
  rw[List.flatMap_cons,←e,←j]
  simp
theorem Q4V {α H:Type} {enc:TypeId×Value→H} {base:Nat} {u:Nat→Bool} {b:Bool} {f:α→List Value} {k:α→DataW H} {n sz:Nat} {t e:TypeId} {c:Nat} {cs:List Value} {p:List MemPlace} (A:P.underlying t=some (.array n e)) (C:P.cellsOf e=sz) (o:P.cellsOf t=n*sz)
 (l:List α) (z: ∀a,(f a).length=sz) (j: ∀m cs a q,DataW.trod enc P W base u b m e cs=some (k a,q)→cs=f a)
 (h:DataW.trod enc P W base u b c t cs=some (.agg (l.map k),p)):cs=l.flatMap f:=by
 obtain ⟨xs,m,_,g,B,J,y⟩:=DataW.trod_array A h
 simp only[Prod.mk.injEq,DataW.agg.injEq] at g
 have E:l.length=n:=by have:=congrArg List.length g.1;simp at this;omega
 refine X2V z l cs (by rw[B,o,E]) fun i a w=>?_
 have L:i<l.length:=(List.getElem?_eq_some_iff.1 w).1
 have r:=y i (by omega)
 have s:i<xs.length:=by omega
 rw[List.getElem?_eq_getElem s,C] at r
 have D:(xs[i]).1=k a:=by
  have:=congrArg (·[i]?) g.1
  simp only[List.getElem?_map,w,List.getElem?_eq_getElem s,Option.map_some,Option.some.injEq] at this
  exact this.symm
 exact j m _ a _ (by rw[r];congr 1;exact Prod.ext D rfl)
theorem Q5P {n:String} {g:Nat} {cs:Array Value} {l:List Value} (c:P.globalNamed n=some g) (a:W.var? P n=some cs) (j:cs.toList=l):Z6 (Wq W) ⟨g,0,none⟩ l:=by
 unfold World.var? at a
 rw[c] at a
 simp only[Option.bind_some] at a
 cases b:W.heap[g]? with
 | none=>rw[b] at a;cases a
 | some o=>
  rw[b] at a
  cases o with
  | cells arr e h=>
   cases a
   refine ⟨rfl,cs,e,h,b,fun i v f=>?_⟩
   subst j
   simpa using f
  | _=>cases a
end Go.Emb
namespace Go.Proofs.YtjdiakhipmggjaaGreatDoor
open Go.Emb Go.RowKit Go.Kd Go.Hm
variable {W : World}
def laidAll:List (String×DataW Unit):=[("unicode/utf8.acceptRanges",Rows.laid_unicode_utf8_acceptRanges),("squinch/code.ops",Rows.laid_squinch_code_ops),("squinch/hier.faults",Rows.laid_squinch_hier_faults),("unicode/utf8.first",Rows.laid_unicode_utf8_first)]
theorem X3N:Rows.laid_squinch_code_ops=(.agg (Uf.map fun o=> .agg [.lit (.string o.name), .lit (.bool o.number), .lit (.bool o.text)]):DataW Unit):=by rfl
theorem X0x:Rows.laid_squinch_hier_faults=(.agg (U5.map fun s=> .lit (.string s)):DataW Unit):=by rfl
theorem X4j:(Rows.laid_unicode_utf8_acceptRanges:DataW Unit)=Lib.acceptData:=by rfl
theorem X2H:Rows.laid_unicode_utf8_first=Lib.firstData:=by kernel_rfl
def X4t:Array Field:= #[⟨"name",T.c,0,false, "", "squinch/code",0⟩,⟨"number",T.u,1,false, "", "squinch/code",16⟩,⟨"text",T.u,2,false, "", "squinch/code",17⟩]
theorem X4x:P.underlying T.ad=some (.struct X4t):=by kernel_rfl
theorem X3r (h:laidMetH P laidAll W):Glb (Wq W):=by
 rw[Go.MakeChecks.laidMetH_plain _ _ _ (by kernel_rfl)] at h
 refine ⟨?_,fun w z=>?_,?_⟩
 ·obtain ⟨g,t,cs,o,p,u,k,b,r⟩:=Lib.laidMet.reads h (.tail _ (.head _))
  obtain rfl:=Option.some.inj ((show P.globalNamed "squinch/code.ops"=some G.a by kernel_rfl).symm.trans u)
  obtain rfl:=Option.some.inj ((show (P.globals[G.a]?).map (·.type)=some T.af by kernel_rfl).symm.trans k)
  rw[X3N] at r
  refine Q5P u b (Q4V (f:=cOp) (sz:=3) (n:=42) (e:=T.ad) (by kernel_rfl) (by kernel_rfl) (by kernel_rfl) Uf (fun _=>rfl) (fun m cs a q h=>by
  obtain ⟨xs,n,_,j,V,h2,y⟩:=DataW.trod_struct X4x h
  simp only[Prod.mk.injEq,DataW.agg.injEq] at j
  have l:cs.length=3:=by rw[V];kernel_rfl
  obtain ⟨c0,B,A,rfl⟩:=X1u l
  obtain ⟨x0,x1,x2,rfl⟩:=X1u (show xs.length=3 by rw[h2];rfl)
  have j:=j.1
  simp only[List.map_cons,List.map_nil,List.cons.injEq,and_true] at j
  obtain ⟨C,L,O⟩:=j
  have E:DataW.trod (fun _=>()) P W 0 (fun _=>true) false n T.c (List.take (P.cellsOf T.c) (List.drop 0 [c0,B,A]))=some x0:=y 0 _ rfl
  have D:DataW.trod (fun _=>()) P W 0 (fun _=>true) false n T.u (List.take (P.cellsOf T.u) (List.drop 1 [c0,B,A]))=some x1:=y 1 _ rfl
  have M:DataW.trod (fun _=>()) P W 0 (fun _=>true) false n T.u (List.take (P.cellsOf T.u) (List.drop 2 [c0,B,A]))=some x2:=y 2 _ rfl
  rw[Kf] at E
  rw[X3f] at D M
  obtain ⟨⟨⟨s0⟩⟩,J,X,_⟩:=DataW.trod_string X8 E
  obtain ⟨b1,N,U⟩:=DataW.trod_bool Q3r D
  obtain ⟨b2,Q,Z⟩:=DataW.trod_bool Q3r M
  simp at J N Q
  subst J N Q X U Z
  simp at C L O
  simp[cOp,←C,←L,←O]) r)
 ·have:=utf8Tabs_of_readsT (U8Types.of196 Tryz.lays196) ⟨by kernel_rfl,by kernel_rfl,by kernel_rfl,by kernel_rfl,by kernel_rfl,by kernel_rfl,by kernel_rfl⟩ (X2H▸Lib.laidMet.reads h (.tail _ (.tail _ (.tail _ (.head _))))) (X4j▸Lib.laidMet.reads h (.head _))
  exact ⟨fun c Y=>Q2F z (this.1 c Y),fun i R=>⟨Q2F z (this.2 i R).1,Q2F z (this.2 i R).2⟩⟩
 ·obtain ⟨g,t,cs,o,p,u,k,b,r⟩:=Lib.laidMet.reads h (.tail _ (.tail _ (.head _)))
  obtain rfl:=Option.some.inj ((show P.globalNamed "squinch/hier.faults"=some G.b by kernel_rfl).symm.trans u)
  obtain rfl:=Option.some.inj ((show (P.globals[G.b]?).map (·.type)=some T.ao by kernel_rfl).symm.trans k)
  rw[X0x] at r
  have:=Q4V (f:=fun s=>[S s]) (sz:=1) (n:=6) (e:=T.c) (by kernel_rfl) Kf (by kernel_rfl) U5 (fun _=>rfl) (fun m cs a q h=>by
   obtain ⟨⟨⟨s⟩⟩,rfl,j,_⟩:=DataW.trod_string X8 h
   cases j;rfl) r
  exact Q5P u b (this.trans (by rfl))
end Go.Proofs.YtjdiakhipmggjaaGreatDoor
namespace Go.Emb
open Go.RowKit Go.Hm
theorem X3F {H:Type} {P:Program} {a:List TypeId} {ds:List (DataW H)} (h:(DataW.weightsEach P a ds).all (· ≤reachBytes)=true) {j:Nat} {t:TypeId} {d:DataW H} (e:a[j]? =some t) (c:ds[j]? =some d):Wt P t d:=fun n b=>by
 have:=List.all_eq_true.1 h _ (DataW.weights_mem_each e c n b)
 simpa using this
end Go.Emb
namespace Go.Proofs.YtjdiakhipmggjaaGreatDoor
open Go.Emb Go.RowKit Go.Kd Go.Hm
section
variable {H : Type} {enc : TypeId × Value → H} {W : World} {v : Value} {d : DataW H} {p : List MemPlace}
end
end Go.Proofs.YtjdiakhipmggjaaGreatDoor

namespace Go.Proofs.YtjdiakhipmggjaaGreatDoor
open Go.Emb Go.RowKit Go.Kd Go.Hm
variable {w : World} {K : Value → World → Prop} {σ : Q6}
def I3 (n:Int) (x:Cat):Bool:=decide (0≤x.frm)&&decide (x.frm<x.to)&&decide (x.to≤n)&&decide (0≤x.at_)&&decide (x.at_<n)&&M9 x.cls
theorem Q8R {cs:List Value} {c:Cat} {q:Addr} {n:Int} (hs:X3 w σ) (hc:Um σ c cs) (hq:Z6 σ q [I n]) (h: ∀w' σ',Stp w σ w' σ'→K (.bool (I3 n c)) w'):Q1 P F.bh [.agg cs.toArray, .pointer (some q)] w K:=Q2E (by
 obtain ⟨rfl,h1,h2,h3,h4⟩:=hc
 unfold Ss
 unfold I3 at h
 (repeat' (first | (with_reducible intro _) | (with_reducible refine V0 ?_) | (simp only[↓M2,M2,Mb,reduceIte]) | (with_reducible first | refine ld aS aL aR ?_ | refine X7 aS aL aR ?_ | refine Y4 aS aL aR ?_ | refine Q8 aL ?_ | refine J3 aR ?_ | refine Z1 aS ?_ | refine N2 aS aL ?_ | refine U6 aS aR ?_ | refine Y8 aS aR aR (Rep.one (by assumption)) ?_ | refine U7 aS aR aR aR ?_ | refine Ru _ au (W8 aS ?_) | (refine J0 (fun hh=>?_) (fun hh=>?_)<;>(try simp only[hh,Bool.not_true,Bool.not_false,↓M2,M2,Mb,reduceIte])) | (refine Q7 (fun hh=>?_) (fun hh=>?_)<;>(try simp only[hh,Bool.not_true,Bool.not_false,↓M2,M2,Mb,reduceIte])))))
 all_goals exact aF)
theorem Q8q {cs:List Value} {i:Ins} (hs:X3 w σ) (hg:Glb σ) (hc:Qp σ i cs) (h: ∀w' σ',Stp w σ w' σ'→K (.bool (decide (H4 i=0))) w'):Q1 P F.bi [.agg cs.toArray] w K:=Q2S (by
 obtain ⟨rfl,h1,h2,h3⟩:=hc
 have hc:Qp σ i [S i.op,I i.n,S i.s]:=⟨rfl,h1,h2,h3⟩
 unfold Sa
 (repeat' (first | (with_reducible intro _) | (with_reducible refine V0 ?_) | (simp only[↓M2,M2,Mb,reduceIte]) | (with_reducible first | refine ld aS aL aR ?_ | refine X7 aS aL aR ?_ | refine Y4 aS aL aR ?_ | refine Q8 aL ?_ | refine J3 aR ?_ | refine Z1 aS ?_ | refine N2 aS aL ?_ | refine U6 aS aR ?_ | refine Y8 aS aR aR (Rep.one (by assumption)) ?_ | refine U7 aS aR aR aR ?_ | refine Q6Y au au au ?_ | (refine J0 (fun hh=>?_) (fun hh=>?_)<;>(try simp only[hh,Bool.not_true,Bool.not_false,↓M2,M2,Mb,reduceIte])) | (refine Q7 (fun hh=>?_) (fun hh=>?_)<;>(try simp only[hh,Bool.not_true,Bool.not_false,↓M2,M2,Mb,reduceIte])))))
 all_goals exact aF)
def I9 (m:Hm.Met):Bool:=D7 m.name&&m.params.all right&&(decide (m.result=[])||right m.result)&&
 if m.abs then decide (m.locals=0)&&decide (m.code=[])&&decide (m.catches=[])
 else decide (m.code≠[])&&decide ((m.params.length:Int)<m.locals)&&m.code.all (fun i=>decide (H4 i=0))&&m.catches.all (I3 m.code.length)
theorem X0t {cs:List Value} {m:Hm.Met} (hs:X3 w σ) (hg:Glb σ) (hm:E7 σ m cs) (h: ∀w' σ',Stp w σ w' σ'→K (.bool (I9 m)) w'):Q1 P F.ba [.agg cs.toArray] w K:=Q3V (by
 obtain ⟨pv,cv,hv,rfl,g1,g2,g3,g4,g5,g6⟩:=hm
 unfold Gm
 unfold I9 at h
 have e1:decide ((0:Int)<m.code.length)=decide (m.code≠[]):=by cases m.code<;>simp
 have e2:decide ((m.code.length:Int)=0)=decide (m.code=[]):=by cases m.code<;>simp;omega
 have e3:decide ((m.catches.length:Int)=0)=decide (m.catches=[]):=by cases m.catches<;>simp;omega
 have hA: ∀{w1:World} {σ1:Q6} {K:Value→World→Prop},X3 w1 σ1→Sl 1 U8 σ1 pv m.params→(∀w' σ',Stp w1 σ1 w' σ'→K (.bool (m.params.all right)) w')→Q1 P F.aa [pv, .func (.func F.a0) #[] #[]] w1 K:=
  fun hs hv h=>Ft right hs hv (fun σ1 x w1 K _ _ hs hl hK=>Z8 (Zn x (Nat.le_trans hl (by decide)) hK)) (W8 hs h)
 have hB: ∀{w1:World} {σ1:Q6} {K:Value→World→Prop},X3 w1 σ1→Glb σ1→Sl 3 Qp σ1 cv m.code→(∀w' σ',Stp w1 σ1 w' σ'→K (.bool (m.code.all fun i=>decide (H4 i=0))) w')→Q1 P F.av [cv, .func (.func F.bi) #[] #[]] w1 K:=
  fun hs hg hv h=>Q1Y (fun i=>decide (H4 i=0)) hs hv (fun σ1 x cs w1 K le _ hs hr hl hK=>Z8 (Q8q hs (hg.lift ⟨le⟩) hr fun w' σ' hk=>hK w' hk.bel)) (W8 hs h)
 have hC: ∀{w1:World} {σ1:Q6} {K:Value→World→Prop} {q:Addr},X3 w1 σ1→Sl 4 Um σ1 hv m.catches→Z6 σ1 q [I m.code.length]→(∀w' σ',Stp w1 σ1 w' σ'→K (.bool (m.catches.all (I3 m.code.length))) w')→Q1 P F.aw [hv, .func (.func F.bh) #[] #[.pointer (some q)]] w1 K:=
  fun hs hv hq h=>Q1V (I3 m.code.length) hs hv (fun σ1 x cs w1 K le _ hs hr hl hK=>Z8 (Q8R hs hr (hq.le le) fun w' σ' hk=>hK w' hk.bel)) (W8 hs h)
 refine Z1 hs fun a w1 σ1 hk1 ha1=>?_
 (repeat' (first | (with_reducible intro _) | (with_reducible refine V0 ?_) | (simp only[↓M2,M2,Mb,reduceIte]) | (with_reducible first | refine ld aS aL aR ?_ | refine X7 aS aL aR ?_ | refine Y4 aS aL aR ?_ | refine Q8 aL ?_ | refine J3 aR ?_ | refine Z1 aS ?_ | refine N2 aS aL ?_ | refine U6 aS aR ?_ | refine Y8 aS aR aR (Rep.one (by assumption)) ?_ | refine U7 aS aR aR aR ?_ | refine Q5Y au (W8 aS ?_) | refine Zn _ au (W8 aS ?_) | refine hA au au ?_ | refine hB au au au ?_ | refine hC au au au ?_ | (refine J0 (fun hh=>?_) (fun hh=>?_)<;>(try simp only[hh,Bool.not_true,Bool.not_false,↓M2,M2,Mb,reduceIte])) | (refine Q7 (fun hh=>?_) (fun hh=>?_)<;>(try simp only[hh,Bool.not_true,Bool.not_false,↓M2,M2,Mb,reduceIte])))))
 all_goals (simp only[←e1,←e2,←e3] at h;clear e1 e2 e3;exact aF))
theorem Q9S {cs:List Value} {m:Hm.Met} (c:X3 w σ) (a:Glb σ) (d:E7 σ m cs) (h: ∀w' b,Stp w σ w' b→K (.bool (I9 m)) w'):Z4 P (.func (.func F.ba) #[] #[]) [.agg cs.toArray] w K:=Z8 (X0t c a d h)
def Ey (f:Fld):Bool:=D7 f.name&&right f.kind
def Mu (c:Cla):Bool:=(c.name::c.super::c.like).all M9&& !((c.super::c.like).any fun y=>decide (c.name=y))&&B0 id [] c.like&&
 !(c.iface&&(!c.abs|| !decide (c.super=U1)|| !decide (c.fields=[])||c.methods.any (fun m=> !m.abs)))&&
 !((c.abs&&c.fin)||(c.methods.any (·.abs)&& !c.abs))&&B0 Fld.name [] c.fields&&B0 Hm.Met.name [] c.methods&&c.fields.all Ey&&c.methods.all I9
def D3 (c:Cla):Int:=if Zw c then 51 else if Mu c then 0 else 50
theorem X03 {cs:List Value} {f:Fld} (hs:X3 w σ) (hf:S5 σ f cs) (h: ∀w' σ',Stp w σ w' σ'→K (.bool (Ey f)) w'):Q1 P F.bx [.agg cs.toArray] w K:=Q30 (by
 obtain ⟨rfl,h1,h2⟩:=hf
 unfold Bl
 unfold Ey at h
 (repeat' (first | (with_reducible intro _) | (with_reducible refine V0 ?_) | (simp only[↓M2,M2,Mb,reduceIte]) | (with_reducible first | refine ld aS aL aR ?_ | refine X7 aS aL aR ?_ | refine Y4 aS aL aR ?_ | refine Q8 aL ?_ | refine J3 aR ?_ | refine Z1 aS ?_ | refine N2 aS aL ?_ | refine U6 aS aR ?_ | refine Y8 aS aR aR (Rep.one (by assumption)) ?_ | refine U7 aS aR aR aR ?_ | refine Q5Y au (W8 aS ?_) | refine Zn _ au (W8 aS ?_) | (refine J0 (fun hh=>?_) (fun hh=>?_)<;>(try simp only[hh,Bool.not_true,Bool.not_false,↓M2,M2,Mb,reduceIte])) | (refine Q7 (fun hh=>?_) (fun hh=>?_)<;>(try simp only[hh,Bool.not_true,Bool.not_false,↓M2,M2,Mb,reduceIte])))))
 all_goals exact aF)
set_option maxHeartbeats 1600000 in
theorem X2k {cs:List Value} {c:Cla} (hs:X3 w σ) (hg:Glb σ) (hc:U9 σ c cs) (hl:c.like.length≤1000000) (h: ∀w' σ',Stp w σ w' σ'→K (.bool (Mu c)) w'):Q1 P F.cA [.agg cs.toArray] w K:=Q4X (by
 obtain ⟨lv,fv,mv,rfl,g1,g2,g3,g4,g5⟩:=hc
 unfold Tp
 unfold Mu at h
 refine Z1 hs fun a w1 σ1 hk1 ha1=>?_
 rw[fa]
 refine ld hk1.sat ha1 rfl ?_
 rw[fa]
 refine ld hk1.sat ha1 rfl ?_
 refine Zf (R:=U8) (sz:=1) (xs:=[c.name,c.super]) hk1 [_,_] rfl rfl (by simp;exact ⟨rfl,rfl⟩) rfl ⟨⟨rfl,g4⟩,⟨rfl,g5⟩,trivial⟩ fun v w2 hk2 hacc _=>?_
 rw[fa]
 refine ld hk2.sat ha1 rfl ?_
 refine Wm (hk1.trans hk2) hacc (g1.up hk1) rfl (by simp;omega) (by simp;omega) fun v' w3 hn3 hS3 hacc3 _=>?_
 obtain ⟨σ3,hS3,hv3,le3,_⟩:=hacc3.keep hS3
 have hv3:Sl 1 U8 σ3 v' (c.name::c.super::c.like):=hv3
 have ha3:=ha1.le le3
 have le13:SLe σ σ3:=⟨hS3.le⟩
 have g1:=g1.lift le13
 have g2:=g2.lift le13
 have g3:=g3.lift le13
 have hg:=hg.lift le13
 refine U0 hS3.sat ?_
 refine E8 (fun v _=>Sl 1 U8 σ3 v (c.super::c.like)) (fun _ _ _ h _=>h) (fun w hb=>?_) ?_
 ·refine Et hv3 (some (I 1)) none 1 (c.like.length+2) (.inr rfl) (.inl ⟨rfl,by simp⟩) (by omega) (by simp) fun v' hv'=>⟨Below.refl _ _,?_⟩
  simpa using hv'
 refine X4 (.pointer (some (a.add 0))) (fun w hb=>by rw[fa];exact X6 rfl) ?_
 refine X4 (S c.name) (fun t w hb e=>by rw[e];exact ld hb.sat ha3 rfl (X6 rfl)) ?_
 rintro t16 t17 t18 w4 hb4 f16 rfl rfl
 have hS4:=hS3.trans hb4.stp
 clear hb4 hk1 hk2 hn3
 have hs4:=hS4.sat
 refine Q28 hs4 f16 ?_
 have hA: ∀{w1:World} {σ1:Q6} {K:Value→World→Prop},X3 w1 σ1→Sl 7 E7 σ1 mv c.methods→(∀w' σ',Stp w1 σ1 w' σ'→K (.bool (c.methods.any (·.abs))) w')→Q1 P F.a [mv, .func (.func F.cn) #[] #[]] w1 K:=
  fun hs hv h=>F2 (·.abs) hs hv (fun x cs w1 K _ hs hr hl hK=>Z8 (Q3s (by
   obtain ⟨pv,cv,hv,rfl,_⟩:=hr
   unfold Bm
   refine Z1 hs fun a w1 σ1 hk1 ha1=>?_
   (repeat' (first | (with_reducible intro _) | (with_reducible refine V0 ?_) | (simp only[↓M2,M2,Mb,reduceIte]) | (with_reducible first | refine ld aS aL aR ?_ | refine X7 aS aL aR ?_ | refine Y4 aS aL aR ?_ | refine Q8 aL ?_ | refine J3 aR ?_ | refine Z1 aS ?_ | refine N2 aS aL ?_ | refine U6 aS aR ?_ | refine Y8 aS aR aR (Rep.one (by assumption)) ?_ | refine U7 aS aR aR aR ?_ | (refine J0 (fun hh=>?_) (fun hh=>?_)<;>(try simp only[hh,Bool.not_true,Bool.not_false,↓M2,M2,Mb,reduceIte])) | (refine Q7 (fun hh=>?_) (fun hh=>?_)<;>(try simp only[hh,Bool.not_true,Bool.not_false,↓M2,M2,Mb,reduceIte])))))
   exact hK _ hk1.bel))) (W8 hs h)
 have hB: ∀{w1:World} {σ1:Q6} {K:Value→World→Prop},X3 w1 σ1→Sl 7 E7 σ1 mv c.methods→(∀w' σ',Stp w1 σ1 w' σ'→K (.bool (c.methods.any fun m=> !m.abs)) w')→Q1 P F.a [mv, .func (.func F.co) #[] #[]] w1 K:=
  fun hs hv h=>F2 (fun m=> !m.abs) hs hv (fun x cs w1 K _ hs hr hl hK=>Z8 (Q2Y (by
   obtain ⟨pv,cv,hv,rfl,_⟩:=hr
   unfold Bn
   refine Z1 hs fun a w1 σ1 hk1 ha1=>?_
   (repeat' (first | (with_reducible intro _) | (with_reducible refine V0 ?_) | (simp only[↓M2,M2,Mb,reduceIte]) | (with_reducible first | refine ld aS aL aR ?_ | refine X7 aS aL aR ?_ | refine Y4 aS aL aR ?_ | refine Q8 aL ?_ | refine J3 aR ?_ | refine Z1 aS ?_ | refine N2 aS aL ?_ | refine U6 aS aR ?_ | refine Y8 aS aR aR (Rep.one (by assumption)) ?_ | refine U7 aS aR aR aR ?_ | (refine J0 (fun hh=>?_) (fun hh=>?_)<;>(try simp only[hh,Bool.not_true,Bool.not_false,↓M2,M2,Mb,reduceIte])) | (refine Q7 (fun hh=>?_) (fun hh=>?_)<;>(try simp only[hh,Bool.not_true,Bool.not_false,↓M2,M2,Mb,reduceIte])))))
   exact hK _ hk1.bel))) (W8 hs h)
 have hC: ∀{w1:World} {σ1:Q6} {K:Value→World→Prop},X3 w1 σ1→Sl 1 U8 σ1 v' (c.name::c.super::c.like)→(∀w' σ',Stp w1 σ1 w' σ'→K (.bool ((c.name::c.super::c.like).all M9)) w')→Q1 P F.aa [v', .func (.func F.ak) #[] #[]] w1 K:=
  fun hs hv h=>Ft M9 hs hv (fun σ1 x w1 K _ _ hs hl hK=>Z8 (Ru x (Nat.le_trans hl (by decide)) hK)) (W8 hs h)
 have hD: ∀{w1:World} {σ1:Q6} {K:Value→World→Prop},X3 w1 σ1→Sl 1 U8 σ1 lv c.like→(∀w' σ',Stp w1 σ1 w' σ'→K (.bool (B0 id [] c.like)) w')→Q1 P F.aU [lv, .func (.func F.cp) #[] #[]] w1 K:=
  fun hs hv h=>Q54 id hs hv (fun σ1 x w1 K _ hs hl hK=>Z8 (Q3t (hK _ (Below.refl _ _)))) (W8 hs h)
 have hE: ∀{w1:World} {σ1:Q6} {K:Value→World→Prop},X3 w1 σ1→Sl 3 S5 σ1 fv c.fields→(∀w' σ',Stp w1 σ1 w' σ'→K (.bool (B0 Fld.name [] c.fields)) w')→Q1 P F.aE [fv, .func (.func F.cq) #[] #[]] w1 K:=
  fun hs hv h=>Q2A Fld.name hs hv (fun σ1 x cs w1 K _ hs hr hl hK=>Z8 (Q3e (by
   obtain ⟨rfl,_⟩:=hr
   unfold Bg
   refine Z1 hs fun a w1 σ1 hk1 ha1=>?_
   (repeat' (first | (with_reducible intro _) | (with_reducible refine V0 ?_) | (simp only[↓M2,M2,Mb,reduceIte]) | (with_reducible first | refine ld aS aL aR ?_ | refine X7 aS aL aR ?_ | refine Y4 aS aL aR ?_ | refine Q8 aL ?_ | refine J3 aR ?_ | refine Z1 aS ?_ | refine N2 aS aL ?_ | refine U6 aS aR ?_ | refine Y8 aS aR aR (Rep.one (by assumption)) ?_ | refine U7 aS aR aR aR ?_ | (refine J0 (fun hh=>?_) (fun hh=>?_)<;>(try simp only[hh,Bool.not_true,Bool.not_false,↓M2,M2,Mb,reduceIte])) | (refine Q7 (fun hh=>?_) (fun hh=>?_)<;>(try simp only[hh,Bool.not_true,Bool.not_false,↓M2,M2,Mb,reduceIte])))))
   exact hK _ hk1.bel))) (W8 hs h)
 have hF: ∀{w1:World} {σ1:Q6} {K:Value→World→Prop},X3 w1 σ1→Sl 7 E7 σ1 mv c.methods→(∀w' σ',Stp w1 σ1 w' σ'→K (.bool (B0 Hm.Met.name [] c.methods)) w')→Q1 P F.aq [mv, .func (.func F.cr) #[] #[]] w1 K:=
  fun hs hv h=>Q22 Hm.Met.name hs hv (fun σ1 x cs w1 K _ hs hr hl hK=>Z8 (Q34 (by
   obtain ⟨pv,cv,hv,rfl,_⟩:=hr
   unfold Be
   refine Z1 hs fun a w1 σ1 hk1 ha1=>?_
   (repeat' (first | (with_reducible intro _) | (with_reducible refine V0 ?_) | (simp only[↓M2,M2,Mb,reduceIte]) | (with_reducible first | refine ld aS aL aR ?_ | refine X7 aS aL aR ?_ | refine Y4 aS aL aR ?_ | refine Q8 aL ?_ | refine J3 aR ?_ | refine Z1 aS ?_ | refine N2 aS aL ?_ | refine U6 aS aR ?_ | refine Y8 aS aR aR (Rep.one (by assumption)) ?_ | refine U7 aS aR aR aR ?_ | (refine J0 (fun hh=>?_) (fun hh=>?_)<;>(try simp only[hh,Bool.not_true,Bool.not_false,↓M2,M2,Mb,reduceIte])) | (refine Q7 (fun hh=>?_) (fun hh=>?_)<;>(try simp only[hh,Bool.not_true,Bool.not_false,↓M2,M2,Mb,reduceIte])))))
   exact hK _ hk1.bel))) (W8 hs h)
 have hG: ∀{w1:World} {σ1:Q6} {K:Value→World→Prop},X3 w1 σ1→Sl 3 S5 σ1 fv c.fields→(∀w' σ',Stp w1 σ1 w' σ'→K (.bool (c.fields.all Ey)) w')→Q1 P F.ar [fv, .func (.func F.bx) #[] #[]] w1 K:=
  fun hs hv h=>Q1X Ey hs hv (fun σ1 x cs w1 K _ _ hs hr hl hK=>Z8 (X03 hs hr fun w' σ' hk=>hK w' hk.bel)) (W8 hs h)
 have hH: ∀{w1:World} {σ1:Q6} {K:Value→World→Prop},X3 w1 σ1→Glb σ1→Sl 7 E7 σ1 mv c.methods→(∀w' σ',Stp w1 σ1 w' σ'→K (.bool (c.methods.all I9)) w')→Q1 P F.an [mv, .func (.func F.ba) #[] #[]] w1 K:=
  fun hs hg hv h=>Q0L I9 hs hv (fun σ1 x cs w1 K le _ hs hr hl hK=>Q9S hs (hg.lift ⟨le⟩) hr fun w' σ' hk=>hK w' hk.bel) (W8 hs h)
 have e1:decide ((0:Int)<c.fields.length)= !decide (c.fields=[]):=by cases c.fields<;>simp
 have e2:decide (c.super=[79,98,106,101,99,116])=decide (c.super=U1):=rfl
 (repeat' (first | (with_reducible intro _) | (with_reducible refine V0 ?_) | (simp only[↓M2,M2,Mb,reduceIte]) | (with_reducible first | refine ld aS aL aR ?_ | refine X7 aS aL aR ?_ | refine Y4 aS aL aR ?_ | refine Q8 aL ?_ | refine J3 aR ?_ | refine Z1 aS ?_ | refine N2 aS aL ?_ | refine U6 aS aR ?_ | refine Y8 aS aR aR (Rep.one (by assumption)) ?_ | refine U7 aS aR aR aR ?_ | refine hA au au ?_ | refine hB au au ?_ | refine hC au au ?_ | refine hD au au ?_ | refine hE au au ?_ | refine hF au au ?_ | refine hG au au ?_ | refine hH au au au ?_ | (refine J0 (fun hh=>?_) (fun hh=>?_)<;>(try simp only[hh,Bool.not_true,Bool.not_false,↓M2,M2,Mb,reduceIte])) | (refine Q7 (fun hh=>?_) (fun hh=>?_)<;>(try simp only[hh,Bool.not_true,Bool.not_false,↓M2,M2,Mb,reduceIte])))))
 all_goals (simp only[←e1,←e2] at h;clear hA hB hC hD hE hF hG hH e1 e2;exact aF))
theorem X2I {cs:List Value} {c:Cla} (hs:X3 w σ) (hg:Glb σ) (hc:U9 σ c cs) (hl:c.like.length≤1000000) (h: ∀w' σ',Stp w σ w' σ'→K (I (D3 c)) w'):Q1 P F.cy [.agg cs.toArray] w K:=Q4Y (by
 have hc0:=hc
 obtain ⟨lv,fv,mv,rfl,g1,g2,g3,g4,g5⟩:=hc
 unfold Tv
 unfold D3 at h
 (repeat' (first | (with_reducible intro _) | (with_reducible refine V0 ?_) | (simp only[↓M2,M2,Mb,reduceIte]) | (with_reducible first | refine ld aS aL aR ?_ | refine X7 aS aL aR ?_ | refine Y4 aS aL aR ?_ | refine Q8 aL ?_ | refine J3 aR ?_ | refine Z1 aS ?_ | refine N2 aS aL ?_ | refine U6 aS aR ?_ | refine Y8 aS aR aR (Rep.one (by assumption)) ?_ | refine U7 aS aR aR aR ?_ | refine X34 au au (W8 aS ?_) | refine X2k au au au au ?_ | (refine J0 (fun hh=>?_) (fun hh=>?_)<;>(try simp only[hh,Bool.not_true,Bool.not_false,↓M2,M2,Mb,reduceIte])) | (refine Q7 (fun hh=>?_) (fun hh=>?_)<;>(try simp only[hh,Bool.not_true,Bool.not_false,↓M2,M2,Mb,reduceIte])))))
 all_goals exact aF)
end Go.Proofs.YtjdiakhipmggjaaGreatDoor

namespace Go.Emb
open Go.RowKit Go.Hm
structure Tab (σ : Q6) (v : Value) (l : List Cla) : Prop where
  ex : ∃ a lv r m, v = .pointer (some a) ∧ Z6 σ a [lv, .map (some r)] ∧ Sl 8 U9 σ lv l ∧ Xj σ r m ∧ ∀ n, C6 m n = (Z3 l n).map (fun i : Nat => I (i : Int))
theorem Tab.lift {σ0 σ:Q6} {v:Value} {l:List Cla} (h:Tab σ0 v l) (k:SLe σ0 σ):Tab σ v l:=by
 obtain ⟨a,c,r,m,f,b,g,d,e⟩:=h.ex
 exact ⟨a,c,r,m,f,b.lift k,g.lift k,d.lift k,e⟩
end Go.Emb
namespace Go.Proofs.YtjdiakhipmggjaaGreatDoor
open Go.Emb Go.RowKit Go.Kd Go.Hm
variable {w : World} {K : Value → World → Prop} {σ : Q6} {v : Value} {l : List Cla}
theorem Q8A {n:X0} (b:X3 w σ) (f:Tab σ v l) (h:K (.bool (Q1r l n)) w):Q1 P F.j [v,S n] w K:=Eh (by
 obtain ⟨a,i,r,m,rfl,d,j,g,c⟩:=f.ex
 unfold Uh
 rw[L8,fa]
 refine ld b d rfl ?_
 rw[Q2P X8 (g.is b) n,c n]
 unfold Q1r at h
 cases e:Z3 l n<;>rw[e] at h<;>((try simp only[Option.map_some,Option.map_none]);(try simp only[↓M1,M1,Mb,reduceIte]);exact h))
theorem Zo {n:X0} {c:Cla} (L:X3 w σ) (N:Tab σ v l) (V:lk l n=some c)
 (h: ∀o s mv w' j,Stp w σ w' j→Sl 1 U8 j o c.like→Sl 3 S5 j s c.fields→Sl 7 E7 j mv c.methods→c.name.length≤U2→c.super.length≤U2→U9 j c [S c.name,S c.super,o, .bool c.iface, .bool c.abs, .bool c.fin,s,mv]→
  K (.agg [S c.name,S c.super,o, .bool c.iface, .bool c.abs, .bool c.fin,s,mv].toArray) w'):Q1 P F.h [v,S n] w K:=Pi (by
 obtain ⟨a,o,r,m,rfl,E,t2,R,H⟩:=N.ex
 obtain ⟨_,_,i,hi,C⟩:=V3 V
 obtain ⟨z,rfl⟩:=List.getElem?_eq_some_iff.1 C
 unfold Mj
 refine M0 L fun b w1 σ1 f d u=>?_
 refine U0 d.sat ?_
 refine X4 (.pointer (some a)) (fun w f=>by rw[L8];exact X6 rfl) ?_
 refine X4 (.pointer (some (a.add 0))) (fun t w f e=>by rw[e,fa];exact X6 rfl) ?_
 refine X4 (.pointer (some a)) (fun w f=>by rw[L8];exact X6 rfl) ?_
 refine X4 (.pointer (some (a.add 1))) (fun t w f e=>by rw[e,fa];exact X6 rfl) ?_
 refine X4 o (fun t w f e=>by rw[e];exact ld f.sat (E.up d) rfl (X6 rfl)) ?_
 refine X4 (.map (some r)) (fun t w f e=>by rw[e];exact ld f.sat (E.up d) rfl (X6 rfl)) ?_
 refine X4 (I i) (fun t w f e=>by rw[e,Q4O X8 ((R.up d).is f.sat) n,H n,hi];exact X6 rfl) ?_
 rintro t6 t7 af Y t8 U W w2 g rfl rfl rfl rfl e8 rfl rfl
 subst e8
 have y:=u.step g.stp
 refine N0 (t2.up d) z fun p cs X k D=>?_
 refine Y4 g.sat X k ?_
 have q:=D
 obtain ⟨ae,s,mv,rfl,Z,g2,J,Q,O⟩:=D
 refine G8 y (d.trans g.stp) f rfl rfl (Rep.one q) fun M B A=>?_
 refine V2 A rfl ?_
 exact h _ _ _ M σ1 B.stp Z g2 J Q O q)
theorem Q0y {n:X0} (a:X3 w σ) (c:Tab σ v l) (b:lk l n=none) (h:K (.bool false) w):Q1 P F.j [v,S n] w K:=Q8A a c (by rw[Q1S,b];exact h)
theorem Rz {n:X0} {d:Cla} (a:X3 w σ) (c:Tab σ v l) (b:lk l n=some d) (h:K (.bool true) w):Q1 P F.j [v,S n] w K:=Q8A a c (by rw[Q1S,b];exact h)
theorem X14 {c:Cla} {cs:List Value} (hs:X3 w σ) (ht:Tab σ v l) (hc:U9 σ c cs) (h: ∀w' σ',Stp w σ w' σ'→K (I (D2 l c)) w'):Q1 P F.bb [v, .agg cs.toArray] w K:=Gf (by
 obtain ⟨lv,fv,mv,rfl,g1,g2,g3,g4,g5⟩:=hc
 unfold Lm
 unfold D2 at h
 cases hd:lk l c.super with
 | none=>
  simp only[Qy,hd,if_true] at h
  (repeat' (first | (with_reducible intro _) | (with_reducible refine V0 ?_) | (simp only[↓M2,M2,Mb,reduceIte]) | (with_reducible first | refine ld aS aL aR ?_ | refine X7 aS aL aR ?_ | refine Y4 aS aL aR ?_ | refine Q8 aL ?_ | refine J3 aR ?_ | refine Z1 aS ?_ | refine N2 aS aL ?_ | refine U6 aS aR ?_ | refine Y8 aS aR aR (Rep.one (by assumption)) ?_ | refine U7 aS aR aR aR ?_ | refine Q0y au au au ?_ | (refine J0 (fun hh=>?_) (fun hh=>?_)<;>(try simp only[hh,Bool.not_true,Bool.not_false,↓M2,M2,Mb,reduceIte])) | (refine Q7 (fun hh=>?_) (fun hh=>?_)<;>(try simp only[hh,Bool.not_true,Bool.not_false,↓M2,M2,Mb,reduceIte])))))
  all_goals exact aF
 | some d=>
  simp only[Qy,hd] at h
  obtain ⟨dn,ds,dl,di,da,df,dfs,dms⟩:=d
  cases di<;>cases df
  ·simp only[Bool.or_self,Bool.false_eq_true,if_false] at h
   (repeat' (first | (with_reducible intro _) | (with_reducible refine V0 ?_) | (simp only[↓M2,M2,Mb,reduceIte]) | (with_reducible first | refine ld aS aL aR ?_ | refine X7 aS aL aR ?_ | refine Y4 aS aL aR ?_ | refine Q8 aL ?_ | refine J3 aR ?_ | refine Z1 aS ?_ | refine N2 aS aL ?_ | refine U6 aS aR ?_ | refine Y8 aS aR aR (Rep.one (by assumption)) ?_ | refine U7 aS aR aR aR ?_ | refine Rz au au au ?_ | refine Zo au au au ?_ | (refine J0 (fun hh=>?_) (fun hh=>?_)<;>(try simp only[hh,Bool.not_true,Bool.not_false,↓M2,M2,Mb,reduceIte])) | (refine Q7 (fun hh=>?_) (fun hh=>?_)<;>(try simp only[hh,Bool.not_true,Bool.not_false,↓M2,M2,Mb,reduceIte])))))
   rename_i w3 σ3 hk3 _ _ _ _ _ _
   have hS:Stp w σ w3 σ3:=by (repeat (first | exact Stp.refl (by (first | assumption | exact Stp.sat (by assumption) | exact Hst.sat (by assumption))) | assumption | refine Stp.trans ?_ (by first | assumption | exact Hst.stp (by assumption))))
   refine U3 c.like.length (fun n w'=> ∃σ',Stp w σ w' σ'∧SLe σ3 σ'∧((c.like.take n).any (R5 l))=false) ⟨σ3,hS,SLe.refl _,by simp⟩ fun n w4 d hn hi=>?_
   obtain ⟨σ4,hS4,le4,hq⟩:=hi
   clear hk3
   refine Y9 ?_
   refine Q7 (fun hh=>?_) (fun hh=>?_)
   ·have hn':n<c.like.length:=by simpa using hh
    have hmax:c.like.length≤9223372036854775807:=g1.max
    refine Q5w (by (first | assumption | exact Sl.lift (by assumption) (by (repeat (first | exact SLe.refl _ | refine SLe.more ?_ (by assumption) | refine SLe.more ?_ (Nxt.le (by assumption)) | refine SLe.step ?_ (by assumption)))) | exact Z6.lift (by assumption) (by (repeat (first | exact SLe.refl _ | refine SLe.more ?_ (by assumption) | refine SLe.more ?_ (Nxt.le (by assumption)) | refine SLe.step ?_ (by assumption)))) | exact Xj.lift (by assumption) (by (repeat (first | exact SLe.refl _ | refine SLe.more ?_ (by assumption) | refine SLe.more ?_ (Nxt.le (by assumption)) | refine SLe.step ?_ (by assumption)))) | exact RCl_lift (by assumption) (by (repeat (first | exact SLe.refl _ | refine SLe.more ?_ (by assumption) | refine SLe.more ?_ (Nxt.le (by assumption)) | refine SLe.step ?_ (by assumption)))) | exact RMe_lift (by assumption) (by (repeat (first | exact SLe.refl _ | refine SLe.more ?_ (by assumption) | refine SLe.more ?_ (Nxt.le (by assumption)) | refine SLe.step ?_ (by assumption)))) | exact Glb.lift (by assumption) (by (repeat (first | exact SLe.refl _ | refine SLe.more ?_ (by assumption) | refine SLe.more ?_ (Nxt.le (by assumption)) | refine SLe.step ?_ (by assumption)))) | exact Tab.lift (by assumption) (by (repeat (first | exact SLe.refl _ | refine SLe.more ?_ (by assumption) | refine SLe.more ?_ (Nxt.le (by assumption)) | refine SLe.step ?_ (by assumption)))) | exact RIn_any (by assumption) | exact RFd_any (by assumption) | exact RCa_any (by assumption))) hn' fun p hl hbig=>?_
    have hq':=L2 (p:=R5 l) hn'
    rw[hq] at hq'
    cases hx:lk l c.like[n] with
    | none=>
     simp only[C0 (p:=R5 l) hn' (by simp only[R5,hx]),if_true] at h
     (repeat' (first | (with_reducible intro _) | (with_reducible refine V0 ?_) | (simp only[↓M2,M2,Mb,reduceIte]) | (with_reducible first | refine ld aS aL aR ?_ | refine X7 aS aL aR ?_ | refine Y4 aS aL aR ?_ | refine Q8 aL ?_ | refine J3 aR ?_ | refine Z1 aS ?_ | refine N2 aS aL ?_ | refine U6 aS aR ?_ | refine Y8 aS aR aR (Rep.one (by assumption)) ?_ | refine U7 aS aR aR aR ?_ | refine Q0y au au au ?_ | (refine J0 (fun hh=>?_) (fun hh=>?_)<;>(try simp only[hh,Bool.not_true,Bool.not_false,↓M2,M2,Mb,reduceIte])) | (refine Q7 (fun hh=>?_) (fun hh=>?_)<;>(try simp only[hh,Bool.not_true,Bool.not_false,↓M2,M2,Mb,reduceIte])))))
     all_goals exact aF
    | some x=>
     obtain ⟨xn,xs,xl,xi,xa,xf,xfs,xms⟩:=x
     cases xi
     ·simp only[C0 (p:=R5 l) hn' (by simp only[R5,hx];rfl),if_true] at h
      (repeat' (first | (with_reducible intro _) | (with_reducible refine V0 ?_) | (simp only[↓M2,M2,Mb,reduceIte]) | (with_reducible first | refine ld aS aL aR ?_ | refine X7 aS aL aR ?_ | refine Y4 aS aL aR ?_ | refine Q8 aL ?_ | refine J3 aR ?_ | refine Z1 aS ?_ | refine N2 aS aL ?_ | refine U6 aS aR ?_ | refine Y8 aS aR aR (Rep.one (by assumption)) ?_ | refine U7 aS aR aR aR ?_ | refine Rz au au au ?_ | refine Zo au au au ?_ | (refine J0 (fun hh=>?_) (fun hh=>?_)<;>(try simp only[hh,Bool.not_true,Bool.not_false,↓M2,M2,Mb,reduceIte])) | (refine Q7 (fun hh=>?_) (fun hh=>?_)<;>(try simp only[hh,Bool.not_true,Bool.not_false,↓M2,M2,Mb,reduceIte])))))
      all_goals exact aF
     ·(repeat' (first | (with_reducible intro _) | (with_reducible refine V0 ?_) | (simp only[↓M2,M2,Mb,reduceIte]) | (with_reducible first | refine ld aS aL aR ?_ | refine X7 aS aL aR ?_ | refine Y4 aS aL aR ?_ | refine Q8 aL ?_ | refine J3 aR ?_ | refine Z1 aS ?_ | refine N2 aS aL ?_ | refine U6 aS aR ?_ | refine Y8 aS aR aR (Rep.one (by assumption)) ?_ | refine U7 aS aR aR aR ?_ | refine Rz au au au ?_ | refine Zo au au au ?_ | (refine J0 (fun hh=>?_) (fun hh=>?_)<;>(try simp only[hh,Bool.not_true,Bool.not_false,↓M2,M2,Mb,reduceIte])) | (refine Q7 (fun hh=>?_) (fun hh=>?_)<;>(try simp only[hh,Bool.not_true,Bool.not_false,↓M2,M2,Mb,reduceIte])))))
      refine Y5 hmax hn' ⟨_,by (repeat (first | exact Stp.refl (by (first | assumption | exact Stp.sat (by assumption) | exact Hst.sat (by assumption))) | assumption | refine Stp.trans ?_ (by first | assumption | exact Hst.stp (by assumption)))),by (repeat (first | exact SLe.refl _ | refine SLe.more ?_ (by assumption) | refine SLe.more ?_ (Nxt.le (by assumption)) | refine SLe.step ?_ (by assumption))),by rw[hq'];simp only[R5,hx];rfl⟩
   ·have hn': ¬n<c.like.length:=by simpa using hh
    rw[E0 hn'] at hq
    simp only[hq,Bool.false_eq_true,if_false] at h
    exact h _ _ hS4
  all_goals
   simp only[Bool.or_self,Bool.or_true,Bool.true_or,if_true] at h
   (repeat' (first | (with_reducible intro _) | (with_reducible refine V0 ?_) | (simp only[↓M2,M2,Mb,reduceIte]) | (with_reducible first | refine ld aS aL aR ?_ | refine X7 aS aL aR ?_ | refine Y4 aS aL aR ?_ | refine Q8 aL ?_ | refine J3 aR ?_ | refine Z1 aS ?_ | refine N2 aS aL ?_ | refine U6 aS aR ?_ | refine Y8 aS aR aR (Rep.one (by assumption)) ?_ | refine U7 aS aR aR aR ?_ | refine Rz au au au ?_ | refine Zo au au au ?_ | (refine J0 (fun hh=>?_) (fun hh=>?_)<;>(try simp only[hh,Bool.not_true,Bool.not_false,↓M2,M2,Mb,reduceIte])) | (refine Q7 (fun hh=>?_) (fun hh=>?_)<;>(try simp only[hh,Bool.not_true,Bool.not_false,↓M2,M2,Mb,reduceIte])))))
   all_goals exact aF)
end Go.Proofs.YtjdiakhipmggjaaGreatDoor

namespace Go.Emb
open Go.RowKit Go.Hm
variable {P : Program} {w w0 w1 w' w'' : World} {K : Value → World → Prop} {σ σ0 σ1 σ' : Q6}
theorem Q8n {a:Addr} {v:Value} (h:w.cell? a=some v) (b:Below w.heap.size w w'):w'.cell? a=some v:=by
 rw[←h];exact World.cell?_of_block (b.block a.block (World.block_lt_of_cell? _ _ h))
def Ptr {α:Type} (sz:Nat) (R:Q6→α→List Value→Prop) (σ:Q6) (x:α) (p:Value) (w:World):Prop:=
 ∃a cs,p= .pointer (some a)∧(∀j u,cs[j]? =some u→w.cell? (a.add j)=some u)∧cs.length=sz∧R σ x cs
theorem Ptr.below {α:Type} {sz:Nat} {R:Q6→α→List Value→Prop} {x:α} {p:Value} (h:Ptr sz R σ x p w) (e:Below w.heap.size w w'):Ptr sz R σ x p w':=by
 obtain ⟨a,cs,b,f,c⟩:=h
 exact ⟨a,cs,b,fun j u d=>Q8n (f j u d) e,c⟩
end Go.Emb
namespace Go.Proofs.YtjdiakhipmggjaaGreatDoor
open Go.Emb Go.RowKit Go.Kd Go.Hm
variable {w : World} {K : Value → World → Prop} {σ : Q6} {v : Value} {l : List Cla}
theorem Q4M {w0:World} {σ0:Q6} {xs:List Cla} (hS:Stp w0 σ0 w σ) (J:J9 w0.heap.size T.b 8 U9 σ w v xs)
 (h: ∀w',Kpt (fun k=>v.ownBlock=some k) w w'→Stp w0 σ0 w' σ→J9 w0.heap.size T.b 8 U9 σ w' v xs.reverse→K (.tuple #[]) w'):Q1 P F.q [v] w K:=Zs (by
 unfold I5
 have M:xs.length≤9223372036854775807:=by
  obtain ⟨a,Y,_,g,c,_⟩:=J
  simp only[maxLen] at c;omega
 refine Q1v J ?_
 refine Zp ⟨by omega,by omega⟩ ?_
 refine Wo (fun x w'=> ∃i:Nat,x=(I i,I ((xs.length:Int)-1-i))∧2*i≤xs.length∧Kpt (fun k=>v.ownBlock=some k) w w'∧Stp w0 σ0 w' σ∧J9 w0.heap.size T.b 8 U9 σ w' v (C9 i xs)) (fun x _=>match x.2 with | .int _ n=>(n+1).toNat | _=>0) ⟨0,by simp,by omega,Kpt.refl,hS,J⟩ ?_
 rintro _ d w1 ⟨i,rfl,U,R,q,b⟩
 obtain ⟨N,Q⟩:=Q0A xs i U
 refine Y9 ?_
 refine Q7 (fun hh=>?_) (fun hh=>?_)
 ·have ac:(i:Int)<(xs.length:Int)-1-i:=by simpa using hh
  have O:((xs.length:Int)-1-i)=((xs.length-1-i:Nat):Int):=by omega
  have m:i<(C9 i xs).length:=by omega
  have o:xs.length-1-i<(C9 i xs).length:=by omega
  refine U0 q.sat ?_
  refine E8 (Ptr 8 U9 σ (C9 i xs)[xs.length-1-i]) (fun _ _ _ h f=>h.below f) (fun w f=>?_) ?_
  ·simp only[O]
   exact Q5K (b.step f.stp) o fun a cs g c j=>⟨Below.refl _ _,a,cs,rfl,g,c,j⟩
  refine E8 (Ptr 8 U9 σ (C9 i xs)[i]) (fun _ _ _ h f=>h.below f) (fun w f=>?_) ?_
  ·exact Q5K (b.step f.stp) m fun a cs g c j=>⟨Below.refl _ _,a,cs,rfl,g,c,j⟩
  refine E8 (fun v _=> ∃cs:List Value,v= .agg cs.toArray∧cs.length=8∧U9 σ (C9 i xs)[xs.length-1-i] cs) (fun _ _ _ h _=>h) (fun t w f e=>?_) ?_
  ·obtain ⟨a,cs,rfl,g,c,j⟩:=e
   exact Th c g ⟨Below.refl _ _,cs,rfl,c,j⟩
  refine E8 (fun v _=> ∃cs:List Value,v= .agg cs.toArray∧cs.length=8∧U9 σ (C9 i xs)[i] cs) (fun _ _ _ h _=>h) (fun t w f e=>?_) ?_
  ·obtain ⟨a,cs,rfl,g,c,j⟩:=e
   exact Th c g ⟨Below.refl _ _,cs,rfl,c,j⟩
  rintro Z ab X ad w2 r _ _ ⟨cs,rfl,H,s⟩ ⟨ds,rfl,z,y⟩
  refine Q2W (q.trans r.stp) (b.step r.stp) m H s (Rep.one s) fun p u w3 C L A=>?_
  simp only[O]
  refine Q2W L.stp A (by simpa using o) z y (Rep.one y) fun p u w4 E B D=>?_
  refine Xw ⟨by omega,by omega⟩ ?_
  refine Zp ⟨by omega,by omega⟩ ?_
  refine ⟨⟨i+1,by congr 1<;>congr 1<;>omega,by omega,?_,B.stp,?_⟩,?_⟩
  ·exact ((R.trans (Kpt.of_below r.stp.bel)).trans C).trans E
  ·have V:(C9 i xs)[i]? =some (C9 i xs)[i]:=List.getElem?_eq_getElem m
   have e2:(C9 i xs)[xs.length-1-i]? =some (C9 i xs)[xs.length-1-i]:=List.getElem?_eq_getElem o
   have:C9 (i+1) xs=((C9 i xs).set i (C9 i xs)[xs.length-1-i]).set (xs.length-1-i) (C9 i xs)[i]:=by
    simp only[C9,V,e2]
   rw[this];exact D
  ·simp only;omega
 ·have W: ¬(i:Int)<(xs.length:Int)-1-i:=by simpa using hh
  rw[Q9K xs i U (by omega)] at b
  exact h w1 R q b)
def sOf:Value→X0 | .string b=>b.data.toList | _=>[]
theorem X0p {n:X0} (D:X3 w σ) (A:Tab σ v l) (U:Jc l) (Z:l.length≤100000) (h: ∀y w' σ',Stp w σ w' σ'→J9 w.heap.size T.b 8 U9 σ' w' y (chain l n).reverse→K y w'):Q1 P F.aT [v,S n] w K:=Q0g (by
 unfold Oi
 refine Wo (fun x w'=> ∃(s:X0) (m:List Cla) (σ':Q6),x.2=S s∧chain l n=m++chain l s∧Stp w σ w' σ'∧V7 w.heap.size T.b 8 U9 σ' w' x.1 m) (fun x _=>(chain l (sOf x.2)).length)
  ⟨n,[],σ,rfl,rfl,Stp.refl D,V7.nil⟩ ?_
 rintro ⟨x1,_⟩ d w1 ⟨s,m,σ1,rfl,o,a,f⟩
 have e:=A.lift ⟨a.le⟩
 have z:=Bi l n
 have q:sOf (S s)=s:=by simp[sOf]
 simp only[q]
 cases j:lk l s with
 | none=>
  refine Q0y a.sat e j ?_
  refine Z7 ?_
  rw[Ym j,List.append_nil] at o
  rw[←o] at f
  refine Q4M a (J9.of_acc f) fun E i r p=>?_
  exact h _ _ _ r p
 | some c=>
  refine Rz a.sat e j ?_
  refine J7 ?_
  refine Zo a.sat e j fun Q H mv E X i C R V L O B=>?_
  have b:=Qc U s
  rw[j] at b
  simp only at b
  have M:m.length+1≤l.length+1:=by
   have:=congrArg List.length o
   rw[List.length_append,b,List.length_cons] at this;omega
  refine Jp (a.trans i) (f.up i) B rfl rfl rfl (by omega) (by omega) fun u y W Y J g t _=>?_
  refine Zo g.sat (A.lift ⟨g.le⟩) j fun Q H mv w4 N k C R V L O B=>?_
  refine J3 (v:=S c.super) rfl ?_
  refine ⟨⟨c.super,m++[c],N,rfl,?_,g.trans k,t.up k⟩,?_⟩
  ·rw[o,b];simp
  ·have:sOf (S c.super)=c.super:=by simp[sOf]
   simp only[this,b,List.length_cons];omega)
theorem Tg {n:X0} (V:X3 w σ) (W:Tab σ v l) (ha:Jc l) (hl:l.length≤100000) (L: ∀c∈l,Qs c) (h: ∀H w' σ',Stp w σ w' σ'→Sl 3 S5 σ' H (Y6 l n)→K H w'):Q1 P F.a3 [v,S n] w K:=Gs (by
 unfold Lc
 refine X0p V W ha hl fun v1 w1 σ1 u A=>?_
 obtain ⟨Q,z,r,ac,_⟩:=A.keep u
 generalize g:(chain l n).reverse=cs at*
 have M:cs.length≤l.length+1:=by rw[←g,List.length_reverse];exact Bi l n
 have s: ∀c∈cs,c.fields.length≤1000000:=fun c t=>(L c (Bf (by rw[←g] at t;simpa using t))).2.1
 refine Q8 r ?_
 refine E2 cs.length (fun i a w'=> ∃σ',Stp w σ w' σ'∧SLe Q σ'∧V7 w.heap.size T.o 3 S5 σ' w' a ((cs.take i).flatMap (·.fields))) ⟨Q,z,SLe.refl _,V7.nil⟩ fun i a w3 d hi m=>?_
 obtain ⟨σ3,f,k,j⟩:=m
 refine Y9 ?_
 refine Q7 (fun hh=>?_) (fun hh=>?_)
 ·have b:i<cs.length:=by simpa using hh
  refine N0 (r.lift k) b fun p cells E o N=>?_
  refine Y4 f.sat E o ?_
  refine Y8 f.sat (by rfl) o (Rep.one N) fun q w4 O e Y=>?_
  obtain ⟨lv,fv,mv,rfl,f1,Z,f3,f4,f5⟩:=N
  rw[fa]
  refine ld e.sat Y rfl ?_
  have y:=Wg (fun c:Cla=>c.fields) 1000000 (cs.take i) fun c t=>s c (List.mem_of_mem_take t)
  rw[List.length_take] at y
  have U:=s cs[i] (List.getElem_mem b)
  have R:min i cs.length*1000000≤100000*1000000:=Nat.mul_le_mul_right _ (by omega)
  refine Wm (f.trans e) (j.up e) (Z.up e) rfl (by omega) (by omega) fun H w5 ad B D _=>?_
  refine N3 ?_
  refine J5 (by omega) b ⟨O,B,k.more ⟨e.le⟩,?_⟩
  rw[List.take_add_one,List.getElem?_eq_getElem b,List.flatMap_append]
  simpa using D
 ·have b: ¬i<cs.length:=by simpa using hh
  rw[List.take_of_length_le (by omega)] at j
  obtain ⟨O,C,J,X,_⟩:=j.keep f
  refine h _ _ _ C ?_
  unfold Y6
  rw[g];exact J)
theorem X2f {n f:X0} (hs:X3 w σ) (ht:Tab σ v l) (ha:Jc l) (hl:l.length≤100000) (hsm: ∀c∈l,Qs c) (h: ∀w' σ',Stp w σ w' σ'→K (I (L6 (Ju l n f))) w'):Q1 P F.bm [v,S n,S f] w K:=Pn (by
 unfold Mw
 refine U6 hs rfl fun q w1 σ1 hk1 hq=>?_
 refine Tg hk1.sat (ht.lift ⟨hk1.le⟩) ha hl hsm fun v' w2 σ2 hk2 hv2=>?_
 rw[Qi]
 refine Gx (fun x=>decide (x.name=f)) hk2.sat hv2 (fun x cs w3 K _ hs3 hr hl hK=>Z8 (Fp ?_)) fun w3 hb=>?_
 ·obtain ⟨rfl,_⟩:=hr
  unfold Vu
  have hq2:=hq.up hk2
  refine Z1 hs3 fun a w4 σ4 hk4 ha4=>?_
  (repeat' (first | (with_reducible intro _) | (with_reducible refine V0 ?_) | (simp only[↓M2,M2,Mb,reduceIte]) | (with_reducible first | refine ld aS aL aR ?_ | refine X7 aS aL aR ?_ | refine Y4 aS aL aR ?_ | refine Q8 aL ?_ | refine J3 aR ?_ | refine Z1 aS ?_ | refine N2 aS aL ?_ | refine U6 aS aR ?_ | refine Y8 aS aR aR (Rep.one (by assumption)) ?_ | refine U7 aS aR aR aR ?_ | (refine J0 (fun hh=>?_) (fun hh=>?_)<;>(try simp only[hh,Bool.not_true,Bool.not_false,↓M2,M2,Mb,reduceIte])) | (refine Q7 (fun hh=>?_) (fun hh=>?_)<;>(try simp only[hh,Bool.not_true,Bool.not_false,↓M2,M2,Mb,reduceIte])))))
  exact hK _ hk4.bel
 ·exact h _ _ ((hk1.trans hk2).trans (Stp.of_below hk2.sat hb)))
end Go.Proofs.YtjdiakhipmggjaaGreatDoor

namespace Go.Hm
open Go.Kd
theorem Q5J {α:Type} (p:α→Bool): ∀xs:List α,xs.find? p=(xs.findIdx? p).bind (xs[·]?)
 | []=>rfl
 | x::r=>by
  rw[List.find?_cons,List.findIdx?_cons]
  cases p x with
  | true=>rfl
  | false=>
   simp only[Bool.false_eq_true,if_false]
   rw[Q5J p r]
   cases r.findIdx? p<;>simp
def X0V (l:List Cla):Prop:= ∀c∈l,∀u∈c.like,∃d,lk l u=some d
def Nm (c:Cla):Prop:=c.name.length≤100∧(∀f∈c.fields,f.name.length≤100∧f.kind.length≤100)∧ ∀m∈c.methods,m.result.length≤100∧ ∀p∈m.params,p.length≤100
structure Ok (l : List Cla) : Prop where
  acy : Jc l
  len : l.length ≤ 100000
  sm : ∀ c ∈ l, Qs c
  full : X0V l
  nm : ∀ c ∈ l, Nm c
abbrev oM (o:Option Hm.Met):Hm.Met:=o.getD Hm.Met.zero
abbrev o1 (o:Option (X0×Hm.Met)):X0:=(o.map (·.1)).getD []
abbrev o2 (o:Option (X0×Hm.Met)):Hm.Met:=(o.map (·.2)).getD Hm.Met.zero
theorem Xx {α β:Type} {xs:List α} {f:α→Option β} {n:Nat} (h:n<xs.length) (a:(xs.take n).findSome? f=none):(xs.take (n+1)).findSome? f=f xs[n]:=by
 rw[List.take_add_one,List.getElem?_eq_getElem h,List.findSome?_append,a];simp
theorem Xn {α β:Type} {xs:List α} {f:α→Option β} {n:Nat} {y:β} (h:n<xs.length) (a:(xs.take n).findSome? f=none) (b:f xs[n]=some y):xs.findSome? f=some y:=by
 have:=Xx h a
 rw[b] at this
 rw[←List.take_append_drop (n+1) xs,List.findSome?_append,this];rfl
end Go.Hm
namespace Go.Proofs.YtjdiakhipmggjaaGreatDoor
open Go.Emb Go.RowKit Go.Kd Go.Hm
variable {w : World} {K : Value → World → Prop} {σ : Q6} {v : Value} {l : List Cla}
theorem Qx:E7 σ Hm.Met.zero [S [], .slice none 0 0,S [], .bool false,I 0, .slice none 0 0, .slice none 0 0]:=
 ⟨_,_,_,rfl,Sl.nil,Sl.nil,Sl.nil,by decide,by decide,by decide,by decide⟩
theorem Gy (h:K (.agg [S [], .slice none 0 0,S [], .bool false,I 0, .slice none 0 0, .slice none 0 0].toArray) w):H0 P T.d [] w K:=W1 (by kernel_rfl) h
theorem X1G {c:Cla} {cs:List Value} {n:X0} (hs:X3 w σ) (hc:U9 σ c cs) (hsm:Qs c)
 (h: ∀pv cv hv w' σ',Stp w σ w' σ'→E7 σ' (oM (F7 c n)) [S (oM (F7 c n)).name,pv,S (oM (F7 c n)).result, .bool (oM (F7 c n)).abs,I (oM (F7 c n)).locals,cv,hv]→
  K (.tuple #[.agg [S (oM (F7 c n)).name,pv,S (oM (F7 c n)).result, .bool (oM (F7 c n)).abs,I (oM (F7 c n)).locals,cv,hv].toArray, .bool (F7 c n).isSome]) w'):Q1 P F.cC [.agg cs.toArray,S n] w K:=Q8s (by
 obtain ⟨lv,fv,mv,rfl,g1,g2,g3,g4,g5⟩:=hc
 unfold Q3c
 refine Z1 hs fun a w1 σ1 hk1 ha1=>?_
 refine U6 hk1.sat rfl fun q w2 σ2 hk2 hq=>?_
 refine M0 hk2.sat fun b w3 σ3 hb hk3 hm=>?_
 rw[fa]
 have ha3:=(ha1.up hk2).up hk3
 have g3:=((g3.up hk1).up hk2).up hk3
 have hq3:=hq.up hk3
 refine ld hk3.sat ha3 rfl ?_
 rw[Qi]
 have hS3:=(hk1.trans hk2).trans hk3
 have hb0:w.heap.size≤b:=L9 hb (hk1.trans hk2)
 refine Fb (fun x=>decide (x.name=n)) hk3.sat g3 (fun x cs w4 K _ hs4 hr hl hK=>Z8 (Q5y ?_)) fun w4 hb4=>?_
 ·obtain ⟨pv,cv,hv,rfl,_⟩:=hr
  unfold Q0X
  refine Z1 hs4 fun a w5 σ5 hk5 ha5=>?_
  (repeat' (first | (with_reducible intro _) | (with_reducible refine V0 ?_) | (simp only[↓M2,M2,Mb,reduceIte]) | (with_reducible first | refine ld aS aL aR ?_ | refine X7 aS aL aR ?_ | refine Y4 aS aL aR ?_ | refine Q8 aL ?_ | refine J3 aR ?_ | refine Z1 aS ?_ | refine N2 aS aL ?_ | refine U6 aS aR ?_ | refine Y8 aS aR aR (Rep.one (by assumption)) ?_ | refine U7 aS aR aR aR ?_ | (refine J0 (fun hh=>?_) (fun hh=>?_)<;>(try simp only[hh,Bool.not_true,Bool.not_false,↓M2,M2,Mb,reduceIte])) | (refine Q7 (fun hh=>?_) (fun hh=>?_)<;>(try simp only[hh,Bool.not_true,Bool.not_false,↓M2,M2,Mb,reduceIte])))))
  exact hK _ hk5.bel
 have hk4:Stp w3 σ3 w4 σ3:=Stp.of_below hk3.sat hb4
 have hm:=hm.step hk4
 have hS4:=hS3.trans hk4
 unfold F7 at h
 rw[Q5J] at h
 refine Y9 ?_
 cases hf:c.methods.findIdx? fun x=>decide (x.name=n) with
 | none=>
  rw[hf] at h
  simp only[L6]
  refine J7 ?_
  refine Gy ?_
  refine G8 hm hS4 hb0 rfl rfl (Rep.one (Qx (σ:=σ3))) fun w5 hS5 hm5=>?_
  refine V2 hm5 rfl ?_
  exact h _ _ _ w5 σ3 hS5.stp Qx
 | some i=>
  rw[hf] at h
  have hi:i<c.methods.length:=(List.findIdx?_eq_some_iff_getElem.1 hf).1
  simp only[Option.bind_some,List.getElem?_eq_getElem hi] at h
  simp only[L6]
  refine Q7 (fun hh=>absurd (of_decide_eq_true hh) (by omega)) (fun _=>?_)
  rw[fa]
  refine ld hk4.sat ha3 rfl ?_
  refine N0 g3 hi fun p cells hl1 hl2 hr=>?_
  refine Y4 hk4.sat hl1 hl2 ?_
  refine Q4I hk4.sat hr (hsm.2.2.2 _ (List.getElem_mem hi)) fun pv cv hv w5 σ5 hk5 hr5=>?_
  refine G8 (hm.step hk5) (hS4.trans hk5) hb0 rfl rfl (Rep.one hr5) fun w6 hS6 hm6=>?_
  refine V2 hm6 rfl ?_
  exact h _ _ _ w6 σ5 hS6.stp hr5)
theorem X3K {n:X0} (ok:Ok l): ∀(k:Nat) {c:Cla} {cs:List Value} {w:World} {σ:Q6} {K:Value→World→Prop},K8 l c.name<k→lk l c.name=some c→X3 w σ→Tab σ v l→U9 σ c cs→
 (∀pv Z W w' Y,Stp w σ w' Y→E7 Y (o2 (V5 l c n)) [S (o2 (V5 l c n)).name,pv,S (o2 (V5 l c n)).result, .bool (o2 (V5 l c n)).abs,I (o2 (V5 l c n)).locals,Z,W]→
  K (.tuple #[S (o1 (V5 l c n)), .agg [S (o2 (V5 l c n)).name,pv,S (o2 (V5 l c n)).result, .bool (o2 (V5 l c n)).abs,I (o2 (V5 l c n)).locals,Z,W].toArray, .bool (V5 l c n).isSome]) w')→
 Q1 P F.aV [v, .agg cs.toArray,S n] w K:=by
 intro k
 induction k with
 | zero=>
  intro c cs w σ K hk
  omega
 | succ k ih=>
  intro c cs w σ K hk hc hs ht hr h
  refine Ar ?_
  obtain ⟨lv,fv,mv,rfl,g1,g2,g3,g4,g5⟩:=hr
  have D:=Q4v ok.acy hc n
  generalize hf:(fun u=>match lk l u with | none=>none | some d=>match F7 d n with | some m=>some (u,m) | none=>V5 l d n)=f at D
  unfold Dg
  refine Z1 hs fun a w1 σ1 J aq=>?_
  refine M0 J.sat fun b w2 σ2 hb H a4=>?_
  have O:w.heap.size≤b:=L9 hb J
  have az:=aq.up H
  rw[fa]
  refine ld H.sat az rfl ?_
  have g1:=(g1.up J).up H
  refine Q8 g1 ?_
  refine U3 c.like.length (fun i w'=> ∃Y,Stp w σ w' Y∧SLe σ2 Y∧Y2 Y w' b [S [], .slice none 0 0,S [], .bool false,I 0, .slice none 0 0, .slice none 0 0]∧(c.like.take i).findSome? f=none) ⟨σ2,J.trans H,SLe.refl _,a4,rfl⟩ fun i w3 d hi ap=>?_
  obtain ⟨σ3,z,al,aa,y⟩:=ap
  have a7:=ht.lift ⟨z.le⟩
  refine Y9 ?_
  refine Q7 (fun hh=>?_) (fun hh=>?_)
  ·have g:i<c.like.length:=by simpa using hh
   refine Q5w (g1.lift al) g fun p a1 ae=>?_
   refine X7 z.sat a1 rfl ?_
   obtain ⟨d,X⟩:=ok.full c (V3 hc).2.1 _ (List.getElem_mem g)
   obtain ⟨af,ay,_⟩:=V3 X
   have j:f c.like[i]=match F7 d n with | some m=>some (c.like[i],m) | none=>V5 l d n:=by rw[←hf];simp only[X]
   refine Zo z.sat a7 X fun bb ax aw w4 σ4 C f1 f2 f3 f4 f5 ba=>?_
   refine X1G C.sat ba (ok.sm d ay) fun pv Z W w5 σ5 B ad=>?_
   refine J4 (vs:=[_,_]) rfl ?_
   refine J4 (vs:=[_,_]) rfl ?_
   refine Y8 B.sat (by rfl) rfl (Rep.one ad) fun q w6 σ6 L ao=>?_
   have t:=((z.trans C).trans B).trans L
   have aj:=((aa.step C).step B).step L
   have Q:=RMe_lift ad ⟨L.le⟩
   cases ho:F7 d n with
   | some m=>
    rw[ho] at j Q ao
    (try simp only[ho])
    refine J7 ?_
    refine U0 t.sat ?_
    refine E8 (fun v _=>v= .agg [S m.name,pv,S m.result, .bool m.abs,I m.locals,Z,W].toArray) (fun _ _ _ h _=>h) (fun w hb=>Y4 hb.sat ao rfl ⟨Below.refl _ _,rfl⟩) ?_
    rintro _ w7 ah rfl
    refine G8 (aj.step ah.stp) (t.trans ah.stp) O rfl rfl (Rep.one Q) fun w8 a3 a5=>?_
    refine V2 a5 rfl ?_
    have V:=D.trans (Xn g y j)
    rw[V] at h
    exact h _ _ _ w8 σ6 a3.stp Q
   | none=>
    rw[ho] at j
    (try simp only[Option.isSome_none])
    refine Z7 ?_
    refine Zo t.sat (ht.lift ⟨t.le⟩) X fun bb ax aw w7 σ7 A f1 f2 f3 f4 f5 a0=>?_
    have bi:=Yb ok.acy hc (by simp[U4,List.getElem_mem g]:c.like[i]∈U4 c) X
    refine ih (by rw[af];omega) (by rw[af];exact X) A.sat (ht.lift ⟨(t.trans A).le⟩) a0 fun pv Z W w8 σ8 E ab=>?_
    refine J4 (vs:=[_,_,_]) rfl ?_
    refine J4 (vs:=[_,_,_]) rfl ?_
    refine J4 (vs:=[_,_,_]) rfl ?_
    refine Y8 E.sat (by rfl) rfl (Rep.one ab) fun q w9 σ9 M ai=>?_
    have R:=((t.trans A).trans E).trans M
    have an:=((aj.step A).step E).step M
    have U:=RMe_lift ab ⟨M.le⟩
    cases V:V5 l d n with
    | some r=>
     obtain ⟨s,m⟩:=r
     rw[V] at j U ai
     (try simp only[V])
     refine J7 ?_
     refine U0 R.sat ?_
     refine E8 (fun v _=>v= .agg [S m.name,pv,S m.result, .bool m.abs,I m.locals,Z,W].toArray) (fun _ _ _ h _=>h) (fun w hb=>Y4 hb.sat ai rfl ⟨Below.refl _ _,rfl⟩) ?_
     rintro _ bv N rfl
     refine G8 (an.step N.stp) (R.trans N.stp) O rfl rfl (Rep.one U) fun av ak am=>?_
     refine V2 am rfl ?_
     have ae:=D.trans (Xn g y j)
     rw[ae] at h
     exact h _ _ _ av σ9 ak.stp U
    | none=>
     rw[V] at j
     (try simp only[Option.isSome_none])
     refine Z7 ?_
     refine N3 ?_
     refine Y5 (by have:=g1.max;omega) g ⟨σ9,R,?_,an,?_⟩
     ·exact al.more ⟨fun b o e=>M.le _ _ (E.le _ _ (A.le _ _ (L.le _ _ (B.le _ _ (C.le _ _ e)))))⟩
     ·rw[Xx g y];exact j
  ·have g: ¬i<c.like.length:=by simpa using hh
   rw[List.take_of_length_le (by omega)] at y
   refine Gy ?_
   refine G8 aa z O rfl rfl (Rep.one (Qx (σ:=σ3))) fun w5 a8 a2=>?_
   refine V2 a2 rfl ?_
   have V:=D.trans y
   rw[V] at h
   exact h _ _ _ w5 σ3 a8.stp Qx
end Go.Proofs.YtjdiakhipmggjaaGreatDoor

namespace Go.Hm
open Go.Kd
theorem X0w {l:List Cla} {n:X0} {c:Cla} (h:c∈chain l n):lk l c.name=some c:=by
 have key: ∀(f:Nat) (n:X0),c∈I4 (lk l) f n→lk l c.name=some c:=by
  intro f
  induction f with
  | zero=>intro n h;simp[I4] at h
  | succ f b=>
   intro n h
   simp only[I4] at h
   split at h
   ·simp at h
   ·rename_i d a
    rcases List.mem_cons.1 h with rfl | h
    ·rw[(V3 a).1];exact a
    ·exact b _ h
 exact key _ _ h
end Go.Hm
namespace Go.Proofs.YtjdiakhipmggjaaGreatDoor
open Go.Emb Go.RowKit Go.Kd Go.Hm
variable {w : World} {K : Value → World → Prop} {σ : Q6} {v : Value} {l : List Cla}
theorem X0P {k n:X0} (hs:X3 w σ) (ht:Tab σ v l) (ok:Ok l)
 (h: ∀pv cv Z w' E,Stp w σ w' E→E7 E (o2 (V4 l k n)) [S (o2 (V4 l k n)).name,pv,S (o2 (V4 l k n)).result, .bool (o2 (V4 l k n)).abs,I (o2 (V4 l k n)).locals,cv,Z]→
  K (.tuple #[S (o1 (V4 l k n)), .agg [S (o2 (V4 l k n)).name,pv,S (o2 (V4 l k n)).result, .bool (o2 (V4 l k n)).abs,I (o2 (V4 l k n)).locals,cv,Z].toArray, .bool (V4 l k n).isSome]) w'):
 Q1 P F.bd [v,S k,S n] w K:=Gk (by
 unfold Lu
 refine M0 hs fun b w1 σ1 H M an=>?_
 refine X0p M.sat (ht.lift ⟨M.le⟩) ok.acy ok.len fun v1 w2 σ2 am ao=>?_
 have ba:=an.step am
 have bn:=an.lt
 refine Q4M (M.trans am) (ao.mono M.bel.size) fun w3 bc a7 ac=>?_
 rw[List.reverse_reverse] at ac
 obtain ⟨σ3,aw,Q,bh,ad⟩:=ac.keep a7
 have bp:=Bi l k
 have a1:v1.ownBlock≠some b:=fun e=>by have:=ao.own e;omega
 have ag:Y2 σ3 w3 b [S [], .slice none 0 0,S [], .bool false,I 0, .slice none 0 0, .slice none 0 0]:=by
  have:=ba.kp bc a1
  exact ⟨(ad b fun e=>a1 e.symm).trans this.1,this.2⟩
 refine Q8 Q ?_
 unfold V4 at h
 refine U3 (chain l k).length (fun i w'=> ∃E,Stp w σ w' E∧SLe σ3 E∧Y2 E w' b [S [], .slice none 0 0,S [], .bool false,I 0, .slice none 0 0, .slice none 0 0]∧((chain l k).take i).findSome? (fun c=>(F7 c n).map (c.name,·))=none) ⟨σ3,aw,SLe.refl _,ag,rfl⟩ fun i w5 d hi D=>?_
 obtain ⟨σ5,N,J,a0,y⟩:=D
 refine Y9 ?_
 refine Q7 (fun hh=>?_) (fun hh=>?_)
 ·have a:i<(chain l k).length:=by simpa using hh
  refine N0 (Q.lift J) a fun p cells X z hr=>?_
  refine Y4 N.sat X z ?_
  refine Y8 N.sat (by rfl) z (Rep.one hr) fun q w6 σ6 B ax=>?_
  refine Y4 B.sat ax z ?_
  have ai:=Bf (List.getElem_mem a)
  refine X1G B.sat (Rep.up B.le hr) (ok.sm _ ai) fun pv cv Z w7 σ7 j av=>?_
  refine J4 (vs:=[_,_]) rfl ?_
  refine J4 (vs:=[_,_]) rfl ?_
  refine Y8 j.sat (by rfl) rfl (Rep.one av) fun q8 w8 σ8 u ae=>?_
  have W:=((N.trans B).trans j).trans u
  have ap:=((a0.step B).step j).step u
  have A:=RMe_lift av ⟨u.le⟩
  cases C:F7 (chain l k)[i] n with
  | some m=>
   rw[C] at A ae
   (try simp only[C])
   refine J7 ?_
   obtain ⟨lv,fv,mv,rfl,g⟩:=hr
   refine U0 W.sat ?_
   refine X4 (.pointer (some (q.add 0))) (fun w H=>by rw[fa];exact X6 rfl) ?_
   refine X4 (S (chain l k)[i].name) (fun t w H e=>by rw[e];exact ld H.sat ((ax.up j).up u) rfl (X6 rfl)) ?_
   refine E8 (fun v _=>v= .agg [S m.name,pv,S m.result, .bool m.abs,I m.locals,cv,Z].toArray) (fun _ _ _ h _=>h) (fun w H=>Y4 H.sat ae rfl ⟨Below.refl _ _,rfl⟩) ?_
   rintro _ _ _ w9 az rfl rfl rfl
   refine G8 (ap.step az.stp) (W.trans az.stp) H rfl rfl (Rep.one A) fun a2 ay ak=>?_
   refine V2 ak rfl ?_
   rw[Xn (f:=fun c=>(F7 c n).map (c.name,·)) a y (by simp only[C];rfl)] at h
   exact h _ _ _ a2 σ8 ay.stp A
  | none=>
   (try simp only[C])
   refine Z7 ?_
   refine N3 ?_
   refine Y5 (by have:=ok.len;omega) a ⟨σ8,W,J.more ⟨fun b o e=>u.le _ _ (j.le _ _ (B.le _ _ e))⟩,ap,?_⟩
   rw[Xx a y];simp only[C];rfl
 ·have a: ¬i<(chain l k).length:=by simpa using hh
  rw[List.take_of_length_le (by omega)] at y
  rw[y] at h
  clear ag aw hh
  refine Q8 (Q.lift J) ?_
  refine U3 (chain l k).length (fun i w'=> ∃E,Stp w σ w' E∧SLe σ3 E∧Y2 E w' b [S [], .slice none 0 0,S [], .bool false,I 0, .slice none 0 0, .slice none 0 0]∧((chain l k).take i).findSome? (fun c=>V5 l c n)=none) ⟨σ5,N,J,a0,rfl⟩ fun i w6 d hi D=>?_
  obtain ⟨σ6,L,al,ah,y⟩:=D
  refine Y9 ?_
  refine Q7 (fun hh=>?_) (fun hh=>?_)
  ·have a:i<(chain l k).length:=by simpa using hh
   refine N0 (Q.lift al) a fun p cells X z hr=>?_
   refine Y4 L.sat X z ?_
   refine Y8 L.sat (by rfl) z (Rep.one hr) fun q w7 σ7 j a5=>?_
   refine Y4 j.sat a5 z ?_
   have R:=L.trans j
   have a8:=X0w (List.getElem_mem a)
   refine X3K ok _ (Nat.lt_succ_self _) a8 j.sat (ht.lift ⟨R.le⟩) (Rep.up j.le hr) fun pv cv Z w8 σ8 u A=>?_
   refine J4 (vs:=[_,_,_]) rfl ?_
   refine J4 (vs:=[_,_,_]) rfl ?_
   refine J4 (vs:=[_,_,_]) rfl ?_
   refine Y8 u.sat (by rfl) rfl (Rep.one A) fun q9 w9 σ9 O af=>?_
   have Y:=(R.trans u).trans O
   have ar:=((ah.step j).step u).step O
   have V:=RMe_lift A ⟨O.le⟩
   cases C:V5 l (chain l k)[i] n with
   | some r=>
    obtain ⟨s,m⟩:=r
    rw[C] at V af
    (try simp only[C])
    refine J7 ?_
    refine U0 Y.sat ?_
    refine E8 (fun v _=>v= .agg [S m.name,pv,S m.result, .bool m.abs,I m.locals,cv,Z].toArray) (fun _ _ _ h _=>h) (fun w H=>Y4 H.sat af rfl ⟨Below.refl _ _,rfl⟩) ?_
    rintro _ a2 U rfl
    refine G8 (ar.step U.stp) (Y.trans U.stp) H rfl rfl (Rep.one V) fun a6 aj aq=>?_
    refine V2 aq rfl ?_
    have:=Xn (f:=fun c=>V5 l c n) a y C
    unfold V5 at this
    rw[this] at h
    exact h _ _ _ a6 σ9 aj.stp V
   | none=>
    (try simp only[C])
    refine Z7 ?_
    refine N3 ?_
    refine Y5 (by have:=ok.len;omega) a ⟨σ9,Y,al.more ⟨fun b o e=>O.le _ _ (u.le _ _ (j.le _ _ e))⟩,ar,?_⟩
    rw[Xx a y];exact C
  ·have a: ¬i<(chain l k).length:=by simpa using hh
   rw[List.take_of_length_le (by omega)] at y
   refine Gy ?_
   refine G8 ah L H rfl rfl (Rep.one (Qx (σ:=σ6))) fun w7 R bd=>?_
   refine V2 bd rfl ?_
   unfold V5 at y
   rw[y] at h
   exact h _ _ _ w7 σ6 R.stp Qx)
theorem Q4S {n:X0} (hs:X3 w σ) (ht:Tab σ v l) (h: ∀w' σ',Stp w σ w' σ'→K (.bool (A9 l n)) w'):Q1 P F.aD [v,S n] w K:=Fl (by
 unfold Vr
 unfold A9 at h
 cases hd:lk l n with
 | none=>
  rw[hd] at h
  (repeat' (first | (with_reducible intro _) | (with_reducible refine V0 ?_) | (simp only[↓M2,M2,Mb,reduceIte]) | (with_reducible first | refine ld aS aL aR ?_ | refine X7 aS aL aR ?_ | refine Y4 aS aL aR ?_ | refine Q8 aL ?_ | refine J3 aR ?_ | refine Z1 aS ?_ | refine N2 aS aL ?_ | refine U6 aS aR ?_ | refine Y8 aS aR aR (Rep.one (by assumption)) ?_ | refine U7 aS aR aR aR ?_ | refine Q0y au au au ?_ | (refine J0 (fun hh=>?_) (fun hh=>?_)<;>(try simp only[hh,Bool.not_true,Bool.not_false,↓M2,M2,Mb,reduceIte])) | (refine Q7 (fun hh=>?_) (fun hh=>?_)<;>(try simp only[hh,Bool.not_true,Bool.not_false,↓M2,M2,Mb,reduceIte])))))
  all_goals exact aF
 | some d=>
  rw[hd] at h
  (repeat' (first | (with_reducible intro _) | (with_reducible refine V0 ?_) | (simp only[↓M2,M2,Mb,reduceIte]) | (with_reducible first | refine ld aS aL aR ?_ | refine X7 aS aL aR ?_ | refine Y4 aS aL aR ?_ | refine Q8 aL ?_ | refine J3 aR ?_ | refine Z1 aS ?_ | refine N2 aS aL ?_ | refine U6 aS aR ?_ | refine Y8 aS aR aR (Rep.one (by assumption)) ?_ | refine U7 aS aR aR aR ?_ | refine Rz au au au ?_ | refine Zo au au au ?_ | (refine J0 (fun hh=>?_) (fun hh=>?_)<;>(try simp only[hh,Bool.not_true,Bool.not_false,↓M2,M2,Mb,reduceIte])) | (refine Q7 (fun hh=>?_) (fun hh=>?_)<;>(try simp only[hh,Bool.not_true,Bool.not_false,↓M2,M2,Mb,reduceIte])))))
  all_goals exact aF)
end Go.Proofs.YtjdiakhipmggjaaGreatDoor

namespace Go.Kd
def brk (b:UInt8):Bool:=[(91:UInt8),93].contains b
def Q1F:Nat→X0→X0
 | 0,s=>s
 | n+1,s=>match s.getLast? with
  | some b=>if brk b then Q1F n (s.take (s.length-1)) else s
  | none=>s
def Hn (s:X0):X0:=Q1F s.length s
theorem Q8O: ∀(n m:Nat) (s:X0),s.length≤n→s.length≤m→Q1F n s=Q1F m s:=by
 intro n
 induction n with
 | zero=>
  intro m s h _
  have:s=[]:=List.eq_nil_of_length_eq_zero (by omega)
  subst this
  cases m<;>rfl
 | succ n a=>
  intro m s h d
  cases m with
  | zero=>
   have:s=[]:=List.eq_nil_of_length_eq_zero (by omega)
   subst this;rfl
  | succ m=>
   simp only[Q1F]
   cases c:s.getLast? with
   | none=>rfl
   | some b=>
    simp only
    split
    ·exact a m _ (by rw[List.length_take];omega) (by rw[List.length_take];omega)
    ·rfl
theorem Q1D (s:X0):Hn s=match s.getLast? with | some b=>if brk b then Hn (s.take (s.length-1)) else s | none=>s:=by
 unfold Hn
 cases d:s with
 | nil=>rfl
 | cons c r=>
  rw[←d]
  obtain ⟨n,e⟩: ∃n,s.length=n+1:=⟨r.length,by rw[d];rfl⟩
  have a:s.length-1=n:=by omega
  rw[e]
  simp only[Q1F,a]
  cases f:s.getLast? with
  | none=>rfl
  | some b=>
   simp only
   split
   ·rw[show n+1-1=n by omega];exact Q8O n (s.take n).length _ (by rw[List.length_take];omega) (Nat.le_refl _)
   ·rfl
theorem X06 {s:X0} (h:name s=true): ∃b,s.getLast?=some b∧C2 b.toNat=true:=by
 cases s with
 | nil=>simp[name] at h
 | cons c r=>
  refine ⟨(c::r).getLast (by simp),List.getLast?_eq_some_getLast (by simp),?_⟩
  simp only[name,Bool.and_eq_true,List.all_eq_true] at h
  exact h.2 _ (List.getLast_mem _)
theorem X08 {b:UInt8} (h:C2 b.toNat=true):brk b=false:=by
 have a:b≠91:=by rintro rfl;revert h;decide
 have c:b≠93:=by rintro rfl;revert h;decide
 simp[brk,a,c]
theorem Nd {s:X0} (h:(plain s||M9 s)=true):name s=true:=by
 simp only[Bool.or_eq_true] at h
 rcases h with h | h
 ·simp only[plain,Bool.or_eq_true,decide_eq_true_eq] at h
  rcases h with (h | h) | h<;>subst h<;>decide
 ·cases s with
  | nil=>simp[M9] at h
  | cons c r=>simp only[M9,Bool.and_eq_true] at h;exact h.1
end Go.Kd
namespace Go.Proofs.YtjdiakhipmggjaaGreatDoor
open Go.Emb Go.RowKit Go.Kd Go.Hm
variable {w : World} {K : Value → World → Prop} {σ : Q6} {v : Value} {l : List Cla}
theorem X0N {s:X0} (h:arr s=true):Hn s=Hn (Kd.cutA s):=by
 have e:2≤s.length∧s.drop (s.length-2)=[91,93]:=by simpa [arr] using h
 obtain ⟨g,f⟩:=e
 have a:s=Kd.cutA s++[91,93]:=by unfold Kd.cutA;rw[←f,List.take_append_drop]
 have i:(Kd.cutA s).length+2=s.length:=by unfold Kd.cutA;rw[List.length_take];omega
 have c:s.getLast?=some 93:=by rw[a];simp
 have b:s.take (s.length-1)=Kd.cutA s++[91]:=by
  conv=>lhs;rw[a]
  rw[List.take_append,List.length_append]
  simp
  exact List.take_of_length_le (by omega)
 rw[Q1D s,c]
 simp only[show brk 93=true from rfl,if_true,b]
 rw[Q1D]
 have d:(Kd.cutA s++[91]).getLast?=some 91:=by simp
 rw[d]
 simp only[show brk 91=true from rfl,if_true]
 congr 1
 simp
theorem Q9H {s:X0}:(plain (base s).1||M9 (base s).1)=true→Hn s=(base s).1:=by
 have key: ∀(n:Nat) (s:X0),s.length≤n→(plain (base s).1||M9 (base s).1)=true→Hn s=(base s).1:=by
  intro n
  induction n with
  | zero=>
   intro s h a
   have:s=[]:=List.eq_nil_of_length_eq_zero (by omega)
   subst this;rfl
  | succ n e=>
   intro s h a
   by_cases c:arr s=true
   ·have d:base s=((base (Kd.cutA s)).1,(base (Kd.cutA s)).2+1):=by rw[Xy s,c];simp
    rw[d] at a⊢
    rw[X0N c]
    exact e _ (by have:=K5 c;omega) a
   ·have d:base s=(s,0):=by rw[Xy s,eq_false_of_ne_true c];simp
    rw[d] at a⊢
    obtain ⟨b,f,g⟩:=X06 (Nd a)
    rw[Q1D,f]
    simp[X08 g]
 exact key _ s (Nat.le_refl _)
instance z_asciiSet:TZ P T.ab 256 256 (.agg (Array.replicate 256 (.bool false))):=⟨by kernel_rfl⟩
theorem Q6R (h: ∀w',Below w.heap.size w w'→K (.tuple #[.agg (Lib.setCells [91,93]), .bool true]) w'):Q1 P F.ci [S [91,93]] w K:=by
 refine Ws (fn:=Tryz.f157) Tryz.func157 (by kernel_rfl) (by kernel_rfl) (Calls.mono (Tryz.strings_makeASCIISet (fun w=>Zl z_asciiSet w) ⟨[91,93].toArray⟩ w (by decide) (by
  intro j b a
  have:b∈[(91:UInt8),93]:=List.mem_of_getElem? a
  simp at this;rcases this with rfl | rfl<;>decide)) ?_)
 rintro e w' ⟨rfl,rfl⟩
 exact h _ ((Below.refl _ _).alloc (Nat.le_refl _) _)
theorem Q3d {q:Addr} {b:UInt8} (c:X3 w σ) (a:Z6 σ q (Lib.setCells [91,93]).toList) (h:K (.bool (brk b)) w):Q1 P F.ay [.pointer (some q), .int .u8 b.toNat] w K:=Oe (by
 unfold Xd
 rw[L8]
 have d:=b.toNat_lt
 rw[X05 (by omega) (by omega)]
 refine ld c a ?_ h
 have:=Lib.setCells_at [91,93] b
 rw[←Array.getElem?_toList] at this
 simpa [brk] using this)
theorem Q2G {q:Addr} {s:X0} (j:X3 w σ) (n:s.length≤U2) (m:Z6 σ q (Lib.setCells [91,93]).toList) (h:K (S (Hn s)) w):Q1 P F.ao [S s, .pointer (some q)] w K:=St (by
 unfold Js
 refine V0 ?_
 refine Wo (fun x w'=>w'=w∧ ∃u:X0,x=S u∧u.length≤U2∧Hn u=Hn s) (fun x _=>(sOf x).length) ⟨rfl,s,rfl,n,rfl⟩ ?_
 rintro _ d _ ⟨rfl,u,rfl,g,f⟩
 have e:sOf (S u)=u:=by simp[sOf]
 simp only[e]
 refine Fw X8 ?_
 refine Q1G ?_
 refine Q7 (fun hh=>?_) (fun hh=>?_)
 ·have k:0<u.length:=by simpa using hh
  have o:u.length≤9223372036854775807:=Nat.le_trans g (by decide)
  refine Fw X8 ?_
  refine Zp ⟨by omega,by omega⟩ ?_
  have i:((u.length:Int)-1).toNat=u.length-1:=by omega
  rw[Xu X8 (by omega) (by omega)]
  simp only[i]
  have b:u.getLast?=some (u[u.length-1]'(by omega)):=by rw[List.getLast?_eq_getElem?,List.getElem?_eq_getElem]
  have a:=Q1D u
  rw[b] at a
  simp only at a
  refine Q3d j m ?_
  cases c:brk (u[u.length-1]'(by omega)) with
  | true=>
   rw[c] at a
   simp only[↓M1,M1,Mb,reduceIte]
   rw[G7 (by omega) (by omega),T8 X8 (by omega) (by omega)]
   simp only[i]
   refine ⟨⟨trivial,_,rfl,by rw[List.length_take];omega,?_⟩,?_⟩
   ·rw[←f,a];simp
   ·have:sOf (S (u.take (u.length-1)))=u.take (u.length-1):=by simp[sOf]
    simp only[this,List.length_take];omega
  | false=>
   rw[c] at a
   simp only[↓M1,M1,Mb,reduceIte]
   intro _
   rw[←f,a] at h
   simpa using h
 ·have k: ¬0<u.length:=by simpa using hh
  have:u=[]:=List.eq_nil_of_length_eq_zero (by omega)
  subst this
  intro _
  rw[←f] at h
  exact h)
theorem Q76 {s:X0} (hs:X3 w σ) (hl:s.length≤U2) (h: ∀w' σ',Stp w σ w' σ'→K (S (Hn s)) w'):Q1 P F.bH [S s,S [91,93]] w K:=Q09 (by
 unfold Dc
 by_cases hs0:s=[]
 ·subst hs0
  (repeat' (first | (with_reducible intro _) | (with_reducible refine V0 ?_) | (simp only[↓M2,M2,Mb,reduceIte]) | (with_reducible first | refine ld aS aL aR ?_ | refine X7 aS aL aR ?_ | refine Y4 aS aL aR ?_ | refine Q8 aL ?_ | refine J3 aR ?_ | refine Z1 aS ?_ | refine N2 aS aL ?_ | refine U6 aS aR ?_ | refine Y8 aS aR aR (Rep.one (by assumption)) ?_ | refine U7 aS aR aR aR ?_ | (refine J0 (fun hh=>?_) (fun hh=>?_)<;>(try simp only[hh,Bool.not_true,Bool.not_false,↓M2,M2,Mb,reduceIte])) | (refine Q7 (fun hh=>?_) (fun hh=>?_)<;>(try simp only[hh,Bool.not_true,Bool.not_false,↓M2,M2,Mb,reduceIte])))))
  all_goals first | exact h _ _ (by (repeat (first | exact Stp.refl (by (first | assumption | exact Stp.sat (by assumption) | exact Hst.sat (by assumption))) | assumption | refine Stp.trans ?_ (by first | assumption | exact Hst.stp (by assumption))))) | (exfalso;simp_all)
 have d1:decide (s=[])=false:=decide_eq_false hs0
 simp only[d1,show decide (([91,93]:X0)=[])=false from rfl,show decide ((([91,93]:X0).length:Int)=1)=false from rfl,↓M1,M1,Mb,reduceIte]
 refine Q6R (W8 hs fun w1 σ1 hk1=>?_)
 simp only[↓M1,M1,Mb,reduceIte]
 have hsz:(Lib.setCells [91,93]).toList.length=256:=by rw[Array.length_toList];exact Lib.setCells_size _
 have hone: ∀u∈(Lib.setCells [91,93]).toList,u.oneCell'=true:=by
  have:=Lib.setCells_one [91,93]
  rw[Array.all_eq_true'] at this
  intro u hu;exact this u (by simpa using hu)
 have htr: ∀{w:World} {σ:Q6} {K:Value→World→Prop} {q:Addr},X3 w σ→Z6 σ q (Lib.setCells [91,93]).toList→K (S (Hn s)) w→Q1 P F.ao [S s, .pointer (some q)] w K:=fun hs hq h=>Q2G hs hl hq h
 have hta:Lib.setCells [91,93]=(Lib.setCells [91,93]).toList.toArray:=Array.toArray_toList.symm
 generalize (Lib.setCells [91,93]).toList=cs at*
 rw[hta]
 refine Y8 hk1.sat (by show (Array.replicate 256 (Value.bool false)).size=256;exact Array.size_replicate) hsz hone fun q w2 σ2 hk2 hq=>?_
 refine htr hk2.sat hq ?_
 exact h _ _ (hk1.trans hk2))
theorem Q1n {s:X0} (hs:X3 w σ) (ht:Tab σ v l) (hl:s.length≤U2) (h: ∀w' σ',Stp w σ w' σ'→K (.bool (N1 l s)) w'):Q1 P F.s [v,S s] w K:=Af (by
 unfold Om
 unfold N1 at h
 refine P6 ?_
 refine Q7 (fun hh=>?_) (fun hh=>?_)
 ·have e:decide (s=H8)=true:=hh
  rw[e] at h
  exact h _ _ (Stp.refl hs)
 ·have e:decide (s=H8)=false:=hh
  rw[e] at h
  refine Q76 hs hl fun w1 σ1 hk1=>?_
  refine Zn s (Nat.le_trans hl (by decide)) (W8 hk1.sat fun w2 σ2 hk2=>?_)
  cases hr:right s with
  | false=>
   rw[hr] at h
   (repeat' (first | (with_reducible intro _) | (with_reducible refine V0 ?_) | (simp only[↓M2,M2,Mb,reduceIte]) | (with_reducible first | refine ld aS aL aR ?_ | refine X7 aS aL aR ?_ | refine Y4 aS aL aR ?_ | refine Q8 aL ?_ | refine J3 aR ?_ | refine Z1 aS ?_ | refine N2 aS aL ?_ | refine U6 aS aR ?_ | refine Y8 aS aR aR (Rep.one (by assumption)) ?_ | refine U7 aS aR aR aR ?_ | (refine J0 (fun hh=>?_) (fun hh=>?_)<;>(try simp only[hh,Bool.not_true,Bool.not_false,↓M2,M2,Mb,reduceIte])) | (refine Q7 (fun hh=>?_) (fun hh=>?_)<;>(try simp only[hh,Bool.not_true,Bool.not_false,↓M2,M2,Mb,reduceIte])))))
   all_goals exact aF
  | true=>
   rw[hr] at h
   have hr2:(plain (base s).1||M9 (base s).1)=true:=by
    simp only[right,Bool.and_eq_true] at hr;exact hr.2
   rw[Q9H hr2]
   (repeat' (first | (with_reducible intro _) | (with_reducible refine V0 ?_) | (simp only[↓M2,M2,Mb,reduceIte]) | (with_reducible first | refine ld aS aL aR ?_ | refine X7 aS aL aR ?_ | refine Y4 aS aL aR ?_ | refine Q8 aL ?_ | refine J3 aR ?_ | refine Z1 aS ?_ | refine N2 aS aL ?_ | refine U6 aS aR ?_ | refine Y8 aS aR aR (Rep.one (by assumption)) ?_ | refine U7 aS aR aR aR ?_ | refine Rv _ ?_ | refine Q8A au au ?_ | (refine J0 (fun hh=>?_) (fun hh=>?_)<;>(try simp only[hh,Bool.not_true,Bool.not_false,↓M2,M2,Mb,reduceIte])) | (refine Q7 (fun hh=>?_) (fun hh=>?_)<;>(try simp only[hh,Bool.not_true,Bool.not_false,↓M2,M2,Mb,reduceIte])))))
   all_goals exact aF)
end Go.Proofs.YtjdiakhipmggjaaGreatDoor

namespace Go.Emb
open Go.RowKit Go.Hm
variable {P : Program} {w w0 w1 w' w'' : World} {K : Value → World → Prop} {σ σ0 σ1 σ' : Q6}
theorem Q4T (m:List (List UInt8×Value)) (k n:List UInt8) (v:Value):C6 (Lb m k v) n=if k=n then some v else C6 m n:=by
 induction m with
 | nil=>simp[Lb,C6]
 | cons p r b=>
  simp only[Lb]
  by_cases h:p.1=k
  ·rw[if_pos h]
   simp only[C6]
   by_cases a:k=n
   ·simp[a]
   ·rw[if_neg a,if_neg a,if_neg (by rw[h];exact a)]
  ·rw[if_neg h]
   simp only[C6]
   by_cases a:p.1=n
   ·rw[if_pos a,if_pos a,if_neg (by intro e;exact h (a.trans e.symm))]
   ·rw[if_neg a,if_neg a];exact b
theorem J9.shift {B sz:Nat} {e:TypeId} {v:Value} {xs:List (List UInt8)} (h:J9 B e sz U8 σ w v xs) (m: ∀k,v.ownBlock=some k→σ' k=none):J9 B e sz U8 σ' w v xs:=by
 obtain ⟨a,j,rfl,p,t,c,n⟩:=h
 refine ⟨a,j,rfl,p,t,fun b d=>⟨(c b d).1,(c b d).2.1,(c b d).2.2.1,m _ (by subst d;rfl)⟩,fun q=>?_⟩
 obtain ⟨g,f,i,rfl,s,y,u,r,o⟩:=n q
 exact ⟨g,f,i,rfl,s,m g rfl,u,r,o⟩
theorem Kpt.sat {D:Nat→Prop} (a:X3 w σ) (c:Kpt D w w') (d: ∀k,D k→σ k=none):X3 w' σ:=fun b o e=>by
 rw[c.block b (a.lt e) fun h=>by rw[d b h] at e;cases e];exact a b o e
theorem Nxt.kpt {D D':Nat→Prop} (h:Nxt D w σ w' σ') (a:Kpt D' w' w'') (c: ∀k,D' k→D k) (b: ∀k,D' k→σ' k=none):Nxt D w σ w'' σ':=
 ⟨h.kp.trans (a.mono fun k _ h=>c k h),h.le,h.old,a.sat h.sat b⟩
theorem X3A {t J:TypeId} {e:TypeId} {m:Nat} {z:Value} {cs:List Bool} [ts:TS P t e] [tz:TZ P e 1 m z] {B:Nat} {A:World} {f σ':Q6} {d u:Value} {xs:List (List UInt8)} {s:List UInt8}
 (C:J9 B e 1 U8 f A d xs) (hB:B≤A.heap.size) (O:J9 B e 1 U8 f w1 d xs) (y:Nxt (fun k=>d.ownBlock=some k) A f w1 σ') (Q:Sl 1 U8 σ' u [s]) (M:(z.cells.size==1&&decide (0<1))=true)
 (j:(xs.length+1)*m≤140737488355328) (U:xs.length+1≤1000000000000):
 X2 P .append [t,t] J cs [d,u] w1 (dk (Gw B e 1 U8 f d xs s) (VQa A.heap.size B e 1 U8 f d xs s) w1):=by
 have q: ∀k,d.ownBlock=some k→σ' k=none:=fun k c=>(y.old k (C.mem c).2.1).trans (C.mem c).2.2
 refine Q8b y.sat (Nat.le_trans hB y.kp.size) (O.shift q) Q M (by simpa using j) (by simpa using U) fun R N D L n g=>?_
 have b:J9 B e 1 U8 f N R (xs++[s]):=n.shift fun k c=>by
  have:=(n.mem c).2.2
  cases hh:f k with
  | none=>rfl
  | some o=>rw[y.le.le _ _ hh] at this;cases this
 refine ⟨⟨D.mono fun k _ h=>h.1,fun h=>?_,fun a i E h=>?_⟩,b,?_⟩
 ·rcases g with ⟨a,i,p,r⟩ | ⟨j,_⟩
  ·rw[r] at b;rw[p];exact b.pre rfl
  ·exact h.below j
 ·rcases g with ⟨Y,H,p,r⟩ | ⟨j,_⟩
  ·rw[p] at E;injection E with V q2 X
   subst V X
   rw[r] at b;exact b
  ·exact h.below j
 ·rcases g with ⟨a,i,p,r⟩ | ⟨j,W⟩
  ·exact .inl ⟨a,i,p,r⟩
  ·exact .inr ⟨fun k c=>Nat.le_trans y.kp.size (W k c),fun k c=>(C.mem c).2.1⟩
end Go.Emb
namespace Go.Hm
open Go.Kd
def Mf (l:List Cla) (n:X0):List Cla:=(G5 l n).filterMap (lk l)
theorem Q6L {l:List Cla} (h: ∀c∈l,Qs c) (a:List X0):weigh l a≤l.length*1000001:=by
 unfold weigh
 induction l with
 | nil=>simp
 | cons c r b=>
  have e:=b fun c d=>h c (by simp[d])
  have g:=(h c (by simp)).1
  simp only[List.map_cons,List.sum_cons,List.length_cons,Nat.add_mul]
  have f:(U4 c).length=c.like.length+1:=rfl
  split<;>omega
end Go.Hm
namespace Go.Proofs.YtjdiakhipmggjaaGreatDoor
open Go.Emb Go.RowKit Go.Kd Go.Hm
variable {w : World} {K : Value → World → Prop} {σ : Q6} {v : Value} {l : List Cla}
theorem Q7S {β:Type} {n:X0} {f:Value} (H:β→Cla→Bool×β) (s0:β) (Q:β→World→Prop) (D:Nat→Prop) (hs:X3 w σ) (ht:Tab σ v l) (hl:l.length≤100000) (bo: ∀c∈l,Qs c) (hn:n.length≤U2)
 (hD: ∀k,D k→k<w.heap.size∧σ k=none) (ak: ∀s w1 w2,Q s w1→(∀k,D k→w2.heap[k]? =w1.heap[k]?)→Q s w2) (h0:Q s0 w)
 (hf: ∀s c cs (w1:World) (σ1:Q6) (K:Value→World→Prop),SLe σ σ1→X3 w1 σ1→(∀k,D k→σ1 k=none)→Q s w1→U9 σ1 c cs→lk l c.name=some c→(∀w',Kpt D w1 w'→Q (H s c).2 w'→K (.bool (H s c).1) w')→Z4 P f [.agg cs.toArray] w1 K)
 (h: ∀w' σ',Nxt D w σ w' σ'→Q (J6 H s0 (Mf l n) 0).2 w'→K (.bool (J6 H s0 (Mf l n) 0).1.isSome) w'):Q1 P F.x [v,S n,f] w K:=Kw (by
 unfold Nv
 refine Zf (R:=U8) (sz:=1) (xs:=[n]) (Stp.refl hs) [S n] rfl rfl (by simp;rfl) rfl ⟨⟨rfl,hn⟩,trivial⟩ fun x0 w1 a4 bc _=>?_
 refine Q2X a4.sat fun r w2 hr ad co=>?_
 have cc:=J9.of_acc (bc.up ad)
 have bb:=a4.trans ad
 have bq:w.heap.size≤r:=Nat.le_trans a4.bel.size hr
 have bk: ∀b,weigh l b≤100001000000:=fun b=>by
  have:=Q6L bo b
  have h2:l.length*1000001≤100000*1000001:=Nat.mul_le_mul_right _ hl
  omega
 refine Pf (fun d x w1=> ∃(C b:List X0) (s:β) (σ1:Q6) (m:List (X0×Value)),d=C.length+weigh l b∧d≤1+weigh l []∧Nxt D w σ w1 σ1∧J9 w.heap.size T.c 1 U8 σ1 w1 x C∧C8 σ1 w1 r m∧(∀k,(C6 m k).isSome=decide (k∈b))∧x.ownBlock≠some r∧Q s w1∧
  G5 l n=Vh (lk l) d C b∧(∃i,J6 H s0 (Mf l n) 0=J6 H s (((G5 l n).drop b.length).filterMap (lk l)) i)) (1+weigh l []) ?_ ?_
 ·refine ⟨[n],[],s0,σ,[],by simp,Nat.le_refl _,Nxt.of_stp bb,cc,co,by simp[C6],?_,ak _ _ _ h0 fun k o=>bb.bel.block k (hD k o).1,rfl,0,by simp[Mf]⟩
  intro e
  have:=bc.mem r e
  omega
 rintro aq d x dd w3 ⟨C,b,s,σ3,m,hd,c2,A,ar,Y,O,cn,a2,hv,i,y⟩ bf
 have cu:=bk []
 have aw:=A.sat
 obtain ⟨a3,B⟩:=Q1R (lk l) d C b
 rw[←hv] at B
 have ag:(G5 l n).drop b.length=a3:=by rw[B];simp
 rw[ag] at y
 refine Q1v ar ?_
 refine Q1G ?_
 cases X:C with
 | nil=>
  subst X
  refine Q7 (fun hh=>absurd (of_decide_eq_true hh) (by simp)) (fun _=>?_)
  have:G5 l n=b:=by rw[hv];cases d<;>rfl
  have hp:a3=[]:=by rw[this] at B;simpa using B
  rw[hp] at y
  rw[y] at h
  exact h _ _ A a2
 | cons t g=>
  subst X
  refine Q7 (fun _=>?_) (fun hh=>absurd (of_decide_eq_false hh) (by simp))
  simp only[List.length_cons] at hd
  refine Q5K (n:=0) ar (by simp) fun a cs h1 h2 h3=>?_
  obtain ⟨rfl,b4⟩:=h3
  simp only[List.getElem_cons_zero] at h1 b4
  have Z:=h1 0 _ rfl
  rw[add_zero] at Z
  refine Qg Z ?_
  refine X4b ar 1 (by simp) fun x' ae bn=>?_
  simp only[List.drop_succ_cons,List.drop_zero] at ae
  have J:x'.ownBlock≠some r:=by
   rcases bn with e | e<;>rw[e]
   ·exact cn
   ·simp
  rw[Q2P X8 Y.2 t]
  have cp:d=(g.length+weigh l b)+1:=by omega
  have p:=hv
  rw[cp] at p
  simp only[Vh] at p
  have skip:(lk l t=none∨t∈b)→G5 l n=Vh (lk l) (g.length+weigh l b) g b:=by
   rintro (e | e)
   ·rw[e] at p;exact p
   ·cases e2:lk l t with
    | none=>rw[e2] at p;exact p
    | some c=>rw[e2] at p;simp only[if_pos e] at p;exact p
  have ac:(lk l t=none∨t∈b)→aq x' w3:=fun b7=>
   bf (g.length+weigh l b) x' w3 (by omega) ⟨g,b,s,σ3,m,rfl,by omega,A,ae,Y,O,J,a2,skip b7,i,by rw[ag];exact y⟩
  have a5:=ht.lift A.le
  have U:=O t
  cases be:C6 m t with
  | some u=>
   rw[be] at U
   have ai:t∈b:=by simpa using U
   simp only[↓M2,M2,Mb,reduceIte]
   exact ac (.inr ai)
  | none=>
   rw[be] at U
   have ai:t∉b:=by simpa using U
   simp only[↓M2,M2,Mb,reduceIte]
   cases L:lk l t with
   | none=>
    refine Q0y aw a5 L ?_
    simp only[↓M2,M2,Mb,reduceIte]
    exact ac (.inl L)
   | some c=>
    obtain ⟨az,b0,_⟩:=V3 L
    refine Rz aw a5 L ?_
    simp only[↓M2,M2,Mb,reduceIte]
    refine Pv X8 Y t (I 1) fun w4 bs ci=>?_
    have ab:Kpt (fun k=>k=r) w3 w4:=Kpt.of_upd bs rfl
    have ck:X3 w4 σ3:=ab.sat aw fun k o=>by rw[o];exact Y.1
    have bu:=ae.kp ab fun k o e=>J (e▸o)
    have cl:=ak _ _ _ a2 fun k o=>bs.block k (by have:=(hD k o).1;omega)
    have c8:r<w3.heap.size:=Y.lt
    refine Zo ck a5 L fun lv fv mv w5 σ5 bg f1 f2 f3 f4 f5 bm=>?_
    refine Y8 bg.sat (by rfl) rfl (Rep.one bm) fun q w6 M W a7=>?_
    refine Y4 W.sat a7 rfl ?_
    have z:=bg.trans W
    have bw: ∀k,D k→k<w4.heap.size:=fun k o=>by
     have h1:=(hD k o).1
     have h2:=A.kp.size
     have h3:=ab.size
     omega
    have ca:=ak _ _ _ cl fun k o=>z.bel.block k (bw k o)
    have ay:SLe σ M:=A.le.more ⟨z.le⟩
    have bx: ∀k,D k→M k=none:=fun k o=>by
     rw[z.old k (bw k o),A.old k (hD k o).1];exact (hD k o).2
    refine hf s c _ w6 M _ ay W.sat bx ca (RCl_lift bm ⟨W.le⟩) (by rw[az];exact L) fun w7 am bd=>?_
    have bp:X3 w7 M:=am.sat W.sat bx
    have al:Nxt D w σ w7 M:=⟨((A.kp.more ab fun j e=>by rw[e];exact bq).trans (Kpt.of_below z.bel)).trans am,ay,fun k o=>by
     rw[z.old k (by have:=A.kp.size;have:=ab.size;omega)];exact A.old k o,bp⟩
    have ap: ∀k,w.heap.size≤k→ ¬D k:=fun k o e=>by have:=(hD k e).1;omega
    have V:=(bu.up z).kp am fun k o=>ap k ((bu.mem o).1)
    have b1:=(ci.up z).kp am (ap r bq)
    have bj: ∀k,(C6 (Lb m t (I 1)) k).isSome=decide (k∈b++[t]):=fun k=>by
     rw[Q4T]
     by_cases e:t=k
     ·subst e;simp
     ·rw[if_neg e,O k];simp[Ne.symm e]
    rw[L] at p
    simp only[if_neg ai] at p
    obtain ⟨bv,a1⟩:=Q1R (lk l) (g.length+weigh l b) (g++U4 c) (b++[t])
    have bh:a3=t::bv:=by
     have:=B.symm.trans (p.trans a1)
     simpa using this
    rw[bh] at y
    simp only[List.filterMap_cons,L,J6] at y
    cases E:(H s c).1 with
    | true=>
     rw[E] at y
     simp only[if_true] at y
     refine J7 ?_
     have:=h w7 M al
     rw[y] at this
     exact this bd
    | false=>
     rw[E] at y
     simp only[Bool.false_eq_true,if_false] at y
     refine Z7 ?_
     have ao:w.heap.size≤w7.heap.size:=al.kp.size
     have aa: ∀k,x'.ownBlock=some k→M k=none:=fun k o=>(V.mem o).2.2
     have hw:=Pz l b c b0 (by rw[az];exact ai)
     rw[az] at hw
     have c5:=bk b
     have cr:g.length≤100001000001:=by omega
     have cf:=(bo c b0).1
     have cx:=b1.lt
     refine Ph (Gw w.heap.size T.c 1 U8 M x' g c.super) (fun w1=>Kpt (fun k=>x'.ownBlock=some k) w7 w1∧X3 w1 M∧J9 w.heap.size T.c 1 U8 M w1 x' g)
      ⟨.of_below (Below.refl _ _).drew,bp.below (Below.refl _ _).drew,V.below (Below.refl _ _).drew⟩ (fun w1 w2 E ht=>⟨E.1.trans ht.1,ht.1.sat E.2.1 aa,ht.2.1 E.2.2⟩) ?_
     refine X4 (.pointer (some (q.add 1))) (fun w E=>by rw[fa];exact ⟨Gw.refl,rfl⟩) ?_
     refine X4 (.pointer (some (q.add 2))) (fun w E=>by rw[fa];exact ⟨Gw.refl,rfl⟩) ?_
     refine X4 (S c.super) (fun t w E e=>by rw[e];exact ld E.2.1 a7 rfl ⟨Gw.refl,rfl⟩) ?_
     refine E8 (fun u w1=> ∃σ',Nxt (fun k=>x'.ownBlock=some k) w7 M w1 σ'∧Sl 1 U8 σ' u [c.super]) (fun u w1 w2 e ht=>by obtain ⟨σ',h1,h2⟩:=e;exact ⟨σ',h1.kpt ht.1 (fun _ o=>o) (fun k o=>(h1.old k (V.mem o).2.1).trans (aa k o)),h2⟩) (fun t w1 E e=>?_) ?_
     ·rw[e]
      refine T4 (R:=U8) (sz:=1) E.2.1 [S c.super] [c.super] rfl rfl (by simp;rfl) rfl ⟨⟨rfl,f5⟩,trivial⟩ fun u w2 σ2 ad hu=>?_
      have cd:Nxt (fun k=>x'.ownBlock=some k) w7 M w1 M:=⟨E.1,SLe.refl _,fun _ _=>rfl,E.2.1⟩
      exact ⟨Gw.below ad.bel,σ2,cd.trans (Nxt.of_stp ad),hu⟩
     refine E8 (VQa w7.heap.size w.heap.size T.c 1 U8 M x' g c.super) (fun _ _ _ h1 ht=>h1.stable ht) (fun u w1 E e=>?_) ?_
     ·obtain ⟨σ',h1,h2⟩:=e
      exact X3A V ao E.2.2 h1 h2 rfl (by omega) (by omega)
     refine X4 lv (fun t w E e=>by rw[e];exact ld E.2.1 a7 rfl ⟨Gw.refl,rfl⟩) ?_
     rintro dc de db c1 ch dg w8 N _ _ _ _ ⟨b6,bl⟩ rfl
     have ax:ch.ownBlock≠some r:=by
      rcases bl with ⟨a,b9,e1,e2⟩ | ⟨e1,_⟩
      ·rw[e2];rw[e1] at J;cases a<;>exact J
      ·intro e;have:=e1 r e;omega
     refine Q8b N.2.1 (Nat.le_trans ao N.1.size) b6 (f1.up W) rfl (by rw[List.length_append,List.length_cons,List.length_nil];omega) (by rw[List.length_append,List.length_cons,List.length_nil];omega) fun br w9 a6 b8 b3 bi=>?_
     have ce:br.ownBlock≠some r:=by
      rcases bi with ⟨a,b9,e1,e2⟩ | ⟨_,e1⟩
      ·rw[e2];rw[e1] at ax;cases a<;>exact ax
      ·intro e;have:=e1 r e;have:=N.1.size;omega
     have cb:Nxt D w σ w9 M:=⟨(al.kp.more N.1 fun j e=>(V.mem e).1).more a6 fun j e=>e.2.1,ay,al.old,b8⟩
     have cq:=(b1.kp N.1 J).kp a6 fun e=>ax e.1
     have cj:=ak _ w7 w9 bd fun k o=>by
      have h1:=(hD k o).1
      rw[a6.block k (by have:=N.1.size;omega) fun e=>by have:=e.2.1;omega,N.1.block k (by omega) fun e=>by have:=(V.mem e).1;omega]
     have dj:(g++U4 c).length=g.length+1+c.like.length:=by simp[U4];omega
     have ct:(U4 c).length=c.like.length+1:=rfl
     have a0:Vh (lk l) (g.length+weigh l b) (g++U4 c) (b++[t])=Vh (lk l) ((g++U4 c).length+weigh l (b++[t])) (g++U4 c) (b++[t]):=by
      have:=X0E l ((g++U4 c).length+weigh l (b++[t])) (g++U4 c) (b++[t]) (Nat.le_refl _) (g.length+weigh l b-((g++U4 c).length+weigh l (b++[t])))
      rw[←this];congr 1;omega
     refine bf ((g++U4 c).length+weigh l (b++[t])) br w9 (by omega) ⟨g++U4 c,b++[t],(H s c).2,M,_,rfl,by omega,cb,?_,cq,bj,ce,cj,p.trans a0,i+1,?_⟩
     ·have:g++U4 c=(g++[c.super])++c.like:=by simp[U4]
      rw[this];exact b3
     ·rw[y,B,bh];simp)
end Go.Proofs.YtjdiakhipmggjaaGreatDoor

namespace Go.Emb
open Go.RowKit Go.Hm
theorem Nxt.stp {w w':World} {σ a:Q6} (h:Nxt (fun _=>False) w σ w' a):Stp w σ w' a:=⟨h.kp.below fun _=>id,h.sat,h.le.le,h.old⟩
end Go.Emb
namespace Go.Hm
open Go.Kd Go.Emb
theorem Q4o {α:Type} (p:α→Bool): ∀(xs:List α) (i:Nat),(J6 (fun (_:Unit) x=>(p x,())) () xs i).1.isSome=xs.any p
 | [],_=>rfl
 | x::r,i=>by
  simp only[J6,List.any_cons]
  cases p x with
  | true=>simp
  | false=>simpa using Q4o p r (i+1)
theorem Q6F {l:List Cla} (n b:X0):((Mf l n).any fun c=>decide (c.name=b))=(G5 l n).contains b:=by
 have key: ∀vs:List X0,(∀x∈vs,∃c,lk l x=some c)→((vs.filterMap (lk l)).any fun c=>decide (c.name=b))=vs.contains b:=by
  intro vs
  induction vs with
  | nil=>intro _;rfl
  | cons x r d=>
   intro h
   obtain ⟨c,a⟩:=h x (by simp)
   rw[List.filterMap_cons,a]
   simp only[List.any_cons,List.contains_cons]
   rw[d fun y f=>h y (by simp[f]),(V3 a).1]
   congr 1
   rw[Bool.eq_iff_iff,beq_iff_eq,decide_eq_true_eq];exact ⟨Eq.symm,Eq.symm⟩
 exact key _ fun x e=>(Vc.1 e).right
end Go.Hm
namespace Go.Proofs.YtjdiakhipmggjaaGreatDoor
open Go.Emb Go.RowKit Go.Kd Go.Hm
variable {w : World} {K : Value → World → Prop} {σ : Q6} {v : Value} {l : List Cla}
theorem Q7P {n:X0} {f:Value} (p:Cla→Bool) (hs:X3 w σ) (ht:Tab σ v l) (hl:l.length≤100000) (hsm: ∀c∈l,Qs c) (hn:n.length≤U2)
 (hf: ∀c cs (w1:World) (σ1:Q6) (K:Value→World→Prop),SLe σ σ1→X3 w1 σ1→U9 σ1 c cs→(∀w' σ',Stp w1 σ1 w' σ'→K (.bool (p c)) w')→Z4 P f [.agg cs.toArray] w1 K)
 (h: ∀w' σ',Stp w σ w' σ'→K (.bool ((Mf l n).any p)) w'):Q1 P F.x [v,S n,f] w K:=by
 refine Q7S (fun (_:Unit) c=>(p c,())) () (fun _ _=>True) (fun _=>False) hs ht hl hsm hn (fun _ e=>e.elim) (fun _ _ _ _ _=>trivial) trivial (fun s c cs w1 σ1 K le hs1 _ _ hr _ hK=>hf c cs w1 σ1 K le hs1 hr fun w' σ' hk=>hK w' (.of_below hk.bel) trivial) fun w' σ' hn _=>?_
 rw[Q4o]
 exact h w' σ' hn.stp
theorem X0A {n b:X0} {q:Addr} (hs:X3 w σ) (ht:Tab σ v l) (ok:Ok l) (hn:n.length≤U2) (hq:Z6 σ q [S b]) (h: ∀w' σ',Stp w σ w' σ'→K (.bool ((G5 l n).contains b)) w'):
 Q1 P F.x [v,S n, .func (.func F.bp) #[] #[.pointer (some q)]] w K:=by
 refine Q7P (fun c=>decide (c.name=b)) hs ht ok.len ok.sm hn (fun c cs w1 σ1 K le hs1 hr hK=>Z8 (Kj ?_)) (by rw[Q6F];exact h)
 obtain ⟨lv,fv,mv,rfl,_⟩:=hr
 unfold Me
 have hq1:=hq.lift le
 refine Z1 hs1 fun a w2 σ2 hk2 ha2=>?_
 (repeat' (first | (with_reducible intro _) | (with_reducible refine V0 ?_) | (simp only[↓M2,M2,Mb,reduceIte]) | (with_reducible first | refine ld aS aL aR ?_ | refine X7 aS aL aR ?_ | refine Y4 aS aL aR ?_ | refine Q8 aL ?_ | refine J3 aR ?_ | refine Z1 aS ?_ | refine N2 aS aL ?_ | refine U6 aS aR ?_ | refine Y8 aS aR aR (Rep.one (by assumption)) ?_ | refine U7 aS aR aR aR ?_ | (refine J0 (fun hh=>?_) (fun hh=>?_)<;>(try simp only[hh,Bool.not_true,Bool.not_false,↓M2,M2,Mb,reduceIte])) | (refine Q7 (fun hh=>?_) (fun hh=>?_)<;>(try simp only[hh,Bool.not_true,Bool.not_false,↓M2,M2,Mb,reduceIte])))))
 exact hK _ _ hk2
theorem X4k {a b:X0} (E:X3 w σ) (s:Tab σ v l) (ok:Ok l) (u:a.length≤U2) (H:b.length≤U2) (h: ∀w' D,Stp w σ w' D→K (.bool (Xo l a b)) w'):Q1 P F.bS [v,S a,S b] w K:=Q0s (by
 unfold Hh
 unfold Xo at h
 refine U6 E rfl fun q w1 σ1 i z=>?_
 refine Q1n i.sat (s.lift ⟨i.le⟩) u fun L N e=>?_
 have j:=i.trans e
 cases A:N1 l a with
 | false=>
  simp only[A,↓M2,M2,Mb,reduceIte,Bool.not_false,Bool.true_or,if_true] at h⊢
  exact h _ _ j
 | true=>
  simp only[A,↓M2,M2,Mb,reduceIte,Bool.not_true,Bool.false_or] at h⊢
  refine X7 e.sat (z.up e) rfl ?_
  refine Q1n e.sat (s.lift ⟨j.le⟩) H fun J O d=>?_
  have c:=j.trans d
  cases B:N1 l b with
  | false=>
   simp only[B,↓M2,M2,Mb,reduceIte,Bool.not_false,if_true] at h⊢
   exact h _ _ c
  | true=>
   simp only[B,↓M2,M2,Mb,reduceIte,Bool.not_true,Bool.false_eq_true,if_false] at h⊢
   have m:=(z.up e).up d
   refine X7 d.sat m rfl ?_
   refine P6 ?_
   by_cases f:a=b
   ·rw[if_pos f] at h
    simp only[decide_eq_true f,↓M2,M2,Mb,reduceIte]
    exact h _ _ c
   rw[if_neg f] at h
   simp only[decide_eq_false f,↓M2,M2,Mb,reduceIte]
   refine Rv a ?_
   cases C:plain a with
   | true=>
    simp only[C,↓M2,M2,Mb,reduceIte,Bool.true_or,if_true] at h⊢
    exact h _ _ c
   | false=>
    simp only[C,↓M2,M2,Mb,reduceIte,Bool.false_or] at h⊢
    refine X7 d.sat m rfl ?_
    refine Rv b ?_
    cases y:plain b with
    | true=>
     simp only[y,↓M2,M2,Mb,reduceIte,if_true] at h⊢
     exact h _ _ c
    | false=>
     simp only[y,↓M2,M2,Mb,reduceIte,Bool.false_eq_true,if_false] at h⊢
     by_cases p:a=H8
     ·rw[if_pos p] at h
      have r:decide (a=[110,117,108,108])=true:=decide_eq_true p
      simp only[r,↓M2,M2,Mb,reduceIte]
      exact h _ _ c
     rw[if_neg p] at h
     have r:decide (a=[110,117,108,108])=false:=decide_eq_false p
     simp only[r,↓M2,M2,Mb,reduceIte]
     refine Q5l a (Nat.le_trans u (by decide)) (W8 d.sat fun U M g=>?_)
     have k:=c.trans g
     have n:=m.up g
     refine Jh ?_
     by_cases o:elem a=[]
     ·rw[if_neg (by simpa using o)] at h
      simp only[decide_eq_true o,↓M2,M2,Mb,reduceIte]
      exact X0A g.sat (s.lift ⟨k.le⟩) ok u n fun Q R t=>h _ _ (k.trans t)
     ·rw[if_pos o] at h
      simp only[decide_eq_false o,↓M2,M2,Mb,reduceIte]
      refine X7 g.sat n rfl ?_
      refine P6 ?_
      exact h _ _ k)
theorem X2o {c:Cla} {cs:List Value} (hs:X3 w σ) (ht:Tab σ v l) (hl:l.length≤100000) (hsm: ∀c∈l,Qs c) (hc:U9 σ c cs) (h: ∀w' σ',Stp w σ w' σ'→K (.bool (T1 l c)) w'):Q1 P F.bj [v, .agg cs.toArray] w K:=Pe (by
 obtain ⟨lv,fv,mv,rfl,g1,g2,g3,g4,g5⟩:=hc
 unfold Mk
 obtain ⟨a,_,_,_,rfl,_⟩:=ht.ex
 refine U6 hs rfl fun q w1 σ1 hk1 hq=>?_
 refine Z1 hk1.sat fun q2 w2 σ2 hk2 hq2=>?_
 rw[Qi,fa]
 have hS2:=hk1.trans hk2
 have back: ∀{n:X0} {w3:World} {σ3:Q6} {K:Value→World→Prop},SLe σ2 σ3→X3 w3 σ3→n.length≤U2→(∀w' σ',Stp w3 σ3 w' σ'→K (.bool ((G5 l n).contains c.name)) w')→
  Z4 P (.func (.func F.b8) #[] #[.pointer (some q), .pointer (some q2)]) [S n] w3 K:=by
  intro n w3 σ3 K le hs3 hn hK
  refine Z8 (Fh ?_)
  unfold Vz
  refine X7 hs3 ((hq.up hk2).lift le) rfl ?_
  rw[Qi]
  have le3:SLe σ σ3:=SLe.more ⟨hS2.le⟩ le
  refine Q7P (fun d=>decide (d.name=c.name)) hs3 (ht.lift le3) hl hsm hn (fun d ds w4 σ4 K le4 hs4 hr hK=>Z8 (Ci ?_)) (by rw[Q6F];exact hK)
  obtain ⟨lv,fv,mv,rfl,_⟩:=hr
  unfold Ub
  have hq4:=(hq2.lift le).lift le4
  refine Z1 hs4 fun a w5 σ5 hk5 ha5=>?_
  (repeat' (first | (with_reducible intro _) | (with_reducible refine V0 ?_) | (simp only[↓M2,M2,Mb,reduceIte]) | (with_reducible first | refine ld aS aL aR ?_ | refine X7 aS aL aR ?_ | refine Y4 aS aL aR ?_ | refine Q8 aL ?_ | refine J3 aR ?_ | refine Z1 aS ?_ | refine N2 aS aL ?_ | refine U6 aS aR ?_ | refine Y8 aS aR aR (Rep.one (by assumption)) ?_ | refine U7 aS aR aR aR ?_ | (refine J0 (fun hh=>?_) (fun hh=>?_)<;>(try simp only[hh,Bool.not_true,Bool.not_false,↓M2,M2,Mb,reduceIte])) | (refine Q7 (fun hh=>?_) (fun hh=>?_)<;>(try simp only[hh,Bool.not_true,Bool.not_false,↓M2,M2,Mb,reduceIte])))))
  exact hK _ _ hk5
 refine ld hk2.sat hq2 rfl ?_
 unfold T1 at h
 simp only[U4,List.any_cons] at h
 refine back (SLe.refl _) hk2.sat g5 fun w3 σ3 hk3=>?_
 cases e1:(G5 l c.super).contains c.name with
 | true=>
  rw[e1] at h
  simp only[↓M2,M2,Mb,reduceIte]
  exact h _ _ (hS2.trans hk3)
 | false=>
  rw[e1,Bool.false_or] at h
  simp only[↓M2,M2,Mb,reduceIte]
  refine ld hk3.sat (hq2.up hk3) rfl ?_
  refine P2 (fun n=>(G5 l n).contains c.name) hk3.sat (((g1.up hk1).up hk2).up hk3) (fun x w4 K _ hs4 hx hK=>back ⟨hk3.le⟩ hs4 hx fun w' σ' hk=>hK _ hk.bel) fun w4 hb=>?_
  (try simp only[↓M2,M2,Mb,reduceIte])
  exact h _ _ ((hS2.trans hk3).trans (Stp.of_below hk3.sat hb)))
end Go.Proofs.YtjdiakhipmggjaaGreatDoor

namespace Go.Emb
open Go.RowKit Go.Hm
variable {P : Program} {w w0 w1 w' w'' : World} {K : Value → World → Prop} {σ σ0 σ1 σ' : Q6}
theorem Sl.at {α:Type} {R:Q6→α→List Value→Prop} {sz:Nat} {v:Value} {xs:List α} (h:Sl sz R σ v xs) {i:Nat} (o:i<xs.length):
 ∃p cs,Z6 σ p cs∧cs.length=sz∧R σ xs[i] cs∧ ∀{P:Program} {t e:TypeId} {c:Nat} {z:Value} {w:World} {K:Value→World→Prop} [TS P t e] [TZ P e sz c z],K (.pointer (some p)) w→indexAddr P t v (I i) w K:=by
 obtain ⟨a,m,rfl,r,q,f,j⟩:=h
 cases a with
 | none=>have:=f rfl;omega
 | some b=>
  obtain ⟨cs,k,n,d⟩:=(j b rfl).2 i xs[i] (by simp[o])
  refine ⟨_,cs,k,n,d,?_⟩
  intro P t e c z w K _ _ g
  rw[Sr (by omega) (by omega)]
  simpa using g
abbrev ints (xs:List Nat):List Int:=xs.map fun n:Nat=>(n:Int)
theorem V7.grow {α:Type} {R:Q6→α→List Value→Prop} [hr:Rep R] {B sz:Nat} {e:TypeId} {v:Value} {xs:List α} (h:V7 B e sz R σ w v xs) (a:SLe σ σ') (f: ∀k,v.ownBlock=some k→σ' k=none):V7 B e sz R σ' w v xs:=by
 obtain ⟨cells,b,g,c⟩:=h
 exact ⟨cells,b,f,fun i x d=>hr.up a.le (c i x d)⟩
end Go.Emb
namespace Go.Proofs.YtjdiakhipmggjaaGreatDoor
open Go.Emb Go.RowKit Go.Kd Go.Hm
variable {w : World} {K : Value → World → Prop} {σ : Q6} {v : Value} {l : List Cla}
theorem Q6Q {B i:Nat} {xs:List Nat} {x:Value} (o:J9 B T.e 1 Wx σ w x (ints xs)) (h:K (.bool (decide (i∈xs))) w):Q1 P F.aH [x,I i] w K:=Hc (by
 unfold Yf
 have f:xs.length≤9223372036854775807:=by
  obtain ⟨a,t,_,m,q,_⟩:=o
  simp only[maxLen,ints,List.length_map] at q m;omega
 refine Ch ?_
 unfold Ua
 refine Q1v o ?_
 have g:(ints xs).length=xs.length:=by simp
 refine U3 xs.length (fun n w'=>w'=w∧i∉xs.take n) ⟨rfl,by simp⟩ fun n w' d u k=>?_
 obtain ⟨rfl,k⟩:=k
 rw[g]
 refine Y9 ?_
 refine Q7 (fun hh=>?_) (fun hh=>?_)
 ·have b:n<xs.length:=by simpa using hh
  refine Q5K o (by rw[g];exact b) fun a cs m q r=>?_
  obtain ⟨rfl,_⟩:=r
  have p:=m 0 _ rfl
  rw[add_zero] at p
  refine Qg p ?_
  simp only[List.getElem_map]
  refine P4 ?_
  refine Q7 (fun c=>?_) (fun c=>?_)
  ·have e:(i:Int)=xs[n]:=by simpa using c
   have:i=xs[n]:=by omega
   have j:decide (i∈xs)=true:=decide_eq_true (by rw[this];exact List.getElem_mem b)
   rw[j] at h
   refine P7 ?_
   rw[decide_eq_true (by omega:(0:Int)≤n)]
   exact h
  ·have e: ¬(i:Int)=xs[n]:=by simpa using c
   refine N3 ?_
   refine Y5 f b ⟨rfl,?_⟩
   rw[List.take_add_one,List.getElem?_eq_getElem b]
   simp only[Option.toList_some,List.mem_append,List.mem_singleton,not_or]
   exact ⟨k,fun s=>e (by rw[s])⟩
 ·have b: ¬n<xs.length:=by simpa using hh
  rw[List.take_of_length_le (by omega)] at k
  rw[decide_eq_false k] at h
  refine P7 ?_
  exact h)
theorem X3y {w0:World} {σ0 σb:Q6} {pf pt pw:Addr} {B frm:Nat} (ha:Jc l) (ho:T9 l) (hl:l.length≤100000) (bx: ∀c∈l,Qs c) (hf:0<frm) (ht:Tab σb v l) (ax:Z6 σb pf [I frm]) (bl:Z6 σb pt [v])
 (bg:Z6 σb pw [.func (.func F.z) #[] #[.pointer (some pf), .pointer (some ⟨B,0,none⟩), .pointer (some pt), .pointer (some pw)]]) (b4:w0.heap.size≤B):
 ∀(k:Nat) {i:Nat} {b:List Nat} {x:Value} {w1:World} {σ1:Q6} {K:Value→World→Prop},i<l.length→(i<frm∨K8 l (Y3 l i)<k)→SLe σb σ1→Stp w0 σ0 w1 σ1→Y2 σ1 w1 B [x]→V7 w0.heap.size T.e 1 Wx σ1 w1 x (ints b)→x.ownBlock≠some B→Few l b→
  (∀w2 σ2 x',SLe σ1 σ2→Stp w0 σ0 w2 σ2→Y2 σ2 w2 B [x']→V7 w0.heap.size T.e 1 Wx σ2 w2 x' (ints (Xq l frm b i))→x'.ownBlock≠some B→K (.tuple #[]) w2)→
  Z4 P (.func (.func F.z) #[] #[.pointer (some pf), .pointer (some ⟨B,0,none⟩), .pointer (some pt), .pointer (some pw)]) [I i] w1 K:=by
 obtain ⟨a,lv,r,m,rfl,t1,t2,t3,t4⟩:=ht.ex
 intro k
 induction k with
 | zero=>
  intro i b x w1 σ1 K hi hk W O hm o hx ab h
  have A:i<frm:=hk.resolve_right (by omega)
  refine Z8 (Vt ?_)
  unfold Qz
  refine X7 O.sat (ax.lift W) rfl ?_
  refine Y9 ?_
  rw[decide_eq_true (by omega:(i:Int)<frm)]
  simp only[↓M2,M2,Mb,reduceIte]
  have:Xq l frm b i=b:=Yp _ _ A
  rw[this] at h
  exact h _ _ _ (SLe.refl _) O hm o hx
 | succ k ih=>
  intro i b x w1 σ1 K hi hk W O hm o hx ab h
  refine Z8 (Vt ?_)
  unfold Qz
  refine X7 O.sat (ax.lift W) rfl ?_
  refine Y9 ?_
  have z:=Q7r ha ho hf b hi
  by_cases A:i<frm
  ·rw[decide_eq_true (by omega:(i:Int)<frm)]
   simp only[↓M2,M2,Mb,reduceIte]
   rw[if_pos A] at z
   rw[z] at h
   exact h _ _ _ (SLe.refl _) O hm o hx
  rw[if_neg A] at z
  rw[decide_eq_false (by omega: ¬(i:Int)<frm)]
  simp only[↓M2,M2,Mb,reduceIte]
  refine Q8N hm rfl ?_
  refine Q6Q (J9.of_acc o) ?_
  by_cases U:i∈b
  ·rw[if_pos U] at z
   rw[z] at h
   simp only[decide_eq_true U,↓M2,M2,Mb,reduceIte]
   exact h _ _ _ (SLe.refl _) O hm o hx
  rw[if_neg U] at z
  simp only[decide_eq_false U,↓M2,M2,Mb,reduceIte]
  have cj:K8 l (Y3 l i)<k+1:=hk.resolve_left A
  have t1:=t1.lift W
  have t2:=t2.lift W
  have t3:=t3.lift W
  have J:=bl.lift W
  obtain ⟨p,cs,a1,da,bj,a0⟩:=t2.at hi
  obtain ⟨cc,fv,mv,rfl,f1,f2,f3,f4,f5⟩:=bj
  have ay:l.getD i Cla.zero=l[i]:=by rw[List.getD_eq_getElem?_getD,List.getElem?_eq_getElem hi];rfl
  have di:=hm.lt
  refine U0 O.sat ?_
  refine X4 (.pointer (some a)) (fun w f=>X7 f.sat J rfl (X6 rfl)) ?_
  refine X4 (.pointer (some a)) (fun t w f e=>by rw[e,L8];exact X6 rfl) ?_
  refine X4 (.pointer (some (a.add 0))) (fun t w f e=>by rw[e,fa];exact X6 rfl) ?_
  refine X4 lv (fun t w f e=>by rw[e];exact ld f.sat t1 rfl (X6 rfl)) ?_
  refine X4 (.pointer (some p)) (fun t w f e=>by rw[e];exact a0 (X6 rfl)) ?_
  refine X4 (.pointer (some (p.add 1))) (fun t w f e=>by rw[e,fa];exact X6 rfl) ?_
  refine X4 (S l[i].super) (fun t w f e=>by rw[e];exact ld f.sat a1 rfl (X6 rfl)) ?_
  refine E8 (fun u w=>X3 w σ1∧V7 w0.heap.size T.c 1 U8 σ1 w u [l[i].super]∧ ∀k,u.ownBlock=some k→w1.heap.size≤k) (fun u w2 w3 h f=>⟨h.1.below f,h.2.1.up (Stp.of_below h.1 f),h.2.2⟩) (fun t w f e=>?_) ?_
  ·rw[e]
   refine Zf (R:=U8) (sz:=1) (xs:=[l[i].super]) (O.trans f.stp) [S l[i].super] rfl rfl (by simp;rfl) rfl ⟨⟨rfl,f5⟩,trivial⟩ fun u w2 a3 hu bp=>?_
   exact ⟨a3.bel,a3.sat,hu,fun k hk=>Nat.le_trans f.stp.bel.size (bp k hk)⟩
  refine X4 (.pointer (some a)) (fun w f=>X7 f.sat J rfl (X6 rfl)) ?_
  refine X4 (.pointer (some a)) (fun t w f e=>by rw[e,L8];exact X6 rfl) ?_
  refine X4 (.pointer (some (a.add 0))) (fun t w f e=>by rw[e,fa];exact X6 rfl) ?_
  refine X4 lv (fun t w f e=>by rw[e];exact ld f.sat t1 rfl (X6 rfl)) ?_
  refine X4 (.pointer (some p)) (fun t w f e=>by rw[e];exact a0 (X6 rfl)) ?_
  refine X4 (.pointer (some (p.add 2))) (fun t w f e=>by rw[e,fa];exact X6 rfl) ?_
  refine X4 cc (fun t w f e=>by rw[e];exact ld f.sat a1 rfl (X6 rfl)) ?_
  rintro cz cr c7 cm c8 c5 dj cx db dg cu cn c2 de cv w2 Q _ _ _ _ _ _ _ ⟨cl,bq,L⟩ _ _ _ _ _ _ b2
  subst b2
  have bh:=O.trans Q.stp
  have bs:=(bx _ (List.getElem_mem hi)).1
  have aw: ∀j,x.ownBlock=some j→j<w1.heap.size:=fun j C=>(o.mem j C).2.1
  have b6:=hm.step Q.stp
  have ac:=o.step Q.stp
  refine Wm bh bq f1 rfl (by simp only[List.length_cons,List.length_nil];omega) (by simp only[List.length_cons,List.length_nil];omega) fun bc w3 a6 bn b8 bd=>?_
  have aa: ∀j,bc.ownBlock=some j→w1.heap.size≤j:=fun j C=>by
   rcases bd with e | e
   ·exact L j (e▸C)
   ·exact Nat.le_trans Q.stp.bel.size (e j C)
  have aq:=b6.nx a6 fun e=>by have:=L _ e;omega
  have M:=ac.nx a6 fun j C e=>by have:=L _ e;have:=aw j C;omega
  obtain ⟨σ4,b9,Y,az,Z⟩:=b8.keep bn
  have Y:Sl 1 U8 σ4 bc (U4 l[i]):=Y
  have bz:Y2 σ4 w3 B [x]:=⟨(Z B fun e=>by have:=aa B e.symm;omega).trans aq.1,aq.2⟩
  have ai:V7 w0.heap.size T.e 1 Wx σ4 w3 x (ints b):=M.grow ⟨az⟩ fun j C=>(Z j fun e=>by have:=aa j e.symm;have:=aw j C;omega).trans (M.mem j C).2.2
  have a5:SLe σ1 σ4:=⟨az⟩
  refine Q8 Y ?_
  refine U3 (U4 l[i]).length (fun n w'=> ∃σ' x',SLe σ4 σ'∧Stp w0 σ0 w' σ'∧Y2 σ' w' B [x']∧V7 w0.heap.size T.e 1 Wx σ' w' x' (ints (((U4 l[i]).take n).foldl (fun b u=>Xq l frm b ((Z3 l u).getD 0)) b))∧x'.ownBlock≠some B∧Few l (((U4 l[i]).take n).foldl (fun b u=>Xq l frm b ((Z3 l u).getD 0)) b))
   ⟨σ4,x,SLe.refl _,b9,bz,ai,hx,ab⟩ fun n w5 d hn a8=>?_
  obtain ⟨σ5,x5,ak,X,V,E,am,s⟩:=a8
  refine Y9 ?_
  have y:=a5.more ak
  refine Q7 (fun hh=>?_) (fun hh=>?_)
  ·have H:n<(U4 l[i]).length:=by simpa using hh
   refine Q5w (Y.lift ak) H fun q hq dc=>?_
   refine X7 X.sat hq rfl ?_
   have e1:((U4 l[i]).take (n+1)).foldl (fun b u=>Xq l frm b ((Z3 l u).getD 0)) b=Xq l frm (((U4 l[i]).take n).foldl (fun b u=>Xq l frm b ((Z3 l u).getD 0)) b) ((Z3 l (U4 l[i])[n]).getD 0):=by
    rw[List.take_add_one,List.getElem?_eq_getElem H,List.foldl_append];rfl
   refine U0 X.sat ?_
   refine X4 _ (fun w f=>X7 f.sat (bg.lift (W.more y)) rfl (X6 rfl)) ?_
   refine X4 (.pointer (some a)) (fun w f=>X7 f.sat (J.lift y) rfl (X6 rfl)) ?_
   refine X4 (.pointer (some a)) (fun t w f e=>by rw[e,L8];exact X6 rfl) ?_
   refine X4 (.pointer (some (a.add 1))) (fun t w f e=>by rw[e,fa];exact X6 rfl) ?_
   refine X4 (.map (some r)) (fun t w f e=>by rw[e];exact ld f.sat (t1.lift y) rfl (X6 rfl)) ?_
   refine X4 (I ((Z3 l (U4 l[i])[n]).getD 0:Nat)) (fun t w f e=>by
    rw[e,Q4O X8 ((t3.lift y).is f.sat) _,t4]
    cases Z3 l (U4 l[i])[n]<;>exact X6 rfl) ?_
   rintro dl c1 cy c0 dn cw w6 ag rfl _ _ _ _ rfl
   have ct:l.length≤9223372036854775807:=by omega
   refine ih ?_ ?_ (W.more y) (X.trans ag.stp) (V.step ag.stp) (E.step ag.stp) am s fun w7 σ7 x7 bi bw cd af bm=>?_
   ·cases C:Z3 l (U4 l[i])[n] with
    | none=>simp only[Option.getD_none];omega
    | some j=>exact (S8 C).1
   ·cases C:Z3 l (U4 l[i])[n] with
    | none=>exact .inl hf
    | some j=>
     right
     have:=Q1I ha ho hi (u:=(U4 l[i])[n]) (by rw[ay];exact List.getElem_mem H) C
     simp only[Option.getD_some];omega
   ·refine N3 ?_
    refine Y5 (by have:(U4 l[i]).length=l[i].like.length+1:=rfl;omega) H ⟨σ7,x7,ak.more bi,bw,cd,?_,bm,?_⟩
    ·rw[e1];exact af
    ·rw[e1]
     cases C:Z3 l (U4 l[i])[n] with
     | none=>simp only[Option.getD_none];rw[show Xq l frm _ 0=_ from Yp _ _ hf];exact s
     | some j=>exact Ip ha ho hf _ _ _ (S8 C).1 s
  ·have H: ¬n<(U4 l[i]).length:=by simpa using hh
   rw[List.take_of_length_le (by omega)] at E s
   rw[ay] at z
   refine Q8N V rfl ?_
   have ck:=s.len
   refine Jp (x:=(i:Int)) X E ⟨rfl,by omega,by omega⟩ rfl rfl rfl (by rw[List.length_map];omega) (by rw[List.length_map];omega) fun u x8 w8 σ8 a9 b1 N av=>?_
   have a4:=V.nx a9 am
   have ba:x8.ownBlock≠some B:=fun e=>by
    rcases av with e2 | e2
    ·exact am (e2▸e)
    ·have:=e2 B e;have:=V.lt;omega
   have a7:x8.cells= #[x8]∧x8.oneCell'=true:=by
    obtain ⟨cells,h1,_⟩:=N
    rcases h1.2 with ⟨rfl,_⟩ | ⟨g,cp,c6,rfl,_⟩<;>exact ⟨rfl,rfl⟩
   refine st0 a4 (by simp) a7.1 a7.2 fun w9 a2 b7=>?_
   have bv:=a2.stp b1 b4 a4.1
   have ae:V7 w0.heap.size T.e 1 Wx σ8 w9 x8 (ints (Xq l frm b i)):=by
    rw[z]
    have:=N.kp (Kpt.of_upd (D:=fun k=>k=B) a2 rfl) fun k hk e=>ba (e▸hk)
    simpa [ints] using this
   exact h w9 σ8 x8 (y.more a9.le) bv b7 ae ba
theorem X2e {frm:Nat} (hs:X3 w σ) (ht:Tab σ v l) (ha:Jc l) (ho:T9 l) (hl:l.length≤100000) (ar: ∀c∈l,Qs c) (hf:0<frm) (Y:frm≤l.length) (h: ∀v' w' σ',Stp w σ w' σ'→Sl 1 Wx σ' v' (ints (W0 l frm))→(W0 l frm).length≤l.length→(∀y∈W0 l frm,y<l.length)→K v' w'):Q1 P F.bk [v,I frm] w K:=Pc (by
 unfold Mt
 have ag:=ht
 obtain ⟨a,lv,r,m,rfl,t1,t2,t3,t4⟩:=ht.ex
 refine U6 hs rfl fun pt w1 σ1 s ac=>?_
 refine U6 s.sat rfl fun pf w2 σ2 k ak=>?_
 refine M0 k.sat fun C w3 σ3 af o N=>?_
 refine M0 o.sat fun bw w4 σ4 ah t J=>?_
 rw[Qi]
 have Q:=N.step t
 have ax:=N.lt
 have R:=((s.trans k).trans o).trans t
 have V:w.heap.size≤C:=L9 af (s.trans k)
 have B:w.heap.size≤bw:=L9 ah ((s.trans k).trans o)
 refine st0 J (by simp[Value.cells]) rfl rfl fun w5 L an=>?_
 have aj:=L.stp R B J.1
 have z:=Q.upd L (by omega)
 obtain ⟨H,M,U,j,O⟩:=an.keep aj B
 have ab:Y2 H w5 C [.slice none 0 0]:=⟨(O C (by omega)).trans z.1,z.2⟩
 have j:SLe σ4 H:=⟨j⟩
 have A:=((ak.up o).up t).lift j
 have u:=(((ac.up k).up o).up t).lift j
 have e:SLe σ H:=SLe.more ⟨R.le⟩ j
 have t1:=t1.lift e
 have t2:=t2.lift e
 refine X7 M.sat A rfl ?_
 have a8:(List.range l.length).length=l.length:=List.length_range
 have hz:([Value.nilFunc].set 0 (Value.func (Fn.func F.z) #[] #[.pointer (some pf), .pointer (some ⟨C,0,none⟩), .pointer (some pt), .pointer (some ⟨bw,0,none⟩)]))=[Value.func (Fn.func F.z) #[] #[.pointer (some pf), .pointer (some ⟨C,0,none⟩), .pointer (some pt), .pointer (some ⟨bw,0,none⟩)]]:=rfl
 refine Pf (fun d x w'=> ∃(i:Nat) (σ':Q6) (Z:Value),x=I i∧frm≤i∧i≤l.length∧d=l.length-i∧SLe H σ'∧Stp w σ w' σ'∧Y2 σ' w' C [Z]∧V7 w.heap.size T.e 1 Wx σ' w' Z (ints (((List.range i).drop frm).foldl (fun f i=>Xq l frm f i) []))∧Z.ownBlock≠some C∧Few l (((List.range i).drop frm).foldl (fun f i=>Xq l frm f i) [])) _
  ⟨frm,H, .slice none 0 0,rfl,Nat.le_refl _,Y,rfl,SLe.refl _,M,ab,by rw[List.drop_eq_nil_of_le (by simp)];exact V7.nil,by simp[Value.ownBlock],by rw[List.drop_eq_nil_of_le (by simp)];exact ⟨by simp,by simp⟩⟩ ?_
 rintro X d x dd w7 ⟨i,σ7,x7,rfl,a7,a9,rfl,g,p,W,n,ae,b⟩ aa
 refine X7 p.sat (u.lift g) rfl ?_
 rw[L8,fa]
 refine ld p.sat (t1.lift g) rfl ?_
 refine Q8 (t2.lift g) ?_
 refine Y9 ?_
 refine Q7 (fun hh=>?_) (fun hh=>?_)
 ·have q:i<l.length:=by simpa using hh
  refine X7 p.sat (U.lift g) rfl ?_
  refine X3y (w0:=w) (σ0:=σ) (σb:=H) ha ho hl ar hf (ag.lift e) A u U V (K8 l (Y3 l i)+1) q (.inr (Nat.lt_succ_self _)) g p W n ae b fun w8 σ8 x8 aq D ai E al=>?_
  refine Xw ⟨by omega,by omega⟩ ?_
  have e1:((List.range (i+1)).drop frm).foldl (fun f i=>Xq l frm f i) []=Xq l frm (((List.range i).drop frm).foldl (fun f i=>Xq l frm f i) []) i:=by
   rw[List.range_succ,List.drop_append_of_le_length (by simp;omega),List.foldl_append];rfl
  refine aa _ _ _ (by omega:l.length-(i+1)<l.length-i) ⟨i+1,σ8,x8,by simp,by omega,by omega,rfl,g.more aq,D,ai,?_,al,?_⟩
  ·rw[e1];exact E
  ·rw[e1];exact Ip ha ho hf _ _ _ q b
 ·have q:i=l.length:=by
   have: ¬i<l.length:=by simpa using hh
   omega
  subst q
  refine Q8N W rfl ?_
  obtain ⟨σ8,D,ad,_,_⟩:=n.keep p
  exact h _ _ _ D ad b.len b.2)
end Go.Proofs.YtjdiakhipmggjaaGreatDoor

namespace Go.Hm
open Go.Kd
theorem Q6I (x:X0) (r:List X0):H9 (x::r)=x++Lib.joinTail [44] r:=by
 induction r generalizing x with
 | nil=>simp[H9,Lib.joinTail]
 | cons y r a=>
  simp only[H9]
  rw[a y]
  simp[Lib.joinTail]
theorem Q2t (xs:List X0):Lib.join xs [44]=H9 xs:=by
 cases xs with
 | nil=>rfl
 | cons x r=>rw[Lib.join_cons,Q6I]
theorem Rj: ∀xs:List X0,(∀x∈xs,x.length≤100)→(H9 xs).length≤xs.length*101
 | [],_=>by simp[H9]
 | [a],h=>by have:=h a (by simp);simp[H9];omega
 | a::b::r,h=>by
  have d:=h a (by simp)
  have e:=Rj (b::r) fun x c=>h x (by simp[c])
  simp only[H9,List.length_append,List.length_cons,List.length_nil,Nat.add_mul] at*
  omega
def NmM (m:Hm.Met):Prop:=m.result.length≤100∧ ∀p∈m.params,p.length≤100
end Go.Hm
namespace Go.Proofs.YtjdiakhipmggjaaGreatDoor
open Go.Emb Go.RowKit Go.Kd Go.Hm
variable {w : World} {K : Value → World → Prop} {σ : Q6} {v : Value} {l : List Cla}
theorem X2g {xs:List X0} {pv:Value} (C:X3 w σ) (D:Sl 1 U8 σ pv xs) (J:xs.length≤1000000) (E: ∀x∈xs,x.length≤100) (h: ∀w',Below w.heap.size w w'→K (S (H9 xs)) w'):Q1 P F.cP [pv,S [44]] w K:=by
 obtain ⟨a,k,rfl,L,O,B,H⟩:=D
 have t:=Rj xs E
 have z:xs.length*101≤1000000*101:=Nat.mul_le_mul_right _ J
 cases a with
 | none=>
  have Q:=B rfl
  have d:xs=[]:=List.eq_nil_of_length_eq_zero (by omega)
  subst d
  refine Ws (fn:=Tryz.f143) Tryz.func143 (by kernel_rfl) (by kernel_rfl) (Calls.mono (Tryz.strings_Join_none none k ⟨[44].toArray⟩ w) ?_)
  rintro e w' ⟨rfl,rfl⟩
  exact h _ (Below.refl _ _)
 | some b=>
  obtain ⟨f,q⟩:=H b rfl
  by_cases d:xs=[]
  ·subst d
   refine Ws (fn:=Tryz.f143) Tryz.func143 (by kernel_rfl) (by kernel_rfl) (Calls.mono (Tryz.strings_Join_none (some b) k ⟨[44].toArray⟩ w) ?_)
   rintro e w' ⟨rfl,rfl⟩
   exact h _ (Below.refl _ _)
  have f:=f (List.length_pos_iff.2 d)
  obtain ⟨m,o,R⟩:=b
  simp only at f
  subst f
  have c: ∀(j:Nat) (x:ByteArray),(xs.map fun s=>(⟨s.toArray⟩:ByteArray))[j]? =some x→w.cell? ⟨m,o+j,none⟩=some (.string x):=by
   intro j x n
   rw[List.getElem?_map] at n
   cases g:xs[j]? with
   | none=>rw[g] at n;cases n
   | some s=>
    rw[g] at n
    cases n
    obtain ⟨cs,N,U,A⟩:=q j s g
    obtain ⟨rfl,_⟩:=A
    have:=N.cell C (i:=0) (v:=S s) rfl
    rw[add_zero] at this
    have e:(⟨m,o,none⟩:Addr).add (j*1)=⟨m,o+j,none⟩:=by unfold Addr.add;split<;>simp_all
    rw[e] at this;exact this
  have p:m<w.heap.size:=by
   obtain ⟨x,r,rfl⟩: ∃x r,xs=x::r:=by cases xs with | nil=>exact absurd rfl d | cons x r=>exact ⟨x,r,rfl⟩
   have:=c 0 ⟨x.toArray⟩ (by simp)
   exact World.block_lt_of_cell? _ _ this
  have u:(xs.map fun s=>(⟨s.toArray⟩:ByteArray)).map (·.data.toList)=xs:=by rw[List.map_map];simp[Function.comp_def]
  have y:=Tryz.strings_Join m o k (xs.map fun s=>(⟨s.toArray⟩:ByteArray)) ⟨[44].toArray⟩ w c p (by rw[List.length_map];omega) (by rw[List.length_map];exact L) (by rw[u];show (Lib.join xs [44]).length≤_;rw[Q2t];omega)
  rw[u,List.length_map] at y
  refine Ws (fn:=Tryz.f143) Tryz.func143 (by kernel_rfl) (by kernel_rfl) (Calls.mono y ?_)
  rintro e w' ⟨rfl,M⟩
  have:=h w' M
  rw[←Q2t] at this
  exact this
theorem Q9V {m:Hm.Met} {cs:List Value} (o:X3 w σ) (p:E7 σ m cs) (d:SmM m) (i:NmM m) (h: ∀w' n,Stp w σ w' n→K (S (Qw m)) w'):Q1 P F.cg [.agg cs.toArray] w K:=Q6b (by
 obtain ⟨pv,N,D,rfl,r,L,s,B,A,M⟩:=p
 unfold Q0D
 refine Z1 o fun a w1 σ1 c k=>?_
 have q:=Rj m.params i.2
 have j:m.params.length*101≤1000000*101:=Nat.mul_le_mul_right _ d.1
 refine U0 c.sat ?_
 refine X4 (.pointer (some (a.add 1))) (fun w b=>by rw[fa];exact X6 rfl) ?_
 refine X4 (.pointer (some (a.add 2))) (fun w b=>by rw[fa];exact X6 rfl) ?_
 refine X4 pv (fun t w b e=>by rw[e];exact ld b.sat k rfl (X6 rfl)) ?_
 refine X4 (S (H9 m.params)) (fun t w b e=>by rw[e];exact X2g b.sat (r.up c) d.1 i.2 fun w' g=>Q35 g rfl) ?_
 refine X4 (S ([40]++H9 m.params)) (fun t w b e=>by rw[e];exact Rk (by simp only[List.length_cons,List.length_nil];omega) (X6 rfl)) ?_
 refine X4 (S ([40]++H9 m.params++[41])) (fun t w b e=>by rw[e];exact Rk (by simp only[List.length_append,List.length_cons,List.length_nil];omega) (X6 rfl)) ?_
 refine X4 (S m.result) (fun t w b e=>by rw[e];exact ld b.sat k rfl (X6 rfl)) ?_
 rintro C E u H J O y z f _ _ _ _ _ rfl rfl
 have:=i.1
 refine Rk (by simp only[List.length_append,List.length_cons,List.length_nil];omega) ?_
 exact h _ _ (c.trans f.stp))
end Go.Proofs.YtjdiakhipmggjaaGreatDoor

namespace Go.Emb
open Go.RowKit Go.Hm
variable {P : Program} {w w0 w1 w' w'' : World} {K : Value → World → Prop} {σ σ0 σ1 σ' : Q6}
theorem Is {α:Type} (f:α→α) (e:α): ∀l:List α,(l++[e]).modify l.length f=l++[f e]
 | []=>rfl
 | x::r=>by simp[Is f e r]
theorem Q0V (k:List UInt8) (e:MapEntry) (b:e.key=S k): ∀(a:List MapEntry) (i:Nat),Instr.findNow .string (S k) a i=some none→Instr.findNow .string (S k) (a++[e]) i=some (some (i+a.length,e.val))
 | [],i,_=>by
  simp[Instr.findNow,b,Instr.sameNow,Ev]
 | x::r,i,h=>by
  simp only[Instr.findNow,List.cons_append] at h⊢
  split at h
  ·cases h
  ·rename_i c
   rw[Q0V k e b r (i+1) h]
   simp;omega
  ·cases h
theorem Q2l (k:List UInt8) (u:Value): ∀(b:List MapEntry) (i j:Nat) (v:Value),Instr.findNow .string (S k) b i=some (some (j,v))→i≤j∧j-i<b.length∧Instr.findNow .string (S k) (b.modify (j-i) fun e=>{e with val:=u}) i=some (some (j,u))
 | [],i,j,v,h=>by simp[Instr.findNow] at h
 | x::r,i,j,v,h=>by
  simp only[Instr.findNow] at h
  split at h
  ·rename_i a
   cases h
   refine ⟨Nat.le_refl _,by simp,?_⟩
   simp only[Nat.sub_self,List.modify_zero_cons,Instr.findNow,a]
  ·rename_i a
   obtain ⟨d,f,c⟩:=Q2l k u r (i+1) j v h
   refine ⟨by omega,by simp;omega,?_⟩
   rw[show j-i=(j-(i+1))+1 by omega]
   simp only[List.modify_succ_cons,Instr.findNow,a]
   exact c
  ·cases h
theorem Vo {t n s:TypeId} [tm:TM P t n s] (p:P.underlying n=some .string) {r:Nat} {b:Array MapEntry} {a:Nat} {k:List UInt8} {i:Nat} {v:Value} {e:MapEntry} (o:w.heap[r]? =some (.map b a))
 (q:Instr.findNow .string (S k) b.toList 0=some (some (i,v))) (m:b[i]? =some e) (d:e.key=S k):
 (Instr.mapEntry t (.map (some r)) (S k)).run P w= .ok (.tuple #[v,goInt e.born]) {w with heap:=w.heap.setIfInBounds r (.map b a)}:=by
 have u:(getObj r).run P w= .ok (.map b a) w:=by simp[getObj,Sem.run,o]
 have c:(Instr.keyThatStays (S k) (S k)).run P w= .ok (S k) w:=by
  simp[Instr.keyThatStays,Instr.sameBits,Ev]
 have l:(b.modify i fun e=>{e with key:=S k})=b:=by
  apply Array.ext'
  apply List.ext_getElem?
  intro j
  simp only[Array.toList_modify,List.getElem?_modify]
  by_cases g:i=j
  ·subst g
   rw[Array.getElem?_toList,m]
   simp[←d]
  ·cases b.toList[j]? <;>simp[g]
 have f:(setObj r (.map b a)).run P w= .ok () {w with heap:=w.heap.setIfInBounds r (.map b a)}:=by
  simp[setObj,Sem.run,o]
 simp only[Instr.mapEntry,Sem.run_bind,run_underlying tm.h,Result.andThen_ok,Instr.findKey,run_underlying p,q,K2 p,u,Sem.run_pure]
 simp only[m,Option.map_some,Option.getD_some,d,c,Result.andThen_ok,l,f]
theorem Q2B {r:Nat} {o:Obj} (h:w.heap[r]? =some o):({w with heap:=w.heap.setIfInBounds r o}:World)=w:=by
 have:w.heap.setIfInBounds r o=w.heap:=by
  apply Array.ext'
  apply List.ext_getElem?
  intro j
  simp only[Array.toList_setIfInBounds,List.getElem?_set]
  by_cases a:r=j
  ·subst a
   rw[if_pos rfl]
   have:=h
   rw[←Array.getElem?_toList] at this
   rw[this,if_pos (by have:=(Array.getElem?_eq_some_iff.1 h).1;simpa using this)]
  ·rw[if_neg a]
 rw[this]
theorem Q48 {r:Nat} {o a:Obj} (h:w.heap[r]? =some a):Upd w r {w with heap:=w.heap.setIfInBounds r o}∧({w with heap:=w.heap.setIfInBounds r o}:World).heap[r]? =some o:=by
 have b:=(Array.getElem?_eq_some_iff.1 h).1
 exact ⟨⟨rfl,rfl,rfl,by simp,fun k c=>by simp only[Array.getElem?_setIfInBounds];rw[if_neg (by omega)]⟩,by simp[Array.getElem?_setIfInBounds,b]⟩
structure Ent3 (P : Program) (t : TypeId) (r : Nat) (k : List UInt8) (u : Value) (m : List (List UInt8 × Value)) (O0 O1 O2 : Obj) (stamp : Nat) : Prop where
  same : O0 = O2 → O1 = O0
  put : H2 (some O2) (Lb m k u)
  entry : ∀ {w : World} {K : Value → World → Prop}, (w.heap[r]? = some O0 ∨ w.heap[r]? = some O1 ∨ w.heap[r]? = some O2) → (∀ x w', Upd w r w' → (w.heap[r]? = some O0 → w'.heap[r]? = some O1) → (w.heap[r]? ≠ some O0 → w'.heap[r]? = w.heap[r]?) → K (.tuple #[x, I stamp]) w') → mapEntry P t (.map (some r)) (S k) w K
  store : ∀ {w : World} {K : Value → World → Prop}, (w.heap[r]? = some O1 ∨ w.heap[r]? = some O2) → (∀ w', Upd w r w' → w'.heap[r]? = some O2 → K undef w') → entryStore P t (.map (some r)) (I stamp) u w K
theorem X4u {t kt et:TypeId} {ae:Nat} {z:Value} [tm:TM P t kt et] [tz:TZ P et 1 ae z] (W:P.underlying kt=some .string) {r:Nat} {m:List (List UInt8×Value)} (hm:H2 (w.heap[r]?) m) (k:List UInt8) (u:Value):
 ∃O O1 O2 A,w.heap[r]? =some O∧Ent3 P t r k u m O O1 O2 A:=by
 obtain ⟨q,g,h1,h2,h3,Y⟩:=hm
 obtain ⟨r',q1,q2,q3,q4⟩:=Bo k q.toList m 0 h2
 -- the array behind it, the place, the stamp
 have R: ∀(f:Array MapEntry) (d i:Nat) (s:MapEntry) (v1:Value),Instr.findNow .string (S k) f.toList 0=some (some (i,v1))→f[i]? =some s→s.key=S k→(f.toList.map (·.born)).Pairwise (· < ·)→
  (Obj.map q g= .map (f.modify i fun e=>{e with val:=u}) d→Obj.map f d=Obj.map q g)→H2 (some (.map (f.modify i fun e=>{e with val:=u}) d)) (Lb m k u)→
  (∀{w:World},w.heap[r]? =some (.map q g)→ ∃x,(Instr.mapEntry t (.map (some r)) (S k)).run P w= .ok (.tuple #[x,I s.born]) {w with heap:=w.heap.setIfInBounds r (.map f d)})→
  ∃O O1 O2 A,w.heap[r]? =some O∧Ent3 P t r k u m O O1 O2 A:=by
  intro f d i s v1 f1 f2 f3 f4 f5 f6 f7
  obtain ⟨_,J,f8⟩:=Q2l k u f.toList 0 i v1 f1
  simp only[Nat.sub_zero] at J f8
  have a0:i<f.size:=by simpa using J
  have f9:(f.modify i fun e=>{e with val:=u})[i]? =some {s with val:=u}:=by
   rw[Array.getElem?_modify,if_pos rfl,f2];rfl
  have aw:Instr.findNow .string (S k) (f.modify i fun e=>{e with val:=u}).toList 0=some (some (i,u)):=by
   rw[Array.toList_modify];exact f8
  have L: ∀(l:Array MapEntry),l.toList.map (·.born)=f.toList.map (·.born)→l.findIdx? (fun e=>(e.born:Int)==s.born)=some i:=by
   intro l D
   obtain ⟨le⟩:=l
   have e0:(Array.mk le).findIdx? (fun e=>(e.born:Int)==s.born)=le.findIdx? (fun e=>(e.born:Int)==s.born):=List.findIdx?_toArray ..
   rw[e0,List.findIdx?_eq_some_iff_getElem]
   generalize Q:(Array.mk le)=l at*
   have an:le=l.toList:=by rw[←Q]
   subst an
   have ay:l.toList.length=f.toList.length:=by have:=congrArg List.length D;simpa using this
   have X: ∀j (Z:j<l.toList.length),(l.toList[j]).born=(f.toList[j]'(by omega)).born:=fun j Z=>by
    have h5:(l.toList.map (·.born))[j]? =(f.toList.map (·.born))[j]? :=by rw[D]
    rw[List.getElem?_map,List.getElem?_map,List.getElem?_eq_getElem Z,List.getElem?_eq_getElem (by omega)] at h5
    simpa using h5
   have V:f.toList[i]=s:=by
    have:=f2
    rw[←Array.getElem?_toList,List.getElem?_eq_getElem J] at this
    simpa using this
   refine ⟨by omega,by rw[X i (by omega),V];simp,fun j Z=>?_⟩
   have ax:j<f.toList.length:=by omega
   have:=(List.pairwise_iff_getElem.1 f4) j i (by simpa using ax) (by simpa using J) Z
   simp only[List.getElem_map] at this
   rw[X j (by omega)]
   rw[V] at this
   simp only[beq_iff_eq];omega
  have H:(f.modify i fun e=>{e with val:=u}).toList.map (·.born)=f.toList.map (·.born):=by
   apply List.ext_getElem?
   intro j
   simp only[Array.toList_modify,List.getElem?_map,List.getElem?_modify]
   by_cases M:i=j<;>cases f.toList[j]? <;>simp[M]
  have ag:(f.modify i fun e=>{e with val:=u}).modify i (fun e=>{e with val:=u})=f.modify i fun e=>{e with val:=u}:=by
   apply Array.ext'
   apply List.ext_getElem?
   intro j
   simp only[Array.toList_modify,List.getElem?_modify]
   by_cases M:i=j<;>cases f.toList[j]? <;>simp[M]
  have B: ∀(l:Array MapEntry) {w:World},l.toList.map (·.born)=f.toList.map (·.born)→w.heap[r]? =some (.map l d)→(Instr.entryStore t (.map (some r)) (I s.born) u).run P w= .ok () {w with heap:=w.heap.setIfInBounds r (.map (l.modify i fun e=>{e with val:=u}) d)}:=by
   intro l w D hw
   have hg:(getObj r).run P w= .ok (.map l d) w:=by simp[getObj,Sem.run,hw]
   have E: ∀o,(setObj r (.map o d)).run P w= .ok () {w with heap:=w.heap.setIfInBounds r (.map o d)}:=by
    intro o;simp[setObj,Sem.run,hw]
   simp only[Instr.entryStore,Sem.run_bind,hg,Result.andThen_ok,asInt,Sem.run_pure,asIntOf,L l D,E]
  refine ⟨.map q g, .map f d, .map (f.modify i fun e=>{e with val:=u}) d,s.born,h1,f5,f6,?_,?_⟩
  ·intro w K hw N
   unfold mapEntry
   rcases hw with hw | hw | hw
   ·obtain ⟨x,hx⟩:=f7 hw
    rw[Y0 hx]
    obtain ⟨u1,u2⟩:=Q48 (o:= .map f d) hw
    exact N x _ u1 (fun _=>u2) fun h=>absurd hw h
   ·have:=Vo (P:=P) (t:=t) W hw f1 f2 f3
    rw[Q2B hw] at this
    rw[Y0 this]
    refine N _ w ⟨rfl,rfl,rfl,rfl,fun _ _=>rfl⟩ (fun h0=>?_) fun _=>rfl
    exact hw
   ·have:=Vo (P:=P) (t:=t) W hw aw f9 f3
    rw[Q2B hw] at this
    rw[Y0 this]
    refine N _ w ⟨rfl,rfl,rfl,rfl,fun _ _=>rfl⟩ (fun h0=>?_) fun _=>rfl
    rw[h0] at hw
    cases hw
    rw[h0,f5 rfl]
  ·intro w K hw N
   unfold entryStore
   rcases hw with hw | hw
   ·rw[Lg (B f rfl hw)]
    obtain ⟨u1,u2⟩:=Q48 (o:= .map (f.modify i fun e=>{e with val:=u}) d) hw
    exact N _ u1 u2
   ·have:=B _ H hw
    rw[ag,Q2B hw] at this
    rw[Lg this]
    exact N _ ⟨rfl,rfl,rfl,rfl,fun _ _=>rfl⟩ hw
 cases r' with
 | none=>
  obtain ⟨i,hi,ba,bc,ak⟩:=tz.info
  have hz: ∀w:World,(zeroValue et).run P w= .ok z w:=fun w=>Zl tz w
  refine R (q.push {key:=S k,val:=z,born:=g}) (g+1) q.size {key:=S k,val:=z,born:=g} z ?_ (by simp) rfl ?_ ?_ ?_ ?_
  ·have:=Q0V k {key:=S k,val:=z,born:=g} rfl q.toList 0 q1
   simpa using this
  ·simp only[Array.toList_push,List.map_append,List.map_cons,List.map_nil]
   rw[List.pairwise_append]
   refine ⟨h3,by simp,?_⟩
   intro a ha b D
   simp at D;subst D
   obtain ⟨e,he,rfl⟩:=List.mem_map.1 ha
   exact Y e he
  ·intro e
   injection e with s e2
   omega
  ·refine ⟨_,_,rfl,?_,?_,?_⟩
   ·rw[q4 rfl]
    simp only[Array.toList_modify,Array.toList_push]
    rw[←Array.length_toList,Is]
    simp[h2]
   ·have:((q.push {key:=S k,val:=z,born:=g}).modify q.size fun e=>{e with val:=u}).toList.map (·.born)=q.toList.map (·.born)++[g]:=by
     simp only[Array.toList_modify,Array.toList_push]
     rw[←Array.length_toList,Is]
     simp
    rw[this,List.pairwise_append]
    refine ⟨h3,by simp,?_⟩
    intro a ha b D
    simp at D;subst D
    obtain ⟨e,he,rfl⟩:=List.mem_map.1 ha
    exact Y e he
   ·intro e he
    simp only[Array.toList_modify,Array.toList_push] at he
    rw[←Array.length_toList,Is] at he
    rcases List.mem_append.1 he with he | he
    ·have:=Y e he;omega
    ·simp at he;subst he;simp
  ·intro w hw
   have hg:(getObj r).run P w= .ok (.map q g) w:=by simp[getObj,Sem.run,hw]
   have E: ∀o c,(setObj r (.map o c)).run P w= .ok () {w with heap:=w.heap.setIfInBounds r (.map o c)}:=by
    intro o c;simp[setObj,Sem.run,hw]
   refine ⟨z,?_⟩
   simp only[Instr.mapEntry,Sem.run_bind,run_underlying tm.h,Result.andThen_ok,Instr.findKey,run_underlying W,q1,K2 W,hg,Sem.run_pure,hz,E]
   rfl
 | some p=>
  obtain ⟨j,v⟩:=p
  obtain ⟨z1,z2,z3⟩:=q3 j v rfl
  obtain ⟨e,s,e2⟩:=z2
  simp only[Nat.sub_zero] at s z3
  have U:q[j]? =some e:=by rw[←Array.getElem?_toList];exact s
  refine R q g j e v q1 U e2 h3 (fun _=>rfl) ?_ fun hw=>⟨v,Vo W hw q1 U e2⟩
  refine ⟨_,_,rfl,?_,?_,?_⟩
  ·have:=z3 u
   rw[←this,Array.toList_modify]
   congr 1
   apply List.ext_getElem?
   intro n
   simp only[List.getElem?_modify]
   by_cases C:j=n
   ·subst C;rw[s];simp[e2]
   ·simp[C]
  ·have:(q.modify j fun e=>{e with val:=u}).toList.map (·.born)=q.toList.map (·.born):=by
    apply List.ext_getElem?
    intro n
    simp only[Array.toList_modify,List.getElem?_map,List.getElem?_modify]
    by_cases C:j=n<;>cases q.toList[n]? <;>simp[C]
   rw[this];exact h3
  ·intro x hx
   have:x.born∈(q.modify j fun e=>{e with val:=u}).toList.map (·.born):=List.mem_map.2 ⟨x,hx,rfl⟩
   have D:(q.modify j fun e=>{e with val:=u}).toList.map (·.born)=q.toList.map (·.born):=by
    apply List.ext_getElem?
    intro n
    simp only[Array.toList_modify,List.getElem?_map,List.getElem?_modify]
    by_cases C:j=n<;>cases q.toList[n]? <;>simp[C]
   rw[D] at this
   obtain ⟨y,hy,e⟩:=List.mem_map.1 this
   rw[←e];exact Y y hy
end Go.Emb

namespace Go.Hm
open Go.Kd Go.Emb
abbrev B5:=List (X0×X0)
def C7:B5→X0→Option X0
 | [],_=>none
 | p::r,k=>if p.1=k then some p.2 else C7 r k
def Sc:B5→X0→X0→B5
 | [],k,v=>[(k,v)]
 | p::r,k,v=>if p.1=k then (k,v)::r else p::Sc r k v
def vals (m:B5):List (List UInt8×Value):=m.map fun p=>(p.1,S p.2)
theorem Q9r (m:B5) (k:X0):C6 (vals m) k=(C7 m k).map S:=by
 induction m with
 | nil=>rfl
 | cons p r a=>
  simp only[vals,List.map_cons,C6,C7]
  split
  ·rfl
  ·exact a
theorem Q68 (m:B5) (k v:X0):Lb (vals m) k (S v)=vals (Sc m k v):=by
 induction m with
 | nil=>rfl
 | cons p r a=>
  simp only[vals,List.map_cons,Lb,Sc]
  split
  ·rfl
  ·rw[List.map_cons];congr 1
theorem Q1g (m:B5) (k v n:X0):C7 (Sc m k v) n=if k=n then some v else C7 m n:=by
 induction m with
 | nil=>simp[Sc,C7]
 | cons p r b=>
  simp only[Sc]
  by_cases h:p.1=k
  ·rw[if_pos h]
   simp only[C7]
   by_cases a:k=n
   ·simp[a]
   ·rw[if_neg a,if_neg a,if_neg (by rw[h];exact a)]
  ·rw[if_neg h]
   simp only[C7]
   by_cases a:p.1=n
   ·rw[if_pos a,if_pos a,if_neg (by intro e;exact h (a.trans e.symm))]
   ·rw[if_neg a,if_neg a];exact b
def Vm (d:X0) (s:B5×B5) (m:Hm.Met):Bool×(B5×B5):=
 ((match C7 s.1 m.name with | some x=> !decide (x=Qw m) | none=>false),(Sc s.1 m.name (Qw m),Sc s.2 m.name d))
end Go.Hm
namespace Go.Emb
open Go.RowKit Go.Hm
theorem H2.of_below {w w':World} {r:Nat} {m:List (List UInt8×Value)} (h:H2 (w.heap[r]?) m) (e:Below w.heap.size w w'):H2 (w'.heap[r]?) m:=by
 obtain ⟨c,a,b,d⟩:=h
 rw[e.block r (Array.getElem?_eq_some_iff.1 b).1]
 exact ⟨c,a,b,d⟩
theorem Q97 {P:Program} {w:World} {K:Value→World→Prop} {t c b:TypeId} {sz a:Nat} {z:Value} [tm:TM P t c b] [tz:TZ P b sz a z] (d:P.underlying c=some .string) {r:Nat} {m:List (List UInt8×Value)} (f:H2 (w.heap[r]?) m) (k:List UInt8)
 (h:K (.tuple #[(C6 m k).getD z, .bool (C6 m k).isSome]) w):lookup P t (.map (some r)) (S k) true w K:=by
 rw[Q2P d f k];cases e:C6 m k<;>rw[e] at h<;>exact h
theorem H2.lt {w:World} {r:Nat} {m:List (List UInt8×Value)} (h:H2 (w.heap[r]?) m):r<w.heap.size:=by
 obtain ⟨c,a,b,d⟩:=h
 exact (Array.getElem?_eq_some_iff.1 b).1
end Go.Emb
namespace Go.Proofs.YtjdiakhipmggjaaGreatDoor
open Go.Emb Go.RowKit Go.Kd Go.Hm
variable {w : World} {K : Value → World → Prop} {σ : Q6} {v : Value} {l : List Cla}
theorem X4m {m:Hm.Met} {cs ds:List Value} {pa pb q:Addr} {b o:Nat} {s:B5×B5} {d:X0} (hs:X3 w σ) (hm:E7 σ m cs) (ac:SmM m) (hn:NmM m) (Y:Z6 σ pa [.map (some b)]) (ax:Z6 σ pb [.map (some o)]) (hq:Z6 σ q (S d::ds))
 (aj:σ b=none) (ae:σ o=none) (ab:b≠o) (p:H2 (w.heap[b]?) (vals s.1)) (y:H2 (w.heap[o]?) (vals s.2))
 (h: ∀w',Kpt (fun k=>k=b∨k=o) w w'→H2 (w'.heap[b]?) (vals (Vm d s m).2.1)→H2 (w'.heap[o]?) (vals (Vm d s m).2.2)→K (.bool (Vm d s m).1) w'):
 Q1 P F.aL [.agg cs.toArray, .pointer (some pa), .pointer (some q), .pointer (some pb)] w K:=Hp (by
 have X:=hm
 obtain ⟨pv,cv,hv,rfl,g1,g2,g3,g4,g5,g6⟩:=hm
 unfold Ze
 refine Z1 hs fun a w1 σ1 f W=>?_
 have aq:=p.lt
 have av:=y.lt
 have p:=p.of_below f.bel
 have y:=y.of_below f.bel
 have V:σ1 b=none:=(f.old b aq).trans aj
 have H:σ1 o=none:=(f.old o av).trans ae
 refine X7 f.sat (Y.up f) rfl ?_
 rw[fa]
 refine ld f.sat W rfl ?_
 refine Q97 X8 p m.name ?_
 have ak:(.tuple #[(C6 (vals s.1) m.name).getD (.string ⟨#[]⟩), .bool (C6 (vals s.1) m.name).isSome]:Value)= .tuple #[S ((C7 s.1 m.name).getD []), .bool (C7 s.1 m.name).isSome]:=by
  rw[Q9r];cases C7 s.1 m.name<;>rfl
 rw[ak]
 refine J4 (vs:=[_,_]) rfl ?_
 refine J4 (vs:=[_,_]) rfl ?_
 obtain ⟨L,N,z,r,al,E⟩:=X4u (P:=P) (t:=T.w) X8 p m.name (S (Qw m))
 have aa:=p.lt
 refine Ph (fun c i=>Kpt (fun k=>k=b) c i∧(i.heap[b]? =c.heap[b]? ∨(c.heap[b]? =some L∧L≠z∧i.heap[b]? =some N)∨i.heap[b]? =some z))
  (fun c=>Kpt (fun k=>k=b) w1 c∧X3 c σ1∧(c.heap[b]? =some L∨c.heap[b]? =some N∨c.heap[b]? =some z))
  ⟨.of_below (Below.refl _ _).drew,f.sat.below (Below.refl _ _).drew, .inl al⟩ (fun c i g B=>⟨g.1.trans B.1,B.1.sat g.2.1 (fun k hk=>hk▸V),by
   rcases B.2 with e | ⟨_,_,e⟩ | e
   ·rw[e];exact g.2.2
   ·exact .inr (.inl e)
   ·exact .inr (.inr e)⟩) ?_
 refine X4 (.pointer (some (a.add 0))) (fun w g=>by rw[fa];exact ⟨⟨Kpt.refl, .inl rfl⟩,rfl⟩) ?_
 refine X4 (.pointer (some (a.add 0))) (fun w g=>by rw[fa];exact ⟨⟨Kpt.refl, .inl rfl⟩,rfl⟩) ?_
 refine X4 (.pointer (some (q.add 0))) (fun w g=>by rw[fa];exact ⟨⟨Kpt.refl, .inl rfl⟩,rfl⟩) ?_
 refine X4 (.map (some b)) (fun w g=>X7 g.2.1 (Y.up f) rfl ⟨⟨Kpt.refl, .inl rfl⟩,rfl⟩) ?_
 refine X4 (S m.name) (fun t w g e=>by rw[e];exact ld g.2.1 W rfl ⟨⟨Kpt.refl, .inl rfl⟩,rfl⟩) ?_
 refine X4 (.map (some o)) (fun w g=>X7 g.2.1 (ax.up f) rfl ⟨⟨Kpt.refl, .inl rfl⟩,rfl⟩) ?_
 refine X4 (S m.name) (fun t w g e=>by rw[e];exact ld g.2.1 W rfl ⟨⟨Kpt.refl, .inl rfl⟩,rfl⟩) ?_
 refine X4 (.agg [S m.name,pv,S m.result, .bool m.abs,I m.locals,cv,hv].toArray) (fun w g=>Y4 g.2.1 W rfl ⟨⟨Kpt.refl, .inl rfl⟩,rfl⟩) ?_
 refine X4 (S (Qw m)) (fun t c g e=>by
  rw[e]
  exact Q9V g.2.1 (RMe_lift X ⟨f.le⟩) ac hn fun i σ3 A=>⟨⟨.of_below A.bel, .inl (A.bel.block b (Nat.lt_of_lt_of_le aa g.1.size))⟩,rfl⟩) ?_
 refine X4 (S d) (fun t w g e=>by rw[e];exact ld g.2.1 (hq.up f) rfl ⟨⟨Kpt.refl, .inl rfl⟩,rfl⟩) ?_
 have st: ∀{c i:World},(c.heap[b]? =some N∨c.heap[b]? =some z)→(i.heap[b]? =c.heap[b]? ∨(c.heap[b]? =some L∧L≠z∧i.heap[b]? =some N)∨i.heap[b]? =some z)→(i.heap[b]? =some N∨i.heap[b]? =some z):=by
  intro c i j h2
  rcases h2 with e | ⟨_,_,e⟩ | e
  ·rw[e];exact j
  ·exact .inl e
  ·exact .inr e
 refine E8 (fun u c=>(∃x,u= .tuple #[x,I r])∧(c.heap[b]? =some N∨c.heap[b]? =some z)) (fun u c i j B=>⟨j.1,st j.2 B.2⟩) (fun R ao c g e1 e2=>?_) ?_
 ·rw[e1,e2]
  refine E.entry g.2.2 fun x i n ay am=>?_
  by_cases Q:c.heap[b]? =some L
  ·have j:=ay Q
   refine ⟨⟨Kpt.of_upd n rfl,?_⟩,⟨x,rfl⟩, .inl j⟩
   by_cases C:L=z
   ·left;rw[j,Q,E.same C]
   ·exact .inr (.inl ⟨Q,C,j⟩)
  ·have j:=am Q
   refine ⟨⟨Kpt.of_upd n rfl, .inl j⟩,⟨x,rfl⟩,?_⟩
   rw[j];exact g.2.2.resolve_left Q
 refine E8 (fun u c=>u=I r∧(c.heap[b]? =some N∨c.heap[b]? =some z)) (fun u c i j B=>⟨j.1,st j.2 B.2⟩) (fun t c g e=>?_) ?_
 ·obtain ⟨⟨x,rfl⟩,j⟩:=e
  exact J4 (vs:=[_,_]) rfl ⟨⟨Kpt.refl, .inl rfl⟩,rfl,j⟩
 refine E8 (fun _ c=>c.heap[b]? =some z) (fun u c i j B=>?_) (fun R an ag c g e1 e2 e3=>?_) ?_
 ·rcases B.2 with e | ⟨e,C,_⟩ | e
  ·exact e.trans j
  ·rw[j] at e;cases e;exact absurd rfl C
  ·exact e
 ·rw[e1,e3,e2.1]
  refine E.store e2.2 fun i n h3=>⟨⟨Kpt.of_upd n rfl, .inr (.inr h3)⟩,h3⟩
 rintro bk a7 be R ao a9 bh ba ag bi bd an bb c M _ _ _ _ _ rfl rfl _ _ rfl _ _ ah
 have ar:H2 (c.heap[b]?) (vals (Sc s.1 m.name (Qw m))):=by
  rw[ah,←Q68];exact E.put
 have ap:H2 (c.heap[o]?) (vals s.2):=by
  rw[M.1.block o y.lt fun e=>ab e.symm];exact y
 refine Pv X8 ⟨H,ap⟩ m.name (S d) fun i n ai=>?_
 have Z:H2 (i.heap[o]?) (vals (Sc s.2 m.name d)):=by rw[←Q68];exact ai.2
 have J:H2 (i.heap[b]?) (vals (Sc s.1 m.name (Qw m))):=by rw[n.block b ab];exact ar
 have A:Kpt (fun k=>k=b∨k=o) w i:=((Kpt.of_below f.bel).trans (M.1.mono fun k _ h=> .inl h)).trans (Kpt.of_upd n (.inr rfl))
 have U:X3 i σ1:=(Kpt.of_upd (D:=fun k=>k=o) n rfl).sat M.2.1 fun k hk=>hk▸H
 unfold Vm at h
 cases ho:C7 s.1 m.name with
 | none=>
  rw[ho] at h
  simp only[Option.isSome_none,↓M2,M2,Mb,reduceIte]
  exact h i A J Z
 | some x=>
  rw[ho] at h
  simp only[Option.isSome_some,Option.getD_some,↓M2,M2,Mb,reduceIte]
  refine Y4 U W rfl ?_
  refine Q9V U (RMe_lift X ⟨f.le⟩) ac hn fun w4 σ4 O=>?_
  simp only[↓M2,M2,Mb,reduceIte]
  exact h w4 (A.trans (Kpt.of_below O.bel)) (J.of_below O.bel) (Z.of_below O.bel))
end Go.Proofs.YtjdiakhipmggjaaGreatDoor

namespace Go.Hm
open Go.Kd Go.Emb
def Sb (s:B5×B5) (c:Cla):Bool×(B5×B5):=((J6 (Vm c.name) s c.methods 0).1.isSome,(J6 (Vm c.name) s c.methods 0).2)
def Rd (a:List Hm.Met):Prop:= ∃x∈a,∃y∈a,x.name=y.name∧Qw x≠Qw y
theorem Q4m (a:List Hm.Met):Nt a=true↔Rd a:=by
 simp[Nt,Rd]
structure Gd (pre : List Hm.Met) (s : B5 × B5) : Prop where
  a : ∀ m ∈ pre, C7 s.1 m.name = some (Qw m)
  b : ∀ k x, C7 s.1 k = some x → ∃ m ∈ pre, m.name = k ∧ Qw m = x
  c : ∀ k, (C7 s.2 k).isSome = true ↔ ∃ m ∈ pre, m.name = k
theorem Gd.no {b:List Hm.Met} {s:B5×B5} (h:Gd b s): ¬Rd b:=by
 rintro ⟨x,e,y,f,g,d⟩
 have c:=h.a x e
 have i:=h.a y f
 rw[g,i] at c
 exact d (Option.some.inj c).symm
theorem Gd.step {g:List Hm.Met} {s:B5×B5} (h:Gd g s) (d:X0) (m:Hm.Met):((Vm d s m).1=true→Rd (g++[m]))∧((Vm d s m).1=false→Gd (g++[m]) (Vm d s m).2):=by
 unfold Vm
 constructor
 ·intro i
  cases o:C7 s.1 m.name with
  | none=>rw[o] at i;cases i
  | some x=>
   rw[o] at i
   obtain ⟨y,hy,f,p⟩:=h.b _ _ o
   exact ⟨y,by simp[hy],m,by simp,f,by rw[p];simpa using i⟩
 ·intro i
  have n: ∀x,C7 s.1 m.name=some x→x=Qw m:=fun x j=>by rw[j] at i;simpa using i
  refine ⟨fun y hy=>?_,fun k x j=>?_,fun k=>?_⟩
  ·simp only[Q1g]
   rcases List.mem_append.1 hy with hy | hy
   ·have:=h.a y hy
    by_cases e:m.name=y.name
    ·rw[if_pos e];congr 1;exact (n _ (by rw[e];exact this)).symm
    ·rw[if_neg e];exact this
   ·simp at hy;subst hy;simp
  ·simp only[Q1g] at j
   by_cases e:m.name=k
   ·rw[if_pos e] at j;cases j;exact ⟨m,by simp,e,rfl⟩
   ·rw[if_neg e] at j
    obtain ⟨y,hy,f⟩:=h.b _ _ j
    exact ⟨y,by simp[hy],f⟩
  ·simp only[Q1g]
   by_cases e:m.name=k
   ·rw[if_pos e];exact ⟨fun _=>⟨m,by simp,e⟩,fun _=>rfl⟩
   ·rw[if_neg e,h.c k]
    constructor
    ·rintro ⟨y,hy,f⟩;exact ⟨y,by simp[hy],f⟩
    ·rintro ⟨y,hy,f⟩
     rcases List.mem_append.1 hy with hy | hy
     ·exact ⟨y,hy,f⟩
     ·simp at hy;subst hy;exact absurd f e
theorem Rd.mono {a b:List Hm.Met} (h:Rd a) (c: ∀x∈a,x∈b):Rd b:=by
 obtain ⟨x,d,y,f,e⟩:=h
 exact ⟨x,c x d,y,c y f,e⟩
theorem Q3D (d:X0): ∀(b a:List Hm.Met) (s:B5×B5) (i:Nat),Gd a s→((J6 (Vm d) s b i).1.isSome=true→Rd (a++b))∧((J6 (Vm d) s b i).1.isSome=false→Gd (a++b) (J6 (Vm d) s b i).2)
 | [],a,s,i,h=>by simpa [J6] using h
 | m::r,a,s,i,h=>by
  obtain ⟨g,j⟩:=h.step d m
  simp only[J6]
  cases c:(Vm d s m).1 with
  | true=>
   simp only[if_true,Option.isSome_some]
   exact ⟨fun _=>(g c).mono fun x f=>by simp at f⊢;rcases f with h | h<;>simp[h],fun e=>by cases e⟩
  | false=>
   simp only[Bool.false_eq_true,if_false]
   have:=Q3D d r (a++[m]) (Vm d s m).2 (i+1) (j c)
   rw[show a++m::r=(a++[m])++r by simp]
   exact this
theorem Q3w: ∀(cs:List Cla) (a:List Hm.Met) (s:B5×B5) (i:Nat),Gd a s→((J6 Sb s cs i).1.isSome=true→Rd (a++cs.flatMap (·.methods)))∧((J6 Sb s cs i).1.isSome=false→Gd (a++cs.flatMap (·.methods)) (J6 Sb s cs i).2)
 | [],a,s,i,h=>by simpa [J6] using h
 | c::r,a,s,i,h=>by
  obtain ⟨d,f⟩:=Q3D c.name c.methods a s 0 h
  simp only[J6]
  cases b:(Sb s c).1 with
  | true=>
   simp only[if_true,Option.isSome_some]
   exact ⟨fun _=>(d b).mono (by simp;intro x hx;rcases hx with hx | hx;exact .inl hx;exact .inr (.inl hx)),fun e=>by cases e⟩
  | false=>
   simp only[Bool.false_eq_true,if_false]
   have:=Q3w r (a++c.methods) (Sb s c).2 (i+1) (f b)
   rw[List.flatMap_cons,←List.append_assoc]
   exact this
theorem X3G:Gd [] ([],[]):=⟨by simp,by simp[C7],by simp[C7]⟩
theorem Q8S (l:List Cla) (n:X0):Lk l n=(Mf l n).flatMap (·.methods):=by
 unfold Lk Mf
 induction G5 l n with
 | nil=>rfl
 | cons u r a=>
  rw[List.flatMap_cons,List.filterMap_cons]
  cases b:lk l u with
  | none=>simpa [b] using a
  | some c=>simp only[Option.map_some,Option.getD_some,List.flatMap_cons];rw[a]
end Go.Hm
namespace Go.Emb
open Go.RowKit Go.Hm
variable {P : Program} {w w0 w1 w' w'' : World} {K : Value → World → Prop} {σ σ0 σ1 σ' : Q6}
def It (σ:Q6) (w:World) (b r:Nat) (d:Array MapEntry) (a:Nat) (c:Array Nat):Prop:=σ b=none∧ ∃c0,a≤c0∧w.heap[b]? =some (.mapIter (some r) a c c0)
theorem It.step {b r:Nat} {e:Array MapEntry} {a:Nat} {c:Array Nat} (h:It σ w b r e a c) (k:Stp w σ w' σ'):It σ' w' b r e a c:=by
 obtain ⟨g,c0,i,d⟩:=h
 have f:=(Array.getElem?_eq_some_iff.1 d).1
 exact ⟨(k.old b f).trans g,c0,i,(k.bel.block b f).trans d⟩
theorem X42 {t g e:TypeId} [tm:TM P t g e] {r:Nat} {c:Array MapEntry} {a:Nat} (d:X3 w σ) (i:w.heap[r]? =some (.map c a))
 (h: ∀b w' σ',w.heap.size≤b→Stp w σ w' σ'→It σ' w' b r c a #[]→K (.pointer (some ⟨b,0,none⟩)) w'):rng P t (.map (some r)) w K:=by
 unfold rng
 have f:(getObj r).run P w= .ok (.map c a) w:=by simp[getObj,Sem.run,i]
 rw[Y0 (v:= .pointer (some ⟨w.heap.size,0,none⟩)) (w':=w.alloc (.mapIter (some r) a #[] a)) (by
  simp only[Instr.range,Sem.run_bind,run_underlying tm.h,Result.andThen_ok,f,Sem.run_pure]
  simp)]
 exact h _ _ _ (Nat.le_refl _) (Stp.own d _) ⟨d.none (Nat.le_refl _),a,Nat.le_refl _,heap_alloc_new w _⟩
theorem X3T {t:TypeId} {b r:Nat} {es:Array MapEntry} {clock:Nat} {seen:Array Nat} (hi:It σ w b r es clock seen) (hm:w.heap[r]? =some (.map es clock)) (hold: ∀x∈es.toList,x.born<clock)
 (h0:(∀e∈es.toList,e.born∈seen)→K (.tuple #[.bool false]) w)
 (h1: ∀e w',e∈es.toList→e.born∉seen→Kpt (fun k=>k=b) w w'→It σ w' b r es clock (seen.push e.born)→w'.heap[b]? =some (.mapIter (some r) clock (seen.push e.born) clock)→K (.tuple #[.bool true,e.key,e.val]) w'):V1 P (.pointer (some ⟨b,0,none⟩)) false t w K:=by
 obtain ⟨hb,c0,hc,hh⟩:=hi
 unfold V1
 rcases run_next_at (P:=P) w t b r clock c0 seen es clock hh hm hold hc with ⟨hz,hrun⟩ | ⟨e,he,w1,hw1,hrun⟩
 ·rw[Y0 hrun]
  refine h0 fun e he=>Classical.byContradiction fun hn=>?_
  have:e∈(leftOf es seen).toList:=by
   unfold leftOf
   simp only[Array.toList_filter,List.mem_filter]
   exact ⟨he,by simpa using hn⟩
  have hl:(leftOf es seen).toList.length=0:=by simpa using hz
  rw[List.eq_nil_of_length_eq_zero hl] at this
  cases this
 ·rw[Y0 hrun]
  have he':e∈es.toList∧e.born∉seen:=by
   unfold leftOf at he
   simp only[Array.toList_filter,List.mem_filter] at he
   exact ⟨he.1,by simpa using he.2⟩
  have hh1:w1.heap[b]? =some (.mapIter (some r) clock seen c0):=by rcases hw1 with rfl | rfl<;>exact hh
  obtain ⟨u1,u2⟩:=Q48 (w:=w1) (o:= .mapIter (some r) clock (seen.push e.born) clock) hh1
  refine h1 e _ he'.1 he'.2 ?_ ⟨hb,clock,Nat.le_refl _,u2⟩ u2
  have k1:Kpt (fun k=>k=b) w w1:=by
   rcases hw1 with rfl | rfl
   ·exact Kpt.refl
   ·exact .of_below (Below.refl _ _).drew
  exact k1.trans (Kpt.of_upd u1 rfl)
theorem X3o {b r:Nat} {d:Array MapEntry} {a:Nat} {c:Array Nat} {e:MapEntry} (hh:w.heap[b]? =some (.mapIter (some r) a (c.push e.born) a)) (i:w.heap[r]? =some (.map d a)) (g:e∈d.toList) (f:(d.toList.map (·.born)).Nodup)
 (h:K (.tuple #[e.key,e.val]) w):Q8l P (.pointer (some ⟨b,0,none⟩)) w K:=by
 unfold Q8l
 rw[Y0 (run_entry_at w b r a c d a e hh i g f)]
 exact h
end Go.Emb
namespace Go.Proofs.YtjdiakhipmggjaaGreatDoor
open Go.Emb Go.RowKit Go.Kd Go.Hm
variable {w : World} {K : Value → World → Prop} {σ : Q6} {v : Value} {l : List Cla}
theorem A5 (o:Option Nat):decide ((0:Int)≤L6 o)=o.isSome:=by
 cases o with
 | none=>rfl
 | some i=>simp[L6]
theorem Q3M {q:Addr} {s:X0} (b:X3 w σ) (f:Tab σ v l) (d:Z6 σ q [v]) (g:s.length≤U2) (h: ∀w' σ',Stp w σ w' σ'→K (.bool (O8 l s)) w'):Z4 P (.func (.func F.al) #[] #[.pointer (some q)]) [S s] w K:=Z8 (Cg (by
 unfold Ur
 unfold O8 at h
 refine Jh ?_
 by_cases a:s=H8
 ·have e:decide (s=[110,117,108,108])=true:=decide_eq_true a
  simp only[e,decide_eq_true a,↓M2,M2,Mb,reduceIte] at h⊢
  exact h _ _ (Stp.refl b)
 ·have e:decide (s=[110,117,108,108])=false:=decide_eq_false a
  simp only[e,decide_eq_false a,↓M2,M2,Mb,reduceIte] at h⊢
  refine X7 b d rfl ?_
  refine Q1n b f g fun w1 σ1 c=>?_
  (try simp only[↓M2,M2,Mb,reduceIte])
  exact h _ _ c))
theorem Q8G {q p:Addr} {s:X0} (b:X3 w σ) (d:Tab σ v l) (c:Z6 σ q [v]) (f:Z6 σ p [.func (.func F.al) #[] #[.pointer (some q)]]) (e:s.length≤U2) (h: ∀w' σ',Stp w σ w' σ'→K (.bool (!O8 l s)) w'):Z4 P (.func (.func F.am) #[] #[.pointer (some p)]) [S s] w K:=Z8 (Sq (by
 unfold Un
 refine X7 b f rfl ?_
 refine Q3M b d c e fun w1 σ1 a=>?_
 refine Jj ?_
 exact h _ _ a))
theorem Q74 {c:Cla} {cs:List Value} {pa H:Addr} {b e:Nat} {s:B5×B5} (M:X3 w σ) (U:U9 σ c cs) (B:Qs c) (X:Nm c) (p:Z6 σ pa [.map (some b)]) (z:Z6 σ H [.map (some e)])
 (y:σ b=none) (r:σ e=none) (A:b≠e) (n:H2 (w.heap[b]?) (vals s.1)) (o:H2 (w.heap[e]?) (vals s.2))
 (h: ∀w',Kpt (fun k=>k=b∨k=e) w w'→H2 (w'.heap[b]?) (vals (Sb s c).2.1)∧H2 (w'.heap[e]?) (vals (Sb s c).2.2)→K (.bool (Sb s c).1) w'):
 Z4 P (.func (.func F.aZ) #[] #[.pointer (some pa), .pointer (some H)]) [.agg cs.toArray] w K:=Z8 (Si (by
 obtain ⟨lv,Y,mv,rfl,g1,g2,L,g4,Z⟩:=U
 unfold Uq
 refine Z1 M fun q w1 σ1 a E=>?_
 rw[fa]
 refine ld a.sat E rfl ?_
 rw[Qi]
 have t:=n.lt
 have u:=o.lt
 have m:σ1 b=none:=(a.old b t).trans y
 have i:σ1 e=none:=(a.old e u).trans r
 refine Ja (Vm c.name) s (fun s w'=>X3 w' σ1∧H2 (w'.heap[b]?) (vals s.1)∧H2 (w'.heap[e]?) (vals s.2)) (fun k=>k=b∨k=e) (fun _ _ h=>h.1) ⟨a.sat,n.of_below a.bel,o.of_below a.bel⟩ (L.up a)
  (fun s x cs D K J f g R C Q=>Z8 ?_) fun D f g=>?_
 ·refine X4m (s:=s) (d:=c.name) g.1 R (B.2.2.2 x J) (X.2.2 x J) (p.up a) (z.up a) E m i A g.2.1 g.2.2 fun N j O W=>?_
  exact Q N (f.trans j) ⟨j.sat g.1 fun k V=>by rcases V with rfl | rfl<;>assumption,O,W⟩
 ·exact h D ((Kpt.of_below a.bel).trans f) g.2))
end Go.Proofs.YtjdiakhipmggjaaGreatDoor

namespace Go.Emb
open Go.RowKit Go.Hm
theorem Stp.nx {D:Nat→Prop} {w w1 g:World} {σ σ1 f:Q6} (a:Stp w σ w1 σ1) (c:Nxt D w1 σ1 g f) (hD: ∀k,D k→w.heap.size≤k):Stp w σ g f:=
 ⟨⟨c.kp.os.trans a.bel.os,c.kp.tape.trans a.bel.tape,c.kp.output.trans a.bel.output,Nat.le_trans a.bel.size c.kp.size,fun k d=>(c.kp.block k (Nat.lt_of_lt_of_le d a.bel.size) fun e=>by have:=hD k e;omega).trans (a.bel.block k d)⟩,
  c.sat,fun b o e=>c.le.le b o (a.le b o e),fun k d=>(c.old k (Nat.lt_of_lt_of_le d a.bel.size)).trans (a.old k d)⟩
end Go.Emb
namespace Go.Hm
open Go.Kd Go.Emb
theorem X2B {d:Array MapEntry} {m:B5} (h:d.toList.map (fun e=>(e.key,e.val))=(vals m).map (fun p=>(S p.1,p.2))):
 (∀e∈d.toList,∃k,e.key=S k∧(C7 m k).isSome=true)∧ ∀k,(C7 m k).isSome=true→ ∃e∈d.toList,e.key=S k:=by
 have c: ∀(m:B5) k,(C7 m k).isSome=true↔k∈m.map (·.1):=by
  intro m
  induction m with
  | nil=>intro k;simp[C7]
  | cons p r i=>
   intro k
   simp only[C7,List.map_cons,List.mem_cons]
   by_cases e:p.1=k
   ·simp[e]
   ·rw[if_neg e,i k]
    constructor
    ·exact .inr
    ·rintro (h | h)
     ·exact absurd h.symm e
     ·exact h
 constructor
 ·intro e g
  have a:(e.key,e.val)∈d.toList.map (fun e=>(e.key,e.val)):=List.mem_map.2 ⟨e,g,rfl⟩
  rw[h] at a
  obtain ⟨p,j,b⟩:=List.mem_map.1 a
  obtain ⟨q,f,rfl⟩:=List.mem_map.1 j
  simp only[Prod.mk.injEq] at b
  exact ⟨q.1,b.1.symm,(c m _).2 (List.mem_map.2 ⟨q,f,rfl⟩)⟩
 ·intro k n
  obtain ⟨q,f,rfl⟩:=List.mem_map.1 ((c m k).1 n)
  have a:(S q.1,S q.2)∈(vals m).map (fun p=>(S p.1,p.2)):=List.mem_map.2 ⟨(q.1,S q.2),List.mem_map.2 ⟨q,f,rfl⟩,rfl⟩
  rw[←h] at a
  obtain ⟨e,g,b⟩:=List.mem_map.1 a
  simp only[Prod.mk.injEq] at b
  exact ⟨e,g,b.1⟩
def Ez (l:List Cla) (m:Hm.Met):Bool:=(!O8 l m.result&& !decide (m.result=[]))||m.params.any fun s=> !O8 l s
end Go.Hm
namespace Go.Proofs.YtjdiakhipmggjaaGreatDoor
open Go.Emb Go.RowKit Go.Kd Go.Hm
variable {w : World} {K : Value → World → Prop} {σ : Q6} {v : Value} {l : List Cla}
set_option maxHeartbeats 1000000 in
theorem Q9u {c:Cla} {cs:List Value} (hs:X3 w σ) (ht:Tab σ v l) (ok:Ok l) (hc:U9 σ c cs) (fh:Qs c) (hn:Nm c) (h: ∀w' W,Stp w σ w' W→K (I (V9 l c)) w'):Q1 P F.b5 [v, .agg cs.toArray] w K:=Fm (by
 obtain ⟨lv,fv,mv,rfl,g1,g2,g3,g4,g5⟩:=hc
 unfold Vy
 obtain ⟨a,_,_,_,hv,_⟩:=ht.ex
 unfold V9 at h
 refine U6 hs (by rw[hv];rfl) fun q2 w1 σ1 a1 y=>?_
 refine Z1 a1.sat fun q3 w2 σ2 ar A=>?_
 have dx:=a1.trans ar
 have y:=y.up ar
 have g1:=(g1.up a1).up ar
 have g2:=(g2.up a1).up ar
 have g3:=(g3.up a1).up ar
 have bc:=g2.max
 have ci:=g3.max
 rw[fa]
 refine ld ar.sat A rfl ?_
 refine Q8 g2 ?_
 refine U3 c.fields.length (fun n w'=> ∃W,Stp w σ w' W∧SLe σ2 W∧((c.fields.take n).any fun f=>(Ju l c.super f.name).isSome)=false) ⟨σ2,dx,SLe.refl _,by simp⟩ fun n w3 d a4 aj=>?_
 obtain ⟨σ3,a7,ck,E⟩:=aj
 refine Y9 ?_
 refine Q7 (fun hh=>?_) (fun hh=>?_)
 ·have g:n<c.fields.length:=by simpa using hh
  refine Q9x (g2.lift ck) g fun p aw Z=>?_
  refine Y4 a7.sat aw rfl ?_
  refine Y8 a7.sat (by rfl) rfl (Rep.one Z) fun q4 w4 σ4 V d1=>?_
  have ac:SLe σ2 σ4:=ck.more ⟨V.le⟩
  have a3:=a7.trans V
  refine X7 V.sat (y.lift ac) rfl ?_
  rw[fa]
  refine ld V.sat (A.lift ac) rfl ?_
  rw[fa]
  refine ld V.sat d1 rfl ?_
  refine X2f V.sat (ht.lift ⟨a3.le⟩) ok.acy ok.len ok.sm fun w5 σ5 cd=>?_
  refine P7 ?_
  rw[A5]
  refine Q7 (fun ak=>?_) (fun ak=>?_)
  ·have:Yx l c=true:=C0 g ak
   rw[if_pos this] at h
   exact h _ _ (a3.trans cd)
  ·refine N3 ?_
   refine Y5 bc g ⟨σ5,a3.trans cd,ac.more ⟨cd.le⟩,?_⟩
   rw[L2 g,E,ak];rfl
 have g: ¬n<c.fields.length:=by simpa using hh
 rw[E0 g] at E
 have d6:Yx l c=false:=E
 rw[if_neg (by rw[d6];simp)] at h
 rw[Qi]
 clear E hh g a4
 refine U7 a7.sat (by rfl) rfl rfl fun q7 w4 σ4 V bb=>?_
 have ac:SLe σ2 σ4:=ck.more ⟨V.le⟩
 have a3:=a7.trans V
 have y:=y.lift ac
 have A:=A.lift ac
 have g1:=g1.lift ac
 have g2:=g2.lift ac
 have g3:=g3.lift ac
 rw[fa]
 refine ld V.sat A rfl ?_
 refine Q8 g2 ?_
 refine U3 c.fields.length (fun n w'=> ∃W,Stp w σ w' W∧SLe σ4 W∧((c.fields.take n).any fun f=> !O8 l f.kind)=false) ⟨σ4,a3,SLe.refl _,by simp⟩ fun n w5 d a4 aj=>?_
 obtain ⟨σ5,a2,aq,E⟩:=aj
 refine Y9 ?_
 refine Q7 (fun hh=>?_) (fun hh=>?_)
 ·have g:n<c.fields.length:=by simpa using hh
  refine Q9x (g2.lift aq) g fun p aw Z=>?_
  refine Y4 a2.sat aw rfl ?_
  refine Y8 a2.sat (by rfl) rfl (Rep.one Z) fun q9 w6 σ6 be d7=>?_
  have ae:SLe σ4 σ6:=aq.more ⟨be.le⟩
  have O:=a2.trans be
  refine X7 be.sat (bb.lift ae) rfl ?_
  rw[fa]
  refine ld be.sat d7 rfl ?_
  refine Q3M be.sat (ht.lift ⟨O.le⟩) (y.lift ae) Z.2.2 fun w7 σ7 H=>?_
  refine Jj ?_
  refine Q7 (fun ak=>?_) (fun ak=>?_)
  ·have:B6 l c=true:=by
    unfold B6
    rw[C0 (p:=fun f:Fld=> !O8 l f.kind) g ak];rfl
   rw[if_pos this] at h
   exact h _ _ (O.trans H)
  ·refine N3 ?_
   refine Y5 bc g ⟨σ7,O.trans H,ae.more ⟨H.le⟩,?_⟩
   rw[L2 g,E,ak];rfl
 have g: ¬n<c.fields.length:=by simpa using hh
 rw[E0 g] at E
 have d8:=E
 clear E hh g a4
 have y:=y.lift aq
 have A:=A.lift aq
 have bb:=bb.lift aq
 have g3:=g3.lift aq
 rw[fa]
 refine ld a2.sat A rfl ?_
 refine Q8 g3 ?_
 refine U3 c.methods.length (fun n w'=> ∃W,Stp w σ w' W∧SLe σ5 W∧((c.methods.take n).any (Ez l))=false) ⟨σ5,a2,SLe.refl _,by simp⟩ fun n w6 d a4 aj=>?_
 obtain ⟨σ6,O,ae,E⟩:=aj
 refine Y9 ?_
 refine Q7 (fun hh=>?_) (fun hh=>?_)
 ·have g:n<c.methods.length:=by simpa using hh
  refine N0 (g3.lift ae) g fun p cells aw cx Z=>?_
  refine Y4 O.sat aw cx ?_
  refine Y8 O.sat (by rfl) cx (Rep.one Z) fun fn w7 σ7 H X=>?_
  obtain ⟨pv,cv,fo,rfl,m1,m2,m3,m4,m5,m6⟩:=Z
  have cc:SLe σ5 σ7:=ae.more ⟨H.le⟩
  have df:=O.trans H
  have C:Ez l c.methods[n]=true→ ∀{w8:World} {σ8:Q6},Stp w σ w8 σ8→K (.int .i64 65) w8:=fun hb w8 σ8 q=>by
   have:B6 l c=true:=by
    unfold B6
    have:=C0 (p:=Ez l) g hb
    unfold Ez at this
    rw[this,Bool.or_true]
   rw[if_pos this] at h
   exact h _ _ q
  have z:Ez l c.methods[n]=false→ ∀{w8:World} {σ8:Q6},Stp w σ w8 σ8→SLe σ5 σ8→UpI c.methods.length (fun n w'=> ∃W,Stp w σ w' W∧SLe σ5 W∧((c.methods.take n).any (Ez l))=false) (.int .i64 (IntKind.i64.wrap (n+1))) w8∧UpM c.methods.length (.int .i64 (IntKind.i64.wrap (n+1)))<UpM c.methods.length (I n):=fun hb w8 σ8 q ab=>
   Y5 ci g ⟨σ8,q,ab,by rw[L2 g,E,hb];rfl⟩
  unfold Ez at C z
  refine X7 H.sat (bb.lift cc) rfl ?_
  rw[fa]
  refine ld H.sat X rfl ?_
  refine Q3M H.sat (ht.lift ⟨df.le⟩) (y.lift cc) m5 fun w8 σ8 M=>?_
  have q:=df.trans M
  have ab:SLe σ5 σ8:=cc.more ⟨M.le⟩
  have X:=X.up M
  have m1:=(m1.up H).up M
  -- what the parameters come to
  have bp: ∀{w8:World} {σ8:Q6} {K:Value→World→Prop},Stp w σ w8 σ8→SLe σ5 σ8→Sl 1 U8 σ8 pv c.methods[n].params→(∀w' W,Stp w8 σ8 w' W→K (.bool (c.methods[n].params.any fun s=> !O8 l s)) w')→Q1 P F.c [pv, .func (.func F.am) #[] #[.pointer (some q7)]] w8 K:=by
   intro w8 σ8 K q ab m1 hK
   refine P2 (fun s=> !O8 l s) q.sat m1 (fun x w9 K _ d3 hx dz=>Q8G d3 (ht.lift ⟨q.le⟩) (y.lift ab) (bb.lift ab) hx fun w' W hk=>dz w' hk.bel) fun w9 hb=>hK w9 σ8 (Stp.of_below q.sat hb)
  cases e1:O8 l c.methods[n].result with
  | true=>
   rw[e1] at C z
   simp only[↓M2,M2,Mb,reduceIte]
   refine ld M.sat X rfl ?_
   (try simp only[↓M2,M2,Mb,reduceIte])
   refine bp q ab m1 fun w9 σ9 J=>?_
   cases e2:c.methods[n].params.any fun s=> !O8 l s with
   | true=>
    rw[e2] at C
    simp only[↓M2,M2,Mb,reduceIte]
    exact C rfl (q.trans J)
   | false=>
    rw[e2] at z
    simp only[↓M2,M2,Mb,reduceIte]
    exact z rfl (q.trans J) (ab.more ⟨J.le⟩)
  | false=>
   rw[e1] at C z
   simp only[↓M2,M2,Mb,reduceIte]
   refine ld M.sat X rfl ?_
   simp only[↓M2,M2,Mb,reduceIte]
   by_cases e3:c.methods[n].result=[]
   ·rw[decide_eq_true e3] at C z
    simp only[decide_eq_true e3,↓M2,M2,Mb,reduceIte]
    refine ld M.sat X rfl ?_
    (try simp only[↓M2,M2,Mb,reduceIte])
    refine bp q ab m1 fun w9 σ9 J=>?_
    cases e2:c.methods[n].params.any fun s=> !O8 l s with
    | true=>
     rw[e2] at C
     simp only[↓M2,M2,Mb,reduceIte]
     exact C rfl (q.trans J)
    | false=>
     rw[e2] at z
     simp only[↓M2,M2,Mb,reduceIte]
     exact z rfl (q.trans J) (ab.more ⟨J.le⟩)
   ·rw[decide_eq_false e3] at C
    simp only[decide_eq_false e3,↓M2,M2,Mb,reduceIte]
    exact C rfl q
 have g: ¬n<c.methods.length:=by simpa using hh
 rw[E0 g] at E
 have cl:B6 l c=false:=by
  unfold B6
  unfold Ez at E
  rw[d8,E];rfl
 rw[if_neg (by rw[cl];simp)] at h
 clear E hh g a4
 have y:=y.lift ae
 have A:=A.lift ae
 refine Q2X O.sat fun r1 w7 Z H t=>?_
 refine Q2X H.sat fun N w8 dy M u=>?_
 have aw:=t.lt
 have t:=t.up M
 have eg:r1≠N:=by omega
 have q:=(O.trans H).trans M
 have ez:w.heap.size≤r1:=Nat.le_trans O.bel.size Z
 have er:w.heap.size≤N:=L9 dy (O.trans H)
 refine M0 M.sat fun b1 w9 σ9 ed J B=>?_
 refine M0 J.sat fun b2 eo fl ef ag D=>?_
 have et:=B.lt
 have ew:=t.lt
 have ey:=u.lt
 have t:=(t.up J).up ag
 have u:=(u.up J).up ag
 have B:=B.up ag
 have cw:=(q.trans J).trans ag
 have b0:w.heap.size≤b1:=L9 ed q
 have bw:w.heap.size≤b2:=L9 ef (q.trans J)
 refine st0 B (by simp[Value.cells]) rfl rfl fun c8 b9 B=>?_
 have c2:=b9.stp cw b0 B.1
 have D:=D.upd b9 (by omega)
 have dq:Kpt (fun k=>k=b1) eo c8:=Kpt.of_upd b9 rfl
 have t:=t.kp dq (by omega)
 have u:=u.kp dq (by omega)
 refine st0 D (by simp[Value.cells]) rfl rfl fun av cf D=>?_
 have cz:=cf.stp c2 bw D.1
 have B:=B.upd cf (by omega)
 have dc:Kpt (fun k=>k=b2) c8 av:=Kpt.of_upd cf rfl
 have t:=t.kp dc (by omega)
 have u:=u.kp dc (by omega)
 obtain ⟨b6,c5,a6,c9,am⟩:=B.keep cz b0
 have D:Y2 b6 av b2 _:=⟨(am b2 (by omega)).trans D.1,D.2⟩
 have t:C8 b6 av r1 []:=⟨(am r1 (by omega)).trans t.1,t.2⟩
 have u:C8 b6 av N []:=⟨(am N (by omega)).trans u.1,u.2⟩
 obtain ⟨bd,af,bh,bq,ax⟩:=D.keep c5 bw
 have t:C8 bd av r1 []:=⟨(ax r1 (by omega)).trans t.1,t.2⟩
 have u:C8 bd av N []:=⟨(ax N (by omega)).trans u.1,u.2⟩
 have a6:=a6.le bq
 have a6:Z6 bd ⟨b1,0,none⟩ [.map (some r1)]:=a6
 have bh:Z6 bd ⟨b2,0,none⟩ [.map (some N)]:=bh
 have dp:SLe σ6 bd:=⟨fun b o e=>bq b o (c9 b o (ag.le b o (J.le b o (M.le b o (H.le b o e)))))⟩
 clear B D
 have y:=y.lift dp
 have A:=A.lift dp
 refine X7 af.sat y rfl ?_
 rw[fa]
 refine ld af.sat A rfl ?_
 rw[Qi]
 refine Q7S Sb ([],[]) (fun s w'=>H2 (w'.heap[r1]?) (vals s.1)∧H2 (w'.heap[N]?) (vals s.2)) (fun k=>k=r1∨k=N) af.sat (ht.lift ⟨af.le⟩) ok.len ok.sm g4
  (fun k hk=>by rcases hk with rfl | rfl;exact ⟨t.lt,t.1⟩;exact ⟨u.lt,u.1⟩) (fun s wa wb hi hk=>by rw[hk r1 (.inl rfl),hk N (.inr rfl)];exact hi) ⟨t.2,u.2⟩
  (fun s d ds wa σa K le el c1 hi hr d0 hK=>?_) fun fx b4 ah b3=>?_
 ·have da:=(V3 d0).2.1
  exact Q74 el hr (ok.sm d da) (ok.nm d da) (a6.lift le) (bh.lift le) (c1 r1 (.inl rfl)) (c1 N (.inr rfl)) eg hi.1 hi.2 hK
 have R:=af.nx ah fun k hk=>by rcases hk with rfl | rfl<;>assumption
 obtain ⟨cr,c3⟩:=Q3w (Mf l c.name) [] ([],[]) 0 X3G
 rw[List.nil_append,←Q8S] at cr c3
 cases cy:(J6 Sb ([],[]) (Mf l c.name) 0).1.isSome with
 | true=>
  have:Zj l c=true:=(Q4m _).2 (cr cy)
  rw[if_pos this] at h
  refine J7 ?_
  exact h _ _ R
 | false=>
  have bg:=c3 cy
  have:Zj l c=false:=by
   cases e:Zj l c with
   | false=>rfl
   | true=>exact absurd ((Q4m _).1 e) bg.no
  rw[if_neg (by rw[this];simp)] at h
  refine Z7 ?_
  have y:=y.lift ah.le
  have A:=A.lift ah.le
  rw[fa]
  refine ld R.sat A rfl ?_
  unfold Dv at h
  cases dm:c.abs with
  | true=>
   rw[dm] at h
   refine J7 ?_
   exact h _ _ R
  | false=>
   rw[dm] at h
   simp only[Bool.not_false,Bool.true_and] at h
   refine Z7 ?_
   refine X7 R.sat (bh.lift ah.le) rfl ?_
   generalize fg:(J6 Sb ([],[]) (Mf l c.name) 0).2=st at bg b3
   obtain ⟨es,al,e1,e2,e3,e4⟩:=b3.2
   have db:b4 N=none:=(ah.old N u.lt).trans u.1
   obtain ⟨dj,dn⟩:=X2B e2
   refine X42 (tm:=inferInstance) R.sat e1 fun ib fd eh ek ap ei=>?_
   have br:=(Array.getElem?_eq_some_iff.1 e1).1
   refine Pf (fun d _ w'=> ∃(W:Q6) (U:Array Nat),d=es.toList.countP (fun e=> !U.contains e.born)∧Stp w σ w' W∧SLe b4 W∧W N=none∧w'.heap[N]? =some (.map es al)∧It W w' ib N es al U∧ ∀e∈es.toList,e.born∈U→ ∀k,e.key=S k→Zh l c.name k=false) _
    ⟨eh, #[],rfl,R.trans ap,⟨ap.le⟩,(ap.old N br).trans db,(ap.bel.block N br).trans e1,ei,by simp⟩ ?_
   rintro cb d x dd fi ⟨de,U,rfl,bs,ao,ct,a8,a5,a0⟩ d9
   have dh:w.heap.size≤ib:=Nat.le_trans R.bel.size ek
   refine X3T a5 a8 e4 (fun c4=>?_) fun e c6 bj ba bu ce cu=>?_
   ·refine J4 (vs:=[_]) rfl ?_
    refine Z7 ?_
    have:((Lk l c.name).any fun m=>Zh l c.name m.name)=false:=by
     rw[List.any_eq_false]
     intro m hm
     obtain ⟨e,he,bk⟩:=dn m.name ((bg.c m.name).2 ⟨m,hm,rfl⟩)
     rw[a0 e he (c4 e he) _ bk];simp
    rw[this] at h
    exact h _ _ bs
   ·refine J4 (vs:=[_,_,_]) rfl ?_
    refine J7 ?_
    have an:c6.heap[N]? =some (.map es al):=by
     rw[bu.block N (Array.getElem?_eq_some_iff.1 a8).1 (by omega)];exact a8
    have b7:=a5.1
    have ai:Stp w σ c6 de:=bs.kp bu fun k hk=>by rw[hk];exact ⟨dh,b7⟩
    refine X3o cu an bj (e3.imp fun cj=>Nat.ne_of_lt cj) ?_
    refine J4 (vs:=[_,_]) rfl ?_
    obtain ⟨k,bk,eb⟩:=dj e bj
    have ep:SLe b4 de:=ao
    refine X7 ai.sat (y.lift ao) rfl ?_
    rw[fa]
    refine ld ai.sat (A.lift ao) rfl ?_
    rw[bk]
    refine X0P ai.sat (ht.lift ⟨ai.le⟩) ok fun pv cv hv fw fm L c7=>?_
    refine J4 (vs:=[_,_,_]) rfl ?_
    refine J4 (vs:=[_,_,_]) rfl ?_
    refine J4 (vs:=[_,_,_]) rfl ?_
    refine Y8 L.sat (by rfl) rfl (Rep.one c7) fun ft d5 ec Y bv=>?_
    have ay:=(ai.trans L).trans Y
    have Q:Zh l c.name k=true→ ∀{w8:World} {σ8:Q6},Stp w σ w8 σ8→K (.int .i64 67) w8:=fun hb w8 σ8 q=>by
     obtain ⟨m,hm,cl⟩:=(bg.c k).1 eb
     have:((Lk l c.name).any fun m=>Zh l c.name m.name)=true:=List.any_eq_true.2 ⟨m,hm,by rw[cl];exact hb⟩
     rw[this] at h
     exact h _ _ q
    have ch:Zh l c.name k=false→cb () d5:=fun hb=>by
     have di: ∀e':MapEntry,e'.born∈U.push e.born↔e'.born∈U∨e'.born=e.born:=fun e'=>by simp
     refine d9 _ _ _ ?_ ⟨ec,U.push e.born,rfl,ay,ao.more ⟨fun b o h=>Y.le _ _ (L.le _ _ h)⟩,?_,?_,(ce.step L).step Y,fun e' cq ee k' cg=>?_⟩
     ·refine Q4k (fun x _ hx=>?_) ⟨e,bj,?_,?_⟩
      ·simp only[Bool.not_eq_true',Array.contains_push,Bool.or_eq_false_iff] at hx⊢
       exact hx.1
      ·simpa using ba
      ·simp
     ·have az:=(Array.getElem?_eq_some_iff.1 an).1
      rw[Y.old N (Nat.lt_of_lt_of_le az L.bel.size),L.old N az];exact ct
     ·have az:=(Array.getElem?_eq_some_iff.1 an).1
      rw[Y.bel.block N (Nat.lt_of_lt_of_le az L.bel.size),L.bel.block N az];exact an
     ·rcases (di e').1 ee with h1 | h1
      ·exact a0 e' cq h1 k' cg
      ·have:e'=e:=by
        have dw:(es.toList.map (·.born)).Nodup:=e3.imp fun cj=>Nat.ne_of_lt cj
        obtain ⟨i,hi,rfl⟩:=List.getElem_of_mem cq
        obtain ⟨j,hj,rfl⟩:=List.getElem_of_mem bj
        have h5:(es.toList.map (·.born))[i]'(by simpa using hi)=(es.toList.map (·.born))[j]'(by simpa using hj):=by simpa using h1
        have:=(List.getElem_inj dw).1 h5
        subst this;rfl
       subst this
       rw[bk] at cg
       have:k=k':=by
        have:=cg
        simp at this
        exact this
       rw[←this];exact hb
    unfold Zh at Q ch
    cases dg:V4 l c.name k with
    | none=>
     rw[dg] at Q
     simp only[↓M2,M2,Mb,reduceIte,Option.isSome_none]
     exact Q rfl ay
    | some r=>
     rw[dg] at Q ch bv
     simp only[↓M2,M2,Mb,reduceIte,Option.isSome_some]
     refine ld Y.sat bv rfl ?_
     (try simp only[↓M2,M2,Mb,reduceIte])
     cases bi:r.2.abs with
     | true=>
      exact Q7 (fun _=>Q bi ay) (fun e=>absurd (bi.symm.trans e) (by simp))
     | false=>
      exact Q7 (fun e=>absurd (bi.symm.trans e) (by simp)) (fun _=>ch bi))
end Go.Proofs.YtjdiakhipmggjaaGreatDoor

namespace Go.Emb
open Go.RowKit Go.Hm
variable {P : Program} {w w0 w1 w' w'' : World} {K : Value → World → Prop} {σ σ0 σ1 σ' : Q6}
theorem X3R {t e:TypeId} {n a:Nat} {z:Value} [ta:TA P t n e] [tz:TZ P e 1 a z] [tg:TG P e false] {cs:List Value} {i:Nat} {v:Value} (d:i<n) (c:cs[i]? =some v) (h:K v w):C4 P t (.agg cs.toArray) (I i) w K:=by
 unfold C4
 have b:(0:Int)≤i∧(i:Int)<n:=⟨by omega,by omega⟩
 rw[Y0 (v:=v) (w':=w) (by
  simp only[Instr.index,asIntOf,Sem.run_bind,Sem.run_pure,Result.andThen_ok,run_underlying ta.h,b,and_self,if_true,L3 tz,part,Ya tg]
  simp[c])]
 exact h
theorem Q8z {α:Type} {R:Q6→α→List Value→Prop} {B sz:Nat} {e:TypeId} {v:Value} {xs:List α} {a t:TypeId} {cs:List Bool} [ts:TS P a e] (h:V7 B e sz R σ w v xs) (b:K (I xs.length) w):X2 P .len [a] t cs [v] w K:=Q1v (J9.of_acc h) b
theorem Jo {α:Type} {R:Q6→α→List Value→Prop} {B sz:Nat} {e:TypeId} {v:Value} {xs:List α} (h:V7 B e sz R σ w v xs):v.cells= #[v]∧v.oneCell'=true:=by
 obtain ⟨cells,a,_⟩:=h
 rcases a.2 with ⟨rfl,_⟩ | ⟨g,b,c,rfl,_⟩<;>exact ⟨rfl,rfl⟩
end Go.Emb
namespace Go.Proofs.YtjdiakhipmggjaaGreatDoor
open Go.Emb Go.RowKit Go.Kd Go.Hm
variable {w : World} {K : Value → World → Prop} {σ : Q6} {v : Value} {l : List Cla}
theorem X2n (z:X3 w σ) (D:Glb σ) (h: ∀r w' σ',Stp w σ w' σ'→V7 w.heap.size T.b 8 U9 σ' w' r I2→K r w'):Q1 P F.cF [] w K:=Q6G (by
 unfold Q0r
 refine W1 (cells:= #[S U1,S [], .slice none 0 0, .bool false, .bool false, .bool false, .slice none 0 0, .slice none 0 0]) (by kernel_rfl) ?_
 refine W1 (cells:= #[S Qm,S D0, .bool false]) (by kernel_rfl) ?_
 refine T4 (R:=S5) (sz:=3) z [.agg #[S Qm,S D0, .bool false]] [⟨Qm,D0,false⟩] rfl rfl (by simp;rfl) rfl ⟨⟨rfl,by decide,by decide⟩,trivial⟩ fun H w1 σ1 c j=>?_
 have m:=j
 obtain ⟨y,b,rfl,_⟩:=m
 refine W1 (cells:= #[S L5,S U1, .slice none 0 0, .bool false, .bool false, .bool false, .slice y 1 b, .slice none 0 0]) (by kernel_rfl) ?_
 refine Zf (R:=U9) (sz:=8) c [.agg #[S U1,S [], .slice none 0 0, .bool false, .bool false, .bool false, .slice none 0 0, .slice none 0 0], .agg #[S L5,S U1, .slice none 0 0, .bool false, .bool false, .bool false, .slice y 1 b, .slice none 0 0]]
  [⟨U1,[],[],false,false,false,[],[]⟩,⟨L5,U1,[],false,false,false,[⟨Qm,D0,false⟩],[]⟩] rfl rfl (by simp;exact ⟨rfl,rfl⟩) rfl
  ⟨⟨_,_,_,rfl,Sl.nil,Sl.nil,Sl.nil,by decide,by decide⟩,⟨_,_,_,rfl,Sl.nil,j,Sl.nil,by decide,by decide⟩,trivial⟩ fun L J p g _=>?_
 have u:=D.lift ⟨c.le⟩
 refine Y4 (cs:=U5.map S) p.sat u.flt rfl ?_
 refine E2 6 (fun n a w'=> ∃σ',Stp w σ w' σ'∧V7 w.heap.size T.b 8 U9 σ' w' a ([⟨U1,[],[],false,false,false,[],[]⟩,⟨L5,U1,[],false,false,false,[⟨Qm,D0,false⟩],[]⟩]++(U5.take n).map fun n=>⟨n,L5,[],false,false,true,[],[]⟩)) ⟨σ1,c.trans p,g⟩ fun n a E d O k=>?_
 obtain ⟨M,o,e⟩:=k
 have A:U5.length=6:=rfl
 refine Y9 ?_
 refine Q7 (fun hh=>?_) (fun hh=>?_)
 ·have f:n<6:=by have:=of_decide_eq_true hh;omega
  refine X3R (v:=S (U5[n]'(by omega))) f (by rw[List.getElem?_map,List.getElem?_eq_getElem (by omega)];rfl) ?_
  refine W1 (cells:= #[S (U5[n]'(by omega)),S L5, .slice none 0 0, .bool false, .bool false, .bool true, .slice none 0 0, .slice none 0 0]) (by kernel_rfl) ?_
  have i:(U5[n]'(by omega)).length≤10:=by
   have: ∀x∈U5,x.length≤10:=by decide
   exact this _ (List.getElem_mem _)
  refine Jp (x:=⟨U5[n]'(by omega),L5,[],false,false,true,[],[]⟩) o e ⟨_,_,_,rfl,Sl.nil,Sl.nil,Sl.nil,Nat.le_trans i (by decide),(by decide:L5.length≤U2)⟩ rfl rfl rfl (by simp;omega) (by simp;omega) fun s r N B C q t _=>?_
  refine N3 ?_
  refine J5 (by omega) f ⟨B,q,?_⟩
  rw[List.take_add_one,List.getElem?_eq_getElem (by omega),List.map_append,←List.append_assoc]
  exact t
 ·have f: ¬n<6:=by have:=of_decide_eq_false hh;omega
  rw[List.take_of_length_le (by omega)] at e
  exact h _ _ _ o e)
end Go.Proofs.YtjdiakhipmggjaaGreatDoor

namespace Go.Hm
open Go.Kd
def O9 {α:Type} (f:α→Int):List α→Nat→Option (Nat×Int)
 | [],_=>none
 | x::r,i=>if f x=0 then O9 f r (i+1) else some (i,f x)
theorem T0 {α:Type} {f:α→Int}: ∀{l:List α} {i:Nat},O9 f l i=none→ ∀x∈l,f x=0
 | [],_,_=>by simp
 | x::r,i,h=>by
  simp only[O9] at h
  split at h
  ·rename_i a
   intro y hy
   rcases List.mem_cons.1 hy with rfl | hy
   ·exact a
   ·exact T0 h y hy
  ·cases h
def So (a:List Cla):Option Nat:=(List.range a.length).find? fun i=>(Z3 (a.take i) (Y3 a i)).isSome
def Q4 (l:List Cla):List Cla:=I2++l
def Sh (a:Cla→Int) (l:List Cla):Option (Int×Int):=match O9 a l 0 with
 | some (i,e)=>some (i,e)
 | none=>match So (Q4 l) with
  | some i=>some ((i:Int)-8,60)
  | none=>match O9 (fun c=>(D2 (Q4 l) c:Int)) l 0 with
   | some (i,e)=>some (i,e)
   | none=>match l.findIdx? (T1 (Q4 l)) with
    | some i=>some (i,63)
    | none=>match (W0 (Q4 l) 8).find? fun j=> !decide (V9 (Q4 l) ((Q4 l).getD j Cla.zero)=0) with
     | some j=>some ((j:Int)-8,V9 (Q4 l) ((Q4 l).getD j Cla.zero))
     | none=>none
theorem Q5t {s:X0} (h:name s=true):s.length≤32:=by
 cases s with
 | nil=>simp
 | cons c r=>simp only[name,Bool.and_eq_true,decide_eq_true_eq] at h;exact h.1.1
theorem X0X {s:X0} (h:M9 s=true):s.length≤32:=Q5t (Nd (by rw[h,Bool.or_true]))
theorem Q8Z {s:X0} (h:D7 s=true):s.length≤32:=by
 cases s with
 | nil=>simp
 | cons c r=>simp only[D7,Bool.and_eq_true] at h;exact Q5t h.1
theorem Kq {a:List Cla} (h:So a=none):T9 a:=by
 unfold So at h
 rw[List.find?_eq_none] at h
 unfold T9
 rw[List.nodup_iff_pairwise_ne,List.pairwise_iff_getElem]
 intro i j d b f e
 simp only[List.length_map] at d b
 have:=h j (by simp;exact b)
 apply this
 simp only[List.getElem_map] at e
 cases g:Z3 (a.take j) (Y3 a j) with
 | some _=>rfl
 | none=>
  have c:=List.findIdx?_eq_none_iff.1 g a[i] (List.mem_take_iff_getElem.2 ⟨i,by omega,rfl⟩)
  have k:Y3 a j=a[j].name:=by unfold Y3;rw[List.getD_eq_getElem?_getD,List.getElem?_eq_getElem b];rfl
  rw[k] at c
  simp[e] at c
theorem Jw: ∀c∈I2,Qs c∧Nm c∧c.like=[]:=by
 have h: ∀c∈I2,(c.like=[]∧c.methods=[]∧c.fields.length≤1∧c.name.length≤100∧ ∀f∈c.fields,f.name.length≤100∧f.kind.length≤100):=by decide
 intro c d
 obtain ⟨b,a,i,e,g⟩:=h c d
 refine ⟨⟨by rw[b];simp,by omega,by rw[a];simp,by rw[a];simp⟩,⟨e,g,by rw[a];simp⟩,b⟩
theorem X1a: ∀c∈I2,(c.name=U1∧U4 c=[[]])∨(c.name=L5∧U4 c=[U1])∨(c.name∈U5∧U4 c=[L5]):=by decide
theorem Q6r {l:List Cla} (p:T9 (Q4 l)) (z: ∀c∈l,c.name≠[]) (w: ∀c∈l,T1 (Q4 l) c=false):Jc (Q4 l):=by
 have k:lk (Q4 l) []=none:=by
  cases h:lk (Q4 l) [] with
  | none=>rfl
  | some c=>
   obtain ⟨e,hm,_⟩:=V3 h
   rcases List.mem_append.1 hm with hm | hm
   ·have: ∀c∈I2,c.name≠[]:=by decide
    exact absurd e (this c hm)
   ·exact absurd e (z c hm)
 have j:lk (Q4 l) U1=some ⟨U1,[],[],false,false,false,[],[]⟩:=p.lk (c:=⟨U1,[],[],false,false,false,[],[]⟩) (List.mem_append_left _ (by decide))
 have g:lk (Q4 l) L5=some ⟨L5,U1,[],false,false,false,[⟨Qm,D0,false⟩],[]⟩:=p.lk (c:=⟨L5,U1,[],false,false,false,[⟨Qm,D0,false⟩],[]⟩) (List.mem_append_left _ (by decide))
 have q: ∀b,¬Reach (lk (Q4 l)) [] b:=fun b h=>by obtain ⟨c,f⟩:=h.left;rw[k] at f;cases f
 have o: ∀b,Reach (lk (Q4 l)) U1 b→b=U1:=by
  intro b h
  cases h with
  | refl=>rfl
  | step f d i=>
   rw[j] at f;cases f
   simp[U4] at d;subst d
   exact absurd i (q b)
 have v: ∀b,Reach (lk (Q4 l)) L5 b→b=L5∨b=U1:=by
  intro b h
  cases h with
  | refl=>exact .inl rfl
  | step f d i=>
   rw[g] at f;cases f
   simp[U4] at d;subst d
   exact .inr (o b i)
 rintro a ⟨c,f,u,d,i⟩
 obtain ⟨e,hm,_⟩:=V3 f
 rcases List.mem_append.1 hm with hm | hm
 ·rcases X1a c hm with ⟨m,n⟩ | ⟨m,n⟩ | ⟨m,n⟩<;>rw[n] at d<;>simp at d<;>subst d
  ·exact q _ i
  ·have:=o _ i
   rw[←e,m] at this
   exact absurd this (by decide)
  ·have r: ∀x∈U5,x≠L5∧x≠U1:=by decide
   obtain ⟨s,t⟩:=r _ m
   rw[←e] at i
   rcases v _ i with h | h
   ·exact s h
   ·exact t h
 ·have:=w c hm
  unfold T1 at this
  have y:=List.any_eq_false.1 this u d
  apply y
  rw[List.contains_iff_mem,Vc,e];exact i
end Go.Hm
namespace Go.Proofs.YtjdiakhipmggjaaGreatDoor
open Go.Emb Go.RowKit Go.Kd Go.Hm
theorem Gc {s:X0} (h:right s=true):s.length≤38:=by
 simp only[right,Bool.and_eq_true,decide_eq_true_eq] at h
 have e:=Q1L s
 have:(base s).1.length≤32:=by
  have d:=h.2
  have b:=Nd d
  cases a:(base s).1 with
  | nil=>simp
  | cons c r=>
   rw[a] at b
   simp only[name,Bool.and_eq_true,decide_eq_true_eq] at b
   exact b.1.1
 omega
theorem Fe {c:Cla} (h:D3 c=0):Qs c∧Nm c∧c.name≠[]:=by
 unfold D3 at h
 split at h
 ·cases h
 ·rename_i b
  split at h
  ·rename_i i
   simp only[Zw,Bool.or_eq_true,decide_eq_true_eq,not_or,List.any_eq_true,not_exists,not_and] at b
   obtain ⟨⟨⟨n,z⟩,s⟩,t⟩:=b
   simp only[Mu,Bool.and_eq_true] at i
   obtain ⟨⟨⟨⟨⟨⟨⟨⟨o,A⟩,B⟩,y⟩,u⟩,w⟩,v⟩,k⟩,q⟩:=i
   have a:M9 c.name=true:=List.all_eq_true.1 o c.name (by simp)
   have d: ∀m∈c.methods,m.params.length≤32∧m.catches.length≤32∧m.code.length≤200:=fun m b=>by
    have:=n m b
    simp only[Wr,Bool.or_eq_true,decide_eq_true_eq,not_or] at this
    omega
   refine ⟨⟨by omega,by omega,by omega,fun m b=>by have:=d m b;unfold SmM;omega⟩,⟨by have:=X0X a;omega,fun f l=>?_,fun m b=>?_⟩,fun e=>by rw[e] at a;simp[M9] at a⟩
   ·have:=List.all_eq_true.1 k f l
    simp only[Ey,Bool.and_eq_true] at this
    have g:=Q8Z this.1
    have j:=Gc this.2
    omega
   ·have:=List.all_eq_true.1 q m b
    simp only[I9,Bool.and_eq_true,Bool.or_eq_true,decide_eq_true_eq,List.all_eq_true] at this
    obtain ⟨⟨⟨_,g⟩,j⟩,_⟩:=this
    refine ⟨?_,fun p r=>by have:=Gc (g p r);omega⟩
    rcases j with e | e
    ·rw[e];simp
    ·have:=Gc e;omega
  ·cases h
end Go.Proofs.YtjdiakhipmggjaaGreatDoor

namespace Go.Hm
open Go.Kd
theorem Wp {α:Type} {f:α→Int} {xs:List α} {n:Nat} (h:n<xs.length) (a:O9 f xs 0=O9 f (xs.drop n) n):O9 f xs 0=if f xs[n]=0 then O9 f (xs.drop (n+1)) (n+1) else some (n,f xs[n]):=by
 rw[a,List.drop_eq_getElem_cons h];rfl
theorem Q89 {a:List Cla} {n:Nat} (h:n<a.length) (k:X0):Z3 (a.take (n+1)) k=match Z3 (a.take n) k with
 | some i=>some i
 | none=>if a[n].name=k then some n else none:=by
 unfold Z3
 rw[List.take_add_one,List.getElem?_eq_getElem h]
 simp only[Option.toList_some,List.findIdx?_append]
 cases (a.take n).findIdx? fun c=>decide (c.name=k) with
 | some i=>rfl
 | none=>
  simp only[Option.none_or,List.findIdx?_cons,List.findIdx?_nil,List.length_take]
  by_cases e:a[n].name=k
  ·simp[e];omega
  ·simp[e]
end Go.Hm
namespace Go.Proofs.YtjdiakhipmggjaaGreatDoor
open Go.Emb Go.RowKit Go.Kd Go.Hm
variable {w : World} {K : Value → World → Prop} {σ : Q6} {v : Value} {l : List Cla}
theorem Ta {a:List Cla} {n:Nat} (h:n<a.length):Y3 a n=a[n].name:=by unfold Y3;rw[List.getD_eq_getElem?_getD,List.getElem?_eq_getElem h];rfl
set_option maxHeartbeats 1000000 in
theorem X4o {lv:Value} (hs:X3 w σ) (hg:Glb σ) (hl:Sl 8 U9 σ lv l) (hlen:l.length≤1000) (hsm: ∀c∈l,Qs c)
 (h1: ∀i e w' σ',Sh D3 l=some (i,e)→Stp w σ w' σ'→K (.tuple #[.pointer none,I i,I e]) w')
 (h0: ∀v w' σ',Sh D3 l=none→Stp w σ w' σ'→Tab σ' v (Q4 l)→Ok (Q4 l)→T9 (Q4 l)→K (.tuple #[v,I 0,I 0]) w'):Q1 P F.cN [lv] w K:=Q8c (by
 unfold Q3u
 have hgl:I2.length=8:=rfl
 have hal:(Q4 l).length=8+l.length:=by simp[Q4,hgl]
 refine X2n hs hg fun x0 w1 σ1 hk1 ha1=>?_
 refine Q2X hk1.sat fun r w2 hr hk2 hm2=>?_
 have ha2:=ha1.up hk2
 have hx0:x0.cells= #[x0]∧x0.oneCell'=true:=Jo ha1
 have hx0s: ∃a n c,x0= .slice a n c:=by
  obtain ⟨cells,q1,_⟩:=ha1
  rcases q1.2 with ⟨rfl,_⟩ | ⟨g,cap,cur,rfl,_⟩<;>exact ⟨_,_,_,rfl⟩
 have hx0r:x0.ownBlock≠some r:=fun e=>by have:=(ha1.mem r e).2.1;omega
 obtain ⟨a0,n0,c0,hx0e⟩:=hx0s
 rw[hx0e]
 refine W1 (cells:= #[.slice a0 n0 c0, .map (some r)]) (by kernel_rfl) ?_
 rw[←hx0e]
 refine Hk (cs:=[x0, .map (some r)]) hk2.sat fun bt w3 σ3 hbt hk3 hbm=>?_
 have hS3:=(hk1.trans hk2).trans hk3
 have ha3:=ha2.up hk3
 have hm3:=hm2.up hk3
 have hrw:w.heap.size≤r:=Nat.le_trans hk1.bel.size hr
 have hrl:r<w2.heap.size:=hm2.lt
 have hbtw:w.heap.size≤bt:=L9 hbt (hk1.trans hk2)
 have hrbt:r≠bt:=by omega
 have hx0b:x0.ownBlock≠some bt:=fun e=>by have:=(ha2.mem bt e).2.1;omega
 rw[L8,fa]
 refine Yi hbm rfl ?_
 refine Q8z ha3 ?_
 rw[hgl]
 have hl3:=hl.up hS3
 refine Q8 hl3 ?_
 -- classes, each by itself
 refine U3 l.length (fun n w'=> ∃σ' x,Stp w σ w' σ'∧SLe σ3 σ'∧Y2 σ' w' bt [x, .map (some r)]∧V7 w.heap.size T.b 8 U9 σ' w' x (I2++l.take n)∧C8 σ' w' r []∧x.ownBlock≠some bt∧x.ownBlock≠some r∧O9 D3 l 0=O9 D3 (l.drop n) n)
  ⟨σ3,x0,hS3,SLe.refl _,hbm,by simpa using ha3,hm3,hx0b,hx0r,rfl⟩ fun n w4 d hn hinv=>?_
 obtain ⟨σ4,x,hS4,le4,hb4,ha4,hm4,hxb,hxr,hfb⟩:=hinv
 refine Y9 ?_
 refine Q7 (fun hh=>?_) (fun hh=>?_)
 ·have hn':n<l.length:=by simpa using hh
  refine N0 (hl3.lift le4) hn' fun p cells hl1 hl2 hr1=>?_
  refine Y4 hS4.sat hl1 hl2 ?_
  refine Y8 hS4.sat (by rfl) hl2 (Rep.one hr1) fun q w5 σ5 hk5 hq5=>?_
  have hS5:=hS4.trans hk5
  have hr5:=RCl_lift hr1 ⟨hk5.le⟩
  refine Y4 hk5.sat hq5 hl2 ?_
  have hsmn:=hsm _ (List.getElem_mem hn')
  refine X2I hk5.sat (hg.lift ⟨hS5.le⟩) hr5 hsmn.1 fun w6 σ6 hk6=>?_
  have hS6:=hS5.trans hk6
  have hfb2:=Wp hn' hfb
  refine Za ?_
  refine Q7 (fun hh2=>?_) (fun hh2=>?_)
  ·have hne: ¬D3 l[n]=0:=by simpa using hh2
   rw[if_neg hne] at hfb2
   refine h1 _ _ _ _ ?_ hS6
   unfold Sh
   rw[hfb2]
  ·have hz:D3 l[n]=0:=by simpa using hh2
   rw[if_pos hz] at hfb2
   have hk56:=hk5.trans hk6
   have hb6:=hb4.up hk56
   have ha6:=ha4.up hk56
   have hm6:=hm4.up hk56
   have hq6:=hq5.up hk6
   have hr6:=RCl_lift hr5 ⟨hk6.le⟩
   have hxs: ∀k,x.ownBlock=some k→k<w6.heap.size:=fun k hk=>(ha6.mem k hk).2.1
   refine U0 hk6.sat ?_
   refine X4 (.pointer (some ⟨bt,0,none⟩)) (fun w hb=>by rw[L8];exact X6 rfl) ?_
   refine X4 (.pointer (some ((⟨bt,0,none⟩:Addr).add 0))) (fun t w hb e=>by rw[e,fa];exact X6 rfl) ?_
   refine X4 x (fun t w hb e=>by rw[e];exact Yi (hb6.step hb.stp) rfl (X6 rfl)) ?_
   refine X4 (.agg cells.toArray) (fun w hb=>Y4 hb.sat hq6 hl2 (X6 rfl)) ?_
   refine Uv (Φ:=fun σ' v=> ∃ds:List Value,v= .agg ds.toArray∧ds.length=8∧U9 σ' l[n] ds) (fun t w hb e=>by
    rw[e];exact X0z hb.sat hr6 hsmn fun lv fv mv w' σ' hk hrc=>Hr hb hk ⟨_,rfl,rfl,hrc⟩) ?_
   refine Uv (w:=w6) (σ:=σ6) (Φ:=fun σ' v=>Sl 8 U9 σ' v [l[n]]) (fun t w hb e=>by
    obtain ⟨σ',hk,ds,rfl,hd1,hd2⟩:=e
    refine T4 (R:=U9) (sz:=8) hk.sat [.agg ds.toArray] [l[n]] rfl rfl (by simpa [Value.cells] using hd1) rfl ⟨by simpa [Value.cells] using hd2,trivial⟩ fun u w2 σ2 hk2 hu=>?_
    exact ⟨hk2.bel,σ2,hk.trans hk2,hu⟩) ?_
   rintro t43 t44 t45 t46 t47 t48 w7 hb7 _ _ e45 _ _ ⟨σ8,hk8,hu8⟩
   subst e45
   have hS8:=hS6.trans hk8
   have hb8:=hb6.up hk8
   have ha8:=ha6.up hk8
   have hm8:=hm6.up hk8
   have hbl:=hb6.lt
   have hml:=hm6.lt
   refine Wm hS8 ha8 hu8 rfl (by simp[hgl];omega) (by simp[hgl];omega) fun x' w9 hn9 hS9 ha9 hat9=>?_
   have hb9:=hb8.nx hn9 hxb
   have hm9:=hm8.nx hn9 hxr
   have hxb':x'.ownBlock≠some bt:=fun e=>by
    rcases hat9 with e2 | e2
    ·exact hxb (e2▸e)
    ·have:=e2 bt e;have:=hk8.bel.size;omega
   have hxr':x'.ownBlock≠some r:=fun e=>by
    rcases hat9 with e2 | e2
    ·exact hxr (e2▸e)
    ·have:=e2 r e;have:=hk8.bel.size;omega
   obtain ⟨hxc1,hxc2⟩:=Jo ha9
   rw[L8,fa]
   refine Jz hb9 (by simp) hxc1 hxc2 fun w10 u10 hb10=>?_
   have hS10:=u10.stp hS9 hbtw hb9.1
   have k10:Kpt (fun k=>k=bt) w9 w10:=Kpt.of_upd u10 rfl
   refine N3 ?_
   refine Y5 hl3.max hn' ⟨σ8,x',hS10,le4.more ⟨fun b o e=>hk8.le _ _ (hk56.le _ _ e)⟩,hb10,?_,hm9.kp k10 hrbt,hxb',hxr',hfb2⟩
   have:=ha9.kp k10 fun k hk e=>hxb' (e▸hk)
   rw[List.take_add_one,List.getElem?_eq_getElem hn',←List.append_assoc]
   exact this
 have hn': ¬n<l.length:=by simpa using hh
 rw[List.take_of_length_le (by omega)] at ha4
 rw[List.drop_eq_nil_of_le (by omega)] at hfb
 have hfb:O9 D3 l 0=none:=hfb
 have hck:=T0 hfb
 have hcf: ∀c∈l,Qs c∧Nm c∧c.name≠[]:=fun c hc=>Fe (hck c hc)
 have hsmall: ∀c∈Q4 l,Qs c:=fun c hc=>by
  rcases List.mem_append.1 hc with hc | hc
  ·exact (Jw c hc).1
  ·exact (hcf c hc).1
 have hnmall: ∀c∈Q4 l,Nm c:=fun c hc=>by
  rcases List.mem_append.1 hc with hc | hc
  ·exact (Jw c hc).2.1
  ·exact (hcf c hc).2.1
 have hlenall:(Q4 l).length≤100000:=by omega
 unfold Sh at h1 h0
 rw[hfb] at h1 h0
 simp only at h1 h0
 -- from now on the classes stay
 obtain ⟨σ5,hS5,hv5,le5,old5⟩:=ha4.keep hS4
 have hb5:Y2 σ5 w4 bt _:=⟨(old5 bt fun e=>hxb e.symm).trans hb4.1,hb4.2⟩
 have hm5:C8 σ5 w4 r []:=⟨(old5 r fun e=>hxr e.symm).trans hm4.1,hm4.2⟩
 obtain ⟨σ6,hS6,hb6,le6,old6⟩:=hb5.keep hS5 hbtw
 have hm6:C8 σ6 w4 r []:=⟨(old6 r hrbt).trans hm5.1,hm5.2⟩
 have hv6:Sl 8 U9 σ6 x (Q4 l):=hv5.le le6
 clear hb5 hb4 ha4
 rw[L8,fa]
 refine ld hS6.sat hb6 rfl ?_
 refine Q8 hv6 ?_
 refine U3 (Q4 l).length (fun n w'=> ∃σ' m,Stp w σ w' σ'∧SLe σ6 σ'∧C8 σ' w' r m∧(∀k,C6 m k=(Z3 ((Q4 l).take n) k).map (fun i:Nat=>I (i:Int)))∧ ∀j,j<n→(Z3 ((Q4 l).take j) (Y3 (Q4 l) j)).isSome=false)
  ⟨σ6,[],hS6,SLe.refl _,hm6,by simp[C6,Z3],by intro j hj;omega⟩ fun n w5 d hn2 hinv=>?_
 obtain ⟨σ7,m,hS7,le7,hm7,hlm,hnd⟩:=hinv
 refine Y9 ?_
 refine Q7 (fun hh2=>?_) (fun hh2=>?_)
 ·have hn3:n<(Q4 l).length:=by simpa using hh2
  refine N0 (hv6.lift le7) hn3 fun p cells hl1 hl2 hr1=>?_
  refine Y4 hS7.sat hl1 hl2 ?_
  refine Y8 hS7.sat (by rfl) hl2 (Rep.one hr1) fun q w6 σ8 hk8 hq8=>?_
  obtain ⟨lv',fv,mv,rfl,f1,f2,f3,f4,f5⟩:=hr1
  have hS8:=hS7.trans hk8
  have le8:SLe σ6 σ8:=le7.more ⟨hk8.le⟩
  have hm8:=hm7.up hk8
  have hb8:=hb6.lift le8
  rw[fa]
  refine ld hk8.sat hq8 rfl ?_
  refine Eh ?_
  unfold Uh
  rw[L8,fa]
  refine ld hk8.sat hb8 rfl ?_
  refine Q97 X8 hm8.2 _ ?_
  refine J4 (vs:=[_,_]) rfl ?_
  refine J4 (vs:=[_,_]) rfl ?_
  have hna:=Ta hn3
  have hfd:=hlm (Q4 l)[n].name
  cases hfc:Z3 ((Q4 l).take n) (Q4 l)[n].name with
  | some i=>
   rw[hfc] at hfd
   rw[hfd]
   refine J7 ?_
   have hdup:So (Q4 l)=some n:=by
    unfold So
    rw[List.find?_range_eq_some]
    refine ⟨by rw[hna,hfc];rfl,by simpa using hn3,fun j hj=>by rw[hnd j hj];rfl⟩
   refine Zp ⟨by omega,by omega⟩ ?_
   refine h1 _ _ _ _ ?_ hS8
   rw[hdup]
   rfl
  | none=>
   rw[hfc] at hfd
   rw[hfd]
   refine Z7 ?_
   refine U0 hk8.sat ?_
   refine X4 (.pointer (some ⟨bt,0,none⟩)) (fun w hb=>by rw[L8];exact X6 rfl) ?_
   refine X4 (.pointer (some ((⟨bt,0,none⟩:Addr).add 1))) (fun t w hb e=>by rw[e,fa];exact X6 rfl) ?_
   refine X4 (.pointer (some (q.add 0))) (fun w hb=>by rw[fa];exact X6 rfl) ?_
   refine X4 (.map (some r)) (fun t w hb e=>by rw[e];exact ld hb.sat hb8 rfl (X6 rfl)) ?_
   refine X4 (S (Q4 l)[n].name) (fun t w hb e=>by rw[e];exact ld hb.sat hq8 rfl (X6 rfl)) ?_
   rintro t71 t72 t74 t73 t75 w9 hb9 _ _ _ rfl rfl
   refine Pv X8 (hm8.up hb9.stp) _ (I n) fun w10 u10 hm10=>?_
   have hS9:=hS8.trans hb9.stp
   have hS10:=u10.stp hS9 hrw hm10.1
   refine N3 ?_
   refine Y5 (by omega) hn3 ⟨σ8,_,hS10,le8,hm10,fun k=>?_,fun j hj=>?_⟩
   ·rw[Q4T,Q89 hn3 k]
    by_cases e:(Q4 l)[n].name=k
    ·subst e
     rw[if_pos rfl,hfc];simp
    ·rw[if_neg e,hlm k]
     cases Z3 ((Q4 l).take n) k with
     | some i=>rfl
     | none=>simp[e]
   ·by_cases e:j=n
    ·subst e;rw[hna,hfc];rfl
    ·exact hnd j (by omega)
 have hn3: ¬n<(Q4 l).length:=by simpa using hh2
 have hne:n=(Q4 l).length:=by omega
 subst hne
 rw[List.take_of_length_le (Nat.le_refl _)] at hlm
 have hdup:So (Q4 l)=none:=by
  unfold So
  rw[List.find?_eq_none]
  intro j hj
  rw[hnd j (by simpa using hj)];simp
 rw[hdup] at h1 h0
 simp only at h1 h0
 have hown:=Kq hdup
 obtain ⟨σ8,hS8,hm8,le8,_⟩:=hm7.keep hS7 hrw
 have le68:SLe σ6 σ8:=le7.more ⟨le8⟩
 have ht8:Tab σ8 (.pointer (some ⟨bt,0,none⟩)) (Q4 l):=⟨⟨bt,0,none⟩,x,r,m,rfl,hb6.lift le68,hv6.lift le68,hm8,hlm⟩
 have hb8:=hb6.lift le68
 have hv8:=hv6.lift le68
 clear hm7 hm8 hh2 hn3 hn2 hh hn' hn hnd
 have hdr:(Q4 l).drop 8=l:=by simp[Q4,hgl]
 rw[L8,fa]
 refine ld hS8.sat hb8 rfl ?_
 refine Et hv8 (some (I (8:Nat))) none 8 (Q4 l).length (.inr rfl) (.inl ⟨rfl,rfl⟩) (by omega) (Nat.le_refl _) fun v9 hv9=>?_
 rw[hdr,List.take_of_length_le (by omega)] at hv9
 refine Q8 hv9 ?_
 refine U3 l.length (fun n w'=> ∃σ',Stp w σ w' σ'∧SLe σ8 σ'∧O9 (fun c=>(D2 (Q4 l) c:Int)) l 0=O9 (fun c=>(D2 (Q4 l) c:Int)) (l.drop n) n) ⟨σ8,hS8,SLe.refl _,rfl⟩ fun n w6 d hn hinv=>?_
 obtain ⟨σ9,hS9,le9,hfu⟩:=hinv
 refine Y9 ?_
 refine Q7 (fun hh=>?_) (fun hh=>?_)
 ·have hn':n<l.length:=by simpa using hh
  refine N0 (hv9.lift le9) hn' fun p cells hl1 hl2 hr1=>?_
  refine Y4 hS9.sat hl1 hl2 ?_
  refine Y8 hS9.sat (by rfl) hl2 (Rep.one hr1) fun q w7 σ10 hk10 hq10=>?_
  have hS10:=hS9.trans hk10
  refine Y4 hk10.sat hq10 hl2 ?_
  have hfu2:=Wp hn' hfu
  refine X14 hk10.sat (ht8.lift (le9.more ⟨hk10.le⟩)) (RCl_lift hr1 ⟨hk10.le⟩) fun w8 σ11 hk11=>?_
  refine Za ?_
  refine Q7 (fun hh2=>?_) (fun hh2=>?_)
  ·have hne: ¬(D2 (Q4 l) l[n]:Int)=0:=by simpa using hh2
   rw[if_neg hne] at hfu2
   refine h1 _ _ _ _ ?_ (hS10.trans hk11)
   rw[hfu2]
  ·have hz:(D2 (Q4 l) l[n]:Int)=0:=by simpa using hh2
   rw[if_pos hz] at hfu2
   refine N3 ?_
   exact Y5 hl3.max hn' ⟨σ11,hS10.trans hk11,le9.more ⟨fun b o e=>hk11.le _ _ (hk10.le _ _ e)⟩,hfu2⟩
 have hn': ¬n<l.length:=by simpa using hh
 rw[List.drop_eq_nil_of_le (by omega)] at hfu
 have hfu:O9 (fun c=>(D2 (Q4 l) c:Int)) l 0=none:=hfu
 rw[hfu] at h1 h0
 simp only at h1 h0
 have hup:=T0 hfu
 have ht9:=ht8.lift le9
 clear hh hn' hn
 rw[L8,fa]
 refine ld hS9.sat (hb8.lift le9) rfl ?_
 refine Et (hv8.lift le9) (some (I (8:Nat))) none 8 (Q4 l).length (.inr rfl) (.inl ⟨rfl,rfl⟩) (by omega) (Nat.le_refl _) fun v10 hv10=>?_
 rw[hdr,List.take_of_length_le (by omega)] at hv10
 rw[Qi]
 refine Ge (T1 (Q4 l)) hS9.sat hv10 (fun c cs w7 K hc hs7 hr hlen hK=>Z8 (first:=[.pointer (some ⟨bt,0,none⟩)]) (caps:=[]) ?_) fun w7 hb7=>?_
 ·exact X2o hs7 ht9 hlenall hsmall hr fun w' σ' hk=>hK w' hk.bel
 have hS10:=hS9.trans (Stp.of_below hS9.sat hb7)
 refine P7 ?_
 rw[A5]
 cases hlo:l.findIdx? (T1 (Q4 l)) with
 | some i=>
  refine J7 ?_
  refine h1 _ _ _ _ ?_ hS10
  rw[hlo];rfl
 | none=>
  rw[hlo] at h1 h0
  simp only at h1 h0
  refine Z7 ?_
  have hlo': ∀c∈l,T1 (Q4 l) c=false:=fun c hc=>List.findIdx?_eq_none_iff.1 hlo c hc
  have hacy:=Q6r hown (fun c hc=>(hcf c hc).2.2) hlo'
  have hfull:X0V (Q4 l):=fun c hc u hu=>by
   rcases List.mem_append.1 hc with hc | hc
   ·rw[(Jw c hc).2.2] at hu;simp at hu
   ·have:=hup c hc
    unfold D2 at this
    split at this
    ·simp at this
    ·split at this
     ·simp at this
     ·rename_i hnb
      have hnb:c.like.any (R5 (Q4 l))=false:=eq_false_of_ne_true hnb
      have:=List.any_eq_false.1 hnb u hu
      unfold R5 at this
      cases hd:lk (Q4 l) u with
      | none=>rw[hd] at this;simp at this
      | some d=>exact ⟨d,rfl⟩
  have hok:Ok (Q4 l):=⟨hacy,hlenall,hsmall,hfull,hnmall⟩
  refine X2e (frm:=8) hS10.sat (ht9.lift ⟨(Stp.of_below hS9.sat hb7).le⟩) hacy hown hlenall hsmall (by omega) (by omega) fun v11 w8 σ11 hk11 hv11 hol hoi=>?_
  have hS11:=hS10.trans hk11
  have ht11:=ht9.lift ⟨fun b o e=>hk11.le _ _ e⟩
  refine Q8 hv11 ?_
  have hil:(ints (W0 (Q4 l) 8)).length=(W0 (Q4 l) 8).length:=by simp
  rw[hil]
  refine U3 (W0 (Q4 l) 8).length (fun n w'=> ∃σ',Stp w σ w' σ'∧SLe σ11 σ'∧ ∀j∈(W0 (Q4 l) 8).take n,V9 (Q4 l) ((Q4 l).getD j Cla.zero)=0) ⟨σ11,hS11,SLe.refl _,by simp⟩ fun n w9 d hn hinv=>?_
  obtain ⟨σ12,hS12,le12,hno⟩:=hinv
  refine Y9 ?_
  refine Q7 (fun hh=>?_) (fun hh=>?_)
  ·have hn':n<(W0 (Q4 l) 8).length:=by simpa using hh
   refine N0 (hv11.lift le12) (by rw[hil];exact hn') fun p cells hl1 hl2 hr1=>?_
   obtain ⟨rfl,_⟩:=hr1
   refine X7 hS12.sat hl1 rfl ?_
   simp only[List.getElem_map]
   rw[L8,fa]
   have le8x:SLe σ8 σ12:=le9.more (SLe.more ⟨hk11.le⟩ le12)
   refine ld hS12.sat (hb8.lift le8x) rfl ?_
   have hji:=hoi _ (List.getElem_mem hn')
   refine N0 (hv8.lift le8x) hji fun p2 cells hl1 hl2 hr1=>?_
   refine Y4 hS12.sat hl1 hl2 ?_
   have hat:(Q4 l).getD (W0 (Q4 l) 8)[n] Cla.zero=(Q4 l)[(W0 (Q4 l) 8)[n]]:=by rw[List.getD_eq_getElem?_getD,List.getElem?_eq_getElem hji];rfl
   have hmem:=List.getElem_mem hji
   refine Q9u hS12.sat (ht11.lift le12) hok hr1 (hsmall _ hmem) (hnmall _ hmem) fun w10 σ13 hk13=>?_
   have hS13:=hS12.trans hk13
   refine Za ?_
   refine Q7 (fun hh2=>?_) (fun hh2=>?_)
   ·have hne: ¬V9 (Q4 l) (Q4 l)[(W0 (Q4 l) 8)[n]]=0:=by simpa using hh2
    refine Zp ⟨by omega,by omega⟩ ?_
    have hfind:(W0 (Q4 l) 8).find? (fun j=> !decide (V9 (Q4 l) ((Q4 l).getD j Cla.zero)=0))=some (W0 (Q4 l) 8)[n]:=by
     rw[List.find?_eq_some_iff_getElem]
     refine ⟨by rw[hat];simpa using hne,n,hn',rfl,fun j hj=>?_⟩
     have:=hno _ (List.mem_take_iff_getElem.2 ⟨j,by omega,rfl⟩)
     rw[this];simp
    have:=h1 (((W0 (Q4 l) 8)[n]:Int)-8) (V9 (Q4 l) (Q4 l)[(W0 (Q4 l) 8)[n]]) w10 σ13 (by rw[hfind];simp only[hat]) hS13
    exact this
   ·have hz:V9 (Q4 l) (Q4 l)[(W0 (Q4 l) 8)[n]]=0:=by simpa using hh2
    refine N3 ?_
    refine Y5 (by omega) hn' ⟨σ13,hS13,le12.more ⟨hk13.le⟩,fun j hj=>?_⟩
    rw[List.take_add_one,List.getElem?_eq_getElem hn'] at hj
    rcases List.mem_append.1 hj with hj | hj
    ·exact hno j hj
    ·simp at hj;subst hj;rw[hat];exact hz
  ·have hn': ¬n<(W0 (Q4 l) 8).length:=by simpa using hh
   rw[List.take_of_length_le (by omega)] at hno
   have hfind:(W0 (Q4 l) 8).find? (fun j=> !decide (V9 (Q4 l) ((Q4 l).getD j Cla.zero)=0))=none:=by
    rw[List.find?_eq_none]
    intro j hj
    rw[hno j hj];simp
   rw[hfind] at h0
   exact h0 _ _ _ rfl hS12 (ht11.lift le12) hok hown)
end Go.Proofs.YtjdiakhipmggjaaGreatDoor

namespace Go.Hm
open Go.Kd
def Q9J (m:Hm.Met):Bool:= !(decide (50<m.code.length)||decide (8<m.params.length)||decide (8<m.catches.length))
def X1f (c:Cla):Bool:= !(decide (6<c.like.length)||decide (6<c.fields.length)||decide (6<c.methods.length))&&c.methods.all Q9J
def X0Y (l:List Cla):Bool:= !decide (12<l.length)&&l.all X1f
theorem Q9W {l:List Cla} (h:X0Y l=true):l.length≤12∧ ∀c∈l,X1f c=true:=by
 simp only[X0Y,Bool.and_eq_true,Bool.not_eq_true',decide_eq_false_iff_not,List.all_eq_true] at h
 exact ⟨by omega,h.2⟩
theorem X30 {l:List Cla} (h:X0Y l=true): ∀c∈l,Qs c:=by
 intro c e
 have:=(Q9W h).2 c e
 simp only[X1f,Q9J,Bool.and_eq_true,Bool.not_eq_true',Bool.or_eq_false_iff,decide_eq_false_iff_not,List.all_eq_true] at this
 obtain ⟨⟨⟨a,b⟩,g⟩,d⟩:=this
 refine ⟨by omega,by omega,by omega,fun m f=>?_⟩
 obtain ⟨⟨p,q⟩,r⟩:=d m f
 exact ⟨by omega,by omega,by omega⟩
end Go.Hm
namespace Go.Proofs.YtjdiakhipmggjaaGreatDoor
open Go.Emb Go.RowKit Go.Kd Go.Hm
variable {w : World} {K : Value → World → Prop} {σ : Q6} {v : Value} {l : List Cla}
end Go.Proofs.YtjdiakhipmggjaaGreatDoor

namespace Go.Proofs.YtjdiakhipmggjaaGreatDoor
open Go.Emb Go.RowKit Go.Kd Go.Hm
variable {w : World} {K : Value → World → Prop} {σ : Q6} {v : Value} {l : List Cla}
theorem X4e:P.underlying T.r=some (.pointer T.a0):=by kernel_rfl
theorem Q5s (d:Nat) (o:Option Addr):(Op.equalIn (d+1) T.r (.pointer o) (.pointer none)).run P w= .ok o.isNone w:=by
 cases o<;>simp[Op.equalIn,run_underlying X4e]
theorem X2X {a:Addr} {b c:Operand} (h:K (.bool false) w):Q3 P .eql T.r b c (.pointer (some a)) (.pointer none) w K:=by
 have e:(Op.equal T.r (.pointer (some a)) (.pointer none)).run P w= .ok false w:=Q5s 9999 _
 unfold Q3
 rw[Y0 (v:= .bool false) (w':=w) (by simp[eqGuard,Go.binOp,e])]
 exact h
end Go.Proofs.YtjdiakhipmggjaaGreatDoor

namespace Go.Hm
open Go.Kd
theorem Q62 {l:List Cla} {frm:Nat}: ∀(f:Nat) (a:List Nat) (i:Nat),(∀y∈a,y∈Qb l frm f a i)∧(0<f→frm≤i→i∈Qb l frm f a i):=by
 intro f
 induction f with
 | zero=>intro a i;exact ⟨fun y b=>b,fun h=>by omega⟩
 | succ f g=>
  intro a i
  have c: ∀(d:List X0) (o:List Nat),∀y∈o,y∈d.foldl (fun a n=>Qb l frm f a ((Z3 l n).getD 0)) o:=by
   intro d
   induction d with
   | nil=>intro o y b;exact b
   | cons u r e=>intro o y b;exact e _ y ((g o _).1 y b)
  simp only[Qb]
  split
  ·exact ⟨fun y b=>b,fun _ h=>by omega⟩
  ·split
   ·rename_i h;exact ⟨fun y b=>b,fun _ _=>h⟩
   ·exact ⟨fun y b=>List.mem_append_left _ (c _ _ y b),fun _ _=>by simp⟩
theorem Q9t {l:List Cla} {frm i:Nat} (e:frm≤i) (f:i<l.length):i∈W0 l frm:=by
 unfold W0
 have key: ∀(is b:List Nat),(∀y∈b,y∈is.foldl (fun b i=>Qb l frm (l.length+1) b i) b)∧(i∈is→i∈is.foldl (fun b i=>Qb l frm (l.length+1) b i) b):=by
  intro is
  induction is with
  | nil=>intro b;exact ⟨fun y d=>d,fun h=>by simp at h⟩
  | cons a r c=>
   intro b
   refine ⟨fun y d=>(c _).1 y ((Q62 _ _ _).1 y d),fun h=>?_⟩
   rcases List.mem_cons.1 h with rfl | h
   ·exact (c _).1 _ ((Q62 _ _ _).2 (by omega) e)
   ·exact (c _).2 h
 refine (key _ _).2 ?_
 rw[List.mem_drop_iff_getElem]
 exact ⟨i-frm,by simp;omega,by simp;omega⟩
theorem Q9p {s:X0} (h:M9 s=true):name s=true:=Nd (by rw[h,Bool.or_true])
theorem Q6g {a:X0} (h:name a=true):arr a=false:=by
 cases d:arr a with
 | false=>rfl
 | true=>
  exfalso
  have e:2≤a.length∧a.drop (a.length-2)=[91,93]:=by simpa [arr] using d
  have b:(93:UInt8)∈a:=List.mem_of_mem_drop (i:=a.length-2) (by rw[e.2];simp)
  cases a with
  | nil=>simp at b
  | cons c r=>
   simp only[name,Bool.and_eq_true,List.all_eq_true] at h
   have:=h.2 _ b
   revert this;decide
end Go.Hm
namespace Go.Proofs.YtjdiakhipmggjaaGreatDoor
open Go.Emb Go.RowKit Go.Kd Go.Hm
theorem Q9h {a:X0} (h:name a=true):base a=(a,0):=by rw[Xy,Q6g h];simp
theorem Na {s:X0} (h:M9 s=true):arr s=false∧base s=(s,0)∧right s=true∧plain s=false∧elem s=[]∧s≠H8∧s≠[]:=by
 have a:=Hm.Q9p h
 have b:=Q6g a
 have d:=Q9h a
 refine ⟨b,d,?_,?_,by simp[elem,b],?_,?_⟩
 ·simp[right,d,h]
 ·cases c:plain s with
  | false=>rfl
  | true=>
   simp only[plain,Bool.or_eq_true,decide_eq_true_eq] at c
   rcases c with (e | e) | e<;>subst e<;>revert h<;>decide
 ·rintro rfl;revert h;decide
 ·rintro rfl;revert h;decide
structure Wf (l : List Cla) : Prop where
  ck : ∀ c ∈ l, D3 c = 0
  own : T9 (Q4 l)
  acy : Jc (Q4 l)
  up : ∀ c ∈ l, D2 (Q4 l) c = 0
  mem : ∀ c ∈ l, V9 (Q4 l) c = 0
theorem X49 {l:List Cla} (h:Sh D3 l=none):Wf l:=by
 unfold Sh at h
 split at h
 ·cases h
 rename_i j
 split at h
 ·cases h
 rename_i p
 split at h
 ·cases h
 rename_i k
 split at h
 ·cases h
 rename_i n
 split at h
 ·cases h
 rename_i o
 have d:=T0 j
 have a:=Kq p
 have g: ∀c∈l,T1 (Q4 l) c=false:=fun c b=>List.findIdx?_eq_none_iff.1 n c b
 refine ⟨d,a,Q6r a (fun c b=>(Fe (d c b)).2.2) g,fun c b=>by have:=T0 k c b;omega,fun c b=>?_⟩
 obtain ⟨i,m,rfl⟩:=List.getElem_of_mem b
 have f:I2.length=8:=rfl
 have:=List.find?_eq_none.1 o (8+i) (Q9t (by omega) (by simp[Q4,f];omega))
 have e:(Q4 l).getD (8+i) Cla.zero=l[i]:=by
  rw[List.getD_eq_getElem?_getD,Q4,List.getElem?_append_right (by omega),f,show 8+i-8=i by omega,List.getElem?_eq_getElem m];rfl
 rw[e] at this
 simpa using this
section
variable {l : List Cla} (wf : Wf l)
include wf
theorem Wf.names {c:Cla} (hc:c∈Q4 l):M9 c.name=true:=by
 rcases List.mem_append.1 hc with hc | hc
 ·have: ∀c∈I2,M9 c.name=true:=by decide+kernel
  exact this c hc
 ·have:=wf.ck c hc
  unfold D3 at this
  split at this
  ·cases this
  ·split at this
   ·rename_i a
    simp only[Mu,Bool.and_eq_true] at a
    obtain ⟨⟨⟨⟨⟨⟨⟨⟨b,_⟩,_⟩,_⟩,_⟩,_⟩,_⟩,_⟩,_⟩:=a
    exact List.all_eq_true.1 b c.name (by simp)
   ·cases this
theorem Wf.lkn {n:X0} {c:Cla} (h:lk (Q4 l) n=some c):M9 n=true:=by
 obtain ⟨e,a,_⟩:=V3 h
 rw[←e];exact wf.names a
theorem Wf.root:lk (Q4 l) U1=some ⟨U1,[],[],false,false,false,[],[]⟩:=wf.own.lk (c:=⟨U1,[],[],false,false,false,[],[]⟩) (List.mem_append_left _ (by decide))
theorem Wf.fault:lk (Q4 l) L5=some ⟨L5,U1,[],false,false,false,[⟨Qm,D0,false⟩],[]⟩:=wf.own.lk (c:=⟨L5,U1,[],false,false,false,[⟨Qm,D0,false⟩],[]⟩) (List.mem_append_left _ (by decide))
theorem Wf.super {c:Cla} (hc:c∈Q4 l):c.name=U1∨ ∃d,lk (Q4 l) c.super=some d:=by
 rcases List.mem_append.1 hc with hc | hc
 ·have: ∀c∈I2,c.name=U1∨c.super=U1∨c.super=L5:=by decide
  rcases this c hc with h | h | h
  ·exact .inl h
  ·exact .inr ⟨_,h▸wf.root⟩
  ·exact .inr ⟨_,h▸wf.fault⟩
 ·right
  have:=wf.up c hc
  unfold D2 at this
  split at this
  ·cases this
  ·rename_i h
   unfold Qy at h
   cases a:lk (Q4 l) c.super with
   | none=>rw[a] at h;simp at h
   | some d=>exact ⟨d,rfl⟩
theorem Wf.toRoot: ∀(k:Nat) {n:X0} {c:Cla},K8 (Q4 l) n<k→lk (Q4 l) n=some c→Hm.Reach (lk (Q4 l)) n U1:=by
 intro k
 induction k with
 | zero=>intro n c h;omega
 | succ k g=>
  intro n c j a
  obtain ⟨e,i,_⟩:=V3 a
  rcases wf.super i with h | ⟨d,f⟩
  ·rw[←e,h];exact .refl wf.root
  ·have b:c.super∈U4 c:=by simp[U4]
   exact .step a b (g (by have:=Yb wf.acy a b f;omega) f)
theorem Wf.atRoot {b:X0} (h:Hm.Reach (lk (Q4 l)) U1 b):b=U1:=by
 cases h with
 | refl=>rfl
 | step a c e=>
  rw[wf.root] at a;cases a
  simp[U4] at c;subst c
  obtain ⟨d,f⟩:=e.left
  exact absurd (wf.lkn f) (by decide)
theorem Wf.kind {n:X0} {c:Cla} (h:lk (Q4 l) n=some c):N1 (Q4 l) n=true:=by
 obtain ⟨e,b,a,f,g,d,i⟩:=Na (wf.lkn h)
 have:Q1r (Q4 l) n=true:=by rw[Q1S,h];rfl
 simp[N1,a,b,this]
theorem Wf.sub_iff {a b:X0}:Xo (Q4 l) a b=true↔N1 (Q4 l) a=true∧N1 (Q4 l) b=true∧(a=b∨(plain a=false∧plain b=false∧(a=H8∨(elem a≠[]∧b=U1)∨(lk (Q4 l) a≠none∧Hm.Reach (lk (Q4 l)) a b)))):=by
 unfold Xo
 cases k:N1 (Q4 l) a<;>cases j:N1 (Q4 l) b<;>simp
 by_cases e:a=b
 ·simp[e]
 cases pa:plain a<;>cases m:plain b<;>simp[e]
 by_cases f:a=H8
 ·simp[f]
 simp only[f,false_or]
 by_cases d:elem a=[]
 ·simp only[d,if_true,not_true_eq_false,false_and,false_or,Vc]
  constructor
  ·intro h;obtain ⟨c,i⟩:=h.left;exact ⟨by rw[i];simp,h⟩
  ·intro h;exact h.2
 ·simp only[d,if_false,not_false_eq_true,true_and]
  constructor
  ·exact .inl
  ·rintro (h | ⟨h,_⟩)
   ·exact h
   ·cases g:lk (Q4 l) a with
    | none=>exact absurd g h
    | some c=>exact absurd (Na (wf.lkn g)).2.2.2.2.1 d
theorem Wf.sub_class {a b:X0} {c:Cla} (e:lk (Q4 l) a=some c):Xo (Q4 l) a b=true↔Hm.Reach (lk (Q4 l)) a b:=by
 obtain ⟨k,n,m,i,j,g,o⟩:=Na (wf.lkn e)
 rw[wf.sub_iff]
 constructor
 ·rintro ⟨_,_,rfl | ⟨_,_,h | ⟨h,_⟩ | ⟨_,h⟩⟩⟩
  ·exact .refl e
  ·exact absurd h g
  ·exact absurd j h
  ·exact h
 ·intro h
  obtain ⟨d,f⟩:=h.right
  exact ⟨wf.kind e,wf.kind f, .inr ⟨i,(Na (wf.lkn f)).2.2.2.1, .inr (.inr ⟨by rw[e];simp,h⟩)⟩⟩
end
end Go.Proofs.YtjdiakhipmggjaaGreatDoor

namespace Go.Proofs.YtjdiakhipmggjaaGreatDoor
open Go.Emb Go.RowKit Go.Kd Go.Hm
theorem Q7m {L:List Cla} (g:Jc L): ∀(k:Nat) {n:X0} {c:Cla},K8 L n<k→c∈chain L n→Hm.Reach (lk L) n c.name∧lk L c.name=some c:=by
 intro k
 induction k with
 | zero=>intro n c h;omega
 | succ k j=>
  intro n c p hc
  rw[Qc g] at hc
  cases a:lk L n with
  | none=>rw[a] at hc;simp at hc
  | some d=>
   rw[a] at hc
   have b:=(V3 a).1
   rcases List.mem_cons.1 hc with rfl | hc
   ·rw[b];exact ⟨.refl a,a⟩
   ·cases i:lk L d.super with
    | none=>rw[Ym i] at hc;simp at hc
    | some e=>
     have f:d.super∈U4 d:=by simp[U4]
     obtain ⟨m,o⟩:=j (by have:=Yb g a f i;omega) hc
     exact ⟨.step a f m,o⟩
theorem X0r {l:List Cla} {a:X0} (h:N1 (Q4 l) a=true) (f:plain a=false):a=H8∨elem a≠[]∨ ∃c,lk (Q4 l) a=some c:=by
 simp only[N1,Bool.or_eq_true,decide_eq_true_eq,Bool.and_eq_true] at h
 rcases h with h | ⟨e,h⟩
 ·exact .inl h
 ·by_cases d:elem a=[]
  ·right;right
   have b:arr a=false:=by
    cases b:arr a with
    | false=>rfl
    | true=>
     have i:=Q4u b e
     have:elem a=Kd.cutA a:=by simp[elem,b,e]
     rw[this] at d
     have:=K5 b
     rw[d] at this;simp at this;omega
   have g:base a=(a,0):=by rw[Xy,b];simp
   rw[g,f] at h
   have h:Q1r (Q4 l) a=true:=by simpa using h
   rw[Q1S] at h
   exact Option.isSome_iff_exists.1 h
  ·exact .inr (.inl d)
section
variable {l : List Cla} (wf : Wf l)
include wf
theorem Wf.kRoot:N1 (Q4 l) U1=true:=wf.kind wf.root
theorem Wf.lkArr {a:X0} {c:Cla} (h:lk (Q4 l) a=some c):elem a=[]:=(Na (wf.lkn h)).2.2.2.2.1
theorem Wf.none_null:lk (Q4 l) H8=none:=by
 cases h:lk (Q4 l) H8 with
 | none=>rfl
 | some c=>exact absurd (wf.lkn h) (by decide)
theorem Wf.sub_root {a:X0} (h:N1 (Q4 l) a=true) (b:plain a=false):Xo (Q4 l) a U1=true:=by
 rw[wf.sub_iff]
 refine ⟨h,wf.kRoot, .inr ⟨b,by decide,?_⟩⟩
 rcases X0r h b with e | e | ⟨c,e⟩
 ·exact .inl e
 ·exact .inr (.inl ⟨e,rfl⟩)
 ·exact .inr (.inr ⟨by rw[e];simp,wf.toRoot _ (Nat.lt_succ_self _) e⟩)
theorem Wf.sub_refl {a:X0} (h:N1 (Q4 l) a=true):Xo (Q4 l) a a=true:=wf.sub_iff.2 ⟨h,h, .inl rfl⟩
end
end Go.Proofs.YtjdiakhipmggjaaGreatDoor

namespace Go.Proofs.YtjdiakhipmggjaaGreatDoor
open Go.Emb Go.RowKit Go.Kd Go.Hm
theorem Q6O {c:Cla} (h:D3 c=0):M9 c.name=true∧M9 c.super=true∧(c.iface=true→c.super=U1∧c.fields=[]∧c.abs=true∧ ∀m∈c.methods,m.abs=true)∧(∀m∈c.methods,m.abs=true→c.abs=true)∧c.fields.all Ey=true∧c.methods.all I9=true∧B0 Fld.name [] c.fields=true∧B0 Hm.Met.name [] c.methods=true:=by
 unfold D3 at h
 split at h
 ·cases h
 split at h
 ·rename_i j
  simp only[Mu,Bool.and_eq_true] at j
  obtain ⟨⟨⟨⟨⟨⟨⟨⟨k,u⟩,v⟩,i⟩,f⟩,q⟩,o⟩,n⟩,s⟩:=j
  refine ⟨List.all_eq_true.1 k c.name (by simp),List.all_eq_true.1 k c.super (by simp),fun t=>?_,fun m g r=>?_,n,s,q,o⟩
  ·rw[t] at i
   simp only[Bool.true_and,Bool.not_eq_true',Bool.or_eq_false_iff,Bool.not_eq_false',decide_eq_true_eq] at i
   obtain ⟨⟨⟨a,b⟩,d⟩,e⟩:=i
   refine ⟨b,d,a,fun m g=>?_⟩
   have:=List.any_eq_false.1 e m g
   simpa using this
  ·simp only[Bool.not_eq_true',Bool.or_eq_false_iff] at f
   obtain ⟨_,f⟩:=f
   have p:c.methods.any (·.abs)=true:=List.any_eq_true.2 ⟨m,g,r⟩
   rw[p] at f
   simpa using f
 ·cases h
theorem Q8V {l:List Cla} {c:Cla} (b:c∈Q4 l) (a:c.iface=true):c∈l:=by
 rcases List.mem_append.1 b with h | h
 ·have: ∀c∈I2,c.iface=false:=by decide
  rw[this c h] at a;cases a
 ·exact h
section
variable {l : List Cla} (wf : Wf l)
include wf
theorem Wf.likes {c:Cla} (f:c∈Q4 l) {u:X0} (b:u∈c.like): ∃d,lk (Q4 l) u=some d∧d.iface=true:=by
 rcases List.mem_append.1 f with h | h
 ·rw[(Jw c h).2.2] at b;simp at b
 ·have:=wf.up c h
  unfold D2 at this
  split at this
  ·cases this
  ·split at this
   ·cases this
   ·rename_i a
    have a:=List.any_eq_false.1 (eq_false_of_ne_true a) u b
    unfold R5 at a
    cases e:lk (Q4 l) u with
    | none=>rw[e] at a;simp at a
    | some d=>rw[e] at a;exact ⟨d,rfl,by simpa using a⟩
theorem Wf.above_iface {u b:X0} (h:Hm.Reach (lk (Q4 l)) u b): ∀d,lk (Q4 l) u=some d→d.iface=true→b=U1∨ ∃e,lk (Q4 l) b=some e∧e.iface=true:=by
 induction h with
 | refl h=>intro d c a;exact .inr ⟨d,c,a⟩
 | step j hu k m=>
  intro d c a
  rw[j] at c;cases c
  obtain ⟨e,i,_⟩:=V3 j
  rcases List.mem_cons.1 hu with rfl | hu
  ·rw[((Q6O (wf.ck _ (Q8V i a))).2.2.1 a).1] at k
   exact .inl (wf.atRoot k)
  ·obtain ⟨f,n,g⟩:=wf.likes i hu
   exact m f n g
theorem Wf.by_chain {n b:X0} (h:Hm.Reach (lk (Q4 l)) n b): ∀e,lk (Q4 l) b=some e→e.iface=false→b≠U1→e∈chain (Q4 l) n:=by
 induction h with
 | refl h=>
  intro e c _ _
  rw[Qc wf.acy,c];simp
 | step i hu p r=>
  intro e c k j
  obtain ⟨en,q,_⟩:=V3 i
  rcases List.mem_cons.1 hu with rfl | hu
  ·rw[Qc wf.acy,i]
   exact List.mem_cons_of_mem _ (r e c k j)
  ·obtain ⟨f,o,d⟩:=wf.likes q hu
   rcases wf.above_iface p f o d with h | ⟨g,m,a⟩
   ·exact absurd h j
   ·rw[c] at m;cases m;rw[k] at a;cases a
theorem Wf.chain_tail: ∀(k:Nat) {n:X0} {c:Cla},K8 (Q4 l) n<k→c∈chain (Q4 l) n→ ∃a,chain (Q4 l) n=a++chain (Q4 l) c.name:=by
 intro k
 induction k with
 | zero=>intro n c h;omega
 | succ k i=>
  intro n c o hc
  rw[Qc wf.acy] at hc
  cases b:lk (Q4 l) n with
  | none=>rw[b] at hc;simp at hc
  | some d=>
   rw[b] at hc
   have f:=(V3 b).1
   rcases List.mem_cons.1 hc with rfl | hc
   ·exact ⟨[],by rw[f];rfl⟩
   ·cases g:lk (Q4 l) d.super with
    | none=>rw[Ym g] at hc;simp at hc
    | some e=>
     have m:d.super∈U4 d:=by simp[U4]
     obtain ⟨a,j⟩:=i (by have:=Yb wf.acy b m g;omega) hc
     exact ⟨d::a,by rw[Qc wf.acy,b];show d::chain (Q4 l) d.super=_;rw[j];rfl⟩
theorem Wf.fields_tail {n:X0} {c:Cla} (h:c∈chain (Q4 l) n): ∃a,Y6 (Q4 l) n=Y6 (Q4 l) c.name++a:=by
 obtain ⟨b,d⟩:=wf.chain_tail _ (Nat.lt_succ_self _) h
 exact ⟨b.reverse.flatMap (·.fields),by unfold Y6;rw[d];simp⟩
theorem Wf.none_nil:lk (Q4 l) []=none:=by
 cases h:lk (Q4 l) [] with
 | none=>rfl
 | some c=>exact absurd (wf.lkn h) (by decide)
theorem Wf.fault_fields:Y6 (Q4 l) L5=[⟨Qm,D0,false⟩]:=by
 unfold Y6
 rw[Qc wf.acy,wf.fault]
 simp only
 rw[Qc wf.acy,wf.root]
 simp only
 rw[Ym wf.none_nil]
 rfl
theorem Wf.what {n:X0} (h:Xo (Q4 l) n L5=true) {c:Cla} (b:lk (Q4 l) n=some c):Ju (Q4 l) n Qm=some 0:=by
 have d:=(wf.sub_class b).1 h
 have e:=wf.by_chain d _ wf.fault rfl (by decide)
 obtain ⟨a,f⟩:=wf.fields_tail e
 unfold Ju
 rw[f,show (Cla.mk L5 U1 [] false false false [⟨Qm,D0,false⟩] []).name=L5 from rfl,wf.fault_fields]
 rfl
end
end Go.Proofs.YtjdiakhipmggjaaGreatDoor

namespace Go.Hm
open Go.Kd
end Go.Hm
namespace Go.Proofs.YtjdiakhipmggjaaGreatDoor
open Go.Emb Go.RowKit Go.Kd Go.Hm
section
variable {l : List Cla} (wf : Wf l)
include wf
end
end Go.Proofs.YtjdiakhipmggjaaGreatDoor
namespace Go.Proofs.YtjdiakhipmggjaaGreatDoor
open Go.Emb Go.RowKit Go.Kd Go.Hm
end Go.Proofs.YtjdiakhipmggjaaGreatDoor
namespace Go.Proofs.YtjdiakhipmggjaaGreatDoor
open Go.Emb Go.RowKit Go.Kd Go.Hm
section
variable {l : List Cla} (wf : Wf l)
include wf
end
end Go.Proofs.YtjdiakhipmggjaaGreatDoor

namespace Go.Hm
open Go.Kd
structure Val where
  sort : Int
  n : Int
  s : X0
  ref : Int
deriving DecidableEq
structure Cel where
  kind : X0
  vals : List Val
deriving DecidableEq
def Val.zero:Val:=⟨0,0,[],0⟩
def Cel.zero:Cel:=⟨[],[]⟩
def P9:X0:=[105,110,116]
def Jb:X0:=[98,111,111,108]
def M5 (k:X0):Val:=if k=P9 then ⟨1,0,[],0⟩ else if k=Jb then ⟨2,0,[],0⟩ else if k=D0 then ⟨3,0,[],0⟩ else Val.zero
def Z0 (cs:List Cel):Int:=(cs.map fun c=>1+(c.vals.length:Int)).sum
def W6 (room:Int) (cs:List Cel):Int:=room-Z0 cs
def M6 (cs:List Cel) (r:Int):Bool:=decide (0≤r)&&decide (r<cs.length)
def Wn (cs:List Cel) (r:Int):Cel:=cs.getD r.toNat Cel.zero
def D6 (cs:List Cel) (r:Int):X0:=if M6 cs r then (Wn cs r).kind else []
def Q6w (cs:List Cel) (r:Int):Int:=if M6 cs r then (Wn cs r).vals.length else 0
def P8 (ok:X0→Bool) (cs:List Cel) (v:Val):X0:=
 if v=Val.zero then H8 else if v=⟨1,v.n,[],0⟩ then P9 else if v=⟨2,v.n,[],0⟩∧(v.n=0∨v.n=1) then Jb
 else if v=⟨3,0,v.s,0⟩∧ok v.s=true then D0 else if v=⟨4,0,[],v.ref⟩ then D6 cs v.ref else []
def F4 (ok:X0→Bool) (l:List Cla) (cs:List Cel) (v:Val) (k:X0):Bool:= !decide (P8 ok cs v=[])&&Xo l (P8 ok cs v) k
def Zt (l:List Cla) (room:Int) (cs:List Cel) (k:X0):List Cel×Int:=
 if A9 l k=false then (cs,91) else if W6 room cs<1+((Y6 l k).length:Int) then (cs,90) else (cs++[⟨k,(Y6 l k).map fun f=>M5 f.kind⟩],0)
def G3 (l:List Cla) (e:X0):Bool:= !decide (e=H8)&&N1 l e&&decide (Xt e≤2)
def Zu (l:List Cla) (room:Int) (cs:List Cel) (e:X0) (n:Int):List Cel×Int:=
 if G3 l e=false then (cs,91) else if n<0 then (cs,93) else if W6 room cs≤n then (cs,90) else (cs++[⟨e++[91,93],List.replicate n.toNat (M5 e)⟩],0)
def E3 (cs:List Cel) (r a:Int):Int:=if M6 cs r then (if 0≤a∧a<((Wn cs r).vals.length:Int) then 0 else 93) else 92
def Ho (cs:List Cel) (r a:Int):Val:=if E3 cs r a=0 then (Wn cs r).vals.getD a.toNat Val.zero else Val.zero
def Xl (l:List Cla) (k:X0) (i:Nat):X0:=if elem k=[] then ((Y6 l k).getD i Fld.zero).kind else elem k
def F6 (cs:List Cel) (r a:Int) (v:Val):List Cel:=cs.set r.toNat ⟨(Wn cs r).kind,(Wn cs r).vals.set a.toNat v⟩
def H7 (ok:X0→Bool) (l:List Cla) (cs:List Cel) (r a:Int) (v:Val):List Cel×Int:=
 if E3 cs r a≠0 then (cs,E3 cs r a) else if F4 ok l cs v (Xl l (Wn cs r).kind a.toNat) then (F6 cs r a v,0) else (cs,91)
def G4 (n:Int) (v:Val):Bool:=decide (v.sort=4)&&decide (n≤v.ref)
def Iz (cs:List Cel) (n:Int):List Cel:=
 if (cs.take (max n 0).toNat).any (fun c=>c.vals.any (G4 (max n 0))) then cs else cs.take (max n 0).toNat
structure ActH where
  kind : Int
  s : X0
  n : Int
  ref : Int
  v : Val
deriving DecidableEq
def S7 (ok:X0→Bool) (l:List Cla) (room:Int) (cs:List Cel) (x:ActH):List Cel:=
 if x.kind=0 then (Zt l room cs x.s).1 else if x.kind=1 then (Zu l room cs x.s x.n).1 else if x.kind=2 then (H7 ok l cs x.ref x.n x.v).1
 else if x.kind=4 then Iz cs x.ref else cs
structure GoodC (ok : X0 → Bool) (l : List Cla) (cs : List Cel) (c : Cel) : Prop where
  is : elem c.kind ≠ [] ∨ (A9 l c.kind = true ∧ c.vals.length = (Y6 l c.kind).length)
  kd : N1 l c.kind = true
  fits : ∀ i (h : i < c.vals.length), F4 ok l cs c.vals[i] (Xl l c.kind i) = true
structure GoodH (ok : X0 → Bool) (l : List Cla) (room : Int) (cs : List Cel) : Prop where
  cells : ∀ c ∈ cs, GoodC ok l cs c
  left : 0 ≤ W6 room cs
theorem T7 (a b:List Cel):Z0 (a++b)=Z0 a+Z0 b:=by simp[Z0]
theorem M4 (a:List Cel):0≤Z0 a:=by
 unfold Z0
 induction a with
 | nil=>simp
 | cons c r b=>simp only[List.map_cons,List.sum_cons];omega
theorem T6 (a:List Cel):(a.length:Int)≤Z0 a:=by
 unfold Z0
 induction a with
 | nil=>simp
 | cons c r b=>simp only[List.map_cons,List.sum_cons,List.length_cons];omega
theorem D9 {cs:List Cel} {r:Int}:M6 cs r=true↔ ∃i:Nat,r=i∧i<cs.length:=by
 simp only[M6,Bool.and_eq_true,decide_eq_true_eq]
 constructor
 ·rintro ⟨a,b⟩;exact ⟨r.toNat,by omega,by omega⟩
 ·rintro ⟨i,rfl,h⟩;omega
theorem L4 {cs:List Cel} {i:Nat} (h:i<cs.length):Wn cs (i:Int)=cs[i]:=by
 unfold Wn;rw[Int.toNat_natCast,List.getD_eq_getElem?_getD,List.getElem?_eq_getElem h];rfl
theorem Zc {cs:List Cel} {i:Nat} (h:i<cs.length):D6 cs (i:Int)=cs[i].kind:=by
 unfold D6;rw[if_pos (D9.2 ⟨i,rfl,h⟩),L4 h]
theorem X1e {ok:X0→Bool} {cs a:List Cel} {v:Val} (h:v.sort=4→D6 cs v.ref≠[]→D6 a v.ref=D6 cs v.ref) (c:P8 ok cs v≠[]):P8 ok a v=P8 ok cs v:=by
 unfold P8 at*
 split
 ·rfl
 ·split
  ·rfl
  ·split
   ·rfl
   ·split
    ·rfl
    ·split
     ·rename_i d g e f b
      rw[if_neg d,if_neg g,if_neg e,if_neg f,if_pos b] at c
      exact h (by rw[b]) c
     ·rfl
theorem Rf {ok:X0→Bool} {l:List Cla} {cs a:List Cel} {v:Val} {k:X0} (h:v.sort=4→D6 cs v.ref≠[]→D6 a v.ref=D6 cs v.ref) (b:F4 ok l cs v k=true):F4 ok l a v k=true:=by
 unfold F4 at*
 have c:P8 ok cs v≠[]:=by
  intro e;rw[e] at b;simp at b
 rw[X1e h c];exact b
theorem Q8o {cs more:List Cel} {r:Int} (h:D6 cs r≠[]):D6 (cs++more) r=D6 cs r:=by
 have b:M6 cs r=true:=by
  cases c:M6 cs r with
  | true=>rfl
  | false=>unfold D6 at h;rw[c] at h;simp at h
 obtain ⟨i,rfl,a⟩:=D9.1 b
 rw[Zc a,Zc (by simp;omega),List.getElem_append_left a]
theorem GoodC.app {ok:X0→Bool} {l:List Cla} {cs more:List Cel} {c:Cel} (h:GoodC ok l cs c):GoodC ok l (cs++more) c:=
 ⟨h.is,h.kd,fun i a=>Rf (fun _ b=>Q8o b) (h.fits i a)⟩
section
variable {ok : X0 → Bool} {l : List Cla} {room : Int} {cs : List Cel}
theorem GoodH.snoc (h:GoodH ok l room cs) {c:Cel} (a:GoodC ok l (cs++[c]) c) (b:1+(c.vals.length:Int)≤W6 room cs):GoodH ok l room (cs++[c]):=by
 refine ⟨fun d hd=>?_,?_⟩
 ·rcases List.mem_append.1 hd with hd | hd
  ·exact (h.cells d hd).app
  ·simp at hd;subst hd;exact a
 ·unfold W6 at*;rw[T7];simp only[Z0,List.map_cons,List.map_nil,List.sum_cons,List.sum_nil] at*;omega
end
end Go.Hm
namespace Go.Proofs.YtjdiakhipmggjaaGreatDoor
open Go.Emb Go.RowKit Go.Kd Go.Hm
section
variable {l : List Cla} (wf : Wf l)
include wf
theorem Wf.field_kinds {n:X0} {f:Fld} (h:f∈Y6 (Q4 l) n):O8 (Q4 l) f.kind=true:=by
 unfold Y6 at h
 obtain ⟨c,i,e⟩:=List.mem_flatMap.1 h
 have k:=(Q7m wf.acy _ (Nat.lt_succ_self _) (by simpa using i)).2
 obtain ⟨_,a,_⟩:=V3 k
 rcases List.mem_append.1 a with g | hl
 ·have d: ∀c∈I2,∀f∈c.fields,f.kind=D0:=by decide
  rw[d c g f e]
  have:N1 (Q4 l) D0=true:=by
   have j:right D0=true:=by decide
   have m:plain (base D0).1=true:=by decide
   simp[N1,j,m]
  simp[O8,this];decide
 ·have:=wf.mem c hl
  unfold V9 at this
  split at this
  ·cases this
  ·split at this
   ·cases this
   ·rename_i b
    have b:B6 (Q4 l) c=false:=eq_false_of_ne_true b
    unfold B6 at b
    rw[Bool.or_eq_false_iff] at b
    have:=List.any_eq_false.1 b.1 f e
    simpa using this
theorem Wf.zero_fits {ok:X0→Bool} (g:ok []=true) {cs:List Cel} {k:X0} (h:O8 (Q4 l) k=true):F4 ok (Q4 l) cs (M5 k) k=true:=by
 have b:N1 (Q4 l) k=true∧k≠H8:=by
  simp only[O8,Bool.and_eq_true,Bool.not_eq_true',decide_eq_false_iff_not] at h;exact ⟨h.2,h.1⟩
 by_cases d:k=P9
 ·subst d
  have:F4 ok (Q4 l) cs (M5 P9) P9=Xo (Q4 l) P9 P9:=by
   unfold F4;simp[M5,P8,Val.zero,P9]
  rw[this];exact wf.sub_refl b.1
 by_cases c:k=Jb
 ·subst c
  have:F4 ok (Q4 l) cs (M5 Jb) Jb=Xo (Q4 l) Jb Jb:=by
   unfold F4;simp[M5,P8,Val.zero,Jb,P9]
  rw[this];exact wf.sub_refl b.1
 by_cases f:k=D0
 ·subst f
  have:F4 ok (Q4 l) cs (M5 D0) D0=Xo (Q4 l) D0 D0:=by
   unfold F4;simp[M5,P8,Val.zero,Jb,P9,D0,g]
  rw[this];exact wf.sub_refl b.1
 ·have i:M5 k=Val.zero:=by simp[M5,d,c,f]
  have:F4 ok (Q4 l) cs (M5 k) k=Xo (Q4 l) H8 k:=by
   rw[i];unfold F4 P8;simp[H8]
  rw[this]
  have a:plain k=false:=by
   cases a:plain k with
   | false=>rfl
   | true=>
    simp only[plain,Bool.or_eq_true,decide_eq_true_eq] at a
    rcases a with (e | e) | e
    ·exact absurd e d
    ·exact absurd e c
    ·exact absurd e f
  exact wf.sub_iff.2 ⟨by simp[N1],b.1, .inr ⟨by decide,a, .inl rfl⟩⟩
end
theorem Q6t (a:X0):arr (a++[91,93])=true:=by
 simp[arr]
theorem Q6v (a:X0):Kd.cutA (a++[91,93])=a:=by
 simp[Kd.cutA]
theorem Q0F (a:X0):base (a++[91,93])=((base a).1,(base a).2+1):=by
 rw[Xy,Q6t,if_pos rfl,Q6v]
theorem Q8Y {a:X0} (h:right a=true) (b:(base a).2≤2):right (a++[91,93])=true:=by
 unfold right at*
 rw[Q0F]
 simp only[Bool.and_eq_true,decide_eq_true_eq] at*
 exact ⟨by omega,h.2⟩
theorem Q9Z {a:X0} (h:right (a++[91,93])=true):elem (a++[91,93])=a:=by
 unfold elem;rw[Q6t,h,Q6v];rfl
theorem Q8x {l:List Cla} {e:X0}:G3 l e=true↔O8 l e=true∧right (e++[91,93])=true:=by
 unfold G3 O8
 simp only[Bool.and_eq_true,Bool.not_eq_true',decide_eq_false_iff_not,decide_eq_true_eq]
 constructor
 ·rintro ⟨⟨b,h2⟩,a⟩
  have c:right e=true:=by
   unfold N1 at h2
   simp only[Bool.or_eq_true,Bool.and_eq_true,decide_eq_true_eq] at h2
   rcases h2 with h2 | h2
   ·exact absurd h2 b
   ·exact h2.1
  unfold Xt at a
  rw[if_pos c] at a
  exact ⟨⟨b,h2⟩,Q8Y c a⟩
 ·rintro ⟨⟨b,h2⟩,a⟩
  refine ⟨⟨b,h2⟩,?_⟩
  unfold right at a
  rw[Q0F] at a
  simp only[Bool.and_eq_true,decide_eq_true_eq] at a
  unfold Xt
  split
  ·omega
  ·omega
section
variable {ok : X0 → Bool} {l : List Cla} {room : Int} {cs : List Cel}
theorem GoodH.obj (wf:Wf l) (f:ok []=true) (h:GoodH ok (Q4 l) room cs) (k:X0):GoodH ok (Q4 l) room (Zt (Q4 l) room cs k).1:=by
 unfold Zt
 split
 ·exact h
 split
 ·exact h
 rename_i a j
 have a:A9 (Q4 l) k=true:=by simpa using a
 have e: ∃c,lk (Q4 l) k=some c:=by
  unfold A9 at a
  cases b:lk (Q4 l) k with
  | none=>rw[b] at a;cases a
  | some c=>exact ⟨c,rfl⟩
 obtain ⟨c,b⟩:=e
 have g:elem k=[]:=wf.lkArr b
 refine h.snoc ⟨.inr ⟨a,by simp⟩,wf.kind b,fun i d=>?_⟩ (by simp only[List.length_map];omega)
 simp only[List.length_map] at d
 simp only[List.getElem_map,Xl,g,if_pos]
 rw[List.getD_eq_getElem?_getD,List.getElem?_eq_getElem d]
 exact wf.zero_fits f (wf.field_kinds (List.getElem_mem d))
theorem GoodH.arr (wf:Wf l) (k:ok []=true) (h:GoodH ok (Q4 l) room cs) (e:X0) (n:Int):GoodH ok (Q4 l) room (Zu (Q4 l) room cs e n).1:=by
 unfold Zu
 split
 ·exact h
 split
 ·exact h
 split
 ·exact h
 rename_i c p m
 have c:G3 (Q4 l) e=true:=by simpa using c
 obtain ⟨g,f⟩:=Q8x.1 c
 have j:=Q9Z f
 have a:e≠[]:=by
  rintro rfl
  revert f;decide
 have b:N1 (Q4 l) (e++[91,93])=true:=by
  have b:=g
  unfold O8 at b
  simp only[Bool.and_eq_true,Bool.not_eq_true',decide_eq_false_iff_not] at b
  obtain ⟨d,hk2⟩:=b
  unfold N1 at hk2⊢
  simp only[Bool.or_eq_true,Bool.and_eq_true,decide_eq_true_eq] at hk2⊢
  rcases hk2 with hk2 | hk2
  ·exact absurd hk2 d
  ·right;rw[Q0F];exact ⟨f,hk2.2⟩
 refine h.snoc ⟨.inl (by simp only;rw[j];exact a),b,fun i o=>?_⟩ (by simp only[List.length_replicate];omega)
 simp only[List.getElem_replicate,Xl,j,if_neg a]
 exact wf.zero_fits k g
theorem Q31 {r b x:Int} {v:Val} (g:M6 cs r=true):D6 (F6 cs r b v) x=D6 cs x:=by
 obtain ⟨i,rfl,f⟩:=D9.1 g
 have a:(F6 cs i b v).length=cs.length:=by simp[F6]
 cases c:M6 cs x with
 | false=>
  have:M6 (F6 cs i b v) x=false:=by unfold M6 at*;rw[a];exact c
  unfold D6;rw[c,this];rfl
 | true=>
  obtain ⟨j,rfl,d⟩:=D9.1 c
  rw[Zc d,Zc (by rw[a];exact d)]
  simp only[F6,Int.toNat_natCast,L4 f,List.getElem_set]
  split
  ·rename_i e;subst e;rfl
  ·rfl
theorem Lw {r a:Int} (h:E3 cs r a=0): ∃i j:Nat,r=i∧a=j∧ ∃(b:i<cs.length),j<(cs[i]).vals.length:=by
 unfold E3 at h
 split at h
 ·rename_i c
  obtain ⟨i,rfl,b⟩:=D9.1 c
  split at h
  ·rename_i d
   rw[L4 b] at d
   exact ⟨i,a.toNat,rfl,by omega,b,by omega⟩
  ·cases h
 ·cases h
theorem GoodH.set (h:GoodH ok (Q4 l) room cs) (r m:Int) (v:Val):GoodH ok (Q4 l) room (H7 ok (Q4 l) cs r m v).1:=by
 unfold H7
 split
 ·exact h
 rename_i s
 have s:E3 cs r m=0:=by simpa using s
 split
 ·rename_i t
  obtain ⟨i,j,rfl,rfl,g,C⟩:=Lw s
  have z:M6 cs (i:Int)=true:=D9.2 ⟨i,rfl,g⟩
  rw[L4 g,Int.toNat_natCast] at t
  refine ⟨fun c B=>?_,?_⟩
  ·have a: ∀{u:Val} {k:X0},F4 ok (Q4 l) cs u k=true→F4 ok (Q4 l) (F6 cs i j v) u k=true:=fun w=>Rf (fun _ _=>Q31 z) w
   have b: ∀d∈cs,GoodC ok (Q4 l) (F6 cs i j v) d:=fun d o=>⟨(h.cells d o).is,(h.cells d o).kd,fun q n=>a ((h.cells d o).fits q n)⟩
   have f:c∈cs.set i ⟨cs[i].kind,cs[i].vals.set j v⟩:=by simpa [F6,L4 g] using B
   rcases List.mem_or_eq_of_mem_set f with f | rfl
   ·exact b c f
   ·have p:=b _ (List.getElem_mem g)
    refine ⟨by simpa using p.is,p.kd,fun q n=>?_⟩
    simp only[List.length_set] at n
    simp only[List.getElem_set]
    split
    ·rename_i e;subst e;exact a t
    ·exact p.fits q n
  ·have e:Z0 (F6 cs i j v)=Z0 cs:=by
    unfold Z0
    congr 1
    have A:(F6 cs i j v).map (fun c=>1+(c.vals.length:Int))=cs.map (fun c=>1+(c.vals.length:Int)):=by
     unfold F6
     rw[List.map_set,L4 g]
     simp only[List.length_set,Int.toNat_natCast]
     have y:1+(cs[i].vals.length:Int)=(cs.map (fun c=>1+(c.vals.length:Int)))[i]'(by simpa using g):=by simp
     rw[y,List.set_getElem_self]
    exact A
   have:=h.left
   unfold W6 at*
   rw[e];exact this
 ·exact h
theorem GoodH.cut (h:GoodH ok (Q4 l) room cs) (n:Int):GoodH ok (Q4 l) room (Iz cs n):=by
 unfold Iz
 split
 ·exact h
 rename_i hn
 have hn:=eq_false_of_ne_true hn
 generalize hm:max n 0=m at*
 have hm0:0≤m:=by omega
 refine ⟨fun c hc=>?_,?_⟩
 ·have hcs:=List.mem_of_mem_take hc
  refine ⟨(h.cells c hcs).is,(h.cells c hcs).kd,fun i hi=>Rf (fun h4 hk=>?_) ((h.cells c hcs).fits i hi)⟩
  have h1:=List.any_eq_false.1 hn c hc
  have h2: ¬G4 m c.vals[i]=true:=fun e=>h1 (List.any_eq_true.2 ⟨_,List.getElem_mem hi,e⟩)
  have hr:M6 cs c.vals[i].ref=true:=by
   cases he:M6 cs c.vals[i].ref with
   | true=>rfl
   | false=>unfold D6 at hk;rw[he] at hk;simp at hk
  obtain ⟨j,hj,hjl⟩:=D9.1 hr
  have hjm:(j:Int)<m:=by
   simp only[G4,Bool.and_eq_true,decide_eq_true_eq,not_and] at h2
   have:=h2 h4
   omega
  rw[hj,Zc hjl,Zc (by rw[List.length_take];omega)]
  simp
 ·have:Z0 cs=Z0 (cs.take m.toNat)+Z0 (cs.drop m.toNat):=by rw[←T7,List.take_append_drop]
  have h3:=M4 (cs.drop m.toNat)
  have:=h.left
  unfold W6 at*
  omega
theorem GoodH.act (wf:Wf l) (a:ok []=true) (h:GoodH ok (Q4 l) room cs) (x:ActH):GoodH ok (Q4 l) room (S7 ok (Q4 l) room cs x):=by
 unfold S7
 split
 ·exact GoodH.obj wf a h _
 split
 ·exact GoodH.arr wf a h _ _
 split
 ·exact GoodH.set h _ _ _
 split
 ·exact GoodH.cut h _
 ·exact h
theorem GoodH.empty (a:0≤room):GoodH ok l room []:=⟨by simp,by simpa [W6,Z0] using a⟩
end
end Go.Proofs.YtjdiakhipmggjaaGreatDoor

namespace Go.Emb
open Go.RowKit Go.Hm
variable {P : Program} {w w0 w1 w' w'' : World} {K : Value → World → Prop} {σ σ0 σ1 σ' : Q6}
def O3 (_:Q6) (v:Val) (cs:List Value):Prop:=cs=[I v.sort,I v.n,S v.s,I v.ref]∧Yn v.sort∧Yn v.n∧v.s.length≤U2∧Yn v.ref
instance:Rep O3:=⟨fun _ h=>h,fun h u hu=>by rw[h.1] at hu;simp at hu;rcases hu with rfl | rfl | rfl | rfl<;>rfl⟩
def E4 (σ:Q6) (c:Cel) (cs:List Value):Prop:= ∃v,cs=[S c.kind,v]∧Sl 4 O3 σ v c.vals∧c.kind.length≤U2
instance:Rep E4:=⟨fun hk ⟨v,h1,h2,h3⟩=>⟨v,h1,h2.le hk,h3⟩,fun ⟨v,h1,h2,h3⟩ u hu=>by
 rw[h1] at hu;simp at hu;rcases hu with rfl | rfl
 ·rfl
 ·exact A8 h2⟩
theorem X0k {c:Cel} {cs:List Value} (h:E4 σ0 c cs) (k:SLe σ0 σ):E4 σ c cs:=Rep.up k.le h
def Q3Z (_:Q6) (x:List UInt8×Value) (cs:List Value):Prop:=cs=[S x.1,x.2]∧x.1.length≤U2∧ ∃a n c,x.2= .slice a n c
instance:Rep Q3Z:=⟨fun _ h=>h,fun ⟨h1,_,a,n,c,h2⟩ u hu=>by
 rw[h1,h2] at hu;simp at hu;rcases hu with rfl | rfl<;>rfl⟩
section
variable {α : Type} {R : Q6 → α → List Value → Prop} {B sz : Nat} {e : TypeId} {v u : Value} {xs : List α}
theorem J9.shiftR [hr:Rep R] (h:J9 B e sz R σ w v xs) (p:SLe σ σ') (m: ∀k,v.ownBlock=some k→σ' k=none):J9 B e sz R σ' w v xs:=by
 obtain ⟨a,l,rfl,q,z,c,n⟩:=h
 refine ⟨a,l,rfl,q,z,fun b d=>⟨(c b d).1,(c b d).2.1,(c b d).2.2.1,by subst d;exact m _ rfl⟩,fun r=>?_⟩
 obtain ⟨g,f,j,rfl,y,C,A,t,o⟩:=n r
 exact ⟨g,f,j,rfl,y,m g rfl,A,t,fun i x s=>hr.up p.le (o i x s)⟩
def Pj (w:World):World:={w with heap:= #[]}
theorem Yt (a:X3 w σ):Stp (Pj w) (fun _=>none) w σ:=
 ⟨⟨rfl,rfl,rfl,Nat.zero_le _,fun k c=>absurd c (Nat.not_lt_zero k)⟩,a,fun _ _ h=>(by cases h),fun b d=>absurd d (Nat.not_lt_zero b)⟩
theorem J9.freeze [hr:Rep R] (d:X3 w σ) (h:J9 B e sz R σ w v xs): ∃σ',X3 w σ'∧SLe σ σ'∧Sl sz R σ' v xs∧ ∀k,some k≠v.ownBlock→σ' k=σ k:=by
 obtain ⟨σ',a,f,b,c⟩:=(h.mono (Nat.zero_le B):J9 (Pj w).heap.size e sz R σ w v xs).keep (Yt d)
 exact ⟨σ',a.sat,b,f,c⟩
theorem Y2.freeze {b:Nat} {cs:List Value} (f:X3 w σ) (h:Y2 σ w b cs): ∃σ',X3 w σ'∧SLe σ σ'∧Z6 σ' ⟨b,0,none⟩ cs∧ ∀k,k≠b→σ' k=σ k:=by
 obtain ⟨σ',a,g,c,d⟩:=h.keep (Yt f) (Nat.zero_le b)
 exact ⟨σ',a.sat,⟨c⟩,g,d⟩
end
def X1J (vs:List Value):Prop:=vs.Pairwise fun a b=> ∀k,a.ownBlock=some k→b.ownBlock≠some k
def Q3g (B:Nat) (e:TypeId) (σ:Q6) (w:World) (vs:List Value) (cs:List Cel):Prop:=vs.length=cs.length∧ ∀i (h:i<vs.length) (a:i<cs.length),J9 B e 4 O3 σ w vs[i] cs[i].vals
theorem Q3g.freeze {B:Nat} {e:TypeId}: ∀{vs:List Value} {cs:List Cel} {σ:Q6},X3 w σ→Q3g B e σ w vs cs→X1J vs→
 ∃σ',X3 w σ'∧SLe σ σ'∧(∀i (h:i<vs.length) (z:i<cs.length),Sl 4 O3 σ' vs[i] cs[i].vals)∧ ∀k,(∀v∈vs,v.ownBlock≠some k)→σ' k=σ k
 | [],cs,σ,d,h,l=>⟨σ,d,SLe.refl _,fun i h=>absurd h (Nat.not_lt_zero i),fun _ _=>rfl⟩
 | v::vs,[],σ,d,h,l=>by have:=h.1;simp at this
 | v::vs,c::cs,σ,d,h,l=>by
  obtain ⟨σ1,t,n,o,o1⟩:=(h.2 0 (by simp) (by simp)).freeze d
  obtain ⟨j,g⟩:=List.pairwise_cons.1 l
  have p:Q3g B e σ1 w vs cs:=⟨by simpa using h.1,fun i f a=>by
   have:=h.2 (i+1) (by simpa using f) (by simpa using a)
   simp only[List.getElem_cons_succ] at this
   refine this.shiftR n fun k b=>?_
   rw[o1 k fun e=>j _ (List.getElem_mem f) k e.symm b]
   exact (this.mem b).2.2⟩
  obtain ⟨r,y,m,s,o2⟩:=Q3g.freeze t p g
  refine ⟨r,y,n.more m,fun i f a=>?_,fun k b=>?_⟩
  ·cases i with
   | zero=>exact o.lift m
   | succ i=>exact s i (by simpa using f) (by simpa using a)
  ·rw[o2 k fun u q=>b u (by simp[q]),o1 k fun e=>b v (by simp) e.symm]
def Xa (vs:List Value) (cs:List Cel):List (List UInt8×Value):=List.zipWith (fun v c=>(c.kind,v)) vs cs
theorem Du {vs:List Value} {cs:List Cel} (h:vs.length=cs.length):(Xa vs cs).length=cs.length:=by simp[Xa,h]
end Go.Emb
namespace Go.Proofs.YtjdiakhipmggjaaGreatDoor
open Go.Emb Go.RowKit Go.Kd Go.Hm
variable {w w' : World} {K : Value → World → Prop} {σ σ' : Q6}
def R0 (σ:Q6) (hp tv:Value) (room:Int) (cs:List Cel):Prop:= ∃a lv,hp= .pointer (some a)∧Z6 σ a [tv,I room,I (Z0 cs),lv]∧Sl 2 E4 σ lv cs
theorem R0.lift {hp tv:Value} {room:Int} {cs:List Cel} (h:R0 σ hp tv room cs) (b:SLe σ σ'):R0 σ' hp tv room cs:=by
 obtain ⟨a,lv,c,f,d⟩:=h
 exact ⟨a,lv,c,f.lift b,d.lift b⟩
structure RowsIs (B : Nat) (D : Nat → Prop) (σ : Q6) (w : World) (lv : Value) (cs : List Cel) : Prop where
  ex : ∃ vs, J9 B T.m 2 Q3Z σ w lv (Xa vs cs) ∧ Q3g B T.g σ w vs cs ∧ X1J (lv :: vs) ∧ ∀ k, D k ↔ ∃ v ∈ lv :: vs, v.ownBlock = some k
structure HeapIs (B : Nat) (D : Nat → Prop) (σ : Q6) (w : World) (hp tv : Value) (room : Int) (cs : List Cel) : Prop where
  ex : ∃ b lv E, hp = .pointer (some ⟨b, 0, none⟩) ∧ B ≤ b ∧ Y2 σ w b [tv, I room, I (Z0 cs), lv] ∧ RowsIs B E σ w lv cs ∧ ¬ E b ∧ ∀ k, D k ↔ (k = b ∨ E k)
section
variable {B : Nat} {D E : Nat → Prop} {lv hp tv : Value} {room : Int} {cs : List Cel}
theorem RowsIs.mem (h:RowsIs B D σ w lv cs) {k:Nat} (a:D k):B≤k∧k<w.heap.size∧σ k=none:=by
 obtain ⟨vs,d,c,f,hD⟩:=h.ex
 obtain ⟨v,hv,a⟩:=(hD k).1 a
 rcases List.mem_cons.1 hv with rfl | hv
 ·exact d.mem a
 ·obtain ⟨i,b,rfl⟩:=List.getElem_of_mem hv
  exact (c.2 i b (by rw[←c.1];exact b)).mem a
theorem RowsIs.nx (h:RowsIs B D σ w lv cs) (k:Nxt E w σ w' σ') (d: ∀k,D k→ ¬E k):RowsIs B D σ' w' lv cs:=by
 obtain ⟨vs,g,c,l,hD⟩:=h.ex
 exact ⟨vs,g.nx k fun i a=>d i ((hD i).2 ⟨lv,by simp,a⟩),⟨c.1,fun i a b=>(c.2 i a b).nx k fun j f=>d j ((hD j).2 ⟨vs[i],by simp[List.getElem_mem a],f⟩)⟩,l,hD⟩
theorem RowsIs.up (h:RowsIs B D σ w lv cs) (k:Stp w σ w' σ'):RowsIs B D σ' w' lv cs:=
 h.nx (E:=fun _=>False) (.of_stp k) fun _ _=>id
theorem RowsIs.freeze (h:RowsIs B D σ w lv cs) (t:X3 w σ): ∃σ',X3 w σ'∧SLe σ σ'∧Sl 2 E4 σ' lv cs∧ ∀k,¬D k→σ' k=σ k:=by
 obtain ⟨vs,p,g,C,hD⟩:=h.ex
 obtain ⟨d,b⟩:=List.pairwise_cons.1 C
 obtain ⟨σ1,H,o,s,o1⟩:=g.freeze t b
 have j:J9 B T.m 2 Q3Z σ1 w lv (Xa vs cs):=p.shiftR o fun k a=>by
  rw[o1 k fun v l e=>d v l k a e];exact (p.mem a).2.2
 obtain ⟨y,J,n,z,o2⟩:=j.freeze H
 refine ⟨y,J,o.more n,z.conv (R':=E4) (ys:=cs) (by rw[Du g.1]) fun i L r c A=>?_,fun k a=>?_⟩
 ·have f:i<vs.length:=by rw[g.1];exact r
  obtain ⟨m,q,_⟩:=A
  have e:(Xa vs cs)[i]=(cs[i].kind,vs[i]):=by simp[Xa]
  rw[e] at m q
  exact ⟨vs[i],m,(s i f r).lift n,q⟩
 ·rw[o2 k fun e=>a ((hD k).2 ⟨lv,by simp,e.symm⟩),o1 k fun v l e=>a ((hD k).2 ⟨v,by simp[l],e⟩)]
theorem HeapIs.mem (h:HeapIs B D σ w hp tv room cs) {k:Nat} (hk:D k):B≤k∧k<w.heap.size∧σ k=none:=by
 obtain ⟨b,lv,E,rfl,hB,a,c,hE,hD⟩:=h.ex
 rcases (hD k).1 hk with rfl | hk
 ·exact ⟨hB,a.lt,a.1⟩
 ·exact c.mem hk
theorem HeapIs.nx {F:Nat→Prop} (h:HeapIs B D σ w hp tv room cs) (k:Nxt F w σ w' σ') (a: ∀k,D k→ ¬F k):HeapIs B D σ' w' hp tv room cs:=by
 obtain ⟨b,lv,E,rfl,hB,f,d,hE,hD⟩:=h.ex
 exact ⟨b,lv,E,rfl,hB,f.nx k (a b ((hD b).2 (.inl rfl))),d.nx k fun i c=>a i ((hD i).2 (.inr c)),hE,hD⟩
theorem HeapIs.up (h:HeapIs B D σ w hp tv room cs) (k:Stp w σ w' σ'):HeapIs B D σ' w' hp tv room cs:=
 h.nx (F:=fun _=>False) (.of_stp k) fun _ _=>id
theorem HeapIs.freeze (h:HeapIs B D σ w hp tv room cs) (i:X3 w σ): ∃σ',X3 w σ'∧SLe σ σ'∧R0 σ' hp tv room cs∧ ∀k,¬D k→σ' k=σ k:=by
 obtain ⟨b,lv,E,rfl,hB,d,j,hE,hD⟩:=h.ex
 obtain ⟨σ1,o,n,g,o1⟩:=j.freeze i
 have a:Y2 σ1 w b [tv,I room,I (Z0 cs),lv]:=⟨by rw[o1 b hE];exact d.1,d.2⟩
 obtain ⟨m,p,c,q,l⟩:=a.freeze o
 exact ⟨m,p,n.more c,⟨_,lv,rfl,q,g.lift c⟩,fun k f=>by rw[l k fun e=>f ((hD k).2 (.inl e)),o1 k fun e=>f ((hD k).2 (.inr e))]⟩
end
end Go.Proofs.YtjdiakhipmggjaaGreatDoor

namespace Go.Emb
open Go.RowKit Go.Hm
variable {H : Type} {enc : TypeId × Value → H} {P : Program} {W : World} {t : TypeId} {cs : List Value} {fuel : Nat} {x : DataW H × List MemPlace}
theorem X2C {g:Array Field} (e:P.underlying t=some (.struct g)) (h:DataW.trod enc P W 0 (fun _=>true) true fuel t cs=some x) (w:Wt P t x.1) (i:Nat) {o m:Nat} {b:TypeId}
 (l:(g[i]?).map (fun f=>(f.type,f.offset))=some (b,o)) (s:P.cellsOf b=m): ∃n y,DataW.trod enc P W 0 (fun _=>true) true n b ((cs.drop o).take m)=some y∧Wt P b y.1:=by
 obtain ⟨xs,n,_,rfl,A,z,k⟩:=DataW.trod_struct e h
 obtain ⟨f,a,q⟩:=Option.map_eq_some_iff.1 l
 cases q
 have c:=k i f a
 have j:i<xs.length:=by rw[z];exact (Array.getElem?_eq_some_iff.1 a).1
 rw[List.getElem?_eq_getElem j,s] at c
 refine ⟨n,_,c,fun m r=>w m ?_⟩
 simp only[DataW.weights,e]
 exact Q7T (i:=i) (u:=f.type) (by rw[List.getElem?_map,Array.getElem?_toList,a];rfl) (by rw[List.getElem?_map,List.getElem?_eq_getElem j];rfl) m r
def Q13 (_:Q6) (x:ActH) (cs:List Value):Prop:=cs=[I x.kind,S x.s,I x.n,I x.ref,I x.v.sort,I x.v.n,S x.v.s,I x.v.ref]∧(Yn x.kind∧x.s.length≤U2∧Yn x.n∧Yn x.ref)∧Yn x.v.sort∧Yn x.v.n∧x.v.s.length≤U2∧Yn x.v.ref
instance:Rep Q13:=⟨fun _ h=>h,fun h u hu=>by rw[h.1] at hu;simp at hu;rcases hu with rfl | rfl | rfl | rfl | rfl | rfl | rfl | rfl<;>rfl⟩
end Go.Emb
namespace Go.Proofs.YtjdiakhipmggjaaGreatDoor
open Go.Emb Go.RowKit Go.Kd Go.Hm
variable {H : Type} {enc : TypeId × Value → H} {W : World} {cs : List Value} {fuel : Nat} {x : DataW H × List MemPlace}
def X4q:Array Field:= #[⟨"Sort",T.e,0,false, "", "",0⟩,⟨"N",T.a1,1,false, "", "",8⟩,⟨"S",T.c,2,false, "", "",16⟩,⟨"Ref",T.e,3,false, "", "",32⟩]
theorem Q3a:P.underlying T.g=some (.struct X4q):=by kernel_rfl
theorem Q80:P.underlying T.a1=some (.int .i64):=by kernel_rfl
theorem X3m (h:DataW.trod enc P W 0 (fun _=>true) true fuel T.g cs=some x) (a:Wt P T.g x.1): ∃y,O3 (Wq W) y cs:=by
 obtain ⟨c0,D,B,C,rfl⟩:=X47 (X0d Q3a (by kernel_rfl) h)
 obtain ⟨_,_,i,w0⟩:=Lp (o:=0) Q3a h a 0 rfl Q5g
 obtain ⟨_,_,w,w1⟩:=Lp (o:=1) Q3a h a 1 rfl (by kernel_rfl)
 obtain ⟨_,_,r,k⟩:=Lp (o:=2) Q3a h a 2 rfl Kf
 obtain ⟨_,_,u,A⟩:=Lp (o:=3) Q3a h a 3 rfl Q5g
 obtain ⟨m,b,l⟩:=Gh Q1C i
 obtain ⟨q,c,g⟩:=Gh Q80 w
 obtain ⟨z,e,n⟩:=Q9c X8 r k
 obtain ⟨s,f,j⟩:=Gh Q1C u
 simp at b c e f
 subst b c e f
 exact ⟨⟨m,q,z,s⟩,rfl,l,g,n,j⟩
def X4l:Array Field:= #[⟨"Kind",T.e,0,false, "", "",0⟩,⟨"S",T.c,1,false, "", "",8⟩,⟨"N",T.a1,2,false, "", "",24⟩,⟨"Ref",T.e,3,false, "", "",32⟩,⟨"V",T.g,4,false, "", "",40⟩]
theorem Q1M:P.underlying T.n=some (.struct X4l):=by kernel_rfl
theorem X3c (h:DataW.trod enc P W 0 (fun _=>true) true fuel T.n cs=some x) (a:Wt P T.n x.1): ∃y,Q13 (Wq W) y cs:=by
 obtain ⟨c0,Z,Q,V,X,U,Y,c7,rfl⟩:=X4d (X0d Q1M (by kernel_rfl) h)
 obtain ⟨_,_,j,w0⟩:=Lp (o:=0) Q1M h a 0 rfl Q5g
 obtain ⟨_,_,J,w1⟩:=Lp (o:=1) Q1M h a 1 rfl Kf
 obtain ⟨_,_,B,R⟩:=Lp (o:=2) Q1M h a 2 rfl (by kernel_rfl)
 obtain ⟨_,_,E,O⟩:=Lp (o:=3) Q1M h a 3 rfl Q5g
 obtain ⟨_,_,L,w⟩:=X2C (o:=4) (m:=4) Q1M h a 4 rfl (by kernel_rfl)
 obtain ⟨s,b,r⟩:=Gh Q1C j
 obtain ⟨A,e,i⟩:=Q9c X8 J w1
 obtain ⟨M,f,u⟩:=Gh Q80 B
 obtain ⟨D,g,k⟩:=Gh Q1C E
 obtain ⟨l,c,N⟩:=X3m L w
 simp at b e f g c
 obtain ⟨n,q,C,z⟩:=c
 subst b e f g n q C z
 exact ⟨⟨s,A,M,D,l⟩,rfl,⟨r,i,u,k⟩,N⟩
theorem Q9G:P.underlying T.z=some (.slice T.n):=by kernel_rfl
section
variable {v : Value} {d : DataW H} {p : List MemPlace}
set_option maxRecDepth 100000 in
theorem X29 {base:Nat} (g:Value.okWide P W .any base T.z v) (h:DataW.Trod enc P W 0 (fun _=>true) true T.z v d p) (b:Wt P T.z d): ∃l,Sl 8 Q13 (Wq W) v l:=by
 obtain ⟨a,n,c,rfl⟩:=WideShapes.okWide_slice Q9G g
 unfold DataW.Trod at h
 obtain ⟨fuel,h⟩:=h
 obtain ⟨u,l,e,f⟩:=X43 (R:=Q13) (sz:=8) Q9G (by kernel_rfl) (by decide) (fun _ _ _ h b=>X3c h b) h b
 simp[Value.cells] at e
 subst e
 exact ⟨l,f⟩
end
end Go.Proofs.YtjdiakhipmggjaaGreatDoor

namespace Go.Emb
open Go.RowKit Go.Hm
variable {P : Program} {w : World} {K : Value → World → Prop}
theorem X0b (n:Int):(BitVec.ofInt 64 n &&& BitVec.ofInt 64 1).toNat=(n % 2).toNat:=by
 rw[BitVec.toNat_and,BitVec.toNat_ofInt,BitVec.toNat_ofInt]
 have e:((1:Int) % ((2 ^ 64:Nat):Int)).toNat=1:=by decide
 rw[e,Nat.and_one_is_mod]
 omega
theorem X3I {t:TypeId} {a b:Operand} {n:Int} (h:K (I (n % 2)) w):Q3 P .and t a b (I n) (I 1) w K:=by
 have e:Q3 P .and t a b (I n) (I 1) w K=K (I (n % 2)) w:=Y0 (by
  have f:(BitVec.ofInt IntKind.i64.bits n &&& BitVec.ofInt IntKind.i64.bits 1).toNat=(n % 2).toNat:=X0b n
  have d:IntKind.i64.wrap ((n % 2).toNat:Int)=n % 2:=by rw[G7 (by omega) (by omega)];omega
  have c:((n % 2 ^ IntKind.i64.bits).toNat &&& 1 % 2 ^ IntKind.i64.bits)=(n % 2).toNat:=by
   show ((n % 18446744073709551616).toNat &&& 1)=_
   rw[Nat.and_one_is_mod];omega
  simp[eqGuard,binOp,Op.intBits,c]
  rw[show max (n % 2) 0=n % 2 by omega,G7 (by omega) (by omega)])
 rw[e];exact h
end Go.Emb
namespace Go.Proofs.YtjdiakhipmggjaaGreatDoor
open Go.Emb Go.RowKit Go.Kd Go.Hm
variable {w w' : World} {K : Value → World → Prop} {σ σ' : Q6} {hp tv : Value} {room : Int} {cs : List Cel} {l : List Cla}
theorem X3v:(P.fieldsOf T.g).toList=[⟨"Sort",T.e,0,false, "", "",0⟩,⟨"N",T.a1,1,false, "", "",8⟩,⟨"S",T.c,2,false, "", "",16⟩,⟨"Ref",T.e,3,false, "", "",32⟩]:=by kernel_rfl
set_option maxRecDepth 100000 in
theorem Q7x (a b:Val):(Op.eqFields 9999 [I a.sort,I a.n,S a.s,I a.ref].toArray [I b.sort,I b.n,S b.s,I b.ref].toArray (P.fieldsOf T.g).toList).run P w= .ok (decide (a=b)) w:=by
 rw[X3v]
 have:=Ix (P:=P) (w:=w) (d:=9999) (xs:=[I a.sort,I a.n,S a.s,I a.ref].toArray) (ys:=[I b.sort,I b.n,S b.s,I b.ref].toArray) (f:=⟨"Sort",T.e,0,false, "", "",0⟩) (by decide) rfl rfl (Q3O (k:= .i64) (by kernel_rfl) _ _)
  (Ix (f:=⟨"N",T.a1,1,false, "", "",8⟩) (by decide) rfl rfl (Q3O (k:= .i64) (by kernel_rfl) _ _) (Ix (f:=⟨"S",T.c,2,false, "", "",16⟩) (by decide) rfl rfl (X1Z X8 _ _) (Ix (f:=⟨"Ref",T.e,3,false, "", "",32⟩) (by decide) rfl rfl (Q3O (k:= .i64) (by kernel_rfl) _ _) X2d)))
 rw[this]
 congr 1
 obtain ⟨m,o,j,g⟩:=a
 obtain ⟨c,e,i,h⟩:=b
 simp[Bool.decide_and]
theorem Ck {a b d:Int} {c:X0}: ∀u∈[I a,I b,S c,I d],u.oneCell'=true:=by
 intro u e
 simp only[List.mem_cons,List.not_mem_nil,or_false] at e
 rcases e with rfl | rfl | rfl | rfl<;>rfl
set_option maxRecDepth 100000 in
theorem Dw {j k:Operand} {g i c a b d:Int} {f e:X0} (h:K (.bool (decide ((⟨g,i,f,c⟩:Val)=⟨a,b,e,d⟩))) w):Q3 P .eql T.g j k (.agg [I g,I i,S f,I c].toArray) (.agg [I a,I b,S e,I d].toArray) w K:=
 X2Q (by kernel_rfl) (by kernel_rfl) (by kernel_rfl) (Q7x ⟨g,i,f,c⟩ ⟨a,b,e,d⟩) h
set_option maxRecDepth 100000 in
theorem X1R {j k:Operand} {g i c a b d:Int} {f e:X0} (h:K (.bool (!decide ((⟨g,i,f,c⟩:Val)=⟨a,b,e,d⟩))) w):Q3 P .neq T.g j k (.agg [I g,I i,S f,I c].toArray) (.agg [I a,I b,S e,I d].toArray) w K:=
 X1W (by kernel_rfl) (by kernel_rfl) (by kernel_rfl) (Q7x ⟨g,i,f,c⟩ ⟨a,b,e,d⟩) h
theorem Sl.elV {v:Value} {xs:List Val} (h:Sl 4 O3 σ v xs) {i:Nat} (b:i<xs.length):Z6 σ (Wj 4 v i) [I xs[i].sort,I xs[i].n,S xs[i].s,I xs[i].ref]∧O3 σ xs[i] [I xs[i].sort,I xs[i].n,S xs[i].s,I xs[i].ref]:=by
 obtain ⟨cs,a,d,rfl,c⟩:=h.el b;exact ⟨a,rfl,c⟩
theorem Sl.elO {v:Value} {xs:List Cel} (h:Sl 2 E4 σ v xs) {i:Nat} (d:i<xs.length): ∃a,Z6 σ (Wj 2 v i) [S xs[i].kind,a]∧Sl 4 O3 σ a xs[i].vals∧xs[i].kind.length≤U2:=by
 obtain ⟨cs,b,f,a,rfl,c,e⟩:=h.el d;exact ⟨a,b,c,e⟩
theorem X0a (c:X3 w σ) (hh:R0 σ hp tv room cs) (h:K (I cs.length) w):Q1 P F.aF [hp] w K:=Q26 (by
 obtain ⟨a,e,rfl,b,d⟩:=hh
 unfold Rc
 (try simp only[↓M1,M1,Mb,reduceIte])
 refine ld c b rfl ?_
 refine Q8 d ?_
 exact h)
theorem X0R (c:X3 w σ) (hh:R0 σ hp tv room cs) (h:K tv w):Q1 P F.bB [hp] w K:=Q02 (by
 obtain ⟨a,d,rfl,b,e⟩:=hh
 unfold Df
 rw[L8,fa]
 exact ld c b rfl h)
theorem Q3N (c:X3 w σ) (hh:R0 σ hp tv room cs) (j:0≤W6 room cs) (f:room≤1048576) (h: ∀w',Below w.heap.size w w'→K (I (W6 room cs)) w'):Q1 P F.v [hp] w K:=Q1q (by
 obtain ⟨a,g,rfl,e,k⟩:=hh
 unfold Hj
 have i:=M4 cs
 unfold W6 at*
 refine U0 c ?_
 (repeat refine Z9 Qa ?_)
 (intros;(repeat (rename_i d;subst d));(try simp only[↓M2,M2,Mb,reduceIte]))
 rename_i m b
 rw[G7 (by omega) (by omega)]
 exact h _ b.stp.bel)
theorem Q5n (d:X3 w σ) (hh:R0 σ hp tv room cs) {r:Int} (h:K (.bool (M6 cs r)) w):Q1 P F.aG [hp,I r] w K:=Q24 (by
 obtain ⟨a,f,rfl,c,e⟩:=hh
 unfold Hv
 refine P7 ?_
 unfold M6 at h
 cases b:decide ((0:Int)≤r) with
 | false=>
  rw[b] at h
  (try simp only[↓M1,M1,Mb,reduceIte])
  exact h
 | true=>
  rw[b] at h
  (try simp only[↓M1,M1,Mb,reduceIte])
  refine ld d c rfl ?_
  refine Q8 e ?_
  refine Y9 ?_
  (try simp only[↓M1,M1,Mb,reduceIte])
  exact h)
theorem Q7u (c:X3 w σ) (hh:R0 σ hp tv room cs) {r:Int} (h:K (S (D6 cs r)) w):Q1 P F.aA [hp,I r] w K:=Q0N (by
 unfold Hl
 refine Q5n c hh ?_
 unfold D6 at h
 cases d:M6 cs r with
 | false=>rw[d] at h;(try simp only[↓M1,M1,Mb,reduceIte]);exact h
 | true=>
  rw[d] at h
  obtain ⟨i,rfl,b⟩:=D9.1 d
  rw[L4 b] at h
  obtain ⟨a,k,rfl,f,e⟩:=hh
  obtain ⟨j,g,_,_⟩:=Sl.elO e b
  (try simp only[↓M1,M1,Mb,reduceIte])
  refine ld c f rfl ?_
  refine Y1 e b ?_
  (try simp only[↓M1,M1,Mb,reduceIte])
  exact ld c g rfl h)
theorem X1T (c:X3 w σ) (hh:R0 σ hp tv room cs) {r:Int} (h:K (I (Q6w cs r)) w):Q1 P F.bM [hp,I r] w K:=Q0O (by
 unfold En
 refine Q5n c hh ?_
 unfold Q6w at h
 cases d:M6 cs r with
 | false=>rw[d] at h;(try simp only[↓M1,M1,Mb,reduceIte]);exact h
 | true=>
  rw[d] at h
  obtain ⟨i,rfl,b⟩:=D9.1 d
  rw[L4 b] at h
  obtain ⟨a,m,rfl,f,e⟩:=hh
  obtain ⟨k,j,g,_⟩:=Sl.elO e b
  (try simp only[↓M1,M1,Mb,reduceIte])
  refine ld c f rfl ?_
  refine Y1 e b ?_
  (try simp only[↓M1,M1,Mb,reduceIte])
  refine ld c j rfl ?_
  exact Q8 g h)
theorem Q7R (c:X3 w σ) (hh:R0 σ hp tv room cs) {r i:Int} (h:K (I (E3 cs r i)) w):Q1 P F.aS [hp,I r,I i] w K:=Aj (by
 unfold Dd
 refine Q5n c hh ?_
 unfold E3 at h
 cases d:M6 cs r with
 | false=>rw[d] at h;(try simp only[↓M1,M1,Mb,reduceIte]);exact h
 | true=>
  rw[d] at h
  obtain ⟨j,rfl,e⟩:=D9.1 d
  rw[L4 e] at h
  obtain ⟨a,p,rfl,k,g⟩:=hh
  obtain ⟨o,n,m,_⟩:=Sl.elO g e
  (try simp only[↓M1,M1,Mb,reduceIte])
  by_cases f:i<0
  ·rw[decide_eq_true f]
   (try simp only[↓M1,M1,Mb,reduceIte])
   rw[if_pos rfl,if_neg (by omega)] at h
   exact h
  ·rw[decide_eq_false f]
   (try simp only[↓M1,M1,Mb,reduceIte])
   refine ld c k rfl ?_
   refine Y1 g e ?_
   (try simp only[↓M1,M1,Mb,reduceIte])
   refine ld c n rfl ?_
   refine Q8 m ?_
   refine P7 ?_
   (try simp only[↓M1,M1,Mb,reduceIte])
   refine Q7 (fun b=>?_) (fun b=>?_)
   ·have b:(cs[j].vals.length:Int)≤i:=by simpa using b
    rw[if_pos rfl,if_neg (by omega)] at h
    exact h
   ·have b: ¬(cs[j].vals.length:Int)≤i:=by simpa using b
    rw[if_pos rfl,if_pos (by omega)] at h
    exact h)
theorem X3s (p:X3 w σ) (hh:R0 σ hp tv room cs) {r i:Int} (h: ∀w' σ',Stp w σ w' σ'→K (.tuple #[.agg [I (Ho cs r i).sort,I (Ho cs r i).n,S (Ho cs r i).s,I (Ho cs r i).ref].toArray,I (E3 cs r i)]) w'):Q1 P F.c2 [hp,I r,I i] w K:=Q1Z (by
 unfold Hx
 refine M0 p fun b w1 σ1 v c k=>?_
 have o:=hh.lift ⟨c.le⟩
 refine Q7R c.sat o ?_
 refine Za ?_
 unfold Ho at h
 by_cases g:E3 cs r i=0
 ·have e:decide (E3 cs r i=0)=true:=decide_eq_true g
  rw[if_pos g,g] at h
  obtain ⟨a,H,rfl,z,y⟩:=o
  simp only[e,Bool.not_true,↓M1,M1,Mb,reduceIte]
  obtain ⟨j,m,rfl,rfl,t,q⟩:=Lw g
  rw[L4 t,Int.toNat_natCast] at h
  obtain ⟨E,C,u,_⟩:=Sl.elO y t
  obtain ⟨D,A⟩:=Sl.elV u q
  refine ld c.sat z rfl ?_
  refine Y1 y t ?_
  (try simp only[↓M1,M1,Mb,reduceIte])
  refine ld c.sat C rfl ?_
  refine Y1 u q ?_
  refine Y4 c.sat D rfl ?_
  refine G8 k c (L9 v (Stp.refl p)) rfl rfl (Rep.one A) fun B f d=>?_
  refine V2 d rfl ?_
  have e:cs[j].vals.getD m Val.zero=cs[j].vals[m]:=by rw[List.getD_eq_getElem?_getD,List.getElem?_eq_getElem q];rfl
  rw[e] at h
  exact h _ _ f.stp
 ·have e:decide (E3 cs r i=0)=false:=by simpa using g
  rw[if_neg g] at h
  simp only[e,Bool.not_false,↓M1,M1,Mb,reduceIte]
  refine W1 (cells:= #[I 0,I 0,S [],I 0]) (by kernel_rfl) ?_
  refine G8 (ds:=[I 0,I 0,S [],I 0]) k c (L9 v (Stp.refl p)) rfl rfl Ck fun B f d=>?_
  refine V2 d rfl ?_
  exact h _ _ f.stp)
theorem X00 {k:X0} (o:X3 w σ) (h: ∀w' σ',Stp w σ w' σ'→K (.agg [I (M5 k).sort,I (M5 k).n,S (M5 k).s,I (M5 k).ref].toArray) w'):Q1 P F.cv [S k] w K:=Q7g (by
 unfold Q2y
 refine M0 o fun b w1 σ1 r g f=>?_
 have hB:=L9 r (Stp.refl o)
 unfold M5 at h
 have a: ∀(n:Int) (t:K (.agg [I n,I 0,S [],I 0].toArray)=K (.agg [I n,I 0,S [],I 0].toArray)),(∀w' σ',Stp w σ w' σ'→K (.agg [I n,I 0,S [],I 0].toArray) w')→X9 P T.g (.pointer (some ⟨b,0,none⟩)) (.agg #[I n,I 0,S [],I 0]) w1 fun _ j=>Y7 P T.g (.pointer (some ⟨b,0,none⟩)) j fun q=>K q j:=fun n _ p=>
  G8 (ds:=[I n,I 0,S [],I 0]) f g hB rfl rfl Ck fun j m i=>V2 i rfl (p _ _ m.stp)
 refine P6 ?_
 by_cases d:k=P9
 ·simp only[if_pos d] at h
  rw[show decide (k=[105,110,116])=true from decide_eq_true d]
  refine J7 ?_
  refine W1 (cells:= #[I 1,I 0,S [],I 0]) (by kernel_rfl) ?_
  exact a 1 rfl h
 simp only[if_neg d] at h
 rw[show decide (k=[105,110,116])=false from decide_eq_false d]
 refine Z7 ?_
 refine P6 ?_
 by_cases e:k=Jb
 ·simp only[if_pos e] at h
  rw[show decide (k=[98,111,111,108])=true from decide_eq_true e]
  refine J7 ?_
  refine W1 (cells:= #[I 2,I 0,S [],I 0]) (by kernel_rfl) ?_
  exact a 2 rfl h
 simp only[if_neg e] at h
 rw[show decide (k=[98,111,111,108])=false from decide_eq_false e]
 refine Z7 ?_
 refine P6 ?_
 by_cases c:k=D0
 ·simp only[if_pos c] at h
  rw[show decide (k=[116,101,120,116])=true from decide_eq_true c]
  refine J7 ?_
  refine W1 (cells:= #[I 3,I 0,S [],I 0]) (by kernel_rfl) ?_
  exact a 3 rfl h
 ·simp only[if_neg c] at h
  rw[show decide (k=[116,101,120,116])=false from decide_eq_false c]
  refine Z7 ?_
  refine W1 (cells:= #[I 0,I 0,S [],I 0]) (by kernel_rfl) ?_
  exact a 0 rfl h)
def W7 (s:X0):Bool:=decide (s.length≤4096)&&Lib.validD s
theorem Q8J (hh:R0 σ hp tv room cs) (r:Int):(D6 cs r).length≤U2:=by
 unfold D6
 split
 ·rename_i c
  obtain ⟨i,rfl,b⟩:=D9.1 c
  rw[L4 b]
  obtain ⟨a,f,rfl,e,d⟩:=hh
  exact (Sl.elO d b).choose_spec.2.2
 ·exact Nat.zero_le _
theorem X20 (hh:R0 σ hp tv room cs) (v:Val):(P8 W7 cs v).length≤U2:=by
 unfold P8
 split
 ·decide
 split
 ·decide
 split
 ·decide
 split
 ·decide
 split
 ·exact Q8J hh _
 ·exact Nat.zero_le _
theorem Q6B (n:Int):n=n % 2↔n=0∨n=1:=by omega
set_option maxHeartbeats 1000000 in
theorem X4D (W:X3 w σ) (Y:Glb σ) (hh:R0 σ hp tv room cs) {v:Val} (X:v.s.length≤U2) (h: ∀w' σ',Stp w σ w' σ'→K (S (P8 W7 cs v)) w'):Q1 P F.ce [hp, .agg [I v.sort,I v.n,S v.s,I v.ref].toArray] w K:=Q2M (by
 unfold Sv
 refine Z1 W fun q w1 σ1 g k=>?_
 have f:=g.sat
 refine Y4 f k rfl ?_
 refine W1 (cells:= #[I 0,I 0,S [],I 0]) (by kernel_rfl) ?_
 refine Dw ?_
 unfold P8 at h
 by_cases z:v=Val.zero
 ·rw[if_pos z] at h
  have:decide ((⟨v.sort,v.n,v.s,v.ref⟩:Val)=⟨0,0,[],0⟩)=true:=decide_eq_true z
  rw[this]
  exact J7 (h _ _ g)
 rw[if_neg z] at h
 have:decide ((⟨v.sort,v.n,v.s,v.ref⟩:Val)=⟨0,0,[],0⟩)=false:=decide_eq_false z
 rw[this]
 refine Z7 ?_
 refine Y4 f k rfl ?_
 refine W3 ?_
 refine ld f k rfl ?_
 refine W1 (cells:= #[I 1,I v.n,S [],I 0]) (by kernel_rfl) ?_
 refine Dw ?_
 by_cases A:v=⟨1,v.n,[],0⟩
 ·rw[if_pos A] at h
  have:decide ((⟨v.sort,v.n,v.s,v.ref⟩:Val)=⟨1,v.n,[],0⟩)=true:=decide_eq_true A
  rw[this]
  exact J7 (h _ _ g)
 rw[if_neg A] at h
 have:decide ((⟨v.sort,v.n,v.s,v.ref⟩:Val)=⟨1,v.n,[],0⟩)=false:=decide_eq_false A
 rw[this]
 refine Z7 ?_
 refine Y4 f k rfl ?_
 refine W3 ?_
 refine ld f k rfl ?_
 refine X3I ?_
 refine W1 (cells:= #[I 2,I (v.n % 2),S [],I 0]) (by kernel_rfl) ?_
 refine Dw ?_
 have p:(v=⟨2,v.n % 2,[],0⟩)↔(v=⟨2,v.n,[],0⟩∧(v.n=0∨v.n=1)):=by
  obtain ⟨a,b,c,d⟩:=v
  simp only[Val.mk.injEq,true_and]
  constructor
  ·rintro ⟨H,Q,p⟩;exact ⟨⟨H,p⟩,(Q6B b).1 Q⟩
  ·rintro ⟨⟨H,p⟩,Q⟩;exact ⟨H,(Q6B b).2 Q,p⟩
 by_cases B:v=⟨2,v.n % 2,[],0⟩
 ·rw[if_pos (p.1 B)] at h
  have:decide ((⟨v.sort,v.n,v.s,v.ref⟩:Val)=⟨2,v.n % 2,[],0⟩)=true:=decide_eq_true B
  rw[this]
  exact J7 (h _ _ g)
 rw[if_neg (fun e=>B (p.2 e))] at h
 have:decide ((⟨v.sort,v.n,v.s,v.ref⟩:Val)=⟨2,v.n % 2,[],0⟩)=false:=decide_eq_false B
 rw[this]
 refine Z7 ?_
 refine Y4 f k rfl ?_
 refine W3 ?_
 refine ld f k rfl ?_
 refine W1 (cells:= #[I 3,I 0,S v.s,I 0]) (by kernel_rfl) ?_
 refine Dw ?_
 have j: ∀{y L},Stp w σ y L→SLe σ1 L→(∀w' σ',Stp w σ w' σ'→K (S (if v=⟨4,0,[],v.ref⟩ then D6 cs v.ref else [])) w')→Q2 P T.g (.pointer (some q)) y fun E w=>
  Q2 P T.e (.pointer (some (q.add 3))) w fun D w=>
  H0 P T.g [(0,(.int .i64 4)),(3,D)] w fun N w=>
  Q3 P .eql T.g (.tmp 40) (.tmp 43) E N w fun M w=>
  X1 M (
   Q2 P T.e (.pointer (some (q.add 3))) w fun O w=>
   Q1 P F.aA [hp,O] w fun J w=>
   K J w) (
   K (.string ⟨#[]⟩) w):=by
  intro y L i R h
  have m:=k.lift R
  refine Y4 i.sat m rfl ?_
  refine ld i.sat m rfl ?_
  refine W1 (cells:= #[I 4,I 0,S [],I v.ref]) (by kernel_rfl) ?_
  refine Dw ?_
  by_cases t:v=⟨4,0,[],v.ref⟩
  ·rw[if_pos t] at h
   have:decide ((⟨v.sort,v.n,v.s,v.ref⟩:Val)=⟨4,0,[],v.ref⟩)=true:=decide_eq_true t
   rw[this]
   refine J7 ?_
   refine ld i.sat m rfl ?_
   exact Q7u i.sat (hh.lift ⟨i.le⟩) (h _ _ i)
  ·rw[if_neg t] at h
   have:decide ((⟨v.sort,v.n,v.s,v.ref⟩:Val)=⟨4,0,[],v.ref⟩)=false:=decide_eq_false t
   rw[this]
   exact Z7 (h _ _ i)
 by_cases u:v=⟨3,0,v.s,0⟩
 ·have:decide ((⟨v.sort,v.n,v.s,v.ref⟩:Val)=⟨3,0,v.s,0⟩)=true:=decide_eq_true u
  rw[this]
  (try simp only[↓M1,M1,Mb,reduceIte])
  refine ld f k rfl ?_
  refine Fw X8 ?_
  refine Q5d ?_
  by_cases V:v.s.length≤4096
  ·rw[decide_eq_true (show (v.s.length:Int)≤4096 by omega)]
   (try simp only[↓M1,M1,Mb,reduceIte])
   refine ld f k rfl ?_
   refine Tu X (Y.tabs _ (fun b o e=>f b o (g.le b o e))) fun y C=>?_
   have r:=g.trans (Stp.of_below f C)
   cases U:Lib.validD v.s with
   | true=>
    (try simp only[↓M1,M1,Mb,reduceIte])
    rw[if_pos ⟨u,by simp[W7,U,V]⟩] at h
    exact h _ _ r
   | false=>
    (try simp only[↓M1,M1,Mb,reduceIte])
    rw[if_neg (by rintro ⟨_,e⟩;simp[W7,U] at e)] at h
    exact j r (SLe.refl _) h
  ·rw[decide_eq_false (show¬(v.s.length:Int)≤4096 by omega)]
   (try simp only[↓M1,M1,Mb,reduceIte])
   rw[if_neg (by rintro ⟨_,e⟩;simp[W7,V] at e)] at h
   exact j g (SLe.refl _) h
 ·have:decide ((⟨v.sort,v.n,v.s,v.ref⟩:Val)=⟨3,0,v.s,0⟩)=false:=decide_eq_false u
  rw[this]
  (try simp only[↓M1,M1,Mb,reduceIte])
  rw[if_neg (fun e=>u e.1)] at h
  exact j g (SLe.refl _) h)
end Go.Proofs.YtjdiakhipmggjaaGreatDoor

namespace Go.Proofs.YtjdiakhipmggjaaGreatDoor
open Go.Emb Go.RowKit Go.Kd Go.Hm
variable {w : World} {K : Value → World → Prop} {σ : Q6}
theorem Ij {β:Type} {xs:List Val} {v f:Value} (a:β→Val→Bool×β) (k:β) (b:β→World→Prop) (D:Nat→Prop) (j: ∀s w,b s w→X3 w σ) (z:b k w) (t:Sl 4 O3 σ v xs)
 (y: ∀s x cs (w1:World) (K:Value→World→Prop),x∈xs→Kpt D w w1→b s w1→O3 σ x cs→cs.length=4→(∀w',Kpt D w w'→b (a s x).2 w'→K (.bool (a s x).1) w')→Z4 P f [.agg cs.toArray] w1 K)
 (h: ∀w',Kpt D w w'→b (J6 a k xs 0).2 w'→K (I (L6 (J6 a k xs 0).1)) w'):Q1 P F.a4 [v,f] w K:=Ys (by
 unfold G9
 ((try simp only[↓M1,M1,Mb,reduceIte]);repeat ((first | refine ld (by assumption) (by assumption) rfl ?_ | refine X7 (by assumption) (by assumption) rfl ?_ | refine Q8 (by assumption) ?_);(try simp only[↓M1,M1,Mb,reduceIte])))
 refine U3 xs.length (fun n w'=>Kpt D w w'∧ ∃s,b s w'∧J6 a k xs 0=J6 a s (xs.drop n) n) ⟨Kpt.refl,k,z,rfl⟩ fun n w1 d E l=>?_
 obtain ⟨u,s,l,g⟩:=l
 have o:=j s w1 l
 ((try simp only[↓M1,M1,Mb,reduceIte]);repeat ((first | refine ld (by assumption) (by assumption) rfl ?_ | refine X7 (by assumption) (by assumption) rfl ?_ | refine Q8 (by assumption) ?_);(try simp only[↓M1,M1,Mb,reduceIte])))
 refine Q7 (fun q=>?_) (fun q=>?_)
 ·have c:n<xs.length:=by simpa using q
  refine N0 t c fun p cs C e B=>?_
  refine Y4 o C e ?_
  refine y s xs[n] cs w1 _ (List.getElem_mem c) u l B e fun A m i=>?_
  rw[List.drop_eq_getElem_cons c] at g
  simp only[J6] at g
  refine Q7 (fun r=>?_) (fun r=>?_)
  ·rw[r] at g
   have:=h A m
   rw[g] at this
   exact this i
  ·rw[r] at g
   ((try simp only[↓M1,M1,Mb,reduceIte]);repeat ((first | refine ld (by assumption) (by assumption) rfl ?_ | refine X7 (by assumption) (by assumption) rfl ?_ | refine Q8 (by assumption) ?_);(try simp only[↓M1,M1,Mb,reduceIte])))
   exact Y5 t.max c ⟨m,_,i,by simpa using g⟩
 ·have c: ¬n<xs.length:=by simpa using q
  rw[List.drop_eq_nil_of_le (by omega)] at g
  have:=h w1 u
  rw[g] at this
  exact this l)
theorem Cj {β:Type} {xs:List Val} {v f:Value} (b:β→Val→Bool×β) (d:β) (a:β→World→Prop) (D:Nat→Prop) (c: ∀s w,a s w→X3 w σ) (g:a d w) (i:Sl 4 O3 σ v xs)
 (e: ∀s x cs (w1:World) (K:Value→World→Prop),x∈xs→Kpt D w w1→a s w1→O3 σ x cs→cs.length=4→(∀w',Kpt D w w'→a (b s x).2 w'→K (.bool (b s x).1) w')→Z4 P f [.agg cs.toArray] w1 K)
 (h: ∀w',Kpt D w w'→a (J6 b d xs 0).2 w'→K (.bool (J6 b d xs 0).1.isSome) w'):Q1 P F.k [v,f] w K:=Xf (by
 unfold B2
 refine Ij b d a D c g i e fun w1 j k=>?_
 (try simp only[↓M1,M1,Mb,reduceIte])
 rw[Dt]
 exact h w1 j k)
theorem Sg {xs:List Val} {v f:Value} (p:Val→Bool) (hs:X3 w σ) (hv:Sl 4 O3 σ v xs)
 (hf: ∀x cs (w1:World) (K:Value→World→Prop),x∈xs→X3 w1 σ→O3 σ x cs→cs.length=4→(∀w',Below w1.heap.size w1 w'→K (.bool (p x)) w')→Z4 P f [.agg cs.toArray] w1 K)
 (h: ∀w',Below w.heap.size w w'→K (.bool (xs.any p)) w'):Q1 P F.k [v,f] w K:=by
 refine Cj (fun (_:Unit) x=>(p x,())) () (fun _ w'=>Below w.heap.size w w') (fun _=>False) (fun _ w' hb=>hs.below hb) (Below.refl _ _) hv (fun s x cs w1 K hx hk hi hr hl hK=>hf x cs w1 K hx (hs.below hi) hr hl fun w' hb=>hK w' (.of_below (bt hi hb)) (bt hi hb)) fun w' hk hi=>?_
 rw[K6]
 simpa using h w' hi
theorem Kg {β:Type} {xs:List Cel} {v f:Value} (a:β→Cel→Bool×β) (k:β) (b:β→World→Prop) (D:Nat→Prop) (j: ∀s w,b s w→X3 w σ) (z:b k w) (t:Sl 2 E4 σ v xs)
 (y: ∀s x cs (w1:World) (K:Value→World→Prop),x∈xs→Kpt D w w1→b s w1→E4 σ x cs→cs.length=2→(∀w',Kpt D w w'→b (a s x).2 w'→K (.bool (a s x).1) w')→Z4 P f [.agg cs.toArray] w1 K)
 (h: ∀w',Kpt D w w'→b (J6 a k xs 0).2 w'→K (I (L6 (J6 a k xs 0).1)) w'):Q1 P F.a9 [v,f] w K:=Zx (by
 unfold I6
 ((try simp only[↓M1,M1,Mb,reduceIte]);repeat ((first | refine ld (by assumption) (by assumption) rfl ?_ | refine X7 (by assumption) (by assumption) rfl ?_ | refine Q8 (by assumption) ?_);(try simp only[↓M1,M1,Mb,reduceIte])))
 refine U3 xs.length (fun n w'=>Kpt D w w'∧ ∃s,b s w'∧J6 a k xs 0=J6 a s (xs.drop n) n) ⟨Kpt.refl,k,z,rfl⟩ fun n w1 d E l=>?_
 obtain ⟨u,s,l,g⟩:=l
 have o:=j s w1 l
 ((try simp only[↓M1,M1,Mb,reduceIte]);repeat ((first | refine ld (by assumption) (by assumption) rfl ?_ | refine X7 (by assumption) (by assumption) rfl ?_ | refine Q8 (by assumption) ?_);(try simp only[↓M1,M1,Mb,reduceIte])))
 refine Q7 (fun q=>?_) (fun q=>?_)
 ·have c:n<xs.length:=by simpa using q
  refine N0 t c fun p cs C e B=>?_
  refine Y4 o C e ?_
  refine y s xs[n] cs w1 _ (List.getElem_mem c) u l B e fun A m i=>?_
  rw[List.drop_eq_getElem_cons c] at g
  simp only[J6] at g
  refine Q7 (fun r=>?_) (fun r=>?_)
  ·rw[r] at g
   have:=h A m
   rw[g] at this
   exact this i
  ·rw[r] at g
   ((try simp only[↓M1,M1,Mb,reduceIte]);repeat ((first | refine ld (by assumption) (by assumption) rfl ?_ | refine X7 (by assumption) (by assumption) rfl ?_ | refine Q8 (by assumption) ?_);(try simp only[↓M1,M1,Mb,reduceIte])))
   exact Y5 t.max c ⟨m,_,i,by simpa using g⟩
 ·have c: ¬n<xs.length:=by simpa using q
  rw[List.drop_eq_nil_of_le (by omega)] at g
  have:=h w1 u
  rw[g] at this
  exact this l)
theorem Cw {β:Type} {xs:List Cel} {v f:Value} (b:β→Cel→Bool×β) (d:β) (a:β→World→Prop) (D:Nat→Prop) (c: ∀s w,a s w→X3 w σ) (g:a d w) (i:Sl 2 E4 σ v xs)
 (e: ∀s x cs (w1:World) (K:Value→World→Prop),x∈xs→Kpt D w w1→a s w1→E4 σ x cs→cs.length=2→(∀w',Kpt D w w'→a (b s x).2 w'→K (.bool (b s x).1) w')→Z4 P f [.agg cs.toArray] w1 K)
 (h: ∀w',Kpt D w w'→a (J6 b d xs 0).2 w'→K (.bool (J6 b d xs 0).1.isSome) w'):Q1 P F.n [v,f] w K:=Ye (by
 unfold F8
 refine Kg b d a D c g i e fun w1 j k=>?_
 (try simp only[↓M1,M1,Mb,reduceIte])
 rw[Dt]
 exact h w1 j k)
theorem Bb {xs:List Cel} {v f:Value} (p:Cel→Bool) (hs:X3 w σ) (hv:Sl 2 E4 σ v xs)
 (hf: ∀x cs (w1:World) (K:Value→World→Prop),x∈xs→X3 w1 σ→E4 σ x cs→cs.length=2→(∀w',Below w1.heap.size w1 w'→K (.bool (p x)) w')→Z4 P f [.agg cs.toArray] w1 K)
 (h: ∀w',Below w.heap.size w w'→K (.bool (xs.any p)) w'):Q1 P F.n [v,f] w K:=by
 refine Cw (fun (_:Unit) x=>(p x,())) () (fun _ w'=>Below w.heap.size w w') (fun _=>False) (fun _ w' hb=>hs.below hb) (Below.refl _ _) hv (fun s x cs w1 K hx hk hi hr hl hK=>hf x cs w1 K hx (hs.below hi) hr hl fun w' hb=>hK w' (.of_below (bt hi hb)) (bt hi hb)) fun w' hk hi=>?_
 rw[K6]
 simpa using h w' hi
end Go.Proofs.YtjdiakhipmggjaaGreatDoor
