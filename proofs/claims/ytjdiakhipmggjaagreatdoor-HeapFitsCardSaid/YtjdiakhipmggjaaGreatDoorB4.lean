/- Parts of a proof about the given program: its functions as texts of their own, what each computes, plain laws of that. The conditions of each stand in its statement. -/
import Derived.Test.YtjdiakhipmggjaaGreatDoorB3
import Derived.Shelf.Strings.Builder1
import Derived.Shelf.Strings.Builder2
import Derived.Shelf.Strings.OnBuilder
import Derived.Shelf.Strings.Trim
import Derived.Shelf.Small.Utf8
import Derived.Shelf.Small.Strs
import Derived.Shelf.Strings.BuilderF
import Derived.Shelf.Strings.BuilderK
import Derived.Shelf.Strings.Builder2Cap
import Derived.Shelf.Strings.Search1
import Derived.Shelf.Strings.Search2
import Derived.Shelf.Strings.Search3
import Derived.Shelf.Strings.Cut
import Derived.Shelf.LaysM
import Derived.Shelf.Strings.Shaped
import Derived.Shelf.Strings.Prefix
import Derived.Shelf.Unicode.Decode
import Derived.Shelf.Strings.Runes
import Derived.Shelf.Strings.AsciiSet
import Derived.Shelf.Unicode.DecodeSlow
import Derived.Shelf.Unicode.DecodeAny
import Derived.Shelf.Unicode.DecodeLast
import Derived.Ground.Names2Prog
import Derived.Shelf.Slices.Clone
import Derived.Shelf.Unicode.ValidAny
import Derived.Test.YtjdiakhipmggjaaGreatDoorProg
import Derived.Test.YtjdiakhipmggjaaGreatDoorRows
import Derived.Lib.LaidU8T
import Derived.OpenShut
import Derived.MakeChecks
import Derived.WideShapes
import Derived.Lib.AsciiSet
import Derived.Lib.Join
import Derived.Maps.RangeRun
set_option linter.unnecessarySimpa false
set_option linter.defProp false
set_option linter.unusedSectionVars false
set_option linter.unusedVariables false
set_option linter.unusedSimpArgs false
namespace Go.Proofs
open Go.Shelf
def Tryz.lays156_ren : Go.Shelf.Ren := ⟨fun | 156 => 143 | 165 => 176 | 166 => 177 | 169 => 178 | 240 => 200 | 241 => 201 | 276 => 213 | 277 => 214 | n => n, fun | 31 => 54 | 9 => 9 | 3 => 3 | 4 => 4 | 0 => 0 | 20 => 20 | 72 => 205 | 76 => 208 | 70 => 202 | 37 => 203 | 75 => 207 | 127 => 220 | 164 => 230 | 5 => 5 | 80 => 210 | n => n, fun | n => n⟩
theorem Tryz.lays156 : Go.Proofs.Lays.n156 Tryz.prog Tryz.lays156_ren := {
  mixed := by kernel_rfl
  f156 := Tryz.func143.trans (congrArg some (by kernel_rfl))
  f165 := Tryz.func176.trans (congrArg some (by kernel_rfl))
  f166 := Tryz.func177.trans (congrArg some (by kernel_rfl))
  f169 := Tryz.func178.trans (congrArg some (by kernel_rfl))
  f240 := Tryz.func200.trans (congrArg some (by kernel_rfl))
  f241 := Tryz.func201.trans (congrArg some (by kernel_rfl))
  f276 := Tryz.func213.trans (congrArg some (by kernel_rfl))
  f277 := Tryz.func214.trans (congrArg some (by kernel_rfl))
  t0 := Tryz.underlying0
  a0 := Tryz.isAgg0
  z0 := Tryz.sizeOf0
  v0 := Tryz.zeroValue0
  t3 := Tryz.underlying3
  a3 := Tryz.isAgg3
  z3 := Tryz.sizeOf3
  v3 := Tryz.zeroValue3
  t4 := Tryz.underlying4
  a4 := Tryz.isAgg4
  z4 := Tryz.sizeOf4
  v4 := Tryz.zeroValue4
  t9 := Tryz.underlying9
  a9 := Tryz.isAgg9
  z9 := Tryz.sizeOf9
  v9 := Tryz.zeroValue9
  t20 := Tryz.underlying20
  a20 := Tryz.isAgg20
  z20 := Tryz.sizeOf20
  v20 := Tryz.zeroValue20
  t31 := Tryz.underlying54
  a31 := Tryz.isAgg54
  z31 := Tryz.sizeOf54
  v31 := Tryz.zeroValue54
  t37 := Tryz.underlying203
  a37 := Tryz.isAgg203
  z37 := Tryz.sizeOf203
  v37 := Tryz.zeroValue203
  t70 := Tryz.underlying202
  a70 := Tryz.isAgg202
  z70 := Tryz.sizeOf202
  v70 := Tryz.zeroValue202
  t72 := Tryz.underlying205
  a72 := Tryz.isAgg205
  z72 := Tryz.sizeOf205
  v72 := Tryz.zeroValue205
  t75 := Tryz.underlying207
  a75 := Tryz.isAgg207
  z75 := Tryz.sizeOf207
  v75 := Tryz.zeroValue207
  t76 := Tryz.underlying208
  a76 := Tryz.isAgg208
  z76 := Tryz.sizeOf208
  v76 := Tryz.zeroValue208
  t127 := Tryz.underlying220
  a127 := Tryz.isAgg220
  z127 := Tryz.sizeOf220
  v127 := Tryz.zeroValue220
  t164 := Tryz.underlying230
  a164 := Tryz.isAgg230
  z164 := Tryz.sizeOf230
  v164 := Tryz.zeroValue230 }
theorem Tryz.Builder_Extra_156 : Builder.Extra Tryz.prog Tryz.lays156_ren := {
  sizeBuilder := by kernel_rfl
  liesBuilder := by kernel_rfl
  t5 := Tryz.underlying5
  a5 := Tryz.isAgg5
  z5 := Tryz.sizeOf5
  v5 := Tryz.zeroValue5
  infoByte := by kernel_rfl
  cellsByte := by kernel_rfl
  sizeByte := by kernel_rfl
  neB5 := by decide }
open Go.RowKit in
theorem Tryz.strings_Join_none (a : Option Addr) (c : Nat) (sep : ByteArray) (w : World) :
    Calls Tryz.prog 143 #[.slice a 0 c, .string sep] w fun e w' => e = .returned (.string ⟨#[]⟩) ∧ w' = w := Any.strings_Join_none Tryz.lays156 Tryz.Builder_Extra_156 a c sep w
open Go.RowKit in
theorem Tryz.strings_Join (bk o c : Nat) (xs : List ByteArray) (sep : ByteArray) (w : World) (hcells : ∀ (j : Nat) x, xs[j]? = some x → w.cell? ⟨bk, o + j, none⟩ = some (.string x)) (hbk : bk < w.heap.size) (hN : xs.length ≤ 140737488355328) (hcap : xs.length ≤ c) (hlen : (Lib.join (xs.map (·.data.toList)) sep.data.toList).length ≤ 140737488355328) :
    Calls Tryz.prog 143 #[.slice (some ⟨bk, o, none⟩) xs.length c, .string sep] w fun e w' => e = .returned (.string ⟨(Lib.join (xs.map (·.data.toList)) sep.data.toList).toArray⟩) ∧ Below w.heap.size w w' := Any.strings_Join Tryz.lays156 Tryz.Builder_Extra_156 bk o c xs sep w hcells hbk hN hcap hlen
open Go.RowKit in
def Tryz.lays144_ren : Go.Shelf.Ren := ⟨fun | 144 => 210 | 143 => 223 | 219 => 228 | 217 => 227 | 225 => 220 | 224 => 219 | 267 => 232 | 266 => 231 | 314 => 234 | n => n, fun | 9 => 9 | 4 => 4 | 3 => 3 | 5 => 5 | 46 => 158 | 146 => 242 | 51 => 241 | n => n, fun | 1 => 4 | n => n⟩
theorem Tryz.lays144 : Go.Proofs.Lays.n144 Tryz.prog Tryz.lays144_ren := {
  mixed := by kernel_rfl
  f143 := Tryz.func223.trans (congrArg some (by kernel_rfl))
  f144 := Tryz.func210.trans (congrArg some (by kernel_rfl))
  f217 := Tryz.func227.trans (congrArg some (by kernel_rfl))
  f219 := Tryz.func228.trans (congrArg some (by kernel_rfl))
  f224 := Tryz.func219.trans (congrArg some (by kernel_rfl))
  f225 := Tryz.func220.trans (congrArg some (by kernel_rfl))
  f266 := Tryz.func231.trans (congrArg some (by kernel_rfl))
  f267 := Tryz.func232.trans (congrArg some (by kernel_rfl))
  f314 := Tryz.func234.trans (congrArg some (by kernel_rfl))
  t3 := Tryz.underlying3
  a3 := Tryz.isAgg3
  z3 := Tryz.sizeOf3
  v3 := Tryz.zeroValue3
  t4 := Tryz.underlying4
  a4 := Tryz.isAgg4
  z4 := Tryz.sizeOf4
  v4 := Tryz.zeroValue4
  t5 := Tryz.underlying5
  a5 := Tryz.isAgg5
  z5 := Tryz.sizeOf5
  v5 := Tryz.zeroValue5
  t9 := Tryz.underlying9
  a9 := Tryz.isAgg9
  z9 := Tryz.sizeOf9
  v9 := Tryz.zeroValue9
  t46 := Tryz.underlying158
  a46 := Tryz.isAgg158
  z46 := Tryz.sizeOf158
  v46 := Tryz.zeroValue158
  t51 := Tryz.underlying241
  a51 := Tryz.isAgg241
  z51 := Tryz.sizeOf241
  v51 := Tryz.zeroValue241
  t146 := Tryz.underlying242
  a146 := Tryz.isAgg242
  z146 := Tryz.sizeOf242
  v146 := Tryz.zeroValue242
  g1 := by kernel_rfl }
open Go.RowKit Go.Lib in
theorem Tryz.strings_Contains_one (s : ByteArray) (c : UInt8) (w : World) :
    Calls Tryz.prog 210 #[.string s, .string ⟨#[c]⟩] w fun e w' => e = .returned (.bool (decide (0 ≤ Lib.indexByte s.data.toList c))) ∧ w' = w := Any.strings_Contains_one Tryz.lays144 s c w
def Tryz.lays227_ren : Go.Shelf.Ren := ⟨fun | 227 => 157 | n => n, fun | 9 => 9 | 116 => 190 | 4 => 4 | 0 => 0 | 3 => 3 | 5 => 5 | n => n, fun | n => n⟩
theorem Tryz.lays227 : Go.Proofs.Lays.n227 Tryz.prog Tryz.lays227_ren := {
  mixed := by kernel_rfl
  f227 := Tryz.func157.trans (congrArg some (by kernel_rfl))
  t0 := Tryz.underlying0
  a0 := Tryz.isAgg0
  z0 := Tryz.sizeOf0
  v0 := Tryz.zeroValue0
  t3 := Tryz.underlying3
  a3 := Tryz.isAgg3
  z3 := Tryz.sizeOf3
  v3 := Tryz.zeroValue3
  t4 := Tryz.underlying4
  a4 := Tryz.isAgg4
  z4 := Tryz.sizeOf4
  v4 := Tryz.zeroValue4
  t5 := Tryz.underlying5
  a5 := Tryz.isAgg5
  z5 := Tryz.sizeOf5
  v5 := Tryz.zeroValue5
  t9 := Tryz.underlying9
  a9 := Tryz.isAgg9
  z9 := Tryz.sizeOf9
  v9 := Tryz.zeroValue9
  t116 := Tryz.underlying190
  a116 := Tryz.isAgg190
  z116 := Tryz.sizeOf190 }
open Go.RowKit Go.Lib in
theorem Tryz.strings_makeASCIISet (hv116 : ∀ w, (zeroValue 190).run Tryz.prog w = .ok (.agg (Array.replicate 256 (.bool false))) w) (chars : ByteArray) (w : World) (hs : chars.size < 4294967281) (hascii : ∀ (j : Nat) b, chars.data.toList[j]? = some b → b.toNat < 128) :
    Calls Tryz.prog 157 #[.string chars] w fun e w' => e = .returned (.tuple #[.agg (Lib.setCells chars.data.toList), .bool true]) ∧ w' = w.alloc (.cells (Lib.setCells chars.data.toList) 190) := Any.strings_makeASCIISet Tryz.lays227 hv116 (by kernel_rfl) chars w hs hascii
open Go.RowKit Go.Lib in
def Tryz.lays196_ren : Go.Shelf.Ren := ⟨fun | 196 => 64 | 259 => 112 | n => n, fun | 9 => 9 | 4 => 4 | 3 => 3 | 5 => 5 | 12 => 12 | 119 => 154 | 0 => 0 | 46 => 158 | 139 => 157 | 138 => 156 | 53 => 184 | n => n, fun | 3 => 1 | 4 => 2 | n => n⟩
theorem Tryz.lays196 : Go.Proofs.Lays.n196 Tryz.prog Tryz.lays196_ren := {
  mixed := by kernel_rfl
  f196 := Tryz.func64.trans (congrArg some (by kernel_rfl))
  f259 := Tryz.func112.trans (congrArg some (by kernel_rfl))
  t0 := Tryz.underlying0
  a0 := Tryz.isAgg0
  z0 := Tryz.sizeOf0
  v0 := Tryz.zeroValue0
  t3 := Tryz.underlying3
  a3 := Tryz.isAgg3
  z3 := Tryz.sizeOf3
  v3 := Tryz.zeroValue3
  t4 := Tryz.underlying4
  a4 := Tryz.isAgg4
  z4 := Tryz.sizeOf4
  v4 := Tryz.zeroValue4
  t5 := Tryz.underlying5
  a5 := Tryz.isAgg5
  z5 := Tryz.sizeOf5
  v5 := Tryz.zeroValue5
  t9 := Tryz.underlying9
  a9 := Tryz.isAgg9
  z9 := Tryz.sizeOf9
  v9 := Tryz.zeroValue9
  t12 := Tryz.underlying12
  a12 := Tryz.isAgg12
  z12 := Tryz.sizeOf12
  v12 := Tryz.zeroValue12
  t46 := Tryz.underlying158
  a46 := Tryz.isAgg158
  z46 := Tryz.sizeOf158
  v46 := Tryz.zeroValue158
  t53 := Tryz.underlying184
  a53 := Tryz.isAgg184
  z53 := Tryz.sizeOf184
  v53 := Tryz.zeroValue184
  t119 := Tryz.underlying154
  a119 := Tryz.isAgg154
  z119 := Tryz.sizeOf154
  t138 := Tryz.underlying156
  a138 := Tryz.isAgg156
  z138 := Tryz.sizeOf156
  v138 := Tryz.zeroValue156
  t139 := Tryz.underlying157
  a139 := Tryz.isAgg157
  z139 := Tryz.sizeOf157
  v139 := Tryz.zeroValue157
  g3 := by kernel_rfl
  g4 := by kernel_rfl }
end Go.Proofs

namespace Go.Proofs.YtjdiakhipmggjaaGreatDoor
open Go.Emb Go.RowKit Go.Kd Go.Hm
variable {w : World} {K : Value → World → Prop} {σ : Q6}
theorem X0P {f:FuncId} {fn:Func} {a:List Value} {V:Value} (g:P.funcs[f]? =some fn) (b:fn.body.isSome=true) (c:(fn.name== "runtime.NumGoroutine")=false)
 (h:Calls P f a.toArray w fun e w'=>e= .returned V∧Below w.heap.size w w') (d: ∀w',Below w.heap.size w w'→K V w'):Q1 P f a w K:=by
 refine Wo g b c (Calls.mono h ?_)
 rintro e w' ⟨rfl,b⟩
 exact d w' b
theorem Tu {a:X0} (c:a.length≤U1) (b:Lib.Utf8Tabs G.e G.d w) (h: ∀w',Below w.heap.size w w'→K (.bool (Lib.validD a)) w'):Q1 P F.aZ [S a] w K:=
 X0P Tryz.func64 (by kernel_rfl) (by kernel_rfl) (by
  have:=Any.utf8_ValidString Tryz.lays196 ⟨a.toArray⟩ w (by rw[I7];simp only[U1] at c;omega) b
  simp only[List.toList_toArray] at this
  exact this) h
theorem Q6U {a:X0} {c:UInt8} (h:K (.bool (decide (0≤Lib.indexByte a c))) w):Q1 P F.cC [S a,S [c]] w K:=by
 refine Wo (fn:=Tryz.f210) Tryz.func210 (by kernel_rfl) (by kernel_rfl) (Calls.mono (Tryz.strings_Contains_one ⟨a.toArray⟩ c w) ?_)
 rintro e w' ⟨rfl,rfl⟩
 exact h
structure Glb (σ : Q6) : Prop where
  ops : Q2M σ
  tabs : ∀ w, X2 w σ → Lib.Utf8Tabs G.e G.d w
  flt : Z4 σ ⟨G.b, 0, none⟩ (U5.map S)
theorem Glb.lift {σ0:Q6} (h:Glb σ0) (k:SLe σ0 σ):Glb σ:=⟨h.ops.le k.le,fun w a=>h.tabs w fun b o e=>a b o (k.le b o e),h.flt.le k.le⟩
def txt (n s:X0):Bool:=
 if n=[119,111,114,100] then decide (s.length≤64)&&Lib.validD s&& !decide (0≤Lib.indexByte s 10)
 else if n=[110,101,119] then M6 s
 else if n=[105,115]∨n=[99,97,115,116] then right s&& !plain s
 else if n=[97,114,114,97,121] then right s&&decide (Ya s<3)
 else Zj s
theorem X3k {n a:X0} (ha:a.length≤U1) (hs:X2 w σ) (hg:Glb σ) (h: ∀w' σ',Stp w σ w' σ'→K (.bool (txt n a)) w'):Q1 P F.cJ [S n,S a] w K:=Q7d (by
 unfold Q2k
 have ha':a.length≤140737488355320:=by simp only[U1] at ha;omega
 have ha2:a.length≤140737488355328:=by simp only[U1] at ha;omega
 have hv: ∀{w1:World} {K:Value→World→Prop},X2 w1 σ→(∀w',Below w1.heap.size w1 w'→K (.bool (Lib.validD a)) w')→Q1 P F.aZ [S a] w1 K:=fun hk h=>Tu ha (hg.tabs _ hk) h
 unfold txt at h
 have e:decide ((a.length:Int)≤64)=decide (a.length≤64):=by rw[Bool.eq_iff_iff];simp only[decide_eq_true_eq];omega
 have e3:decide ((Ya a:Int)<3)=decide (Ya a<3):=by rw[Bool.eq_iff_iff];simp only[decide_eq_true_eq];omega
 by_cases h1:n=[119,111,114,100]
 ·rw[if_pos h1] at h
  simp only[decide_eq_true h1,↓M1,M1,Mb,reduceIte,e]
  by_cases h2:a.length≤64
  ·simp only[decide_eq_true h2,↓M1,M1,Mb,reduceIte] at h⊢
   refine hv hs (L1 hs ?_)
   intro w1 σ1 hk
   by_cases h3:Lib.validD a=true
   ·simp only[h3,↓M1,M1,Mb,reduceIte] at h⊢
    refine Q6U ?_
    (repeat' (first | (with_reducible intro _) | (with_reducible refine U8 ?_) | (simp only[↓M2,M2,Mb,reduceIte]) | (with_reducible first | refine ld aS aL aR ?_ | refine X7 aS aL aR ?_ | refine Y4 aS aL aR ?_ | refine Q8 aL ?_ | refine J0 aR ?_ | refine Y9 aS ?_ | refine N0 aS aL ?_ | refine U7 aS aR ?_ | refine Y8 aS aR aR (Rep.one (by assumption)) ?_ | refine U9 aS aR aR aR ?_ | (refine Z8 (fun hh=>?_) (fun hh=>?_)<;>(try simp only[hh,Bool.not_true,Bool.not_false,↓M2,M2,Mb,reduceIte])) | (refine Q7 (fun hh=>?_) (fun hh=>?_)<;>(try simp only[hh,Bool.not_true,Bool.not_false,↓M2,M2,Mb,reduceIte])))))
    all_goals exact aF
   ·simp only[eq_false_of_ne_true h3,↓M1,M1,Mb,reduceIte] at h⊢
    (repeat' (first | (with_reducible intro _) | (with_reducible refine U8 ?_) | (simp only[↓M2,M2,Mb,reduceIte]) | (with_reducible first | refine ld aS aL aR ?_ | refine X7 aS aL aR ?_ | refine Y4 aS aL aR ?_ | refine Q8 aL ?_ | refine J0 aR ?_ | refine Y9 aS ?_ | refine N0 aS aL ?_ | refine U7 aS aR ?_ | refine Y8 aS aR aR (Rep.one (by assumption)) ?_ | refine U9 aS aR aR aR ?_ | (refine Z8 (fun hh=>?_) (fun hh=>?_)<;>(try simp only[hh,Bool.not_true,Bool.not_false,↓M2,M2,Mb,reduceIte])) | (refine Q7 (fun hh=>?_) (fun hh=>?_)<;>(try simp only[hh,Bool.not_true,Bool.not_false,↓M2,M2,Mb,reduceIte])))))
    all_goals exact aF
  ·simp only[decide_eq_false h2,↓M1,M1,Mb,reduceIte] at h⊢
   (repeat' (first | (with_reducible intro _) | (with_reducible refine U8 ?_) | (simp only[↓M2,M2,Mb,reduceIte]) | (with_reducible first | refine ld aS aL aR ?_ | refine X7 aS aL aR ?_ | refine Y4 aS aL aR ?_ | refine Q8 aL ?_ | refine J0 aR ?_ | refine Y9 aS ?_ | refine N0 aS aL ?_ | refine U7 aS aR ?_ | refine Y8 aS aR aR (Rep.one (by assumption)) ?_ | refine U9 aS aR aR aR ?_ | (refine Z8 (fun hh=>?_) (fun hh=>?_)<;>(try simp only[hh,Bool.not_true,Bool.not_false,↓M2,M2,Mb,reduceIte])) | (refine Q7 (fun hh=>?_) (fun hh=>?_)<;>(try simp only[hh,Bool.not_true,Bool.not_false,↓M2,M2,Mb,reduceIte])))))
   all_goals exact aF
 rw[if_neg h1] at h
 simp only[decide_eq_false h1,↓M1,M1,Mb,reduceIte]
 by_cases h2:n=[110,101,119]
 ·rw[if_pos h2] at h
  simp only[decide_eq_true h2,↓M1,M1,Mb,reduceIte]
  (repeat' (first | (with_reducible intro _) | (with_reducible refine U8 ?_) | (simp only[↓M2,M2,Mb,reduceIte]) | (with_reducible first | refine ld aS aL aR ?_ | refine X7 aS aL aR ?_ | refine Y4 aS aL aR ?_ | refine Q8 aL ?_ | refine J0 aR ?_ | refine Y9 aS ?_ | refine N0 aS aL ?_ | refine U7 aS aR ?_ | refine Y8 aS aR aR (Rep.one (by assumption)) ?_ | refine U9 aS aR aR aR ?_ | refine Rq _ au (L1 aS ?_) | (refine Z8 (fun hh=>?_) (fun hh=>?_)<;>(try simp only[hh,Bool.not_true,Bool.not_false,↓M2,M2,Mb,reduceIte])) | (refine Q7 (fun hh=>?_) (fun hh=>?_)<;>(try simp only[hh,Bool.not_true,Bool.not_false,↓M2,M2,Mb,reduceIte])))))
  all_goals exact aF
 rw[if_neg h2] at h
 simp only[decide_eq_false h2,↓M1,M1,Mb,reduceIte]
 by_cases h3:n=[105,115]∨n=[99,97,115,116]
 ·rw[if_pos h3] at h
  have e4:(decide (n=[105,115])||decide (n=[99,97,115,116]))=true:=by simpa using h3
  refine U8 ?_
  refine Q7 (fun h4=>?_) (fun h4=>?_)
  ·simp only[h4,↓M1,M1,Mb,reduceIte]
   (repeat' (first | (with_reducible intro _) | (with_reducible refine U8 ?_) | (simp only[↓M2,M2,Mb,reduceIte]) | (with_reducible first | refine ld aS aL aR ?_ | refine X7 aS aL aR ?_ | refine Y4 aS aL aR ?_ | refine Q8 aL ?_ | refine J0 aR ?_ | refine Y9 aS ?_ | refine N0 aS aL ?_ | refine U7 aS aR ?_ | refine Y8 aS aR aR (Rep.one (by assumption)) ?_ | refine U9 aS aR aR aR ?_ | refine Zk _ au (L1 aS ?_) | refine Rp _ ?_ | (refine Z8 (fun hh=>?_) (fun hh=>?_)<;>(try simp only[hh,Bool.not_true,Bool.not_false,↓M2,M2,Mb,reduceIte])) | (refine Q7 (fun hh=>?_) (fun hh=>?_)<;>(try simp only[hh,Bool.not_true,Bool.not_false,↓M2,M2,Mb,reduceIte])))))
   all_goals exact aF
  ·rw[h4,Bool.false_or] at e4
   simp only[e4,↓M1,M1,Mb,reduceIte]
   (repeat' (first | (with_reducible intro _) | (with_reducible refine U8 ?_) | (simp only[↓M2,M2,Mb,reduceIte]) | (with_reducible first | refine ld aS aL aR ?_ | refine X7 aS aL aR ?_ | refine Y4 aS aL aR ?_ | refine Q8 aL ?_ | refine J0 aR ?_ | refine Y9 aS ?_ | refine N0 aS aL ?_ | refine U7 aS aR ?_ | refine Y8 aS aR aR (Rep.one (by assumption)) ?_ | refine U9 aS aR aR aR ?_ | refine Zk _ au (L1 aS ?_) | refine Rp _ ?_ | (refine Z8 (fun hh=>?_) (fun hh=>?_)<;>(try simp only[hh,Bool.not_true,Bool.not_false,↓M2,M2,Mb,reduceIte])) | (refine Q7 (fun hh=>?_) (fun hh=>?_)<;>(try simp only[hh,Bool.not_true,Bool.not_false,↓M2,M2,Mb,reduceIte])))))
   all_goals exact aF
 rw[if_neg h3] at h
 obtain ⟨h3,h4⟩:=not_or.1 h3
 refine U8 ?_
 simp only[decide_eq_false h3,decide_eq_false h4,↓M1,M1,Mb,reduceIte]
 by_cases h5:n=[97,114,114,97,121]
 ·rw[if_pos h5] at h
  simp only[decide_eq_true h5,↓M1,M1,Mb,reduceIte]
  (repeat' (first | (with_reducible intro _) | (with_reducible refine U8 ?_) | (simp only[↓M2,M2,Mb,reduceIte]) | (with_reducible first | refine ld aS aL aR ?_ | refine X7 aS aL aR ?_ | refine Y4 aS aL aR ?_ | refine Q8 aL ?_ | refine J0 aR ?_ | refine Y9 aS ?_ | refine N0 aS aL ?_ | refine U7 aS aR ?_ | refine Y8 aS aR aR (Rep.one (by assumption)) ?_ | refine U9 aS aR aR aR ?_ | refine Zk _ au (L1 aS ?_) | refine Q9O _ au (L1 aS ?_) | (refine Z8 (fun hh=>?_) (fun hh=>?_)<;>(try simp only[hh,Bool.not_true,Bool.not_false,↓M2,M2,Mb,reduceIte])) | (refine Q7 (fun hh=>?_) (fun hh=>?_)<;>(try simp only[hh,Bool.not_true,Bool.not_false,↓M2,M2,Mb,reduceIte])))))
  all_goals (try rw[e3])
  all_goals exact aF
 rw[if_neg h5] at h
 simp only[decide_eq_false h5,↓M1,M1,Mb,reduceIte]
 intro _
 refine X2r a ha2 (L1 hs fun w1 σ1 hk=>?_)
 by_cases hp:Zj a=true
 ·simp only[hp,if_true] at h⊢
  (repeat' (first | (with_reducible intro _) | (with_reducible refine U8 ?_) | (simp only[↓M2,M2,Mb,reduceIte]) | (with_reducible first | refine ld aS aL aR ?_ | refine X7 aS aL aR ?_ | refine Y4 aS aL aR ?_ | refine Q8 aL ?_ | refine J0 aR ?_ | refine Y9 aS ?_ | refine N0 aS aL ?_ | refine U7 aS aR ?_ | refine Y8 aS aR aR (Rep.one (by assumption)) ?_ | refine U9 aS aR aR aR ?_ | (refine Z8 (fun hh=>?_) (fun hh=>?_)<;>(try simp only[hh,Bool.not_true,Bool.not_false,↓M2,M2,Mb,reduceIte])) | (refine Q7 (fun hh=>?_) (fun hh=>?_)<;>(try simp only[hh,Bool.not_true,Bool.not_false,↓M2,M2,Mb,reduceIte])))))
  all_goals exact aF
 ·simp only[eq_false_of_ne_true hp,Bool.false_eq_true,if_false] at h⊢
  (repeat' (first | (with_reducible intro _) | (with_reducible refine U8 ?_) | (simp only[↓M2,M2,Mb,reduceIte]) | (with_reducible first | refine ld aS aL aR ?_ | refine X7 aS aL aR ?_ | refine Y4 aS aL aR ?_ | refine Q8 aL ?_ | refine J0 aR ?_ | refine Y9 aS ?_ | refine N0 aS aL ?_ | refine U7 aS aR ?_ | refine Y8 aS aR aR (Rep.one (by assumption)) ?_ | refine U9 aS aR aR aR ?_ | (refine Z8 (fun hh=>?_) (fun hh=>?_)<;>(try simp only[hh,Bool.not_true,Bool.not_false,↓M2,M2,Mb,reduceIte])) | (refine Q7 (fun hh=>?_) (fun hh=>?_)<;>(try simp only[hh,Bool.not_true,Bool.not_false,↓M2,M2,Mb,reduceIte])))))
  all_goals exact aF)
def H3 (i:Ins):Int:=if !(R9 i.op).2.2 then 40 else if (!(R9 i.op).1&&decide (i.n≠0))||(!(R9 i.op).2.1&&decide (i.s≠[]))||((R9 i.op).2.1&& !txt i.op i.s) then 41 else 0
theorem X0R {a:X0} (b:X2 w σ) (c:Glb σ) (h: ∀w',Below w.heap.size w w'→K (.tuple #[.bool (R9 a).1, .bool (R9 a).2.1, .bool (R9 a).2.2]) w'):Q1 P F.cl [S a] w K:=X28 b c.ops h
theorem Q6K {i:Ins} {cs:List Value} (hs:X2 w σ) (hg:Glb σ) (hi:Qj σ i cs) (h: ∀w' σ',Stp w σ w' σ'→K (I (H3 i)) w'):Q1 P F.cF [.agg cs.toArray] w K:=Q6w (by
 obtain ⟨rfl,h1,h2,h3⟩:=hi
 unfold Q1c
 unfold H3 at h
 (repeat' (first | (with_reducible intro _) | (with_reducible refine U8 ?_) | (simp only[↓M2,M2,Mb,reduceIte]) | (with_reducible first | refine ld aS aL aR ?_ | refine X7 aS aL aR ?_ | refine Y4 aS aL aR ?_ | refine Q8 aL ?_ | refine J0 aR ?_ | refine Y9 aS ?_ | refine N0 aS aL ?_ | refine U7 aS aR ?_ | refine Y8 aS aR aR (Rep.one (by assumption)) ?_ | refine U9 aS aR aR aR ?_ | refine X0R au au (L1 aS ?_) | refine X3k au au au ?_ | (refine Z8 (fun hh=>?_) (fun hh=>?_)<;>(try simp only[hh,Bool.not_true,Bool.not_false,↓M2,M2,Mb,reduceIte])) | (refine Q7 (fun hh=>?_) (fun hh=>?_)<;>(try simp only[hh,Bool.not_true,Bool.not_false,↓M2,M2,Mb,reduceIte])))))
 all_goals exact aF)
end Go.Proofs.YtjdiakhipmggjaaGreatDoor

namespace Go.Emb
open Go.RowKit Go.Hm
variable {P : Program} {W : World}
theorem Q2F {w:World} (c:X2 w (Uo W)) {a:Addr} {v:Value} (h:W.cell? a=some v):w.cell? a=some v:=by
 unfold World.cell? at h⊢
 cases b:W.heap[a.block]? with
 | none=>rw[b] at h;cases h
 | some o=>rw[b] at h;rw[c _ o b];exact h
theorem X2X {α:Type} {f:α→List Value} {sz:Nat} (k: ∀a,(f a).length=sz): ∀(l:List α) (cs:List Value),cs.length=l.length*sz→(∀i a,l[i]? =some a→(cs.drop (i*sz)).take sz=f a)→cs=l.flatMap f:=by
 intro l
 induction l with
 | nil=>intro cs h _;simp at h;simp[h]
 | cons a r e=>
  intro cs h hh
  have j:=hh 0 a rfl
  have g:=e (cs.drop sz) (by rw[List.length_drop,h,List.length_cons,Nat.succ_mul];omega) (fun i b c=>by
   have:=hh (i+1) b (by simpa using c)
   rw[List.drop_drop]
   rwa [Nat.succ_mul,Nat.add_comm] at this)
  rw[List.flatMap_cons,←g,←j]
  simp
theorem Q4M {α H:Type} {enc:TypeId×Value→H} {base:Nat} {s:Nat→Bool} {b:Bool} {f:α→List Value} {k:α→DataW H} {n sz:Nat} {t e:TypeId} {c:Nat} {cs:List Value} {p:List MemPlace} (E:P.underlying t=some (.array n e)) (y:P.cellsOf e=sz) (j:P.cellsOf t=n*sz)
 (l:List α) (C: ∀a,(f a).length=sz) (g: ∀m cs a q,DataW.trod enc P W base s b m e cs=some (k a,q)→cs=f a)
 (h:DataW.trod enc P W base s b c t cs=some (.agg (l.map k),p)):cs=l.flatMap f:=by
 obtain ⟨xs,m,_,o,D,L,B⟩:=DataW.trod_array E h
 simp only[Prod.mk.injEq,DataW.agg.injEq] at o
 have A:l.length=n:=by have:=congrArg List.length o.1;simp at this;omega
 refine X2X C l cs (by rw[D,j,A]) fun i a w=>?_
 have J:i<l.length:=(List.getElem?_eq_some_iff.1 w).1
 have r:=B i (by omega)
 have u:i<xs.length:=by omega
 rw[List.getElem?_eq_getElem u,y] at r
 have z:(xs[i]).1=k a:=by
  have:=congrArg (·[i]?) o.1
  simp only[List.getElem?_map,w,List.getElem?_eq_getElem u,Option.map_some,Option.some.injEq] at this
  exact this.symm
 exact g m _ a _ (by rw[r];congr 1;exact Prod.ext z rfl)
theorem Q6n {n:String} {g:Nat} {cs:Array Value} {l:List Value} (j:P.globalNamed n=some g) (a:W.var? P n=some cs) (h:cs.toList=l):Z4 (Uo W) ⟨g,0,none⟩ l:=by
 unfold World.var? at a
 rw[j] at a
 simp only[Option.bind_some] at a
 cases b:W.heap[g]? with
 | none=>rw[b] at a;cases a
 | some o=>
  rw[b] at a
  cases o with
  | cells arr e f=>
   cases a
   refine ⟨rfl,cs,e,f,b,fun i v c=>?_⟩
   subst h
   simpa using c
  | _=>cases a
end Go.Emb
namespace Go.Proofs.YtjdiakhipmggjaaGreatDoor
open Go.Emb Go.RowKit Go.Kd Go.Hm
variable {W : World}
def laidAll:List (String×DataW Unit):=[("unicode/utf8.acceptRanges",Rows.laid_unicode_utf8_acceptRanges),("squinch/code.ops",Rows.laid_squinch_code_ops),("squinch/hier.faults",Rows.laid_squinch_hier_faults),("unicode/utf8.first",Rows.laid_unicode_utf8_first)]
theorem X3Y:Rows.laid_squinch_code_ops=(.agg (Uh.map fun o=> .agg [.lit (.string o.name), .lit (.bool o.number), .lit (.bool o.text)]):DataW Unit):=by rfl
theorem X0r:Rows.laid_squinch_hier_faults=(.agg (U5.map fun s=> .lit (.string s)):DataW Unit):=by rfl
theorem X3P:(Rows.laid_unicode_utf8_acceptRanges:DataW Unit)=Lib.acceptData:=by rfl
theorem X2y:Rows.laid_unicode_utf8_first=Lib.firstData:=by kernel_rfl
def X4o:Array Field:= #[⟨"name",T.c,0,false, "", "squinch/code",0⟩,⟨"number",T.t,1,false, "", "squinch/code",16⟩,⟨"text",T.t,2,false, "", "squinch/code",17⟩]
theorem X4n:P.underlying T.ad=some (.struct X4o):=by kernel_rfl
theorem X2T (h:laidMetH P laidAll W):Glb (Uo W):=by
 rw[Go.MakeChecks.laidMetH_plain _ _ _ (by kernel_rfl)] at h
 refine ⟨?_,fun w z=>?_,?_⟩
 ·obtain ⟨g,t,cs,r,p,u,j,b,l⟩:=Lib.laidMet.reads h (.tail _ (.head _))
  obtain rfl:=Option.some.inj ((show P.globalNamed "squinch/code.ops"=some G.a by kernel_rfl).symm.trans u)
  obtain rfl:=Option.some.inj ((show (P.globals[G.a]?).map (·.type)=some T.af by kernel_rfl).symm.trans j)
  rw[X3Y] at l
  refine Q6n u b (Q4M (f:=cOp) (sz:=3) (n:=42) (e:=T.ad) (by kernel_rfl) (by kernel_rfl) (by kernel_rfl) Uh (fun _=>rfl) (fun m cs a q h=>by
  obtain ⟨xs,n,_,k,Z,Y,A⟩:=DataW.trod_struct X4n h
  simp only[Prod.mk.injEq,DataW.agg.injEq] at k
  have o:cs.length=3:=by rw[Z];kernel_rfl
  obtain ⟨c0,y,B,rfl⟩:=X1y o
  obtain ⟨x0,x1,X,rfl⟩:=X1y (show xs.length=3 by rw[Y];rfl)
  have k:=k.1
  simp only[List.map_cons,List.map_nil,List.cons.injEq,and_true] at k
  obtain ⟨Q,L,N⟩:=k
  have O:DataW.trod (fun _=>()) P W 0 (fun _=>true) false n T.c (List.take (P.cellsOf T.c) (List.drop 0 [c0,y,B]))=some x0:=A 0 _ rfl
  have J:DataW.trod (fun _=>()) P W 0 (fun _=>true) false n T.t (List.take (P.cellsOf T.t) (List.drop 1 [c0,y,B]))=some x1:=A 1 _ rfl
  have E:DataW.trod (fun _=>()) P W 0 (fun _=>true) false n T.t (List.take (P.cellsOf T.t) (List.drop 2 [c0,y,B]))=some X:=A 2 _ rfl
  rw[Ki] at O
  rw[X39] at J E
  obtain ⟨⟨⟨s0⟩⟩,C,V,_⟩:=DataW.trod_string X8 O
  obtain ⟨b1,R,r1⟩:=DataW.trod_bool Q32 J
  obtain ⟨b2,D,r2⟩:=DataW.trod_bool Q32 E
  simp at C R D
  subst C R D V r1 r2
  simp at Q L N
  simp[cOp,←Q,←L,←N]) l)
 ·have:=utf8Tabs_of_readsT (U8Types.of196 Tryz.lays196) ⟨by kernel_rfl,by kernel_rfl,by kernel_rfl,by kernel_rfl,by kernel_rfl,by kernel_rfl,by kernel_rfl⟩ (X2y▸Lib.laidMet.reads h (.tail _ (.tail _ (.tail _ (.head _))))) (X3P▸Lib.laidMet.reads h (.head _))
  exact ⟨fun c U=>Q2F z (this.1 c U),fun i M=>⟨Q2F z (this.2 i M).1,Q2F z (this.2 i M).2⟩⟩
 ·obtain ⟨g,t,cs,r,p,u,j,b,l⟩:=Lib.laidMet.reads h (.tail _ (.tail _ (.head _)))
  obtain rfl:=Option.some.inj ((show P.globalNamed "squinch/hier.faults"=some G.b by kernel_rfl).symm.trans u)
  obtain rfl:=Option.some.inj ((show (P.globals[G.b]?).map (·.type)=some T.ao by kernel_rfl).symm.trans j)
  rw[X0r] at l
  have:=Q4M (f:=fun s=>[S s]) (sz:=1) (n:=6) (e:=T.c) (by kernel_rfl) Ki (by kernel_rfl) U5 (fun _=>rfl) (fun m cs a q h=>by
   obtain ⟨⟨⟨s⟩⟩,rfl,k,_⟩:=DataW.trod_string X8 h
   cases k;rfl) l
  exact Q6n u b (this.trans (by rfl))
end Go.Proofs.YtjdiakhipmggjaaGreatDoor
namespace Go.Emb
open Go.RowKit Go.Hm
theorem Q9F {H:Type} {P:Program} {a:List TypeId} {ds:List (DataW H)} (h:(DataW.weightsEach P a ds).all (· ≤reachBytes)=true) {j:Nat} {t:TypeId} {d:DataW H} (b:a[j]? =some t) (e:ds[j]? =some d):Wt P t d:=fun n c=>by
 have:=List.all_eq_true.1 h _ (DataW.weights_mem_each b e n c)
 simpa using this
end Go.Emb
namespace Go.Proofs.YtjdiakhipmggjaaGreatDoor
open Go.Emb Go.RowKit Go.Kd Go.Hm
section
variable {H : Type} {enc : TypeId × Value → H} {W : World} {v : Value} {d : DataW H} {p : List MemPlace}
end
end Go.Proofs.YtjdiakhipmggjaaGreatDoor

namespace Go.Proofs.YtjdiakhipmggjaaGreatDoor
open Go.Emb Go.RowKit Go.Kd Go.Hm
variable {w : World} {K : Value → World → Prop} {σ : Q6}
def I4 (n:Int) (x:Cat):Bool:=decide (0≤x.frm)&&decide (x.frm<x.to)&&decide (x.to≤n)&&decide (0≤x.at_)&&decide (x.at_<n)&&M6 x.cls
theorem Q7Y {cs:List Value} {c:Cat} {q:Addr} {n:Int} (hs:X2 w σ) (hc:Jj σ c cs) (hq:Z4 σ q [I n]) (h: ∀w' σ',Stp w σ w' σ'→K (.bool (I4 n c)) w'):Q1 P F.bi [.agg cs.toArray, .pointer (some q)] w K:=Q2A (by
 obtain ⟨rfl,h1,h2,h3,h4⟩:=hc
 unfold Cl
 unfold I4 at h
 (repeat' (first | (with_reducible intro _) | (with_reducible refine U8 ?_) | (simp only[↓M2,M2,Mb,reduceIte]) | (with_reducible first | refine ld aS aL aR ?_ | refine X7 aS aL aR ?_ | refine Y4 aS aL aR ?_ | refine Q8 aL ?_ | refine J0 aR ?_ | refine Y9 aS ?_ | refine N0 aS aL ?_ | refine U7 aS aR ?_ | refine Y8 aS aR aR (Rep.one (by assumption)) ?_ | refine U9 aS aR aR aR ?_ | refine Rq _ au (L1 aS ?_) | (refine Z8 (fun hh=>?_) (fun hh=>?_)<;>(try simp only[hh,Bool.not_true,Bool.not_false,↓M2,M2,Mb,reduceIte])) | (refine Q7 (fun hh=>?_) (fun hh=>?_)<;>(try simp only[hh,Bool.not_true,Bool.not_false,↓M2,M2,Mb,reduceIte])))))
 all_goals exact aF)
theorem Q86 {cs:List Value} {i:Ins} (hs:X2 w σ) (hg:Glb σ) (hc:Qj σ i cs) (h: ∀w' σ',Stp w σ w' σ'→K (.bool (decide (H3 i=0))) w'):Q1 P F.bj [.agg cs.toArray] w K:=Q2O (by
 obtain ⟨rfl,h1,h2,h3⟩:=hc
 have hc:Qj σ i [S i.op,I i.n,S i.s]:=⟨rfl,h1,h2,h3⟩
 unfold St
 (repeat' (first | (with_reducible intro _) | (with_reducible refine U8 ?_) | (simp only[↓M2,M2,Mb,reduceIte]) | (with_reducible first | refine ld aS aL aR ?_ | refine X7 aS aL aR ?_ | refine Y4 aS aL aR ?_ | refine Q8 aL ?_ | refine J0 aR ?_ | refine Y9 aS ?_ | refine N0 aS aL ?_ | refine U7 aS aR ?_ | refine Y8 aS aR aR (Rep.one (by assumption)) ?_ | refine U9 aS aR aR aR ?_ | refine Q6K au au au ?_ | (refine Z8 (fun hh=>?_) (fun hh=>?_)<;>(try simp only[hh,Bool.not_true,Bool.not_false,↓M2,M2,Mb,reduceIte])) | (refine Q7 (fun hh=>?_) (fun hh=>?_)<;>(try simp only[hh,Bool.not_true,Bool.not_false,↓M2,M2,Mb,reduceIte])))))
 all_goals exact aF)
def I9 (m:Hm.Met):Bool:=D2 m.name&&m.params.all right&&(decide (m.result=[])||right m.result)&&
 if m.abs then decide (m.locals=0)&&decide (m.code=[])&&decide (m.catches=[])
 else decide (m.code≠[])&&decide ((m.params.length:Int)<m.locals)&&m.code.all (fun i=>decide (H3 i=0))&&m.catches.all (I4 m.code.length)
theorem X0q {cs:List Value} {m:Hm.Met} (hs:X2 w σ) (hg:Glb σ) (hm:E4 σ m cs) (h: ∀w' σ',Stp w σ w' σ'→K (.bool (I9 m)) w'):Q1 P F.ba [.agg cs.toArray] w K:=Q41 (by
 obtain ⟨pv,cv,hv,rfl,g1,g2,g3,g4,g5,g6⟩:=hm
 unfold Gq
 unfold I9 at h
 have e1:decide ((0:Int)<m.code.length)=decide (m.code≠[]):=by cases m.code<;>simp
 have e2:decide ((m.code.length:Int)=0)=decide (m.code=[]):=by cases m.code<;>simp;omega
 have e3:decide ((m.catches.length:Int)=0)=decide (m.catches=[]):=by cases m.catches<;>simp;omega
 have hA: ∀{w1:World} {σ1:Q6} {K:Value→World→Prop},X2 w1 σ1→Sl 1 U6 σ1 pv m.params→(∀w' σ',Stp w1 σ1 w' σ'→K (.bool (m.params.all right)) w')→Q1 P F.a9 [pv, .func (.func F.z) #[] #[]] w1 K:=
  fun hs hv h=>Gf right hs hv (fun σ1 x w1 K _ _ hs hl hK=>Z7 (Zk x (Nat.le_trans hl (by decide)) hK)) (L1 hs h)
 have hB: ∀{w1:World} {σ1:Q6} {K:Value→World→Prop},X2 w1 σ1→Glb σ1→Sl 3 Qj σ1 cv m.code→(∀w' σ',Stp w1 σ1 w' σ'→K (.bool (m.code.all fun i=>decide (H3 i=0))) w')→Q1 P F.aw [cv, .func (.func F.bj) #[] #[]] w1 K:=
  fun hs hg hv h=>Q1V (fun i=>decide (H3 i=0)) hs hv (fun σ1 x cs w1 K le _ hs hr hl hK=>Z7 (Q86 hs (hg.lift ⟨le⟩) hr fun w' σ' hk=>hK w' hk.bel)) (L1 hs h)
 have hC: ∀{w1:World} {σ1:Q6} {K:Value→World→Prop} {q:Addr},X2 w1 σ1→Sl 4 Jj σ1 hv m.catches→Z4 σ1 q [I m.code.length]→(∀w' σ',Stp w1 σ1 w' σ'→K (.bool (m.catches.all (I4 m.code.length))) w')→Q1 P F.ax [hv, .func (.func F.bi) #[] #[.pointer (some q)]] w1 K:=
  fun hs hv hq h=>Q21 (I4 m.code.length) hs hv (fun σ1 x cs w1 K le _ hs hr hl hK=>Z7 (Q7Y hs hr (hq.le le) fun w' σ' hk=>hK w' hk.bel)) (L1 hs h)
 refine Y9 hs fun a w1 σ1 hk1 ha1=>?_
 (repeat' (first | (with_reducible intro _) | (with_reducible refine U8 ?_) | (simp only[↓M2,M2,Mb,reduceIte]) | (with_reducible first | refine ld aS aL aR ?_ | refine X7 aS aL aR ?_ | refine Y4 aS aL aR ?_ | refine Q8 aL ?_ | refine J0 aR ?_ | refine Y9 aS ?_ | refine N0 aS aL ?_ | refine U7 aS aR ?_ | refine Y8 aS aR aR (Rep.one (by assumption)) ?_ | refine U9 aS aR aR aR ?_ | refine Q65 au (L1 aS ?_) | refine Zk _ au (L1 aS ?_) | refine hA au au ?_ | refine hB au au au ?_ | refine hC au au au ?_ | (refine Z8 (fun hh=>?_) (fun hh=>?_)<;>(try simp only[hh,Bool.not_true,Bool.not_false,↓M2,M2,Mb,reduceIte])) | (refine Q7 (fun hh=>?_) (fun hh=>?_)<;>(try simp only[hh,Bool.not_true,Bool.not_false,↓M2,M2,Mb,reduceIte])))))
 all_goals (simp only[←e1,←e2,←e3] at h;clear e1 e2 e3;exact aF))
theorem Q9o {cs:List Value} {m:Hm.Met} (a:X2 w σ) (d:Glb σ) (c:E4 σ m cs) (h: ∀w' b,Stp w σ w' b→K (.bool (I9 m)) w'):Z3 P (.func (.func F.ba) #[] #[]) [.agg cs.toArray] w K:=Z7 (X0q a d c h)
def Ej (f:Fld):Bool:=D2 f.name&&right f.kind
def Ni (c:Cla):Bool:=(c.name::c.super::c.like).all M6&& !((c.super::c.like).any fun y=>decide (c.name=y))&&C8 id [] c.like&&
 !(c.iface&&(!c.abs|| !decide (c.super=U0)|| !decide (c.fields=[])||c.methods.any (fun m=> !m.abs)))&&
 !((c.abs&&c.fin)||(c.methods.any (·.abs)&& !c.abs))&&C8 Fld.name [] c.fields&&C8 Hm.Met.name [] c.methods&&c.fields.all Ej&&c.methods.all I9
def D0 (c:Cla):Int:=if Zu c then 51 else if Ni c then 0 else 50
theorem Q9G {cs:List Value} {f:Fld} (hs:X2 w σ) (hf:R8 σ f cs) (h: ∀w' σ',Stp w σ w' σ'→K (.bool (Ej f)) w'):Q1 P F.bz [.agg cs.toArray] w K:=Q2S (by
 obtain ⟨rfl,h1,h2⟩:=hf
 unfold Bm
 unfold Ej at h
 (repeat' (first | (with_reducible intro _) | (with_reducible refine U8 ?_) | (simp only[↓M2,M2,Mb,reduceIte]) | (with_reducible first | refine ld aS aL aR ?_ | refine X7 aS aL aR ?_ | refine Y4 aS aL aR ?_ | refine Q8 aL ?_ | refine J0 aR ?_ | refine Y9 aS ?_ | refine N0 aS aL ?_ | refine U7 aS aR ?_ | refine Y8 aS aR aR (Rep.one (by assumption)) ?_ | refine U9 aS aR aR aR ?_ | refine Q65 au (L1 aS ?_) | refine Zk _ au (L1 aS ?_) | (refine Z8 (fun hh=>?_) (fun hh=>?_)<;>(try simp only[hh,Bool.not_true,Bool.not_false,↓M2,M2,Mb,reduceIte])) | (refine Q7 (fun hh=>?_) (fun hh=>?_)<;>(try simp only[hh,Bool.not_true,Bool.not_false,↓M2,M2,Mb,reduceIte])))))
 all_goals exact aF)
set_option maxHeartbeats 1600000 in
theorem X2u {cs:List Value} {c:Cla} (hs:X2 w σ) (hg:Glb σ) (hc:V0 σ c cs) (hl:c.like.length≤1000000) (h: ∀w' σ',Stp w σ w' σ'→K (.bool (Ni c)) w'):Q1 P F.cy [.agg cs.toArray] w K:=Q4P (by
 obtain ⟨lv,fv,mv,rfl,g1,g2,g3,g4,g5⟩:=hc
 unfold Tp
 unfold Ni at h
 refine Y9 hs fun a w1 σ1 hk1 ha1=>?_
 rw[fa]
 refine ld hk1.sat ha1 rfl ?_
 rw[fa]
 refine ld hk1.sat ha1 rfl ?_
 refine Zc (R:=U6) (sz:=1) (xs:=[c.name,c.super]) hk1 [_,_] rfl rfl (by simp;exact ⟨rfl,rfl⟩) rfl ⟨⟨rfl,g4⟩,⟨rfl,g5⟩,trivial⟩ fun v w2 hk2 hacc _=>?_
 rw[fa]
 refine ld hk2.sat ha1 rfl ?_
 refine Wh (hk1.trans hk2) hacc (g1.up hk1) rfl (by simp;omega) (by simp;omega) fun v' w3 hn3 hS3 hacc3 _=>?_
 obtain ⟨σ3,hS3,hv3,le3,_⟩:=hacc3.keep hS3
 have hv3:Sl 1 U6 σ3 v' (c.name::c.super::c.like):=hv3
 have ha3:=ha1.le le3
 have le13:SLe σ σ3:=⟨hS3.le⟩
 have g1:=g1.lift le13
 have g2:=g2.lift le13
 have g3:=g3.lift le13
 have hg:=hg.lift le13
 refine U2 hS3.sat ?_
 refine E5 (fun v _=>Sl 1 U6 σ3 v (c.super::c.like)) (fun _ _ _ h _=>h) (fun w hb=>?_) ?_
 ·refine Ei hv3 (some (I 1)) none 1 (c.like.length+2) (.inr rfl) (.inl ⟨rfl,by simp⟩) (by omega) (by simp) fun v' hv'=>⟨Below.refl _ _,?_⟩
  simpa using hv'
 refine X4 (.pointer (some (a.add 0))) (fun w hb=>by rw[fa];exact X6 rfl) ?_
 refine X4 (S c.name) (fun t w hb e=>by rw[e];exact ld hb.sat ha3 rfl (X6 rfl)) ?_
 rintro t16 t17 t18 w4 hb4 f16 rfl rfl
 have hS4:=hS3.trans hb4.stp
 clear hb4 hk1 hk2 hn3
 have hs4:=hS4.sat
 refine Q1Z hs4 f16 ?_
 have hA: ∀{w1:World} {σ1:Q6} {K:Value→World→Prop},X2 w1 σ1→Sl 7 E4 σ1 mv c.methods→(∀w' σ',Stp w1 σ1 w' σ'→K (.bool (c.methods.any (·.abs))) w')→Q1 P F.a [mv, .func (.func F.cm) #[] #[]] w1 K:=
  fun hs hv h=>B9 (·.abs) hs hv (fun x cs w1 K _ hs hr hl hK=>Z7 (Q3A (by
   obtain ⟨pv,cv,hv,rfl,_⟩:=hr
   unfold Bb
   refine Y9 hs fun a w1 σ1 hk1 ha1=>?_
   (repeat' (first | (with_reducible intro _) | (with_reducible refine U8 ?_) | (simp only[↓M2,M2,Mb,reduceIte]) | (with_reducible first | refine ld aS aL aR ?_ | refine X7 aS aL aR ?_ | refine Y4 aS aL aR ?_ | refine Q8 aL ?_ | refine J0 aR ?_ | refine Y9 aS ?_ | refine N0 aS aL ?_ | refine U7 aS aR ?_ | refine Y8 aS aR aR (Rep.one (by assumption)) ?_ | refine U9 aS aR aR aR ?_ | (refine Z8 (fun hh=>?_) (fun hh=>?_)<;>(try simp only[hh,Bool.not_true,Bool.not_false,↓M2,M2,Mb,reduceIte])) | (refine Q7 (fun hh=>?_) (fun hh=>?_)<;>(try simp only[hh,Bool.not_true,Bool.not_false,↓M2,M2,Mb,reduceIte])))))
   exact hK _ hk1.bel))) (L1 hs h)
 have hB: ∀{w1:World} {σ1:Q6} {K:Value→World→Prop},X2 w1 σ1→Sl 7 E4 σ1 mv c.methods→(∀w' σ',Stp w1 σ1 w' σ'→K (.bool (c.methods.any fun m=> !m.abs)) w')→Q1 P F.a [mv, .func (.func F.cn) #[] #[]] w1 K:=
  fun hs hv h=>B9 (fun m=> !m.abs) hs hv (fun x cs w1 K _ hs hr hl hK=>Z7 (Q2Z (by
   obtain ⟨pv,cv,hv,rfl,_⟩:=hr
   unfold Bl
   refine Y9 hs fun a w1 σ1 hk1 ha1=>?_
   (repeat' (first | (with_reducible intro _) | (with_reducible refine U8 ?_) | (simp only[↓M2,M2,Mb,reduceIte]) | (with_reducible first | refine ld aS aL aR ?_ | refine X7 aS aL aR ?_ | refine Y4 aS aL aR ?_ | refine Q8 aL ?_ | refine J0 aR ?_ | refine Y9 aS ?_ | refine N0 aS aL ?_ | refine U7 aS aR ?_ | refine Y8 aS aR aR (Rep.one (by assumption)) ?_ | refine U9 aS aR aR aR ?_ | (refine Z8 (fun hh=>?_) (fun hh=>?_)<;>(try simp only[hh,Bool.not_true,Bool.not_false,↓M2,M2,Mb,reduceIte])) | (refine Q7 (fun hh=>?_) (fun hh=>?_)<;>(try simp only[hh,Bool.not_true,Bool.not_false,↓M2,M2,Mb,reduceIte])))))
   exact hK _ hk1.bel))) (L1 hs h)
 have hC: ∀{w1:World} {σ1:Q6} {K:Value→World→Prop},X2 w1 σ1→Sl 1 U6 σ1 v' (c.name::c.super::c.like)→(∀w' σ',Stp w1 σ1 w' σ'→K (.bool ((c.name::c.super::c.like).all M6)) w')→Q1 P F.a9 [v', .func (.func F.al) #[] #[]] w1 K:=
  fun hs hv h=>Gf M6 hs hv (fun σ1 x w1 K _ _ hs hl hK=>Z7 (Rq x (Nat.le_trans hl (by decide)) hK)) (L1 hs h)
 have hD: ∀{w1:World} {σ1:Q6} {K:Value→World→Prop},X2 w1 σ1→Sl 1 U6 σ1 lv c.like→(∀w' σ',Stp w1 σ1 w' σ'→K (.bool (C8 id [] c.like)) w')→Q1 P F.aT [lv, .func (.func F.co) #[] #[]] w1 K:=
  fun hs hv h=>Q4V id hs hv (fun σ1 x w1 K _ hs hl hK=>Z7 (Q36 (hK _ (Below.refl _ _)))) (L1 hs h)
 have hE: ∀{w1:World} {σ1:Q6} {K:Value→World→Prop},X2 w1 σ1→Sl 3 R8 σ1 fv c.fields→(∀w' σ',Stp w1 σ1 w' σ'→K (.bool (C8 Fld.name [] c.fields)) w')→Q1 P F.aF [fv, .func (.func F.cp) #[] #[]] w1 K:=
  fun hs hv h=>Q2y Fld.name hs hv (fun σ1 x cs w1 K _ hs hr hl hK=>Z7 (Q3v (by
   obtain ⟨rfl,_⟩:=hr
   unfold Bo
   refine Y9 hs fun a w1 σ1 hk1 ha1=>?_
   (repeat' (first | (with_reducible intro _) | (with_reducible refine U8 ?_) | (simp only[↓M2,M2,Mb,reduceIte]) | (with_reducible first | refine ld aS aL aR ?_ | refine X7 aS aL aR ?_ | refine Y4 aS aL aR ?_ | refine Q8 aL ?_ | refine J0 aR ?_ | refine Y9 aS ?_ | refine N0 aS aL ?_ | refine U7 aS aR ?_ | refine Y8 aS aR aR (Rep.one (by assumption)) ?_ | refine U9 aS aR aR aR ?_ | (refine Z8 (fun hh=>?_) (fun hh=>?_)<;>(try simp only[hh,Bool.not_true,Bool.not_false,↓M2,M2,Mb,reduceIte])) | (refine Q7 (fun hh=>?_) (fun hh=>?_)<;>(try simp only[hh,Bool.not_true,Bool.not_false,↓M2,M2,Mb,reduceIte])))))
   exact hK _ hk1.bel))) (L1 hs h)
 have hF: ∀{w1:World} {σ1:Q6} {K:Value→World→Prop},X2 w1 σ1→Sl 7 E4 σ1 mv c.methods→(∀w' σ',Stp w1 σ1 w' σ'→K (.bool (C8 Hm.Met.name [] c.methods)) w')→Q1 P F.ar [mv, .func (.func F.cq) #[] #[]] w1 K:=
  fun hs hv h=>Q1S Hm.Met.name hs hv (fun σ1 x cs w1 K _ hs hr hl hK=>Z7 (Q3y (by
   obtain ⟨pv,cv,hv,rfl,_⟩:=hr
   unfold Bd
   refine Y9 hs fun a w1 σ1 hk1 ha1=>?_
   (repeat' (first | (with_reducible intro _) | (with_reducible refine U8 ?_) | (simp only[↓M2,M2,Mb,reduceIte]) | (with_reducible first | refine ld aS aL aR ?_ | refine X7 aS aL aR ?_ | refine Y4 aS aL aR ?_ | refine Q8 aL ?_ | refine J0 aR ?_ | refine Y9 aS ?_ | refine N0 aS aL ?_ | refine U7 aS aR ?_ | refine Y8 aS aR aR (Rep.one (by assumption)) ?_ | refine U9 aS aR aR aR ?_ | (refine Z8 (fun hh=>?_) (fun hh=>?_)<;>(try simp only[hh,Bool.not_true,Bool.not_false,↓M2,M2,Mb,reduceIte])) | (refine Q7 (fun hh=>?_) (fun hh=>?_)<;>(try simp only[hh,Bool.not_true,Bool.not_false,↓M2,M2,Mb,reduceIte])))))
   exact hK _ hk1.bel))) (L1 hs h)
 have hG: ∀{w1:World} {σ1:Q6} {K:Value→World→Prop},X2 w1 σ1→Sl 3 R8 σ1 fv c.fields→(∀w' σ',Stp w1 σ1 w' σ'→K (.bool (c.fields.all Ej)) w')→Q1 P F.au [fv, .func (.func F.bz) #[] #[]] w1 K:=
  fun hs hv h=>Q1T Ej hs hv (fun σ1 x cs w1 K _ _ hs hr hl hK=>Z7 (Q9G hs hr fun w' σ' hk=>hK w' hk.bel)) (L1 hs h)
 have hH: ∀{w1:World} {σ1:Q6} {K:Value→World→Prop},X2 w1 σ1→Glb σ1→Sl 7 E4 σ1 mv c.methods→(∀w' σ',Stp w1 σ1 w' σ'→K (.bool (c.methods.all I9)) w')→Q1 P F.ao [mv, .func (.func F.ba) #[] #[]] w1 K:=
  fun hs hg hv h=>Q0g I9 hs hv (fun σ1 x cs w1 K le _ hs hr hl hK=>Q9o hs (hg.lift ⟨le⟩) hr fun w' σ' hk=>hK w' hk.bel) (L1 hs h)
 have e1:decide ((0:Int)<c.fields.length)= !decide (c.fields=[]):=by cases c.fields<;>simp
 have e2:decide (c.super=[79,98,106,101,99,116])=decide (c.super=U0):=rfl
 (repeat' (first | (with_reducible intro _) | (with_reducible refine U8 ?_) | (simp only[↓M2,M2,Mb,reduceIte]) | (with_reducible first | refine ld aS aL aR ?_ | refine X7 aS aL aR ?_ | refine Y4 aS aL aR ?_ | refine Q8 aL ?_ | refine J0 aR ?_ | refine Y9 aS ?_ | refine N0 aS aL ?_ | refine U7 aS aR ?_ | refine Y8 aS aR aR (Rep.one (by assumption)) ?_ | refine U9 aS aR aR aR ?_ | refine hA au au ?_ | refine hB au au ?_ | refine hC au au ?_ | refine hD au au ?_ | refine hE au au ?_ | refine hF au au ?_ | refine hG au au ?_ | refine hH au au au ?_ | (refine Z8 (fun hh=>?_) (fun hh=>?_)<;>(try simp only[hh,Bool.not_true,Bool.not_false,↓M2,M2,Mb,reduceIte])) | (refine Q7 (fun hh=>?_) (fun hh=>?_)<;>(try simp only[hh,Bool.not_true,Bool.not_false,↓M2,M2,Mb,reduceIte])))))
 all_goals (simp only[←e1,←e2] at h;clear hA hB hC hD hE hF hG hH e1 e2;exact aF))
theorem X2w {cs:List Value} {c:Cla} (hs:X2 w σ) (hg:Glb σ) (hc:V0 σ c cs) (hl:c.like.length≤1000000) (h: ∀w' σ',Stp w σ w' σ'→K (I (D0 c)) w'):Q1 P F.cw [.agg cs.toArray] w K:=Q50 (by
 have hc0:=hc
 obtain ⟨lv,fv,mv,rfl,g1,g2,g3,g4,g5⟩:=hc
 unfold To
 unfold D0 at h
 (repeat' (first | (with_reducible intro _) | (with_reducible refine U8 ?_) | (simp only[↓M2,M2,Mb,reduceIte]) | (with_reducible first | refine ld aS aL aR ?_ | refine X7 aS aL aR ?_ | refine Y4 aS aL aR ?_ | refine Q8 aL ?_ | refine J0 aR ?_ | refine Y9 aS ?_ | refine N0 aS aL ?_ | refine U7 aS aR ?_ | refine Y8 aS aR aR (Rep.one (by assumption)) ?_ | refine U9 aS aR aR aR ?_ | refine X3l au au (L1 aS ?_) | refine X2u au au au au ?_ | (refine Z8 (fun hh=>?_) (fun hh=>?_)<;>(try simp only[hh,Bool.not_true,Bool.not_false,↓M2,M2,Mb,reduceIte])) | (refine Q7 (fun hh=>?_) (fun hh=>?_)<;>(try simp only[hh,Bool.not_true,Bool.not_false,↓M2,M2,Mb,reduceIte])))))
 all_goals exact aF)
end Go.Proofs.YtjdiakhipmggjaaGreatDoor

namespace Go.Emb
open Go.RowKit Go.Hm
structure Tab (σ : Q6) (v : Value) (l : List Cla) : Prop where
  ex : ∃ a lv r m, v = .pointer (some a) ∧ Z4 σ a [lv, .map (some r)] ∧ Sl 8 V0 σ lv l ∧ Xh σ r m ∧ ∀ n, C4 m n = (Z1 l n).map (fun i : Nat => I (i : Int))
theorem Tab.lift {σ0 σ:Q6} {v:Value} {l:List Cla} (h:Tab σ0 v l) (k:SLe σ0 σ):Tab σ v l:=by
 obtain ⟨a,b,r,m,g,f,c,e,d⟩:=h.ex
 exact ⟨a,b,r,m,g,f.lift k,c.lift k,e.lift k,d⟩
end Go.Emb
namespace Go.Proofs.YtjdiakhipmggjaaGreatDoor
open Go.Emb Go.RowKit Go.Kd Go.Hm
variable {w : World} {K : Value → World → Prop} {σ : Q6} {v : Value} {l : List Cla}
theorem Q8x {n:X0} (b:X2 w σ) (e:Tab σ v l) (h:K (.bool (Q0O l n)) w):Q1 P F.j [v,S n] w K:=Eb (by
 obtain ⟨a,i,r,m,rfl,f,j,c,d⟩:=e.ex
 unfold Jm
 rw[L9,fa]
 refine ld b f rfl ?_
 rw[Q2w X8 (c.is b) n,d n]
 unfold Q0O at h
 cases g:Z1 l n<;>rw[g] at h<;>((try simp only[Option.map_some,Option.map_none]);(try simp only[↓M1,M1,Mb,reduceIte]);exact h))
theorem Zn {n:X0} {c:Cla} (X:X2 w σ) (ht:Tab σ v l) (J:lk l n=some c)
 (h: ∀k s mv w' q,Stp w σ w' q→Sl 1 U6 q k c.like→Sl 3 R8 q s c.fields→Sl 7 E4 q mv c.methods→c.name.length≤U1→c.super.length≤U1→V0 q c [S c.name,S c.super,k, .bool c.iface, .bool c.abs, .bool c.fin,s,mv]→
  K (.agg [S c.name,S c.super,k, .bool c.iface, .bool c.abs, .bool c.fin,s,mv].toArray) w'):Q1 P F.h [v,S n] w K:=Iz (by
 obtain ⟨a,k,r,m,rfl,E,t2,Q,R⟩:=ht.ex
 obtain ⟨_,_,i,V,B⟩:=V4 J
 obtain ⟨A,rfl⟩:=List.getElem?_eq_some_iff.1 B
 unfold Mo
 refine M8 X fun b w1 σ1 f d u=>?_
 refine U2 d.sat ?_
 refine X4 (.pointer (some a)) (fun w f=>by rw[L9];exact X6 rfl) ?_
 refine X4 (.pointer (some (a.add 0))) (fun t w f e=>by rw[e,fa];exact X6 rfl) ?_
 refine X4 (.pointer (some a)) (fun w f=>by rw[L9];exact X6 rfl) ?_
 refine X4 (.pointer (some (a.add 1))) (fun t w f e=>by rw[e,fa];exact X6 rfl) ?_
 refine X4 k (fun t w f e=>by rw[e];exact ld f.sat (E.up d) rfl (X6 rfl)) ?_
 refine X4 (.map (some r)) (fun t w f e=>by rw[e];exact ld f.sat (E.up d) rfl (X6 rfl)) ?_
 refine X4 (I i) (fun t w f e=>by rw[e,Q4I X8 ((Q.up d).is f.sat) n,R n,V];exact X6 rfl) ?_
 rintro t6 t7 ad W t8 ab M w2 g rfl rfl rfl rfl L rfl rfl
 subst L
 have C:=u.step g.stp
 refine M7 (t2.up d) A fun p cs O j D=>?_
 refine Y4 g.sat O j ?_
 have o:=D
 obtain ⟨af,s,mv,rfl,Z,H,g3,Y,N⟩:=D
 refine G7 C (d.trans g.stp) f rfl rfl (Rep.one o) fun U z y=>?_
 refine V2 y rfl ?_
 exact h _ _ _ U σ1 z.stp Z H g3 Y N o)
theorem Q0n {n:X0} (b:X2 w σ) (a:Tab σ v l) (c:lk l n=none) (h:K (.bool false) w):Q1 P F.j [v,S n] w K:=Q8x b a (by rw[Q1G,c];exact h)
theorem Sn {n:X0} {d:Cla} (b:X2 w σ) (a:Tab σ v l) (c:lk l n=some d) (h:K (.bool true) w):Q1 P F.j [v,S n] w K:=Q8x b a (by rw[Q1G,c];exact h)
theorem X0x {c:Cla} {cs:List Value} (hs:X2 w σ) (ht:Tab σ v l) (hc:V0 σ c cs) (h: ∀w' σ',Stp w σ w' σ'→K (I (O8 l c)) w'):Q1 P F.bb [v, .agg cs.toArray] w K:=Gk (by
 obtain ⟨lv,fv,mv,rfl,g1,g2,g3,g4,g5⟩:=hc
 unfold Lu
 unfold O8 at h
 cases hd:lk l c.super with
 | none=>
  simp only[Qt,hd,if_true] at h
  (repeat' (first | (with_reducible intro _) | (with_reducible refine U8 ?_) | (simp only[↓M2,M2,Mb,reduceIte]) | (with_reducible first | refine ld aS aL aR ?_ | refine X7 aS aL aR ?_ | refine Y4 aS aL aR ?_ | refine Q8 aL ?_ | refine J0 aR ?_ | refine Y9 aS ?_ | refine N0 aS aL ?_ | refine U7 aS aR ?_ | refine Y8 aS aR aR (Rep.one (by assumption)) ?_ | refine U9 aS aR aR aR ?_ | refine Q0n au au au ?_ | (refine Z8 (fun hh=>?_) (fun hh=>?_)<;>(try simp only[hh,Bool.not_true,Bool.not_false,↓M2,M2,Mb,reduceIte])) | (refine Q7 (fun hh=>?_) (fun hh=>?_)<;>(try simp only[hh,Bool.not_true,Bool.not_false,↓M2,M2,Mb,reduceIte])))))
  all_goals exact aF
 | some d=>
  simp only[Qt,hd] at h
  obtain ⟨dn,ds,dl,di,da,df,dfs,dms⟩:=d
  cases di<;>cases df
  ·simp only[Bool.or_self,Bool.false_eq_true,if_false] at h
   (repeat' (first | (with_reducible intro _) | (with_reducible refine U8 ?_) | (simp only[↓M2,M2,Mb,reduceIte]) | (with_reducible first | refine ld aS aL aR ?_ | refine X7 aS aL aR ?_ | refine Y4 aS aL aR ?_ | refine Q8 aL ?_ | refine J0 aR ?_ | refine Y9 aS ?_ | refine N0 aS aL ?_ | refine U7 aS aR ?_ | refine Y8 aS aR aR (Rep.one (by assumption)) ?_ | refine U9 aS aR aR aR ?_ | refine Sn au au au ?_ | refine Zn au au au ?_ | (refine Z8 (fun hh=>?_) (fun hh=>?_)<;>(try simp only[hh,Bool.not_true,Bool.not_false,↓M2,M2,Mb,reduceIte])) | (refine Q7 (fun hh=>?_) (fun hh=>?_)<;>(try simp only[hh,Bool.not_true,Bool.not_false,↓M2,M2,Mb,reduceIte])))))
   rename_i w3 σ3 hk3 _ _ _ _ _ _
   have hS:Stp w σ w3 σ3:=by (repeat (first | exact Stp.refl (by (first | assumption | exact Stp.sat (by assumption) | exact Hst.sat (by assumption))) | assumption | refine Stp.trans ?_ (by first | assumption | exact Hst.stp (by assumption))))
   refine U3 c.like.length (fun n w'=> ∃σ',Stp w σ w' σ'∧SLe σ3 σ'∧((c.like.take n).any (R5 l))=false) ⟨σ3,hS,SLe.refl _,by simp⟩ fun n w4 d hn hi=>?_
   obtain ⟨σ4,hS4,le4,hq⟩:=hi
   clear hk3
   refine Z2 ?_
   refine Q7 (fun hh=>?_) (fun hh=>?_)
   ·have hn':n<c.like.length:=by simpa using hh
    have hmax:c.like.length≤9223372036854775807:=g1.max
    refine Q5w (by (first | assumption | exact Sl.lift (by assumption) (by (repeat (first | exact SLe.refl _ | refine SLe.more ?_ (by assumption) | refine SLe.more ?_ (Nxt.le (by assumption)) | refine SLe.step ?_ (by assumption)))) | exact Z4.lift (by assumption) (by (repeat (first | exact SLe.refl _ | refine SLe.more ?_ (by assumption) | refine SLe.more ?_ (Nxt.le (by assumption)) | refine SLe.step ?_ (by assumption)))) | exact Xh.lift (by assumption) (by (repeat (first | exact SLe.refl _ | refine SLe.more ?_ (by assumption) | refine SLe.more ?_ (Nxt.le (by assumption)) | refine SLe.step ?_ (by assumption)))) | exact RCl_lift (by assumption) (by (repeat (first | exact SLe.refl _ | refine SLe.more ?_ (by assumption) | refine SLe.more ?_ (Nxt.le (by assumption)) | refine SLe.step ?_ (by assumption)))) | exact RMe_lift (by assumption) (by (repeat (first | exact SLe.refl _ | refine SLe.more ?_ (by assumption) | refine SLe.more ?_ (Nxt.le (by assumption)) | refine SLe.step ?_ (by assumption)))) | exact Glb.lift (by assumption) (by (repeat (first | exact SLe.refl _ | refine SLe.more ?_ (by assumption) | refine SLe.more ?_ (Nxt.le (by assumption)) | refine SLe.step ?_ (by assumption)))) | exact Tab.lift (by assumption) (by (repeat (first | exact SLe.refl _ | refine SLe.more ?_ (by assumption) | refine SLe.more ?_ (Nxt.le (by assumption)) | refine SLe.step ?_ (by assumption)))) | exact RIn_any (by assumption) | exact RFd_any (by assumption) | exact RCa_any (by assumption))) hn' fun p hl hbig=>?_
    have hq':=L3 (p:=R5 l) hn'
    rw[hq] at hq'
    cases hx:lk l c.like[n] with
    | none=>
     simp only[C0 (p:=R5 l) hn' (by simp only[R5,hx]),if_true] at h
     (repeat' (first | (with_reducible intro _) | (with_reducible refine U8 ?_) | (simp only[↓M2,M2,Mb,reduceIte]) | (with_reducible first | refine ld aS aL aR ?_ | refine X7 aS aL aR ?_ | refine Y4 aS aL aR ?_ | refine Q8 aL ?_ | refine J0 aR ?_ | refine Y9 aS ?_ | refine N0 aS aL ?_ | refine U7 aS aR ?_ | refine Y8 aS aR aR (Rep.one (by assumption)) ?_ | refine U9 aS aR aR aR ?_ | refine Q0n au au au ?_ | (refine Z8 (fun hh=>?_) (fun hh=>?_)<;>(try simp only[hh,Bool.not_true,Bool.not_false,↓M2,M2,Mb,reduceIte])) | (refine Q7 (fun hh=>?_) (fun hh=>?_)<;>(try simp only[hh,Bool.not_true,Bool.not_false,↓M2,M2,Mb,reduceIte])))))
     all_goals exact aF
    | some x=>
     obtain ⟨xn,xs,xl,xi,xa,xf,xfs,xms⟩:=x
     cases xi
     ·simp only[C0 (p:=R5 l) hn' (by simp only[R5,hx];rfl),if_true] at h
      (repeat' (first | (with_reducible intro _) | (with_reducible refine U8 ?_) | (simp only[↓M2,M2,Mb,reduceIte]) | (with_reducible first | refine ld aS aL aR ?_ | refine X7 aS aL aR ?_ | refine Y4 aS aL aR ?_ | refine Q8 aL ?_ | refine J0 aR ?_ | refine Y9 aS ?_ | refine N0 aS aL ?_ | refine U7 aS aR ?_ | refine Y8 aS aR aR (Rep.one (by assumption)) ?_ | refine U9 aS aR aR aR ?_ | refine Sn au au au ?_ | refine Zn au au au ?_ | (refine Z8 (fun hh=>?_) (fun hh=>?_)<;>(try simp only[hh,Bool.not_true,Bool.not_false,↓M2,M2,Mb,reduceIte])) | (refine Q7 (fun hh=>?_) (fun hh=>?_)<;>(try simp only[hh,Bool.not_true,Bool.not_false,↓M2,M2,Mb,reduceIte])))))
      all_goals exact aF
     ·(repeat' (first | (with_reducible intro _) | (with_reducible refine U8 ?_) | (simp only[↓M2,M2,Mb,reduceIte]) | (with_reducible first | refine ld aS aL aR ?_ | refine X7 aS aL aR ?_ | refine Y4 aS aL aR ?_ | refine Q8 aL ?_ | refine J0 aR ?_ | refine Y9 aS ?_ | refine N0 aS aL ?_ | refine U7 aS aR ?_ | refine Y8 aS aR aR (Rep.one (by assumption)) ?_ | refine U9 aS aR aR aR ?_ | refine Sn au au au ?_ | refine Zn au au au ?_ | (refine Z8 (fun hh=>?_) (fun hh=>?_)<;>(try simp only[hh,Bool.not_true,Bool.not_false,↓M2,M2,Mb,reduceIte])) | (refine Q7 (fun hh=>?_) (fun hh=>?_)<;>(try simp only[hh,Bool.not_true,Bool.not_false,↓M2,M2,Mb,reduceIte])))))
      refine Y5 hmax hn' ⟨_,by (repeat (first | exact Stp.refl (by (first | assumption | exact Stp.sat (by assumption) | exact Hst.sat (by assumption))) | assumption | refine Stp.trans ?_ (by first | assumption | exact Hst.stp (by assumption)))),by (repeat (first | exact SLe.refl _ | refine SLe.more ?_ (by assumption) | refine SLe.more ?_ (Nxt.le (by assumption)) | refine SLe.step ?_ (by assumption))),by rw[hq'];simp only[R5,hx];rfl⟩
   ·have hn': ¬n<c.like.length:=by simpa using hh
    rw[E0 hn'] at hq
    simp only[hq,Bool.false_eq_true,if_false] at h
    exact h _ _ hS4
  all_goals
   simp only[Bool.or_self,Bool.or_true,Bool.true_or,if_true] at h
   (repeat' (first | (with_reducible intro _) | (with_reducible refine U8 ?_) | (simp only[↓M2,M2,Mb,reduceIte]) | (with_reducible first | refine ld aS aL aR ?_ | refine X7 aS aL aR ?_ | refine Y4 aS aL aR ?_ | refine Q8 aL ?_ | refine J0 aR ?_ | refine Y9 aS ?_ | refine N0 aS aL ?_ | refine U7 aS aR ?_ | refine Y8 aS aR aR (Rep.one (by assumption)) ?_ | refine U9 aS aR aR aR ?_ | refine Sn au au au ?_ | refine Zn au au au ?_ | (refine Z8 (fun hh=>?_) (fun hh=>?_)<;>(try simp only[hh,Bool.not_true,Bool.not_false,↓M2,M2,Mb,reduceIte])) | (refine Q7 (fun hh=>?_) (fun hh=>?_)<;>(try simp only[hh,Bool.not_true,Bool.not_false,↓M2,M2,Mb,reduceIte])))))
   all_goals exact aF)
end Go.Proofs.YtjdiakhipmggjaaGreatDoor

namespace Go.Emb
open Go.RowKit Go.Hm
variable {P : Program} {w w0 w1 w' w'' : World} {K : Value → World → Prop} {σ σ0 σ1 σ' : Q6}
theorem Q8t {a:Addr} {v:Value} (h:w.cell? a=some v) (b:Below w.heap.size w w'):w'.cell? a=some v:=by
 rw[←h];exact World.cell?_of_block (b.block a.block (World.block_lt_of_cell? _ _ h))
def Ptr {α:Type} (sz:Nat) (R:Q6→α→List Value→Prop) (σ:Q6) (x:α) (p:Value) (w:World):Prop:=
 ∃a cs,p= .pointer (some a)∧(∀j u,cs[j]? =some u→w.cell? (a.add j)=some u)∧cs.length=sz∧R σ x cs
theorem Ptr.below {α:Type} {sz:Nat} {R:Q6→α→List Value→Prop} {x:α} {p:Value} (h:Ptr sz R σ x p w) (b:Below w.heap.size w w'):Ptr sz R σ x p w':=by
 obtain ⟨a,cs,f,c,d⟩:=h
 exact ⟨a,cs,f,fun j u e=>Q8t (c j u e) b,d⟩
end Go.Emb
namespace Go.Proofs.YtjdiakhipmggjaaGreatDoor
open Go.Emb Go.RowKit Go.Kd Go.Hm
variable {w : World} {K : Value → World → Prop} {σ : Q6} {v : Value} {l : List Cla}
theorem Q4d {w0:World} {σ0:Q6} {xs:List Cla} (hS:Stp w0 σ0 w σ) (J:J8 w0.heap.size T.b 8 V0 σ w v xs)
 (h: ∀w',Kpt (fun k=>v.ownBlock=some k) w w'→Stp w0 σ0 w' σ→J8 w0.heap.size T.b 8 V0 σ w' v xs.reverse→K (.tuple #[]) w'):Q1 P F.q [v] w K:=Zq (by
 unfold I1
 have Q:xs.length≤9223372036854775807:=by
  obtain ⟨a,ab,_,g,c,_⟩:=J
  simp only[maxLen] at c;omega
 refine Q1o J ?_
 refine Zg ⟨by omega,by omega⟩ ?_
 refine Wj (fun x w'=> ∃i:Nat,x=(I i,I ((xs.length:Int)-1-i))∧2*i≤xs.length∧Kpt (fun k=>v.ownBlock=some k) w w'∧Stp w0 σ0 w' σ∧J8 w0.heap.size T.b 8 V0 σ w' v (C7 i xs)) (fun x _=>match x.2 with | .int _ n=>(n+1).toNat | _=>0) ⟨0,by simp,by omega,Kpt.refl,hS,J⟩ ?_
 rintro _ d w1 ⟨i,rfl,O,N,o,b⟩
 obtain ⟨M,R⟩:=Q0z xs i O
 refine Z2 ?_
 refine Q7 (fun hh=>?_) (fun hh=>?_)
 ·have ad:(i:Int)<(xs.length:Int)-1-i:=by simpa using hh
  have U:((xs.length:Int)-1-i)=((xs.length-1-i:Nat):Int):=by omega
  have j:i<(C7 i xs).length:=by omega
  have m:xs.length-1-i<(C7 i xs).length:=by omega
  refine U2 o.sat ?_
  refine E5 (Ptr 8 V0 σ (C7 i xs)[xs.length-1-i]) (fun _ _ _ h f=>h.below f) (fun w f=>?_) ?_
  ·simp only[U]
   exact Q5p (b.step f.stp) m fun a cs g c r=>⟨Below.refl _ _,a,cs,rfl,g,c,r⟩
  refine E5 (Ptr 8 V0 σ (C7 i xs)[i]) (fun _ _ _ h f=>h.below f) (fun w f=>?_) ?_
  ·exact Q5p (b.step f.stp) j fun a cs g c r=>⟨Below.refl _ _,a,cs,rfl,g,c,r⟩
  refine E5 (fun v _=> ∃cs:List Value,v= .agg cs.toArray∧cs.length=8∧V0 σ (C7 i xs)[xs.length-1-i] cs) (fun _ _ _ h _=>h) (fun t w f e=>?_) ?_
  ·obtain ⟨a,cs,rfl,g,c,r⟩:=e
   exact Ks c g ⟨Below.refl _ _,cs,rfl,c,r⟩
  refine E5 (fun v _=> ∃cs:List Value,v= .agg cs.toArray∧cs.length=8∧V0 σ (C7 i xs)[i] cs) (fun _ _ _ h _=>h) (fun t w f e=>?_) ?_
  ·obtain ⟨a,cs,rfl,g,c,r⟩:=e
   exact Ks c g ⟨Below.refl _ _,cs,rfl,c,r⟩
  rintro ac V Y Z w2 q _ _ ⟨cs,rfl,C,s⟩ ⟨ds,rfl,E,y⟩
  refine Q2V (o.trans q.stp) (b.step q.stp) j C s (Rep.one s) fun p u w3 H z B=>?_
  simp only[U]
  refine Q2V z.stp B (by simpa using m) E y (Rep.one y) fun p u w4 A D L=>?_
  refine Xp ⟨by omega,by omega⟩ ?_
  refine Zg ⟨by omega,by omega⟩ ?_
  refine ⟨⟨i+1,by congr 1<;>congr 1<;>omega,by omega,?_,D.stp,?_⟩,?_⟩
  ·exact ((N.trans (Kpt.of_below q.stp.bel)).trans H).trans A
  ·have X:(C7 i xs)[i]? =some (C7 i xs)[i]:=List.getElem?_eq_getElem j
   have e2:(C7 i xs)[xs.length-1-i]? =some (C7 i xs)[xs.length-1-i]:=List.getElem?_eq_getElem m
   have:C7 (i+1) xs=((C7 i xs).set i (C7 i xs)[xs.length-1-i]).set (xs.length-1-i) (C7 i xs)[i]:=by
    simp only[C7,X,e2]
   rw[this];exact L
  ·simp only;omega
 ·have W: ¬(i:Int)<(xs.length:Int)-1-i:=by simpa using hh
  rw[X02 xs i O (by omega)] at b
  exact h w1 N o b)
def sOf:Value→X0 | .string b=>b.data.toList | _=>[]
theorem Q9J {n:X0} (J:X2 w σ) (B:Tab σ v l) (V:Jb l) (X:l.length≤100000) (h: ∀r w' σ',Stp w σ w' σ'→J8 w.heap.size T.b 8 V0 σ' w' r (chain l n).reverse→K r w'):Q1 P F.aS [v,S n] w K:=Q00 (by
 unfold Ou
 refine Wj (fun x w'=> ∃(s:X0) (k:List Cla) (σ':Q6),x.2=S s∧chain l n=k++chain l s∧Stp w σ w' σ'∧V6 w.heap.size T.b 8 V0 σ' w' x.1 k) (fun x _=>(chain l (sOf x.2)).length)
  ⟨n,[],σ,rfl,rfl,Stp.refl J,V6.nil⟩ ?_
 rintro ⟨x1,_⟩ d w1 ⟨s,k,σ1,rfl,o,a,e⟩
 have i:=B.lift ⟨a.le⟩
 have A:=Be l n
 have y:sOf (S s)=s:=by simp[sOf]
 simp only[y]
 cases j:lk l s with
 | none=>
  refine Q0n a.sat i j ?_
  refine Z9 ?_
  rw[Yz j,List.append_nil] at o
  rw[←o] at e
  refine Q4d a (J8.of_acc e) fun H f p t=>?_
  exact h _ _ _ p t
 | some c=>
  refine Sn a.sat i j ?_
  refine J4 ?_
  refine Zn a.sat i j fun D U mv H W f M Q N E R z=>?_
  have b:=T9 V s
  rw[j] at b
  simp only at b
  have O:k.length+1≤l.length+1:=by
   have:=congrArg List.length o
   rw[List.length_append,b,List.length_cons] at this;omega
  refine Ug (a.trans f) (e.up f) z rfl rfl rfl (by omega) (by omega) fun u r Z Y C g q _=>?_
  refine Zn g.sat (B.lift ⟨g.le⟩) j fun D U mv w4 L m M Q N E R z=>?_
  refine J0 (v:=S c.super) rfl ?_
  refine ⟨⟨c.super,k++[c],L,rfl,?_,g.trans m,q.up m⟩,?_⟩
  ·rw[o,b];simp
  ·have:sOf (S c.super)=c.super:=by simp[sOf]
   simp only[this,b,List.length_cons];omega)
theorem Ip {n:X0} (Y:X2 w σ) (ht:Tab σ v l) (ha:Jb l) (V:l.length≤100000) (B: ∀c∈l,Qn c) (h: ∀D w' σ',Stp w σ w' σ'→Sl 3 R8 σ' D (Y6 l n)→K D w'):Q1 P F.a2 [v,S n] w K:=Ga (by
 unfold Ls
 refine Q9J Y ht ha V fun v1 w1 σ1 H u=>?_
 obtain ⟨N,z,r,U,_⟩:=u.keep H
 generalize g:(chain l n).reverse=cs at*
 have O:cs.length≤l.length+1:=by rw[←g,List.length_reverse];exact Be l n
 have m: ∀c∈cs,c.fields.length≤1000000:=fun c t=>(B c (Bf (by rw[←g] at t;simpa using t))).2.1
 refine Q8 r ?_
 refine E8 cs.length (fun i a w'=> ∃σ',Stp w σ w' σ'∧SLe N σ'∧V6 w.heap.size T.n 3 R8 σ' w' a ((cs.take i).flatMap (·.fields))) ⟨N,z,SLe.refl _,V6.nil⟩ fun i a w3 d hi o=>?_
 obtain ⟨σ3,f,k,j⟩:=o
 refine Z2 ?_
 refine Q7 (fun hh=>?_) (fun hh=>?_)
 ·have e:i<cs.length:=by simpa using hh
  refine M7 (r.lift k) e fun p cells A s M=>?_
  refine Y4 f.sat A s ?_
  refine Y8 f.sat (by rfl) s (Rep.one M) fun q w4 R b X=>?_
  obtain ⟨lv,fv,mv,rfl,f1,f2,f3,f4,f5⟩:=M
  rw[fa]
  refine ld b.sat X rfl ?_
  have y:=Vv (fun c:Cla=>c.fields) 1000000 (cs.take i) fun c t=>m c (List.mem_of_mem_take t)
  rw[List.length_take] at y
  have ab:=m cs[i] (List.getElem_mem e)
  have Q:min i cs.length*1000000≤100000*1000000:=Nat.mul_le_mul_right _ (by omega)
  refine Wh (f.trans b) (j.up b) (f2.up b) rfl (by omega) (by omega) fun D w5 W C J _=>?_
  refine O4 ?_
  refine J5 (by omega) e ⟨R,C,k.more ⟨b.le⟩,?_⟩
  rw[List.take_add_one,List.getElem?_eq_getElem e,List.flatMap_append]
  simpa using J
 ·have e: ¬i<cs.length:=by simpa using hh
  rw[List.take_of_length_le (by omega)] at j
  obtain ⟨R,E,L,Z,_⟩:=j.keep f
  refine h _ _ _ E ?_
  unfold Y6
  rw[g];exact L)
theorem X2v {n f:X0} (hs:X2 w σ) (ht:Tab σ v l) (ha:Jb l) (hl:l.length≤100000) (hsm: ∀c∈l,Qn c) (h: ∀w' σ',Stp w σ w' σ'→K (I (L6 (Jw l n f))) w'):Q1 P F.bn [v,S n,S f] w K:=Px (by
 unfold Nz
 refine U7 hs rfl fun q w1 σ1 hk1 hq=>?_
 refine Ip hk1.sat (ht.lift ⟨hk1.le⟩) ha hl hsm fun v' w2 σ2 hk2 hv2=>?_
 rw[Qb]
 refine Gh (fun x=>decide (x.name=f)) hk2.sat hv2 (fun x cs w3 K _ hs3 hr hl hK=>Z7 (Fa ?_)) fun w3 hb=>?_
 ·obtain ⟨rfl,_⟩:=hr
  unfold Wc
  have hq2:=hq.up hk2
  refine Y9 hs3 fun a w4 σ4 hk4 ha4=>?_
  (repeat' (first | (with_reducible intro _) | (with_reducible refine U8 ?_) | (simp only[↓M2,M2,Mb,reduceIte]) | (with_reducible first | refine ld aS aL aR ?_ | refine X7 aS aL aR ?_ | refine Y4 aS aL aR ?_ | refine Q8 aL ?_ | refine J0 aR ?_ | refine Y9 aS ?_ | refine N0 aS aL ?_ | refine U7 aS aR ?_ | refine Y8 aS aR aR (Rep.one (by assumption)) ?_ | refine U9 aS aR aR aR ?_ | (refine Z8 (fun hh=>?_) (fun hh=>?_)<;>(try simp only[hh,Bool.not_true,Bool.not_false,↓M2,M2,Mb,reduceIte])) | (refine Q7 (fun hh=>?_) (fun hh=>?_)<;>(try simp only[hh,Bool.not_true,Bool.not_false,↓M2,M2,Mb,reduceIte])))))
  exact hK _ hk4.bel
 ·exact h _ _ ((hk1.trans hk2).trans (Stp.of_below hk2.sat hb)))
end Go.Proofs.YtjdiakhipmggjaaGreatDoor

namespace Go.Hm
open Go.Kd
theorem Q5I {α:Type} (p:α→Bool): ∀xs:List α,xs.find? p=(xs.findIdx? p).bind (xs[·]?)
 | []=>rfl
 | x::r=>by
  rw[List.find?_cons,List.findIdx?_cons]
  cases p x with
  | true=>rfl
  | false=>
   simp only[Bool.false_eq_true,if_false]
   rw[Q5I p r]
   cases r.findIdx? p<;>simp
def X0G (l:List Cla):Prop:= ∀c∈l,∀u∈c.like,∃d,lk l u=some d
def Nm (c:Cla):Prop:=c.name.length≤100∧(∀f∈c.fields,f.name.length≤100∧f.kind.length≤100)∧ ∀m∈c.methods,m.result.length≤100∧ ∀p∈m.params,p.length≤100
structure Ok (l : List Cla) : Prop where
  acy : Jb l
  len : l.length ≤ 100000
  sm : ∀ c ∈ l, Qn c
  full : X0G l
  nm : ∀ c ∈ l, Nm c
abbrev oM (o:Option Hm.Met):Hm.Met:=o.getD Hm.Met.zero
abbrev o1 (o:Option (X0×Hm.Met)):X0:=(o.map (·.1)).getD []
abbrev o2 (o:Option (X0×Hm.Met)):Hm.Met:=(o.map (·.2)).getD Hm.Met.zero
theorem Xv {α β:Type} {xs:List α} {f:α→Option β} {n:Nat} (h:n<xs.length) (a:(xs.take n).findSome? f=none):(xs.take (n+1)).findSome? f=f xs[n]:=by
 rw[List.take_add_one,List.getElem?_eq_getElem h,List.findSome?_append,a];simp
theorem Xn {α β:Type} {xs:List α} {f:α→Option β} {n:Nat} {y:β} (h:n<xs.length) (a:(xs.take n).findSome? f=none) (b:f xs[n]=some y):xs.findSome? f=some y:=by
 have:=Xv h a
 rw[b] at this
 rw[←List.take_append_drop (n+1) xs,List.findSome?_append,this];rfl
end Go.Hm
namespace Go.Proofs.YtjdiakhipmggjaaGreatDoor
open Go.Emb Go.RowKit Go.Kd Go.Hm
variable {w : World} {K : Value → World → Prop} {σ : Q6} {v : Value} {l : List Cla}
theorem Qv:E4 σ Hm.Met.zero [S [], .slice none 0 0,S [], .bool false,I 0, .slice none 0 0, .slice none 0 0]:=
 ⟨_,_,_,rfl,Sl.nil,Sl.nil,Sl.nil,by decide,by decide,by decide,by decide⟩
theorem Fu (h:K (.agg [S [], .slice none 0 0,S [], .bool false,I 0, .slice none 0 0, .slice none 0 0].toArray) w):H2 P T.d [] w K:=W2 (by kernel_rfl) h
theorem X1A {c:Cla} {cs:List Value} {n:X0} (hs:X2 w σ) (hc:V0 σ c cs) (hsm:Qn c)
 (h: ∀pv cv hv w' σ',Stp w σ w' σ'→E4 σ' (oM (F2 c n)) [S (oM (F2 c n)).name,pv,S (oM (F2 c n)).result, .bool (oM (F2 c n)).abs,I (oM (F2 c n)).locals,cv,hv]→
  K (.tuple #[.agg [S (oM (F2 c n)).name,pv,S (oM (F2 c n)).result, .bool (oM (F2 c n)).abs,I (oM (F2 c n)).locals,cv,hv].toArray, .bool (F2 c n).isSome]) w'):Q1 P F.cA [.agg cs.toArray,S n] w K:=Q8b (by
 obtain ⟨lv,fv,mv,rfl,g1,g2,g3,g4,g5⟩:=hc
 unfold Q3j
 refine Y9 hs fun a w1 σ1 hk1 ha1=>?_
 refine U7 hk1.sat rfl fun q w2 σ2 hk2 hq=>?_
 refine M8 hk2.sat fun b w3 σ3 hb hk3 hm=>?_
 rw[fa]
 have ha3:=(ha1.up hk2).up hk3
 have g3:=((g3.up hk1).up hk2).up hk3
 have hq3:=hq.up hk3
 refine ld hk3.sat ha3 rfl ?_
 rw[Qb]
 have hS3:=(hk1.trans hk2).trans hk3
 have hb0:w.heap.size≤b:=M9 hb (hk1.trans hk2)
 refine Fb (fun x=>decide (x.name=n)) hk3.sat g3 (fun x cs w4 K _ hs4 hr hl hK=>Z7 (Q5z ?_)) fun w4 hb4=>?_
 ·obtain ⟨pv,cv,hv,rfl,_⟩:=hr
  unfold Q0m
  refine Y9 hs4 fun a w5 σ5 hk5 ha5=>?_
  (repeat' (first | (with_reducible intro _) | (with_reducible refine U8 ?_) | (simp only[↓M2,M2,Mb,reduceIte]) | (with_reducible first | refine ld aS aL aR ?_ | refine X7 aS aL aR ?_ | refine Y4 aS aL aR ?_ | refine Q8 aL ?_ | refine J0 aR ?_ | refine Y9 aS ?_ | refine N0 aS aL ?_ | refine U7 aS aR ?_ | refine Y8 aS aR aR (Rep.one (by assumption)) ?_ | refine U9 aS aR aR aR ?_ | (refine Z8 (fun hh=>?_) (fun hh=>?_)<;>(try simp only[hh,Bool.not_true,Bool.not_false,↓M2,M2,Mb,reduceIte])) | (refine Q7 (fun hh=>?_) (fun hh=>?_)<;>(try simp only[hh,Bool.not_true,Bool.not_false,↓M2,M2,Mb,reduceIte])))))
  exact hK _ hk5.bel
 have hk4:Stp w3 σ3 w4 σ3:=Stp.of_below hk3.sat hb4
 have hm:=hm.step hk4
 have hS4:=hS3.trans hk4
 unfold F2 at h
 rw[Q5I] at h
 refine Z2 ?_
 cases hf:c.methods.findIdx? fun x=>decide (x.name=n) with
 | none=>
  rw[hf] at h
  simp only[L6]
  refine J4 ?_
  refine Fu ?_
  refine G7 hm hS4 hb0 rfl rfl (Rep.one (Qv (σ:=σ3))) fun w5 hS5 hm5=>?_
  refine V2 hm5 rfl ?_
  exact h _ _ _ w5 σ3 hS5.stp Qv
 | some i=>
  rw[hf] at h
  have hi:i<c.methods.length:=(List.findIdx?_eq_some_iff_getElem.1 hf).1
  simp only[Option.bind_some,List.getElem?_eq_getElem hi] at h
  simp only[L6]
  refine Q7 (fun hh=>absurd (of_decide_eq_true hh) (by omega)) (fun _=>?_)
  rw[fa]
  refine ld hk4.sat ha3 rfl ?_
  refine M7 g3 hi fun p cells hl1 hl2 hr=>?_
  refine Y4 hk4.sat hl1 hl2 ?_
  refine Q4k hk4.sat hr (hsm.2.2.2 _ (List.getElem_mem hi)) fun pv cv hv w5 σ5 hk5 hr5=>?_
  refine G7 (hm.step hk5) (hS4.trans hk5) hb0 rfl rfl (Rep.one hr5) fun w6 hS6 hm6=>?_
  refine V2 hm6 rfl ?_
  exact h _ _ _ w6 σ5 hS6.stp hr5)
theorem X3z {n:X0} (ok:Ok l): ∀(k:Nat) {c:Cla} {cs:List Value} {w:World} {σ:Q6} {K:Value→World→Prop},P0 l c.name<k→lk l c.name=some c→X2 w σ→Tab σ v l→V0 σ c cs→
 (∀pv Z Y w' W,Stp w σ w' W→E4 W (o2 (V5 l c n)) [S (o2 (V5 l c n)).name,pv,S (o2 (V5 l c n)).result, .bool (o2 (V5 l c n)).abs,I (o2 (V5 l c n)).locals,Z,Y]→
  K (.tuple #[S (o1 (V5 l c n)), .agg [S (o2 (V5 l c n)).name,pv,S (o2 (V5 l c n)).result, .bool (o2 (V5 l c n)).abs,I (o2 (V5 l c n)).locals,Z,Y].toArray, .bool (V5 l c n).isSome]) w')→
 Q1 P F.aU [v, .agg cs.toArray,S n] w K:=by
 intro k
 induction k with
 | zero=>
  intro c cs w σ K hk
  omega
 | succ k ih=>
  intro c cs w σ K hk hc hs ht hr h
  refine Ak ?_
  obtain ⟨lv,fv,mv,rfl,g1,g2,g3,g4,g5⟩:=hr
  have M:=Q4F ok.acy hc n
  generalize hf:(fun u=>match lk l u with | none=>none | some d=>match F2 d n with | some m=>some (u,m) | none=>V5 l d n)=f at M
  unfold Ol
  refine Y9 hs fun a w1 σ1 D ay=>?_
  refine M8 D.sat fun b w2 σ2 hb B a5=>?_
  have O:w.heap.size≤b:=M9 hb D
  have ar:=ay.up B
  rw[fa]
  refine ld B.sat ar rfl ?_
  have g1:=(g1.up D).up B
  refine Q8 g1 ?_
  refine U3 c.like.length (fun i w'=> ∃W,Stp w σ w' W∧SLe σ2 W∧Y1 W w' b [S [], .slice none 0 0,S [], .bool false,I 0, .slice none 0 0, .slice none 0 0]∧(c.like.take i).findSome? f=none) ⟨σ2,D.trans B,SLe.refl _,a5,rfl⟩ fun i w3 d hi al=>?_
  obtain ⟨σ3,A,ak,aa,z⟩:=al
  have a0:=ht.lift ⟨A.le⟩
  refine Z2 ?_
  refine Q7 (fun hh=>?_) (fun hh=>?_)
  ·have g:i<c.like.length:=by simpa using hh
   refine Q5w (g1.lift ak) g fun p aq ap=>?_
   refine X7 A.sat aq rfl ?_
   obtain ⟨d,X⟩:=ok.full c (V4 hc).2.1 _ (List.getElem_mem g)
   obtain ⟨ai,a3,_⟩:=V4 X
   have j:f c.like[i]=match F2 d n with | some m=>some (c.like[i],m) | none=>V5 l d n:=by rw[←hf];simp only[X]
   refine Zn A.sat a0 X fun a7 bb aw w4 σ4 J f1 f2 f3 f4 f5 ba=>?_
   refine X1A J.sat ba (ok.sm d a3) fun pv Z Y w5 σ5 L aj=>?_
   refine J6 (vs:=[_,_]) rfl ?_
   refine J6 (vs:=[_,_]) rfl ?_
   refine Y8 L.sat (by rfl) rfl (Rep.one aj) fun q w6 σ6 H ah=>?_
   have t:=((A.trans J).trans L).trans H
   have ac:=((aa.step J).step L).step H
   have U:=RMe_lift aj ⟨H.le⟩
   cases ho:F2 d n with
   | some m=>
    rw[ho] at j U ah
    (try simp only[ho])
    refine J4 ?_
    refine U2 t.sat ?_
    refine E5 (fun v _=>v= .agg [S m.name,pv,S m.result, .bool m.abs,I m.locals,Z,Y].toArray) (fun _ _ _ h _=>h) (fun w hb=>Y4 hb.sat ah rfl ⟨Below.refl _ _,rfl⟩) ?_
    rintro _ w7 ab rfl
    refine G7 (ac.step ab.stp) (t.trans ab.stp) O rfl rfl (Rep.one U) fun w8 a1 a2=>?_
    refine V2 a2 rfl ?_
    have Q:=M.trans (Xn g z j)
    rw[Q] at h
    exact h _ _ _ w8 σ6 a1.stp U
   | none=>
    rw[ho] at j
    (try simp only[Option.isSome_none])
    refine Z9 ?_
    refine Zn t.sat (ht.lift ⟨t.le⟩) X fun a7 bb aw w7 σ7 y f1 f2 f3 f4 f5 av=>?_
    have bl:=Xs ok.acy hc (by simp[U4,List.getElem_mem g]:c.like[i]∈U4 c) X
    refine ih (by rw[ai];omega) (by rw[ai];exact X) y.sat (ht.lift ⟨(t.trans y).le⟩) av fun pv Z Y w8 σ8 C ag=>?_
    refine J6 (vs:=[_,_,_]) rfl ?_
    refine J6 (vs:=[_,_,_]) rfl ?_
    refine J6 (vs:=[_,_,_]) rfl ?_
    refine Y8 C.sat (by rfl) rfl (Rep.one ag) fun q w9 σ9 E an=>?_
    have V:=((t.trans y).trans C).trans E
    have ao:=((ac.step y).step C).step E
    have R:=RMe_lift ag ⟨E.le⟩
    cases Q:V5 l d n with
    | some r=>
     obtain ⟨s,m⟩:=r
     rw[Q] at j R an
     (try simp only[Q])
     refine J4 ?_
     refine U2 V.sat ?_
     refine E5 (fun v _=>v= .agg [S m.name,pv,S m.result, .bool m.abs,I m.locals,Z,Y].toArray) (fun _ _ _ h _=>h) (fun w hb=>Y4 hb.sat an rfl ⟨Below.refl _ _,rfl⟩) ?_
     rintro _ bk N rfl
     refine G7 (ao.step N.stp) (V.trans N.stp) O rfl rfl (Rep.one R) fun az ad af=>?_
     refine V2 af rfl ?_
     have ap:=M.trans (Xn g z j)
     rw[ap] at h
     exact h _ _ _ az σ9 ad.stp R
    | none=>
     rw[Q] at j
     (try simp only[Option.isSome_none])
     refine Z9 ?_
     refine O4 ?_
     refine Y5 (by have:=g1.max;omega) g ⟨σ9,V,?_,ao,?_⟩
     ·exact ak.more ⟨fun b o e=>E.le _ _ (C.le _ _ (y.le _ _ (H.le _ _ (L.le _ _ (J.le _ _ e)))))⟩
     ·rw[Xv g z];exact j
  ·have g: ¬i<c.like.length:=by simpa using hh
   rw[List.take_of_length_le (by omega)] at z
   refine Fu ?_
   refine G7 aa A O rfl rfl (Rep.one (Qv (σ:=σ3))) fun w5 a9 a8=>?_
   refine V2 a8 rfl ?_
   have Q:=M.trans z
   rw[Q] at h
   exact h _ _ _ w5 σ3 a9.stp Qv
end Go.Proofs.YtjdiakhipmggjaaGreatDoor

namespace Go.Hm
open Go.Kd
theorem X0i {l:List Cla} {n:X0} {c:Cla} (h:c∈chain l n):lk l c.name=some c:=by
 have key: ∀(f:Nat) (n:X0),c∈I5 (lk l) f n→lk l c.name=some c:=by
  intro f
  induction f with
  | zero=>intro n h;simp[I5] at h
  | succ f b=>
   intro n h
   simp only[I5] at h
   split at h
   ·simp at h
   ·rename_i d a
    rcases List.mem_cons.1 h with rfl | h
    ·rw[(V4 a).1];exact a
    ·exact b _ h
 exact key _ _ h
end Go.Hm
namespace Go.Proofs.YtjdiakhipmggjaaGreatDoor
open Go.Emb Go.RowKit Go.Kd Go.Hm
variable {w : World} {K : Value → World → Prop} {σ : Q6} {v : Value} {l : List Cla}
theorem X0m {k n:X0} (hs:X2 w σ) (ht:Tab σ v l) (ok:Ok l)
 (h: ∀pv cv hv w' E,Stp w σ w' E→E4 E (o2 (V3 l k n)) [S (o2 (V3 l k n)).name,pv,S (o2 (V3 l k n)).result, .bool (o2 (V3 l k n)).abs,I (o2 (V3 l k n)).locals,cv,hv]→
  K (.tuple #[S (o1 (V3 l k n)), .agg [S (o2 (V3 l k n)).name,pv,S (o2 (V3 l k n)).result, .bool (o2 (V3 l k n)).abs,I (o2 (V3 l k n)).locals,cv,hv].toArray, .bool (V3 l k n).isSome]) w'):
 Q1 P F.bd [v,S k,S n] w K:=Ge (by
 unfold Wy
 refine M8 hs fun b w1 σ1 H L aq=>?_
 refine Q9J L.sat (ht.lift ⟨L.le⟩) ok.acy ok.len fun v1 w2 σ2 af al=>?_
 have a7:=aq.step af
 have bq:=aq.lt
 refine Q4d (L.trans af) (al.mono L.bel.size) fun w3 a8 ba ai=>?_
 rw[List.reverse_reverse] at ai
 obtain ⟨σ3,a0,R,bk,ak⟩:=ai.keep ba
 have bh:=Be l k
 have ag:v1.ownBlock≠some b:=fun e=>by have:=al.own e;omega
 have ac:Y1 σ3 w3 b [S [], .slice none 0 0,S [], .bool false,I 0, .slice none 0 0, .slice none 0 0]:=by
  have:=a7.kp a8 ag
  exact ⟨(ak b fun e=>ag e.symm).trans this.1,this.2⟩
 refine Q8 R ?_
 unfold V3 at h
 refine U3 (chain l k).length (fun i w'=> ∃E,Stp w σ w' E∧SLe σ3 E∧Y1 E w' b [S [], .slice none 0 0,S [], .bool false,I 0, .slice none 0 0, .slice none 0 0]∧((chain l k).take i).findSome? (fun c=>(F2 c n).map (c.name,·))=none) ⟨σ3,a0,SLe.refl _,ac,rfl⟩ fun i w5 d hi C=>?_
 obtain ⟨σ5,O,Q,aw,y⟩:=C
 refine Z2 ?_
 refine Q7 (fun hh=>?_) (fun hh=>?_)
 ·have a:i<(chain l k).length:=by simpa using hh
  refine M7 (R.lift Q) a fun p cells V z Z=>?_
  refine Y4 O.sat V z ?_
  refine Y8 O.sat (by rfl) z (Rep.one Z) fun q w6 σ6 A a2=>?_
  refine Y4 A.sat a2 z ?_
  have ax:=Bf (List.getElem_mem a)
  refine X1A A.sat (Rep.up A.le Z) (ok.sm _ ax) fun pv cv hv w7 σ7 j an=>?_
  refine J6 (vs:=[_,_]) rfl ?_
  refine J6 (vs:=[_,_]) rfl ?_
  refine Y8 j.sat (by rfl) rfl (Rep.one an) fun q8 w8 σ8 u a1=>?_
  have X:=((O.trans A).trans j).trans u
  have ae:=((aw.step A).step j).step u
  have B:=RMe_lift an ⟨u.le⟩
  cases D:F2 (chain l k)[i] n with
  | some m=>
   rw[D] at B a1
   (try simp only[D])
   refine J4 ?_
   obtain ⟨lv,fv,mv,rfl,g⟩:=Z
   refine U2 X.sat ?_
   refine X4 (.pointer (some (q.add 0))) (fun w H=>by rw[fa];exact X6 rfl) ?_
   refine X4 (S (chain l k)[i].name) (fun t w H e=>by rw[e];exact ld H.sat ((a2.up j).up u) rfl (X6 rfl)) ?_
   refine E5 (fun v _=>v= .agg [S m.name,pv,S m.result, .bool m.abs,I m.locals,cv,hv].toArray) (fun _ _ _ h _=>h) (fun w H=>Y4 H.sat a1 rfl ⟨Below.refl _ _,rfl⟩) ?_
   rintro _ _ _ w9 ay rfl rfl rfl
   refine G7 (ae.step ay.stp) (X.trans ay.stp) H rfl rfl (Rep.one B) fun ap ar ad=>?_
   refine V2 ad rfl ?_
   rw[Xn (f:=fun c=>(F2 c n).map (c.name,·)) a y (by simp only[D];rfl)] at h
   exact h _ _ _ ap σ8 ar.stp B
  | none=>
   (try simp only[D])
   refine Z9 ?_
   refine O4 ?_
   refine Y5 (by have:=ok.len;omega) a ⟨σ8,X,Q.more ⟨fun b o e=>u.le _ _ (j.le _ _ (A.le _ _ e))⟩,ae,?_⟩
   rw[Xv a y];simp only[D];rfl
 ·have a: ¬i<(chain l k).length:=by simpa using hh
  rw[List.take_of_length_le (by omega)] at y
  rw[y] at h
  clear ac a0 hh
  refine Q8 (R.lift Q) ?_
  refine U3 (chain l k).length (fun i w'=> ∃E,Stp w σ w' E∧SLe σ3 E∧Y1 E w' b [S [], .slice none 0 0,S [], .bool false,I 0, .slice none 0 0, .slice none 0 0]∧((chain l k).take i).findSome? (fun c=>V5 l c n)=none) ⟨σ5,O,Q,aw,rfl⟩ fun i w6 d hi C=>?_
  obtain ⟨σ6,J,ao,ah,y⟩:=C
  refine Z2 ?_
  refine Q7 (fun hh=>?_) (fun hh=>?_)
  ·have a:i<(chain l k).length:=by simpa using hh
   refine M7 (R.lift ao) a fun p cells V z Z=>?_
   refine Y4 J.sat V z ?_
   refine Y8 J.sat (by rfl) z (Rep.one Z) fun q w7 σ7 j bd=>?_
   refine Y4 j.sat bd z ?_
   have N:=J.trans j
   have a4:=X0i (List.getElem_mem a)
   refine X3z ok _ (Nat.lt_succ_self _) a4 j.sat (ht.lift ⟨N.le⟩) (Rep.up j.le Z) fun pv cv hv w8 σ8 u B=>?_
   refine J6 (vs:=[_,_,_]) rfl ?_
   refine J6 (vs:=[_,_,_]) rfl ?_
   refine J6 (vs:=[_,_,_]) rfl ?_
   refine Y8 u.sat (by rfl) rfl (Rep.one B) fun q9 w9 σ9 M av=>?_
   have Y:=(N.trans u).trans M
   have az:=((ah.step j).step u).step M
   have W:=RMe_lift B ⟨M.le⟩
   cases D:V5 l (chain l k)[i] n with
   | some r=>
    obtain ⟨s,m⟩:=r
    rw[D] at W av
    (try simp only[D])
    refine J4 ?_
    refine U2 Y.sat ?_
    refine E5 (fun v _=>v= .agg [S m.name,pv,S m.result, .bool m.abs,I m.locals,cv,hv].toArray) (fun _ _ _ h _=>h) (fun w H=>Y4 H.sat av rfl ⟨Below.refl _ _,rfl⟩) ?_
    rintro _ ap U rfl
    refine G7 (az.step U.stp) (Y.trans U.stp) H rfl rfl (Rep.one W) fun bb aj am=>?_
    refine V2 am rfl ?_
    have:=Xn (f:=fun c=>V5 l c n) a y D
    unfold V5 at this
    rw[this] at h
    exact h _ _ _ bb σ9 aj.stp W
   | none=>
    (try simp only[D])
    refine Z9 ?_
    refine O4 ?_
    refine Y5 (by have:=ok.len;omega) a ⟨σ9,Y,ao.more ⟨fun b o e=>M.le _ _ (u.le _ _ (j.le _ _ e))⟩,az,?_⟩
    rw[Xv a y];exact D
  ·have a: ¬i<(chain l k).length:=by simpa using hh
   rw[List.take_of_length_le (by omega)] at y
   refine Fu ?_
   refine G7 ah J H rfl rfl (Rep.one (Qv (σ:=σ6))) fun w7 N a9=>?_
   refine V2 a9 rfl ?_
   unfold V5 at y
   rw[y] at h
   exact h _ _ _ w7 σ6 N.stp Qv)
theorem Q4w {n:X0} (hs:X2 w σ) (ht:Tab σ v l) (h: ∀w' σ',Stp w σ w' σ'→K (.bool (A0 l n)) w'):Q1 P F.aE [v,S n] w K:=Fl (by
 unfold Vy
 unfold A0 at h
 cases hd:lk l n with
 | none=>
  rw[hd] at h
  (repeat' (first | (with_reducible intro _) | (with_reducible refine U8 ?_) | (simp only[↓M2,M2,Mb,reduceIte]) | (with_reducible first | refine ld aS aL aR ?_ | refine X7 aS aL aR ?_ | refine Y4 aS aL aR ?_ | refine Q8 aL ?_ | refine J0 aR ?_ | refine Y9 aS ?_ | refine N0 aS aL ?_ | refine U7 aS aR ?_ | refine Y8 aS aR aR (Rep.one (by assumption)) ?_ | refine U9 aS aR aR aR ?_ | refine Q0n au au au ?_ | (refine Z8 (fun hh=>?_) (fun hh=>?_)<;>(try simp only[hh,Bool.not_true,Bool.not_false,↓M2,M2,Mb,reduceIte])) | (refine Q7 (fun hh=>?_) (fun hh=>?_)<;>(try simp only[hh,Bool.not_true,Bool.not_false,↓M2,M2,Mb,reduceIte])))))
  all_goals exact aF
 | some d=>
  rw[hd] at h
  (repeat' (first | (with_reducible intro _) | (with_reducible refine U8 ?_) | (simp only[↓M2,M2,Mb,reduceIte]) | (with_reducible first | refine ld aS aL aR ?_ | refine X7 aS aL aR ?_ | refine Y4 aS aL aR ?_ | refine Q8 aL ?_ | refine J0 aR ?_ | refine Y9 aS ?_ | refine N0 aS aL ?_ | refine U7 aS aR ?_ | refine Y8 aS aR aR (Rep.one (by assumption)) ?_ | refine U9 aS aR aR aR ?_ | refine Sn au au au ?_ | refine Zn au au au ?_ | (refine Z8 (fun hh=>?_) (fun hh=>?_)<;>(try simp only[hh,Bool.not_true,Bool.not_false,↓M2,M2,Mb,reduceIte])) | (refine Q7 (fun hh=>?_) (fun hh=>?_)<;>(try simp only[hh,Bool.not_true,Bool.not_false,↓M2,M2,Mb,reduceIte])))))
  all_goals exact aF)
end Go.Proofs.YtjdiakhipmggjaaGreatDoor

namespace Go.Kd
def brk (b:UInt8):Bool:=[(91:UInt8),93].contains b
def Q1M:Nat→X0→X0
 | 0,s=>s
 | n+1,s=>match s.getLast? with
  | some b=>if brk b then Q1M n (s.take (s.length-1)) else s
  | none=>s
def Hk (s:X0):X0:=Q1M s.length s
theorem Q8p: ∀(n m:Nat) (s:X0),s.length≤n→s.length≤m→Q1M n s=Q1M m s:=by
 intro n
 induction n with
 | zero=>
  intro m s h _
  have:s=[]:=List.eq_nil_of_length_eq_zero (by omega)
  subst this
  cases m<;>rfl
 | succ n a=>
  intro m s h c
  cases m with
  | zero=>
   have:s=[]:=List.eq_nil_of_length_eq_zero (by omega)
   subst this;rfl
  | succ m=>
   simp only[Q1M]
   cases d:s.getLast? with
   | none=>rfl
   | some b=>
    simp only
    split
    ·exact a m _ (by rw[List.length_take];omega) (by rw[List.length_take];omega)
    ·rfl
theorem Q1x (s:X0):Hk s=match s.getLast? with | some b=>if brk b then Hk (s.take (s.length-1)) else s | none=>s:=by
 unfold Hk
 cases d:s with
 | nil=>rfl
 | cons c r=>
  rw[←d]
  obtain ⟨n,e⟩: ∃n,s.length=n+1:=⟨r.length,by rw[d];rfl⟩
  have a:s.length-1=n:=by omega
  rw[e]
  simp only[Q1M,a]
  cases f:s.getLast? with
  | none=>rfl
  | some b=>
   simp only
   split
   ·rw[show n+1-1=n by omega];exact Q8p n (s.take n).length _ (by rw[List.length_take];omega) (Nat.le_refl _)
   ·rfl
theorem Q9P {s:X0} (h:name s=true): ∃b,s.getLast?=some b∧S6 b.toNat=true:=by
 cases s with
 | nil=>simp[name] at h
 | cons c r=>
  refine ⟨(c::r).getLast (by simp),List.getLast?_eq_some_getLast (by simp),?_⟩
  simp only[name,Bool.and_eq_true,List.all_eq_true] at h
  exact h.2 _ (List.getLast_mem _)
theorem Q9S {b:UInt8} (h:S6 b.toNat=true):brk b=false:=by
 have c:b≠91:=by rintro rfl;revert h;decide
 have a:b≠93:=by rintro rfl;revert h;decide
 simp[brk,c,a]
theorem Mh {s:X0} (h:(plain s||M6 s)=true):name s=true:=by
 simp only[Bool.or_eq_true] at h
 rcases h with h | h
 ·simp only[plain,Bool.or_eq_true,decide_eq_true_eq] at h
  rcases h with (h | h) | h<;>subst h<;>decide
 ·cases s with
  | nil=>simp[M6] at h
  | cons c r=>simp only[M6,Bool.and_eq_true] at h;exact h.1
end Go.Kd
namespace Go.Proofs.YtjdiakhipmggjaaGreatDoor
open Go.Emb Go.RowKit Go.Kd Go.Hm
variable {w : World} {K : Value → World → Prop} {σ : Q6} {v : Value} {l : List Cla}
theorem X0T {s:X0} (h:arr s=true):Hk s=Hk (Kd.cutA s):=by
 have f:2≤s.length∧s.drop (s.length-2)=[91,93]:=by simpa [arr] using h
 obtain ⟨i,d⟩:=f
 have a:s=Kd.cutA s++[91,93]:=by unfold Kd.cutA;rw[←d,List.take_append_drop]
 have g:(Kd.cutA s).length+2=s.length:=by unfold Kd.cutA;rw[List.length_take];omega
 have e:s.getLast?=some 93:=by rw[a];simp
 have b:s.take (s.length-1)=Kd.cutA s++[91]:=by
  conv=>lhs;rw[a]
  rw[List.take_append,List.length_append]
  simp
  exact List.take_of_length_le (by omega)
 rw[Q1x s,e]
 simp only[show brk 93=true from rfl,if_true,b]
 rw[Q1x]
 have c:(Kd.cutA s++[91]).getLast?=some 91:=by simp
 rw[c]
 simp only[show brk 91=true from rfl,if_true]
 congr 1
 simp
theorem Q98 {s:X0}:(plain (base s).1||M6 (base s).1)=true→Hk s=(base s).1:=by
 have key: ∀(n:Nat) (s:X0),s.length≤n→(plain (base s).1||M6 (base s).1)=true→Hk s=(base s).1:=by
  intro n
  induction n with
  | zero=>
   intro s h a
   have:s=[]:=List.eq_nil_of_length_eq_zero (by omega)
   subst this;rfl
  | succ n e=>
   intro s h a
   by_cases c:arr s=true
   ·have d:base s=((base (Kd.cutA s)).1,(base (Kd.cutA s)).2+1):=by rw[Xz s,c];simp
    rw[d] at a⊢
    rw[X0T c]
    exact e _ (by have:=K4 c;omega) a
   ·have d:base s=(s,0):=by rw[Xz s,eq_false_of_ne_true c];simp
    rw[d] at a⊢
    obtain ⟨b,g,f⟩:=Q9P (Mh a)
    rw[Q1x,g]
    simp[Q9S f]
 exact key _ s (Nat.le_refl _)
instance z_asciiSet:TZ P T.ab 256 256 (.agg (Array.replicate 256 (.bool false))):=⟨by kernel_rfl⟩
theorem Q6Q (h: ∀w',Below w.heap.size w w'→K (.tuple #[.agg (Lib.setCells [91,93]), .bool true]) w'):Q1 P F.ch [S [91,93]] w K:=by
 refine Wo (fn:=Tryz.f157) Tryz.func157 (by kernel_rfl) (by kernel_rfl) (Calls.mono (Tryz.strings_makeASCIISet (fun w=>Zl z_asciiSet w) ⟨[91,93].toArray⟩ w (by decide) (by
  intro j b a
  have:b∈[(91:UInt8),93]:=List.mem_of_getElem? a
  simp at this;rcases this with rfl | rfl<;>decide)) ?_)
 rintro e w' ⟨rfl,rfl⟩
 exact h _ ((Below.refl _ _).alloc (Nat.le_refl _) _)
theorem Q2W {q:Addr} {b:UInt8} (a:X2 w σ) (c:Z4 σ q (Lib.setCells [91,93]).toList) (h:K (.bool (brk b)) w):Q1 P F.az [.pointer (some q), .int .u8 b.toNat] w K:=Ob (by
 unfold Xb
 rw[L9]
 have d:=b.toNat_lt
 rw[Q9K (by omega) (by omega)]
 refine ld a c ?_ h
 have:=Lib.setCells_at [91,93] b
 rw[←Array.getElem?_toList] at this
 simpa [brk] using this)
theorem Q2K {q:Addr} {s:X0} (m:X2 w σ) (j:s.length≤U1) (k:Z4 σ q (Lib.setCells [91,93]).toList) (h:K (S (Hk s)) w):Q1 P F.ap [S s, .pointer (some q)] w K:=Ry (by
 unfold Jx
 refine U8 ?_
 refine Wj (fun x w'=>w'=w∧ ∃u:X0,x=S u∧u.length≤U1∧Hk u=Hk s) (fun x _=>(sOf x).length) ⟨rfl,s,rfl,j,rfl⟩ ?_
 rintro _ d _ ⟨rfl,u,rfl,g,f⟩
 have e:sOf (S u)=u:=by simp[sOf]
 simp only[e]
 refine Cg X8 ?_
 refine Pr ?_
 refine Q7 (fun hh=>?_) (fun hh=>?_)
 ·have n:0<u.length:=by simpa using hh
  have o:u.length≤9223372036854775807:=Nat.le_trans g (by decide)
  refine Cg X8 ?_
  refine Zg ⟨by omega,by omega⟩ ?_
  have i:((u.length:Int)-1).toNat=u.length-1:=by omega
  rw[Yb X8 (by omega) (by omega)]
  simp only[i]
  have b:u.getLast?=some (u[u.length-1]'(by omega)):=by rw[List.getLast?_eq_getElem?,List.getElem?_eq_getElem]
  have a:=Q1x u
  rw[b] at a
  simp only at a
  refine Q2W m k ?_
  cases c:brk (u[u.length-1]'(by omega)) with
  | true=>
   rw[c] at a
   simp only[↓M1,M1,Mb,reduceIte]
   rw[F9 (by omega) (by omega),T1 X8 (by omega) (by omega)]
   simp only[i]
   refine ⟨⟨trivial,_,rfl,by rw[List.length_take];omega,?_⟩,?_⟩
   ·rw[←f,a];simp
   ·have:sOf (S (u.take (u.length-1)))=u.take (u.length-1):=by simp[sOf]
    simp only[this,List.length_take];omega
  | false=>
   rw[c] at a
   simp only[↓M1,M1,Mb,reduceIte]
   intro _
   rw[←f,a] at h
   simpa using h
 ·have n: ¬0<u.length:=by simpa using hh
  have:u=[]:=List.eq_nil_of_length_eq_zero (by omega)
  subst this
  intro _
  rw[←f] at h
  exact h)
theorem Q6R {s:X0} (hs:X2 w σ) (hl:s.length≤U1) (h: ∀w' σ',Stp w σ w' σ'→K (S (Hk s)) w'):Q1 P F.bH [S s,S [91,93]] w K:=Q08 (by
 unfold Ot
 by_cases hs0:s=[]
 ·subst hs0
  (repeat' (first | (with_reducible intro _) | (with_reducible refine U8 ?_) | (simp only[↓M2,M2,Mb,reduceIte]) | (with_reducible first | refine ld aS aL aR ?_ | refine X7 aS aL aR ?_ | refine Y4 aS aL aR ?_ | refine Q8 aL ?_ | refine J0 aR ?_ | refine Y9 aS ?_ | refine N0 aS aL ?_ | refine U7 aS aR ?_ | refine Y8 aS aR aR (Rep.one (by assumption)) ?_ | refine U9 aS aR aR aR ?_ | (refine Z8 (fun hh=>?_) (fun hh=>?_)<;>(try simp only[hh,Bool.not_true,Bool.not_false,↓M2,M2,Mb,reduceIte])) | (refine Q7 (fun hh=>?_) (fun hh=>?_)<;>(try simp only[hh,Bool.not_true,Bool.not_false,↓M2,M2,Mb,reduceIte])))))
  all_goals first | exact h _ _ (by (repeat (first | exact Stp.refl (by (first | assumption | exact Stp.sat (by assumption) | exact Hst.sat (by assumption))) | assumption | refine Stp.trans ?_ (by first | assumption | exact Hst.stp (by assumption))))) | (exfalso;simp_all)
 have d1:decide (s=[])=false:=decide_eq_false hs0
 simp only[d1,show decide (([91,93]:X0)=[])=false from rfl,show decide ((([91,93]:X0).length:Int)=1)=false from rfl,↓M1,M1,Mb,reduceIte]
 refine Q6Q (L1 hs fun w1 σ1 hk1=>?_)
 simp only[↓M1,M1,Mb,reduceIte]
 have hsz:(Lib.setCells [91,93]).toList.length=256:=by rw[Array.length_toList];exact Lib.setCells_size _
 have hone: ∀u∈(Lib.setCells [91,93]).toList,u.oneCell'=true:=by
  have:=Lib.setCells_one [91,93]
  rw[Array.all_eq_true'] at this
  intro u hu;exact this u (by simpa using hu)
 have htr: ∀{w:World} {σ:Q6} {K:Value→World→Prop} {q:Addr},X2 w σ→Z4 σ q (Lib.setCells [91,93]).toList→K (S (Hk s)) w→Q1 P F.ap [S s, .pointer (some q)] w K:=fun hs hq h=>Q2K hs hl hq h
 have hta:Lib.setCells [91,93]=(Lib.setCells [91,93]).toList.toArray:=Array.toArray_toList.symm
 generalize (Lib.setCells [91,93]).toList=cs at*
 rw[hta]
 refine Y8 hk1.sat (by show (Array.replicate 256 (Value.bool false)).size=256;exact Array.size_replicate) hsz hone fun q w2 σ2 hk2 hq=>?_
 refine htr hk2.sat hq ?_
 exact h _ _ (hk1.trans hk2))
theorem Q0D {s:X0} (hs:X2 w σ) (ht:Tab σ v l) (hl:s.length≤U1) (h: ∀w' σ',Stp w σ w' σ'→K (.bool (N1 l s)) w'):Q1 P F.s [v,S s] w K:=Q07 (by
 unfold Di
 unfold N1 at h
 refine K2 ?_
 refine Q7 (fun hh=>?_) (fun hh=>?_)
 ·have e:decide (s=H7)=true:=hh
  rw[e] at h
  exact h _ _ (Stp.refl hs)
 ·have e:decide (s=H7)=false:=hh
  rw[e] at h
  refine Q6R hs hl fun w1 σ1 hk1=>?_
  refine Zk s (Nat.le_trans hl (by decide)) (L1 hk1.sat fun w2 σ2 hk2=>?_)
  cases hr:right s with
  | false=>
   rw[hr] at h
   (repeat' (first | (with_reducible intro _) | (with_reducible refine U8 ?_) | (simp only[↓M2,M2,Mb,reduceIte]) | (with_reducible first | refine ld aS aL aR ?_ | refine X7 aS aL aR ?_ | refine Y4 aS aL aR ?_ | refine Q8 aL ?_ | refine J0 aR ?_ | refine Y9 aS ?_ | refine N0 aS aL ?_ | refine U7 aS aR ?_ | refine Y8 aS aR aR (Rep.one (by assumption)) ?_ | refine U9 aS aR aR aR ?_ | (refine Z8 (fun hh=>?_) (fun hh=>?_)<;>(try simp only[hh,Bool.not_true,Bool.not_false,↓M2,M2,Mb,reduceIte])) | (refine Q7 (fun hh=>?_) (fun hh=>?_)<;>(try simp only[hh,Bool.not_true,Bool.not_false,↓M2,M2,Mb,reduceIte])))))
   all_goals exact aF
  | true=>
   rw[hr] at h
   have hr2:(plain (base s).1||M6 (base s).1)=true:=by
    simp only[right,Bool.and_eq_true] at hr;exact hr.2
   rw[Q98 hr2]
   (repeat' (first | (with_reducible intro _) | (with_reducible refine U8 ?_) | (simp only[↓M2,M2,Mb,reduceIte]) | (with_reducible first | refine ld aS aL aR ?_ | refine X7 aS aL aR ?_ | refine Y4 aS aL aR ?_ | refine Q8 aL ?_ | refine J0 aR ?_ | refine Y9 aS ?_ | refine N0 aS aL ?_ | refine U7 aS aR ?_ | refine Y8 aS aR aR (Rep.one (by assumption)) ?_ | refine U9 aS aR aR aR ?_ | refine Rp _ ?_ | refine Q8x au au ?_ | (refine Z8 (fun hh=>?_) (fun hh=>?_)<;>(try simp only[hh,Bool.not_true,Bool.not_false,↓M2,M2,Mb,reduceIte])) | (refine Q7 (fun hh=>?_) (fun hh=>?_)<;>(try simp only[hh,Bool.not_true,Bool.not_false,↓M2,M2,Mb,reduceIte])))))
   all_goals exact aF)
end Go.Proofs.YtjdiakhipmggjaaGreatDoor

namespace Go.Emb
open Go.RowKit Go.Hm
variable {P : Program} {w w0 w1 w' w'' : World} {K : Value → World → Prop} {σ σ0 σ1 σ' : Q6}
theorem Q4J (m:List (List UInt8×Value)) (k n:List UInt8) (v:Value):C4 (Wq m k v) n=if k=n then some v else C4 m n:=by
 induction m with
 | nil=>simp[Wq,C4]
 | cons p r b=>
  simp only[Wq]
  by_cases h:p.1=k
  ·rw[if_pos h]
   simp only[C4]
   by_cases a:k=n
   ·simp[a]
   ·rw[if_neg a,if_neg a,if_neg (by rw[h];exact a)]
  ·rw[if_neg h]
   simp only[C4]
   by_cases a:p.1=n
   ·rw[if_pos a,if_pos a,if_neg (by intro e;exact h (a.trans e.symm))]
   ·rw[if_neg a,if_neg a];exact b
theorem J8.shift {B sz:Nat} {e:TypeId} {v:Value} {xs:List (List UInt8)} (h:J8 B e sz U6 σ w v xs) (m: ∀k,v.ownBlock=some k→σ' k=none):J8 B e sz U6 σ' w v xs:=by
 obtain ⟨a,j,rfl,t,r,c,s⟩:=h
 refine ⟨a,j,rfl,t,r,fun b d=>⟨(c b d).1,(c b d).2.1,(c b d).2.2.1,m _ (by subst d;rfl)⟩,fun o=>?_⟩
 obtain ⟨g,i,f,rfl,u,y,q,n,p⟩:=s o
 exact ⟨g,i,f,rfl,u,m g rfl,q,n,p⟩
theorem Kpt.sat {D:Nat→Prop} (a:X2 w σ) (d:Kpt D w w') (c: ∀k,D k→σ k=none):X2 w' σ:=fun b o e=>by
 rw[d.block b (a.lt e) fun h=>by rw[c b h] at e;cases e];exact a b o e
theorem Nxt.kpt {D D':Nat→Prop} (h:Nxt D w σ w' σ') (a:Kpt D' w' w'') (b: ∀k,D' k→D k) (c: ∀k,D' k→σ' k=none):Nxt D w σ w'' σ':=
 ⟨h.kp.trans (a.mono fun k _ h=>b k h),h.le,h.old,a.sat h.sat c⟩
theorem X2W {t M:TypeId} {e:TypeId} {q:Nat} {z:Value} {cs:List Bool} [ts:TS P t e] [tz:TZ P e 1 q z] {B:Nat} {A:World} {i σ':Q6} {g u:Value} {xs:List (List UInt8)} {s:List UInt8}
 (C:J8 B e 1 U6 i A g xs) (hB:B≤A.heap.size) (U:J8 B e 1 U6 i w1 g xs) (y:Nxt (fun k=>g.ownBlock=some k) A i w1 σ') (O:Sl 1 U6 σ' u [s]) (V:(z.cells.size==1&&decide (0<1))=true)
 (j:(xs.length+1)*q≤140737488355328) (J:xs.length+1≤1000000000000):
 X3 P .append [t,t] M cs [g,u] w1 (dk (Ih B e 1 U6 i g xs s) (VQa A.heap.size B e 1 U6 i g xs s) w1):=by
 have r: ∀k,g.ownBlock=some k→σ' k=none:=fun k c=>(y.old k (C.mem c).2.1).trans (C.mem c).2.2
 refine Q8M y.sat (Nat.le_trans hB y.kp.size) (U.shift r) O V (by simpa using j) (by simpa using J) fun R X D N p f=>?_
 have b:J8 B e 1 U6 i X R (xs++[s]):=p.shift fun k c=>by
  have:=(p.mem c).2.2
  cases hh:i k with
  | none=>rfl
  | some o=>rw[y.le.le _ _ hh] at this;cases this
 refine ⟨⟨D.mono fun k _ h=>h.1,fun h=>?_,fun a d H h=>?_⟩,b,?_⟩
 ·rcases f with ⟨a,d,m,n⟩ | ⟨j,_⟩
  ·rw[n] at b;rw[m];exact b.pre rfl
  ·exact h.below j
 ·rcases f with ⟨Y,E,m,n⟩ | ⟨j,_⟩
  ·rw[m] at H;injection H with W q2 L
   subst W L
   rw[n] at b;exact b
  ·exact h.below j
 ·rcases f with ⟨a,d,m,n⟩ | ⟨j,Q⟩
  ·exact .inl ⟨a,d,m,n⟩
  ·exact .inr ⟨fun k c=>Nat.le_trans y.kp.size (Q k c),fun k c=>(C.mem c).2.1⟩
end Go.Emb
namespace Go.Hm
open Go.Kd
def Nu (l:List Cla) (n:X0):List Cla:=(F8 l n).filterMap (lk l)
theorem Q6Y {l:List Cla} (h: ∀c∈l,Qn c) (a:List X0):weigh l a≤l.length*1000001:=by
 unfold weigh
 induction l with
 | nil=>simp
 | cons c r b=>
  have g:=b fun c d=>h c (by simp[d])
  have e:=(h c (by simp)).1
  simp only[List.map_cons,List.sum_cons,List.length_cons,Nat.add_mul]
  have f:(U4 c).length=c.like.length+1:=rfl
  split<;>omega
end Go.Hm
namespace Go.Proofs.YtjdiakhipmggjaaGreatDoor
open Go.Emb Go.RowKit Go.Kd Go.Hm
variable {w : World} {K : Value → World → Prop} {σ : Q6} {v : Value} {l : List Cla}
theorem Q7N {β:Type} {n:X0} {f:Value} (H:β→Cla→Bool×β) (s0:β) (N:β→World→Prop) (D:Nat→Prop) (hs:X2 w σ) (ht:Tab σ v l) (hl:l.length≤100000) (bn: ∀c∈l,Qn c) (hn:n.length≤U1)
 (hD: ∀k,D k→k<w.heap.size∧σ k=none) (aj: ∀s w1 w2,N s w1→(∀k,D k→w2.heap[k]? =w1.heap[k]?)→N s w2) (h0:N s0 w)
 (hf: ∀s c cs (w1:World) (σ1:Q6) (K:Value→World→Prop),SLe σ σ1→X2 w1 σ1→(∀k,D k→σ1 k=none)→N s w1→V0 σ1 c cs→lk l c.name=some c→(∀w',Kpt D w1 w'→N (H s c).2 w'→K (.bool (H s c).1) w')→Z3 P f [.agg cs.toArray] w1 K)
 (h: ∀w' σ',Nxt D w σ w' σ'→N (J3 H s0 (Nu l n) 0).2 w'→K (.bool (J3 H s0 (Nu l n) 0).1.isSome) w'):Q1 P F.w [v,S n,f] w K:=Kl (by
 unfold Nl
 refine Zc (R:=U6) (sz:=1) (xs:=[n]) (Stp.refl hs) [S n] rfl rfl (by simp;rfl) rfl ⟨⟨rfl,hn⟩,trivial⟩ fun x0 w1 aq bh _=>?_
 refine Q3p aq.sat fun r w2 hr Y ch=>?_
 have b5:=J8.of_acc (bh.up Y)
 have bm:=aq.trans Y
 have bc:w.heap.size≤r:=Nat.le_trans aq.bel.size hr
 have bb: ∀b,weigh l b≤100001000000:=fun b=>by
  have:=Q6Y bn b
  have h2:l.length*1000001≤100000*1000001:=Nat.mul_le_mul_right _ hl
  omega
 refine Ke (fun d x w1=> ∃(C b:List X0) (s:β) (σ1:Q6) (m:List (X0×Value)),d=C.length+weigh l b∧d≤1+weigh l []∧Nxt D w σ w1 σ1∧J8 w.heap.size T.c 1 U6 σ1 w1 x C∧C5 σ1 w1 r m∧(∀k,(C4 m k).isSome=decide (k∈b))∧x.ownBlock≠some r∧N s w1∧
  F8 l n=Uz (lk l) d C b∧(∃i,J3 H s0 (Nu l n) 0=J3 H s (((F8 l n).drop b.length).filterMap (lk l)) i)) (1+weigh l []) ?_ ?_
 ·refine ⟨[n],[],s0,σ,[],by simp,Nat.le_refl _,Nxt.of_stp bm,b5,ch,by simp[C4],?_,aj _ _ _ h0 fun k o=>bm.bel.block k (hD k o).1,rfl,0,by simp[Nu]⟩
  intro e
  have:=bh.mem r e
  omega
 rintro a4 d x dd w3 ⟨C,b,s,σ3,m,hd,dj,A,a3,X,Q,ck,ar,hv,i,y⟩ bp
 have cx:=bb []
 have a1:=A.sat
 obtain ⟨a0,B⟩:=Q1D (lk l) d C b
 rw[←hv] at B
 have ae:(F8 l n).drop b.length=a0:=by rw[B];simp
 rw[ae] at y
 refine Q1o a3 ?_
 refine Pr ?_
 cases ac:C with
 | nil=>
  subst ac
  refine Q7 (fun hh=>absurd (of_decide_eq_true hh) (by simp)) (fun _=>?_)
  have:F8 l n=b:=by rw[hv];cases d<;>rfl
  have hp:a0=[]:=by rw[this] at B;simpa using B
  rw[hp] at y
  rw[y] at h
  exact h _ _ A ar
 | cons t g=>
  subst ac
  refine Q7 (fun _=>?_) (fun hh=>absurd (of_decide_eq_false hh) (by simp))
  simp only[List.length_cons] at hd
  refine Q5p (n:=0) a3 (by simp) fun a cs h1 h2 h3=>?_
  obtain ⟨rfl,b7⟩:=h3
  simp only[List.getElem_cons_zero] at h1 b7
  have aa:=h1 0 _ rfl
  rw[add_zero] at aa
  refine Qd aa ?_
  refine X3S a3 1 (by simp) fun x' ag bq=>?_
  simp only[List.drop_succ_cons,List.drop_zero] at ag
  have J:x'.ownBlock≠some r:=by
   rcases bq with e | e<;>rw[e]
   ·exact ck
   ·simp
  rw[Q2w X8 X.2 t]
  have cm:d=(g.length+weigh l b)+1:=by omega
  have p:=hv
  rw[cm] at p
  simp only[Uz] at p
  have skip:(lk l t=none∨t∈b)→F8 l n=Uz (lk l) (g.length+weigh l b) g b:=by
   rintro (e | e)
   ·rw[e] at p;exact p
   ·cases e2:lk l t with
    | none=>rw[e2] at p;exact p
    | some c=>rw[e2] at p;simp only[if_pos e] at p;exact p
  have Z:(lk l t=none∨t∈b)→a4 x' w3:=fun cj=>
   bp (g.length+weigh l b) x' w3 (by omega) ⟨g,b,s,σ3,m,rfl,by omega,A,ag,X,Q,J,ar,skip cj,i,by rw[ae];exact y⟩
  have ax:=ht.lift A.le
  have U:=Q t
  cases br:C4 m t with
  | some u=>
   rw[br] at U
   have an:t∈b:=by simpa using U
   simp only[↓M2,M2,Mb,reduceIte]
   exact Z (.inr an)
  | none=>
   rw[br] at U
   have an:t∉b:=by simpa using U
   simp only[↓M2,M2,Mb,reduceIte]
   cases L:lk l t with
   | none=>
    refine Q0n a1 ax L ?_
    simp only[↓M2,M2,Mb,reduceIte]
    exact Z (.inl L)
   | some c=>
    obtain ⟨a6,bi,_⟩:=V4 L
    refine Sn a1 ax L ?_
    simp only[↓M2,M2,Mb,reduceIte]
    refine Kb X8 X t (I 1) fun w4 bj ci=>?_
    have ad:Kpt (fun k=>k=r) w3 w4:=Kpt.of_upd bj rfl
    have b4:X2 w4 σ3:=ad.sat a1 fun k o=>by rw[o];exact X.1
    have bs:=ag.kp ad fun k o e=>J (e▸o)
    have cr:=aj _ _ _ ar fun k o=>bj.block k (by have:=(hD k o).1;omega)
    have c5:r<w3.heap.size:=X.lt
    refine Zn b4 ax L fun lv fv mv w5 σ5 bx f1 f2 f3 f4 f5 bo=>?_
    refine Y8 bx.sat (by rfl) rfl (Rep.one bo) fun q w6 M V az=>?_
    refine Y4 V.sat az rfl ?_
    have z:=bx.trans V
    have bg: ∀k,D k→k<w4.heap.size:=fun k o=>by
     have h1:=(hD k o).1
     have h2:=A.kp.size
     have h3:=ad.size
     omega
    have cc:=aj _ _ _ cr fun k o=>z.bel.block k (bg k o)
    have aw:SLe σ M:=A.le.more ⟨z.le⟩
    have bw: ∀k,D k→M k=none:=fun k o=>by
     rw[z.old k (bg k o),A.old k (hD k o).1];exact (hD k o).2
    refine hf s c _ w6 M _ aw V.sat bw cc (RCl_lift bo ⟨V.le⟩) (by rw[a6];exact L) fun w7 ak b0=>?_
    have b1:X2 w7 M:=ak.sat V.sat bw
    have al:Nxt D w σ w7 M:=⟨((A.kp.more ad fun j e=>by rw[e];exact bc).trans (Kpt.of_below z.bel)).trans ak,aw,fun k o=>by
     rw[z.old k (by have:=A.kp.size;have:=ad.size;omega)];exact A.old k o,b1⟩
    have ap: ∀k,w.heap.size≤k→ ¬D k:=fun k o e=>by have:=(hD k e).1;omega
    have W:=(bs.up z).kp ak fun k o=>ap k ((bs.mem o).1)
    have bv:=(ci.up z).kp ak (ap r bc)
    have bl: ∀k,(C4 (Wq m t (I 1)) k).isSome=decide (k∈b++[t]):=fun k=>by
     rw[Q4J]
     by_cases e:t=k
     ·subst e;simp
     ·rw[if_neg e,Q k];simp[Ne.symm e]
    rw[L] at p
    simp only[if_neg an] at p
    obtain ⟨bf,a5⟩:=Q1D (lk l) (g.length+weigh l b) (g++U4 c) (b++[t])
    have bk:a0=t::bf:=by
     have:=B.symm.trans (p.trans a5)
     simpa using this
    rw[bk] at y
    simp only[List.filterMap_cons,L,J3] at y
    cases E:(H s c).1 with
    | true=>
     rw[E] at y
     simp only[if_true] at y
     refine J4 ?_
     have:=h w7 M al
     rw[y] at this
     exact this b0
    | false=>
     rw[E] at y
     simp only[Bool.false_eq_true,if_false] at y
     refine Z9 ?_
     have ao:w.heap.size≤w7.heap.size:=al.kp.size
     have ab: ∀k,x'.ownBlock=some k→M k=none:=fun k o=>(W.mem o).2.2
     have hw:=Kc l b c bi (by rw[a6];exact an)
     rw[a6] at hw
     have c4:=bb b
     have b9:g.length≤100001000001:=by omega
     have ca:=(bn c bi).1
     have cv:=bv.lt
     refine Im (Ih w.heap.size T.c 1 U6 M x' g c.super) (fun w1=>Kpt (fun k=>x'.ownBlock=some k) w7 w1∧X2 w1 M∧J8 w.heap.size T.c 1 U6 M w1 x' g)
      ⟨.of_below (Below.refl _ _).drew,b1.below (Below.refl _ _).drew,W.below (Below.refl _ _).drew⟩ (fun w1 w2 E ht=>⟨E.1.trans ht.1,ht.1.sat E.2.1 ab,ht.2.1 E.2.2⟩) ?_
     refine X4 (.pointer (some (q.add 1))) (fun w E=>by rw[fa];exact ⟨Ih.refl,rfl⟩) ?_
     refine X4 (.pointer (some (q.add 2))) (fun w E=>by rw[fa];exact ⟨Ih.refl,rfl⟩) ?_
     refine X4 (S c.super) (fun t w E e=>by rw[e];exact ld E.2.1 az rfl ⟨Ih.refl,rfl⟩) ?_
     refine E5 (fun u w1=> ∃σ',Nxt (fun k=>x'.ownBlock=some k) w7 M w1 σ'∧Sl 1 U6 σ' u [c.super]) (fun u w1 w2 e ht=>by obtain ⟨σ',h1,h2⟩:=e;exact ⟨σ',h1.kpt ht.1 (fun _ o=>o) (fun k o=>(h1.old k (W.mem o).2.1).trans (ab k o)),h2⟩) (fun t w1 E e=>?_) ?_
     ·rw[e]
      refine P1 (R:=U6) (sz:=1) E.2.1 [S c.super] [c.super] rfl rfl (by simp;rfl) rfl ⟨⟨rfl,f5⟩,trivial⟩ fun u w2 σ2 Y hu=>?_
      have cq:Nxt (fun k=>x'.ownBlock=some k) w7 M w1 M:=⟨E.1,SLe.refl _,fun _ _=>rfl,E.2.1⟩
      exact ⟨Ih.below Y.bel,σ2,cq.trans (Nxt.of_stp Y),hu⟩
     refine E5 (VQa w7.heap.size w.heap.size T.c 1 U6 M x' g c.super) (fun _ _ _ h1 ht=>h1.stable ht) (fun u w1 E e=>?_) ?_
     ·obtain ⟨σ',h1,h2⟩:=e
      exact X2W W ao E.2.2 h1 h2 rfl (by omega) (by omega)
     refine X4 lv (fun t w E e=>by rw[e];exact ld E.2.1 az rfl ⟨Ih.refl,rfl⟩) ?_
     rintro di dn da c1 co dl w8 O _ _ _ _ ⟨cl,bz⟩ rfl
     have ay:co.ownBlock≠some r:=by
      rcases bz with ⟨a,ce,e1,e2⟩ | ⟨e1,_⟩
      ·rw[e2];rw[e1] at J;cases a<;>exact J
      ·intro e;have:=e1 r e;omega
     refine Q8M O.2.1 (Nat.le_trans ao O.1.size) cl (f1.up V) rfl (by rw[List.length_append,List.length_cons,List.length_nil];omega) (by rw[List.length_append,List.length_cons,List.length_nil];omega) fun be w9 av cb b8 bu=>?_
     have b3:be.ownBlock≠some r:=by
      rcases bu with ⟨a,ce,e1,e2⟩ | ⟨_,e1⟩
      ·rw[e2];rw[e1] at ay;cases a<;>exact ay
      ·intro e;have:=e1 r e;have:=O.1.size;omega
     have cp:Nxt D w σ w9 M:=⟨(al.kp.more O.1 fun j e=>(W.mem e).1).more av fun j e=>e.2.1,aw,al.old,cb⟩
     have cn:=(bv.kp O.1 J).kp av fun e=>ay e.1
     have cg:=aj _ w7 w9 b0 fun k o=>by
      have h1:=(hD k o).1
      rw[av.block k (by have:=O.1.size;omega) fun e=>by have:=e.2.1;omega,O.1.block k (by omega) fun e=>by have:=(W.mem e).1;omega]
     have c6:(g++U4 c).length=g.length+1+c.like.length:=by simp[U4];omega
     have cw:(U4 c).length=c.like.length+1:=rfl
     have a2:Uz (lk l) (g.length+weigh l b) (g++U4 c) (b++[t])=Uz (lk l) ((g++U4 c).length+weigh l (b++[t])) (g++U4 c) (b++[t]):=by
      have:=X0v l ((g++U4 c).length+weigh l (b++[t])) (g++U4 c) (b++[t]) (Nat.le_refl _) (g.length+weigh l b-((g++U4 c).length+weigh l (b++[t])))
      rw[←this];congr 1;omega
     refine bp ((g++U4 c).length+weigh l (b++[t])) be w9 (by omega) ⟨g++U4 c,b++[t],(H s c).2,M,_,rfl,by omega,cp,?_,cn,bl,b3,cg,p.trans a2,i+1,?_⟩
     ·have:g++U4 c=(g++[c.super])++c.like:=by simp[U4]
      rw[this];exact b8
     ·rw[y,B,bk];simp)
end Go.Proofs.YtjdiakhipmggjaaGreatDoor

namespace Go.Emb
open Go.RowKit Go.Hm
theorem Nxt.stp {w w':World} {σ a:Q6} (h:Nxt (fun _=>False) w σ w' a):Stp w σ w' a:=⟨h.kp.below fun _=>id,h.sat,h.le.le,h.old⟩
end Go.Emb
namespace Go.Hm
open Go.Kd Go.Emb
theorem Q4y {α:Type} (p:α→Bool): ∀(xs:List α) (i:Nat),(J3 (fun (_:Unit) x=>(p x,())) () xs i).1.isSome=xs.any p
 | [],_=>rfl
 | x::r,i=>by
  simp only[J3,List.any_cons]
  cases p x with
  | true=>simp
  | false=>simpa using Q4y p r (i+1)
theorem Q68 {l:List Cla} (n b:X0):((Nu l n).any fun c=>decide (c.name=b))=(F8 l n).contains b:=by
 have key: ∀vs:List X0,(∀x∈vs,∃c,lk l x=some c)→((vs.filterMap (lk l)).any fun c=>decide (c.name=b))=vs.contains b:=by
  intro vs
  induction vs with
  | nil=>intro _;rfl
  | cons x r d=>
   intro h
   obtain ⟨c,a⟩:=h x (by simp)
   rw[List.filterMap_cons,a]
   simp only[List.any_cons,List.contains_cons]
   rw[d fun y e=>h y (by simp[e]),(V4 a).1]
   congr 1
   rw[Bool.eq_iff_iff,beq_iff_eq,decide_eq_true_eq];exact ⟨Eq.symm,Eq.symm⟩
 exact key _ fun x f=>(Uv.1 f).right
end Go.Hm
namespace Go.Proofs.YtjdiakhipmggjaaGreatDoor
open Go.Emb Go.RowKit Go.Kd Go.Hm
variable {w : World} {K : Value → World → Prop} {σ : Q6} {v : Value} {l : List Cla}
theorem Q7q {n:X0} {f:Value} (p:Cla→Bool) (hs:X2 w σ) (ht:Tab σ v l) (hl:l.length≤100000) (hsm: ∀c∈l,Qn c) (hn:n.length≤U1)
 (hf: ∀c cs (w1:World) (σ1:Q6) (K:Value→World→Prop),SLe σ σ1→X2 w1 σ1→V0 σ1 c cs→(∀w' σ',Stp w1 σ1 w' σ'→K (.bool (p c)) w')→Z3 P f [.agg cs.toArray] w1 K)
 (h: ∀w' σ',Stp w σ w' σ'→K (.bool ((Nu l n).any p)) w'):Q1 P F.w [v,S n,f] w K:=by
 refine Q7N (fun (_:Unit) c=>(p c,())) () (fun _ _=>True) (fun _=>False) hs ht hl hsm hn (fun _ e=>e.elim) (fun _ _ _ _ _=>trivial) trivial (fun s c cs w1 σ1 K le hs1 _ _ hr _ hK=>hf c cs w1 σ1 K le hs1 hr fun w' σ' hk=>hK w' (.of_below hk.bel) trivial) fun w' σ' hn _=>?_
 rw[Q4y]
 exact h w' σ' hn.stp
theorem X0w {n b:X0} {q:Addr} (hs:X2 w σ) (ht:Tab σ v l) (ok:Ok l) (hn:n.length≤U1) (hq:Z4 σ q [S b]) (h: ∀w' σ',Stp w σ w' σ'→K (.bool ((F8 l n).contains b)) w'):
 Q1 P F.w [v,S n, .func (.func F.bq) #[] #[.pointer (some q)]] w K:=by
 refine Q7q (fun c=>decide (c.name=b)) hs ht ok.len ok.sm hn (fun c cs w1 σ1 K le hs1 hr hK=>Z7 (Tj ?_)) (by rw[Q68];exact h)
 obtain ⟨lv,fv,mv,rfl,_⟩:=hr
 unfold Np
 have hq1:=hq.lift le
 refine Y9 hs1 fun a w2 σ2 hk2 ha2=>?_
 (repeat' (first | (with_reducible intro _) | (with_reducible refine U8 ?_) | (simp only[↓M2,M2,Mb,reduceIte]) | (with_reducible first | refine ld aS aL aR ?_ | refine X7 aS aL aR ?_ | refine Y4 aS aL aR ?_ | refine Q8 aL ?_ | refine J0 aR ?_ | refine Y9 aS ?_ | refine N0 aS aL ?_ | refine U7 aS aR ?_ | refine Y8 aS aR aR (Rep.one (by assumption)) ?_ | refine U9 aS aR aR aR ?_ | (refine Z8 (fun hh=>?_) (fun hh=>?_)<;>(try simp only[hh,Bool.not_true,Bool.not_false,↓M2,M2,Mb,reduceIte])) | (refine Q7 (fun hh=>?_) (fun hh=>?_)<;>(try simp only[hh,Bool.not_true,Bool.not_false,↓M2,M2,Mb,reduceIte])))))
 exact hK _ _ hk2
theorem X3N {a b:X0} (H:X2 w σ) (t:Tab σ v l) (ok:Ok l) (u:a.length≤U1) (E:b.length≤U1) (h: ∀w' D,Stp w σ w' D→K (.bool (Xr l a b)) w'):Q1 P F.bR [v,S a,S b] w K:=Q0W (by
 unfold Hg
 unfold Xr at h
 refine U7 H rfl fun q w1 σ1 m z=>?_
 refine Q0D m.sat (t.lift ⟨m.le⟩) u fun U J d=>?_
 have i:=m.trans d
 cases y:N1 l a with
 | false=>
  simp only[y,↓M2,M2,Mb,reduceIte,Bool.not_false,Bool.true_or,if_true] at h⊢
  exact h _ _ i
 | true=>
  simp only[y,↓M2,M2,Mb,reduceIte,Bool.not_true,Bool.false_or] at h⊢
  refine X7 d.sat (z.up d) rfl ?_
  refine Q0D d.sat (t.lift ⟨i.le⟩) E fun M L e=>?_
  have c:=i.trans e
  cases A:N1 l b with
  | false=>
   simp only[A,↓M2,M2,Mb,reduceIte,Bool.not_false,if_true] at h⊢
   exact h _ _ c
  | true=>
   simp only[A,↓M2,M2,Mb,reduceIte,Bool.not_true,Bool.false_eq_true,if_false] at h⊢
   have j:=(z.up d).up e
   refine X7 e.sat j rfl ?_
   refine K2 ?_
   by_cases g:a=b
   ·rw[if_pos g] at h
    simp only[decide_eq_true g,↓M2,M2,Mb,reduceIte]
    exact h _ _ c
   rw[if_neg g] at h
   simp only[decide_eq_false g,↓M2,M2,Mb,reduceIte]
   refine Rp a ?_
   cases C:plain a with
   | true=>
    simp only[C,↓M2,M2,Mb,reduceIte,Bool.true_or,if_true] at h⊢
    exact h _ _ c
   | false=>
    simp only[C,↓M2,M2,Mb,reduceIte,Bool.false_or] at h⊢
    refine X7 e.sat j rfl ?_
    refine Rp b ?_
    cases B:plain b with
    | true=>
     simp only[B,↓M2,M2,Mb,reduceIte,if_true] at h⊢
     exact h _ _ c
    | false=>
     simp only[B,↓M2,M2,Mb,reduceIte,Bool.false_eq_true,if_false] at h⊢
     by_cases o:a=H7
     ·rw[if_pos o] at h
      have r:decide (a=[110,117,108,108])=true:=decide_eq_true o
      simp only[r,↓M2,M2,Mb,reduceIte]
      exact h _ _ c
     rw[if_neg o] at h
     have r:decide (a=[110,117,108,108])=false:=decide_eq_false o
     simp only[r,↓M2,M2,Mb,reduceIte]
     refine Q5C a (Nat.le_trans u (by decide)) (L1 e.sat fun N O f=>?_)
     have k:=c.trans f
     have n:=j.up f
     refine Wl ?_
     by_cases p:elem a=[]
     ·rw[if_neg (by simpa using p)] at h
      simp only[decide_eq_true p,↓M2,M2,Mb,reduceIte]
      exact X0w f.sat (t.lift ⟨k.le⟩) ok u n fun R Q s=>h _ _ (k.trans s)
     ·rw[if_pos p] at h
      simp only[decide_eq_false p,↓M2,M2,Mb,reduceIte]
      refine X7 f.sat n rfl ?_
      refine K2 ?_
      exact h _ _ k)
theorem X2t {c:Cla} {cs:List Value} (hs:X2 w σ) (ht:Tab σ v l) (hl:l.length≤100000) (hsm: ∀c∈l,Qn c) (hc:V0 σ c cs) (h: ∀w' σ',Stp w σ w' σ'→K (.bool (P9 l c)) w'):Q1 P F.bk [v, .agg cs.toArray] w K:=Ik (by
 obtain ⟨lv,fv,mv,rfl,g1,g2,g3,g4,g5⟩:=hc
 unfold Lw
 obtain ⟨a,_,_,_,rfl,_⟩:=ht.ex
 refine U7 hs rfl fun q w1 σ1 hk1 hq=>?_
 refine Y9 hk1.sat fun q2 w2 σ2 hk2 hq2=>?_
 rw[Qb,fa]
 have hS2:=hk1.trans hk2
 have back: ∀{n:X0} {w3:World} {σ3:Q6} {K:Value→World→Prop},SLe σ2 σ3→X2 w3 σ3→n.length≤U1→(∀w' σ',Stp w3 σ3 w' σ'→K (.bool ((F8 l n).contains c.name)) w')→
  Z3 P (.func (.func F.b8) #[] #[.pointer (some q), .pointer (some q2)]) [S n] w3 K:=by
  intro n w3 σ3 K le hs3 hn hK
  refine Z7 (Fp ?_)
  unfold Wd
  refine X7 hs3 ((hq.up hk2).lift le) rfl ?_
  rw[Qb]
  have le3:SLe σ σ3:=SLe.more ⟨hS2.le⟩ le
  refine Q7q (fun d=>decide (d.name=c.name)) hs3 (ht.lift le3) hl hsm hn (fun d ds w4 σ4 K le4 hs4 hr hK=>Z7 (Sm ?_)) (by rw[Q68];exact hK)
  obtain ⟨lv,fv,mv,rfl,_⟩:=hr
  unfold Um
  have hq4:=(hq2.lift le).lift le4
  refine Y9 hs4 fun a w5 σ5 hk5 ha5=>?_
  (repeat' (first | (with_reducible intro _) | (with_reducible refine U8 ?_) | (simp only[↓M2,M2,Mb,reduceIte]) | (with_reducible first | refine ld aS aL aR ?_ | refine X7 aS aL aR ?_ | refine Y4 aS aL aR ?_ | refine Q8 aL ?_ | refine J0 aR ?_ | refine Y9 aS ?_ | refine N0 aS aL ?_ | refine U7 aS aR ?_ | refine Y8 aS aR aR (Rep.one (by assumption)) ?_ | refine U9 aS aR aR aR ?_ | (refine Z8 (fun hh=>?_) (fun hh=>?_)<;>(try simp only[hh,Bool.not_true,Bool.not_false,↓M2,M2,Mb,reduceIte])) | (refine Q7 (fun hh=>?_) (fun hh=>?_)<;>(try simp only[hh,Bool.not_true,Bool.not_false,↓M2,M2,Mb,reduceIte])))))
  exact hK _ _ hk5
 refine ld hk2.sat hq2 rfl ?_
 unfold P9 at h
 simp only[U4,List.any_cons] at h
 refine back (SLe.refl _) hk2.sat g5 fun w3 σ3 hk3=>?_
 cases e1:(F8 l c.super).contains c.name with
 | true=>
  rw[e1] at h
  simp only[↓M2,M2,Mb,reduceIte]
  exact h _ _ (hS2.trans hk3)
 | false=>
  rw[e1,Bool.false_or] at h
  simp only[↓M2,M2,Mb,reduceIte]
  refine ld hk3.sat (hq2.up hk3) rfl ?_
  refine P6 (fun n=>(F8 l n).contains c.name) hk3.sat (((g1.up hk1).up hk2).up hk3) (fun x w4 K _ hs4 hx hK=>back ⟨hk3.le⟩ hs4 hx fun w' σ' hk=>hK _ hk.bel) fun w4 hb=>?_
  (try simp only[↓M2,M2,Mb,reduceIte])
  exact h _ _ ((hS2.trans hk3).trans (Stp.of_below hk3.sat hb)))
end Go.Proofs.YtjdiakhipmggjaaGreatDoor

namespace Go.Emb
open Go.RowKit Go.Hm
variable {P : Program} {w w0 w1 w' w'' : World} {K : Value → World → Prop} {σ σ0 σ1 σ' : Q6}
theorem Sl.at {α:Type} {R:Q6→α→List Value→Prop} {sz:Nat} {v:Value} {xs:List α} (h:Sl sz R σ v xs) {i:Nat} (j:i<xs.length):
 ∃p cs,Z4 σ p cs∧cs.length=sz∧R σ xs[i] cs∧ ∀{P:Program} {t e:TypeId} {c:Nat} {z:Value} {w:World} {K:Value→World→Prop} [TS P t e] [TZ P e sz c z],K (.pointer (some p)) w→indexAddr P t v (I i) w K:=by
 obtain ⟨a,k,rfl,q,r,g,f⟩:=h
 cases a with
 | none=>have:=g rfl;omega
 | some b=>
  obtain ⟨cs,m,d,o⟩:=(f b rfl).2 i xs[i] (by simp[j])
  refine ⟨_,cs,m,d,o,?_⟩
  intro P t e c z w K _ _ n
  rw[Sh (by omega) (by omega)]
  simpa using n
abbrev ints (xs:List Nat):List Int:=xs.map fun n:Nat=>(n:Int)
theorem V6.grow {α:Type} {R:Q6→α→List Value→Prop} [hr:Rep R] {B sz:Nat} {e:TypeId} {v:Value} {xs:List α} (h:V6 B e sz R σ w v xs) (b:SLe σ σ') (c: ∀k,v.ownBlock=some k→σ' k=none):V6 B e sz R σ' w v xs:=by
 obtain ⟨cells,f,g,d⟩:=h
 exact ⟨cells,f,c,fun i x a=>hr.up b.le (d i x a)⟩
end Go.Emb
namespace Go.Proofs.YtjdiakhipmggjaaGreatDoor
open Go.Emb Go.RowKit Go.Kd Go.Hm
variable {w : World} {K : Value → World → Prop} {σ : Q6} {v : Value} {l : List Cla}
theorem Q7b {B i:Nat} {xs:List Nat} {x:Value} (o:J8 B T.e 1 Wv σ w x (ints xs)) (h:K (.bool (decide (i∈xs))) w):Q1 P F.aH [x,I i] w K:=Eu (by
 unfold Yg
 have j:xs.length≤9223372036854775807:=by
  obtain ⟨a,s,_,m,q,_⟩:=o
  simp only[maxLen,ints,List.length_map] at q m;omega
 refine Sd ?_
 unfold Un
 refine Q1o o ?_
 have k:(ints xs).length=xs.length:=by simp
 refine U3 xs.length (fun n w'=>w'=w∧i∉xs.take n) ⟨rfl,by simp⟩ fun n w' d u g=>?_
 obtain ⟨rfl,g⟩:=g
 rw[k]
 refine Z2 ?_
 refine Q7 (fun hh=>?_) (fun hh=>?_)
 ·have b:n<xs.length:=by simpa using hh
  refine Q5p o (by rw[k];exact b) fun a cs m q t=>?_
  obtain ⟨rfl,_⟩:=t
  have p:=m 0 _ rfl
  rw[add_zero] at p
  refine Qd p ?_
  simp only[List.getElem_map]
  refine P3 ?_
  refine Q7 (fun c=>?_) (fun c=>?_)
  ·have e:(i:Int)=xs[n]:=by simpa using c
   have:i=xs[n]:=by omega
   have f:decide (i∈xs)=true:=decide_eq_true (by rw[this];exact List.getElem_mem b)
   rw[f] at h
   refine P5 ?_
   rw[decide_eq_true (by omega:(0:Int)≤n)]
   exact h
  ·have e: ¬(i:Int)=xs[n]:=by simpa using c
   refine O4 ?_
   refine Y5 j b ⟨rfl,?_⟩
   rw[List.take_add_one,List.getElem?_eq_getElem b]
   simp only[Option.toList_some,List.mem_append,List.mem_singleton,not_or]
   exact ⟨g,fun r=>e (by rw[r])⟩
 ·have b: ¬n<xs.length:=by simpa using hh
  rw[List.take_of_length_le (by omega)] at g
  rw[decide_eq_false g] at h
  refine P5 ?_
  exact h)
theorem X3j {w0:World} {σ0 σb:Q6} {pf pt pw:Addr} {E frm:Nat} (ha:Jb l) (ho:T5 l) (hl:l.length≤100000) (bu: ∀c∈l,Qn c) (hf:0<frm) (ht:Tab σb v l) (a0:Z4 σb pf [I frm]) (bq:Z4 σb pt [v])
 (bh:Z4 σb pw [.func (.func F.y) #[] #[.pointer (some pf), .pointer (some ⟨E,0,none⟩), .pointer (some pt), .pointer (some pw)]]) (bz:w0.heap.size≤E):
 ∀(k:Nat) {i:Nat} {b:List Nat} {x:Value} {w1:World} {σ1:Q6} {K:Value→World→Prop},i<l.length→(i<frm∨P0 l (Y2 l i)<k)→SLe σb σ1→Stp w0 σ0 w1 σ1→Y1 σ1 w1 E [x]→V6 w0.heap.size T.e 1 Wv σ1 w1 x (ints b)→x.ownBlock≠some E→Few l b→
  (∀w2 σ2 x',SLe σ1 σ2→Stp w0 σ0 w2 σ2→Y1 σ2 w2 E [x']→V6 w0.heap.size T.e 1 Wv σ2 w2 x' (ints (Xy l frm b i))→x'.ownBlock≠some E→K (.tuple #[]) w2)→
  Z3 P (.func (.func F.y) #[] #[.pointer (some pf), .pointer (some ⟨E,0,none⟩), .pointer (some pt), .pointer (some pw)]) [I i] w1 K:=by
 obtain ⟨a,lv,r,m,rfl,t1,t2,t3,t4⟩:=ht.ex
 intro k
 induction k with
 | zero=>
  intro i b x w1 σ1 K hi hk U O hm o hx aa h
  have z:i<frm:=hk.resolve_right (by omega)
  refine Z7 (Vz ?_)
  unfold Qu
  refine X7 O.sat (a0.lift U) rfl ?_
  refine Z2 ?_
  rw[decide_eq_true (by omega:(i:Int)<frm)]
  simp only[↓M2,M2,Mb,reduceIte]
  have:Xy l frm b i=b:=Yk _ _ z
  rw[this] at h
  exact h _ _ _ (SLe.refl _) O hm o hx
 | succ k ih=>
  intro i b x w1 σ1 K hi hk U O hm o hx aa h
  refine Z7 (Vz ?_)
  unfold Qu
  refine X7 O.sat (a0.lift U) rfl ?_
  refine Z2 ?_
  have A:=Q7t ha ho hf b hi
  by_cases z:i<frm
  ·rw[decide_eq_true (by omega:(i:Int)<frm)]
   simp only[↓M2,M2,Mb,reduceIte]
   rw[if_pos z] at A
   rw[A] at h
   exact h _ _ _ (SLe.refl _) O hm o hx
  rw[if_neg z] at A
  rw[decide_eq_false (by omega: ¬(i:Int)<frm)]
  simp only[↓M2,M2,Mb,reduceIte]
  refine Q83 hm rfl ?_
  refine Q7b (J8.of_acc o) ?_
  by_cases X:i∈b
  ·rw[if_pos X] at A
   rw[A] at h
   simp only[decide_eq_true X,↓M2,M2,Mb,reduceIte]
   exact h _ _ _ (SLe.refl _) O hm o hx
  rw[if_neg X] at A
  simp only[decide_eq_false X,↓M2,M2,Mb,reduceIte]
  have cz:P0 l (Y2 l i)<k+1:=hk.resolve_left z
  have t1:=t1.lift U
  have t2:=t2.lift U
  have t3:=t3.lift U
  have N:=bq.lift U
  obtain ⟨p,cs,bd,c1,bl,ar⟩:=t2.at hi
  obtain ⟨b1,fv,mv,rfl,f1,f2,f3,f4,f5⟩:=bl
  have a8:l.getD i Cla.zero=l[i]:=by rw[List.getD_eq_getElem?_getD,List.getElem?_eq_getElem hi];rfl
  have cp:=hm.lt
  refine U2 O.sat ?_
  refine X4 (.pointer (some a)) (fun w f=>X7 f.sat N rfl (X6 rfl)) ?_
  refine X4 (.pointer (some a)) (fun t w f e=>by rw[e,L9];exact X6 rfl) ?_
  refine X4 (.pointer (some (a.add 0))) (fun t w f e=>by rw[e,fa];exact X6 rfl) ?_
  refine X4 lv (fun t w f e=>by rw[e];exact ld f.sat t1 rfl (X6 rfl)) ?_
  refine X4 (.pointer (some p)) (fun t w f e=>by rw[e];exact ar (X6 rfl)) ?_
  refine X4 (.pointer (some (p.add 1))) (fun t w f e=>by rw[e,fa];exact X6 rfl) ?_
  refine X4 (S l[i].super) (fun t w f e=>by rw[e];exact ld f.sat bd rfl (X6 rfl)) ?_
  refine E5 (fun u w=>X2 w σ1∧V6 w0.heap.size T.c 1 U6 σ1 w u [l[i].super]∧ ∀k,u.ownBlock=some k→w1.heap.size≤k) (fun u w2 w3 h f=>⟨h.1.below f,h.2.1.up (Stp.of_below h.1 f),h.2.2⟩) (fun t w f e=>?_) ?_
  ·rw[e]
   refine Zc (R:=U6) (sz:=1) (xs:=[l[i].super]) (O.trans f.stp) [S l[i].super] rfl rfl (by simp;rfl) rfl ⟨⟨rfl,f5⟩,trivial⟩ fun u w2 aw hu bn=>?_
   exact ⟨aw.bel,aw.sat,hu,fun k hk=>Nat.le_trans f.stp.bel.size (bn k hk)⟩
  refine X4 (.pointer (some a)) (fun w f=>X7 f.sat N rfl (X6 rfl)) ?_
  refine X4 (.pointer (some a)) (fun t w f e=>by rw[e,L9];exact X6 rfl) ?_
  refine X4 (.pointer (some (a.add 0))) (fun t w f e=>by rw[e,fa];exact X6 rfl) ?_
  refine X4 lv (fun t w f e=>by rw[e];exact ld f.sat t1 rfl (X6 rfl)) ?_
  refine X4 (.pointer (some p)) (fun t w f e=>by rw[e];exact ar (X6 rfl)) ?_
  refine X4 (.pointer (some (p.add 2))) (fun t w f e=>by rw[e,fa];exact X6 rfl) ?_
  refine X4 b1 (fun t w f e=>by rw[e];exact ld f.sat bd rfl (X6 rfl)) ?_
  rintro dd dm cl cm c0 c8 dn ck di co da dj cr cv db w2 Q _ _ _ _ _ _ _ ⟨dh,bg,H⟩ _ _ _ _ _ _ b7
  subst b7
  have bs:=O.trans Q.stp
  have bi:=(bu _ (List.getElem_mem hi)).1
  have a9: ∀j,x.ownBlock=some j→j<w1.heap.size:=fun j C=>(o.mem j C).2.1
  have bx:=hm.step Q.stp
  have ae:=o.step Q.stp
  refine Wh bs bg f1 rfl (by simp only[List.length_cons,List.length_nil];omega) (by simp only[List.length_cons,List.length_nil];omega) fun ax w3 a5 b8 bk bc=>?_
  have ab: ∀j,ax.ownBlock=some j→w1.heap.size≤j:=fun j C=>by
   rcases bc with e | e
   ·exact H j (e▸C)
   ·exact Nat.le_trans Q.stp.bel.size (e j C)
  have av:=bx.nx a5 fun e=>by have:=H _ e;omega
  have L:=ae.nx a5 fun j C e=>by have:=H _ e;have:=a9 j C;omega
  obtain ⟨σ4,ca,V,a6,Z⟩:=bk.keep b8
  have V:Sl 1 U6 σ4 ax (U4 l[i]):=V
  have b0:Y1 σ4 w3 E [x]:=⟨(Z E fun e=>by have:=ab E e.symm;omega).trans av.1,av.2⟩
  have ai:V6 w0.heap.size T.e 1 Wv σ4 w3 x (ints b):=L.grow ⟨a6⟩ fun j C=>(Z j fun e=>by have:=ab j e.symm;have:=a9 j C;omega).trans (L.mem j C).2.2
  have ba:SLe σ1 σ4:=⟨a6⟩
  refine Q8 V ?_
  refine U3 (U4 l[i]).length (fun n w'=> ∃σ' x',SLe σ4 σ'∧Stp w0 σ0 w' σ'∧Y1 σ' w' E [x']∧V6 w0.heap.size T.e 1 Wv σ' w' x' (ints (((U4 l[i]).take n).foldl (fun b u=>Xy l frm b ((Z1 l u).getD 0)) b))∧x'.ownBlock≠some E∧Few l (((U4 l[i]).take n).foldl (fun b u=>Xy l frm b ((Z1 l u).getD 0)) b))
   ⟨σ4,x,SLe.refl _,ca,b0,ai,hx,aa⟩ fun n w5 d hn a7=>?_
  obtain ⟨σ5,x5,al,Y,W,B,ag,s⟩:=a7
  refine Z2 ?_
  have y:=ba.more al
  refine Q7 (fun hh=>?_) (fun hh=>?_)
  ·have J:n<(U4 l[i]).length:=by simpa using hh
   refine Q5w (V.lift al) J fun q hq dg=>?_
   refine X7 Y.sat hq rfl ?_
   have e1:((U4 l[i]).take (n+1)).foldl (fun b u=>Xy l frm b ((Z1 l u).getD 0)) b=Xy l frm (((U4 l[i]).take n).foldl (fun b u=>Xy l frm b ((Z1 l u).getD 0)) b) ((Z1 l (U4 l[i])[n]).getD 0):=by
    rw[List.take_add_one,List.getElem?_eq_getElem J,List.foldl_append];rfl
   refine U2 Y.sat ?_
   refine X4 _ (fun w f=>X7 f.sat (bh.lift (U.more y)) rfl (X6 rfl)) ?_
   refine X4 (.pointer (some a)) (fun w f=>X7 f.sat (N.lift y) rfl (X6 rfl)) ?_
   refine X4 (.pointer (some a)) (fun t w f e=>by rw[e,L9];exact X6 rfl) ?_
   refine X4 (.pointer (some (a.add 1))) (fun t w f e=>by rw[e,fa];exact X6 rfl) ?_
   refine X4 (.map (some r)) (fun t w f e=>by rw[e];exact ld f.sat (t1.lift y) rfl (X6 rfl)) ?_
   refine X4 (I ((Z1 l (U4 l[i])[n]).getD 0:Nat)) (fun t w f e=>by
    rw[e,Q4I X8 ((t3.lift y).is f.sat) _,t4]
    cases Z1 l (U4 l[i])[n]<;>exact X6 rfl) ?_
   rintro cq cj cx cw ci c7 w6 ad rfl _ _ _ _ rfl
   have dl:l.length≤9223372036854775807:=by omega
   refine ih ?_ ?_ (U.more y) (Y.trans ad.stp) (W.step ad.stp) (B.step ad.stp) ag s fun w7 σ7 x7 bw b6 b4 af b5=>?_
   ·cases C:Z1 l (U4 l[i])[n] with
    | none=>simp only[Option.getD_none];omega
    | some j=>exact (S5 C).1
   ·cases C:Z1 l (U4 l[i])[n] with
    | none=>exact .inl hf
    | some j=>
     right
     have:=Q1I ha ho hi (u:=(U4 l[i])[n]) (by rw[a8];exact List.getElem_mem J) C
     simp only[Option.getD_some];omega
   ·refine O4 ?_
    refine Y5 (by have:(U4 l[i]).length=l[i].like.length+1:=rfl;omega) J ⟨σ7,x7,al.more bw,b6,b4,?_,b5,?_⟩
    ·rw[e1];exact af
    ·rw[e1]
     cases C:Z1 l (U4 l[i])[n] with
     | none=>simp only[Option.getD_none];rw[show Xy l frm _ 0=_ from Yk _ _ hf];exact s
     | some j=>exact Ka ha ho hf _ _ _ (S5 C).1 s
  ·have J: ¬n<(U4 l[i]).length:=by simpa using hh
   rw[List.take_of_length_le (by omega)] at B s
   rw[a8] at A
   refine Q83 W rfl ?_
   have c9:=s.len
   refine Ug (x:=(i:Int)) Y B ⟨rfl,by omega,by omega⟩ rfl rfl rfl (by rw[List.length_map];omega) (by rw[List.length_map];omega) fun u x8 w8 σ8 aq bp M bb=>?_
   have a4:=W.nx aq ag
   have az:x8.ownBlock≠some E:=fun e=>by
    rcases bb with e2 | e2
    ·exact ag (e2▸e)
    ·have:=e2 E e;have:=W.lt;omega
   have a1:x8.cells= #[x8]∧x8.oneCell'=true:=by
    obtain ⟨cells,h1,_⟩:=M
    rcases h1.2 with ⟨rfl,_⟩ | ⟨g,c4,cu,rfl,_⟩<;>exact ⟨rfl,rfl⟩
   refine st0 a4 (by simp) a1.1 a1.2 fun w9 a2 b9=>?_
   have cb:=a2.stp bp bz a4.1
   have ah:V6 w0.heap.size T.e 1 Wv σ8 w9 x8 (ints (Xy l frm b i)):=by
    rw[A]
    have:=M.kp (Kpt.of_upd (D:=fun k=>k=E) a2 rfl) fun k hk e=>az (e▸hk)
    simpa [ints] using this
   exact h w9 σ8 x8 (y.more aq.le) cb b9 ah az
theorem X2h {frm:Nat} (hs:X2 w σ) (ht:Tab σ v l) (ha:Jb l) (ho:T5 l) (hl:l.length≤100000) (Z: ∀c∈l,Qn c) (hf:0<frm) (Y:frm≤l.length) (h: ∀v' w' σ',Stp w σ w' σ'→Sl 1 Wv σ' v' (ints (V8 l frm))→(V8 l frm).length≤l.length→(∀y∈V8 l frm,y<l.length)→K v' w'):Q1 P F.bl [v,I frm] w K:=Ix (by
 unfold Mz
 have ad:=ht
 obtain ⟨a,lv,r,m,rfl,t1,t2,t3,t4⟩:=ht.ex
 refine U7 hs rfl fun pt w1 σ1 s aq=>?_
 refine U7 s.sat rfl fun pf w2 σ2 j ag=>?_
 refine M8 j.sat fun C w3 σ3 ah n L=>?_
 refine M8 n.sat fun bw w4 σ4 ap q Q=>?_
 rw[Qb]
 have W:=L.step q
 have az:=L.lt
 have V:=((s.trans j).trans n).trans q
 have U:w.heap.size≤C:=M9 ah (s.trans j)
 have A:w.heap.size≤bw:=M9 ap ((s.trans j).trans n)
 refine st0 Q (by simp[Value.cells]) rfl rfl fun w5 M al=>?_
 have am:=M.stp V A Q.1
 have z:=W.upd M (by omega)
 obtain ⟨H,J,O,o,N⟩:=al.keep am A
 have aa:Y1 H w5 C [.slice none 0 0]:=⟨(N C (by omega)).trans z.1,z.2⟩
 have o:SLe σ4 H:=⟨o⟩
 have B:=((ag.up n).up q).lift o
 have u:=(((aq.up j).up n).up q).lift o
 have e:SLe σ H:=SLe.more ⟨V.le⟩ o
 have t1:=t1.lift e
 have t2:=t2.lift e
 refine X7 J.sat B rfl ?_
 have a9:(List.range l.length).length=l.length:=List.length_range
 have hz:([Value.nilFunc].set 0 (Value.func (Fn.func F.y) #[] #[.pointer (some pf), .pointer (some ⟨C,0,none⟩), .pointer (some pt), .pointer (some ⟨bw,0,none⟩)]))=[Value.func (Fn.func F.y) #[] #[.pointer (some pf), .pointer (some ⟨C,0,none⟩), .pointer (some pt), .pointer (some ⟨bw,0,none⟩)]]:=rfl
 refine Ke (fun d x w'=> ∃(i:Nat) (σ':Q6) (x':Value),x=I i∧frm≤i∧i≤l.length∧d=l.length-i∧SLe H σ'∧Stp w σ w' σ'∧Y1 σ' w' C [x']∧V6 w.heap.size T.e 1 Wv σ' w' x' (ints (((List.range i).drop frm).foldl (fun f i=>Xy l frm f i) []))∧x'.ownBlock≠some C∧Few l (((List.range i).drop frm).foldl (fun f i=>Xy l frm f i) [])) _
  ⟨frm,H, .slice none 0 0,rfl,Nat.le_refl _,Y,rfl,SLe.refl _,J,aa,by rw[List.drop_eq_nil_of_le (by simp)];exact V6.nil,by simp[Value.ownBlock],by rw[List.drop_eq_nil_of_le (by simp)];exact ⟨by simp,by simp⟩⟩ ?_
 rintro ai d x dd w7 ⟨i,σ7,x7,rfl,a5,a6,rfl,g,p,R,k,ak,b⟩ af
 refine X7 p.sat (u.lift g) rfl ?_
 rw[L9,fa]
 refine ld p.sat (t1.lift g) rfl ?_
 refine Q8 (t2.lift g) ?_
 refine Z2 ?_
 refine Q7 (fun hh=>?_) (fun hh=>?_)
 ·have t:i<l.length:=by simpa using hh
  refine X7 p.sat (O.lift g) rfl ?_
  refine X3j (w0:=w) (σ0:=σ) (σb:=H) ha ho hl Z hf (ad.lift e) B u O U (P0 l (Y2 l i)+1) t (.inr (Nat.lt_succ_self _)) g p R k ak b fun w8 σ8 x8 aj D X E ab=>?_
  refine Xp ⟨by omega,by omega⟩ ?_
  have e1:((List.range (i+1)).drop frm).foldl (fun f i=>Xy l frm f i) []=Xy l frm (((List.range i).drop frm).foldl (fun f i=>Xy l frm f i) []) i:=by
   rw[List.range_succ,List.drop_append_of_le_length (by simp;omega),List.foldl_append];rfl
  refine af _ _ _ (by omega:l.length-(i+1)<l.length-i) ⟨i+1,σ8,x8,by simp,by omega,by omega,rfl,g.more aj,D,X,?_,ab,?_⟩
  ·rw[e1];exact E
  ·rw[e1];exact Ka ha ho hf _ _ _ t b
 ·have t:i=l.length:=by
   have: ¬i<l.length:=by simpa using hh
   omega
  subst t
  refine Q83 R rfl ?_
  obtain ⟨σ8,D,an,_,_⟩:=k.keep p
  exact h _ _ _ D an b.len b.2)
end Go.Proofs.YtjdiakhipmggjaaGreatDoor

namespace Go.Hm
open Go.Kd
theorem Q78 (x:X0) (r:List X0):H8 (x::r)=x++Lib.joinTail [44] r:=by
 induction r generalizing x with
 | nil=>simp[H8,Lib.joinTail]
 | cons y r a=>
  simp only[H8]
  rw[a y]
  simp[Lib.joinTail]
theorem Q2j (xs:List X0):Lib.join xs [44]=H8 xs:=by
 cases xs with
 | nil=>rfl
 | cons x r=>rw[Lib.join_cons,Q78]
theorem Rc: ∀xs:List X0,(∀x∈xs,x.length≤100)→(H8 xs).length≤xs.length*101
 | [],_=>by simp[H8]
 | [a],h=>by have:=h a (by simp);simp[H8];omega
 | a::b::r,h=>by
  have e:=h a (by simp)
  have d:=Rc (b::r) fun x c=>h x (by simp[c])
  simp only[H8,List.length_append,List.length_cons,List.length_nil,Nat.add_mul] at*
  omega
def NmM (m:Hm.Met):Prop:=m.result.length≤100∧ ∀p∈m.params,p.length≤100
end Go.Hm
namespace Go.Proofs.YtjdiakhipmggjaaGreatDoor
open Go.Emb Go.RowKit Go.Kd Go.Hm
variable {w : World} {K : Value → World → Prop} {σ : Q6} {v : Value} {l : List Cla}
theorem X2o {xs:List X0} {pv:Value} (J:X2 w σ) (A:Sl 1 U6 σ pv xs) (C:xs.length≤1000000) (M: ∀x∈xs,x.length≤100) (h: ∀w',Below w.heap.size w w'→K (S (H8 xs)) w'):Q1 P F.cN [pv,S [44]] w K:=by
 obtain ⟨a,k,rfl,H,R,D,B⟩:=A
 have p:=Rc xs M
 have z:xs.length*101≤1000000*101:=Nat.mul_le_mul_right _ C
 cases a with
 | none=>
  have U:=D rfl
  have d:xs=[]:=List.eq_nil_of_length_eq_zero (by omega)
  subst d
  refine Wo (fn:=Tryz.f143) Tryz.func143 (by kernel_rfl) (by kernel_rfl) (Calls.mono (Tryz.strings_Join_none none k ⟨[44].toArray⟩ w) ?_)
  rintro e w' ⟨rfl,rfl⟩
  exact h _ (Below.refl _ _)
 | some b=>
  obtain ⟨f,q⟩:=B b rfl
  by_cases d:xs=[]
  ·subst d
   refine Wo (fn:=Tryz.f143) Tryz.func143 (by kernel_rfl) (by kernel_rfl) (Calls.mono (Tryz.strings_Join_none (some b) k ⟨[44].toArray⟩ w) ?_)
   rintro e w' ⟨rfl,rfl⟩
   exact h _ (Below.refl _ _)
  have f:=f (List.length_pos_iff.2 d)
  obtain ⟨n,o,Q⟩:=b
  simp only at f
  subst f
  have c: ∀(j:Nat) (x:ByteArray),(xs.map fun s=>(⟨s.toArray⟩:ByteArray))[j]? =some x→w.cell? ⟨n,o+j,none⟩=some (.string x):=by
   intro j x m
   rw[List.getElem?_map] at m
   cases g:xs[j]? with
   | none=>rw[g] at m;cases m
   | some s=>
    rw[g] at m
    cases m
    obtain ⟨cs,L,O,N⟩:=q j s g
    obtain ⟨rfl,_⟩:=N
    have:=L.cell J (i:=0) (v:=S s) rfl
    rw[add_zero] at this
    have e:(⟨n,o,none⟩:Addr).add (j*1)=⟨n,o+j,none⟩:=by unfold Addr.add;split<;>simp_all
    rw[e] at this;exact this
  have t:n<w.heap.size:=by
   obtain ⟨x,r,rfl⟩: ∃x r,xs=x::r:=by cases xs with | nil=>exact absurd rfl d | cons x r=>exact ⟨x,r,rfl⟩
   have:=c 0 ⟨x.toArray⟩ (by simp)
   exact World.block_lt_of_cell? _ _ this
  have y:(xs.map fun s=>(⟨s.toArray⟩:ByteArray)).map (·.data.toList)=xs:=by rw[List.map_map];simp[Function.comp_def]
  have u:=Tryz.strings_Join n o k (xs.map fun s=>(⟨s.toArray⟩:ByteArray)) ⟨[44].toArray⟩ w c t (by rw[List.length_map];omega) (by rw[List.length_map];exact H) (by rw[y];show (Lib.join xs [44]).length≤_;rw[Q2j];omega)
  rw[y,List.length_map] at u
  refine Wo (fn:=Tryz.f143) Tryz.func143 (by kernel_rfl) (by kernel_rfl) (Calls.mono u ?_)
  rintro e w' ⟨rfl,E⟩
  have:=h w' E
  rw[←Q2j] at this
  exact this
theorem X0g {m:Hm.Met} {cs:List Value} (q:X2 w σ) (n:E4 σ m cs) (d:SmM m) (i:NmM m) (h: ∀w' o,Stp w σ w' o→K (S (Qw m)) w'):Q1 P F.cf [.agg cs.toArray] w K:=Q5v (by
 obtain ⟨pv,C,y,rfl,r,s,N,J,z,u⟩:=n
 unfold Q0j
 refine Y9 q fun a w1 σ1 c k=>?_
 have p:=Rc m.params i.2
 have j:m.params.length*101≤1000000*101:=Nat.mul_le_mul_right _ d.1
 refine U2 c.sat ?_
 refine X4 (.pointer (some (a.add 1))) (fun w b=>by rw[fa];exact X6 rfl) ?_
 refine X4 (.pointer (some (a.add 2))) (fun w b=>by rw[fa];exact X6 rfl) ?_
 refine X4 pv (fun t w b e=>by rw[e];exact ld b.sat k rfl (X6 rfl)) ?_
 refine X4 (S (H8 m.params)) (fun t w b e=>by rw[e];exact X2o b.sat (r.up c) d.1 i.2 fun w' f=>Q3d f rfl) ?_
 refine X4 (S ([40]++H8 m.params)) (fun t w b e=>by rw[e];exact Rk (by simp only[List.length_cons,List.length_nil];omega) (X6 rfl)) ?_
 refine X4 (S ([40]++H8 m.params++[41])) (fun t w b e=>by rw[e];exact Rk (by simp only[List.length_append,List.length_cons,List.length_nil];omega) (X6 rfl)) ?_
 refine X4 (S m.result) (fun t w b e=>by rw[e];exact ld b.sat k rfl (X6 rfl)) ?_
 rintro A O B L E H D M g _ _ _ _ _ rfl rfl
 have:=i.1
 refine Rk (by simp only[List.length_append,List.length_cons,List.length_nil];omega) ?_
 exact h _ _ (c.trans g.stp))
end Go.Proofs.YtjdiakhipmggjaaGreatDoor

namespace Go.Emb
open Go.RowKit Go.Hm
variable {P : Program} {w w0 w1 w' w'' : World} {K : Value → World → Prop} {σ σ0 σ1 σ' : Q6}
theorem Tk {α:Type} (f:α→α) (e:α): ∀l:List α,(l++[e]).modify l.length f=l++[f e]
 | []=>rfl
 | x::r=>by simp[Tk f e r]
theorem Q0P (k:List UInt8) (e:MapEntry) (b:e.key=S k): ∀(a:List MapEntry) (i:Nat),Instr.findNow .string (S k) a i=some none→Instr.findNow .string (S k) (a++[e]) i=some (some (i+a.length,e.val))
 | [],i,_=>by
  simp[Instr.findNow,b,Instr.sameNow,Hc]
 | x::r,i,h=>by
  simp only[Instr.findNow,List.cons_append] at h⊢
  split at h
  ·cases h
  ·rename_i c
   rw[Q0P k e b r (i+1) h]
   simp;omega
  ·cases h
theorem Q28 (k:List UInt8) (u:Value): ∀(a:List MapEntry) (i j:Nat) (v:Value),Instr.findNow .string (S k) a i=some (some (j,v))→i≤j∧j-i<a.length∧Instr.findNow .string (S k) (a.modify (j-i) fun e=>{e with val:=u}) i=some (some (j,u))
 | [],i,j,v,h=>by simp[Instr.findNow] at h
 | x::r,i,j,v,h=>by
  simp only[Instr.findNow] at h
  split at h
  ·rename_i b
   cases h
   refine ⟨Nat.le_refl _,by simp,?_⟩
   simp only[Nat.sub_self,List.modify_zero_cons,Instr.findNow,b]
  ·rename_i b
   obtain ⟨f,d,c⟩:=Q28 k u r (i+1) j v h
   refine ⟨by omega,by simp;omega,?_⟩
   rw[show j-i=(j-(i+1))+1 by omega]
   simp only[List.modify_succ_cons,Instr.findNow,b]
   exact c
  ·cases h
theorem Vi {t n q:TypeId} [tm:TM P t n q] (m:P.underlying n=some .string) {r:Nat} {b:Array MapEntry} {a:Nat} {k:List UInt8} {i:Nat} {v:Value} {e:MapEntry} (p:w.heap[r]? =some (.map b a))
 (s:Instr.findNow .string (S k) b.toList 0=some (some (i,v))) (o:b[i]? =some e) (g:e.key=S k):
 (Instr.mapEntry t (.map (some r)) (S k)).run P w= .ok (.tuple #[v,goInt e.born]) {w with heap:=w.heap.setIfInBounds r (.map b a)}:=by
 have u:(getObj r).run P w= .ok (.map b a) w:=by simp[getObj,Sem.run,p]
 have c:(Instr.keyThatStays (S k) (S k)).run P w= .ok (S k) w:=by
  simp[Instr.keyThatStays,Instr.sameBits,Hc]
 have l:(b.modify i fun e=>{e with key:=S k})=b:=by
  apply Array.ext'
  apply List.ext_getElem?
  intro j
  simp only[Array.toList_modify,List.getElem?_modify]
  by_cases f:i=j
  ·subst f
   rw[Array.getElem?_toList,o]
   simp[←g]
  ·cases b.toList[j]? <;>simp[f]
 have d:(setObj r (.map b a)).run P w= .ok () {w with heap:=w.heap.setIfInBounds r (.map b a)}:=by
  simp[setObj,Sem.run,p]
 simp only[Instr.mapEntry,Sem.run_bind,run_underlying tm.h,Result.andThen_ok,Instr.findKey,run_underlying m,s,I6 m,u,Sem.run_pure]
 simp only[o,Option.map_some,Option.getD_some,g,c,Result.andThen_ok,l,d]
theorem Q2B {r:Nat} {o:Obj} (h:w.heap[r]? =some o):({w with heap:=w.heap.setIfInBounds r o}:World)=w:=by
 have:w.heap.setIfInBounds r o=w.heap:=by
  apply Array.ext'
  apply List.ext_getElem?
  intro j
  simp only[Array.toList_setIfInBounds,List.getElem?_set]
  by_cases a:r=j
  ·subst a
   rw[if_pos rfl]
   have:=h
   rw[←Array.getElem?_toList] at this
   rw[this,if_pos (by have:=(Array.getElem?_eq_some_iff.1 h).1;simpa using this)]
  ·rw[if_neg a]
 rw[this]
theorem Q3J {r:Nat} {o a:Obj} (h:w.heap[r]? =some a):Upd w r {w with heap:=w.heap.setIfInBounds r o}∧({w with heap:=w.heap.setIfInBounds r o}:World).heap[r]? =some o:=by
 have b:=(Array.getElem?_eq_some_iff.1 h).1
 exact ⟨⟨rfl,rfl,rfl,by simp,fun k c=>by simp only[Array.getElem?_setIfInBounds];rw[if_neg (by omega)]⟩,by simp[Array.getElem?_setIfInBounds,b]⟩
structure Ent3 (P : Program) (t : TypeId) (r : Nat) (k : List UInt8) (u : Value) (m : List (List UInt8 × Value)) (O0 O1 O2 : Obj) (stamp : Nat) : Prop where
  same : O0 = O2 → O1 = O0
  put : H0 (some O2) (Wq m k u)
  entry : ∀ {w : World} {K : Value → World → Prop}, (w.heap[r]? = some O0 ∨ w.heap[r]? = some O1 ∨ w.heap[r]? = some O2) → (∀ x w', Upd w r w' → (w.heap[r]? = some O0 → w'.heap[r]? = some O1) → (w.heap[r]? ≠ some O0 → w'.heap[r]? = w.heap[r]?) → K (.tuple #[x, I stamp]) w') → mapEntry P t (.map (some r)) (S k) w K
  store : ∀ {w : World} {K : Value → World → Prop}, (w.heap[r]? = some O1 ∨ w.heap[r]? = some O2) → (∀ w', Upd w r w' → w'.heap[r]? = some O2 → K undef w') → entryStore P t (.map (some r)) (I stamp) u w K
theorem X4q {t kt et:TypeId} {al:Nat} {z:Value} [tm:TM P t kt et] [tz:TZ P et 1 al z] (V:P.underlying kt=some .string) {r:Nat} {m:List (List UInt8×Value)} (hm:H0 (w.heap[r]?) m) (k:List UInt8) (u:Value):
 ∃R O1 O2 A,w.heap[r]? =some R∧Ent3 P t r k u m R O1 O2 A:=by
 obtain ⟨q,g,h1,h2,h3,Z⟩:=hm
 obtain ⟨r',q1,q2,q3,q4⟩:=Bk k q.toList m 0 h2
 -- the array behind it, the place, the stamp
 have U: ∀(f:Array MapEntry) (d i:Nat) (s:MapEntry) (v1:Value),Instr.findNow .string (S k) f.toList 0=some (some (i,v1))→f[i]? =some s→s.key=S k→(f.toList.map (·.born)).Pairwise (· < ·)→
  (Obj.map q g= .map (f.modify i fun e=>{e with val:=u}) d→Obj.map f d=Obj.map q g)→H0 (some (.map (f.modify i fun e=>{e with val:=u}) d)) (Wq m k u)→
  (∀{w:World},w.heap[r]? =some (.map q g)→ ∃x,(Instr.mapEntry t (.map (some r)) (S k)).run P w= .ok (.tuple #[x,I s.born]) {w with heap:=w.heap.setIfInBounds r (.map f d)})→
  ∃R O1 O2 A,w.heap[r]? =some R∧Ent3 P t r k u m R O1 O2 A:=by
  intro f d i s v1 f1 f2 f3 f4 f5 f6 f7
  obtain ⟨_,H,f8⟩:=Q28 k u f.toList 0 i v1 f1
  simp only[Nat.sub_zero] at H f8
  have ay:i<f.size:=by simpa using H
  have f9:(f.modify i fun e=>{e with val:=u})[i]? =some {s with val:=u}:=by
   rw[Array.getElem?_modify,if_pos rfl,f2];rfl
  have av:Instr.findNow .string (S k) (f.modify i fun e=>{e with val:=u}).toList 0=some (some (i,u)):=by
   rw[Array.toList_modify];exact f8
  have L: ∀(l:Array MapEntry),l.toList.map (·.born)=f.toList.map (·.born)→l.findIdx? (fun e=>(e.born:Int)==s.born)=some i:=by
   intro l D
   obtain ⟨le⟩:=l
   have e0:(Array.mk le).findIdx? (fun e=>(e.born:Int)==s.born)=le.findIdx? (fun e=>(e.born:Int)==s.born):=List.findIdx?_toArray ..
   rw[e0,List.findIdx?_eq_some_iff_getElem]
   generalize X:(Array.mk le)=l at*
   have ae:le=l.toList:=by rw[←X]
   subst ae
   have a2:l.toList.length=f.toList.length:=by have:=congrArg List.length D;simpa using this
   have W: ∀j (Y:j<l.toList.length),(l.toList[j]).born=(f.toList[j]'(by omega)).born:=fun j Y=>by
    have h5:(l.toList.map (·.born))[j]? =(f.toList.map (·.born))[j]? :=by rw[D]
    rw[List.getElem?_map,List.getElem?_map,List.getElem?_eq_getElem Y,List.getElem?_eq_getElem (by omega)] at h5
    simpa using h5
   have Q:f.toList[i]=s:=by
    have:=f2
    rw[←Array.getElem?_toList,List.getElem?_eq_getElem H] at this
    simpa using this
   refine ⟨by omega,by rw[W i (by omega),Q];simp,fun j Y=>?_⟩
   have ap:j<f.toList.length:=by omega
   have:=(List.pairwise_iff_getElem.1 f4) j i (by simpa using ap) (by simpa using H) Y
   simp only[List.getElem_map] at this
   rw[W j (by omega)]
   rw[Q] at this
   simp only[beq_iff_eq];omega
  have J:(f.modify i fun e=>{e with val:=u}).toList.map (·.born)=f.toList.map (·.born):=by
   apply List.ext_getElem?
   intro j
   simp only[Array.toList_modify,List.getElem?_map,List.getElem?_modify]
   by_cases M:i=j<;>cases f.toList[j]? <;>simp[M]
  have ai:(f.modify i fun e=>{e with val:=u}).modify i (fun e=>{e with val:=u})=f.modify i fun e=>{e with val:=u}:=by
   apply Array.ext'
   apply List.ext_getElem?
   intro j
   simp only[Array.toList_modify,List.getElem?_modify]
   by_cases M:i=j<;>cases f.toList[j]? <;>simp[M]
  have B: ∀(l:Array MapEntry) {w:World},l.toList.map (·.born)=f.toList.map (·.born)→w.heap[r]? =some (.map l d)→(Instr.entryStore t (.map (some r)) (I s.born) u).run P w= .ok () {w with heap:=w.heap.setIfInBounds r (.map (l.modify i fun e=>{e with val:=u}) d)}:=by
   intro l w D hw
   have hg:(getObj r).run P w= .ok (.map l d) w:=by simp[getObj,Sem.run,hw]
   have E: ∀o,(setObj r (.map o d)).run P w= .ok () {w with heap:=w.heap.setIfInBounds r (.map o d)}:=by
    intro o;simp[setObj,Sem.run,hw]
   simp only[Instr.entryStore,Sem.run_bind,hg,Result.andThen_ok,asInt,Sem.run_pure,asIntOf,L l D,E]
  refine ⟨.map q g, .map f d, .map (f.modify i fun e=>{e with val:=u}) d,s.born,h1,f5,f6,?_,?_⟩
  ·intro w K hw N
   unfold mapEntry
   rcases hw with hw | hw | hw
   ·obtain ⟨x,hx⟩:=f7 hw
    rw[X9 hx]
    obtain ⟨u1,u2⟩:=Q3J (o:= .map f d) hw
    exact N x _ u1 (fun _=>u2) fun h=>absurd hw h
   ·have:=Vi (P:=P) (t:=t) V hw f1 f2 f3
    rw[Q2B hw] at this
    rw[X9 this]
    refine N _ w ⟨rfl,rfl,rfl,rfl,fun _ _=>rfl⟩ (fun h0=>?_) fun _=>rfl
    exact hw
   ·have:=Vi (P:=P) (t:=t) V hw av f9 f3
    rw[Q2B hw] at this
    rw[X9 this]
    refine N _ w ⟨rfl,rfl,rfl,rfl,fun _ _=>rfl⟩ (fun h0=>?_) fun _=>rfl
    rw[h0] at hw
    cases hw
    rw[h0,f5 rfl]
  ·intro w K hw N
   unfold entryStore
   rcases hw with hw | hw
   ·rw[Lh (B f rfl hw)]
    obtain ⟨u1,u2⟩:=Q3J (o:= .map (f.modify i fun e=>{e with val:=u}) d) hw
    exact N _ u1 u2
   ·have:=B _ J hw
    rw[ai,Q2B hw] at this
    rw[Lh this]
    exact N _ ⟨rfl,rfl,rfl,rfl,fun _ _=>rfl⟩ hw
 cases r' with
 | none=>
  obtain ⟨i,hi,bl,bg,ao⟩:=tz.info
  have hz: ∀w:World,(zeroValue et).run P w= .ok z w:=fun w=>Zl tz w
  refine U (q.push {key:=S k,val:=z,born:=g}) (g+1) q.size {key:=S k,val:=z,born:=g} z ?_ (by simp) rfl ?_ ?_ ?_ ?_
  ·have:=Q0P k {key:=S k,val:=z,born:=g} rfl q.toList 0 q1
   simpa using this
  ·simp only[Array.toList_push,List.map_append,List.map_cons,List.map_nil]
   rw[List.pairwise_append]
   refine ⟨h3,by simp,?_⟩
   intro a ha b D
   simp at D;subst D
   obtain ⟨e,he,rfl⟩:=List.mem_map.1 ha
   exact Z e he
  ·intro e
   injection e with s e2
   omega
  ·refine ⟨_,_,rfl,?_,?_,?_⟩
   ·rw[q4 rfl]
    simp only[Array.toList_modify,Array.toList_push]
    rw[←Array.length_toList,Tk]
    simp[h2]
   ·have:((q.push {key:=S k,val:=z,born:=g}).modify q.size fun e=>{e with val:=u}).toList.map (·.born)=q.toList.map (·.born)++[g]:=by
     simp only[Array.toList_modify,Array.toList_push]
     rw[←Array.length_toList,Tk]
     simp
    rw[this,List.pairwise_append]
    refine ⟨h3,by simp,?_⟩
    intro a ha b D
    simp at D;subst D
    obtain ⟨e,he,rfl⟩:=List.mem_map.1 ha
    exact Z e he
   ·intro e he
    simp only[Array.toList_modify,Array.toList_push] at he
    rw[←Array.length_toList,Tk] at he
    rcases List.mem_append.1 he with he | he
    ·have:=Z e he;omega
    ·simp at he;subst he;simp
  ·intro w hw
   have hg:(getObj r).run P w= .ok (.map q g) w:=by simp[getObj,Sem.run,hw]
   have E: ∀o c,(setObj r (.map o c)).run P w= .ok () {w with heap:=w.heap.setIfInBounds r (.map o c)}:=by
    intro o c;simp[setObj,Sem.run,hw]
   refine ⟨z,?_⟩
   simp only[Instr.mapEntry,Sem.run_bind,run_underlying tm.h,Result.andThen_ok,Instr.findKey,run_underlying V,q1,I6 V,hg,Sem.run_pure,hz,E]
   rfl
 | some p=>
  obtain ⟨j,v⟩:=p
  obtain ⟨z1,z2,z3⟩:=q3 j v rfl
  obtain ⟨e,s,e2⟩:=z2
  simp only[Nat.sub_zero] at s z3
  have O:q[j]? =some e:=by rw[←Array.getElem?_toList];exact s
  refine U q g j e v q1 O e2 h3 (fun _=>rfl) ?_ fun hw=>⟨v,Vi V hw q1 O e2⟩
  refine ⟨_,_,rfl,?_,?_,?_⟩
  ·have:=z3 u
   rw[←this,Array.toList_modify]
   congr 1
   apply List.ext_getElem?
   intro n
   simp only[List.getElem?_modify]
   by_cases C:j=n
   ·subst C;rw[s];simp[e2]
   ·simp[C]
  ·have:(q.modify j fun e=>{e with val:=u}).toList.map (·.born)=q.toList.map (·.born):=by
    apply List.ext_getElem?
    intro n
    simp only[Array.toList_modify,List.getElem?_map,List.getElem?_modify]
    by_cases C:j=n<;>cases q.toList[n]? <;>simp[C]
   rw[this];exact h3
  ·intro x hx
   have:x.born∈(q.modify j fun e=>{e with val:=u}).toList.map (·.born):=List.mem_map.2 ⟨x,hx,rfl⟩
   have D:(q.modify j fun e=>{e with val:=u}).toList.map (·.born)=q.toList.map (·.born):=by
    apply List.ext_getElem?
    intro n
    simp only[Array.toList_modify,List.getElem?_map,List.getElem?_modify]
    by_cases C:j=n<;>cases q.toList[n]? <;>simp[C]
   rw[D] at this
   obtain ⟨y,hy,e⟩:=List.mem_map.1 this
   rw[←e];exact Z y hy
end Go.Emb

namespace Go.Hm
open Go.Kd Go.Emb
abbrev B4:=List (X0×X0)
def C6:B4→X0→Option X0
 | [],_=>none
 | p::r,k=>if p.1=k then some p.2 else C6 r k
def Cn:B4→X0→X0→B4
 | [],k,v=>[(k,v)]
 | p::r,k,v=>if p.1=k then (k,v)::r else p::Cn r k v
def vals (m:B4):List (List UInt8×Value):=m.map fun p=>(p.1,S p.2)
theorem Q9E (m:B4) (k:X0):C4 (vals m) k=(C6 m k).map S:=by
 induction m with
 | nil=>rfl
 | cons p r a=>
  simp only[vals,List.map_cons,C4,C6]
  split
  ·rfl
  ·exact a
theorem Q5m (m:B4) (k v:X0):Wq (vals m) k (S v)=vals (Cn m k v):=by
 induction m with
 | nil=>rfl
 | cons p r a=>
  simp only[vals,List.map_cons,Wq,Cn]
  split
  ·rfl
  ·rw[List.map_cons];congr 1
theorem Q1j (m:B4) (k v n:X0):C6 (Cn m k v) n=if k=n then some v else C6 m n:=by
 induction m with
 | nil=>simp[Cn,C6]
 | cons p r b=>
  simp only[Cn]
  by_cases h:p.1=k
  ·rw[if_pos h]
   simp only[C6]
   by_cases a:k=n
   ·simp[a]
   ·rw[if_neg a,if_neg a,if_neg (by rw[h];exact a)]
  ·rw[if_neg h]
   simp only[C6]
   by_cases a:p.1=n
   ·rw[if_pos a,if_pos a,if_neg (by intro e;exact h (a.trans e.symm))]
   ·rw[if_neg a,if_neg a];exact b
def Vh (d:X0) (s:B4×B4) (m:Hm.Met):Bool×(B4×B4):=
 ((match C6 s.1 m.name with | some x=> !decide (x=Qw m) | none=>false),(Cn s.1 m.name (Qw m),Cn s.2 m.name d))
end Go.Hm
namespace Go.Emb
open Go.RowKit Go.Hm
theorem H0.of_below {w w':World} {r:Nat} {m:List (List UInt8×Value)} (h:H0 (w.heap[r]?) m) (c:Below w.heap.size w w'):H0 (w'.heap[r]?) m:=by
 obtain ⟨d,a,b,e⟩:=h
 rw[c.block r (Array.getElem?_eq_some_iff.1 b).1]
 exact ⟨d,a,b,e⟩
theorem X01 {P:Program} {w:World} {K:Value→World→Prop} {t b c:TypeId} {sz a:Nat} {z:Value} [tm:TM P t b c] [tz:TZ P c sz a z] (d:P.underlying b=some .string) {r:Nat} {m:List (List UInt8×Value)} (f:H0 (w.heap[r]?) m) (k:List UInt8)
 (h:K (.tuple #[(C4 m k).getD z, .bool (C4 m k).isSome]) w):lookup P t (.map (some r)) (S k) true w K:=by
 rw[Q2w d f k];cases e:C4 m k<;>rw[e] at h<;>exact h
theorem H0.lt {w:World} {r:Nat} {m:List (List UInt8×Value)} (h:H0 (w.heap[r]?) m):r<w.heap.size:=by
 obtain ⟨c,a,b,d⟩:=h
 exact (Array.getElem?_eq_some_iff.1 b).1
end Go.Emb
namespace Go.Proofs.YtjdiakhipmggjaaGreatDoor
open Go.Emb Go.RowKit Go.Kd Go.Hm
variable {w : World} {K : Value → World → Prop} {σ : Q6} {v : Value} {l : List Cla}
theorem X3Q {m:Hm.Met} {cs ds:List Value} {pa pb q:Addr} {b o:Nat} {s:B4×B4} {d:X0} (hs:X2 w σ) (hm:E4 σ m cs) (R:SmM m) (hn:NmM m) (ab:Z4 σ pa [.map (some b)]) (aj:Z4 σ pb [.map (some o)]) (hq:Z4 σ q (S d::ds))
 (aq:σ b=none) (an:σ o=none) (U:b≠o) (p:H0 (w.heap[b]?) (vals s.1)) (A:H0 (w.heap[o]?) (vals s.2))
 (h: ∀w',Kpt (fun k=>k=b∨k=o) w w'→H0 (w'.heap[b]?) (vals (Vh d s m).2.1)→H0 (w'.heap[o]?) (vals (Vh d s m).2.2)→K (.bool (Vh d s m).1) w'):
 Q1 P F.aK [.agg cs.toArray, .pointer (some pa), .pointer (some q), .pointer (some pb)] w K:=Hl (by
 have W:=hm
 obtain ⟨pv,cv,hv,rfl,g1,g2,g3,g4,g5,g6⟩:=hm
 unfold Zd
 refine Y9 hs fun a w1 σ1 f ha=>?_
 have ah:=p.lt
 have ax:=A.lt
 have p:=p.of_below f.bel
 have A:=A.of_below f.bel
 have Y:σ1 b=none:=(f.old b ah).trans aq
 have J:σ1 o=none:=(f.old o ax).trans an
 refine X7 f.sat (ab.up f) rfl ?_
 rw[fa]
 refine ld f.sat ha rfl ?_
 refine X01 X8 p m.name ?_
 have ae:(.tuple #[(C4 (vals s.1) m.name).getD (.string ⟨#[]⟩), .bool (C4 (vals s.1) m.name).isSome]:Value)= .tuple #[S ((C6 s.1 m.name).getD []), .bool (C6 s.1 m.name).isSome]:=by
  rw[Q9E];cases C6 s.1 m.name<;>rfl
 rw[ae]
 refine J6 (vs:=[_,_]) rfl ?_
 refine J6 (vs:=[_,_]) rfl ?_
 obtain ⟨N,M,z,y,ai,E⟩:=X4q (P:=P) (t:=T.w) X8 p m.name (S (Qw m))
 have aa:=p.lt
 refine Im (fun c i=>Kpt (fun k=>k=b) c i∧(i.heap[b]? =c.heap[b]? ∨(c.heap[b]? =some N∧N≠z∧i.heap[b]? =some M)∨i.heap[b]? =some z))
  (fun c=>Kpt (fun k=>k=b) w1 c∧X2 c σ1∧(c.heap[b]? =some N∨c.heap[b]? =some M∨c.heap[b]? =some z))
  ⟨.of_below (Below.refl _ _).drew,f.sat.below (Below.refl _ _).drew, .inl ai⟩ (fun c i g B=>⟨g.1.trans B.1,B.1.sat g.2.1 (fun k hk=>hk▸Y),by
   rcases B.2 with e | ⟨_,_,e⟩ | e
   ·rw[e];exact g.2.2
   ·exact .inr (.inl e)
   ·exact .inr (.inr e)⟩) ?_
 refine X4 (.pointer (some (a.add 0))) (fun w g=>by rw[fa];exact ⟨⟨Kpt.refl, .inl rfl⟩,rfl⟩) ?_
 refine X4 (.pointer (some (a.add 0))) (fun w g=>by rw[fa];exact ⟨⟨Kpt.refl, .inl rfl⟩,rfl⟩) ?_
 refine X4 (.pointer (some (q.add 0))) (fun w g=>by rw[fa];exact ⟨⟨Kpt.refl, .inl rfl⟩,rfl⟩) ?_
 refine X4 (.map (some b)) (fun w g=>X7 g.2.1 (ab.up f) rfl ⟨⟨Kpt.refl, .inl rfl⟩,rfl⟩) ?_
 refine X4 (S m.name) (fun t w g e=>by rw[e];exact ld g.2.1 ha rfl ⟨⟨Kpt.refl, .inl rfl⟩,rfl⟩) ?_
 refine X4 (.map (some o)) (fun w g=>X7 g.2.1 (aj.up f) rfl ⟨⟨Kpt.refl, .inl rfl⟩,rfl⟩) ?_
 refine X4 (S m.name) (fun t w g e=>by rw[e];exact ld g.2.1 ha rfl ⟨⟨Kpt.refl, .inl rfl⟩,rfl⟩) ?_
 refine X4 (.agg [S m.name,pv,S m.result, .bool m.abs,I m.locals,cv,hv].toArray) (fun w g=>Y4 g.2.1 ha rfl ⟨⟨Kpt.refl, .inl rfl⟩,rfl⟩) ?_
 refine X4 (S (Qw m)) (fun t c g e=>by
  rw[e]
  exact X0g g.2.1 (RMe_lift W ⟨f.le⟩) R hn fun i σ3 r=>⟨⟨.of_below r.bel, .inl (r.bel.block b (Nat.lt_of_lt_of_le aa g.1.size))⟩,rfl⟩) ?_
 refine X4 (S d) (fun t w g e=>by rw[e];exact ld g.2.1 (hq.up f) rfl ⟨⟨Kpt.refl, .inl rfl⟩,rfl⟩) ?_
 have st: ∀{c i:World},(c.heap[b]? =some M∨c.heap[b]? =some z)→(i.heap[b]? =c.heap[b]? ∨(c.heap[b]? =some N∧N≠z∧i.heap[b]? =some M)∨i.heap[b]? =some z)→(i.heap[b]? =some M∨i.heap[b]? =some z):=by
  intro c i j h2
  rcases h2 with e | ⟨_,_,e⟩ | e
  ·rw[e];exact j
  ·exact .inl e
  ·exact .inr e
 refine E5 (fun u c=>(∃x,u= .tuple #[x,I y])∧(c.heap[b]? =some M∨c.heap[b]? =some z)) (fun u c i j B=>⟨j.1,st j.2 B.2⟩) (fun Z aw c g e1 e2=>?_) ?_
 ·rw[e1,e2]
  refine E.entry g.2.2 fun x i n al ag=>?_
  by_cases X:c.heap[b]? =some N
  ·have j:=al X
   refine ⟨⟨Kpt.of_upd n rfl,?_⟩,⟨x,rfl⟩, .inl j⟩
   by_cases C:N=z
   ·left;rw[j,X,E.same C]
   ·exact .inr (.inl ⟨X,C,j⟩)
  ·have j:=ag X
   refine ⟨⟨Kpt.of_upd n rfl, .inl j⟩,⟨x,rfl⟩,?_⟩
   rw[j];exact g.2.2.resolve_left X
 refine E5 (fun u c=>u=I y∧(c.heap[b]? =some M∨c.heap[b]? =some z)) (fun u c i j B=>⟨j.1,st j.2 B.2⟩) (fun t c g e=>?_) ?_
 ·obtain ⟨⟨x,rfl⟩,j⟩:=e
  exact J6 (vs:=[_,_]) rfl ⟨⟨Kpt.refl, .inl rfl⟩,rfl,j⟩
 refine E5 (fun _ c=>c.heap[b]? =some z) (fun u c i j B=>?_) (fun Z ak ay c g e1 e2 e3=>?_) ?_
 ·rcases B.2 with e | ⟨e,C,_⟩ | e
  ·exact e.trans j
  ·rw[j] at e;cases e;exact absurd rfl C
  ·exact e
 ·rw[e1,e3,e2.1]
  refine E.store e2.2 fun i n h3=>⟨⟨Kpt.of_upd n rfl, .inr (.inr h3)⟩,h3⟩
 rintro bb a8 bk Z aw a7 bi bd ay a6 bg ak bc c O _ _ _ _ _ rfl rfl _ _ rfl _ _ ar
 have ap:H0 (c.heap[b]?) (vals (Cn s.1 m.name (Qw m))):=by
  rw[ar,←Q5m];exact E.put
 have av:H0 (c.heap[o]?) (vals s.2):=by
  rw[O.1.block o A.lt fun e=>U e.symm];exact A
 refine Kb X8 ⟨J,av⟩ m.name (S d) fun i n af=>?_
 have Q:H0 (i.heap[o]?) (vals (Cn s.2 m.name d)):=by rw[←Q5m];exact af.2
 have H:H0 (i.heap[b]?) (vals (Cn s.1 m.name (Qw m))):=by rw[n.block b U];exact ap
 have r:Kpt (fun k=>k=b∨k=o) w i:=((Kpt.of_below f.bel).trans (O.1.mono fun k _ h=> .inl h)).trans (Kpt.of_upd n (.inr rfl))
 have V:X2 i σ1:=(Kpt.of_upd (D:=fun k=>k=o) n rfl).sat O.2.1 fun k hk=>hk▸J
 unfold Vh at h
 cases ho:C6 s.1 m.name with
 | none=>
  rw[ho] at h
  simp only[Option.isSome_none,↓M2,M2,Mb,reduceIte]
  exact h i r H Q
 | some x=>
  rw[ho] at h
  simp only[Option.isSome_some,Option.getD_some,↓M2,M2,Mb,reduceIte]
  refine Y4 V ha rfl ?_
  refine X0g V (RMe_lift W ⟨f.le⟩) R hn fun w4 σ4 L=>?_
  simp only[↓M2,M2,Mb,reduceIte]
  exact h w4 (r.trans (Kpt.of_below L.bel)) (H.of_below L.bel) (Q.of_below L.bel))
end Go.Proofs.YtjdiakhipmggjaaGreatDoor

namespace Go.Hm
open Go.Kd Go.Emb
def Sw (s:B4×B4) (c:Cla):Bool×(B4×B4):=((J3 (Vh c.name) s c.methods 0).1.isSome,(J3 (Vh c.name) s c.methods 0).2)
def Rj (a:List Hm.Met):Prop:= ∃x∈a,∃y∈a,x.name=y.name∧Qw x≠Qw y
theorem Q4r (a:List Hm.Met):Md a=true↔Rj a:=by
 simp[Md,Rj]
structure Gd (pre : List Hm.Met) (s : B4 × B4) : Prop where
  a : ∀ m ∈ pre, C6 s.1 m.name = some (Qw m)
  b : ∀ k x, C6 s.1 k = some x → ∃ m ∈ pre, m.name = k ∧ Qw m = x
  c : ∀ k, (C6 s.2 k).isSome = true ↔ ∃ m ∈ pre, m.name = k
theorem Gd.no {b:List Hm.Met} {s:B4×B4} (h:Gd b s): ¬Rj b:=by
 rintro ⟨x,i,y,g,f,d⟩
 have c:=h.a x i
 have e:=h.a y g
 rw[f,e] at c
 exact d (Option.some.inj c).symm
theorem Gd.step {j:List Hm.Met} {s:B4×B4} (h:Gd j s) (d:X0) (m:Hm.Met):((Vh d s m).1=true→Rj (j++[m]))∧((Vh d s m).1=false→Gd (j++[m]) (Vh d s m).2):=by
 unfold Vh
 constructor
 ·intro n
  cases o:C6 s.1 m.name with
  | none=>rw[o] at n;cases n
  | some x=>
   rw[o] at n
   obtain ⟨y,hy,f,p⟩:=h.b _ _ o
   exact ⟨y,by simp[hy],m,by simp,f,by rw[p];simpa using n⟩
 ·intro n
  have g: ∀x,C6 s.1 m.name=some x→x=Qw m:=fun x i=>by rw[i] at n;simpa using n
  refine ⟨fun y hy=>?_,fun k x i=>?_,fun k=>?_⟩
  ·simp only[Q1j]
   rcases List.mem_append.1 hy with hy | hy
   ·have:=h.a y hy
    by_cases e:m.name=y.name
    ·rw[if_pos e];congr 1;exact (g _ (by rw[e];exact this)).symm
    ·rw[if_neg e];exact this
   ·simp at hy;subst hy;simp
  ·simp only[Q1j] at i
   by_cases e:m.name=k
   ·rw[if_pos e] at i;cases i;exact ⟨m,by simp,e,rfl⟩
   ·rw[if_neg e] at i
    obtain ⟨y,hy,f⟩:=h.b _ _ i
    exact ⟨y,by simp[hy],f⟩
  ·simp only[Q1j]
   by_cases e:m.name=k
   ·rw[if_pos e];exact ⟨fun _=>⟨m,by simp,e⟩,fun _=>rfl⟩
   ·rw[if_neg e,h.c k]
    constructor
    ·rintro ⟨y,hy,f⟩;exact ⟨y,by simp[hy],f⟩
    ·rintro ⟨y,hy,f⟩
     rcases List.mem_append.1 hy with hy | hy
     ·exact ⟨y,hy,f⟩
     ·simp at hy;subst hy;exact absurd f e
theorem Rj.mono {a b:List Hm.Met} (h:Rj a) (c: ∀x∈a,x∈b):Rj b:=by
 obtain ⟨x,d,y,f,e⟩:=h
 exact ⟨x,c x d,y,c y f,e⟩
theorem Q3q (d:X0): ∀(b a:List Hm.Met) (s:B4×B4) (i:Nat),Gd a s→((J3 (Vh d) s b i).1.isSome=true→Rj (a++b))∧((J3 (Vh d) s b i).1.isSome=false→Gd (a++b) (J3 (Vh d) s b i).2)
 | [],a,s,i,h=>by simpa [J3] using h
 | m::r,a,s,i,h=>by
  obtain ⟨j,g⟩:=h.step d m
  simp only[J3]
  cases f:(Vh d s m).1 with
  | true=>
   simp only[if_true,Option.isSome_some]
   exact ⟨fun _=>(j f).mono fun x c=>by simp at c⊢;rcases c with h | h<;>simp[h],fun e=>by cases e⟩
  | false=>
   simp only[Bool.false_eq_true,if_false]
   have:=Q3q d r (a++[m]) (Vh d s m).2 (i+1) (g f)
   rw[show a++m::r=(a++[m])++r by simp]
   exact this
theorem Q3m: ∀(cs:List Cla) (a:List Hm.Met) (s:B4×B4) (i:Nat),Gd a s→((J3 Sw s cs i).1.isSome=true→Rj (a++cs.flatMap (·.methods)))∧((J3 Sw s cs i).1.isSome=false→Gd (a++cs.flatMap (·.methods)) (J3 Sw s cs i).2)
 | [],a,s,i,h=>by simpa [J3] using h
 | c::r,a,s,i,h=>by
  obtain ⟨f,d⟩:=Q3q c.name c.methods a s 0 h
  simp only[J3]
  cases b:(Sw s c).1 with
  | true=>
   simp only[if_true,Option.isSome_some]
   exact ⟨fun _=>(f b).mono (by simp;intro x hx;rcases hx with hx | hx;exact .inl hx;exact .inr (.inl hx)),fun e=>by cases e⟩
  | false=>
   simp only[Bool.false_eq_true,if_false]
   have:=Q3m r (a++c.methods) (Sw s c).2 (i+1) (d b)
   rw[List.flatMap_cons,←List.append_assoc]
   exact this
theorem X3A:Gd [] ([],[]):=⟨by simp,by simp[C6],by simp[C6]⟩
theorem Q82 (l:List Cla) (n:X0):Lf l n=(Nu l n).flatMap (·.methods):=by
 unfold Lf Nu
 induction F8 l n with
 | nil=>rfl
 | cons u r a=>
  rw[List.flatMap_cons,List.filterMap_cons]
  cases b:lk l u with
  | none=>simpa [b] using a
  | some c=>simp only[Option.map_some,Option.getD_some,List.flatMap_cons];rw[a]
end Go.Hm
namespace Go.Emb
open Go.RowKit Go.Hm
variable {P : Program} {w w0 w1 w' w'' : World} {K : Value → World → Prop} {σ σ0 σ1 σ' : Q6}
def It (σ:Q6) (w:World) (b r:Nat) (d:Array MapEntry) (a:Nat) (c:Array Nat):Prop:=σ b=none∧ ∃c0,a≤c0∧w.heap[b]? =some (.mapIter (some r) a c c0)
theorem It.step {b r:Nat} {d:Array MapEntry} {a:Nat} {c:Array Nat} (h:It σ w b r d a c) (k:Stp w σ w' σ'):It σ' w' b r d a c:=by
 obtain ⟨i,c0,g,e⟩:=h
 have f:=(Array.getElem?_eq_some_iff.1 e).1
 exact ⟨(k.old b f).trans i,c0,g,(k.bel.block b f).trans e⟩
theorem X3M {t e f:TypeId} [tm:TM P t e f] {r:Nat} {c:Array MapEntry} {a:Nat} (d:X2 w σ) (g:w.heap[r]? =some (.map c a))
 (h: ∀b w' σ',w.heap.size≤b→Stp w σ w' σ'→It σ' w' b r c a #[]→K (.pointer (some ⟨b,0,none⟩)) w'):rng P t (.map (some r)) w K:=by
 unfold rng
 have i:(getObj r).run P w= .ok (.map c a) w:=by simp[getObj,Sem.run,g]
 rw[X9 (v:= .pointer (some ⟨w.heap.size,0,none⟩)) (w':=w.alloc (.mapIter (some r) a #[] a)) (by
  simp only[Instr.range,Sem.run_bind,run_underlying tm.h,Result.andThen_ok,i,Sem.run_pure]
  simp)]
 exact h _ _ _ (Nat.le_refl _) (Stp.own d _) ⟨d.none (Nat.le_refl _),a,Nat.le_refl _,heap_alloc_new w _⟩
theorem X3K {t:TypeId} {b r:Nat} {es:Array MapEntry} {clock:Nat} {seen:Array Nat} (hi:It σ w b r es clock seen) (hm:w.heap[r]? =some (.map es clock)) (hold: ∀x∈es.toList,x.born<clock)
 (h0:(∀e∈es.toList,e.born∈seen)→K (.tuple #[.bool false]) w)
 (h1: ∀e w',e∈es.toList→e.born∉seen→Kpt (fun k=>k=b) w w'→It σ w' b r es clock (seen.push e.born)→w'.heap[b]? =some (.mapIter (some r) clock (seen.push e.born) clock)→K (.tuple #[.bool true,e.key,e.val]) w'):V1 P (.pointer (some ⟨b,0,none⟩)) false t w K:=by
 obtain ⟨hb,c0,hc,hh⟩:=hi
 unfold V1
 rcases run_next_at (P:=P) w t b r clock c0 seen es clock hh hm hold hc with ⟨hz,hrun⟩ | ⟨e,he,w1,hw1,hrun⟩
 ·rw[X9 hrun]
  refine h0 fun e he=>Classical.byContradiction fun hn=>?_
  have:e∈(leftOf es seen).toList:=by
   unfold leftOf
   simp only[Array.toList_filter,List.mem_filter]
   exact ⟨he,by simpa using hn⟩
  have hl:(leftOf es seen).toList.length=0:=by simpa using hz
  rw[List.eq_nil_of_length_eq_zero hl] at this
  cases this
 ·rw[X9 hrun]
  have he':e∈es.toList∧e.born∉seen:=by
   unfold leftOf at he
   simp only[Array.toList_filter,List.mem_filter] at he
   exact ⟨he.1,by simpa using he.2⟩
  have hh1:w1.heap[b]? =some (.mapIter (some r) clock seen c0):=by rcases hw1 with rfl | rfl<;>exact hh
  obtain ⟨u1,u2⟩:=Q3J (w:=w1) (o:= .mapIter (some r) clock (seen.push e.born) clock) hh1
  refine h1 e _ he'.1 he'.2 ?_ ⟨hb,clock,Nat.le_refl _,u2⟩ u2
  have k1:Kpt (fun k=>k=b) w w1:=by
   rcases hw1 with rfl | rfl
   ·exact Kpt.refl
   ·exact .of_below (Below.refl _ _).drew
  exact k1.trans (Kpt.of_upd u1 rfl)
theorem X3b {b r:Nat} {d:Array MapEntry} {a:Nat} {c:Array Nat} {e:MapEntry} (hh:w.heap[b]? =some (.mapIter (some r) a (c.push e.born) a)) (i:w.heap[r]? =some (.map d a)) (g:e∈d.toList) (f:(d.toList.map (·.born)).Nodup)
 (h:K (.tuple #[e.key,e.val]) w):Q8C P (.pointer (some ⟨b,0,none⟩)) w K:=by
 unfold Q8C
 rw[X9 (run_entry_at w b r a c d a e hh i g f)]
 exact h
end Go.Emb
namespace Go.Proofs.YtjdiakhipmggjaaGreatDoor
open Go.Emb Go.RowKit Go.Kd Go.Hm
variable {w : World} {K : Value → World → Prop} {σ : Q6} {v : Value} {l : List Cla}
theorem T7 (o:Option Nat):decide ((0:Int)≤L6 o)=o.isSome:=by
 cases o with
 | none=>rfl
 | some i=>simp[L6]
theorem Q3F {q:Addr} {s:X0} (b:X2 w σ) (d:Tab σ v l) (f:Z4 σ q [v]) (g:s.length≤U1) (h: ∀w' σ',Stp w σ w' σ'→K (.bool (O3 l s)) w'):Z3 P (.func (.func F.am) #[] #[.pointer (some q)]) [S s] w K:=Z7 (Sf (by
 unfold Jk
 unfold O3 at h
 refine Wl ?_
 by_cases a:s=H7
 ·have e:decide (s=[110,117,108,108])=true:=decide_eq_true a
  simp only[e,decide_eq_true a,↓M2,M2,Mb,reduceIte] at h⊢
  exact h _ _ (Stp.refl b)
 ·have e:decide (s=[110,117,108,108])=false:=decide_eq_false a
  simp only[e,decide_eq_false a,↓M2,M2,Mb,reduceIte] at h⊢
  refine X7 b f rfl ?_
  refine Q0D b d g fun w1 σ1 c=>?_
  (try simp only[↓M2,M2,Mb,reduceIte])
  exact h _ _ c))
theorem Q8P {q p:Addr} {s:X0} (b:X2 w σ) (c:Tab σ v l) (e:Z4 σ q [v]) (d:Z4 σ p [.func (.func F.am) #[] #[.pointer (some q)]]) (f:s.length≤U1) (h: ∀w' σ',Stp w σ w' σ'→K (.bool (!O3 l s)) w'):Z3 P (.func (.func F.an) #[] #[.pointer (some p)]) [S s] w K:=Z7 (Ru (by
 unfold Jv
 refine X7 b d rfl ?_
 refine Q3F b c e f fun w1 σ1 a=>?_
 refine We ?_
 exact h _ _ a))
theorem Q6T {c:Cla} {cs:List Value} {pa E:Addr} {e b:Nat} {s:B4×B4} (R:X2 w σ) (L:V0 σ c cs) (r:Qn c) (W:Nm c) (A:Z4 σ pa [.map (some e)]) (u:Z4 σ E [.map (some b)])
 (z:σ e=none) (y:σ b=none) (t:e≠b) (j:H0 (w.heap[e]?) (vals s.1)) (m:H0 (w.heap[b]?) (vals s.2))
 (h: ∀w',Kpt (fun k=>k=e∨k=b) w w'→H0 (w'.heap[e]?) (vals (Sw s c).2.1)∧H0 (w'.heap[b]?) (vals (Sw s c).2.2)→K (.bool (Sw s c).1) w'):
 Z3 P (.func (.func F.aY) #[] #[.pointer (some pa), .pointer (some E)]) [.agg cs.toArray] w K:=Z7 (Sq (by
 obtain ⟨lv,fv,mv,rfl,g1,Y,X,g4,Z⟩:=L
 unfold Js
 refine Y9 R fun q w1 σ1 a D=>?_
 rw[fa]
 refine ld a.sat D rfl ?_
 rw[Qb]
 have p:=j.lt
 have B:=m.lt
 have o:σ1 e=none:=(a.old e p).trans z
 have i:σ1 b=none:=(a.old b B).trans y
 refine Jf (Vh c.name) s (fun s w'=>X2 w' σ1∧H0 (w'.heap[e]?) (vals s.1)∧H0 (w'.heap[b]?) (vals s.2)) (fun k=>k=e∨k=b) (fun _ _ h=>h.1) ⟨a.sat,j.of_below a.bel,m.of_below a.bel⟩ (X.up a)
  (fun s x cs J K H f g M C V=>Z7 ?_) fun J f g=>?_
 ·refine X3Q (s:=s) (d:=c.name) g.1 M (r.2.2.2 x H) (W.2.2 x H) (A.up a) (u.up a) D o i t g.2.1 g.2.2 fun O n U Q=>?_
  exact V O (f.trans n) ⟨n.sat g.1 fun k N=>by rcases N with rfl | rfl<;>assumption,U,Q⟩
 ·exact h J ((Kpt.of_below a.bel).trans f) g.2))
end Go.Proofs.YtjdiakhipmggjaaGreatDoor

namespace Go.Emb
open Go.RowKit Go.Hm
theorem Stp.nx {D:Nat→Prop} {w w1 g:World} {σ σ1 f:Q6} (a:Stp w σ w1 σ1) (c:Nxt D w1 σ1 g f) (hD: ∀k,D k→w.heap.size≤k):Stp w σ g f:=
 ⟨⟨c.kp.os.trans a.bel.os,c.kp.tape.trans a.bel.tape,c.kp.output.trans a.bel.output,Nat.le_trans a.bel.size c.kp.size,fun k d=>(c.kp.block k (Nat.lt_of_lt_of_le d a.bel.size) fun e=>by have:=hD k e;omega).trans (a.bel.block k d)⟩,
  c.sat,fun b o e=>c.le.le b o (a.le b o e),fun k d=>(c.old k (Nat.lt_of_lt_of_le d a.bel.size)).trans (a.old k d)⟩
end Go.Emb
namespace Go.Hm
open Go.Kd Go.Emb
theorem X25 {d:Array MapEntry} {m:B4} (h:d.toList.map (fun e=>(e.key,e.val))=(vals m).map (fun p=>(S p.1,p.2))):
 (∀e∈d.toList,∃k,e.key=S k∧(C6 m k).isSome=true)∧ ∀k,(C6 m k).isSome=true→ ∃e∈d.toList,e.key=S k:=by
 have c: ∀(m:B4) k,(C6 m k).isSome=true↔k∈m.map (·.1):=by
  intro m
  induction m with
  | nil=>intro k;simp[C6]
  | cons p r i=>
   intro k
   simp only[C6,List.map_cons,List.mem_cons]
   by_cases e:p.1=k
   ·simp[e]
   ·rw[if_neg e,i k]
    constructor
    ·exact .inr
    ·rintro (h | h)
     ·exact absurd h.symm e
     ·exact h
 constructor
 ·intro e f
  have b:(e.key,e.val)∈d.toList.map (fun e=>(e.key,e.val)):=List.mem_map.2 ⟨e,f,rfl⟩
  rw[h] at b
  obtain ⟨p,j,a⟩:=List.mem_map.1 b
  obtain ⟨q,g,rfl⟩:=List.mem_map.1 j
  simp only[Prod.mk.injEq] at a
  exact ⟨q.1,a.1.symm,(c m _).2 (List.mem_map.2 ⟨q,g,rfl⟩)⟩
 ·intro k n
  obtain ⟨q,g,rfl⟩:=List.mem_map.1 ((c m k).1 n)
  have b:(S q.1,S q.2)∈(vals m).map (fun p=>(S p.1,p.2)):=List.mem_map.2 ⟨(q.1,S q.2),List.mem_map.2 ⟨q,g,rfl⟩,rfl⟩
  rw[←h] at b
  obtain ⟨e,f,a⟩:=List.mem_map.1 b
  simp only[Prod.mk.injEq] at a
  exact ⟨e,f,a.1⟩
def Ex (l:List Cla) (m:Hm.Met):Bool:=(!O3 l m.result&& !decide (m.result=[]))||m.params.any fun s=> !O3 l s
end Go.Hm
namespace Go.Proofs.YtjdiakhipmggjaaGreatDoor
open Go.Emb Go.RowKit Go.Kd Go.Hm
variable {w : World} {K : Value → World → Prop} {σ : Q6} {v : Value} {l : List Cla}
set_option maxHeartbeats 1000000 in
theorem Q95 {c:Cla} {cs:List Value} (hs:X2 w σ) (ht:Tab σ v l) (ok:Ok l) (hc:V0 σ c cs) (fj:Qn c) (hn:Nm c) (h: ∀w' V,Stp w σ w' V→K (I (V7 l c)) w'):Q1 P F.b5 [v, .agg cs.toArray] w K:=Fk (by
 obtain ⟨lv,fv,mv,rfl,g1,g2,g3,g4,g5⟩:=hc
 unfold Wa
 obtain ⟨a,_,_,_,hv,_⟩:=ht.ex
 unfold V7 at h
 refine U7 hs (by rw[hv];rfl) fun q2 w1 σ1 ax y=>?_
 refine Y9 ax.sat fun q3 w2 σ2 aq A=>?_
 have d2:=ax.trans aq
 have y:=y.up aq
 have g1:=(g1.up ax).up aq
 have g2:=(g2.up ax).up aq
 have g3:=(g3.up ax).up aq
 have ba:=g2.max
 have cf:=g3.max
 rw[fa]
 refine ld aq.sat A rfl ?_
 refine Q8 g2 ?_
 refine U3 c.fields.length (fun n w'=> ∃V,Stp w σ w' V∧SLe σ2 V∧((c.fields.take n).any fun f=>(Jw l c.super f.name).isSome)=false) ⟨σ2,d2,SLe.refl _,by simp⟩ fun n w3 d a0 aj=>?_
 obtain ⟨σ3,a3,b8,H⟩:=aj
 refine Z2 ?_
 refine Q7 (fun hh=>?_) (fun hh=>?_)
 ·have g:n<c.fields.length:=by simpa using hh
  refine Q9b (g2.lift b8) g fun p aw aa=>?_
  refine Y4 a3.sat aw rfl ?_
  refine Y8 a3.sat (by rfl) rfl (Rep.one aa) fun q4 w4 σ4 W d3=>?_
  have ab:SLe σ2 σ4:=b8.more ⟨W.le⟩
  have a5:=a3.trans W
  refine X7 W.sat (y.lift ab) rfl ?_
  rw[fa]
  refine ld W.sat (A.lift ab) rfl ?_
  rw[fa]
  refine ld W.sat d3 rfl ?_
  refine X2v W.sat (ht.lift ⟨a5.le⟩) ok.acy ok.len ok.sm fun w5 σ5 ck=>?_
  refine P5 ?_
  rw[T7]
  refine Q7 (fun al=>?_) (fun al=>?_)
  ·have:Yt l c=true:=C0 g al
   rw[if_pos this] at h
   exact h _ _ (a5.trans ck)
  ·refine O4 ?_
   refine Y5 ba g ⟨σ5,a5.trans ck,ab.more ⟨ck.le⟩,?_⟩
   rw[L3 g,H,al];rfl
 have g: ¬n<c.fields.length:=by simpa using hh
 rw[E0 g] at H
 have d4:Yt l c=false:=H
 rw[if_neg (by rw[d4];simp)] at h
 rw[Qb]
 clear H hh g a0
 refine U9 a3.sat (by rfl) rfl rfl fun q7 w4 σ4 W a7=>?_
 have ab:SLe σ2 σ4:=b8.more ⟨W.le⟩
 have a5:=a3.trans W
 have y:=y.lift ab
 have A:=A.lift ab
 have g1:=g1.lift ab
 have g2:=g2.lift ab
 have g3:=g3.lift ab
 rw[fa]
 refine ld W.sat A rfl ?_
 refine Q8 g2 ?_
 refine U3 c.fields.length (fun n w'=> ∃V,Stp w σ w' V∧SLe σ4 V∧((c.fields.take n).any fun f=> !O3 l f.kind)=false) ⟨σ4,a5,SLe.refl _,by simp⟩ fun n w5 d a0 aj=>?_
 obtain ⟨σ5,a4,av,H⟩:=aj
 refine Z2 ?_
 refine Q7 (fun hh=>?_) (fun hh=>?_)
 ·have g:n<c.fields.length:=by simpa using hh
  refine Q9b (g2.lift av) g fun p aw aa=>?_
  refine Y4 a4.sat aw rfl ?_
  refine Y8 a4.sat (by rfl) rfl (Rep.one aa) fun q9 w6 σ6 a2 ei=>?_
  have ah:SLe σ4 σ6:=av.more ⟨a2.le⟩
  have O:=a4.trans a2
  refine X7 a2.sat (a7.lift ah) rfl ?_
  rw[fa]
  refine ld a2.sat ei rfl ?_
  refine Q3F a2.sat (ht.lift ⟨O.le⟩) (y.lift ah) aa.2.2 fun w7 σ7 E=>?_
  refine We ?_
  refine Q7 (fun al=>?_) (fun al=>?_)
  ·have:B8 l c=true:=by
    unfold B8
    rw[C0 (p:=fun f:Fld=> !O3 l f.kind) g al];rfl
   rw[if_pos this] at h
   exact h _ _ (O.trans E)
  ·refine O4 ?_
   refine Y5 ba g ⟨σ7,O.trans E,ah.more ⟨E.le⟩,?_⟩
   rw[L3 g,H,al];rfl
 have g: ¬n<c.fields.length:=by simpa using hh
 rw[E0 g] at H
 have ec:=H
 clear H hh g a0
 have y:=y.lift av
 have A:=A.lift av
 have a7:=a7.lift av
 have g3:=g3.lift av
 rw[fa]
 refine ld a4.sat A rfl ?_
 refine Q8 g3 ?_
 refine U3 c.methods.length (fun n w'=> ∃V,Stp w σ w' V∧SLe σ5 V∧((c.methods.take n).any (Ex l))=false) ⟨σ5,a4,SLe.refl _,by simp⟩ fun n w6 d a0 aj=>?_
 obtain ⟨σ6,O,ah,H⟩:=aj
 refine Z2 ?_
 refine Q7 (fun hh=>?_) (fun hh=>?_)
 ·have g:n<c.methods.length:=by simpa using hh
  refine M7 (g3.lift ah) g fun p cells aw dq aa=>?_
  refine Y4 O.sat aw dq ?_
  refine Y8 O.sat (by rfl) dq (Rep.one aa) fun fb w7 σ7 E Y=>?_
  obtain ⟨pv,cv,fg,rfl,m1,m2,m3,m4,m5,m6⟩:=aa
  have cc:SLe σ5 σ7:=ah.more ⟨E.le⟩
  have dn:=O.trans E
  have B:Ex l c.methods[n]=true→ ∀{w8:World} {Z:Q6},Stp w σ w8 Z→K (.int .i64 65) w8:=fun hb w8 Z q=>by
   have:B8 l c=true:=by
    unfold B8
    have:=C0 (p:=Ex l) g hb
    unfold Ex at this
    rw[this,Bool.or_true]
   rw[if_pos this] at h
   exact h _ _ q
  have z:Ex l c.methods[n]=false→ ∀{w8:World} {Z:Q6},Stp w σ w8 Z→SLe σ5 Z→UpI c.methods.length (fun n w'=> ∃V,Stp w σ w' V∧SLe σ5 V∧((c.methods.take n).any (Ex l))=false) (.int .i64 (IntKind.i64.wrap (n+1))) w8∧UpM c.methods.length (.int .i64 (IntKind.i64.wrap (n+1)))<UpM c.methods.length (I n):=fun hb w8 Z q ac=>
   Y5 cf g ⟨Z,q,ac,by rw[L3 g,H,hb];rfl⟩
  unfold Ex at B z
  refine X7 E.sat (a7.lift cc) rfl ?_
  rw[fa]
  refine ld E.sat Y rfl ?_
  refine Q3F E.sat (ht.lift ⟨dn.le⟩) (y.lift cc) m5 fun w8 Z M=>?_
  have q:=dn.trans M
  have ac:SLe σ5 Z:=cc.more ⟨M.le⟩
  have Y:=Y.up M
  have m1:=(m1.up E).up M
  -- what the parameters come to
  have bs: ∀{w8:World} {Z:Q6} {K:Value→World→Prop},Stp w σ w8 Z→SLe σ5 Z→Sl 1 U6 Z pv c.methods[n].params→(∀w' V,Stp w8 Z w' V→K (.bool (c.methods[n].params.any fun s=> !O3 l s)) w')→Q1 P F.c [pv, .func (.func F.an) #[] #[.pointer (some q7)]] w8 K:=by
   intro w8 Z K q ac m1 hK
   refine P6 (fun s=> !O3 l s) q.sat m1 (fun x w9 K _ ef hx em=>Q8P ef (ht.lift ⟨q.le⟩) (y.lift ac) (a7.lift ac) hx fun w' V hk=>em w' hk.bel) fun w9 hb=>hK w9 Z (Stp.of_below q.sat hb)
  cases e1:O3 l c.methods[n].result with
  | true=>
   rw[e1] at B z
   simp only[↓M2,M2,Mb,reduceIte]
   refine ld M.sat Y rfl ?_
   (try simp only[↓M2,M2,Mb,reduceIte])
   refine bs q ac m1 fun w9 σ9 J=>?_
   cases e2:c.methods[n].params.any fun s=> !O3 l s with
   | true=>
    rw[e2] at B
    simp only[↓M2,M2,Mb,reduceIte]
    exact B rfl (q.trans J)
   | false=>
    rw[e2] at z
    simp only[↓M2,M2,Mb,reduceIte]
    exact z rfl (q.trans J) (ac.more ⟨J.le⟩)
  | false=>
   rw[e1] at B z
   simp only[↓M2,M2,Mb,reduceIte]
   refine ld M.sat Y rfl ?_
   simp only[↓M2,M2,Mb,reduceIte]
   by_cases e3:c.methods[n].result=[]
   ·rw[decide_eq_true e3] at B z
    simp only[decide_eq_true e3,↓M2,M2,Mb,reduceIte]
    refine ld M.sat Y rfl ?_
    (try simp only[↓M2,M2,Mb,reduceIte])
    refine bs q ac m1 fun w9 σ9 J=>?_
    cases e2:c.methods[n].params.any fun s=> !O3 l s with
    | true=>
     rw[e2] at B
     simp only[↓M2,M2,Mb,reduceIte]
     exact B rfl (q.trans J)
    | false=>
     rw[e2] at z
     simp only[↓M2,M2,Mb,reduceIte]
     exact z rfl (q.trans J) (ac.more ⟨J.le⟩)
   ·rw[decide_eq_false e3] at B
    simp only[decide_eq_false e3,↓M2,M2,Mb,reduceIte]
    exact B rfl q
 have g: ¬n<c.methods.length:=by simpa using hh
 rw[E0 g] at H
 have cb:B8 l c=false:=by
  unfold B8
  unfold Ex at H
  rw[ec,H];rfl
 rw[if_neg (by rw[cb];simp)] at h
 clear H hh g a0
 have y:=y.lift ah
 have A:=A.lift ah
 refine Q3p O.sat fun r1 w7 aa E t=>?_
 refine Q3p E.sat fun N w8 ej M u=>?_
 have aw:=t.lt
 have t:=t.up M
 have eb:r1≠N:=by omega
 have q:=(O.trans E).trans M
 have e6:w.heap.size≤r1:=Nat.le_trans O.bel.size aa
 have e8:w.heap.size≤N:=M9 ej (O.trans E)
 refine M8 M.sat fun b1 w9 σ9 ek J D=>?_
 refine M8 J.sat fun b2 dx fo dz ai C=>?_
 have ez:=D.lt
 have ep:=t.lt
 have ew:=u.lt
 have t:=(t.up J).up ai
 have u:=(u.up J).up ai
 have D:=D.up ai
 have df:=(q.trans J).trans ai
 have bv:w.heap.size≤b1:=M9 ek q
 have b0:w.heap.size≤b2:=M9 dz (q.trans J)
 refine st0 D (by simp[Value.cells]) rfl rfl fun cx ce D=>?_
 have dc:=ce.stp df bv D.1
 have C:=C.upd ce (by omega)
 have dm:Kpt (fun k=>k=b1) dx cx:=Kpt.of_upd ce rfl
 have t:=t.kp dm (by omega)
 have u:=u.kp dm (by omega)
 refine st0 C (by simp[Value.cells]) rfl rfl fun ar ci C=>?_
 have c4:=ci.stp dc b0 C.1
 have D:=D.upd ci (by omega)
 have c3:Kpt (fun k=>k=b2) cx ar:=Kpt.of_upd ci rfl
 have t:=t.kp c3 (by omega)
 have u:=u.kp c3 (by omega)
 obtain ⟨b9,c1,ay,cu,ak⟩:=D.keep c4 bv
 have C:Y1 b9 ar b2 _:=⟨(ak b2 (by omega)).trans C.1,C.2⟩
 have t:C5 b9 ar r1 []:=⟨(ak r1 (by omega)).trans t.1,t.2⟩
 have u:C5 b9 ar N []:=⟨(ak N (by omega)).trans u.1,u.2⟩
 obtain ⟨a8,ae,bn,bw,a9⟩:=C.keep c1 b0
 have t:C5 a8 ar r1 []:=⟨(a9 r1 (by omega)).trans t.1,t.2⟩
 have u:C5 a8 ar N []:=⟨(a9 N (by omega)).trans u.1,u.2⟩
 have ay:=ay.le bw
 have ay:Z4 a8 ⟨b1,0,none⟩ [.map (some r1)]:=ay
 have bn:Z4 a8 ⟨b2,0,none⟩ [.map (some N)]:=bn
 have cw:SLe σ6 a8:=⟨fun b o e=>bw b o (cu b o (ai.le b o (J.le b o (M.le b o (E.le b o e)))))⟩
 clear D C
 have y:=y.lift cw
 have A:=A.lift cw
 refine X7 ae.sat y rfl ?_
 rw[fa]
 refine ld ae.sat A rfl ?_
 rw[Qb]
 refine Q7N Sw ([],[]) (fun s w'=>H0 (w'.heap[r1]?) (vals s.1)∧H0 (w'.heap[N]?) (vals s.2)) (fun k=>k=r1∨k=N) ae.sat (ht.lift ⟨ae.le⟩) ok.len ok.sm g4
  (fun k hk=>by rcases hk with rfl | rfl;exact ⟨t.lt,t.1⟩;exact ⟨u.lt,u.1⟩) (fun s wa wb hi hk=>by rw[hk r1 (.inl rfl),hk N (.inr rfl)];exact hi) ⟨t.2,u.2⟩
  (fun s d ds wa σa K le d0 db hi hr d8 hK=>?_) fun ff b7 af bu=>?_
 ·have da:=(V4 d8).2.1
  exact Q6T d0 hr (ok.sm d da) (ok.nm d da) (ay.lift le) (bn.lift le) (db r1 (.inl rfl)) (db N (.inr rfl)) eb hi.1 hi.2 hK
 have R:=ae.nx af fun k hk=>by rcases hk with rfl | rfl<;>assumption
 obtain ⟨cy,c6⟩:=Q3m (Nu l c.name) [] ([],[]) 0 X3A
 rw[List.nil_append,←Q82] at cy c6
 cases di:(J3 Sw ([],[]) (Nu l c.name) 0).1.isSome with
 | true=>
  have:Zh l c=true:=(Q4r _).2 (cy di)
  rw[if_pos this] at h
  refine J4 ?_
  exact h _ _ R
 | false=>
  have bj:=c6 di
  have:Zh l c=false:=by
   cases e:Zh l c with
   | false=>rfl
   | true=>exact absurd ((Q4r _).1 e) bj.no
  rw[if_neg (by rw[this];simp)] at h
  refine Z9 ?_
  have y:=y.lift af.le
  have A:=A.lift af.le
  rw[fa]
  refine ld R.sat A rfl ?_
  unfold Dj at h
  cases c0:c.abs with
  | true=>
   rw[c0] at h
   refine J4 ?_
   exact h _ _ R
  | false=>
   rw[c0] at h
   simp only[Bool.not_false,Bool.true_and] at h
   refine Z9 ?_
   refine X7 R.sat (bn.lift af.le) rfl ?_
   generalize fc:(J3 Sw ([],[]) (Nu l c.name) 0).2=st at bj bu
   obtain ⟨es,am,e1,e2,e3,e4⟩:=bu.2
   have c8:b7 N=none:=(af.old N u.lt).trans u.1
   obtain ⟨cz,c9⟩:=X25 e2
   refine X3M (tm:=inferInstance) R.sat e1 fun ib ft d9 d7 an el=>?_
   have bx:=(Array.getElem?_eq_some_iff.1 e1).1
   refine Ke (fun d _ w'=> ∃(V:Q6) (U:Array Nat),d=es.toList.countP (fun e=> !U.contains e.born)∧Stp w σ w' V∧SLe b7 V∧V N=none∧w'.heap[N]? =some (.map es am)∧It V w' ib N es am U∧ ∀e∈es.toList,e.born∈U→ ∀k,e.key=S k→Zb l c.name k=false) _
    ⟨d9, #[],rfl,R.trans an,⟨an.le⟩,(an.old N bx).trans c8,(an.bel.block N bx).trans e1,el,by simp⟩ ?_
   rintro ch d x dd fw ⟨dp,U,rfl,bp,ao,dj,bb,a1,az⟩ eg
   have dl:w.heap.size≤ib:=Nat.le_trans R.bel.size d7
   refine X3K a1 bb e4 (fun cr=>?_) fun e dh bl be b3 b4 c7=>?_
   ·refine J6 (vs:=[_]) rfl ?_
    refine Z9 ?_
    have:((Lf l c.name).any fun m=>Zb l c.name m.name)=false:=by
     rw[List.any_eq_false]
     intro m hm
     obtain ⟨e,he,bo⟩:=c9 m.name ((bj.c m.name).2 ⟨m,hm,rfl⟩)
     rw[az e he (cr e he) _ bo];simp
    rw[this] at h
    exact h _ _ bp
   ·refine J6 (vs:=[_,_,_]) rfl ?_
    refine J4 ?_
    have ap:dh.heap[N]? =some (.map es am):=by
     rw[b3.block N (Array.getElem?_eq_some_iff.1 bb).1 (by omega)];exact bb
    have b6:=a1.1
    have ag:Stp w σ dh dp:=bp.kp b3 fun k hk=>by rw[hk];exact ⟨dl,b6⟩
    refine X3b c7 ap bl (e3.imp fun cl=>Nat.ne_of_lt cl) ?_
    refine J6 (vs:=[_,_]) rfl ?_
    obtain ⟨k,bo,ed⟩:=cz e bl
    have e0:SLe b7 dp:=ao
    refine X7 ag.sat (y.lift ao) rfl ?_
    rw[fa]
    refine ld ag.sat (A.lift ao) rfl ?_
    rw[bo]
    refine X0m ag.sat (ht.lift ⟨ag.le⟩) ok fun pv cv hv fi fu L ct=>?_
    refine J6 (vs:=[_,_,_]) rfl ?_
    refine J6 (vs:=[_,_,_]) rfl ?_
    refine J6 (vs:=[_,_,_]) rfl ?_
    refine Y8 L.sat (by rfl) rfl (Rep.one ct) fun fe d1 eh X br=>?_
    have bc:=(ag.trans L).trans X
    have Q:Zb l c.name k=true→ ∀{w8:World} {Z:Q6},Stp w σ w8 Z→K (.int .i64 67) w8:=fun hb w8 Z q=>by
     obtain ⟨m,hm,cb⟩:=(bj.c k).1 ed
     have:((Lf l c.name).any fun m=>Zb l c.name m.name)=true:=List.any_eq_true.2 ⟨m,hm,by rw[cb];exact hb⟩
     rw[this] at h
     exact h _ _ q
    have cj:Zb l c.name k=false→ch () d1:=fun hb=>by
     have dg: ∀e':MapEntry,e'.born∈U.push e.born↔e'.born∈U∨e'.born=e.born:=fun e'=>by simp
     refine eg _ _ _ ?_ ⟨eh,U.push e.born,rfl,bc,ao.more ⟨fun b o h=>X.le _ _ (L.le _ _ h)⟩,?_,?_,(b4.step L).step X,fun e' de eo k' b5=>?_⟩
     ·refine Q4z (fun x _ hx=>?_) ⟨e,bl,?_,?_⟩
      ·simp only[Bool.not_eq_true',Array.contains_push,Bool.or_eq_false_iff] at hx⊢
       exact hx.1
      ·simpa using be
      ·simp
     ·have a6:=(Array.getElem?_eq_some_iff.1 ap).1
      rw[X.old N (Nat.lt_of_lt_of_le a6 L.bel.size),L.old N a6];exact dj
     ·have a6:=(Array.getElem?_eq_some_iff.1 ap).1
      rw[X.bel.block N (Nat.lt_of_lt_of_le a6 L.bel.size),L.bel.block N a6];exact ap
     ·rcases (dg e').1 eo with h1 | h1
      ·exact az e' de h1 k' b5
      ·have:e'=e:=by
        have d6:(es.toList.map (·.born)).Nodup:=e3.imp fun cl=>Nat.ne_of_lt cl
        obtain ⟨i,hi,rfl⟩:=List.getElem_of_mem de
        obtain ⟨j,hj,rfl⟩:=List.getElem_of_mem bl
        have h5:(es.toList.map (·.born))[i]'(by simpa using hi)=(es.toList.map (·.born))[j]'(by simpa using hj):=by simpa using h1
        have:=(List.getElem_inj d6).1 h5
        subst this;rfl
       subst this
       rw[bo] at b5
       have:k=k':=by
        have:=b5
        simp at this
        exact this
       rw[←this];exact hb
    unfold Zb at Q cj
    cases c2:V3 l c.name k with
    | none=>
     rw[c2] at Q
     simp only[↓M2,M2,Mb,reduceIte,Option.isSome_none]
     exact Q rfl bc
    | some r=>
     rw[c2] at Q cj br
     simp only[↓M2,M2,Mb,reduceIte,Option.isSome_some]
     refine ld X.sat br rfl ?_
     (try simp only[↓M2,M2,Mb,reduceIte])
     cases bh:r.2.abs with
     | true=>
      exact Q7 (fun _=>Q bh bc) (fun e=>absurd (bh.symm.trans e) (by simp))
     | false=>
      exact Q7 (fun e=>absurd (bh.symm.trans e) (by simp)) (fun _=>cj bh))
end Go.Proofs.YtjdiakhipmggjaaGreatDoor

namespace Go.Emb
open Go.RowKit Go.Hm
variable {P : Program} {w w0 w1 w' w'' : World} {K : Value → World → Prop} {σ σ0 σ1 σ' : Q6}
theorem X3U {t e:TypeId} {n a:Nat} {z:Value} [ta:TA P t n e] [tz:TZ P e 1 a z] [tg:TG P e false] {cs:List Value} {i:Nat} {v:Value} (d:i<n) (b:cs[i]? =some v) (h:K v w):C3 P t (.agg cs.toArray) (I i) w K:=by
 unfold C3
 have c:(0:Int)≤i∧(i:Int)<n:=⟨by omega,by omega⟩
 rw[X9 (v:=v) (w':=w) (by
  simp only[Instr.index,asIntOf,Sem.run_bind,Sem.run_pure,Result.andThen_ok,run_underlying ta.h,c,and_self,if_true,L2 tz,part,Xu tg]
  simp[b])]
 exact h
theorem Q8S {α:Type} {R:Q6→α→List Value→Prop} {B sz:Nat} {e:TypeId} {v:Value} {xs:List α} {a t:TypeId} {cs:List Bool} [ts:TS P a e] (h:V6 B e sz R σ w v xs) (b:K (I xs.length) w):X3 P .len [a] t cs [v] w K:=Q1o (J8.of_acc h) b
theorem Ju {α:Type} {R:Q6→α→List Value→Prop} {B sz:Nat} {e:TypeId} {v:Value} {xs:List α} (h:V6 B e sz R σ w v xs):v.cells= #[v]∧v.oneCell'=true:=by
 obtain ⟨cells,c,_⟩:=h
 rcases c.2 with ⟨rfl,_⟩ | ⟨g,b,a,rfl,_⟩<;>exact ⟨rfl,rfl⟩
end Go.Emb
namespace Go.Proofs.YtjdiakhipmggjaaGreatDoor
open Go.Emb Go.RowKit Go.Kd Go.Hm
variable {w : World} {K : Value → World → Prop} {σ : Q6} {v : Value} {l : List Cla}
theorem X1J (A:X2 w σ) (D:Glb σ) (h: ∀r w' σ',Stp w σ w' σ'→V6 w.heap.size T.b 8 V0 σ' w' r I0→K r w'):Q1 P F.cD [] w K:=Q5A (by
 unfold Q13
 refine W2 (cells:= #[S U0,S [], .slice none 0 0, .bool false, .bool false, .bool false, .slice none 0 0, .slice none 0 0]) (by kernel_rfl) ?_
 refine W2 (cells:= #[S Qg,S O9, .bool false]) (by kernel_rfl) ?_
 refine P1 (R:=R8) (sz:=3) A [.agg #[S Qg,S O9, .bool false]] [⟨Qg,O9,false⟩] rfl rfl (by simp;rfl) rfl ⟨⟨rfl,by decide,by decide⟩,trivial⟩ fun E w1 σ1 e p=>?_
 have m:=p
 obtain ⟨y,b,rfl,_⟩:=m
 refine W2 (cells:= #[S L5,S U0, .slice none 0 0, .bool false, .bool false, .bool false, .slice y 1 b, .slice none 0 0]) (by kernel_rfl) ?_
 refine Zc (R:=V0) (sz:=8) e [.agg #[S U0,S [], .slice none 0 0, .bool false, .bool false, .bool false, .slice none 0 0, .slice none 0 0], .agg #[S L5,S U0, .slice none 0 0, .bool false, .bool false, .bool false, .slice y 1 b, .slice none 0 0]]
  [⟨U0,[],[],false,false,false,[],[]⟩,⟨L5,U0,[],false,false,false,[⟨Qg,O9,false⟩],[]⟩] rfl rfl (by simp;exact ⟨rfl,rfl⟩) rfl
  ⟨⟨_,_,_,rfl,Sl.nil,Sl.nil,Sl.nil,by decide,by decide⟩,⟨_,_,_,rfl,Sl.nil,p,Sl.nil,by decide,by decide⟩,trivial⟩ fun M O i j _=>?_
 have q:=D.lift ⟨e.le⟩
 refine Y4 (cs:=U5.map S) i.sat q.flt rfl ?_
 refine E8 6 (fun n a w'=> ∃σ',Stp w σ w' σ'∧V6 w.heap.size T.b 8 V0 σ' w' a ([⟨U0,[],[],false,false,false,[],[]⟩,⟨L5,U0,[],false,false,false,[⟨Qg,O9,false⟩],[]⟩]++(U5.take n).map fun n=>⟨n,L5,[],false,false,true,[],[]⟩)) ⟨σ1,e.trans i,j⟩ fun n a J d N o=>?_
 obtain ⟨H,k,c⟩:=o
 have z:U5.length=6:=rfl
 refine Z2 ?_
 refine Q7 (fun hh=>?_) (fun hh=>?_)
 ·have f:n<6:=by have:=of_decide_eq_true hh;omega
  refine X3U (v:=S (U5[n]'(by omega))) f (by rw[List.getElem?_map,List.getElem?_eq_getElem (by omega)];rfl) ?_
  refine W2 (cells:= #[S (U5[n]'(by omega)),S L5, .slice none 0 0, .bool false, .bool false, .bool true, .slice none 0 0, .slice none 0 0]) (by kernel_rfl) ?_
  have g:(U5[n]'(by omega)).length≤10:=by
   have: ∀x∈U5,x.length≤10:=by decide
   exact this _ (List.getElem_mem _)
  refine Ug (x:=⟨U5[n]'(by omega),L5,[],false,false,true,[],[]⟩) k c ⟨_,_,_,rfl,Sl.nil,Sl.nil,Sl.nil,Nat.le_trans g (by decide),(by decide:L5.length≤U1)⟩ rfl rfl rfl (by simp;omega) (by simp;omega) fun s r L C B t u _=>?_
  refine O4 ?_
  refine J5 (by omega) f ⟨C,t,?_⟩
  rw[List.take_add_one,List.getElem?_eq_getElem (by omega),List.map_append,←List.append_assoc]
  exact u
 ·have f: ¬n<6:=by have:=of_decide_eq_false hh;omega
  rw[List.take_of_length_le (by omega)] at c
  exact h _ _ _ k c)
end Go.Proofs.YtjdiakhipmggjaaGreatDoor

namespace Go.Hm
open Go.Kd
def O7 {α:Type} (f:α→Int):List α→Nat→Option (Nat×Int)
 | [],_=>none
 | x::r,i=>if f x=0 then O7 f r (i+1) else some (i,f x)
theorem P8 {α:Type} {f:α→Int}: ∀{l:List α} {i:Nat},O7 f l i=none→ ∀x∈l,f x=0
 | [],_,_=>by simp
 | x::r,i,h=>by
  simp only[O7] at h
  split at h
  ·rename_i a
   intro y hy
   rcases List.mem_cons.1 hy with rfl | hy
   ·exact a
   ·exact P8 h y hy
  ·cases h
def Cd (a:List Cla):Option Nat:=(List.range a.length).find? fun i=>(Z1 (a.take i) (Y2 a i)).isSome
def Q4 (l:List Cla):List Cla:=I0++l
def Ce (a:Cla→Int) (l:List Cla):Option (Int×Int):=match O7 a l 0 with
 | some (i,e)=>some (i,e)
 | none=>match Cd (Q4 l) with
  | some i=>some ((i:Int)-8,60)
  | none=>match O7 (fun c=>(O8 (Q4 l) c:Int)) l 0 with
   | some (i,e)=>some (i,e)
   | none=>match l.findIdx? (P9 (Q4 l)) with
    | some i=>some (i,63)
    | none=>match (V8 (Q4 l) 8).find? fun j=> !decide (V7 (Q4 l) ((Q4 l).getD j Cla.zero)=0) with
     | some j=>some ((j:Int)-8,V7 (Q4 l) ((Q4 l).getD j Cla.zero))
     | none=>none
theorem Q5U {s:X0} (h:name s=true):s.length≤32:=by
 cases s with
 | nil=>simp
 | cons c r=>simp only[name,Bool.and_eq_true,decide_eq_true_eq] at h;exact h.1.1
theorem X0N {s:X0} (h:M6 s=true):s.length≤32:=Q5U (Mh (by rw[h,Bool.or_true]))
theorem Q7V {s:X0} (h:D2 s=true):s.length≤32:=by
 cases s with
 | nil=>simp
 | cons c r=>simp only[D2,Bool.and_eq_true] at h;exact Q5U h.1
theorem Ii {a:List Cla} (h:Cd a=none):T5 a:=by
 unfold Cd at h
 rw[List.find?_eq_none] at h
 unfold T5
 rw[List.nodup_iff_pairwise_ne,List.pairwise_iff_getElem]
 intro i j f b d e
 simp only[List.length_map] at f b
 have:=h j (by simp;exact b)
 apply this
 simp only[List.getElem_map] at e
 cases k:Z1 (a.take j) (Y2 a j) with
 | some _=>rfl
 | none=>
  have c:=List.findIdx?_eq_none_iff.1 k a[i] (List.mem_take_iff_getElem.2 ⟨i,by omega,rfl⟩)
  have g:Y2 a j=a[j].name:=by unfold Y2;rw[List.getD_eq_getElem?_getD,List.getElem?_eq_getElem b];rfl
  rw[g] at c
  simp[e] at c
theorem Uf: ∀c∈I0,Qn c∧Nm c∧c.like=[]:=by
 have h: ∀c∈I0,(c.like=[]∧c.methods=[]∧c.fields.length≤1∧c.name.length≤100∧ ∀f∈c.fields,f.name.length≤100∧f.kind.length≤100):=by decide
 intro c e
 obtain ⟨b,a,i,d,g⟩:=h c e
 refine ⟨⟨by rw[b];simp,by omega,by rw[a];simp,by rw[a];simp⟩,⟨d,g,by rw[a];simp⟩,b⟩
theorem X0u: ∀c∈I0,(c.name=U0∧U4 c=[[]])∨(c.name=L5∧U4 c=[U0])∨(c.name∈U5∧U4 c=[L5]):=by decide
theorem Q69 {l:List Cla} (p:T5 (Q4 l)) (y: ∀c∈l,c.name≠[]) (s: ∀c∈l,P9 (Q4 l) c=false):Jb (Q4 l):=by
 have k:lk (Q4 l) []=none:=by
  cases h:lk (Q4 l) [] with
  | none=>rfl
  | some c=>
   obtain ⟨e,hm,_⟩:=V4 h
   rcases List.mem_append.1 hm with hm | hm
   ·have: ∀c∈I0,c.name≠[]:=by decide
    exact absurd e (this c hm)
   ·exact absurd e (y c hm)
 have j:lk (Q4 l) U0=some ⟨U0,[],[],false,false,false,[],[]⟩:=p.lk (c:=⟨U0,[],[],false,false,false,[],[]⟩) (List.mem_append_left _ (by decide))
 have i:lk (Q4 l) L5=some ⟨L5,U0,[],false,false,false,[⟨Qg,O9,false⟩],[]⟩:=p.lk (c:=⟨L5,U0,[],false,false,false,[⟨Qg,O9,false⟩],[]⟩) (List.mem_append_left _ (by decide))
 have o: ∀b,¬Reach (lk (Q4 l)) [] b:=fun b h=>by obtain ⟨c,d⟩:=h.left;rw[k] at d;cases d
 have q: ∀b,Reach (lk (Q4 l)) U0 b→b=U0:=by
  intro b h
  cases h with
  | refl=>rfl
  | step d f g=>
   rw[j] at d;cases d
   simp[U4] at f;subst f
   exact absurd g (o b)
 have z: ∀b,Reach (lk (Q4 l)) L5 b→b=L5∨b=U0:=by
  intro b h
  cases h with
  | refl=>exact .inl rfl
  | step d f g=>
   rw[i] at d;cases d
   simp[U4] at f;subst f
   exact .inr (q b g)
 rintro a ⟨c,d,u,f,g⟩
 obtain ⟨e,hm,_⟩:=V4 d
 rcases List.mem_append.1 hm with hm | hm
 ·rcases X0u c hm with ⟨m,n⟩ | ⟨m,n⟩ | ⟨m,n⟩<;>rw[n] at f<;>simp at f<;>subst f
  ·exact o _ g
  ·have:=q _ g
   rw[←e,m] at this
   exact absurd this (by decide)
  ·have w: ∀x∈U5,x≠L5∧x≠U0:=by decide
   obtain ⟨t,r⟩:=w _ m
   rw[←e] at g
   rcases z _ g with h | h
   ·exact t h
   ·exact r h
 ·have:=s c hm
  unfold P9 at this
  have v:=List.any_eq_false.1 this u f
  apply v
  rw[List.contains_iff_mem,Uv,e];exact g
end Go.Hm
namespace Go.Proofs.YtjdiakhipmggjaaGreatDoor
open Go.Emb Go.RowKit Go.Kd Go.Hm
theorem Gl {s:X0} (h:right s=true):s.length≤38:=by
 simp only[right,Bool.and_eq_true,decide_eq_true_eq] at h
 have e:=Q1H s
 have:(base s).1.length≤32:=by
  have d:=h.2
  have a:=Mh d
  cases b:(base s).1 with
  | nil=>simp
  | cons c r=>
   rw[b] at a
   simp only[name,Bool.and_eq_true,decide_eq_true_eq] at a
   exact a.1.1
 omega
theorem By {c:Cla} (h:D0 c=0):Qn c∧Nm c∧c.name≠[]:=by
 unfold D0 at h
 split at h
 ·cases h
 ·rename_i b
  split at h
  ·rename_i g
   simp only[Zu,Bool.or_eq_true,decide_eq_true_eq,not_or,List.any_eq_true,not_exists,not_and] at b
   obtain ⟨⟨⟨o,y⟩,z⟩,v⟩:=b
   simp only[Ni,Bool.and_eq_true] at g
   obtain ⟨⟨⟨⟨⟨⟨⟨⟨r,t⟩,w⟩,s⟩,u⟩,B⟩,A⟩,l⟩,q⟩:=g
   have a:M6 c.name=true:=List.all_eq_true.1 r c.name (by simp)
   have d: ∀m∈c.methods,m.params.length≤32∧m.catches.length≤32∧m.code.length≤200:=fun m b=>by
    have:=o m b
    simp only[Wk,Bool.or_eq_true,decide_eq_true_eq,not_or] at this
    omega
   refine ⟨⟨by omega,by omega,by omega,fun m b=>by have:=d m b;unfold SmM;omega⟩,⟨by have:=X0N a;omega,fun f n=>?_,fun m b=>?_⟩,fun e=>by rw[e] at a;simp[M6] at a⟩
   ·have:=List.all_eq_true.1 l f n
    simp only[Ej,Bool.and_eq_true] at this
    have i:=Q7V this.1
    have j:=Gl this.2
    omega
   ·have:=List.all_eq_true.1 q m b
    simp only[I9,Bool.and_eq_true,Bool.or_eq_true,decide_eq_true_eq,List.all_eq_true] at this
    obtain ⟨⟨⟨_,i⟩,j⟩,_⟩:=this
    refine ⟨?_,fun p k=>by have:=Gl (i p k);omega⟩
    rcases j with e | e
    ·rw[e];simp
    ·have:=Gl e;omega
  ·cases h
end Go.Proofs.YtjdiakhipmggjaaGreatDoor

namespace Go.Hm
open Go.Kd
theorem Wn {α:Type} {f:α→Int} {xs:List α} {n:Nat} (h:n<xs.length) (a:O7 f xs 0=O7 f (xs.drop n) n):O7 f xs 0=if f xs[n]=0 then O7 f (xs.drop (n+1)) (n+1) else some (n,f xs[n]):=by
 rw[a,List.drop_eq_getElem_cons h];rfl
theorem Q8v {a:List Cla} {n:Nat} (h:n<a.length) (k:X0):Z1 (a.take (n+1)) k=match Z1 (a.take n) k with
 | some i=>some i
 | none=>if a[n].name=k then some n else none:=by
 unfold Z1
 rw[List.take_add_one,List.getElem?_eq_getElem h]
 simp only[Option.toList_some,List.findIdx?_append]
 cases (a.take n).findIdx? fun c=>decide (c.name=k) with
 | some i=>rfl
 | none=>
  simp only[Option.none_or,List.findIdx?_cons,List.findIdx?_nil,List.length_take]
  by_cases e:a[n].name=k
  ·simp[e];omega
  ·simp[e]
end Go.Hm
namespace Go.Proofs.YtjdiakhipmggjaaGreatDoor
open Go.Emb Go.RowKit Go.Kd Go.Hm
variable {w : World} {K : Value → World → Prop} {σ : Q6} {v : Value} {l : List Cla}
theorem Ti {a:List Cla} {n:Nat} (h:n<a.length):Y2 a n=a[n].name:=by unfold Y2;rw[List.getD_eq_getElem?_getD,List.getElem?_eq_getElem h];rfl
set_option maxHeartbeats 1000000 in
theorem X46 {lv:Value} (hs:X2 w σ) (hg:Glb σ) (hl:Sl 8 V0 σ lv l) (hlen:l.length≤1000) (hsm: ∀c∈l,Qn c)
 (h1: ∀i e w' σ',Ce D0 l=some (i,e)→Stp w σ w' σ'→K (.tuple #[.pointer none,I i,I e]) w')
 (h0: ∀v w' σ',Ce D0 l=none→Stp w σ w' σ'→Tab σ' v (Q4 l)→Ok (Q4 l)→T5 (Q4 l)→K (.tuple #[v,I 0,I 0]) w'):Q1 P F.cL [lv] w K:=Q8z (by
 unfold Q2P
 have hgl:I0.length=8:=rfl
 have hal:(Q4 l).length=8+l.length:=by simp[Q4,hgl]
 refine X1J hs hg fun x0 w1 σ1 hk1 ha1=>?_
 refine Q3p hk1.sat fun r w2 hr hk2 hm2=>?_
 have ha2:=ha1.up hk2
 have hx0:x0.cells= #[x0]∧x0.oneCell'=true:=Ju ha1
 have hx0s: ∃a n c,x0= .slice a n c:=by
  obtain ⟨cells,q1,_⟩:=ha1
  rcases q1.2 with ⟨rfl,_⟩ | ⟨g,cap,cur,rfl,_⟩<;>exact ⟨_,_,_,rfl⟩
 have hx0r:x0.ownBlock≠some r:=fun e=>by have:=(ha1.mem r e).2.1;omega
 obtain ⟨a0,n0,c0,hx0e⟩:=hx0s
 rw[hx0e]
 refine W2 (cells:= #[.slice a0 n0 c0, .map (some r)]) (by kernel_rfl) ?_
 rw[←hx0e]
 refine Ev (cs:=[x0, .map (some r)]) hk2.sat fun bt w3 σ3 hbt hk3 hbm=>?_
 have hS3:=(hk1.trans hk2).trans hk3
 have ha3:=ha2.up hk3
 have hm3:=hm2.up hk3
 have hrw:w.heap.size≤r:=Nat.le_trans hk1.bel.size hr
 have hrl:r<w2.heap.size:=hm2.lt
 have hbtw:w.heap.size≤bt:=M9 hbt (hk1.trans hk2)
 have hrbt:r≠bt:=by omega
 have hx0b:x0.ownBlock≠some bt:=fun e=>by have:=(ha2.mem bt e).2.1;omega
 rw[L9,fa]
 refine Ye hbm rfl ?_
 refine Q8S ha3 ?_
 rw[hgl]
 have hl3:=hl.up hS3
 refine Q8 hl3 ?_
 -- classes, each by itself
 refine U3 l.length (fun n w'=> ∃σ' x,Stp w σ w' σ'∧SLe σ3 σ'∧Y1 σ' w' bt [x, .map (some r)]∧V6 w.heap.size T.b 8 V0 σ' w' x (I0++l.take n)∧C5 σ' w' r []∧x.ownBlock≠some bt∧x.ownBlock≠some r∧O7 D0 l 0=O7 D0 (l.drop n) n)
  ⟨σ3,x0,hS3,SLe.refl _,hbm,by simpa using ha3,hm3,hx0b,hx0r,rfl⟩ fun n w4 d hn hinv=>?_
 obtain ⟨σ4,x,hS4,le4,hb4,ha4,hm4,hxb,hxr,hfb⟩:=hinv
 refine Z2 ?_
 refine Q7 (fun hh=>?_) (fun hh=>?_)
 ·have hn':n<l.length:=by simpa using hh
  refine M7 (hl3.lift le4) hn' fun p cells hl1 hl2 hr1=>?_
  refine Y4 hS4.sat hl1 hl2 ?_
  refine Y8 hS4.sat (by rfl) hl2 (Rep.one hr1) fun q w5 σ5 hk5 hq5=>?_
  have hS5:=hS4.trans hk5
  have hr5:=RCl_lift hr1 ⟨hk5.le⟩
  refine Y4 hk5.sat hq5 hl2 ?_
  have hsmn:=hsm _ (List.getElem_mem hn')
  refine X2w hk5.sat (hg.lift ⟨hS5.le⟩) hr5 hsmn.1 fun w6 σ6 hk6=>?_
  have hS6:=hS5.trans hk6
  have hfb2:=Wn hn' hfb
  refine Ut ?_
  refine Q7 (fun hh2=>?_) (fun hh2=>?_)
  ·have hne: ¬D0 l[n]=0:=by simpa using hh2
   rw[if_neg hne] at hfb2
   refine h1 _ _ _ _ ?_ hS6
   unfold Ce
   rw[hfb2]
  ·have hz:D0 l[n]=0:=by simpa using hh2
   rw[if_pos hz] at hfb2
   have hk56:=hk5.trans hk6
   have hb6:=hb4.up hk56
   have ha6:=ha4.up hk56
   have hm6:=hm4.up hk56
   have hq6:=hq5.up hk6
   have hr6:=RCl_lift hr5 ⟨hk6.le⟩
   have hxs: ∀k,x.ownBlock=some k→k<w6.heap.size:=fun k hk=>(ha6.mem k hk).2.1
   refine U2 hk6.sat ?_
   refine X4 (.pointer (some ⟨bt,0,none⟩)) (fun w hb=>by rw[L9];exact X6 rfl) ?_
   refine X4 (.pointer (some ((⟨bt,0,none⟩:Addr).add 0))) (fun t w hb e=>by rw[e,fa];exact X6 rfl) ?_
   refine X4 x (fun t w hb e=>by rw[e];exact Ye (hb6.step hb.stp) rfl (X6 rfl)) ?_
   refine X4 (.agg cells.toArray) (fun w hb=>Y4 hb.sat hq6 hl2 (X6 rfl)) ?_
   refine Wi (Φ:=fun σ' v=> ∃ds:List Value,v= .agg ds.toArray∧ds.length=8∧V0 σ' l[n] ds) (fun t w hb e=>by
    rw[e];exact X16 hb.sat hr6 hsmn fun lv fv mv w' σ' hk hrc=>Rr hb hk ⟨_,rfl,rfl,hrc⟩) ?_
   refine Wi (w:=w6) (σ:=σ6) (Φ:=fun σ' v=>Sl 8 V0 σ' v [l[n]]) (fun t w hb e=>by
    obtain ⟨σ',hk,ds,rfl,hd1,hd2⟩:=e
    refine P1 (R:=V0) (sz:=8) hk.sat [.agg ds.toArray] [l[n]] rfl rfl (by simpa [Value.cells] using hd1) rfl ⟨by simpa [Value.cells] using hd2,trivial⟩ fun u w2 σ2 hk2 hu=>?_
    exact ⟨hk2.bel,σ2,hk.trans hk2,hu⟩) ?_
   rintro t43 t44 t45 t46 t47 t48 w7 hb7 _ _ e45 _ _ ⟨σ8,hk8,hu8⟩
   subst e45
   have hS8:=hS6.trans hk8
   have hb8:=hb6.up hk8
   have ha8:=ha6.up hk8
   have hm8:=hm6.up hk8
   have hbl:=hb6.lt
   have hml:=hm6.lt
   refine Wh hS8 ha8 hu8 rfl (by simp[hgl];omega) (by simp[hgl];omega) fun x' w9 hn9 hS9 ha9 hat9=>?_
   have hb9:=hb8.nx hn9 hxb
   have hm9:=hm8.nx hn9 hxr
   have hxb':x'.ownBlock≠some bt:=fun e=>by
    rcases hat9 with e2 | e2
    ·exact hxb (e2▸e)
    ·have:=e2 bt e;have:=hk8.bel.size;omega
   have hxr':x'.ownBlock≠some r:=fun e=>by
    rcases hat9 with e2 | e2
    ·exact hxr (e2▸e)
    ·have:=e2 r e;have:=hk8.bel.size;omega
   obtain ⟨hxc1,hxc2⟩:=Ju ha9
   rw[L9,fa]
   refine Ud hb9 (by simp) hxc1 hxc2 fun w10 u10 hb10=>?_
   have hS10:=u10.stp hS9 hbtw hb9.1
   have k10:Kpt (fun k=>k=bt) w9 w10:=Kpt.of_upd u10 rfl
   refine O4 ?_
   refine Y5 hl3.max hn' ⟨σ8,x',hS10,le4.more ⟨fun b o e=>hk8.le _ _ (hk56.le _ _ e)⟩,hb10,?_,hm9.kp k10 hrbt,hxb',hxr',hfb2⟩
   have:=ha9.kp k10 fun k hk e=>hxb' (e▸hk)
   rw[List.take_add_one,List.getElem?_eq_getElem hn',←List.append_assoc]
   exact this
 have hn': ¬n<l.length:=by simpa using hh
 rw[List.take_of_length_le (by omega)] at ha4
 rw[List.drop_eq_nil_of_le (by omega)] at hfb
 have hfb:O7 D0 l 0=none:=hfb
 have hck:=P8 hfb
 have hcf: ∀c∈l,Qn c∧Nm c∧c.name≠[]:=fun c hc=>By (hck c hc)
 have hsmall: ∀c∈Q4 l,Qn c:=fun c hc=>by
  rcases List.mem_append.1 hc with hc | hc
  ·exact (Uf c hc).1
  ·exact (hcf c hc).1
 have hnmall: ∀c∈Q4 l,Nm c:=fun c hc=>by
  rcases List.mem_append.1 hc with hc | hc
  ·exact (Uf c hc).2.1
  ·exact (hcf c hc).2.1
 have hlenall:(Q4 l).length≤100000:=by omega
 unfold Ce at h1 h0
 rw[hfb] at h1 h0
 simp only at h1 h0
 -- from now on the classes stay
 obtain ⟨σ5,hS5,hv5,le5,old5⟩:=ha4.keep hS4
 have hb5:Y1 σ5 w4 bt _:=⟨(old5 bt fun e=>hxb e.symm).trans hb4.1,hb4.2⟩
 have hm5:C5 σ5 w4 r []:=⟨(old5 r fun e=>hxr e.symm).trans hm4.1,hm4.2⟩
 obtain ⟨σ6,hS6,hb6,le6,old6⟩:=hb5.keep hS5 hbtw
 have hm6:C5 σ6 w4 r []:=⟨(old6 r hrbt).trans hm5.1,hm5.2⟩
 have hv6:Sl 8 V0 σ6 x (Q4 l):=hv5.le le6
 clear hb5 hb4 ha4
 rw[L9,fa]
 refine ld hS6.sat hb6 rfl ?_
 refine Q8 hv6 ?_
 refine U3 (Q4 l).length (fun n w'=> ∃σ' m,Stp w σ w' σ'∧SLe σ6 σ'∧C5 σ' w' r m∧(∀k,C4 m k=(Z1 ((Q4 l).take n) k).map (fun i:Nat=>I (i:Int)))∧ ∀j,j<n→(Z1 ((Q4 l).take j) (Y2 (Q4 l) j)).isSome=false)
  ⟨σ6,[],hS6,SLe.refl _,hm6,by simp[C4,Z1],by intro j hj;omega⟩ fun n w5 d hn2 hinv=>?_
 obtain ⟨σ7,m,hS7,le7,hm7,hlm,hnd⟩:=hinv
 refine Z2 ?_
 refine Q7 (fun hh2=>?_) (fun hh2=>?_)
 ·have hn3:n<(Q4 l).length:=by simpa using hh2
  refine M7 (hv6.lift le7) hn3 fun p cells hl1 hl2 hr1=>?_
  refine Y4 hS7.sat hl1 hl2 ?_
  refine Y8 hS7.sat (by rfl) hl2 (Rep.one hr1) fun q w6 σ8 hk8 hq8=>?_
  obtain ⟨lv',fv,mv,rfl,f1,f2,f3,f4,f5⟩:=hr1
  have hS8:=hS7.trans hk8
  have le8:SLe σ6 σ8:=le7.more ⟨hk8.le⟩
  have hm8:=hm7.up hk8
  have hb8:=hb6.lift le8
  rw[fa]
  refine ld hk8.sat hq8 rfl ?_
  refine Eb ?_
  unfold Jm
  rw[L9,fa]
  refine ld hk8.sat hb8 rfl ?_
  refine X01 X8 hm8.2 _ ?_
  refine J6 (vs:=[_,_]) rfl ?_
  refine J6 (vs:=[_,_]) rfl ?_
  have hna:=Ti hn3
  have hfd:=hlm (Q4 l)[n].name
  cases hfc:Z1 ((Q4 l).take n) (Q4 l)[n].name with
  | some i=>
   rw[hfc] at hfd
   rw[hfd]
   refine J4 ?_
   have hdup:Cd (Q4 l)=some n:=by
    unfold Cd
    rw[List.find?_range_eq_some]
    refine ⟨by rw[hna,hfc];rfl,by simpa using hn3,fun j hj=>by rw[hnd j hj];rfl⟩
   refine Zg ⟨by omega,by omega⟩ ?_
   refine h1 _ _ _ _ ?_ hS8
   rw[hdup]
   rfl
  | none=>
   rw[hfc] at hfd
   rw[hfd]
   refine Z9 ?_
   refine U2 hk8.sat ?_
   refine X4 (.pointer (some ⟨bt,0,none⟩)) (fun w hb=>by rw[L9];exact X6 rfl) ?_
   refine X4 (.pointer (some ((⟨bt,0,none⟩:Addr).add 1))) (fun t w hb e=>by rw[e,fa];exact X6 rfl) ?_
   refine X4 (.pointer (some (q.add 0))) (fun w hb=>by rw[fa];exact X6 rfl) ?_
   refine X4 (.map (some r)) (fun t w hb e=>by rw[e];exact ld hb.sat hb8 rfl (X6 rfl)) ?_
   refine X4 (S (Q4 l)[n].name) (fun t w hb e=>by rw[e];exact ld hb.sat hq8 rfl (X6 rfl)) ?_
   rintro t71 t72 t74 t73 t75 w9 hb9 _ _ _ rfl rfl
   refine Kb X8 (hm8.up hb9.stp) _ (I n) fun w10 u10 hm10=>?_
   have hS9:=hS8.trans hb9.stp
   have hS10:=u10.stp hS9 hrw hm10.1
   refine O4 ?_
   refine Y5 (by omega) hn3 ⟨σ8,_,hS10,le8,hm10,fun k=>?_,fun j hj=>?_⟩
   ·rw[Q4J,Q8v hn3 k]
    by_cases e:(Q4 l)[n].name=k
    ·subst e
     rw[if_pos rfl,hfc];simp
    ·rw[if_neg e,hlm k]
     cases Z1 ((Q4 l).take n) k with
     | some i=>rfl
     | none=>simp[e]
   ·by_cases e:j=n
    ·subst e;rw[hna,hfc];rfl
    ·exact hnd j (by omega)
 have hn3: ¬n<(Q4 l).length:=by simpa using hh2
 have hne:n=(Q4 l).length:=by omega
 subst hne
 rw[List.take_of_length_le (Nat.le_refl _)] at hlm
 have hdup:Cd (Q4 l)=none:=by
  unfold Cd
  rw[List.find?_eq_none]
  intro j hj
  rw[hnd j (by simpa using hj)];simp
 rw[hdup] at h1 h0
 simp only at h1 h0
 have hown:=Ii hdup
 obtain ⟨σ8,hS8,hm8,le8,_⟩:=hm7.keep hS7 hrw
 have le68:SLe σ6 σ8:=le7.more ⟨le8⟩
 have ht8:Tab σ8 (.pointer (some ⟨bt,0,none⟩)) (Q4 l):=⟨⟨bt,0,none⟩,x,r,m,rfl,hb6.lift le68,hv6.lift le68,hm8,hlm⟩
 have hb8:=hb6.lift le68
 have hv8:=hv6.lift le68
 clear hm7 hm8 hh2 hn3 hn2 hh hn' hn hnd
 have hdr:(Q4 l).drop 8=l:=by simp[Q4,hgl]
 rw[L9,fa]
 refine ld hS8.sat hb8 rfl ?_
 refine Ei hv8 (some (I (8:Nat))) none 8 (Q4 l).length (.inr rfl) (.inl ⟨rfl,rfl⟩) (by omega) (Nat.le_refl _) fun v9 hv9=>?_
 rw[hdr,List.take_of_length_le (by omega)] at hv9
 refine Q8 hv9 ?_
 refine U3 l.length (fun n w'=> ∃σ',Stp w σ w' σ'∧SLe σ8 σ'∧O7 (fun c=>(O8 (Q4 l) c:Int)) l 0=O7 (fun c=>(O8 (Q4 l) c:Int)) (l.drop n) n) ⟨σ8,hS8,SLe.refl _,rfl⟩ fun n w6 d hn hinv=>?_
 obtain ⟨σ9,hS9,le9,hfu⟩:=hinv
 refine Z2 ?_
 refine Q7 (fun hh=>?_) (fun hh=>?_)
 ·have hn':n<l.length:=by simpa using hh
  refine M7 (hv9.lift le9) hn' fun p cells hl1 hl2 hr1=>?_
  refine Y4 hS9.sat hl1 hl2 ?_
  refine Y8 hS9.sat (by rfl) hl2 (Rep.one hr1) fun q w7 σ10 hk10 hq10=>?_
  have hS10:=hS9.trans hk10
  refine Y4 hk10.sat hq10 hl2 ?_
  have hfu2:=Wn hn' hfu
  refine X0x hk10.sat (ht8.lift (le9.more ⟨hk10.le⟩)) (RCl_lift hr1 ⟨hk10.le⟩) fun w8 σ11 hk11=>?_
  refine Ut ?_
  refine Q7 (fun hh2=>?_) (fun hh2=>?_)
  ·have hne: ¬(O8 (Q4 l) l[n]:Int)=0:=by simpa using hh2
   rw[if_neg hne] at hfu2
   refine h1 _ _ _ _ ?_ (hS10.trans hk11)
   rw[hfu2]
  ·have hz:(O8 (Q4 l) l[n]:Int)=0:=by simpa using hh2
   rw[if_pos hz] at hfu2
   refine O4 ?_
   exact Y5 hl3.max hn' ⟨σ11,hS10.trans hk11,le9.more ⟨fun b o e=>hk11.le _ _ (hk10.le _ _ e)⟩,hfu2⟩
 have hn': ¬n<l.length:=by simpa using hh
 rw[List.drop_eq_nil_of_le (by omega)] at hfu
 have hfu:O7 (fun c=>(O8 (Q4 l) c:Int)) l 0=none:=hfu
 rw[hfu] at h1 h0
 simp only at h1 h0
 have hup:=P8 hfu
 have ht9:=ht8.lift le9
 clear hh hn' hn
 rw[L9,fa]
 refine ld hS9.sat (hb8.lift le9) rfl ?_
 refine Ei (hv8.lift le9) (some (I (8:Nat))) none 8 (Q4 l).length (.inr rfl) (.inl ⟨rfl,rfl⟩) (by omega) (Nat.le_refl _) fun v10 hv10=>?_
 rw[hdr,List.take_of_length_le (by omega)] at hv10
 rw[Qb]
 refine Fq (P9 (Q4 l)) hS9.sat hv10 (fun c cs w7 K hc hs7 hr hlen hK=>Z7 (first:=[.pointer (some ⟨bt,0,none⟩)]) (caps:=[]) ?_) fun w7 hb7=>?_
 ·exact X2t hs7 ht9 hlenall hsmall hr fun w' σ' hk=>hK w' hk.bel
 have hS10:=hS9.trans (Stp.of_below hS9.sat hb7)
 refine P5 ?_
 rw[T7]
 cases hlo:l.findIdx? (P9 (Q4 l)) with
 | some i=>
  refine J4 ?_
  refine h1 _ _ _ _ ?_ hS10
  rw[hlo];rfl
 | none=>
  rw[hlo] at h1 h0
  simp only at h1 h0
  refine Z9 ?_
  have hlo': ∀c∈l,P9 (Q4 l) c=false:=fun c hc=>List.findIdx?_eq_none_iff.1 hlo c hc
  have hacy:=Q69 hown (fun c hc=>(hcf c hc).2.2) hlo'
  have hfull:X0G (Q4 l):=fun c hc u hu=>by
   rcases List.mem_append.1 hc with hc | hc
   ·rw[(Uf c hc).2.2] at hu;simp at hu
   ·have:=hup c hc
    unfold O8 at this
    split at this
    ·simp at this
    ·split at this
     ·simp at this
     ·rename_i hnb
      have hnb:c.like.any (R5 (Q4 l))=false:=eq_false_of_ne_true hnb
      have:=List.any_eq_false.1 hnb u hu
      unfold R5 at this
      cases hd:lk (Q4 l) u with
      | none=>rw[hd] at this;simp at this
      | some d=>exact ⟨d,rfl⟩
  have hok:Ok (Q4 l):=⟨hacy,hlenall,hsmall,hfull,hnmall⟩
  refine X2h (frm:=8) hS10.sat (ht9.lift ⟨(Stp.of_below hS9.sat hb7).le⟩) hacy hown hlenall hsmall (by omega) (by omega) fun v11 w8 σ11 hk11 hv11 hol hoi=>?_
  have hS11:=hS10.trans hk11
  have ht11:=ht9.lift ⟨fun b o e=>hk11.le _ _ e⟩
  refine Q8 hv11 ?_
  have hil:(ints (V8 (Q4 l) 8)).length=(V8 (Q4 l) 8).length:=by simp
  rw[hil]
  refine U3 (V8 (Q4 l) 8).length (fun n w'=> ∃σ',Stp w σ w' σ'∧SLe σ11 σ'∧ ∀j∈(V8 (Q4 l) 8).take n,V7 (Q4 l) ((Q4 l).getD j Cla.zero)=0) ⟨σ11,hS11,SLe.refl _,by simp⟩ fun n w9 d hn hinv=>?_
  obtain ⟨σ12,hS12,le12,hno⟩:=hinv
  refine Z2 ?_
  refine Q7 (fun hh=>?_) (fun hh=>?_)
  ·have hn':n<(V8 (Q4 l) 8).length:=by simpa using hh
   refine M7 (hv11.lift le12) (by rw[hil];exact hn') fun p cells hl1 hl2 hr1=>?_
   obtain ⟨rfl,_⟩:=hr1
   refine X7 hS12.sat hl1 rfl ?_
   simp only[List.getElem_map]
   rw[L9,fa]
   have le8x:SLe σ8 σ12:=le9.more (SLe.more ⟨hk11.le⟩ le12)
   refine ld hS12.sat (hb8.lift le8x) rfl ?_
   have hji:=hoi _ (List.getElem_mem hn')
   refine M7 (hv8.lift le8x) hji fun p2 cells hl1 hl2 hr1=>?_
   refine Y4 hS12.sat hl1 hl2 ?_
   have hat:(Q4 l).getD (V8 (Q4 l) 8)[n] Cla.zero=(Q4 l)[(V8 (Q4 l) 8)[n]]:=by rw[List.getD_eq_getElem?_getD,List.getElem?_eq_getElem hji];rfl
   have hmem:=List.getElem_mem hji
   refine Q95 hS12.sat (ht11.lift le12) hok hr1 (hsmall _ hmem) (hnmall _ hmem) fun w10 σ13 hk13=>?_
   have hS13:=hS12.trans hk13
   refine Ut ?_
   refine Q7 (fun hh2=>?_) (fun hh2=>?_)
   ·have hne: ¬V7 (Q4 l) (Q4 l)[(V8 (Q4 l) 8)[n]]=0:=by simpa using hh2
    refine Zg ⟨by omega,by omega⟩ ?_
    have hfind:(V8 (Q4 l) 8).find? (fun j=> !decide (V7 (Q4 l) ((Q4 l).getD j Cla.zero)=0))=some (V8 (Q4 l) 8)[n]:=by
     rw[List.find?_eq_some_iff_getElem]
     refine ⟨by rw[hat];simpa using hne,n,hn',rfl,fun j hj=>?_⟩
     have:=hno _ (List.mem_take_iff_getElem.2 ⟨j,by omega,rfl⟩)
     rw[this];simp
    have:=h1 (((V8 (Q4 l) 8)[n]:Int)-8) (V7 (Q4 l) (Q4 l)[(V8 (Q4 l) 8)[n]]) w10 σ13 (by rw[hfind];simp only[hat]) hS13
    exact this
   ·have hz:V7 (Q4 l) (Q4 l)[(V8 (Q4 l) 8)[n]]=0:=by simpa using hh2
    refine O4 ?_
    refine Y5 (by omega) hn' ⟨σ13,hS13,le12.more ⟨hk13.le⟩,fun j hj=>?_⟩
    rw[List.take_add_one,List.getElem?_eq_getElem hn'] at hj
    rcases List.mem_append.1 hj with hj | hj
    ·exact hno j hj
    ·simp at hj;subst hj;rw[hat];exact hz
  ·have hn': ¬n<(V8 (Q4 l) 8).length:=by simpa using hh
   rw[List.take_of_length_le (by omega)] at hno
   have hfind:(V8 (Q4 l) 8).find? (fun j=> !decide (V7 (Q4 l) ((Q4 l).getD j Cla.zero)=0))=none:=by
    rw[List.find?_eq_none]
    intro j hj
    rw[hno j hj];simp
   rw[hfind] at h0
   exact h0 _ _ _ rfl hS12 (ht11.lift le12) hok hown)
end Go.Proofs.YtjdiakhipmggjaaGreatDoor

namespace Go.Hm
open Go.Kd
def Q9v (m:Hm.Met):Bool:= !(decide (50<m.code.length)||decide (8<m.params.length)||decide (8<m.catches.length))
def X0Z (c:Cla):Bool:= !(decide (6<c.like.length)||decide (6<c.fields.length)||decide (6<c.methods.length))&&c.methods.all Q9v
def X0h (l:List Cla):Bool:= !decide (12<l.length)&&l.all X0Z
theorem Q90 {l:List Cla} (h:X0h l=true):l.length≤12∧ ∀c∈l,X0Z c=true:=by
 simp only[X0h,Bool.and_eq_true,Bool.not_eq_true',decide_eq_false_iff_not,List.all_eq_true] at h
 exact ⟨by omega,h.2⟩
theorem X2I {l:List Cla} (h:X0h l=true): ∀c∈l,Qn c:=by
 intro c e
 have:=(Q90 h).2 c e
 simp only[X0Z,Q9v,Bool.and_eq_true,Bool.not_eq_true',Bool.or_eq_false_iff,decide_eq_false_iff_not,List.all_eq_true] at this
 obtain ⟨⟨⟨a,b⟩,g⟩,d⟩:=this
 refine ⟨by omega,by omega,by omega,fun m f=>?_⟩
 obtain ⟨⟨p,q⟩,r⟩:=d m f
 exact ⟨by omega,by omega,by omega⟩
end Go.Hm
namespace Go.Proofs.YtjdiakhipmggjaaGreatDoor
open Go.Emb Go.RowKit Go.Kd Go.Hm
variable {w : World} {K : Value → World → Prop} {σ : Q6} {v : Value} {l : List Cla}
end Go.Proofs.YtjdiakhipmggjaaGreatDoor

namespace Go.Proofs.YtjdiakhipmggjaaGreatDoor
open Go.Emb Go.RowKit Go.Kd Go.Hm
variable {w : World} {K : Value → World → Prop} {σ : Q6} {v : Value} {l : List Cla}
theorem X4g:P.underlying T.r=some (.pointer T.a0):=by kernel_rfl
theorem Q5J (d:Nat) (o:Option Addr):(Op.equalIn (d+1) T.r (.pointer o) (.pointer none)).run P w= .ok o.isNone w:=by
 cases o<;>simp[Op.equalIn,run_underlying X4g]
theorem X34 {a:Addr} {c b:Operand} (h:K (.bool false) w):Q3 P .eql T.r c b (.pointer (some a)) (.pointer none) w K:=by
 have e:(Op.equal T.r (.pointer (some a)) (.pointer none)).run P w= .ok false w:=Q5J 9999 _
 unfold Q3
 rw[X9 (v:= .bool false) (w':=w) (by simp[eqGuard,Go.binOp,e])]
 exact h
end Go.Proofs.YtjdiakhipmggjaaGreatDoor

namespace Go.Hm
open Go.Kd
theorem Q6t {l:List Cla} {frm:Nat}: ∀(f:Nat) (a:List Nat) (i:Nat),(∀y∈a,y∈A5 l frm f a i)∧(0<f→frm≤i→i∈A5 l frm f a i):=by
 intro f
 induction f with
 | zero=>intro a i;exact ⟨fun y b=>b,fun h=>by omega⟩
 | succ f g=>
  intro a i
  have c: ∀(e:List X0) (o:List Nat),∀y∈o,y∈e.foldl (fun a n=>A5 l frm f a ((Z1 l n).getD 0)) o:=by
   intro e
   induction e with
   | nil=>intro o y b;exact b
   | cons u r d=>intro o y b;exact d _ y ((g o _).1 y b)
  simp only[A5]
  split
  ·exact ⟨fun y b=>b,fun _ h=>by omega⟩
  ·split
   ·rename_i h;exact ⟨fun y b=>b,fun _ _=>h⟩
   ·exact ⟨fun y b=>List.mem_append_left _ (c _ _ y b),fun _ _=>by simp⟩
theorem Q9Q {l:List Cla} {frm i:Nat} (e:frm≤i) (f:i<l.length):i∈V8 l frm:=by
 unfold V8
 have key: ∀(is b:List Nat),(∀y∈b,y∈is.foldl (fun b i=>A5 l frm (l.length+1) b i) b)∧(i∈is→i∈is.foldl (fun b i=>A5 l frm (l.length+1) b i) b):=by
  intro is
  induction is with
  | nil=>intro b;exact ⟨fun y d=>d,fun h=>by simp at h⟩
  | cons a r c=>
   intro b
   refine ⟨fun y d=>(c _).1 y ((Q6t _ _ _).1 y d),fun h=>?_⟩
   rcases List.mem_cons.1 h with rfl | h
   ·exact (c _).1 _ ((Q6t _ _ _).2 (by omega) e)
   ·exact (c _).2 h
 refine (key _ _).2 ?_
 rw[List.mem_drop_iff_getElem]
 exact ⟨i-frm,by simp;omega,by simp;omega⟩
theorem Q9g {s:X0} (h:M6 s=true):name s=true:=Mh (by rw[h,Bool.or_true])
theorem Q67 {a:X0} (h:name a=true):arr a=false:=by
 cases e:arr a with
 | false=>rfl
 | true=>
  exfalso
  have d:2≤a.length∧a.drop (a.length-2)=[91,93]:=by simpa [arr] using e
  have b:(93:UInt8)∈a:=List.mem_of_mem_drop (i:=a.length-2) (by rw[d.2];simp)
  cases a with
  | nil=>simp at b
  | cons c r=>
   simp only[name,Bool.and_eq_true,List.all_eq_true] at h
   have:=h.2 _ b
   revert this;decide
end Go.Hm
namespace Go.Proofs.YtjdiakhipmggjaaGreatDoor
open Go.Emb Go.RowKit Go.Kd Go.Hm
theorem Q96 {a:X0} (h:name a=true):base a=(a,0):=by rw[Xz,Q67 h];simp
theorem Mk {s:X0} (h:M6 s=true):arr s=false∧base s=(s,0)∧right s=true∧plain s=false∧elem s=[]∧s≠H7∧s≠[]:=by
 have b:=Hm.Q9g h
 have d:=Q67 b
 have a:=Q96 b
 refine ⟨d,a,?_,?_,by simp[elem,d],?_,?_⟩
 ·simp[right,a,h]
 ·cases c:plain s with
  | false=>rfl
  | true=>
   simp only[plain,Bool.or_eq_true,decide_eq_true_eq] at c
   rcases c with (e | e) | e<;>subst e<;>revert h<;>decide
 ·rintro rfl;revert h;decide
 ·rintro rfl;revert h;decide
structure Wf (l : List Cla) : Prop where
  ck : ∀ c ∈ l, D0 c = 0
  own : T5 (Q4 l)
  acy : Jb (Q4 l)
  up : ∀ c ∈ l, O8 (Q4 l) c = 0
  mem : ∀ c ∈ l, V7 (Q4 l) c = 0
theorem X41 {l:List Cla} (h:Ce D0 l=none):Wf l:=by
 unfold Ce at h
 split at h
 ·cases h
 rename_i p
 split at h
 ·cases h
 rename_i k
 split at h
 ·cases h
 rename_i o
 split at h
 ·cases h
 rename_i m
 split at h
 ·cases h
 rename_i n
 have d:=P8 p
 have a:=Ii k
 have g: ∀c∈l,P9 (Q4 l) c=false:=fun c b=>List.findIdx?_eq_none_iff.1 m c b
 refine ⟨d,a,Q69 a (fun c b=>(By (d c b)).2.2) g,fun c b=>by have:=P8 o c b;omega,fun c b=>?_⟩
 obtain ⟨i,j,rfl⟩:=List.getElem_of_mem b
 have f:I0.length=8:=rfl
 have:=List.find?_eq_none.1 n (8+i) (Q9Q (by omega) (by simp[Q4,f];omega))
 have e:(Q4 l).getD (8+i) Cla.zero=l[i]:=by
  rw[List.getD_eq_getElem?_getD,Q4,List.getElem?_append_right (by omega),f,show 8+i-8=i by omega,List.getElem?_eq_getElem j];rfl
 rw[e] at this
 simpa using this
section
variable {l : List Cla} (wf : Wf l)
include wf
theorem Wf.names {c:Cla} (hc:c∈Q4 l):M6 c.name=true:=by
 rcases List.mem_append.1 hc with hc | hc
 ·have: ∀c∈I0,M6 c.name=true:=by decide+kernel
  exact this c hc
 ·have:=wf.ck c hc
  unfold D0 at this
  split at this
  ·cases this
  ·split at this
   ·rename_i a
    simp only[Ni,Bool.and_eq_true] at a
    obtain ⟨⟨⟨⟨⟨⟨⟨⟨b,_⟩,_⟩,_⟩,_⟩,_⟩,_⟩,_⟩,_⟩:=a
    exact List.all_eq_true.1 b c.name (by simp)
   ·cases this
theorem Wf.lkn {n:X0} {c:Cla} (h:lk (Q4 l) n=some c):M6 n=true:=by
 obtain ⟨e,a,_⟩:=V4 h
 rw[←e];exact wf.names a
theorem Wf.root:lk (Q4 l) U0=some ⟨U0,[],[],false,false,false,[],[]⟩:=wf.own.lk (c:=⟨U0,[],[],false,false,false,[],[]⟩) (List.mem_append_left _ (by decide))
theorem Wf.fault:lk (Q4 l) L5=some ⟨L5,U0,[],false,false,false,[⟨Qg,O9,false⟩],[]⟩:=wf.own.lk (c:=⟨L5,U0,[],false,false,false,[⟨Qg,O9,false⟩],[]⟩) (List.mem_append_left _ (by decide))
theorem Wf.super {c:Cla} (hc:c∈Q4 l):c.name=U0∨ ∃d,lk (Q4 l) c.super=some d:=by
 rcases List.mem_append.1 hc with hc | hc
 ·have: ∀c∈I0,c.name=U0∨c.super=U0∨c.super=L5:=by decide
  rcases this c hc with h | h | h
  ·exact .inl h
  ·exact .inr ⟨_,h▸wf.root⟩
  ·exact .inr ⟨_,h▸wf.fault⟩
 ·right
  have:=wf.up c hc
  unfold O8 at this
  split at this
  ·cases this
  ·rename_i h
   unfold Qt at h
   cases a:lk (Q4 l) c.super with
   | none=>rw[a] at h;simp at h
   | some d=>exact ⟨d,rfl⟩
theorem Wf.toRoot: ∀(k:Nat) {n:X0} {c:Cla},P0 (Q4 l) n<k→lk (Q4 l) n=some c→Hm.Reach (lk (Q4 l)) n U0:=by
 intro k
 induction k with
 | zero=>intro n c h;omega
 | succ k g=>
  intro n c j a
  obtain ⟨e,i,_⟩:=V4 a
  rcases wf.super i with h | ⟨d,b⟩
  ·rw[←e,h];exact .refl wf.root
  ·have f:c.super∈U4 c:=by simp[U4]
   exact .step a f (g (by have:=Xs wf.acy a f b;omega) b)
theorem Wf.atRoot {b:X0} (h:Hm.Reach (lk (Q4 l)) U0 b):b=U0:=by
 cases h with
 | refl=>rfl
 | step a c f=>
  rw[wf.root] at a;cases a
  simp[U4] at c;subst c
  obtain ⟨d,e⟩:=f.left
  exact absurd (wf.lkn e) (by decide)
theorem Wf.kind {n:X0} {c:Cla} (h:lk (Q4 l) n=some c):N1 (Q4 l) n=true:=by
 obtain ⟨i,a,b,f,g,e,d⟩:=Mk (wf.lkn h)
 have:Q0O (Q4 l) n=true:=by rw[Q1G,h];rfl
 simp[N1,b,a,this]
theorem Wf.sub_iff {a b:X0}:Xr (Q4 l) a b=true↔N1 (Q4 l) a=true∧N1 (Q4 l) b=true∧(a=b∨(plain a=false∧plain b=false∧(a=H7∨(elem a≠[]∧b=U0)∨(lk (Q4 l) a≠none∧Hm.Reach (lk (Q4 l)) a b)))):=by
 unfold Xr
 cases j:N1 (Q4 l) a<;>cases k:N1 (Q4 l) b<;>simp
 by_cases e:a=b
 ·simp[e]
 cases pa:plain a<;>cases m:plain b<;>simp[e]
 by_cases f:a=H7
 ·simp[f]
 simp only[f,false_or]
 by_cases d:elem a=[]
 ·simp only[d,if_true,not_true_eq_false,false_and,false_or,Uv]
  constructor
  ·intro h;obtain ⟨c,i⟩:=h.left;exact ⟨by rw[i];simp,h⟩
  ·intro h;exact h.2
 ·simp only[d,if_false,not_false_eq_true,true_and]
  constructor
  ·exact .inl
  ·rintro (h | ⟨h,_⟩)
   ·exact h
   ·cases g:lk (Q4 l) a with
    | none=>exact absurd g h
    | some c=>exact absurd (Mk (wf.lkn g)).2.2.2.2.1 d
theorem Wf.sub_class {a b:X0} {c:Cla} (e:lk (Q4 l) a=some c):Xr (Q4 l) a b=true↔Hm.Reach (lk (Q4 l)) a b:=by
 obtain ⟨n,m,o,i,j,g,k⟩:=Mk (wf.lkn e)
 rw[wf.sub_iff]
 constructor
 ·rintro ⟨_,_,rfl | ⟨_,_,h | ⟨h,_⟩ | ⟨_,h⟩⟩⟩
  ·exact .refl e
  ·exact absurd h g
  ·exact absurd j h
  ·exact h
 ·intro h
  obtain ⟨d,f⟩:=h.right
  exact ⟨wf.kind e,wf.kind f, .inr ⟨i,(Mk (wf.lkn f)).2.2.2.1, .inr (.inr ⟨by rw[e];simp,h⟩)⟩⟩
end
end Go.Proofs.YtjdiakhipmggjaaGreatDoor

namespace Go.Proofs.YtjdiakhipmggjaaGreatDoor
open Go.Emb Go.RowKit Go.Kd Go.Hm
theorem Q6C {L:List Cla} (g:Jb L): ∀(k:Nat) {n:X0} {c:Cla},P0 L n<k→c∈chain L n→Hm.Reach (lk L) n c.name∧lk L c.name=some c:=by
 intro k
 induction k with
 | zero=>intro n c h;omega
 | succ k j=>
  intro n c p hc
  rw[T9 g] at hc
  cases a:lk L n with
  | none=>rw[a] at hc;simp at hc
  | some d=>
   rw[a] at hc
   have b:=(V4 a).1
   rcases List.mem_cons.1 hc with rfl | hc
   ·rw[b];exact ⟨.refl a,a⟩
   ·cases f:lk L d.super with
    | none=>rw[Yz f] at hc;simp at hc
    | some e=>
     have i:d.super∈U4 d:=by simp[U4]
     obtain ⟨o,m⟩:=j (by have:=Xs g a i f;omega) hc
     exact ⟨.step a i o,m⟩
theorem X0X {l:List Cla} {a:X0} (h:N1 (Q4 l) a=true) (g:plain a=false):a=H7∨elem a≠[]∨ ∃c,lk (Q4 l) a=some c:=by
 simp only[N1,Bool.or_eq_true,decide_eq_true_eq,Bool.and_eq_true] at h
 rcases h with h | ⟨e,h⟩
 ·exact .inl h
 ·by_cases d:elem a=[]
  ·right;right
   have b:arr a=false:=by
    cases b:arr a with
    | false=>rfl
    | true=>
     have i:=Q4m b e
     have:elem a=Kd.cutA a:=by simp[elem,b,e]
     rw[this] at d
     have:=K4 b
     rw[d] at this;simp at this;omega
   have f:base a=(a,0):=by rw[Xz,b];simp
   rw[f,g] at h
   have h:Q0O (Q4 l) a=true:=by simpa using h
   rw[Q1G] at h
   exact Option.isSome_iff_exists.1 h
  ·exact .inr (.inl d)
section
variable {l : List Cla} (wf : Wf l)
include wf
theorem Wf.kRoot:N1 (Q4 l) U0=true:=wf.kind wf.root
theorem Wf.lkArr {a:X0} {c:Cla} (h:lk (Q4 l) a=some c):elem a=[]:=(Mk (wf.lkn h)).2.2.2.2.1
theorem Wf.none_null:lk (Q4 l) H7=none:=by
 cases h:lk (Q4 l) H7 with
 | none=>rfl
 | some c=>exact absurd (wf.lkn h) (by decide)
theorem Wf.sub_root {a:X0} (h:N1 (Q4 l) a=true) (b:plain a=false):Xr (Q4 l) a U0=true:=by
 rw[wf.sub_iff]
 refine ⟨h,wf.kRoot, .inr ⟨b,by decide,?_⟩⟩
 rcases X0X h b with e | e | ⟨c,e⟩
 ·exact .inl e
 ·exact .inr (.inl ⟨e,rfl⟩)
 ·exact .inr (.inr ⟨by rw[e];simp,wf.toRoot _ (Nat.lt_succ_self _) e⟩)
theorem Wf.sub_refl {a:X0} (h:N1 (Q4 l) a=true):Xr (Q4 l) a a=true:=wf.sub_iff.2 ⟨h,h, .inl rfl⟩
end
end Go.Proofs.YtjdiakhipmggjaaGreatDoor

namespace Go.Proofs.YtjdiakhipmggjaaGreatDoor
open Go.Emb Go.RowKit Go.Kd Go.Hm
theorem Q6I {c:Cla} (h:D0 c=0):M6 c.name=true∧M6 c.super=true∧(c.iface=true→c.super=U0∧c.fields=[]∧c.abs=true∧ ∀m∈c.methods,m.abs=true)∧(∀m∈c.methods,m.abs=true→c.abs=true)∧c.fields.all Ej=true∧c.methods.all I9=true∧C8 Fld.name [] c.fields=true∧C8 Hm.Met.name [] c.methods=true:=by
 unfold D0 at h
 split at h
 ·cases h
 split at h
 ·rename_i j
  simp only[Ni,Bool.and_eq_true] at j
  obtain ⟨⟨⟨⟨⟨⟨⟨⟨k,u⟩,v⟩,g⟩,f⟩,s⟩,r⟩,o⟩,q⟩:=j
  refine ⟨List.all_eq_true.1 k c.name (by simp),List.all_eq_true.1 k c.super (by simp),fun n=>?_,fun m i t=>?_,o,q,s,r⟩
  ·rw[n] at g
   simp only[Bool.true_and,Bool.not_eq_true',Bool.or_eq_false_iff,Bool.not_eq_false',decide_eq_true_eq] at g
   obtain ⟨⟨⟨a,b⟩,d⟩,e⟩:=g
   refine ⟨b,d,a,fun m i=>?_⟩
   have:=List.any_eq_false.1 e m i
   simpa using this
  ·simp only[Bool.not_eq_true',Bool.or_eq_false_iff] at f
   obtain ⟨_,f⟩:=f
   have p:c.methods.any (·.abs)=true:=List.any_eq_true.2 ⟨m,i,t⟩
   rw[p] at f
   simpa using f
 ·cases h
theorem Q81 {l:List Cla} {c:Cla} (b:c∈Q4 l) (a:c.iface=true):c∈l:=by
 rcases List.mem_append.1 b with h | h
 ·have: ∀c∈I0,c.iface=false:=by decide
  rw[this c h] at a;cases a
 ·exact h
section
variable {l : List Cla} (wf : Wf l)
include wf
theorem Wf.likes {c:Cla} (f:c∈Q4 l) {u:X0} (b:u∈c.like): ∃d,lk (Q4 l) u=some d∧d.iface=true:=by
 rcases List.mem_append.1 f with h | h
 ·rw[(Uf c h).2.2] at b;simp at b
 ·have:=wf.up c h
  unfold O8 at this
  split at this
  ·cases this
  ·split at this
   ·cases this
   ·rename_i a
    have a:=List.any_eq_false.1 (eq_false_of_ne_true a) u b
    unfold R5 at a
    cases e:lk (Q4 l) u with
    | none=>rw[e] at a;simp at a
    | some d=>rw[e] at a;exact ⟨d,rfl,by simpa using a⟩
theorem Wf.above_iface {u b:X0} (h:Hm.Reach (lk (Q4 l)) u b): ∀d,lk (Q4 l) u=some d→d.iface=true→b=U0∨ ∃e,lk (Q4 l) b=some e∧e.iface=true:=by
 induction h with
 | refl h=>intro d c a;exact .inr ⟨d,c,a⟩
 | step i hu j m=>
  intro d c a
  rw[i] at c;cases c
  obtain ⟨e,k,_⟩:=V4 i
  rcases List.mem_cons.1 hu with rfl | hu
  ·rw[((Q6I (wf.ck _ (Q81 k a))).2.2.1 a).1] at j
   exact .inl (wf.atRoot j)
  ·obtain ⟨f,n,g⟩:=wf.likes k hu
   exact m f n g
theorem Wf.by_chain {n b:X0} (h:Hm.Reach (lk (Q4 l)) n b): ∀e,lk (Q4 l) b=some e→e.iface=false→b≠U0→e∈chain (Q4 l) n:=by
 induction h with
 | refl h=>
  intro e c _ _
  rw[T9 wf.acy,c];simp
 | step i hu o q=>
  intro e c k j
  obtain ⟨en,p,_⟩:=V4 i
  rcases List.mem_cons.1 hu with rfl | hu
  ·rw[T9 wf.acy,i]
   exact List.mem_cons_of_mem _ (q e c k j)
  ·obtain ⟨f,r,d⟩:=wf.likes p hu
   rcases wf.above_iface o f r d with h | ⟨g,m,a⟩
   ·exact absurd h j
   ·rw[c] at m;cases m;rw[k] at a;cases a
theorem Wf.chain_tail: ∀(k:Nat) {n:X0} {c:Cla},P0 (Q4 l) n<k→c∈chain (Q4 l) n→ ∃a,chain (Q4 l) n=a++chain (Q4 l) c.name:=by
 intro k
 induction k with
 | zero=>intro n c h;omega
 | succ k i=>
  intro n c o hc
  rw[T9 wf.acy] at hc
  cases b:lk (Q4 l) n with
  | none=>rw[b] at hc;simp at hc
  | some d=>
   rw[b] at hc
   have f:=(V4 b).1
   rcases List.mem_cons.1 hc with rfl | hc
   ·exact ⟨[],by rw[f];rfl⟩
   ·cases g:lk (Q4 l) d.super with
    | none=>rw[Yz g] at hc;simp at hc
    | some e=>
     have j:d.super∈U4 d:=by simp[U4]
     obtain ⟨a,m⟩:=i (by have:=Xs wf.acy b j g;omega) hc
     exact ⟨d::a,by rw[T9 wf.acy,b];show d::chain (Q4 l) d.super=_;rw[m];rfl⟩
theorem Wf.fields_tail {n:X0} {c:Cla} (h:c∈chain (Q4 l) n): ∃a,Y6 (Q4 l) n=Y6 (Q4 l) c.name++a:=by
 obtain ⟨b,d⟩:=wf.chain_tail _ (Nat.lt_succ_self _) h
 exact ⟨b.reverse.flatMap (·.fields),by unfold Y6;rw[d];simp⟩
theorem Wf.none_nil:lk (Q4 l) []=none:=by
 cases h:lk (Q4 l) [] with
 | none=>rfl
 | some c=>exact absurd (wf.lkn h) (by decide)
theorem Wf.fault_fields:Y6 (Q4 l) L5=[⟨Qg,O9,false⟩]:=by
 unfold Y6
 rw[T9 wf.acy,wf.fault]
 simp only
 rw[T9 wf.acy,wf.root]
 simp only
 rw[Yz wf.none_nil]
 rfl
theorem Wf.what {n:X0} (h:Xr (Q4 l) n L5=true) {c:Cla} (b:lk (Q4 l) n=some c):Jw (Q4 l) n Qg=some 0:=by
 have e:=(wf.sub_class b).1 h
 have f:=wf.by_chain e _ wf.fault rfl (by decide)
 obtain ⟨a,d⟩:=wf.fields_tail f
 unfold Jw
 rw[d,show (Cla.mk L5 U0 [] false false false [⟨Qg,O9,false⟩] []).name=L5 from rfl,wf.fault_fields]
 rfl
end
end Go.Proofs.YtjdiakhipmggjaaGreatDoor

namespace Go.Hm
open Go.Kd
end Go.Hm
namespace Go.Proofs.YtjdiakhipmggjaaGreatDoor
open Go.Emb Go.RowKit Go.Kd Go.Hm
section
variable {l : List Cla} (wf : Wf l)
include wf
end
end Go.Proofs.YtjdiakhipmggjaaGreatDoor
namespace Go.Proofs.YtjdiakhipmggjaaGreatDoor
open Go.Emb Go.RowKit Go.Kd Go.Hm
end Go.Proofs.YtjdiakhipmggjaaGreatDoor
namespace Go.Proofs.YtjdiakhipmggjaaGreatDoor
open Go.Emb Go.RowKit Go.Kd Go.Hm
section
variable {l : List Cla} (wf : Wf l)
include wf
end
end Go.Proofs.YtjdiakhipmggjaaGreatDoor

namespace Go.Hm
open Go.Kd
structure Val where
  sort : Int
  n : Int
  s : X0
  ref : Int
deriving DecidableEq
structure Cel where
  kind : X0
  vals : List Val
deriving DecidableEq
def Val.zero:Val:=⟨0,0,[],0⟩
def Cel.zero:Cel:=⟨[],[]⟩
def P7:X0:=[105,110,116]
def Je:X0:=[98,111,111,108]
def L7 (k:X0):Val:=if k=P7 then ⟨1,0,[],0⟩ else if k=Je then ⟨2,0,[],0⟩ else if k=O9 then ⟨3,0,[],0⟩ else Val.zero
def Z6 (cs:List Cel):Int:=(cs.map fun c=>1+(c.vals.length:Int)).sum
def W6 (room:Int) (cs:List Cel):Int:=room-Z6 cs
def M0 (cs:List Cel) (r:Int):Bool:=decide (0≤r)&&decide (r<cs.length)
def Wm (cs:List Cel) (r:Int):Cel:=cs.getD r.toNat Cel.zero
def D6 (cs:List Cel) (r:Int):X0:=if M0 cs r then (Wm cs r).kind else []
def Q5h (cs:List Cel) (r:Int):Int:=if M0 cs r then (Wm cs r).vals.length else 0
def P2 (ok:X0→Bool) (cs:List Cel) (v:Val):X0:=
 if v=Val.zero then H7 else if v=⟨1,v.n,[],0⟩ then P7 else if v=⟨2,v.n,[],0⟩∧(v.n=0∨v.n=1) then Je
 else if v=⟨3,0,v.s,0⟩∧ok v.s=true then O9 else if v=⟨4,0,[],v.ref⟩ then D6 cs v.ref else []
def S8 (ok:X0→Bool) (l:List Cla) (cs:List Cel) (v:Val) (k:X0):Bool:= !decide (P2 ok cs v=[])&&Xr l (P2 ok cs v) k
def Zt (l:List Cla) (room:Int) (cs:List Cel) (k:X0):List Cel×Int:=
 if A0 l k=false then (cs,91) else if W6 room cs<1+((Y6 l k).length:Int) then (cs,90) else (cs++[⟨k,(Y6 l k).map fun f=>L7 f.kind⟩],0)
def F6 (l:List Cla) (e:X0):Bool:= !decide (e=H7)&&N1 l e&&decide (Ya e≤2)
def Zp (l:List Cla) (room:Int) (cs:List Cel) (e:X0) (n:Int):List Cel×Int:=
 if F6 l e=false then (cs,91) else if n<0 then (cs,93) else if W6 room cs≤n then (cs,90) else (cs++[⟨e++[91,93],List.replicate n.toNat (L7 e)⟩],0)
def E2 (cs:List Cel) (r a:Int):Int:=if M0 cs r then (if 0≤a∧a<((Wm cs r).vals.length:Int) then 0 else 93) else 92
def Hj (cs:List Cel) (r a:Int):Val:=if E2 cs r a=0 then (Wm cs r).vals.getD a.toNat Val.zero else Val.zero
def Xk (l:List Cla) (k:X0) (i:Nat):X0:=if elem k=[] then ((Y6 l k).getD i Fld.zero).kind else elem k
def F3 (cs:List Cel) (r a:Int) (v:Val):List Cel:=cs.set r.toNat ⟨(Wm cs r).kind,(Wm cs r).vals.set a.toNat v⟩
def H5 (ok:X0→Bool) (l:List Cla) (cs:List Cel) (r a:Int) (v:Val):List Cel×Int:=
 if E2 cs r a≠0 then (cs,E2 cs r a) else if S8 ok l cs v (Xk l (Wm cs r).kind a.toNat) then (F3 cs r a v,0) else (cs,91)
def F7 (n:Int) (v:Val):Bool:=decide (v.sort=4)&&decide (n≤v.ref)
def Pw (cs:List Cel) (n:Int):List Cel:=
 if (cs.take (max n 0).toNat).any (fun c=>c.vals.any (F7 (max n 0))) then cs else cs.take (max n 0).toNat
structure ActH where
  kind : Int
  s : X0
  n : Int
  ref : Int
  v : Val
deriving DecidableEq
def B5 (ok:X0→Bool) (l:List Cla) (room:Int) (cs:List Cel) (x:ActH):List Cel:=
 if x.kind=0 then (Zt l room cs x.s).1 else if x.kind=1 then (Zp l room cs x.s x.n).1 else if x.kind=2 then (H5 ok l cs x.ref x.n x.v).1
 else if x.kind=4 then Pw cs x.ref else cs
structure GoodC (ok : X0 → Bool) (l : List Cla) (cs : List Cel) (c : Cel) : Prop where
  is : elem c.kind ≠ [] ∨ (A0 l c.kind = true ∧ c.vals.length = (Y6 l c.kind).length)
  kd : N1 l c.kind = true
  fits : ∀ i (h : i < c.vals.length), S8 ok l cs c.vals[i] (Xk l c.kind i) = true
structure GoodH (ok : X0 → Bool) (l : List Cla) (room : Int) (cs : List Cel) : Prop where
  cells : ∀ c ∈ cs, GoodC ok l cs c
  left : 0 ≤ W6 room cs
theorem Qo (a b:List Cel):Z6 (a++b)=Z6 a+Z6 b:=by simp[Z6]
theorem D9 (a:List Cel):0≤Z6 a:=by
 unfold Z6
 induction a with
 | nil=>simp
 | cons c r b=>simp only[List.map_cons,List.sum_cons];omega
theorem Qf (a:List Cel):(a.length:Int)≤Z6 a:=by
 unfold Z6
 induction a with
 | nil=>simp
 | cons c r b=>simp only[List.map_cons,List.sum_cons,List.length_cons];omega
theorem D7 {cs:List Cel} {r:Int}:M0 cs r=true↔ ∃i:Nat,r=i∧i<cs.length:=by
 simp only[M0,Bool.and_eq_true,decide_eq_true_eq]
 constructor
 ·rintro ⟨b,a⟩;exact ⟨r.toNat,by omega,by omega⟩
 ·rintro ⟨i,rfl,h⟩;omega
theorem L4 {cs:List Cel} {i:Nat} (h:i<cs.length):Wm cs (i:Int)=cs[i]:=by
 unfold Wm;rw[Int.toNat_natCast,List.getD_eq_getElem?_getD,List.getElem?_eq_getElem h];rfl
theorem Yl {cs:List Cel} {i:Nat} (h:i<cs.length):D6 cs (i:Int)=cs[i].kind:=by
 unfold D6;rw[if_pos (D7.2 ⟨i,rfl,h⟩),L4 h]
theorem X0J {ok:X0→Bool} {cs a:List Cel} {v:Val} (h:v.sort=4→D6 cs v.ref≠[]→D6 a v.ref=D6 cs v.ref) (c:P2 ok cs v≠[]):P2 ok a v=P2 ok cs v:=by
 unfold P2 at*
 split
 ·rfl
 ·split
  ·rfl
  ·split
   ·rfl
   ·split
    ·rfl
    ·split
     ·rename_i g d f e b
      rw[if_neg g,if_neg d,if_neg f,if_neg e,if_pos b] at c
      exact h (by rw[b]) c
     ·rfl
theorem Hx {ok:X0→Bool} {l:List Cla} {cs a:List Cel} {v:Val} {k:X0} (h:v.sort=4→D6 cs v.ref≠[]→D6 a v.ref=D6 cs v.ref) (b:S8 ok l cs v k=true):S8 ok l a v k=true:=by
 unfold S8 at*
 have c:P2 ok cs v≠[]:=by
  intro e;rw[e] at b;simp at b
 rw[X0J h c];exact b
theorem Q8w {cs more:List Cel} {r:Int} (h:D6 cs r≠[]):D6 (cs++more) r=D6 cs r:=by
 have c:M0 cs r=true:=by
  cases b:M0 cs r with
  | true=>rfl
  | false=>unfold D6 at h;rw[b] at h;simp at h
 obtain ⟨i,rfl,a⟩:=D7.1 c
 rw[Yl a,Yl (by simp;omega),List.getElem_append_left a]
theorem GoodC.app {ok:X0→Bool} {l:List Cla} {cs more:List Cel} {c:Cel} (h:GoodC ok l cs c):GoodC ok l (cs++more) c:=
 ⟨h.is,h.kd,fun i a=>Hx (fun _ b=>Q8w b) (h.fits i a)⟩
section
variable {ok : X0 → Bool} {l : List Cla} {room : Int} {cs : List Cel}
theorem GoodH.snoc (h:GoodH ok l room cs) {c:Cel} (a:GoodC ok l (cs++[c]) c) (b:1+(c.vals.length:Int)≤W6 room cs):GoodH ok l room (cs++[c]):=by
 refine ⟨fun d hd=>?_,?_⟩
 ·rcases List.mem_append.1 hd with hd | hd
  ·exact (h.cells d hd).app
  ·simp at hd;subst hd;exact a
 ·unfold W6 at*;rw[Qo];simp only[Z6,List.map_cons,List.map_nil,List.sum_cons,List.sum_nil] at*;omega
end
end Go.Hm
namespace Go.Proofs.YtjdiakhipmggjaaGreatDoor
open Go.Emb Go.RowKit Go.Kd Go.Hm
section
variable {l : List Cla} (wf : Wf l)
include wf
theorem Wf.field_kinds {n:X0} {f:Fld} (h:f∈Y6 (Q4 l) n):O3 (Q4 l) f.kind=true:=by
 unfold Y6 at h
 obtain ⟨c,g,e⟩:=List.mem_flatMap.1 h
 have k:=(Q6C wf.acy _ (Nat.lt_succ_self _) (by simpa using g)).2
 obtain ⟨_,a,_⟩:=V4 k
 rcases List.mem_append.1 a with m | hl
 ·have d: ∀c∈I0,∀f∈c.fields,f.kind=O9:=by decide
  rw[d c m f e]
  have:N1 (Q4 l) O9=true:=by
   have i:right O9=true:=by decide
   have j:plain (base O9).1=true:=by decide
   simp[N1,i,j]
  simp[O3,this];decide
 ·have:=wf.mem c hl
  unfold V7 at this
  split at this
  ·cases this
  ·split at this
   ·cases this
   ·rename_i b
    have b:B8 (Q4 l) c=false:=eq_false_of_ne_true b
    unfold B8 at b
    rw[Bool.or_eq_false_iff] at b
    have:=List.any_eq_false.1 b.1 f e
    simpa using this
theorem Wf.zero_fits {ok:X0→Bool} (i:ok []=true) {cs:List Cel} {k:X0} (h:O3 (Q4 l) k=true):S8 ok (Q4 l) cs (L7 k) k=true:=by
 have b:N1 (Q4 l) k=true∧k≠H7:=by
  simp only[O3,Bool.and_eq_true,Bool.not_eq_true',decide_eq_false_iff_not] at h;exact ⟨h.2,h.1⟩
 by_cases f:k=P7
 ·subst f
  have:S8 ok (Q4 l) cs (L7 P7) P7=Xr (Q4 l) P7 P7:=by
   unfold S8;simp[L7,P2,Val.zero,P7]
  rw[this];exact wf.sub_refl b.1
 by_cases c:k=Je
 ·subst c
  have:S8 ok (Q4 l) cs (L7 Je) Je=Xr (Q4 l) Je Je:=by
   unfold S8;simp[L7,P2,Val.zero,Je,P7]
  rw[this];exact wf.sub_refl b.1
 by_cases d:k=O9
 ·subst d
  have:S8 ok (Q4 l) cs (L7 O9) O9=Xr (Q4 l) O9 O9:=by
   unfold S8;simp[L7,P2,Val.zero,Je,P7,O9,i]
  rw[this];exact wf.sub_refl b.1
 ·have g:L7 k=Val.zero:=by simp[L7,f,c,d]
  have:S8 ok (Q4 l) cs (L7 k) k=Xr (Q4 l) H7 k:=by
   rw[g];unfold S8 P2;simp[H7]
  rw[this]
  have a:plain k=false:=by
   cases a:plain k with
   | false=>rfl
   | true=>
    simp only[plain,Bool.or_eq_true,decide_eq_true_eq] at a
    rcases a with (e | e) | e
    ·exact absurd e f
    ·exact absurd e c
    ·exact absurd e d
  exact wf.sub_iff.2 ⟨by simp[N1],b.1, .inr ⟨by decide,a, .inl rfl⟩⟩
end
theorem Q5S (a:X0):arr (a++[91,93])=true:=by
 simp[arr]
theorem Q5k (a:X0):Kd.cutA (a++[91,93])=a:=by
 simp[Kd.cutA]
theorem Q1h (a:X0):base (a++[91,93])=((base a).1,(base a).2+1):=by
 rw[Xz,Q5S,if_pos rfl,Q5k]
theorem Q8l {a:X0} (h:right a=true) (b:(base a).2≤2):right (a++[91,93])=true:=by
 unfold right at*
 rw[Q1h]
 simp only[Bool.and_eq_true,decide_eq_true_eq] at*
 exact ⟨by omega,h.2⟩
theorem X0a {a:X0} (h:right (a++[91,93])=true):elem (a++[91,93])=a:=by
 unfold elem;rw[Q5S,h,Q5k];rfl
theorem Q8T {l:List Cla} {e:X0}:F6 l e=true↔O3 l e=true∧right (e++[91,93])=true:=by
 unfold F6 O3
 simp only[Bool.and_eq_true,Bool.not_eq_true',decide_eq_false_iff_not,decide_eq_true_eq]
 constructor
 ·rintro ⟨⟨b,h2⟩,a⟩
  have c:right e=true:=by
   unfold N1 at h2
   simp only[Bool.or_eq_true,Bool.and_eq_true,decide_eq_true_eq] at h2
   rcases h2 with h2 | h2
   ·exact absurd h2 b
   ·exact h2.1
  unfold Ya at a
  rw[if_pos c] at a
  exact ⟨⟨b,h2⟩,Q8l c a⟩
 ·rintro ⟨⟨b,h2⟩,a⟩
  refine ⟨⟨b,h2⟩,?_⟩
  unfold right at a
  rw[Q1h] at a
  simp only[Bool.and_eq_true,decide_eq_true_eq] at a
  unfold Ya
  split
  ·omega
  ·omega
section
variable {ok : X0 → Bool} {l : List Cla} {room : Int} {cs : List Cel}
theorem GoodH.obj (wf:Wf l) (g:ok []=true) (h:GoodH ok (Q4 l) room cs) (k:X0):GoodH ok (Q4 l) room (Zt (Q4 l) room cs k).1:=by
 unfold Zt
 split
 ·exact h
 split
 ·exact h
 rename_i a j
 have a:A0 (Q4 l) k=true:=by simpa using a
 have e: ∃c,lk (Q4 l) k=some c:=by
  unfold A0 at a
  cases b:lk (Q4 l) k with
  | none=>rw[b] at a;cases a
  | some c=>exact ⟨c,rfl⟩
 obtain ⟨c,b⟩:=e
 have f:elem k=[]:=wf.lkArr b
 refine h.snoc ⟨.inr ⟨a,by simp⟩,wf.kind b,fun i d=>?_⟩ (by simp only[List.length_map];omega)
 simp only[List.length_map] at d
 simp only[List.getElem_map,Xk,f,if_pos]
 rw[List.getD_eq_getElem?_getD,List.getElem?_eq_getElem d]
 exact wf.zero_fits g (wf.field_kinds (List.getElem_mem d))
theorem GoodH.arr (wf:Wf l) (k:ok []=true) (h:GoodH ok (Q4 l) room cs) (e:X0) (n:Int):GoodH ok (Q4 l) room (Zp (Q4 l) room cs e n).1:=by
 unfold Zp
 split
 ·exact h
 split
 ·exact h
 split
 ·exact h
 rename_i f o p
 have f:F6 (Q4 l) e=true:=by simpa using f
 obtain ⟨g,c⟩:=Q8T.1 f
 have j:=X0a c
 have a:e≠[]:=by
  rintro rfl
  revert c;decide
 have b:N1 (Q4 l) (e++[91,93])=true:=by
  have b:=g
  unfold O3 at b
  simp only[Bool.and_eq_true,Bool.not_eq_true',decide_eq_false_iff_not] at b
  obtain ⟨d,hk2⟩:=b
  unfold N1 at hk2⊢
  simp only[Bool.or_eq_true,Bool.and_eq_true,decide_eq_true_eq] at hk2⊢
  rcases hk2 with hk2 | hk2
  ·exact absurd hk2 d
  ·right;rw[Q1h];exact ⟨c,hk2.2⟩
 refine h.snoc ⟨.inl (by simp only;rw[j];exact a),b,fun i m=>?_⟩ (by simp only[List.length_replicate];omega)
 simp only[List.getElem_replicate,Xk,j,if_neg a]
 exact wf.zero_fits k g
theorem Q31 {r b x:Int} {v:Val} (g:M0 cs r=true):D6 (F3 cs r b v) x=D6 cs x:=by
 obtain ⟨i,rfl,f⟩:=D7.1 g
 have a:(F3 cs i b v).length=cs.length:=by simp[F3]
 cases c:M0 cs x with
 | false=>
  have:M0 (F3 cs i b v) x=false:=by unfold M0 at*;rw[a];exact c
  unfold D6;rw[c,this];rfl
 | true=>
  obtain ⟨j,rfl,d⟩:=D7.1 c
  rw[Yl d,Yl (by rw[a];exact d)]
  simp only[F3,Int.toNat_natCast,L4 f,List.getElem_set]
  split
  ·rename_i e;subst e;rfl
  ·rfl
theorem Lb {r a:Int} (h:E2 cs r a=0): ∃i j:Nat,r=i∧a=j∧ ∃(b:i<cs.length),j<(cs[i]).vals.length:=by
 unfold E2 at h
 split at h
 ·rename_i c
  obtain ⟨i,rfl,b⟩:=D7.1 c
  split at h
  ·rename_i d
   rw[L4 b] at d
   exact ⟨i,a.toNat,rfl,by omega,b,by omega⟩
  ·cases h
 ·cases h
theorem GoodH.set (h:GoodH ok (Q4 l) room cs) (r m:Int) (v:Val):GoodH ok (Q4 l) room (H5 ok (Q4 l) cs r m v).1:=by
 unfold H5
 split
 ·exact h
 rename_i p
 have p:E2 cs r m=0:=by simpa using p
 split
 ·rename_i t
  obtain ⟨i,j,rfl,rfl,g,C⟩:=Lb p
  have y:M0 cs (i:Int)=true:=D7.2 ⟨i,rfl,g⟩
  rw[L4 g,Int.toNat_natCast] at t
  refine ⟨fun c w=>?_,?_⟩
  ·have b: ∀{u:Val} {k:X0},S8 ok (Q4 l) cs u k=true→S8 ok (Q4 l) (F3 cs i j v) u k=true:=fun B=>Hx (fun _ _=>Q31 y) B
   have a: ∀d∈cs,GoodC ok (Q4 l) (F3 cs i j v) d:=fun d o=>⟨(h.cells d o).is,(h.cells d o).kd,fun q n=>b ((h.cells d o).fits q n)⟩
   have f:c∈cs.set i ⟨cs[i].kind,cs[i].vals.set j v⟩:=by simpa [F3,L4 g] using w
   rcases List.mem_or_eq_of_mem_set f with f | rfl
   ·exact a c f
   ·have s:=a _ (List.getElem_mem g)
    refine ⟨by simpa using s.is,s.kd,fun q n=>?_⟩
    simp only[List.length_set] at n
    simp only[List.getElem_set]
    split
    ·rename_i e;subst e;exact b t
    ·exact s.fits q n
  ·have e:Z6 (F3 cs i j v)=Z6 cs:=by
    unfold Z6
    congr 1
    have z:(F3 cs i j v).map (fun c=>1+(c.vals.length:Int))=cs.map (fun c=>1+(c.vals.length:Int)):=by
     unfold F3
     rw[List.map_set,L4 g]
     simp only[List.length_set,Int.toNat_natCast]
     have A:1+(cs[i].vals.length:Int)=(cs.map (fun c=>1+(c.vals.length:Int)))[i]'(by simpa using g):=by simp
     rw[A,List.set_getElem_self]
    exact z
   have:=h.left
   unfold W6 at*
   rw[e];exact this
 ·exact h
theorem GoodH.cut (h:GoodH ok (Q4 l) room cs) (n:Int):GoodH ok (Q4 l) room (Pw cs n):=by
 unfold Pw
 split
 ·exact h
 rename_i hn
 have hn:=eq_false_of_ne_true hn
 generalize hm:max n 0=m at*
 have hm0:0≤m:=by omega
 refine ⟨fun c hc=>?_,?_⟩
 ·have hcs:=List.mem_of_mem_take hc
  refine ⟨(h.cells c hcs).is,(h.cells c hcs).kd,fun i hi=>Hx (fun h4 hk=>?_) ((h.cells c hcs).fits i hi)⟩
  have h1:=List.any_eq_false.1 hn c hc
  have h2: ¬F7 m c.vals[i]=true:=fun e=>h1 (List.any_eq_true.2 ⟨_,List.getElem_mem hi,e⟩)
  have hr:M0 cs c.vals[i].ref=true:=by
   cases he:M0 cs c.vals[i].ref with
   | true=>rfl
   | false=>unfold D6 at hk;rw[he] at hk;simp at hk
  obtain ⟨j,hj,hjl⟩:=D7.1 hr
  have hjm:(j:Int)<m:=by
   simp only[F7,Bool.and_eq_true,decide_eq_true_eq,not_and] at h2
   have:=h2 h4
   omega
  rw[hj,Yl hjl,Yl (by rw[List.length_take];omega)]
  simp
 ·have:Z6 cs=Z6 (cs.take m.toNat)+Z6 (cs.drop m.toNat):=by rw[←Qo,List.take_append_drop]
  have h3:=D9 (cs.drop m.toNat)
  have:=h.left
  unfold W6 at*
  omega
theorem GoodH.act (wf:Wf l) (a:ok []=true) (h:GoodH ok (Q4 l) room cs) (x:ActH):GoodH ok (Q4 l) room (B5 ok (Q4 l) room cs x):=by
 unfold B5
 split
 ·exact GoodH.obj wf a h _
 split
 ·exact GoodH.arr wf a h _ _
 split
 ·exact GoodH.set h _ _ _
 split
 ·exact GoodH.cut h _
 ·exact h
theorem GoodH.empty (a:0≤room):GoodH ok l room []:=⟨by simp,by simpa [W6,Z6] using a⟩
end
end Go.Proofs.YtjdiakhipmggjaaGreatDoor

namespace Go.Emb
open Go.RowKit Go.Hm
variable {P : Program} {w w0 w1 w' w'' : World} {K : Value → World → Prop} {σ σ0 σ1 σ' : Q6}
def M5 (_:Q6) (v:Val) (cs:List Value):Prop:=cs=[I v.sort,I v.n,S v.s,I v.ref]∧Yi v.sort∧Yi v.n∧v.s.length≤U1∧Yi v.ref
instance:Rep M5:=⟨fun _ h=>h,fun h u hu=>by rw[h.1] at hu;simp at hu;rcases hu with rfl | rfl | rfl | rfl<;>rfl⟩
def S2 (σ:Q6) (c:Cel) (cs:List Value):Prop:= ∃v,cs=[S c.kind,v]∧Sl 4 M5 σ v c.vals∧c.kind.length≤U1
instance:Rep S2:=⟨fun hk ⟨v,h1,h2,h3⟩=>⟨v,h1,h2.le hk,h3⟩,fun ⟨v,h1,h2,h3⟩ u hu=>by
 rw[h1] at hu;simp at hu;rcases hu with rfl | rfl
 ·rfl
 ·exact A6 h2⟩
theorem X0e {c:Cel} {cs:List Value} (h:S2 σ0 c cs) (k:SLe σ0 σ):S2 σ c cs:=Rep.up k.le h
def Q3C (_:Q6) (x:List UInt8×Value) (cs:List Value):Prop:=cs=[S x.1,x.2]∧x.1.length≤U1∧ ∃a n c,x.2= .slice a n c
instance:Rep Q3C:=⟨fun _ h=>h,fun ⟨h1,_,a,n,c,h2⟩ u hu=>by
 rw[h1,h2] at hu;simp at hu;rcases hu with rfl | rfl<;>rfl⟩
section
variable {α : Type} {R : Q6 → α → List Value → Prop} {B sz : Nat} {e : TypeId} {v u : Value} {xs : List α}
theorem J8.shiftR [hr:Rep R] (h:J8 B e sz R σ w v xs) (z:SLe σ σ') (m: ∀k,v.ownBlock=some k→σ' k=none):J8 B e sz R σ' w v xs:=by
 obtain ⟨a,l,rfl,t,r,c,s⟩:=h
 refine ⟨a,l,rfl,t,r,fun b d=>⟨(c b d).1,(c b d).2.1,(c b d).2.2.1,by subst d;exact m _ rfl⟩,fun o=>?_⟩
 obtain ⟨g,j,f,rfl,A,C,q,n,p⟩:=s o
 exact ⟨g,j,f,rfl,A,m g rfl,q,n,fun i x y=>hr.up z.le (p i x y)⟩
def Tb (w:World):World:={w with heap:= #[]}
theorem Yo (c:X2 w σ):Stp (Tb w) (fun _=>none) w σ:=
 ⟨⟨rfl,rfl,rfl,Nat.zero_le _,fun k d=>absurd d (Nat.not_lt_zero k)⟩,c,fun _ _ h=>(by cases h),fun b a=>absurd a (Nat.not_lt_zero b)⟩
theorem J8.freeze [hr:Rep R] (a:X2 w σ) (h:J8 B e sz R σ w v xs): ∃σ',X2 w σ'∧SLe σ σ'∧Sl sz R σ' v xs∧ ∀k,some k≠v.ownBlock→σ' k=σ k:=by
 obtain ⟨σ',f,b,d,c⟩:=(h.mono (Nat.zero_le B):J8 (Tb w).heap.size e sz R σ w v xs).keep (Yo a)
 exact ⟨σ',f.sat,d,b,c⟩
theorem Y1.freeze {b:Nat} {cs:List Value} (a:X2 w σ) (h:Y1 σ w b cs): ∃σ',X2 w σ'∧SLe σ σ'∧Z4 σ' ⟨b,0,none⟩ cs∧ ∀k,k≠b→σ' k=σ k:=by
 obtain ⟨σ',g,c,f,d⟩:=h.keep (Yo a) (Nat.zero_le b)
 exact ⟨σ',g.sat,⟨f⟩,c,d⟩
end
def X1k (vs:List Value):Prop:=vs.Pairwise fun a b=> ∀k,a.ownBlock=some k→b.ownBlock≠some k
def Q3f (B:Nat) (e:TypeId) (σ:Q6) (w:World) (vs:List Value) (cs:List Cel):Prop:=vs.length=cs.length∧ ∀i (h:i<vs.length) (a:i<cs.length),J8 B e 4 M5 σ w vs[i] cs[i].vals
theorem Q3f.freeze {B:Nat} {e:TypeId}: ∀{vs:List Value} {cs:List Cel} {σ:Q6},X2 w σ→Q3f B e σ w vs cs→X1k vs→
 ∃σ',X2 w σ'∧SLe σ σ'∧(∀i (h:i<vs.length) (z:i<cs.length),Sl 4 M5 σ' vs[i] cs[i].vals)∧ ∀k,(∀v∈vs,v.ownBlock≠some k)→σ' k=σ k
 | [],cs,σ,f,h,l=>⟨σ,f,SLe.refl _,fun i h=>absurd h (Nat.not_lt_zero i),fun _ _=>rfl⟩
 | v::vs,[],σ,f,h,l=>by have:=h.1;simp at this
 | v::vs,c::cs,σ,f,h,l=>by
  obtain ⟨σ1,p,n,s,o1⟩:=(h.2 0 (by simp) (by simp)).freeze f
  obtain ⟨g,j⟩:=List.pairwise_cons.1 l
  have y:Q3f B e σ1 w vs cs:=⟨by simpa using h.1,fun i d a=>by
   have:=h.2 (i+1) (by simpa using d) (by simpa using a)
   simp only[List.getElem_cons_succ] at this
   refine this.shiftR n fun k b=>?_
   rw[o1 k fun e=>g _ (List.getElem_mem d) k e.symm b]
   exact (this.mem b).2.2⟩
  obtain ⟨o,r,m,t,o2⟩:=Q3f.freeze p y j
  refine ⟨o,r,n.more m,fun i d a=>?_,fun k b=>?_⟩
  ·cases i with
   | zero=>exact s.lift m
   | succ i=>exact t i (by simpa using d) (by simpa using a)
  ·rw[o2 k fun u q=>b u (by simp[q]),o1 k fun e=>b v (by simp) e.symm]
def Qx (vs:List Value) (cs:List Cel):List (List UInt8×Value):=List.zipWith (fun v c=>(c.kind,v)) vs cs
theorem Ds {vs:List Value} {cs:List Cel} (h:vs.length=cs.length):(Qx vs cs).length=cs.length:=by simp[Qx,h]
end Go.Emb
namespace Go.Proofs.YtjdiakhipmggjaaGreatDoor
open Go.Emb Go.RowKit Go.Kd Go.Hm
variable {w w' : World} {K : Value → World → Prop} {σ σ' : Q6}
def S4 (σ:Q6) (hp tv:Value) (room:Int) (cs:List Cel):Prop:= ∃a lv,hp= .pointer (some a)∧Z4 σ a [tv,I room,I (Z6 cs),lv]∧Sl 2 S2 σ lv cs
theorem S4.lift {hp tv:Value} {room:Int} {cs:List Cel} (h:S4 σ hp tv room cs) (b:SLe σ σ'):S4 σ' hp tv room cs:=by
 obtain ⟨a,lv,f,c,d⟩:=h
 exact ⟨a,lv,f,c.lift b,d.lift b⟩
structure RowsIs (B : Nat) (D : Nat → Prop) (σ : Q6) (w : World) (lv : Value) (cs : List Cel) : Prop where
  ex : ∃ vs, J8 B T.o 2 Q3C σ w lv (Qx vs cs) ∧ Q3f B T.f σ w vs cs ∧ X1k (lv :: vs) ∧ ∀ k, D k ↔ ∃ v ∈ lv :: vs, v.ownBlock = some k
structure HeapIs (B : Nat) (D : Nat → Prop) (σ : Q6) (w : World) (hp tv : Value) (room : Int) (cs : List Cel) : Prop where
  ex : ∃ b lv E, hp = .pointer (some ⟨b, 0, none⟩) ∧ B ≤ b ∧ Y1 σ w b [tv, I room, I (Z6 cs), lv] ∧ RowsIs B E σ w lv cs ∧ ¬ E b ∧ ∀ k, D k ↔ (k = b ∨ E k)
section
variable {B : Nat} {D E : Nat → Prop} {lv hp tv : Value} {room : Int} {cs : List Cel}
theorem RowsIs.mem (h:RowsIs B D σ w lv cs) {k:Nat} (a:D k):B≤k∧k<w.heap.size∧σ k=none:=by
 obtain ⟨vs,d,c,f,hD⟩:=h.ex
 obtain ⟨v,hv,a⟩:=(hD k).1 a
 rcases List.mem_cons.1 hv with rfl | hv
 ·exact d.mem a
 ·obtain ⟨i,b,rfl⟩:=List.getElem_of_mem hv
  exact (c.2 i b (by rw[←c.1];exact b)).mem a
theorem RowsIs.nx (h:RowsIs B D σ w lv cs) (k:Nxt E w σ w' σ') (c: ∀k,D k→ ¬E k):RowsIs B D σ' w' lv cs:=by
 obtain ⟨vs,l,d,g,hD⟩:=h.ex
 exact ⟨vs,l.nx k fun i a=>c i ((hD i).2 ⟨lv,by simp,a⟩),⟨d.1,fun i a b=>(d.2 i a b).nx k fun j f=>c j ((hD j).2 ⟨vs[i],by simp[List.getElem_mem a],f⟩)⟩,g,hD⟩
theorem RowsIs.up (h:RowsIs B D σ w lv cs) (k:Stp w σ w' σ'):RowsIs B D σ' w' lv cs:=
 h.nx (E:=fun _=>False) (.of_stp k) fun _ _=>id
theorem RowsIs.freeze (h:RowsIs B D σ w lv cs) (C:X2 w σ): ∃σ',X2 w σ'∧SLe σ σ'∧Sl 2 S2 σ' lv cs∧ ∀k,¬D k→σ' k=σ k:=by
 obtain ⟨vs,n,d,s,hD⟩:=h.ex
 obtain ⟨f,j⟩:=List.pairwise_cons.1 s
 obtain ⟨σ1,z,p,H,o1⟩:=d.freeze C j
 have g:J8 B T.o 2 Q3C σ1 w lv (Qx vs cs):=n.shiftR p fun k a=>by
  rw[o1 k fun v b e=>f v b k a e];exact (n.mem a).2.2
 obtain ⟨y,A,o,J,o2⟩:=g.freeze z
 refine ⟨y,A,p.more o,J.conv (R':=S2) (ys:=cs) (by rw[Ds d.1]) fun i L m c t=>?_,fun k a=>?_⟩
 ·have l:i<vs.length:=by rw[d.1];exact m
  obtain ⟨r,q,_⟩:=t
  have e:(Qx vs cs)[i]=(cs[i].kind,vs[i]):=by simp[Qx]
  rw[e] at r q
  exact ⟨vs[i],r,(H i l m).lift o,q⟩
 ·rw[o2 k fun e=>a ((hD k).2 ⟨lv,by simp,e.symm⟩),o1 k fun v b e=>a ((hD k).2 ⟨v,by simp[b],e⟩)]
theorem HeapIs.mem (h:HeapIs B D σ w hp tv room cs) {k:Nat} (hk:D k):B≤k∧k<w.heap.size∧σ k=none:=by
 obtain ⟨b,lv,E,rfl,hB,a,c,hE,hD⟩:=h.ex
 rcases (hD k).1 hk with rfl | hk
 ·exact ⟨hB,a.lt,a.1⟩
 ·exact c.mem hk
theorem HeapIs.nx {F:Nat→Prop} (h:HeapIs B D σ w hp tv room cs) (k:Nxt F w σ w' σ') (a: ∀k,D k→ ¬F k):HeapIs B D σ' w' hp tv room cs:=by
 obtain ⟨b,lv,E,rfl,hB,f,d,hE,hD⟩:=h.ex
 exact ⟨b,lv,E,rfl,hB,f.nx k (a b ((hD b).2 (.inl rfl))),d.nx k fun i c=>a i ((hD i).2 (.inr c)),hE,hD⟩
theorem HeapIs.up (h:HeapIs B D σ w hp tv room cs) (k:Stp w σ w' σ'):HeapIs B D σ' w' hp tv room cs:=
 h.nx (F:=fun _=>False) (.of_stp k) fun _ _=>id
theorem HeapIs.freeze (h:HeapIs B D σ w hp tv room cs) (m:X2 w σ): ∃σ',X2 w σ'∧SLe σ σ'∧S4 σ' hp tv room cs∧ ∀k,¬D k→σ' k=σ k:=by
 obtain ⟨b,lv,E,rfl,hB,d,g,hE,hD⟩:=h.ex
 obtain ⟨σ1,l,i,o,o1⟩:=g.freeze m
 have a:Y1 σ1 w b [tv,I room,I (Z6 cs),lv]:=⟨by rw[o1 b hE];exact d.1,d.2⟩
 obtain ⟨j,p,c,n,q⟩:=a.freeze l
 exact ⟨j,p,i.more c,⟨_,lv,rfl,n,o.lift c⟩,fun k f=>by rw[q k fun e=>f ((hD k).2 (.inl e)),o1 k fun e=>f ((hD k).2 (.inr e))]⟩
end
end Go.Proofs.YtjdiakhipmggjaaGreatDoor

namespace Go.Emb
open Go.RowKit Go.Hm
variable {H : Type} {enc : TypeId × Value → H} {P : Program} {W : World} {t : TypeId} {cs : List Value} {fuel : Nat} {x : DataW H × List MemPlace}
theorem X2C {g:Array Field} (e:P.underlying t=some (.struct g)) (h:DataW.trod enc P W 0 (fun _=>true) true fuel t cs=some x) (z:Wt P t x.1) (i:Nat) {o m:Nat} {b:TypeId}
 (s:(g[i]?).map (fun f=>(f.type,f.offset))=some (b,o)) (k:P.cellsOf b=m): ∃n y,DataW.trod enc P W 0 (fun _=>true) true n b ((cs.drop o).take m)=some y∧Wt P b y.1:=by
 obtain ⟨xs,n,_,rfl,A,q,r⟩:=DataW.trod_struct e h
 obtain ⟨f,a,w⟩:=Option.map_eq_some_iff.1 s
 cases w
 have c:=r i f a
 have j:i<xs.length:=by rw[q];exact (Array.getElem?_eq_some_iff.1 a).1
 rw[List.getElem?_eq_getElem j,k] at c
 refine ⟨n,_,c,fun m l=>z m ?_⟩
 simp only[DataW.weights,e]
 exact Q7h (i:=i) (u:=f.type) (by rw[List.getElem?_map,Array.getElem?_toList,a];rfl) (by rw[List.getElem?_map,List.getElem?_eq_getElem j];rfl) m l
def Bx (_:Q6) (x:ActH) (cs:List Value):Prop:=cs=[I x.kind,S x.s,I x.n,I x.ref,I x.v.sort,I x.v.n,S x.v.s,I x.v.ref]∧(Yi x.kind∧x.s.length≤U1∧Yi x.n∧Yi x.ref)∧Yi x.v.sort∧Yi x.v.n∧x.v.s.length≤U1∧Yi x.v.ref
instance:Rep Bx:=⟨fun _ h=>h,fun h u hu=>by rw[h.1] at hu;simp at hu;rcases hu with rfl | rfl | rfl | rfl | rfl | rfl | rfl | rfl<;>rfl⟩
end Go.Emb
namespace Go.Proofs.YtjdiakhipmggjaaGreatDoor
open Go.Emb Go.RowKit Go.Kd Go.Hm
variable {H : Type} {enc : TypeId × Value → H} {W : World} {cs : List Value} {fuel : Nat} {x : DataW H × List MemPlace}
def X3O:Array Field:= #[⟨"Sort",T.e,0,false, "", "",0⟩,⟨"N",T.a1,1,false, "", "",8⟩,⟨"S",T.c,2,false, "", "",16⟩,⟨"Ref",T.e,3,false, "", "",32⟩]
theorem Q1J:P.underlying T.f=some (.struct X3O):=by kernel_rfl
theorem Q7i:P.underlying T.a1=some (.int .i64):=by kernel_rfl
theorem Q94 (h:DataW.trod enc P W 0 (fun _=>true) true fuel T.f cs=some x) (a:Wt P T.f x.1): ∃y,M5 (Uo W) y cs:=by
 obtain ⟨c0,A,C,D,rfl⟩:=X4f (Q9c Q1J (by kernel_rfl) h)
 obtain ⟨_,_,j,w0⟩:=Li (o:=0) Q1J h a 0 rfl Q52
 obtain ⟨_,_,i,w1⟩:=Li (o:=1) Q1J h a 1 rfl (by kernel_rfl)
 obtain ⟨_,_,r,u⟩:=Li (o:=2) Q1J h a 2 rfl Ki
 obtain ⟨_,_,q,B⟩:=Li (o:=3) Q1J h a 3 rfl Q52
 obtain ⟨l,b,g⟩:=Ig Q1K j
 obtain ⟨k,f,z⟩:=Ig Q7i i
 obtain ⟨m,c,w⟩:=Q9C X8 r u
 obtain ⟨s,e,n⟩:=Ig Q1K q
 simp at b f c e
 subst b f c e
 exact ⟨⟨l,k,m,s⟩,rfl,g,z,w,n⟩
def X3H:Array Field:= #[⟨"Kind",T.e,0,false, "", "",0⟩,⟨"S",T.c,1,false, "", "",8⟩,⟨"N",T.a1,2,false, "", "",24⟩,⟨"Ref",T.e,3,false, "", "",32⟩,⟨"V",T.f,4,false, "", "",40⟩]
theorem Q1w:P.underlying T.m=some (.struct X3H):=by kernel_rfl
theorem X3r (h:DataW.trod enc P W 0 (fun _=>true) true fuel T.m cs=some x) (a:Wt P T.m x.1): ∃y,Bx (Uo W) y cs:=by
 obtain ⟨c0,Q,Y,Z,O,X,c6,V,rfl⟩:=X4b (Q9c Q1w (by kernel_rfl) h)
 obtain ⟨_,_,n,w0⟩:=Li (o:=0) Q1w h a 0 rfl Q52
 obtain ⟨_,_,l,w1⟩:=Li (o:=1) Q1w h a 1 rfl Ki
 obtain ⟨_,_,D,U⟩:=Li (o:=2) Q1w h a 2 rfl (by kernel_rfl)
 obtain ⟨_,_,A,R⟩:=Li (o:=3) Q1w h a 3 rfl Q52
 obtain ⟨_,_,J,u⟩:=X2C (o:=4) (m:=4) Q1w h a 4 rfl (by kernel_rfl)
 obtain ⟨r,b,k⟩:=Ig Q1K n
 obtain ⟨q,g,N⟩:=Q9C X8 l w1
 obtain ⟨s,e,L⟩:=Ig Q7i D
 obtain ⟨E,f,w⟩:=Ig Q1K A
 obtain ⟨B,c,M⟩:=Q94 J u
 simp at b g e f c
 obtain ⟨z,j,C,i⟩:=c
 subst b g e f z j C i
 exact ⟨⟨r,q,s,E,B⟩,rfl,⟨k,N,L,w⟩,M⟩
theorem Q9u:P.underlying T.z=some (.slice T.m):=by kernel_rfl
section
variable {v : Value} {d : DataW H} {p : List MemPlace}
set_option maxRecDepth 100000 in
theorem X1X {base:Nat} (f:Value.okWide P W .any base T.z v) (h:DataW.Trod enc P W 0 (fun _=>true) true T.z v d p) (b:Wt P T.z d): ∃l,Sl 8 Bx (Uo W) v l:=by
 obtain ⟨a,n,c,rfl⟩:=WideShapes.okWide_slice Q9u f
 unfold DataW.Trod at h
 obtain ⟨fuel,h⟩:=h
 obtain ⟨u,l,e,g⟩:=X3B (R:=Bx) (sz:=8) Q9u (by kernel_rfl) (by decide) (fun _ _ _ h b=>X3r h b) h b
 simp[Value.cells] at e
 subst e
 exact ⟨l,g⟩
set_option maxRecDepth 100000 in
theorem X35 {base:Nat} (c:Value.okWide P W .any base T.f v) (h:DataW.Trod enc P W 0 (fun _=>true) true T.f v d p) (b:Wt P T.f d): ∃y cs,v= .agg (List.toArray cs)∧M5 (Uo W) y cs:=by
 have a:=c
 unfold Value.okWide at a
 rw[Q1J] at a
 obtain ⟨cs,rfl,_⟩:=a
 unfold DataW.Trod at h
 obtain ⟨fuel,h⟩:=h
 obtain ⟨y,e⟩:=Q94 h b
 obtain ⟨cs⟩:=cs
 exact ⟨y,cs,rfl,by simpa [Value.cells] using e⟩
end
end Go.Proofs.YtjdiakhipmggjaaGreatDoor

namespace Go.Emb
open Go.RowKit Go.Hm
variable {P : Program} {w : World} {K : Value → World → Prop}
theorem Q9y (n:Int):(BitVec.ofInt 64 n &&& BitVec.ofInt 64 1).toNat=(n % 2).toNat:=by
 rw[BitVec.toNat_and,BitVec.toNat_ofInt,BitVec.toNat_ofInt]
 have e:((1:Int) % ((2 ^ 64:Nat):Int)).toNat=1:=by decide
 rw[e,Nat.and_one_is_mod]
 omega
theorem X36 {t:TypeId} {b a:Operand} {n:Int} (h:K (I (n % 2)) w):Q3 P .and t b a (I n) (I 1) w K:=by
 have e:Q3 P .and t b a (I n) (I 1) w K=K (I (n % 2)) w:=X9 (by
  have d:(BitVec.ofInt IntKind.i64.bits n &&& BitVec.ofInt IntKind.i64.bits 1).toNat=(n % 2).toNat:=Q9y n
  have f:IntKind.i64.wrap ((n % 2).toNat:Int)=n % 2:=by rw[F9 (by omega) (by omega)];omega
  have c:((n % 2 ^ IntKind.i64.bits).toNat &&& 1 % 2 ^ IntKind.i64.bits)=(n % 2).toNat:=by
   show ((n % 18446744073709551616).toNat &&& 1)=_
   rw[Nat.and_one_is_mod];omega
  simp[eqGuard,binOp,Op.intBits,c]
  rw[show max (n % 2) 0=n % 2 by omega,F9 (by omega) (by omega)])
 rw[e];exact h
end Go.Emb
namespace Go.Proofs.YtjdiakhipmggjaaGreatDoor
open Go.Emb Go.RowKit Go.Kd Go.Hm
variable {w w' : World} {K : Value → World → Prop} {σ σ' : Q6} {hp tv : Value} {room : Int} {cs : List Cel} {l : List Cla}
theorem X2N:(P.fieldsOf T.f).toList=[⟨"Sort",T.e,0,false, "", "",0⟩,⟨"N",T.a1,1,false, "", "",8⟩,⟨"S",T.c,2,false, "", "",16⟩,⟨"Ref",T.e,3,false, "", "",32⟩]:=by kernel_rfl
set_option maxRecDepth 100000 in
theorem Q7B (a b:Val):(Op.eqFields 9999 [I a.sort,I a.n,S a.s,I a.ref].toArray [I b.sort,I b.n,S b.s,I b.ref].toArray (P.fieldsOf T.f).toList).run P w= .ok (decide (a=b)) w:=by
 rw[X2N]
 have:=Kq (P:=P) (w:=w) (d:=9999) (xs:=[I a.sort,I a.n,S a.s,I a.ref].toArray) (ys:=[I b.sort,I b.n,S b.s,I b.ref].toArray) (f:=⟨"Sort",T.e,0,false, "", "",0⟩) (by decide) rfl rfl (Q3N (k:= .i64) (by kernel_rfl) _ _)
  (Kq (f:=⟨"N",T.a1,1,false, "", "",8⟩) (by decide) rfl rfl (Q3N (k:= .i64) (by kernel_rfl) _ _) (Kq (f:=⟨"S",T.c,2,false, "", "",16⟩) (by decide) rfl rfl (X1K X8 _ _) (Kq (f:=⟨"Ref",T.e,3,false, "", "",32⟩) (by decide) rfl rfl (Q3N (k:= .i64) (by kernel_rfl) _ _) X2p)))
 rw[this]
 congr 1
 obtain ⟨m,c,e,j⟩:=a
 obtain ⟨o,h,g,i⟩:=b
 simp[Bool.decide_and]
theorem Sy {a b d:Int} {c:X0}: ∀u∈[I a,I b,S c,I d],u.oneCell'=true:=by
 intro u e
 simp only[List.mem_cons,List.not_mem_nil,or_false] at e
 rcases e with rfl | rfl | rfl | rfl<;>rfl
set_option maxRecDepth 100000 in
theorem Dp {k j:Operand} {g a c i e f:Int} {b d:X0} (h:K (.bool (decide ((⟨g,a,b,c⟩:Val)=⟨i,e,d,f⟩))) w):Q3 P .eql T.f k j (.agg [I g,I a,S b,I c].toArray) (.agg [I i,I e,S d,I f].toArray) w K:=
 X29 (by kernel_rfl) (by kernel_rfl) (by kernel_rfl) (Q7B ⟨g,a,b,c⟩ ⟨i,e,d,f⟩) h
set_option maxRecDepth 100000 in
theorem X1F {k j:Operand} {g a c i e f:Int} {b d:X0} (h:K (.bool (!decide ((⟨g,a,b,c⟩:Val)=⟨i,e,d,f⟩))) w):Q3 P .neq T.f k j (.agg [I g,I a,S b,I c].toArray) (.agg [I i,I e,S d,I f].toArray) w K:=
 X2a (by kernel_rfl) (by kernel_rfl) (by kernel_rfl) (Q7B ⟨g,a,b,c⟩ ⟨i,e,d,f⟩) h
theorem Sl.elV {v:Value} {xs:List Val} (h:Sl 4 M5 σ v xs) {i:Nat} (a:i<xs.length):Z4 σ (Vs 4 v i) [I xs[i].sort,I xs[i].n,S xs[i].s,I xs[i].ref]∧M5 σ xs[i] [I xs[i].sort,I xs[i].n,S xs[i].s,I xs[i].ref]:=by
 obtain ⟨cs,c,d,rfl,b⟩:=h.el a;exact ⟨c,rfl,b⟩
theorem Sl.elO {v:Value} {xs:List Cel} (h:Sl 2 S2 σ v xs) {i:Nat} (b:i<xs.length): ∃a,Z4 σ (Vs 2 v i) [S xs[i].kind,a]∧Sl 4 M5 σ a xs[i].vals∧xs[i].kind.length≤U1:=by
 obtain ⟨cs,e,f,a,rfl,d,c⟩:=h.el b;exact ⟨a,e,d,c⟩
theorem X2U (d:X2 w σ) (hh:S4 σ hp tv room cs) (h:K (I cs.length) w):Q1 P F.c2 [hp] w K:=Q1W (by
 obtain ⟨a,e,rfl,c,b⟩:=hh
 unfold Hu
 (try simp only[↓M1,M1,Mb,reduceIte])
 refine ld d c rfl ?_
 refine Q8 b ?_
 exact h)
theorem X0K (c:X2 w σ) (hh:S4 σ hp tv room cs) (h:K tv w):Q1 P F.bB [hp] w K:=Q03 (by
 obtain ⟨a,d,rfl,b,e⟩:=hh
 unfold Og
 rw[L9,fa]
 exact ld c b rfl h)
theorem Q7M (c:X2 w σ) (hh:S4 σ hp tv room cs) (m:0≤W6 room cs) (k:room≤1048576) (h: ∀w',Below w.heap.size w w'→K (I (W6 room cs)) w'):Q1 P F.ae [hp] w K:=Q1g (by
 obtain ⟨a,e,rfl,g,f⟩:=hh
 unfold Dz
 have i:=D9 cs
 unfold W6 at*
 refine U2 c ?_
 (repeat refine J7 Xa ?_)
 (intros;(repeat (rename_i d;subst d));(try simp only[↓M2,M2,Mb,reduceIte]))
 rename_i j b
 rw[F9 (by omega) (by omega)]
 exact h _ b.stp.bel)
theorem Q6m (e:X2 w σ) (hh:S4 σ hp tv room cs) {r:Int} (h:K (.bool (M0 cs r)) w):Q1 P F.aG [hp,I r] w K:=Q1O (by
 obtain ⟨a,f,rfl,d,c⟩:=hh
 unfold Hp
 refine P5 ?_
 unfold M0 at h
 cases b:decide ((0:Int)≤r) with
 | false=>
  rw[b] at h
  (try simp only[↓M1,M1,Mb,reduceIte])
  exact h
 | true=>
  rw[b] at h
  (try simp only[↓M1,M1,Mb,reduceIte])
  refine ld e d rfl ?_
  refine Q8 c ?_
  refine Z2 ?_
  (try simp only[↓M1,M1,Mb,reduceIte])
  exact h)
theorem Q7L (c:X2 w σ) (hh:S4 σ hp tv room cs) {r:Int} (h:K (S (D6 cs r)) w):Q1 P F.aB [hp,I r] w K:=Q0L (by
 unfold Ef
 refine Q6m c hh ?_
 unfold D6 at h
 cases d:M0 cs r with
 | false=>rw[d] at h;(try simp only[↓M1,M1,Mb,reduceIte]);exact h
 | true=>
  rw[d] at h
  obtain ⟨i,rfl,b⟩:=D7.1 d
  rw[L4 b] at h
  obtain ⟨a,j,rfl,f,e⟩:=hh
  obtain ⟨k,g,_,_⟩:=Sl.elO e b
  (try simp only[↓M1,M1,Mb,reduceIte])
  refine ld c f rfl ?_
  refine Y3 e b ?_
  (try simp only[↓M1,M1,Mb,reduceIte])
  exact ld c g rfl h)
theorem X1N (c:X2 w σ) (hh:S4 σ hp tv room cs) {r:Int} (h:K (I (Q5h cs r)) w):Q1 P F.bM [hp,I r] w K:=Q0x (by
 unfold Eg
 refine Q6m c hh ?_
 unfold Q5h at h
 cases d:M0 cs r with
 | false=>rw[d] at h;(try simp only[↓M1,M1,Mb,reduceIte]);exact h
 | true=>
  rw[d] at h
  obtain ⟨i,rfl,b⟩:=D7.1 d
  rw[L4 b] at h
  obtain ⟨a,k,rfl,f,e⟩:=hh
  obtain ⟨m,j,g,_⟩:=Sl.elO e b
  (try simp only[↓M1,M1,Mb,reduceIte])
  refine ld c f rfl ?_
  refine Y3 e b ?_
  (try simp only[↓M1,M1,Mb,reduceIte])
  refine ld c j rfl ?_
  exact Q8 g h)
theorem Q7l (d:X2 w σ) (hh:S4 σ hp tv room cs) {r i:Int} (h:K (I (E2 cs r i)) w):Q1 P F.aR [hp,I r,I i] w K:=Q0f (by
 unfold Oj
 refine Q6m d hh ?_
 unfold E2 at h
 cases e:M0 cs r with
 | false=>rw[e] at h;(try simp only[↓M1,M1,Mb,reduceIte]);exact h
 | true=>
  rw[e] at h
  obtain ⟨j,rfl,c⟩:=D7.1 e
  rw[L4 c] at h
  obtain ⟨a,o,rfl,k,f⟩:=hh
  obtain ⟨p,n,m,_⟩:=Sl.elO f c
  (try simp only[↓M1,M1,Mb,reduceIte])
  by_cases g:i<0
  ·rw[decide_eq_true g]
   (try simp only[↓M1,M1,Mb,reduceIte])
   rw[if_pos rfl,if_neg (by omega)] at h
   exact h
  ·rw[decide_eq_false g]
   (try simp only[↓M1,M1,Mb,reduceIte])
   refine ld d k rfl ?_
   refine Y3 f c ?_
   (try simp only[↓M1,M1,Mb,reduceIte])
   refine ld d n rfl ?_
   refine Q8 m ?_
   refine P5 ?_
   (try simp only[↓M1,M1,Mb,reduceIte])
   refine Q7 (fun b=>?_) (fun b=>?_)
   ·have b:(cs[j].vals.length:Int)≤i:=by simpa using b
    rw[if_pos rfl,if_neg (by omega)] at h
    exact h
   ·have b: ¬(cs[j].vals.length:Int)≤i:=by simpa using b
    rw[if_pos rfl,if_pos (by omega)] at h
    exact h)
theorem X3n (t:X2 w σ) (hh:S4 σ hp tv room cs) {r i:Int} (h: ∀w' σ',Stp w σ w' σ'→K (.tuple #[.agg [I (Hj cs r i).sort,I (Hj cs r i).n,S (Hj cs r i).s,I (Hj cs r i).ref].toArray,I (E2 cs r i)]) w'):Q1 P F.c1 [hp,I r,I i] w K:=Q22 (by
 unfold Hq
 refine M8 t fun b w1 σ1 y c k=>?_
 have o:=hh.lift ⟨c.le⟩
 refine Q7l c.sat o ?_
 refine Ut ?_
 unfold Hj at h
 by_cases g:E2 cs r i=0
 ·have e:decide (E2 cs r i=0)=true:=decide_eq_true g
  rw[if_pos g,g] at h
  obtain ⟨a,E,rfl,z,u⟩:=o
  simp only[e,Bool.not_true,↓M1,M1,Mb,reduceIte]
  obtain ⟨j,m,rfl,rfl,p,q⟩:=Lb g
  rw[L4 p,Int.toNat_natCast] at h
  obtain ⟨H,A,v,_⟩:=Sl.elO u p
  obtain ⟨D,C⟩:=Sl.elV v q
  refine ld c.sat z rfl ?_
  refine Y3 u p ?_
  (try simp only[↓M1,M1,Mb,reduceIte])
  refine ld c.sat A rfl ?_
  refine Y3 v q ?_
  refine Y4 c.sat D rfl ?_
  refine G7 k c (M9 y (Stp.refl t)) rfl rfl (Rep.one C) fun B d f=>?_
  refine V2 f rfl ?_
  have e:cs[j].vals.getD m Val.zero=cs[j].vals[m]:=by rw[List.getD_eq_getElem?_getD,List.getElem?_eq_getElem q];rfl
  rw[e] at h
  exact h _ _ d.stp
 ·have e:decide (E2 cs r i=0)=false:=by simpa using g
  rw[if_neg g] at h
  simp only[e,Bool.not_false,↓M1,M1,Mb,reduceIte]
  refine W2 (cells:= #[I 0,I 0,S [],I 0]) (by kernel_rfl) ?_
  refine G7 (ds:=[I 0,I 0,S [],I 0]) k c (M9 y (Stp.refl t)) rfl rfl Sy fun B d f=>?_
  refine V2 f rfl ?_
  exact h _ _ d.stp)
theorem Q5y {k:X0} (o:X2 w σ) (h: ∀w' σ',Stp w σ w' σ'→K (.agg [I (L7 k).sort,I (L7 k).n,S (L7 k).s,I (L7 k).ref].toArray) w'):Q1 P F.c3 [S k] w K:=Q7g (by
 unfold Q2d
 refine M8 o fun b w1 σ1 q j f=>?_
 have hB:=M9 q (Stp.refl o)
 unfold L7 at h
 have a: ∀(n:Int) (t:K (.agg [I n,I 0,S [],I 0].toArray)=K (.agg [I n,I 0,S [],I 0].toArray)),(∀w' σ',Stp w σ w' σ'→K (.agg [I n,I 0,S [],I 0].toArray) w')→Y0 P T.f (.pointer (some ⟨b,0,none⟩)) (.agg #[I n,I 0,S [],I 0]) w1 fun _ m=>Y7 P T.f (.pointer (some ⟨b,0,none⟩)) m fun p=>K p m:=fun n _ r=>
  G7 (ds:=[I n,I 0,S [],I 0]) f j hB rfl rfl Sy fun m g i=>V2 i rfl (r _ _ g.stp)
 refine K2 ?_
 by_cases e:k=P7
 ·simp only[if_pos e] at h
  rw[show decide (k=[105,110,116])=true from decide_eq_true e]
  refine J4 ?_
  refine W2 (cells:= #[I 1,I 0,S [],I 0]) (by kernel_rfl) ?_
  exact a 1 rfl h
 simp only[if_neg e] at h
 rw[show decide (k=[105,110,116])=false from decide_eq_false e]
 refine Z9 ?_
 refine K2 ?_
 by_cases c:k=Je
 ·simp only[if_pos c] at h
  rw[show decide (k=[98,111,111,108])=true from decide_eq_true c]
  refine J4 ?_
  refine W2 (cells:= #[I 2,I 0,S [],I 0]) (by kernel_rfl) ?_
  exact a 2 rfl h
 simp only[if_neg c] at h
 rw[show decide (k=[98,111,111,108])=false from decide_eq_false c]
 refine Z9 ?_
 refine K2 ?_
 by_cases d:k=O9
 ·simp only[if_pos d] at h
  rw[show decide (k=[116,101,120,116])=true from decide_eq_true d]
  refine J4 ?_
  refine W2 (cells:= #[I 3,I 0,S [],I 0]) (by kernel_rfl) ?_
  exact a 3 rfl h
 ·simp only[if_neg d] at h
  rw[show decide (k=[116,101,120,116])=false from decide_eq_false d]
  refine Z9 ?_
  refine W2 (cells:= #[I 0,I 0,S [],I 0]) (by kernel_rfl) ?_
  exact a 0 rfl h)
def W5 (s:X0):Bool:=decide (s.length≤4096)&&Lib.validD s
theorem Q84 (hh:S4 σ hp tv room cs) (r:Int):(D6 cs r).length≤U1:=by
 unfold D6
 split
 ·rename_i d
  obtain ⟨i,rfl,b⟩:=D7.1 d
  rw[L4 b]
  obtain ⟨a,e,rfl,f,c⟩:=hh
  exact (Sl.elO c b).choose_spec.2.2
 ·exact Nat.zero_le _
theorem X1Q (hh:S4 σ hp tv room cs) (v:Val):(P2 W5 cs v).length≤U1:=by
 unfold P2
 split
 ·decide
 split
 ·decide
 split
 ·decide
 split
 ·decide
 split
 ·exact Q84 hh _
 ·exact Nat.zero_le _
theorem Q5R (n:Int):n=n % 2↔n=0∨n=1:=by omega
set_option maxHeartbeats 1000000 in
theorem X2P (X:X2 w σ) (Y:Glb σ) (hh:S4 σ hp tv room cs) {v:Val} (W:v.s.length≤U1) (h: ∀w' σ',Stp w σ w' σ'→K (S (P2 W5 cs v)) w'):Q1 P F.bh [hp, .agg [I v.sort,I v.n,S v.s,I v.ref].toArray] w K:=Q2z (by
 unfold So
 refine Y9 X fun q w1 σ1 g k=>?_
 have f:=g.sat
 refine Y4 f k rfl ?_
 refine W2 (cells:= #[I 0,I 0,S [],I 0]) (by kernel_rfl) ?_
 refine Dp ?_
 unfold P2 at h
 by_cases t:v=Val.zero
 ·rw[if_pos t] at h
  have:decide ((⟨v.sort,v.n,v.s,v.ref⟩:Val)=⟨0,0,[],0⟩)=true:=decide_eq_true t
  rw[this]
  exact J4 (h _ _ g)
 rw[if_neg t] at h
 have:decide ((⟨v.sort,v.n,v.s,v.ref⟩:Val)=⟨0,0,[],0⟩)=false:=decide_eq_false t
 rw[this]
 refine Z9 ?_
 refine Y4 f k rfl ?_
 refine W4 ?_
 refine ld f k rfl ?_
 refine W2 (cells:= #[I 1,I v.n,S [],I 0]) (by kernel_rfl) ?_
 refine Dp ?_
 by_cases y:v=⟨1,v.n,[],0⟩
 ·rw[if_pos y] at h
  have:decide ((⟨v.sort,v.n,v.s,v.ref⟩:Val)=⟨1,v.n,[],0⟩)=true:=decide_eq_true y
  rw[this]
  exact J4 (h _ _ g)
 rw[if_neg y] at h
 have:decide ((⟨v.sort,v.n,v.s,v.ref⟩:Val)=⟨1,v.n,[],0⟩)=false:=decide_eq_false y
 rw[this]
 refine Z9 ?_
 refine Y4 f k rfl ?_
 refine W4 ?_
 refine ld f k rfl ?_
 refine X36 ?_
 refine W2 (cells:= #[I 2,I (v.n % 2),S [],I 0]) (by kernel_rfl) ?_
 refine Dp ?_
 have p:(v=⟨2,v.n % 2,[],0⟩)↔(v=⟨2,v.n,[],0⟩∧(v.n=0∨v.n=1)):=by
  obtain ⟨a,b,c,d⟩:=v
  simp only[Val.mk.injEq,true_and]
  constructor
  ·rintro ⟨Q,M,p⟩;exact ⟨⟨Q,p⟩,(Q5R b).1 M⟩
  ·rintro ⟨⟨Q,p⟩,M⟩;exact ⟨Q,(Q5R b).2 M,p⟩
 by_cases A:v=⟨2,v.n % 2,[],0⟩
 ·rw[if_pos (p.1 A)] at h
  have:decide ((⟨v.sort,v.n,v.s,v.ref⟩:Val)=⟨2,v.n % 2,[],0⟩)=true:=decide_eq_true A
  rw[this]
  exact J4 (h _ _ g)
 rw[if_neg (fun e=>A (p.2 e))] at h
 have:decide ((⟨v.sort,v.n,v.s,v.ref⟩:Val)=⟨2,v.n % 2,[],0⟩)=false:=decide_eq_false A
 rw[this]
 refine Z9 ?_
 refine Y4 f k rfl ?_
 refine W4 ?_
 refine ld f k rfl ?_
 refine W2 (cells:= #[I 3,I 0,S v.s,I 0]) (by kernel_rfl) ?_
 refine Dp ?_
 have j: ∀{B E},Stp w σ B E→SLe σ1 E→(∀w' σ',Stp w σ w' σ'→K (S (if v=⟨4,0,[],v.ref⟩ then D6 cs v.ref else [])) w')→Q2 P T.f (.pointer (some q)) B fun J w=>
  Q2 P T.e (.pointer (some (q.add 3))) w fun H w=>
  H2 P T.f [(0,(.int .i64 4)),(3,H)] w fun C w=>
  Q3 P .eql T.f (.tmp 40) (.tmp 43) J C w fun N w=>
  X1 N (
   Q2 P T.e (.pointer (some (q.add 3))) w fun R w=>
   Q1 P F.aB [hp,R] w fun O w=>
   K O w) (
   K (.string ⟨#[]⟩) w):=by
  intro B E i D h
  have m:=k.lift D
  refine Y4 i.sat m rfl ?_
  refine ld i.sat m rfl ?_
  refine W2 (cells:= #[I 4,I 0,S [],I v.ref]) (by kernel_rfl) ?_
  refine Dp ?_
  by_cases u:v=⟨4,0,[],v.ref⟩
  ·rw[if_pos u] at h
   have:decide ((⟨v.sort,v.n,v.s,v.ref⟩:Val)=⟨4,0,[],v.ref⟩)=true:=decide_eq_true u
   rw[this]
   refine J4 ?_
   refine ld i.sat m rfl ?_
   exact Q7L i.sat (hh.lift ⟨i.le⟩) (h _ _ i)
  ·rw[if_neg u] at h
   have:decide ((⟨v.sort,v.n,v.s,v.ref⟩:Val)=⟨4,0,[],v.ref⟩)=false:=decide_eq_false u
   rw[this]
   exact Z9 (h _ _ i)
 by_cases z:v=⟨3,0,v.s,0⟩
 ·have:decide ((⟨v.sort,v.n,v.s,v.ref⟩:Val)=⟨3,0,v.s,0⟩)=true:=decide_eq_true z
  rw[this]
  (try simp only[↓M1,M1,Mb,reduceIte])
  refine ld f k rfl ?_
  refine Cg X8 ?_
  refine Q53 ?_
  by_cases V:v.s.length≤4096
  ·rw[decide_eq_true (show (v.s.length:Int)≤4096 by omega)]
   (try simp only[↓M1,M1,Mb,reduceIte])
   refine ld f k rfl ?_
   refine Tu W (Y.tabs _ (fun b o e=>f b o (g.le b o e))) fun B L=>?_
   have r:=g.trans (Stp.of_below f L)
   cases U:Lib.validD v.s with
   | true=>
    (try simp only[↓M1,M1,Mb,reduceIte])
    rw[if_pos ⟨z,by simp[W5,U,V]⟩] at h
    exact h _ _ r
   | false=>
    (try simp only[↓M1,M1,Mb,reduceIte])
    rw[if_neg (by rintro ⟨_,e⟩;simp[W5,U] at e)] at h
    exact j r (SLe.refl _) h
  ·rw[decide_eq_false (show¬(v.s.length:Int)≤4096 by omega)]
   (try simp only[↓M1,M1,Mb,reduceIte])
   rw[if_neg (by rintro ⟨_,e⟩;simp[W5,V] at e)] at h
   exact j g (SLe.refl _) h
 ·have:decide ((⟨v.sort,v.n,v.s,v.ref⟩:Val)=⟨3,0,v.s,0⟩)=false:=decide_eq_false z
  rw[this]
  (try simp only[↓M1,M1,Mb,reduceIte])
  rw[if_neg (fun e=>z e.1)] at h
  exact j g (SLe.refl _) h)
end Go.Proofs.YtjdiakhipmggjaaGreatDoor

namespace Go.Proofs.YtjdiakhipmggjaaGreatDoor
open Go.Emb Go.RowKit Go.Kd Go.Hm
variable {w : World} {K : Value → World → Prop} {σ : Q6}
theorem Gc {β:Type} {xs:List Val} {v f:Value} (a:β→Val→Bool×β) (j:β) (b:β→World→Prop) (D:Nat→Prop) (l: ∀s w,b s w→X2 w σ) (C:b j w) (t:Sl 4 M5 σ v xs)
 (B: ∀s x cs (w1:World) (K:Value→World→Prop),x∈xs→Kpt D w w1→b s w1→M5 σ x cs→cs.length=4→(∀w',Kpt D w w'→b (a s x).2 w'→K (.bool (a s x).1) w')→Z3 P f [.agg cs.toArray] w1 K)
 (h: ∀w',Kpt D w w'→b (J3 a j xs 0).2 w'→K (I (L6 (J3 a j xs 0).1)) w'):Q1 P F.a3 [v,f] w K:=Yn (by
 unfold G6
 ((try simp only[↓M1,M1,Mb,reduceIte]);repeat ((first | refine ld (by assumption) (by assumption) rfl ?_ | refine X7 (by assumption) (by assumption) rfl ?_ | refine Q8 (by assumption) ?_);(try simp only[↓M1,M1,Mb,reduceIte])))
 refine U3 xs.length (fun n w'=>Kpt D w w'∧ ∃s,b s w'∧J3 a j xs 0=J3 a s (xs.drop n) n) ⟨Kpt.refl,j,C,rfl⟩ fun n w1 d E k=>?_
 obtain ⟨u,s,k,g⟩:=k
 have r:=l s w1 k
 ((try simp only[↓M1,M1,Mb,reduceIte]);repeat ((first | refine ld (by assumption) (by assumption) rfl ?_ | refine X7 (by assumption) (by assumption) rfl ?_ | refine Q8 (by assumption) ?_);(try simp only[↓M1,M1,Mb,reduceIte])))
 refine Q7 (fun o=>?_) (fun o=>?_)
 ·have c:n<xs.length:=by simpa using o
  refine M7 t c fun p cs z e y=>?_
  refine Y4 r z e ?_
  refine B s xs[n] cs w1 _ (List.getElem_mem c) u k y e fun A i m=>?_
  rw[List.drop_eq_getElem_cons c] at g
  simp only[J3] at g
  refine Q7 (fun q=>?_) (fun q=>?_)
  ·rw[q] at g
   have:=h A i
   rw[g] at this
   exact this m
  ·rw[q] at g
   ((try simp only[↓M1,M1,Mb,reduceIte]);repeat ((first | refine ld (by assumption) (by assumption) rfl ?_ | refine X7 (by assumption) (by assumption) rfl ?_ | refine Q8 (by assumption) ?_);(try simp only[↓M1,M1,Mb,reduceIte])))
   exact Y5 t.max c ⟨i,_,m,by simpa using g⟩
 ·have c: ¬n<xs.length:=by simpa using o
  rw[List.drop_eq_nil_of_le (by omega)] at g
  have:=h w1 u
  rw[g] at this
  exact this k)
theorem Ci {β:Type} {xs:List Val} {v f:Value} (b:β→Val→Bool×β) (d:β) (a:β→World→Prop) (D:Nat→Prop) (c: ∀s w,a s w→X2 w σ) (k:a d w) (e:Sl 4 M5 σ v xs)
 (j: ∀s x cs (w1:World) (K:Value→World→Prop),x∈xs→Kpt D w w1→a s w1→M5 σ x cs→cs.length=4→(∀w',Kpt D w w'→a (b s x).2 w'→K (.bool (b s x).1) w')→Z3 P f [.agg cs.toArray] w1 K)
 (h: ∀w',Kpt D w w'→a (J3 b d xs 0).2 w'→K (.bool (J3 b d xs 0).1.isSome) w'):Q1 P F.k [v,f] w K:=Xc (by
 unfold C9
 refine Gc b d a D c k e j fun w1 g i=>?_
 (try simp only[↓M1,M1,Mb,reduceIte])
 rw[Dl]
 exact h w1 g i)
theorem Cb {xs:List Val} {v f:Value} (p:Val→Bool) (hs:X2 w σ) (hv:Sl 4 M5 σ v xs)
 (hf: ∀x cs (w1:World) (K:Value→World→Prop),x∈xs→X2 w1 σ→M5 σ x cs→cs.length=4→(∀w',Below w1.heap.size w1 w'→K (.bool (p x)) w')→Z3 P f [.agg cs.toArray] w1 K)
 (h: ∀w',Below w.heap.size w w'→K (.bool (xs.any p)) w'):Q1 P F.k [v,f] w K:=by
 refine Ci (fun (_:Unit) x=>(p x,())) () (fun _ w'=>Below w.heap.size w w') (fun _=>False) (fun _ w' hb=>hs.below hb) (Below.refl _ _) hv (fun s x cs w1 K hx hk hi hr hl hK=>hf x cs w1 K hx (hs.below hi) hr hl fun w' hb=>hK w' (.of_below (bt hi hb)) (bt hi hb)) fun w' hk hi=>?_
 rw[K6]
 simpa using h w' hi
theorem Pe {β:Type} {xs:List Cel} {v f:Value} (a:β→Cel→Bool×β) (j:β) (b:β→World→Prop) (D:Nat→Prop) (l: ∀s w,b s w→X2 w σ) (C:b j w) (t:Sl 2 S2 σ v xs)
 (B: ∀s x cs (w1:World) (K:Value→World→Prop),x∈xs→Kpt D w w1→b s w1→S2 σ x cs→cs.length=2→(∀w',Kpt D w w'→b (a s x).2 w'→K (.bool (a s x).1) w')→Z3 P f [.agg cs.toArray] w1 K)
 (h: ∀w',Kpt D w w'→b (J3 a j xs 0).2 w'→K (I (L6 (J3 a j xs 0).1)) w'):Q1 P F.a8 [v,f] w K:=Zs (by
 unfold I2
 ((try simp only[↓M1,M1,Mb,reduceIte]);repeat ((first | refine ld (by assumption) (by assumption) rfl ?_ | refine X7 (by assumption) (by assumption) rfl ?_ | refine Q8 (by assumption) ?_);(try simp only[↓M1,M1,Mb,reduceIte])))
 refine U3 xs.length (fun n w'=>Kpt D w w'∧ ∃s,b s w'∧J3 a j xs 0=J3 a s (xs.drop n) n) ⟨Kpt.refl,j,C,rfl⟩ fun n w1 d E k=>?_
 obtain ⟨u,s,k,g⟩:=k
 have r:=l s w1 k
 ((try simp only[↓M1,M1,Mb,reduceIte]);repeat ((first | refine ld (by assumption) (by assumption) rfl ?_ | refine X7 (by assumption) (by assumption) rfl ?_ | refine Q8 (by assumption) ?_);(try simp only[↓M1,M1,Mb,reduceIte])))
 refine Q7 (fun o=>?_) (fun o=>?_)
 ·have c:n<xs.length:=by simpa using o
  refine M7 t c fun p cs z e y=>?_
  refine Y4 r z e ?_
  refine B s xs[n] cs w1 _ (List.getElem_mem c) u k y e fun A i m=>?_
  rw[List.drop_eq_getElem_cons c] at g
  simp only[J3] at g
  refine Q7 (fun q=>?_) (fun q=>?_)
  ·rw[q] at g
   have:=h A i
   rw[g] at this
   exact this m
  ·rw[q] at g
   ((try simp only[↓M1,M1,Mb,reduceIte]);repeat ((first | refine ld (by assumption) (by assumption) rfl ?_ | refine X7 (by assumption) (by assumption) rfl ?_ | refine Q8 (by assumption) ?_);(try simp only[↓M1,M1,Mb,reduceIte])))
   exact Y5 t.max c ⟨i,_,m,by simpa using g⟩
 ·have c: ¬n<xs.length:=by simpa using o
  rw[List.drop_eq_nil_of_le (by omega)] at g
  have:=h w1 u
  rw[g] at this
  exact this k)
theorem Cz {β:Type} {xs:List Cel} {v f:Value} (b:β→Cel→Bool×β) (d:β) (a:β→World→Prop) (D:Nat→Prop) (c: ∀s w,a s w→X2 w σ) (k:a d w) (e:Sl 2 S2 σ v xs)
 (j: ∀s x cs (w1:World) (K:Value→World→Prop),x∈xs→Kpt D w w1→a s w1→S2 σ x cs→cs.length=2→(∀w',Kpt D w w'→a (b s x).2 w'→K (.bool (b s x).1) w')→Z3 P f [.agg cs.toArray] w1 K)
 (h: ∀w',Kpt D w w'→a (J3 b d xs 0).2 w'→K (.bool (J3 b d xs 0).1.isSome) w'):Q1 P F.n [v,f] w K:=Yc (by
 unfold F5
 refine Pe b d a D c k e j fun w1 g i=>?_
 (try simp only[↓M1,M1,Mb,reduceIte])
 rw[Dl]
 exact h w1 g i)
theorem Cv {xs:List Cel} {v f:Value} (p:Cel→Bool) (hs:X2 w σ) (hv:Sl 2 S2 σ v xs)
 (hf: ∀x cs (w1:World) (K:Value→World→Prop),x∈xs→X2 w1 σ→S2 σ x cs→cs.length=2→(∀w',Below w1.heap.size w1 w'→K (.bool (p x)) w')→Z3 P f [.agg cs.toArray] w1 K)
 (h: ∀w',Below w.heap.size w w'→K (.bool (xs.any p)) w'):Q1 P F.n [v,f] w K:=by
 refine Cz (fun (_:Unit) x=>(p x,())) () (fun _ w'=>Below w.heap.size w w') (fun _=>False) (fun _ w' hb=>hs.below hb) (Below.refl _ _) hv (fun s x cs w1 K hx hk hi hr hl hK=>hf x cs w1 K hx (hs.below hi) hr hl fun w' hb=>hK w' (.of_below (bt hi hb)) (bt hi hb)) fun w' hk hi=>?_
 rw[K6]
 simpa using h w' hi
end Go.Proofs.YtjdiakhipmggjaaGreatDoor
