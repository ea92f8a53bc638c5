/- Parts of a proof about the given program: its functions as texts of their own, what each computes, plain laws of that. The conditions of each stand in its statement. -/
import Derived.Test.YtjdiakhipmggjaaGreatDoorB3
import Derived.Shelf.Strings.Builder1
import Derived.Shelf.Strings.Builder2
import Derived.Shelf.Strings.OnBuilder
import Derived.Shelf.Strings.Trim
import Derived.Shelf.Small.Utf8
import Derived.Shelf.Small.Strs
import Derived.Shelf.Strings.BuilderF
import Derived.Shelf.Strings.BuilderK
import Derived.Shelf.Strings.Builder2Cap
import Derived.Shelf.Strings.Search1
import Derived.Shelf.Strings.Search2
import Derived.Shelf.Strings.Search3
import Derived.Shelf.Strings.Cut
import Derived.Shelf.LaysM
import Derived.Shelf.Strings.Shaped
import Derived.Shelf.Strings.Prefix
import Derived.Shelf.Unicode.Decode
import Derived.Shelf.Strings.Runes
import Derived.Shelf.Strings.AsciiSet
import Derived.Shelf.Unicode.DecodeSlow
import Derived.Shelf.Unicode.DecodeAny
import Derived.Shelf.Unicode.DecodeLast
import Derived.Ground.Names2Prog
import Derived.Shelf.Slices.Clone
import Derived.Shelf.Unicode.ValidAny
import Derived.Test.YtjdiakhipmggjaaGreatDoorProg
import Derived.Test.YtjdiakhipmggjaaGreatDoorB2
import Derived.Test.YtjdiakhipmggjaaGreatDoorRows
import Derived.Lib.LaidU8T
import Derived.OpenShut
import Derived.MakeChecks
import Derived.WideShapes
import Derived.Lib.AsciiSet
import Derived.Lib.Join
import Derived.Maps.RangeRun
set_option linter.unnecessarySimpa false
set_option linter.defProp false
set_option linter.unusedSectionVars false
set_option linter.unusedVariables false
set_option linter.unusedSimpArgs false
namespace Go.Proofs
open Go.Shelf
def Tryz.lays156_ren : Go.Shelf.Ren := ⟨fun | 156 => 143 | 165 => 176 | 166 => 177 | 169 => 178 | 240 => 200 | 241 => 201 | 276 => 213 | 277 => 214 | n => n, fun | 31 => 54 | 9 => 9 | 3 => 3 | 4 => 4 | 0 => 0 | 20 => 20 | 72 => 205 | 76 => 208 | 70 => 202 | 37 => 203 | 75 => 207 | 127 => 220 | 164 => 230 | 5 => 5 | 80 => 210 | n => n, fun | n => n⟩
theorem Tryz.lays156 : Go.Proofs.Lays.n156 Tryz.prog Tryz.lays156_ren := {
  mixed := by kernel_rfl
  f156 := Tryz.func143.trans (congrArg some (by kernel_rfl))
  f165 := Tryz.func176.trans (congrArg some (by kernel_rfl))
  f166 := Tryz.func177.trans (congrArg some (by kernel_rfl))
  f169 := Tryz.func178.trans (congrArg some (by kernel_rfl))
  f240 := Tryz.func200.trans (congrArg some (by kernel_rfl))
  f241 := Tryz.func201.trans (congrArg some (by kernel_rfl))
  f276 := Tryz.func213.trans (congrArg some (by kernel_rfl))
  f277 := Tryz.func214.trans (congrArg some (by kernel_rfl))
  t0 := Tryz.underlying0
  a0 := Tryz.isAgg0
  z0 := Tryz.sizeOf0
  v0 := Tryz.zeroValue0
  t3 := Tryz.underlying3
  a3 := Tryz.isAgg3
  z3 := Tryz.sizeOf3
  v3 := Tryz.zeroValue3
  t4 := Tryz.underlying4
  a4 := Tryz.isAgg4
  z4 := Tryz.sizeOf4
  v4 := Tryz.zeroValue4
  t9 := Tryz.underlying9
  a9 := Tryz.isAgg9
  z9 := Tryz.sizeOf9
  v9 := Tryz.zeroValue9
  t20 := Tryz.underlying20
  a20 := Tryz.isAgg20
  z20 := Tryz.sizeOf20
  v20 := Tryz.zeroValue20
  t31 := Tryz.underlying54
  a31 := Tryz.isAgg54
  z31 := Tryz.sizeOf54
  v31 := Tryz.zeroValue54
  t37 := Tryz.underlying203
  a37 := Tryz.isAgg203
  z37 := Tryz.sizeOf203
  v37 := Tryz.zeroValue203
  t70 := Tryz.underlying202
  a70 := Tryz.isAgg202
  z70 := Tryz.sizeOf202
  v70 := Tryz.zeroValue202
  t72 := Tryz.underlying205
  a72 := Tryz.isAgg205
  z72 := Tryz.sizeOf205
  v72 := Tryz.zeroValue205
  t75 := Tryz.underlying207
  a75 := Tryz.isAgg207
  z75 := Tryz.sizeOf207
  v75 := Tryz.zeroValue207
  t76 := Tryz.underlying208
  a76 := Tryz.isAgg208
  z76 := Tryz.sizeOf208
  v76 := Tryz.zeroValue208
  t127 := Tryz.underlying220
  a127 := Tryz.isAgg220
  z127 := Tryz.sizeOf220
  v127 := Tryz.zeroValue220
  t164 := Tryz.underlying230
  a164 := Tryz.isAgg230
  z164 := Tryz.sizeOf230
  v164 := Tryz.zeroValue230 }
theorem Tryz.Builder_Extra_156 : Builder.Extra Tryz.prog Tryz.lays156_ren := {
  sizeBuilder := by kernel_rfl
  liesBuilder := by kernel_rfl
  t5 := Tryz.underlying5
  a5 := Tryz.isAgg5
  z5 := Tryz.sizeOf5
  v5 := Tryz.zeroValue5
  infoByte := by kernel_rfl
  cellsByte := by kernel_rfl
  sizeByte := by kernel_rfl
  neB5 := by decide }
open Go.RowKit in
theorem Tryz.strings_Join_none (a : Option Addr) (c : Nat) (sep : ByteArray) (w : World) :
    Calls Tryz.prog 143 #[.slice a 0 c, .string sep] w fun e w' => e = .returned (.string ⟨#[]⟩) ∧ w' = w := Any.strings_Join_none Tryz.lays156 Tryz.Builder_Extra_156 a c sep w
open Go.RowKit in
theorem Tryz.strings_Join (bk o c : Nat) (xs : List ByteArray) (sep : ByteArray) (w : World) (hcells : ∀ (j : Nat) x, xs[j]? = some x → w.cell? ⟨bk, o + j, none⟩ = some (.string x)) (hbk : bk < w.heap.size) (hN : xs.length ≤ 140737488355328) (hcap : xs.length ≤ c) (hlen : (Lib.join (xs.map (·.data.toList)) sep.data.toList).length ≤ 140737488355328) :
    Calls Tryz.prog 143 #[.slice (some ⟨bk, o, none⟩) xs.length c, .string sep] w fun e w' => e = .returned (.string ⟨(Lib.join (xs.map (·.data.toList)) sep.data.toList).toArray⟩) ∧ Below w.heap.size w w' := Any.strings_Join Tryz.lays156 Tryz.Builder_Extra_156 bk o c xs sep w hcells hbk hN hcap hlen
open Go.RowKit in
def Tryz.lays144_ren : Go.Shelf.Ren := ⟨fun | 144 => 210 | 143 => 223 | 219 => 228 | 217 => 227 | 225 => 220 | 224 => 219 | 267 => 232 | 266 => 231 | 314 => 234 | n => n, fun | 9 => 9 | 4 => 4 | 3 => 3 | 5 => 5 | 46 => 158 | 146 => 242 | 51 => 241 | n => n, fun | 1 => 4 | n => n⟩
theorem Tryz.lays144 : Go.Proofs.Lays.n144 Tryz.prog Tryz.lays144_ren := {
  mixed := by kernel_rfl
  f143 := Tryz.func223.trans (congrArg some (by kernel_rfl))
  f144 := Tryz.func210.trans (congrArg some (by kernel_rfl))
  f217 := Tryz.func227.trans (congrArg some (by kernel_rfl))
  f219 := Tryz.func228.trans (congrArg some (by kernel_rfl))
  f224 := Tryz.func219.trans (congrArg some (by kernel_rfl))
  f225 := Tryz.func220.trans (congrArg some (by kernel_rfl))
  f266 := Tryz.func231.trans (congrArg some (by kernel_rfl))
  f267 := Tryz.func232.trans (congrArg some (by kernel_rfl))
  f314 := Tryz.func234.trans (congrArg some (by kernel_rfl))
  t3 := Tryz.underlying3
  a3 := Tryz.isAgg3
  z3 := Tryz.sizeOf3
  v3 := Tryz.zeroValue3
  t4 := Tryz.underlying4
  a4 := Tryz.isAgg4
  z4 := Tryz.sizeOf4
  v4 := Tryz.zeroValue4
  t5 := Tryz.underlying5
  a5 := Tryz.isAgg5
  z5 := Tryz.sizeOf5
  v5 := Tryz.zeroValue5
  t9 := Tryz.underlying9
  a9 := Tryz.isAgg9
  z9 := Tryz.sizeOf9
  v9 := Tryz.zeroValue9
  t46 := Tryz.underlying158
  a46 := Tryz.isAgg158
  z46 := Tryz.sizeOf158
  v46 := Tryz.zeroValue158
  t51 := Tryz.underlying241
  a51 := Tryz.isAgg241
  z51 := Tryz.sizeOf241
  v51 := Tryz.zeroValue241
  t146 := Tryz.underlying242
  a146 := Tryz.isAgg242
  z146 := Tryz.sizeOf242
  v146 := Tryz.zeroValue242
  g1 := by kernel_rfl }
open Go.RowKit Go.Lib in
theorem Tryz.strings_Contains_one (s : ByteArray) (c : UInt8) (w : World) :
    Calls Tryz.prog 210 #[.string s, .string ⟨#[c]⟩] w fun e w' => e = .returned (.bool (decide (0 ≤ Lib.indexByte s.data.toList c))) ∧ w' = w := Any.strings_Contains_one Tryz.lays144 s c w
def Tryz.lays227_ren : Go.Shelf.Ren := ⟨fun | 227 => 157 | n => n, fun | 9 => 9 | 116 => 190 | 4 => 4 | 0 => 0 | 3 => 3 | 5 => 5 | n => n, fun | n => n⟩
theorem Tryz.lays227 : Go.Proofs.Lays.n227 Tryz.prog Tryz.lays227_ren := {
  mixed := by kernel_rfl
  f227 := Tryz.func157.trans (congrArg some (by kernel_rfl))
  t0 := Tryz.underlying0
  a0 := Tryz.isAgg0
  z0 := Tryz.sizeOf0
  v0 := Tryz.zeroValue0
  t3 := Tryz.underlying3
  a3 := Tryz.isAgg3
  z3 := Tryz.sizeOf3
  v3 := Tryz.zeroValue3
  t4 := Tryz.underlying4
  a4 := Tryz.isAgg4
  z4 := Tryz.sizeOf4
  v4 := Tryz.zeroValue4
  t5 := Tryz.underlying5
  a5 := Tryz.isAgg5
  z5 := Tryz.sizeOf5
  v5 := Tryz.zeroValue5
  t9 := Tryz.underlying9
  a9 := Tryz.isAgg9
  z9 := Tryz.sizeOf9
  v9 := Tryz.zeroValue9
  t116 := Tryz.underlying190
  a116 := Tryz.isAgg190
  z116 := Tryz.sizeOf190 }
open Go.RowKit Go.Lib in
theorem Tryz.strings_makeASCIISet (hv116 : ∀ w, (zeroValue 190).run Tryz.prog w = .ok (.agg (Array.replicate 256 (.bool false))) w) (chars : ByteArray) (w : World) (hs : chars.size < 4294967281) (hascii : ∀ (j : Nat) b, chars.data.toList[j]? = some b → b.toNat < 128) :
    Calls Tryz.prog 157 #[.string chars] w fun e w' => e = .returned (.tuple #[.agg (Lib.setCells chars.data.toList), .bool true]) ∧ w' = w.alloc (.cells (Lib.setCells chars.data.toList) 190) := Any.strings_makeASCIISet Tryz.lays227 hv116 (by kernel_rfl) chars w hs hascii
open Go.RowKit Go.Lib in
def Tryz.lays196_ren : Go.Shelf.Ren := ⟨fun | 196 => 64 | 259 => 112 | n => n, fun | 9 => 9 | 4 => 4 | 3 => 3 | 5 => 5 | 12 => 12 | 119 => 154 | 0 => 0 | 46 => 158 | 139 => 157 | 138 => 156 | 53 => 184 | n => n, fun | 3 => 1 | 4 => 2 | n => n⟩
theorem Tryz.lays196 : Go.Proofs.Lays.n196 Tryz.prog Tryz.lays196_ren := {
  mixed := by kernel_rfl
  f196 := Tryz.func64.trans (congrArg some (by kernel_rfl))
  f259 := Tryz.func112.trans (congrArg some (by kernel_rfl))
  t0 := Tryz.underlying0
  a0 := Tryz.isAgg0
  z0 := Tryz.sizeOf0
  v0 := Tryz.zeroValue0
  t3 := Tryz.underlying3
  a3 := Tryz.isAgg3
  z3 := Tryz.sizeOf3
  v3 := Tryz.zeroValue3
  t4 := Tryz.underlying4
  a4 := Tryz.isAgg4
  z4 := Tryz.sizeOf4
  v4 := Tryz.zeroValue4
  t5 := Tryz.underlying5
  a5 := Tryz.isAgg5
  z5 := Tryz.sizeOf5
  v5 := Tryz.zeroValue5
  t9 := Tryz.underlying9
  a9 := Tryz.isAgg9
  z9 := Tryz.sizeOf9
  v9 := Tryz.zeroValue9
  t12 := Tryz.underlying12
  a12 := Tryz.isAgg12
  z12 := Tryz.sizeOf12
  v12 := Tryz.zeroValue12
  t46 := Tryz.underlying158
  a46 := Tryz.isAgg158
  z46 := Tryz.sizeOf158
  v46 := Tryz.zeroValue158
  t53 := Tryz.underlying184
  a53 := Tryz.isAgg184
  z53 := Tryz.sizeOf184
  v53 := Tryz.zeroValue184
  t119 := Tryz.underlying154
  a119 := Tryz.isAgg154
  z119 := Tryz.sizeOf154
  t138 := Tryz.underlying156
  a138 := Tryz.isAgg156
  z138 := Tryz.sizeOf156
  v138 := Tryz.zeroValue156
  t139 := Tryz.underlying157
  a139 := Tryz.isAgg157
  z139 := Tryz.sizeOf157
  v139 := Tryz.zeroValue157
  g3 := by kernel_rfl
  g4 := by kernel_rfl }
end Go.Proofs

namespace Go.Proofs.YtjdiakhipmggjaaGreatDoor
open Go.Emb Go.RowKit Go.Kd Go.Hm
variable {w : World} {K : Value → World → Prop} {σ : Q4}
theorem Q8v {f:FuncId} {fn:Func} {a:List Value} {V:Value} (g:P.funcs[f]? =some fn) (b:fn.body.isSome=true) (d:(fn.name== "runtime.NumGoroutine")=false)
 (h:Calls P f a.toArray w fun e w'=>e= .returned V∧Below w.heap.size w w') (c: ∀w',Below w.heap.size w w'→K V w'):Q1 P f a w K:=by
 refine Ul g b d (Calls.mono h ?_)
 rintro e w' ⟨rfl,b⟩
 exact c w' b
theorem Gf {a:X0} (c:a.length≤J8) (b:Lib.Utf8Tabs G.e G.d w) (h: ∀w',Below w.heap.size w w'→K (.bool (Lib.validD a)) w'):Q1 P F.aN [S a] w K:=
 Q8v Tryz.func64 (by kernel_rfl) (by kernel_rfl) (by
  have:=Any.utf8_ValidString Tryz.lays196 ⟨a.toArray⟩ w (by rw[S6];simp only[J8] at c;omega) b
  simp only[List.toList_toArray] at this
  exact this) h
theorem Q4U {a:X0} {c:UInt8} (h:K (.bool (decide (0≤Lib.indexByte a c))) w):Q1 P F.cl [S a,S [c]] w K:=by
 refine Ul (fn:=Tryz.f210) Tryz.func210 (by kernel_rfl) (by kernel_rfl) (Calls.mono (Tryz.strings_Contains_one ⟨a.toArray⟩ c w) ?_)
 rintro e w' ⟨rfl,rfl⟩
 exact h
structure Glb (σ : Q4) : Prop where
  ops : Q0y σ
  tabs : ∀ w, X4 w σ → Lib.Utf8Tabs G.e G.d w
  flt : Z3 σ ⟨G.b, 0, none⟩ (J1.map S)
theorem Glb.lift {σ0:Q4} (h:Glb σ0) (k:SLe σ0 σ):Glb σ:=⟨h.ops.le k.le,fun w a=>h.tabs w fun b o e=>a b o (k.le b o e),h.flt.le k.le⟩
def txt (n s:X0):Bool:=
 if n=[119,111,114,100] then decide (s.length≤64)&&Lib.validD s&& !decide (0≤Lib.indexByte s 10)
 else if n=[110,101,119] then W2 s
 else if n=[105,115]∨n=[99,97,115,116] then right s&& !plain s
 else if n=[97,114,114,97,121] then right s&&decide (Xq s<3)
 else Xl s
theorem X0Y {n a:X0} (ha:a.length≤J8) (hs:X4 w σ) (hg:Glb σ) (h: ∀w' σ',Stp w σ w' σ'→K (.bool (txt n a)) w'):Q1 P F.cs [S n,S a] w K:=Q4R (by
 unfold Q0c
 have ha':a.length≤140737488355320:=by simp only[J8] at ha;omega
 have ha2:a.length≤140737488355328:=by simp only[J8] at ha;omega
 have hv: ∀{w1:World} {K:Value→World→Prop},X4 w1 σ→(∀w',Below w1.heap.size w1 w'→K (.bool (Lib.validD a)) w')→Q1 P F.aN [S a] w1 K:=fun hk h=>Gf ha (hg.tabs _ hk) h
 unfold txt at h
 have e:decide ((a.length:Int)≤64)=decide (a.length≤64):=by rw[Bool.eq_iff_iff];simp only[decide_eq_true_eq];omega
 have e3:decide ((Xq a:Int)<3)=decide (Xq a<3):=by rw[Bool.eq_iff_iff];simp only[decide_eq_true_eq];omega
 by_cases h1:n=[119,111,114,100]
 ·rw[if_pos h1] at h
  simp only[decide_eq_true h1,↓M1,M1,Mb,reduceIte,e]
  by_cases h2:a.length≤64
  ·simp only[decide_eq_true h2,↓M1,M1,Mb,reduceIte] at h⊢
   refine hv hs (V6 hs ?_)
   intro w1 σ1 hk
   by_cases h3:Lib.validD a=true
   ·simp only[h3,↓M1,M1,Mb,reduceIte] at h⊢
    refine Q4U ?_
    (repeat' (first | (with_reducible intro _) | (with_reducible refine U9 ?_) | (simp only[↓M2,M2,Mb,reduceIte]) | (with_reducible first | refine ld aS aL aR ?_ | refine X8 aS aL aR ?_ | refine Y4 aS aL aR ?_ | refine Q9 aL ?_ | refine U0 aR ?_ | refine Y9 aS ?_ | refine W4 aS aL ?_ | refine J4 aS aR ?_ | refine Y1 aS aR aR (Rep.one (by assumption)) ?_ | refine J5 aS aR aR aR ?_ | (refine Y7 (fun hh=>?_) (fun hh=>?_)<;>(try simp only[hh,Bool.not_true,Bool.not_false,↓M2,M2,Mb,reduceIte])) | (refine Q5 (fun hh=>?_) (fun hh=>?_)<;>(try simp only[hh,Bool.not_true,Bool.not_false,↓M2,M2,Mb,reduceIte])))))
    all_goals exact aF
   ·simp only[eq_false_of_ne_true h3,↓M1,M1,Mb,reduceIte] at h⊢
    (repeat' (first | (with_reducible intro _) | (with_reducible refine U9 ?_) | (simp only[↓M2,M2,Mb,reduceIte]) | (with_reducible first | refine ld aS aL aR ?_ | refine X8 aS aL aR ?_ | refine Y4 aS aL aR ?_ | refine Q9 aL ?_ | refine U0 aR ?_ | refine Y9 aS ?_ | refine W4 aS aL ?_ | refine J4 aS aR ?_ | refine Y1 aS aR aR (Rep.one (by assumption)) ?_ | refine J5 aS aR aR aR ?_ | (refine Y7 (fun hh=>?_) (fun hh=>?_)<;>(try simp only[hh,Bool.not_true,Bool.not_false,↓M2,M2,Mb,reduceIte])) | (refine Q5 (fun hh=>?_) (fun hh=>?_)<;>(try simp only[hh,Bool.not_true,Bool.not_false,↓M2,M2,Mb,reduceIte])))))
    all_goals exact aF
  ·simp only[decide_eq_false h2,↓M1,M1,Mb,reduceIte] at h⊢
   (repeat' (first | (with_reducible intro _) | (with_reducible refine U9 ?_) | (simp only[↓M2,M2,Mb,reduceIte]) | (with_reducible first | refine ld aS aL aR ?_ | refine X8 aS aL aR ?_ | refine Y4 aS aL aR ?_ | refine Q9 aL ?_ | refine U0 aR ?_ | refine Y9 aS ?_ | refine W4 aS aL ?_ | refine J4 aS aR ?_ | refine Y1 aS aR aR (Rep.one (by assumption)) ?_ | refine J5 aS aR aR aR ?_ | (refine Y7 (fun hh=>?_) (fun hh=>?_)<;>(try simp only[hh,Bool.not_true,Bool.not_false,↓M2,M2,Mb,reduceIte])) | (refine Q5 (fun hh=>?_) (fun hh=>?_)<;>(try simp only[hh,Bool.not_true,Bool.not_false,↓M2,M2,Mb,reduceIte])))))
   all_goals exact aF
 rw[if_neg h1] at h
 simp only[decide_eq_false h1,↓M1,M1,Mb,reduceIte]
 by_cases h2:n=[110,101,119]
 ·rw[if_pos h2] at h
  simp only[decide_eq_true h2,↓M1,M1,Mb,reduceIte]
  (repeat' (first | (with_reducible intro _) | (with_reducible refine U9 ?_) | (simp only[↓M2,M2,Mb,reduceIte]) | (with_reducible first | refine ld aS aL aR ?_ | refine X8 aS aL aR ?_ | refine Y4 aS aL aR ?_ | refine Q9 aL ?_ | refine U0 aR ?_ | refine Y9 aS ?_ | refine W4 aS aL ?_ | refine J4 aS aR ?_ | refine Y1 aS aR aR (Rep.one (by assumption)) ?_ | refine J5 aS aR aR aR ?_ | refine Df _ au (V6 aS ?_) | (refine Y7 (fun hh=>?_) (fun hh=>?_)<;>(try simp only[hh,Bool.not_true,Bool.not_false,↓M2,M2,Mb,reduceIte])) | (refine Q5 (fun hh=>?_) (fun hh=>?_)<;>(try simp only[hh,Bool.not_true,Bool.not_false,↓M2,M2,Mb,reduceIte])))))
  all_goals exact aF
 rw[if_neg h2] at h
 simp only[decide_eq_false h2,↓M1,M1,Mb,reduceIte]
 by_cases h3:n=[105,115]∨n=[99,97,115,116]
 ·rw[if_pos h3] at h
  have e4:(decide (n=[105,115])||decide (n=[99,97,115,116]))=true:=by simpa using h3
  refine U9 ?_
  refine Q5 (fun h4=>?_) (fun h4=>?_)
  ·simp only[h4,↓M1,M1,Mb,reduceIte]
   (repeat' (first | (with_reducible intro _) | (with_reducible refine U9 ?_) | (simp only[↓M2,M2,Mb,reduceIte]) | (with_reducible first | refine ld aS aL aR ?_ | refine X8 aS aL aR ?_ | refine Y4 aS aL aR ?_ | refine Q9 aL ?_ | refine U0 aR ?_ | refine Y9 aS ?_ | refine W4 aS aL ?_ | refine J4 aS aR ?_ | refine Y1 aS aR aR (Rep.one (by assumption)) ?_ | refine J5 aS aR aR aR ?_ | refine Xi _ au (V6 aS ?_) | refine Dg _ ?_ | (refine Y7 (fun hh=>?_) (fun hh=>?_)<;>(try simp only[hh,Bool.not_true,Bool.not_false,↓M2,M2,Mb,reduceIte])) | (refine Q5 (fun hh=>?_) (fun hh=>?_)<;>(try simp only[hh,Bool.not_true,Bool.not_false,↓M2,M2,Mb,reduceIte])))))
   all_goals exact aF
  ·rw[h4,Bool.false_or] at e4
   simp only[e4,↓M1,M1,Mb,reduceIte]
   (repeat' (first | (with_reducible intro _) | (with_reducible refine U9 ?_) | (simp only[↓M2,M2,Mb,reduceIte]) | (with_reducible first | refine ld aS aL aR ?_ | refine X8 aS aL aR ?_ | refine Y4 aS aL aR ?_ | refine Q9 aL ?_ | refine U0 aR ?_ | refine Y9 aS ?_ | refine W4 aS aL ?_ | refine J4 aS aR ?_ | refine Y1 aS aR aR (Rep.one (by assumption)) ?_ | refine J5 aS aR aR aR ?_ | refine Xi _ au (V6 aS ?_) | refine Dg _ ?_ | (refine Y7 (fun hh=>?_) (fun hh=>?_)<;>(try simp only[hh,Bool.not_true,Bool.not_false,↓M2,M2,Mb,reduceIte])) | (refine Q5 (fun hh=>?_) (fun hh=>?_)<;>(try simp only[hh,Bool.not_true,Bool.not_false,↓M2,M2,Mb,reduceIte])))))
   all_goals exact aF
 rw[if_neg h3] at h
 obtain ⟨h3,h4⟩:=not_or.1 h3
 refine U9 ?_
 simp only[decide_eq_false h3,decide_eq_false h4,↓M1,M1,Mb,reduceIte]
 by_cases h5:n=[97,114,114,97,121]
 ·rw[if_pos h5] at h
  simp only[decide_eq_true h5,↓M1,M1,Mb,reduceIte]
  (repeat' (first | (with_reducible intro _) | (with_reducible refine U9 ?_) | (simp only[↓M2,M2,Mb,reduceIte]) | (with_reducible first | refine ld aS aL aR ?_ | refine X8 aS aL aR ?_ | refine Y4 aS aL aR ?_ | refine Q9 aL ?_ | refine U0 aR ?_ | refine Y9 aS ?_ | refine W4 aS aL ?_ | refine J4 aS aR ?_ | refine Y1 aS aR aR (Rep.one (by assumption)) ?_ | refine J5 aS aR aR aR ?_ | refine Xi _ au (V6 aS ?_) | refine Q7m _ au (V6 aS ?_) | (refine Y7 (fun hh=>?_) (fun hh=>?_)<;>(try simp only[hh,Bool.not_true,Bool.not_false,↓M2,M2,Mb,reduceIte])) | (refine Q5 (fun hh=>?_) (fun hh=>?_)<;>(try simp only[hh,Bool.not_true,Bool.not_false,↓M2,M2,Mb,reduceIte])))))
  all_goals (try rw[e3])
  all_goals exact aF
 rw[if_neg h5] at h
 simp only[decide_eq_false h5,↓M1,M1,Mb,reduceIte]
 intro _
 refine Q9M a ha2 (V6 hs fun w1 σ1 hk=>?_)
 by_cases hp:Xl a=true
 ·simp only[hp,if_true] at h⊢
  (repeat' (first | (with_reducible intro _) | (with_reducible refine U9 ?_) | (simp only[↓M2,M2,Mb,reduceIte]) | (with_reducible first | refine ld aS aL aR ?_ | refine X8 aS aL aR ?_ | refine Y4 aS aL aR ?_ | refine Q9 aL ?_ | refine U0 aR ?_ | refine Y9 aS ?_ | refine W4 aS aL ?_ | refine J4 aS aR ?_ | refine Y1 aS aR aR (Rep.one (by assumption)) ?_ | refine J5 aS aR aR aR ?_ | (refine Y7 (fun hh=>?_) (fun hh=>?_)<;>(try simp only[hh,Bool.not_true,Bool.not_false,↓M2,M2,Mb,reduceIte])) | (refine Q5 (fun hh=>?_) (fun hh=>?_)<;>(try simp only[hh,Bool.not_true,Bool.not_false,↓M2,M2,Mb,reduceIte])))))
  all_goals exact aF
 ·simp only[eq_false_of_ne_true hp,Bool.false_eq_true,if_false] at h⊢
  (repeat' (first | (with_reducible intro _) | (with_reducible refine U9 ?_) | (simp only[↓M2,M2,Mb,reduceIte]) | (with_reducible first | refine ld aS aL aR ?_ | refine X8 aS aL aR ?_ | refine Y4 aS aL aR ?_ | refine Q9 aL ?_ | refine U0 aR ?_ | refine Y9 aS ?_ | refine W4 aS aL ?_ | refine J4 aS aR ?_ | refine Y1 aS aR aR (Rep.one (by assumption)) ?_ | refine J5 aS aR aR aR ?_ | (refine Y7 (fun hh=>?_) (fun hh=>?_)<;>(try simp only[hh,Bool.not_true,Bool.not_false,↓M2,M2,Mb,reduceIte])) | (refine Q5 (fun hh=>?_) (fun hh=>?_)<;>(try simp only[hh,Bool.not_true,Bool.not_false,↓M2,M2,Mb,reduceIte])))))
  all_goals exact aF)
def M6 (i:Ins):Int:=if !(O6 i.op).2.2 then 40 else if (!(O6 i.op).1&&decide (i.n≠0))||(!(O6 i.op).2.1&&decide (i.s≠[]))||((O6 i.op).2.1&& !txt i.op i.s) then 41 else 0
theorem Q8q {a:X0} (c:X4 w σ) (b:Glb σ) (h: ∀w',Below w.heap.size w w'→K (.tuple #[.bool (O6 a).1, .bool (O6 a).2.1, .bool (O6 a).2.2]) w'):Q1 P F.c1 [S a] w K:=Q9Z c b.ops h
theorem Q4I {i:Ins} {cs:List Value} (hs:X4 w σ) (hg:Glb σ) (hi:G8 σ i cs) (h: ∀w' σ',Stp w σ w' σ'→K (I (M6 i)) w'):Q1 P F.co [.agg cs.toArray] w K:=Q4u (by
 obtain ⟨rfl,h1,h2,h3⟩:=hi
 unfold Kj
 unfold M6 at h
 (repeat' (first | (with_reducible intro _) | (with_reducible refine U9 ?_) | (simp only[↓M2,M2,Mb,reduceIte]) | (with_reducible first | refine ld aS aL aR ?_ | refine X8 aS aL aR ?_ | refine Y4 aS aL aR ?_ | refine Q9 aL ?_ | refine U0 aR ?_ | refine Y9 aS ?_ | refine W4 aS aL ?_ | refine J4 aS aR ?_ | refine Y1 aS aR aR (Rep.one (by assumption)) ?_ | refine J5 aS aR aR aR ?_ | refine Q8q au au (V6 aS ?_) | refine X0Y au au au ?_ | (refine Y7 (fun hh=>?_) (fun hh=>?_)<;>(try simp only[hh,Bool.not_true,Bool.not_false,↓M2,M2,Mb,reduceIte])) | (refine Q5 (fun hh=>?_) (fun hh=>?_)<;>(try simp only[hh,Bool.not_true,Bool.not_false,↓M2,M2,Mb,reduceIte])))))
 all_goals exact aF)
end Go.Proofs.YtjdiakhipmggjaaGreatDoor

namespace Go.Emb
open Go.RowKit Go.Hm
variable {P : Program} {W : World}
theorem Q0F {w:World} (c:X4 w (Q3b W)) {a:Addr} {v:Value} (h:W.cell? a=some v):w.cell? a=some v:=by
 unfold World.cell? at h⊢
 cases b:W.heap[a.block]? with
 | none=>rw[b] at h;cases h
 | some o=>rw[b] at h;rw[c _ o b];exact h
theorem X0G {α:Type} {f:α→List Value} {sz:Nat} (k: ∀a,(f a).length=sz): ∀(l:List α) (cs:List Value),cs.length=l.length*sz→(∀i a,l[i]? =some a→(cs.drop (i*sz)).take sz=f a)→cs=l.flatMap f:=by
 intro l
 induction l with
 | nil=>intro cs h _;simp at h;simp[h]
 | cons a r g=>
  intro cs h hh
  have c:=hh 0 a rfl
  have j:=g (cs.drop sz) (by rw[List.length_drop,h,List.length_cons,Nat.succ_mul];omega) (fun i b e=>by
   have:=hh (i+1) b (by simpa using e)
   rw[List.drop_drop]
   rwa [Nat.succ_mul,Nat.add_comm] at this)
  rw[List.flatMap_cons,←j,←c]
  simp
theorem Q2n {α H:Type} {enc:TypeId×Value→H} {base:Nat} {r:Nat→Bool} {b:Bool} {f:α→List Value} {o:α→DataW H} {n sz:Nat} {t e:TypeId} {c:Nat} {cs:List Value} {p:List MemPlace} (A:P.underlying t=some (.array n e)) (C:P.cellsOf e=sz) (k:P.cellsOf t=n*sz)
 (l:List α) (E: ∀a,(f a).length=sz) (j: ∀m cs a q,DataW.trod enc P W base r b m e cs=some (o a,q)→cs=f a)
 (h:DataW.trod enc P W base r b c t cs=some (.agg (l.map o),p)):cs=l.flatMap f:=by
 obtain ⟨xs,m,_,g,B,L,y⟩:=DataW.trod_array A h
 simp only[Prod.mk.injEq,DataW.agg.injEq] at g
 have z:l.length=n:=by have:=congrArg List.length g.1;simp at this;omega
 refine X0G E l cs (by rw[B,k,z]) fun i a u=>?_
 have J:i<l.length:=(List.getElem?_eq_some_iff.1 u).1
 have s:=y i (by omega)
 have w:i<xs.length:=by omega
 rw[List.getElem?_eq_getElem w,C] at s
 have D:(xs[i]).1=o a:=by
  have:=congrArg (·[i]?) g.1
  simp only[List.getElem?_map,u,List.getElem?_eq_getElem w,Option.map_some,Option.some.injEq] at this
  exact this.symm
 exact j m _ a _ (by rw[s];congr 1;exact Prod.ext D rfl)
theorem Q4x {n:String} {g:Nat} {cs:Array Value} {l:List Value} (f:P.globalNamed n=some g) (a:W.var? P n=some cs) (j:cs.toList=l):Z3 (Q3b W) ⟨g,0,none⟩ l:=by
 unfold World.var? at a
 rw[f] at a
 simp only[Option.bind_some] at a
 cases b:W.heap[g]? with
 | none=>rw[b] at a;cases a
 | some o=>
  rw[b] at a
  cases o with
  | cells arr e c=>
   cases a
   refine ⟨rfl,cs,e,c,b,fun i v h=>?_⟩
   subst j
   simpa using h
  | _=>cases a
end Go.Emb
namespace Go.Proofs.YtjdiakhipmggjaaGreatDoor
open Go.Emb Go.RowKit Go.Kd Go.Hm
variable {W : World}
def laidAll:List (String×DataW Unit):=[("unicode/utf8.acceptRanges",Rows.laid_unicode_utf8_acceptRanges),("squinch/code.ops",Rows.laid_squinch_code_ops),("squinch/hier.faults",Rows.laid_squinch_hier_faults),("unicode/utf8.first",Rows.laid_unicode_utf8_first)]
theorem X1f:Rows.laid_squinch_code_ops=(.agg (Za.map fun o=> .agg [.lit (.string o.name), .lit (.bool o.number), .lit (.bool o.text)]):DataW Unit):=by rfl
theorem Q8n:Rows.laid_squinch_hier_faults=(.agg (J1.map fun s=> .lit (.string s)):DataW Unit):=by rfl
theorem X1r:(Rows.laid_unicode_utf8_acceptRanges:DataW Unit)=Lib.acceptData:=by rfl
theorem Q9V:Rows.laid_unicode_utf8_first=Lib.firstData:=by kernel_rfl
def X1H:Array Field:= #[⟨"name",T.b,0,false, "", "squinch/code",0⟩,⟨"number",T.q,1,false, "", "squinch/code",16⟩,⟨"text",T.q,2,false, "", "squinch/code",17⟩]
theorem X1A:P.underlying T.ab=some (.struct X1H):=by kernel_rfl
theorem X16 (h:laidMetH P laidAll W):Glb (Q3b W):=by
 rw[Go.MakeChecks.laidMetH_plain _ _ _ (by kernel_rfl)] at h
 refine ⟨?_,fun w z=>?_,?_⟩
 ·obtain ⟨g,t,cs,o,p,r,k,b,u⟩:=Lib.laidMet.reads h (.tail _ (.head _))
  obtain rfl:=Option.some.inj ((show P.globalNamed "squinch/code.ops"=some G.a by kernel_rfl).symm.trans r)
  obtain rfl:=Option.some.inj ((show (P.globals[G.a]?).map (·.type)=some T.ad by kernel_rfl).symm.trans k)
  rw[X1f] at u
  refine Q4x r b (Q2n (f:=cOp) (sz:=3) (n:=42) (e:=T.ab) (by kernel_rfl) (by kernel_rfl) (by kernel_rfl) Za (fun _=>rfl) (fun m cs a q h=>by
  obtain ⟨xs,n,_,j,Z,Y,B⟩:=DataW.trod_struct X1A h
  simp only[Prod.mk.injEq,DataW.agg.injEq] at j
  have l:cs.length=3:=by rw[Z];kernel_rfl
  obtain ⟨c0,y,A,rfl⟩:=Q9v l
  obtain ⟨x0,x1,V,rfl⟩:=Q9v (show xs.length=3 by rw[Y];rfl)
  have j:=j.1
  simp only[List.map_cons,List.map_nil,List.cons.injEq,and_true] at j
  obtain ⟨C,M,O⟩:=j
  have E:DataW.trod (fun _=>()) P W 0 (fun _=>true) false n T.b (List.take (P.cellsOf T.b) (List.drop 0 [c0,y,A]))=some x0:=B 0 _ rfl
  have Q:DataW.trod (fun _=>()) P W 0 (fun _=>true) false n T.q (List.take (P.cellsOf T.q) (List.drop 1 [c0,y,A]))=some x1:=B 1 _ rfl
  have N:DataW.trod (fun _=>()) P W 0 (fun _=>true) false n T.q (List.take (P.cellsOf T.q) (List.drop 2 [c0,y,A]))=some V:=B 2 _ rfl
  rw[Q3Q] at E
  rw[X0v] at Q N
  obtain ⟨⟨⟨s0⟩⟩,D,U,_⟩:=DataW.trod_string X9 E
  obtain ⟨b1,R,r1⟩:=DataW.trod_bool Q16 Q
  obtain ⟨b2,J,X⟩:=DataW.trod_bool Q16 N
  simp at D R J
  subst D R J U r1 X
  simp at C M O
  simp[cOp,←C,←M,←O]) u)
 ·have:=utf8Tabs_of_readsT (U8Types.of196 Tryz.lays196) ⟨by kernel_rfl,by kernel_rfl,by kernel_rfl,by kernel_rfl,by kernel_rfl,by kernel_rfl,by kernel_rfl⟩ (Q9V▸Lib.laidMet.reads h (.tail _ (.tail _ (.tail _ (.head _))))) (X1r▸Lib.laidMet.reads h (.head _))
  exact ⟨fun c hc=>Q0F z (this.1 c hc),fun i L=>⟨Q0F z (this.2 i L).1,Q0F z (this.2 i L).2⟩⟩
 ·obtain ⟨g,t,cs,o,p,r,k,b,u⟩:=Lib.laidMet.reads h (.tail _ (.tail _ (.head _)))
  obtain rfl:=Option.some.inj ((show P.globalNamed "squinch/hier.faults"=some G.b by kernel_rfl).symm.trans r)
  obtain rfl:=Option.some.inj ((show (P.globals[G.b]?).map (·.type)=some T.ao by kernel_rfl).symm.trans k)
  rw[Q8n] at u
  have:=Q2n (f:=fun s=>[S s]) (sz:=1) (n:=6) (e:=T.b) (by kernel_rfl) Q3Q (by kernel_rfl) J1 (fun _=>rfl) (fun m cs a q h=>by
   obtain ⟨⟨⟨s⟩⟩,rfl,j,_⟩:=DataW.trod_string X9 h
   cases j;rfl) u
  exact Q4x r b (this.trans (by rfl))
end Go.Proofs.YtjdiakhipmggjaaGreatDoor
namespace Go.Emb
open Go.RowKit Go.Hm
end Go.Emb
namespace Go.Proofs.YtjdiakhipmggjaaGreatDoor
open Go.Emb Go.RowKit Go.Kd Go.Hm
section
variable {H : Type} {enc : TypeId × Value → H} {W : World} {v : Value} {d : DataW H} {p : List MemPlace}
end
end Go.Proofs.YtjdiakhipmggjaaGreatDoor

namespace Go.Proofs.YtjdiakhipmggjaaGreatDoor
open Go.Emb Go.RowKit Go.Kd Go.Hm
variable {w : World} {K : Value → World → Prop} {σ : Q4}
def S2 (n:Int) (x:Cat):Bool:=decide (0≤x.frm)&&decide (x.frm<x.to)&&decide (x.to≤n)&&decide (0≤x.at_)&&decide (x.at_<n)&&W2 x.cls
theorem Q6Q {cs:List Value} {c:Cat} {q:Addr} {n:Int} (hs:X4 w σ) (hc:Zc σ c cs) (hq:Z3 σ q [I n]) (h: ∀w' σ',Stp w σ w' σ'→K (.bool (S2 n c)) w'):Q1 P F.b2 [.agg cs.toArray, .pointer (some q)] w K:=Q0H (by
 obtain ⟨rfl,h1,h2,h3,h4⟩:=hc
 unfold En
 unfold S2 at h
 (repeat' (first | (with_reducible intro _) | (with_reducible refine U9 ?_) | (simp only[↓M2,M2,Mb,reduceIte]) | (with_reducible first | refine ld aS aL aR ?_ | refine X8 aS aL aR ?_ | refine Y4 aS aL aR ?_ | refine Q9 aL ?_ | refine U0 aR ?_ | refine Y9 aS ?_ | refine W4 aS aL ?_ | refine J4 aS aR ?_ | refine Y1 aS aR aR (Rep.one (by assumption)) ?_ | refine J5 aS aR aR aR ?_ | refine Df _ au (V6 aS ?_) | (refine Y7 (fun hh=>?_) (fun hh=>?_)<;>(try simp only[hh,Bool.not_true,Bool.not_false,↓M2,M2,Mb,reduceIte])) | (refine Q5 (fun hh=>?_) (fun hh=>?_)<;>(try simp only[hh,Bool.not_true,Bool.not_false,↓M2,M2,Mb,reduceIte])))))
 all_goals exact aF)
theorem Q6K {cs:List Value} {i:Ins} (hs:X4 w σ) (hg:Glb σ) (hc:G8 σ i cs) (h: ∀w' σ',Stp w σ w' σ'→K (.bool (decide (M6 i=0))) w'):Q1 P F.b3 [.agg cs.toArray] w K:=Q0E (by
 obtain ⟨rfl,h1,h2,h3⟩:=hc
 have hc:G8 σ i [S i.op,I i.n,S i.s]:=⟨rfl,h1,h2,h3⟩
 unfold Dv
 (repeat' (first | (with_reducible intro _) | (with_reducible refine U9 ?_) | (simp only[↓M2,M2,Mb,reduceIte]) | (with_reducible first | refine ld aS aL aR ?_ | refine X8 aS aL aR ?_ | refine Y4 aS aL aR ?_ | refine Q9 aL ?_ | refine U0 aR ?_ | refine Y9 aS ?_ | refine W4 aS aL ?_ | refine J4 aS aR ?_ | refine Y1 aS aR aR (Rep.one (by assumption)) ?_ | refine J5 aS aR aR aR ?_ | refine Q4I au au au ?_ | (refine Y7 (fun hh=>?_) (fun hh=>?_)<;>(try simp only[hh,Bool.not_true,Bool.not_false,↓M2,M2,Mb,reduceIte])) | (refine Q5 (fun hh=>?_) (fun hh=>?_)<;>(try simp only[hh,Bool.not_true,Bool.not_false,↓M2,M2,Mb,reduceIte])))))
 all_goals exact aF)
def S5 (m:Hm.Met):Bool:=L5 m.name&&m.params.all right&&(decide (m.result=[])||right m.result)&&
 if m.abs then decide (m.locals=0)&&decide (m.code=[])&&decide (m.catches=[])
 else decide (m.code≠[])&&decide ((m.params.length:Int)<m.locals)&&m.code.all (fun i=>decide (M6 i=0))&&m.catches.all (S2 m.code.length)
theorem Q8R {cs:List Value} {m:Hm.Met} (hs:X4 w σ) (hg:Glb σ) (hm:L9 σ m cs) (h: ∀w' σ',Stp w σ w' σ'→K (.bool (S5 m)) w'):Q1 P F.aW [.agg cs.toArray] w K:=Q1H (by
 obtain ⟨pv,cv,hv,rfl,g1,g2,g3,g4,g5,g6⟩:=hm
 unfold St
 unfold S5 at h
 have e1:decide ((0:Int)<m.code.length)=decide (m.code≠[]):=by cases m.code<;>simp
 have e2:decide ((m.code.length:Int)=0)=decide (m.code=[]):=by cases m.code<;>simp;omega
 have e3:decide ((m.catches.length:Int)=0)=decide (m.catches=[]):=by cases m.catches<;>simp;omega
 have hA: ∀{w1:World} {σ1:Q4} {K:Value→World→Prop},X4 w1 σ1→Sl 1 J6 σ1 pv m.params→(∀w' σ',Stp w1 σ1 w' σ'→K (.bool (m.params.all right)) w')→Q1 P F.a5 [pv, .func (.func F.w) #[] #[]] w1 K:=
  fun hs hv h=>Cg right hs hv (fun σ1 x w1 K _ _ hs hl hK=>Y8 (Xi x (Nat.le_trans hl (by decide)) hK)) (V6 hs h)
 have hB: ∀{w1:World} {σ1:Q4} {K:Value→World→Prop},X4 w1 σ1→Glb σ1→Sl 3 G8 σ1 cv m.code→(∀w' σ',Stp w1 σ1 w' σ'→K (.bool (m.code.all fun i=>decide (M6 i=0))) w')→Q1 P F.an [cv, .func (.func F.b3) #[] #[]] w1 K:=
  fun hs hg hv h=>Az (fun i=>decide (M6 i=0)) hs hv (fun σ1 x cs w1 K le _ hs hr hl hK=>Y8 (Q6K hs (hg.lift ⟨le⟩) hr fun w' σ' hk=>hK w' hk.bel)) (V6 hs h)
 have hC: ∀{w1:World} {σ1:Q4} {K:Value→World→Prop} {q:Addr},X4 w1 σ1→Sl 4 Zc σ1 hv m.catches→Z3 σ1 q [I m.code.length]→(∀w' σ',Stp w1 σ1 w' σ'→K (.bool (m.catches.all (S2 m.code.length))) w')→Q1 P F.ao [hv, .func (.func F.b2) #[] #[.pointer (some q)]] w1 K:=
  fun hs hv hq h=>Q03 (S2 m.code.length) hs hv (fun σ1 x cs w1 K le _ hs hr hl hK=>Y8 (Q6Q hs hr (hq.le le) fun w' σ' hk=>hK w' hk.bel)) (V6 hs h)
 refine Y9 hs fun a w1 σ1 hk1 ha1=>?_
 (repeat' (first | (with_reducible intro _) | (with_reducible refine U9 ?_) | (simp only[↓M2,M2,Mb,reduceIte]) | (with_reducible first | refine ld aS aL aR ?_ | refine X8 aS aL aR ?_ | refine Y4 aS aL aR ?_ | refine Q9 aL ?_ | refine U0 aR ?_ | refine Y9 aS ?_ | refine W4 aS aL ?_ | refine J4 aS aR ?_ | refine Y1 aS aR aR (Rep.one (by assumption)) ?_ | refine J5 aS aR aR aR ?_ | refine Q4p au (V6 aS ?_) | refine Xi _ au (V6 aS ?_) | refine hA au au ?_ | refine hB au au au ?_ | refine hC au au au ?_ | (refine Y7 (fun hh=>?_) (fun hh=>?_)<;>(try simp only[hh,Bool.not_true,Bool.not_false,↓M2,M2,Mb,reduceIte])) | (refine Q5 (fun hh=>?_) (fun hh=>?_)<;>(try simp only[hh,Bool.not_true,Bool.not_false,↓M2,M2,Mb,reduceIte])))))
 all_goals (simp only[←e1,←e2,←e3] at h;clear e1 e2 e3;exact aF))
theorem Q80 {cs:List Value} {m:Hm.Met} (a:X4 w σ) (b:Glb σ) (c:L9 σ m cs) (h: ∀w' d,Stp w σ w' d→K (.bool (S5 m)) w'):Y6 P (.func (.func F.aW) #[] #[]) [.agg cs.toArray] w K:=Y8 (Q8R a b c h)
def Nz (f:Fld):Bool:=L5 f.name&&right f.kind
def Vj (c:Cla):Bool:=(c.name::c.super::c.like).all W2&& !((c.super::c.like).any fun y=>decide (c.name=y))&&E1 id [] c.like&&
 !(c.iface&&(!c.abs|| !decide (c.super=Z9)|| !decide (c.fields=[])||c.methods.any (fun m=> !m.abs)))&&
 !((c.abs&&c.fin)||(c.methods.any (·.abs)&& !c.abs))&&E1 Fld.name [] c.fields&&E1 Hm.Met.name [] c.methods&&c.fields.all Nz&&c.methods.all S5
def L3 (c:Cla):Int:=if Xr c then 51 else if Vj c then 0 else 50
theorem Q8d {cs:List Value} {f:Fld} (hs:X4 w σ) (hf:O4 σ f cs) (h: ∀w' σ',Stp w σ w' σ'→K (.bool (Nz f)) w'):Q1 P F.bl [.agg cs.toArray] w K:=Q1r (by
 obtain ⟨rfl,h1,h2⟩:=hf
 unfold Hq
 unfold Nz at h
 (repeat' (first | (with_reducible intro _) | (with_reducible refine U9 ?_) | (simp only[↓M2,M2,Mb,reduceIte]) | (with_reducible first | refine ld aS aL aR ?_ | refine X8 aS aL aR ?_ | refine Y4 aS aL aR ?_ | refine Q9 aL ?_ | refine U0 aR ?_ | refine Y9 aS ?_ | refine W4 aS aL ?_ | refine J4 aS aR ?_ | refine Y1 aS aR aR (Rep.one (by assumption)) ?_ | refine J5 aS aR aR aR ?_ | refine Q4p au (V6 aS ?_) | refine Xi _ au (V6 aS ?_) | (refine Y7 (fun hh=>?_) (fun hh=>?_)<;>(try simp only[hh,Bool.not_true,Bool.not_false,↓M2,M2,Mb,reduceIte])) | (refine Q5 (fun hh=>?_) (fun hh=>?_)<;>(try simp only[hh,Bool.not_true,Bool.not_false,↓M2,M2,Mb,reduceIte])))))
 all_goals exact aF)
set_option maxHeartbeats 1600000 in
theorem Q9C {cs:List Value} {c:Cla} (hs:X4 w σ) (hg:Glb σ) (hc:U4 σ c cs) (hl:c.like.length≤1000000) (h: ∀w' σ',Stp w σ w' σ'→K (.bool (Vj c)) w'):Q1 P F.cf [.agg cs.toArray] w K:=Q33 (by
 obtain ⟨lv,fv,mv,rfl,g1,g2,g3,g4,g5⟩:=hc
 unfold Gi
 unfold Vj at h
 refine Y9 hs fun a w1 σ1 hk1 ha1=>?_
 rw[fa]
 refine ld hk1.sat ha1 rfl ?_
 rw[fa]
 refine ld hk1.sat ha1 rfl ?_
 refine Xa (R:=J6) (sz:=1) (xs:=[c.name,c.super]) hk1 [_,_] rfl rfl (by simp;exact ⟨rfl,rfl⟩) rfl ⟨⟨rfl,g4⟩,⟨rfl,g5⟩,trivial⟩ fun v w2 hk2 hacc _=>?_
 rw[fa]
 refine ld hk2.sat ha1 rfl ?_
 refine Oy (hk1.trans hk2) hacc (g1.up hk1) rfl (by simp;omega) (by simp;omega) fun v' w3 hn3 hS3 hacc3 _=>?_
 obtain ⟨σ3,hS3,hv3,le3,_⟩:=hacc3.keep hS3
 have hv3:Sl 1 J6 σ3 v' (c.name::c.super::c.like):=hv3
 have ha3:=ha1.le le3
 have le13:SLe σ σ3:=⟨hS3.le⟩
 have g1:=g1.lift le13
 have g2:=g2.lift le13
 have g3:=g3.lift le13
 have hg:=hg.lift le13
 refine U6 hS3.sat ?_
 refine N1 (fun v _=>Sl 1 J6 σ3 v (c.super::c.like)) (fun _ _ _ h _=>h) (fun w hb=>?_) ?_
 ·refine Sh hv3 (some (I 1)) none 1 (c.like.length+2) (.inr rfl) (.inl ⟨rfl,by simp⟩) (by omega) (by simp) fun v' hv'=>⟨Below.refl _ _,?_⟩
  simpa using hv'
 refine X2 (.pointer (some (a.add 0))) (fun w hb=>by rw[fa];exact X5 rfl) ?_
 refine X2 (S c.name) (fun t w hb e=>by rw[e];exact ld hb.sat ha3 rfl (X5 rfl)) ?_
 rintro t16 t17 t18 w4 hb4 f16 rfl rfl
 have hS4:=hS3.trans hb4.stp
 clear hb4 hk1 hk2 hn3
 have hs4:=hS4.sat
 refine Q07 hs4 f16 ?_
 have hA: ∀{w1:World} {σ1:Q4} {K:Value→World→Prop},X4 w1 σ1→Sl 7 L9 σ1 mv c.methods→(∀w' σ',Stp w1 σ1 w' σ'→K (.bool (c.methods.any (·.abs))) w')→Q1 P F.a [mv, .func (.func F.c2) #[] #[]] w1 K:=
  fun hs hv h=>H3 (·.abs) hs hv (fun x cs w1 K _ hs hr hl hK=>Y8 (Q18 (by
   obtain ⟨pv,cv,hv,rfl,_⟩:=hr
   unfold Hn
   refine Y9 hs fun a w1 σ1 hk1 ha1=>?_
   (repeat' (first | (with_reducible intro _) | (with_reducible refine U9 ?_) | (simp only[↓M2,M2,Mb,reduceIte]) | (with_reducible first | refine ld aS aL aR ?_ | refine X8 aS aL aR ?_ | refine Y4 aS aL aR ?_ | refine Q9 aL ?_ | refine U0 aR ?_ | refine Y9 aS ?_ | refine W4 aS aL ?_ | refine J4 aS aR ?_ | refine Y1 aS aR aR (Rep.one (by assumption)) ?_ | refine J5 aS aR aR aR ?_ | (refine Y7 (fun hh=>?_) (fun hh=>?_)<;>(try simp only[hh,Bool.not_true,Bool.not_false,↓M2,M2,Mb,reduceIte])) | (refine Q5 (fun hh=>?_) (fun hh=>?_)<;>(try simp only[hh,Bool.not_true,Bool.not_false,↓M2,M2,Mb,reduceIte])))))
   exact hK _ hk1.bel))) (V6 hs h)
 have hB: ∀{w1:World} {σ1:Q4} {K:Value→World→Prop},X4 w1 σ1→Sl 7 L9 σ1 mv c.methods→(∀w' σ',Stp w1 σ1 w' σ'→K (.bool (c.methods.any fun m=> !m.abs)) w')→Q1 P F.a [mv, .func (.func F.c3) #[] #[]] w1 K:=
  fun hs hv h=>H3 (fun m=> !m.abs) hs hv (fun x cs w1 K _ hs hr hl hK=>Y8 (Q1p (by
   obtain ⟨pv,cv,hv,rfl,_⟩:=hr
   unfold Rc
   refine Y9 hs fun a w1 σ1 hk1 ha1=>?_
   (repeat' (first | (with_reducible intro _) | (with_reducible refine U9 ?_) | (simp only[↓M2,M2,Mb,reduceIte]) | (with_reducible first | refine ld aS aL aR ?_ | refine X8 aS aL aR ?_ | refine Y4 aS aL aR ?_ | refine Q9 aL ?_ | refine U0 aR ?_ | refine Y9 aS ?_ | refine W4 aS aL ?_ | refine J4 aS aR ?_ | refine Y1 aS aR aR (Rep.one (by assumption)) ?_ | refine J5 aS aR aR aR ?_ | (refine Y7 (fun hh=>?_) (fun hh=>?_)<;>(try simp only[hh,Bool.not_true,Bool.not_false,↓M2,M2,Mb,reduceIte])) | (refine Q5 (fun hh=>?_) (fun hh=>?_)<;>(try simp only[hh,Bool.not_true,Bool.not_false,↓M2,M2,Mb,reduceIte])))))
   exact hK _ hk1.bel))) (V6 hs h)
 have hC: ∀{w1:World} {σ1:Q4} {K:Value→World→Prop},X4 w1 σ1→Sl 1 J6 σ1 v' (c.name::c.super::c.like)→(∀w' σ',Stp w1 σ1 w' σ'→K (.bool ((c.name::c.super::c.like).all W2)) w')→Q1 P F.a5 [v', .func (.func F.ae) #[] #[]] w1 K:=
  fun hs hv h=>Cg W2 hs hv (fun σ1 x w1 K _ _ hs hl hK=>Y8 (Df x (Nat.le_trans hl (by decide)) hK)) (V6 hs h)
 have hD: ∀{w1:World} {σ1:Q4} {K:Value→World→Prop},X4 w1 σ1→Sl 1 J6 σ1 lv c.like→(∀w' σ',Stp w1 σ1 w' σ'→K (.bool (E1 id [] c.like)) w')→Q1 P F.aG [lv, .func (.func F.c4) #[] #[]] w1 K:=
  fun hs hv h=>Q38 id hs hv (fun σ1 x w1 K _ hs hl hK=>Y8 (Q0V (hK _ (Below.refl _ _)))) (V6 hs h)
 have hE: ∀{w1:World} {σ1:Q4} {K:Value→World→Prop},X4 w1 σ1→Sl 3 O4 σ1 fv c.fields→(∀w' σ',Stp w1 σ1 w' σ'→K (.bool (E1 Fld.name [] c.fields)) w')→Q1 P F.aw [fv, .func (.func F.c5) #[] #[]] w1 K:=
  fun hs hv h=>Q0L Fld.name hs hv (fun σ1 x cs w1 K _ hs hr hl hK=>Y8 (Q1A (by
   obtain ⟨rfl,_⟩:=hr
   unfold Ra
   refine Y9 hs fun a w1 σ1 hk1 ha1=>?_
   (repeat' (first | (with_reducible intro _) | (with_reducible refine U9 ?_) | (simp only[↓M2,M2,Mb,reduceIte]) | (with_reducible first | refine ld aS aL aR ?_ | refine X8 aS aL aR ?_ | refine Y4 aS aL aR ?_ | refine Q9 aL ?_ | refine U0 aR ?_ | refine Y9 aS ?_ | refine W4 aS aL ?_ | refine J4 aS aR ?_ | refine Y1 aS aR aR (Rep.one (by assumption)) ?_ | refine J5 aS aR aR aR ?_ | (refine Y7 (fun hh=>?_) (fun hh=>?_)<;>(try simp only[hh,Bool.not_true,Bool.not_false,↓M2,M2,Mb,reduceIte])) | (refine Q5 (fun hh=>?_) (fun hh=>?_)<;>(try simp only[hh,Bool.not_true,Bool.not_false,↓M2,M2,Mb,reduceIte])))))
   exact hK _ hk1.bel))) (V6 hs h)
 have hF: ∀{w1:World} {σ1:Q4} {K:Value→World→Prop},X4 w1 σ1→Sl 7 L9 σ1 mv c.methods→(∀w' σ',Stp w1 σ1 w' σ'→K (.bool (E1 Hm.Met.name [] c.methods)) w')→Q1 P F.ak [mv, .func (.func F.c6) #[] #[]] w1 K:=
  fun hs hv h=>Ax Hm.Met.name hs hv (fun σ1 x cs w1 K _ hs hr hl hK=>Y8 (Q1w (by
   obtain ⟨pv,cv,hv,rfl,_⟩:=hr
   unfold Hr
   refine Y9 hs fun a w1 σ1 hk1 ha1=>?_
   (repeat' (first | (with_reducible intro _) | (with_reducible refine U9 ?_) | (simp only[↓M2,M2,Mb,reduceIte]) | (with_reducible first | refine ld aS aL aR ?_ | refine X8 aS aL aR ?_ | refine Y4 aS aL aR ?_ | refine Q9 aL ?_ | refine U0 aR ?_ | refine Y9 aS ?_ | refine W4 aS aL ?_ | refine J4 aS aR ?_ | refine Y1 aS aR aR (Rep.one (by assumption)) ?_ | refine J5 aS aR aR aR ?_ | (refine Y7 (fun hh=>?_) (fun hh=>?_)<;>(try simp only[hh,Bool.not_true,Bool.not_false,↓M2,M2,Mb,reduceIte])) | (refine Q5 (fun hh=>?_) (fun hh=>?_)<;>(try simp only[hh,Bool.not_true,Bool.not_false,↓M2,M2,Mb,reduceIte])))))
   exact hK _ hk1.bel))) (V6 hs h)
 have hG: ∀{w1:World} {σ1:Q4} {K:Value→World→Prop},X4 w1 σ1→Sl 3 O4 σ1 fv c.fields→(∀w' σ',Stp w1 σ1 w' σ'→K (.bool (c.fields.all Nz)) w')→Q1 P F.al [fv, .func (.func F.bl) #[] #[]] w1 K:=
  fun hs hv h=>Q06 Nz hs hv (fun σ1 x cs w1 K _ _ hs hr hl hK=>Y8 (Q8d hs hr fun w' σ' hk=>hK w' hk.bel)) (V6 hs h)
 have hH: ∀{w1:World} {σ1:Q4} {K:Value→World→Prop},X4 w1 σ1→Glb σ1→Sl 7 L9 σ1 mv c.methods→(∀w' σ',Stp w1 σ1 w' σ'→K (.bool (c.methods.all S5)) w')→Q1 P F.ah [mv, .func (.func F.aW) #[] #[]] w1 K:=
  fun hs hg hv h=>Kz S5 hs hv (fun σ1 x cs w1 K le _ hs hr hl hK=>Q80 hs (hg.lift ⟨le⟩) hr fun w' σ' hk=>hK w' hk.bel) (V6 hs h)
 have e1:decide ((0:Int)<c.fields.length)= !decide (c.fields=[]):=by cases c.fields<;>simp
 have e2:decide (c.super=[79,98,106,101,99,116])=decide (c.super=Z9):=rfl
 (repeat' (first | (with_reducible intro _) | (with_reducible refine U9 ?_) | (simp only[↓M2,M2,Mb,reduceIte]) | (with_reducible first | refine ld aS aL aR ?_ | refine X8 aS aL aR ?_ | refine Y4 aS aL aR ?_ | refine Q9 aL ?_ | refine U0 aR ?_ | refine Y9 aS ?_ | refine W4 aS aL ?_ | refine J4 aS aR ?_ | refine Y1 aS aR aR (Rep.one (by assumption)) ?_ | refine J5 aS aR aR aR ?_ | refine hA au au ?_ | refine hB au au ?_ | refine hC au au ?_ | refine hD au au ?_ | refine hE au au ?_ | refine hF au au ?_ | refine hG au au ?_ | refine hH au au au ?_ | (refine Y7 (fun hh=>?_) (fun hh=>?_)<;>(try simp only[hh,Bool.not_true,Bool.not_false,↓M2,M2,Mb,reduceIte])) | (refine Q5 (fun hh=>?_) (fun hh=>?_)<;>(try simp only[hh,Bool.not_true,Bool.not_false,↓M2,M2,Mb,reduceIte])))))
 all_goals (simp only[←e1,←e2] at h;clear hA hB hC hD hE hF hG hH e1 e2;exact aF))
theorem Q9I {cs:List Value} {c:Cla} (hs:X4 w σ) (hg:Glb σ) (hc:U4 σ c cs) (hl:c.like.length≤1000000) (h: ∀w' σ',Stp w σ w' σ'→K (I (L3 c)) w'):Q1 P F.cd [.agg cs.toArray] w K:=Q2Y (by
 have hc0:=hc
 obtain ⟨lv,fv,mv,rfl,g1,g2,g3,g4,g5⟩:=hc
 unfold Gp
 unfold L3 at h
 (repeat' (first | (with_reducible intro _) | (with_reducible refine U9 ?_) | (simp only[↓M2,M2,Mb,reduceIte]) | (with_reducible first | refine ld aS aL aR ?_ | refine X8 aS aL aR ?_ | refine Y4 aS aL aR ?_ | refine Q9 aL ?_ | refine U0 aR ?_ | refine Y9 aS ?_ | refine W4 aS aL ?_ | refine J4 aS aR ?_ | refine Y1 aS aR aR (Rep.one (by assumption)) ?_ | refine J5 aS aR aR aR ?_ | refine X0F au au (V6 aS ?_) | refine Q9C au au au au ?_ | (refine Y7 (fun hh=>?_) (fun hh=>?_)<;>(try simp only[hh,Bool.not_true,Bool.not_false,↓M2,M2,Mb,reduceIte])) | (refine Q5 (fun hh=>?_) (fun hh=>?_)<;>(try simp only[hh,Bool.not_true,Bool.not_false,↓M2,M2,Mb,reduceIte])))))
 all_goals exact aF)
end Go.Proofs.YtjdiakhipmggjaaGreatDoor

namespace Go.Emb
open Go.RowKit Go.Hm
structure Tab (σ : Q4) (v : Value) (l : List Cla) : Prop where
  ex : ∃ a lv r m, v = .pointer (some a) ∧ Z3 σ a [lv, .map (some r)] ∧ Sl 8 U4 σ lv l ∧ T2 σ r m ∧ ∀ n, E5 m n = (Y2 l n).map (fun i : Nat => I (i : Int))
theorem Tab.lift {σ0 σ:Q4} {v:Value} {l:List Cla} (h:Tab σ0 v l) (k:SLe σ0 σ):Tab σ v l:=by
 obtain ⟨a,b,r,m,d,f,g,e,c⟩:=h.ex
 exact ⟨a,b,r,m,d,f.lift k,g.lift k,e.lift k,c⟩
end Go.Emb
namespace Go.Proofs.YtjdiakhipmggjaaGreatDoor
open Go.Emb Go.RowKit Go.Kd Go.Hm
variable {w : World} {K : Value → World → Prop} {σ : Q4} {v : Value} {l : List Cla}
theorem Q6N {n:X0} (b:X4 w σ) (c:Tab σ v l) (h:K (.bool (Q0w l n)) w):Q1 P F.j [v,S n] w K:=Ni (by
 obtain ⟨a,i,r,m,rfl,g,j,e,d⟩:=c.ex
 unfold Zf
 rw[L4,fa]
 refine ld b g rfl ?_
 rw[Q0S X9 (e.is b) n,d n]
 unfold Q0w at h
 cases f:Y2 l n<;>rw[f] at h<;>((try simp only[Option.map_some,Option.map_none]);(try simp only[↓M1,M1,Mb,reduceIte]);exact h))
theorem Xn {n:X0} {c:Cla} (Z:X4 w σ) (J:Tab σ v l) (U:lk l n=some c)
 (h: ∀q s mv w' o,Stp w σ w' o→Sl 1 J6 o q c.like→Sl 3 O4 o s c.fields→Sl 7 L9 o mv c.methods→c.name.length≤J8→c.super.length≤J8→U4 o c [S c.name,S c.super,q, .bool c.iface, .bool c.abs, .bool c.fin,s,mv]→
  K (.agg [S c.name,S c.super,q, .bool c.iface, .bool c.abs, .bool c.fin,s,mv].toArray) w'):Q1 P F.g [v,S n] w K:=Co (by
 obtain ⟨a,q,r,m,rfl,D,W,t3,t4⟩:=J.ex
 obtain ⟨_,_,i,R,B⟩:=U8 U
 obtain ⟨z,rfl⟩:=List.getElem?_eq_some_iff.1 B
 unfold Wa
 refine C5 Z fun b w1 σ1 f d A=>?_
 refine U6 d.sat ?_
 refine X2 (.pointer (some a)) (fun w f=>by rw[L4];exact X5 rfl) ?_
 refine X2 (.pointer (some (a.add 0))) (fun t w f e=>by rw[e,fa];exact X5 rfl) ?_
 refine X2 (.pointer (some a)) (fun w f=>by rw[L4];exact X5 rfl) ?_
 refine X2 (.pointer (some (a.add 1))) (fun t w f e=>by rw[e,fa];exact X5 rfl) ?_
 refine X2 q (fun t w f e=>by rw[e];exact ld f.sat (D.up d) rfl (X5 rfl)) ?_
 refine X2 (.map (some r)) (fun t w f e=>by rw[e];exact ld f.sat (D.up d) rfl (X5 rfl)) ?_
 refine X2 (I i) (fun t w f e=>by rw[e,Q2P X9 ((t3.up d).is f.sat) n,t4 n,R];exact X5 rfl) ?_
 rintro t6 t7 X af t8 L O w2 g rfl rfl rfl rfl M rfl rfl
 subst M
 have y:=A.step g.stp
 refine W7 (W.up d) z fun p cs H j E=>?_
 refine Y4 g.sat H j ?_
 have k:=E
 obtain ⟨Q,s,mv,rfl,g1,N,g3,Y,V⟩:=E
 refine B8 y (d.trans g.stp) f rfl rfl (Rep.one k) fun w3 u C=>?_
 refine V9 C rfl ?_
 exact h _ _ _ w3 σ1 u.stp g1 N g3 Y V k)
theorem Pb {n:X0} (b:X4 w σ) (a:Tab σ v l) (c:lk l n=none) (h:K (.bool false) w):Q1 P F.j [v,S n] w K:=Q6N b a (by rw[Q1N,c];exact h)
theorem Ee {n:X0} {d:Cla} (b:X4 w σ) (a:Tab σ v l) (c:lk l n=some d) (h:K (.bool true) w):Q1 P F.j [v,S n] w K:=Q6N b a (by rw[Q1N,c];exact h)
theorem Q8o {c:Cla} {cs:List Value} (hs:X4 w σ) (ht:Tab σ v l) (hc:U4 σ c cs) (h: ∀w' σ',Stp w σ w' σ'→K (I (L2 l c)) w'):Q1 P F.aX [v, .agg cs.toArray] w K:=Sn (by
 obtain ⟨lv,fv,mv,rfl,g1,g2,g3,g4,g5⟩:=hc
 unfold Vc
 unfold L2 at h
 cases hd:lk l c.super with
 | none=>
  simp only[K8,hd,if_true] at h
  (repeat' (first | (with_reducible intro _) | (with_reducible refine U9 ?_) | (simp only[↓M2,M2,Mb,reduceIte]) | (with_reducible first | refine ld aS aL aR ?_ | refine X8 aS aL aR ?_ | refine Y4 aS aL aR ?_ | refine Q9 aL ?_ | refine U0 aR ?_ | refine Y9 aS ?_ | refine W4 aS aL ?_ | refine J4 aS aR ?_ | refine Y1 aS aR aR (Rep.one (by assumption)) ?_ | refine J5 aS aR aR aR ?_ | refine Pb au au au ?_ | (refine Y7 (fun hh=>?_) (fun hh=>?_)<;>(try simp only[hh,Bool.not_true,Bool.not_false,↓M2,M2,Mb,reduceIte])) | (refine Q5 (fun hh=>?_) (fun hh=>?_)<;>(try simp only[hh,Bool.not_true,Bool.not_false,↓M2,M2,Mb,reduceIte])))))
  all_goals exact aF
 | some d=>
  simp only[K8,hd] at h
  obtain ⟨dn,ds,dl,di,da,df,dfs,dms⟩:=d
  cases di<;>cases df
  ·simp only[Bool.or_self,Bool.false_eq_true,if_false] at h
   (repeat' (first | (with_reducible intro _) | (with_reducible refine U9 ?_) | (simp only[↓M2,M2,Mb,reduceIte]) | (with_reducible first | refine ld aS aL aR ?_ | refine X8 aS aL aR ?_ | refine Y4 aS aL aR ?_ | refine Q9 aL ?_ | refine U0 aR ?_ | refine Y9 aS ?_ | refine W4 aS aL ?_ | refine J4 aS aR ?_ | refine Y1 aS aR aR (Rep.one (by assumption)) ?_ | refine J5 aS aR aR aR ?_ | refine Ee au au au ?_ | refine Xn au au au ?_ | (refine Y7 (fun hh=>?_) (fun hh=>?_)<;>(try simp only[hh,Bool.not_true,Bool.not_false,↓M2,M2,Mb,reduceIte])) | (refine Q5 (fun hh=>?_) (fun hh=>?_)<;>(try simp only[hh,Bool.not_true,Bool.not_false,↓M2,M2,Mb,reduceIte])))))
   rename_i w3 σ3 hk3 _ _ _ _ _ _
   have hS:Stp w σ w3 σ3:=by (repeat (first | exact Stp.refl (by (first | assumption | exact Stp.sat (by assumption) | exact Hst.sat (by assumption))) | assumption | refine Stp.trans ?_ (by first | assumption | exact Hst.stp (by assumption))))
   refine U3 c.like.length (fun n w'=> ∃σ',Stp w σ w' σ'∧SLe σ3 σ'∧((c.like.take n).any (N3 l))=false) ⟨σ3,hS,SLe.refl _,by simp⟩ fun n w4 d hn hi=>?_
   obtain ⟨σ4,hS4,le4,hq⟩:=hi
   clear hk3
   refine Z1 ?_
   refine Q5 (fun hh=>?_) (fun hh=>?_)
   ·have hn':n<c.like.length:=by simpa using hh
    have hmax:c.like.length≤9223372036854775807:=g1.max
    refine Q48 (by (first | assumption | exact Sl.lift (by assumption) (by (repeat (first | exact SLe.refl _ | refine SLe.more ?_ (by assumption) | refine SLe.more ?_ (Nxt.le (by assumption)) | refine SLe.step ?_ (by assumption)))) | exact Z3.lift (by assumption) (by (repeat (first | exact SLe.refl _ | refine SLe.more ?_ (by assumption) | refine SLe.more ?_ (Nxt.le (by assumption)) | refine SLe.step ?_ (by assumption)))) | exact T2.lift (by assumption) (by (repeat (first | exact SLe.refl _ | refine SLe.more ?_ (by assumption) | refine SLe.more ?_ (Nxt.le (by assumption)) | refine SLe.step ?_ (by assumption)))) | exact RCl_lift (by assumption) (by (repeat (first | exact SLe.refl _ | refine SLe.more ?_ (by assumption) | refine SLe.more ?_ (Nxt.le (by assumption)) | refine SLe.step ?_ (by assumption)))) | exact RMe_lift (by assumption) (by (repeat (first | exact SLe.refl _ | refine SLe.more ?_ (by assumption) | refine SLe.more ?_ (Nxt.le (by assumption)) | refine SLe.step ?_ (by assumption)))) | exact Glb.lift (by assumption) (by (repeat (first | exact SLe.refl _ | refine SLe.more ?_ (by assumption) | refine SLe.more ?_ (Nxt.le (by assumption)) | refine SLe.step ?_ (by assumption)))) | exact Tab.lift (by assumption) (by (repeat (first | exact SLe.refl _ | refine SLe.more ?_ (by assumption) | refine SLe.more ?_ (Nxt.le (by assumption)) | refine SLe.step ?_ (by assumption)))) | exact RIn_any (by assumption) | exact RFd_any (by assumption) | exact RCa_any (by assumption))) hn' fun p hl hbig=>?_
    have hq':=L6 (p:=N3 l) hn'
    rw[hq] at hq'
    cases hx:lk l c.like[n] with
    | none=>
     simp only[R7 (p:=N3 l) hn' (by simp only[N3,hx]),if_true] at h
     (repeat' (first | (with_reducible intro _) | (with_reducible refine U9 ?_) | (simp only[↓M2,M2,Mb,reduceIte]) | (with_reducible first | refine ld aS aL aR ?_ | refine X8 aS aL aR ?_ | refine Y4 aS aL aR ?_ | refine Q9 aL ?_ | refine U0 aR ?_ | refine Y9 aS ?_ | refine W4 aS aL ?_ | refine J4 aS aR ?_ | refine Y1 aS aR aR (Rep.one (by assumption)) ?_ | refine J5 aS aR aR aR ?_ | refine Pb au au au ?_ | (refine Y7 (fun hh=>?_) (fun hh=>?_)<;>(try simp only[hh,Bool.not_true,Bool.not_false,↓M2,M2,Mb,reduceIte])) | (refine Q5 (fun hh=>?_) (fun hh=>?_)<;>(try simp only[hh,Bool.not_true,Bool.not_false,↓M2,M2,Mb,reduceIte])))))
     all_goals exact aF
    | some x=>
     obtain ⟨xn,xs,xl,xi,xa,xf,xfs,xms⟩:=x
     cases xi
     ·simp only[R7 (p:=N3 l) hn' (by simp only[N3,hx];rfl),if_true] at h
      (repeat' (first | (with_reducible intro _) | (with_reducible refine U9 ?_) | (simp only[↓M2,M2,Mb,reduceIte]) | (with_reducible first | refine ld aS aL aR ?_ | refine X8 aS aL aR ?_ | refine Y4 aS aL aR ?_ | refine Q9 aL ?_ | refine U0 aR ?_ | refine Y9 aS ?_ | refine W4 aS aL ?_ | refine J4 aS aR ?_ | refine Y1 aS aR aR (Rep.one (by assumption)) ?_ | refine J5 aS aR aR aR ?_ | refine Ee au au au ?_ | refine Xn au au au ?_ | (refine Y7 (fun hh=>?_) (fun hh=>?_)<;>(try simp only[hh,Bool.not_true,Bool.not_false,↓M2,M2,Mb,reduceIte])) | (refine Q5 (fun hh=>?_) (fun hh=>?_)<;>(try simp only[hh,Bool.not_true,Bool.not_false,↓M2,M2,Mb,reduceIte])))))
      all_goals exact aF
     ·(repeat' (first | (with_reducible intro _) | (with_reducible refine U9 ?_) | (simp only[↓M2,M2,Mb,reduceIte]) | (with_reducible first | refine ld aS aL aR ?_ | refine X8 aS aL aR ?_ | refine Y4 aS aL aR ?_ | refine Q9 aL ?_ | refine U0 aR ?_ | refine Y9 aS ?_ | refine W4 aS aL ?_ | refine J4 aS aR ?_ | refine Y1 aS aR aR (Rep.one (by assumption)) ?_ | refine J5 aS aR aR aR ?_ | refine Ee au au au ?_ | refine Xn au au au ?_ | (refine Y7 (fun hh=>?_) (fun hh=>?_)<;>(try simp only[hh,Bool.not_true,Bool.not_false,↓M2,M2,Mb,reduceIte])) | (refine Q5 (fun hh=>?_) (fun hh=>?_)<;>(try simp only[hh,Bool.not_true,Bool.not_false,↓M2,M2,Mb,reduceIte])))))
      refine Y3 hmax hn' ⟨_,by (repeat (first | exact Stp.refl (by (first | assumption | exact Stp.sat (by assumption) | exact Hst.sat (by assumption))) | assumption | refine Stp.trans ?_ (by first | assumption | exact Hst.stp (by assumption)))),by (repeat (first | exact SLe.refl _ | refine SLe.more ?_ (by assumption) | refine SLe.more ?_ (Nxt.le (by assumption)) | refine SLe.step ?_ (by assumption))),by rw[hq'];simp only[N3,hx];rfl⟩
   ·have hn': ¬n<c.like.length:=by simpa using hh
    rw[O3 hn'] at hq
    simp only[hq,Bool.false_eq_true,if_false] at h
    exact h _ _ hS4
  all_goals
   simp only[Bool.or_self,Bool.or_true,Bool.true_or,if_true] at h
   (repeat' (first | (with_reducible intro _) | (with_reducible refine U9 ?_) | (simp only[↓M2,M2,Mb,reduceIte]) | (with_reducible first | refine ld aS aL aR ?_ | refine X8 aS aL aR ?_ | refine Y4 aS aL aR ?_ | refine Q9 aL ?_ | refine U0 aR ?_ | refine Y9 aS ?_ | refine W4 aS aL ?_ | refine J4 aS aR ?_ | refine Y1 aS aR aR (Rep.one (by assumption)) ?_ | refine J5 aS aR aR aR ?_ | refine Ee au au au ?_ | refine Xn au au au ?_ | (refine Y7 (fun hh=>?_) (fun hh=>?_)<;>(try simp only[hh,Bool.not_true,Bool.not_false,↓M2,M2,Mb,reduceIte])) | (refine Q5 (fun hh=>?_) (fun hh=>?_)<;>(try simp only[hh,Bool.not_true,Bool.not_false,↓M2,M2,Mb,reduceIte])))))
   all_goals exact aF)
end Go.Proofs.YtjdiakhipmggjaaGreatDoor

namespace Go.Emb
open Go.RowKit Go.Hm
variable {P : Program} {w w0 w1 w' w'' : World} {K : Value → World → Prop} {σ σ0 σ1 σ' : Q4}
theorem Q6x {a:Addr} {v:Value} (h:w.cell? a=some v) (b:Below w.heap.size w w'):w'.cell? a=some v:=by
 rw[←h];exact World.cell?_of_block (b.block a.block (World.block_lt_of_cell? _ _ h))
def Ptr {α:Type} (sz:Nat) (R:Q4→α→List Value→Prop) (σ:Q4) (x:α) (p:Value) (w:World):Prop:=
 ∃a cs,p= .pointer (some a)∧(∀j u,cs[j]? =some u→w.cell? (a.add j)=some u)∧cs.length=sz∧R σ x cs
theorem Ptr.below {α:Type} {sz:Nat} {R:Q4→α→List Value→Prop} {x:α} {p:Value} (h:Ptr sz R σ x p w) (c:Below w.heap.size w w'):Ptr sz R σ x p w':=by
 obtain ⟨a,cs,d,f,e⟩:=h
 exact ⟨a,cs,d,fun j u b=>Q6x (f j u b) c,e⟩
end Go.Emb
namespace Go.Proofs.YtjdiakhipmggjaaGreatDoor
open Go.Emb Go.RowKit Go.Kd Go.Hm
variable {w : World} {K : Value → World → Prop} {σ : Q4} {v : Value} {l : List Cla}
theorem Q2J {w0:World} {σ0:Q4} {xs:List Cla} (hS:Stp w0 σ0 w σ) (J:J9 w0.heap.size T.a 8 U4 σ w v xs)
 (h: ∀w',Kpt (fun k=>v.ownBlock=some k) w w'→Stp w0 σ0 w' σ→J9 w0.heap.size T.a 8 U4 σ w' v xs.reverse→K (.tuple #[]) w'):Q1 P F.o [v] w K:=Xo (by
 unfold S3
 have Q:xs.length≤9223372036854775807:=by
  obtain ⟨a,Z,_,g,c,_⟩:=J
  simp only[maxLen] at c;omega
 refine Am J ?_
 refine Mq ⟨by omega,by omega⟩ ?_
 refine Uc (fun x w'=> ∃i:Nat,x=(I i,I ((xs.length:Int)-1-i))∧2*i≤xs.length∧Kpt (fun k=>v.ownBlock=some k) w w'∧Stp w0 σ0 w' σ∧J9 w0.heap.size T.a 8 U4 σ w' v (E3 i xs)) (fun x _=>match x.2 with | .int _ n=>(n+1).toNat | _=>0) ⟨0,by simp,by omega,Kpt.refl,hS,J⟩ ?_
 rintro _ d w1 ⟨i,rfl,U,M,j,b⟩
 obtain ⟨N,O⟩:=Tv xs i U
 refine Z1 ?_
 refine Q5 (fun hh=>?_) (fun hh=>?_)
 ·have ad:(i:Int)<(xs.length:Int)-1-i:=by simpa using hh
  have R:((xs.length:Int)-1-i)=((xs.length-1-i:Nat):Int):=by omega
  have o:i<(E3 i xs).length:=by omega
  have m:xs.length-1-i<(E3 i xs).length:=by omega
  refine U6 j.sat ?_
  refine N1 (Ptr 8 U4 σ (E3 i xs)[xs.length-1-i]) (fun _ _ _ h f=>h.below f) (fun w f=>?_) ?_
  ·simp only[R]
   exact Q3t (b.step f.stp) m fun a cs g c r=>⟨Below.refl _ _,a,cs,rfl,g,c,r⟩
  refine N1 (Ptr 8 U4 σ (E3 i xs)[i]) (fun _ _ _ h f=>h.below f) (fun w f=>?_) ?_
  ·exact Q3t (b.step f.stp) o fun a cs g c r=>⟨Below.refl _ _,a,cs,rfl,g,c,r⟩
  refine N1 (fun v _=> ∃cs:List Value,v= .agg cs.toArray∧cs.length=8∧U4 σ (E3 i xs)[xs.length-1-i] cs) (fun _ _ _ h _=>h) (fun t w f e=>?_) ?_
  ·obtain ⟨a,cs,rfl,g,c,r⟩:=e
   exact Cs c g ⟨Below.refl _ _,cs,rfl,c,r⟩
  refine N1 (fun v _=> ∃cs:List Value,v= .agg cs.toArray∧cs.length=8∧U4 σ (E3 i xs)[i] cs) (fun _ _ _ h _=>h) (fun t w f e=>?_) ?_
  ·obtain ⟨a,cs,rfl,g,c,r⟩:=e
   exact Cs c g ⟨Below.refl _ _,cs,rfl,c,r⟩
  rintro X W ab aa w2 q _ _ ⟨cs,rfl,D,y⟩ ⟨ds,rfl,L,s⟩
  refine Q3e (j.trans q.stp) (b.step q.stp) o D y (Rep.one y) fun p u w3 H z B=>?_
  simp only[R]
  refine Q3e z.stp B (by simpa using m) L s (Rep.one s) fun p u w4 C E A=>?_
  refine Uq ⟨by omega,by omega⟩ ?_
  refine Mq ⟨by omega,by omega⟩ ?_
  refine ⟨⟨i+1,by congr 1<;>congr 1<;>omega,by omega,?_,E.stp,?_⟩,?_⟩
  ·exact ((M.trans (Kpt.of_below q.stp.bel)).trans H).trans C
  ·have Y:(E3 i xs)[i]? =some (E3 i xs)[i]:=List.getElem?_eq_getElem o
   have e2:(E3 i xs)[xs.length-1-i]? =some (E3 i xs)[xs.length-1-i]:=List.getElem?_eq_getElem m
   have:E3 (i+1) xs=((E3 i xs).set i (E3 i xs)[xs.length-1-i]).set (xs.length-1-i) (E3 i xs)[i]:=by
    simp only[E3,Y,e2]
   rw[this];exact A
  ·simp only;omega
 ·have V: ¬(i:Int)<(xs.length:Int)-1-i:=by simpa using hh
  rw[Q7l xs i U (by omega)] at b
  exact h w1 M j b)
def sOf:Value→X0 | .string b=>b.data.toList | _=>[]
theorem Q7i {n:X0} (Q:X4 w σ) (A:Tab σ v l) (U:Xv l) (X:l.length≤100000) (h: ∀t w' σ',Stp w σ w' σ'→J9 w.heap.size T.a 8 U4 σ' w' t (chain l n).reverse→K t w'):Q1 P F.aF [v,S n] w K:=Gw (by
 unfold Lq
 refine Uc (fun x w'=> ∃(s:X0) (m:List Cla) (σ':Q4),x.2=S s∧chain l n=m++chain l s∧Stp w σ w' σ'∧V2 w.heap.size T.a 8 U4 σ' w' x.1 m) (fun x _=>(chain l (sOf x.2)).length)
  ⟨n,[],σ,rfl,rfl,Stp.refl Q,V2.nil⟩ ?_
 rintro ⟨x1,_⟩ d w1 ⟨s,m,σ1,rfl,o,a,f⟩
 have i:=A.lift ⟨a.le⟩
 have z:=Hw l n
 have p:sOf (S s)=s:=by simp[sOf]
 simp only[p]
 cases j:lk l s with
 | none=>
  refine Pb a.sat i j ?_
  refine M0 ?_
  rw[Qn j,List.append_nil] at o
  rw[←o] at f
  refine Q2J a (J9.of_acc f) fun R g q y=>?_
  exact h _ _ _ q y
 | some c=>
  refine Ee a.sat i j ?_
  refine L7 ?_
  refine Xn a.sat i j fun M N mv R Y g L C H O E B=>?_
  have b:=F7 U s
  rw[j] at b
  simp only at b
  have V:m.length+1≤l.length+1:=by
   have:=congrArg List.length o
   rw[List.length_append,b,List.length_cons] at this;omega
  refine Zb (a.trans g) (f.up g) B rfl rfl rfl (by omega) (by omega) fun u t Z σ3 D e r _=>?_
  refine Xn e.sat (A.lift ⟨e.le⟩) j fun M N mv W J k L C H O E B=>?_
  refine U0 (v:=S c.super) rfl ?_
  refine ⟨⟨c.super,m++[c],J,rfl,?_,e.trans k,r.up k⟩,?_⟩
  ·rw[o,b];simp
  ·have:sOf (S c.super)=c.super:=by simp[sOf]
   simp only[this,b,List.length_cons];omega)
theorem Cr {n:X0} (hs:X4 w σ) (W:Tab σ v l) (ha:Xv l) (V:l.length≤100000) (E: ∀c∈l,K5 c) (h: ∀z w' σ',Stp w σ w' σ'→Sl 3 O4 σ' z (Z0 l n)→K z w'):Q1 P F.x [v,S n] w K:=Sg (by
 unfold Ve
 refine Q7i hs W ha V fun v1 w1 σ1 D u=>?_
 obtain ⟨N,y,k,X,_⟩:=u.keep D
 generalize g:(chain l n).reverse=cs at*
 have M:cs.length≤l.length+1:=by rw[←g,List.length_reverse];exact Hw l n
 have m: ∀c∈cs,c.fields.length≤1000000:=fun c t=>(E c (Hs (by rw[←g] at t;simpa using t))).2.1
 refine Q9 k ?_
 refine M3 cs.length (fun i a w'=> ∃σ',Stp w σ w' σ'∧SLe N σ'∧V2 w.heap.size T.j 3 O4 σ' w' a ((cs.take i).flatMap (·.fields))) ⟨N,y,SLe.refl _,V2.nil⟩ fun i a w3 d hi r=>?_
 obtain ⟨σ3,f,o,j⟩:=r
 refine Z1 ?_
 refine Q5 (fun hh=>?_) (fun hh=>?_)
 ·have b:i<cs.length:=by simpa using hh
  refine W7 (k.lift o) b fun p cells L s R=>?_
  refine Y4 f.sat L s ?_
  refine Y1 f.sat (by rfl) s (Rep.one R) fun q w4 O e hq=>?_
  obtain ⟨lv,fv,mv,rfl,f1,U,f3,f4,f5⟩:=R
  rw[fa]
  refine ld e.sat hq rfl ?_
  have H:=Jl (fun c:Cla=>c.fields) 1000000 (cs.take i) fun c t=>m c (List.mem_of_mem_take t)
  rw[List.length_take] at H
  have Y:=m cs[i] (List.getElem_mem b)
  have Q:min i cs.length*1000000≤100000*1000000:=Nat.mul_le_mul_right _ (by omega)
  refine Oy (f.trans e) (j.up e) (U.up e) rfl (by omega) (by omega) fun z w5 Z J A _=>?_
  refine M7 ?_
  refine Z2 (by omega) b ⟨O,J,o.more ⟨e.le⟩,?_⟩
  rw[List.take_add_one,List.getElem?_eq_getElem b,List.flatMap_append]
  simpa using A
 ·have b: ¬i<cs.length:=by simpa using hh
  rw[List.take_of_length_le (by omega)] at j
  obtain ⟨O,C,B,ab,_⟩:=j.keep f
  refine h _ _ _ C ?_
  unfold Z0
  rw[g];exact B)
theorem Q9L {n f:X0} (hs:X4 w σ) (ht:Tab σ v l) (ha:Xv l) (hl:l.length≤100000) (hsm: ∀c∈l,K5 c) (h: ∀w' σ',Stp w σ w' σ'→K (I (W0 (Yz l n f))) w'):Q1 P F.ba [v,S n,S f] w K:=Fw (by
 unfold We
 refine J4 hs rfl fun q w1 σ1 hk1 hq=>?_
 refine Cr hk1.sat (ht.lift ⟨hk1.le⟩) ha hl hsm fun v' w2 σ2 hk2 hv2=>?_
 rw[Qb]
 refine Sk (fun x=>decide (x.name=f)) hk2.sat hv2 (fun x cs w3 K _ hs3 hr hl hK=>Y8 (Re ?_)) fun w3 hb=>?_
 ·obtain ⟨rfl,_⟩:=hr
  unfold Jo
  have hq2:=hq.up hk2
  refine Y9 hs3 fun a w4 σ4 hk4 ha4=>?_
  (repeat' (first | (with_reducible intro _) | (with_reducible refine U9 ?_) | (simp only[↓M2,M2,Mb,reduceIte]) | (with_reducible first | refine ld aS aL aR ?_ | refine X8 aS aL aR ?_ | refine Y4 aS aL aR ?_ | refine Q9 aL ?_ | refine U0 aR ?_ | refine Y9 aS ?_ | refine W4 aS aL ?_ | refine J4 aS aR ?_ | refine Y1 aS aR aR (Rep.one (by assumption)) ?_ | refine J5 aS aR aR aR ?_ | (refine Y7 (fun hh=>?_) (fun hh=>?_)<;>(try simp only[hh,Bool.not_true,Bool.not_false,↓M2,M2,Mb,reduceIte])) | (refine Q5 (fun hh=>?_) (fun hh=>?_)<;>(try simp only[hh,Bool.not_true,Bool.not_false,↓M2,M2,Mb,reduceIte])))))
  exact hK _ hk4.bel
 ·exact h _ _ ((hk1.trans hk2).trans (Stp.of_below hk2.sat hb)))
end Go.Proofs.YtjdiakhipmggjaaGreatDoor

namespace Go.Hm
open Go.Kd
theorem Q4C {α:Type} (p:α→Bool): ∀xs:List α,xs.find? p=(xs.findIdx? p).bind (xs[·]?)
 | []=>rfl
 | x::r=>by
  rw[List.find?_cons,List.findIdx?_cons]
  cases p x with
  | true=>rfl
  | false=>
   simp only[Bool.false_eq_true,if_false]
   rw[Q4C p r]
   cases r.findIdx? p<;>simp
def Q8m (l:List Cla):Prop:= ∀c∈l,∀u∈c.like,∃d,lk l u=some d
def Nm (c:Cla):Prop:=c.name.length≤100∧(∀f∈c.fields,f.name.length≤100∧f.kind.length≤100)∧ ∀m∈c.methods,m.result.length≤100∧ ∀p∈m.params,p.length≤100
structure Ok (l : List Cla) : Prop where
  acy : Xv l
  len : l.length ≤ 100000
  sm : ∀ c ∈ l, K5 c
  full : Q8m l
  nm : ∀ c ∈ l, Nm c
abbrev oM (o:Option Hm.Met):Hm.Met:=o.getD Hm.Met.zero
abbrev o1 (o:Option (X0×Hm.Met)):X0:=(o.map (·.1)).getD []
abbrev o2 (o:Option (X0×Hm.Met)):Hm.Met:=(o.map (·.2)).getD Hm.Met.zero
theorem A6 {α β:Type} {xs:List α} {f:α→Option β} {n:Nat} (h:n<xs.length) (a:(xs.take n).findSome? f=none):(xs.take (n+1)).findSome? f=f xs[n]:=by
 rw[List.take_add_one,List.getElem?_eq_getElem h,List.findSome?_append,a];simp
theorem A4 {α β:Type} {xs:List α} {f:α→Option β} {n:Nat} {y:β} (h:n<xs.length) (b:(xs.take n).findSome? f=none) (a:f xs[n]=some y):xs.findSome? f=some y:=by
 have:=A6 h b
 rw[a] at this
 rw[←List.take_append_drop (n+1) xs,List.findSome?_append,this];rfl
end Go.Hm
namespace Go.Proofs.YtjdiakhipmggjaaGreatDoor
open Go.Emb Go.RowKit Go.Kd Go.Hm
variable {w : World} {K : Value → World → Prop} {σ : Q4} {v : Value} {l : List Cla}
theorem P0:L9 σ Hm.Met.zero [S [], .slice none 0 0,S [], .bool false,I 0, .slice none 0 0, .slice none 0 0]:=
 ⟨_,_,_,rfl,Sl.nil,Sl.nil,Sl.nil,by decide,by decide,by decide,by decide⟩
theorem Rz (h:K (.agg [S [], .slice none 0 0,S [], .bool false,I 0, .slice none 0 0, .slice none 0 0].toArray) w):N8 P T.c [] w K:=V1 (by kernel_rfl) h
theorem Q96 {c:Cla} {cs:List Value} {n:X0} (hs:X4 w σ) (hc:U4 σ c cs) (hsm:K5 c)
 (h: ∀pv cv hv w' σ',Stp w σ w' σ'→L9 σ' (oM (H4 c n)) [S (oM (H4 c n)).name,pv,S (oM (H4 c n)).result, .bool (oM (H4 c n)).abs,I (oM (H4 c n)).locals,cv,hv]→
  K (.tuple #[.agg [S (oM (H4 c n)).name,pv,S (oM (H4 c n)).result, .bool (oM (H4 c n)).abs,I (oM (H4 c n)).locals,cv,hv].toArray, .bool (H4 c n).isSome]) w'):Q1 P F.cj [.agg cs.toArray,S n] w K:=Q67 (by
 obtain ⟨lv,fv,mv,rfl,g1,g2,g3,g4,g5⟩:=hc
 unfold Q19
 refine Y9 hs fun a w1 σ1 hk1 ha1=>?_
 refine J4 hk1.sat rfl fun q w2 σ2 hk2 hq=>?_
 refine C5 hk2.sat fun b w3 σ3 hb hk3 hm=>?_
 rw[fa]
 have ha3:=(ha1.up hk2).up hk3
 have g3:=((g3.up hk1).up hk2).up hk3
 have hq3:=hq.up hk3
 refine ld hk3.sat ha3 rfl ?_
 rw[Qb]
 have hS3:=(hk1.trans hk2).trans hk3
 have hb0:w.heap.size≤b:=C2 hb (hk1.trans hk2)
 refine Ri (fun x=>decide (x.name=n)) hk3.sat g3 (fun x cs w4 K _ hs4 hr hl hK=>Y8 (Q4r ?_)) fun w4 hb4=>?_
 ·obtain ⟨pv,cv,hv,rfl,_⟩:=hr
  unfold Ps
  refine Y9 hs4 fun a w5 σ5 hk5 ha5=>?_
  (repeat' (first | (with_reducible intro _) | (with_reducible refine U9 ?_) | (simp only[↓M2,M2,Mb,reduceIte]) | (with_reducible first | refine ld aS aL aR ?_ | refine X8 aS aL aR ?_ | refine Y4 aS aL aR ?_ | refine Q9 aL ?_ | refine U0 aR ?_ | refine Y9 aS ?_ | refine W4 aS aL ?_ | refine J4 aS aR ?_ | refine Y1 aS aR aR (Rep.one (by assumption)) ?_ | refine J5 aS aR aR aR ?_ | (refine Y7 (fun hh=>?_) (fun hh=>?_)<;>(try simp only[hh,Bool.not_true,Bool.not_false,↓M2,M2,Mb,reduceIte])) | (refine Q5 (fun hh=>?_) (fun hh=>?_)<;>(try simp only[hh,Bool.not_true,Bool.not_false,↓M2,M2,Mb,reduceIte])))))
  exact hK _ hk5.bel
 have hk4:Stp w3 σ3 w4 σ3:=Stp.of_below hk3.sat hb4
 have hm:=hm.step hk4
 have hS4:=hS3.trans hk4
 unfold H4 at h
 rw[Q4C] at h
 refine Z1 ?_
 cases hf:c.methods.findIdx? fun x=>decide (x.name=n) with
 | none=>
  rw[hf] at h
  simp only[W0]
  refine L7 ?_
  refine Rz ?_
  refine B8 hm hS4 hb0 rfl rfl (Rep.one (P0 (σ:=σ3))) fun w5 hS5 hm5=>?_
  refine V9 hm5 rfl ?_
  exact h _ _ _ w5 σ3 hS5.stp P0
 | some i=>
  rw[hf] at h
  have hi:i<c.methods.length:=(List.findIdx?_eq_some_iff_getElem.1 hf).1
  simp only[Option.bind_some,List.getElem?_eq_getElem hi] at h
  simp only[W0]
  refine Q5 (fun hh=>absurd (of_decide_eq_true hh) (by omega)) (fun _=>?_)
  rw[fa]
  refine ld hk4.sat ha3 rfl ?_
  refine W7 g3 hi fun p cells hl1 hl2 hr=>?_
  refine Y4 hk4.sat hl1 hl2 ?_
  refine Q2j hk4.sat hr (hsm.2.2.2 _ (List.getElem_mem hi)) fun pv cv hv w5 σ5 hk5 hr5=>?_
  refine B8 (hm.step hk5) (hS4.trans hk5) hb0 rfl rfl (Rep.one hr5) fun w6 hS6 hm6=>?_
  refine V9 hm6 rfl ?_
  exact h _ _ _ w6 σ5 hS6.stp hr5)
theorem X0w {n:X0} (ok:Ok l): ∀(k:Nat) {c:Cla} {cs:List Value} {w:World} {σ:Q4} {K:Value→World→Prop},B2 l c.name<k→lk l c.name=some c→X4 w σ→Tab σ v l→U4 σ c cs→
 (∀pv X Y w' W,Stp w σ w' W→L9 W (o2 (U2 l c n)) [S (o2 (U2 l c n)).name,pv,S (o2 (U2 l c n)).result, .bool (o2 (U2 l c n)).abs,I (o2 (U2 l c n)).locals,X,Y]→
  K (.tuple #[S (o1 (U2 l c n)), .agg [S (o2 (U2 l c n)).name,pv,S (o2 (U2 l c n)).result, .bool (o2 (U2 l c n)).abs,I (o2 (U2 l c n)).locals,X,Y].toArray, .bool (U2 l c n).isSome]) w')→
 Q1 P F.aH [v, .agg cs.toArray,S n] w K:=by
 intro k
 induction k with
 | zero=>
  intro c cs w σ K hk
  omega
 | succ k ih=>
  intro c cs w σ K hk hc hs ht hr h
  refine Iq ?_
  obtain ⟨lv,fv,mv,rfl,g1,g2,g3,g4,g5⟩:=hr
  have C:=Q2u ok.acy hc n
  generalize hf:(fun u=>match lk l u with | none=>none | some d=>match H4 d n with | some m=>some (u,m) | none=>U2 l d n)=f at C
  unfold Mi
  refine Y9 hs fun a w1 σ1 D a0=>?_
  refine C5 D.sat fun b w2 σ2 hb M av=>?_
  have U:w.heap.size≤b:=C2 hb D
  have ax:=a0.up M
  rw[fa]
  refine ld M.sat ax rfl ?_
  have g1:=(g1.up D).up M
  refine Q9 g1 ?_
  refine U3 c.like.length (fun i w'=> ∃W,Stp w σ w' W∧SLe σ2 W∧J0 W w' b [S [], .slice none 0 0,S [], .bool false,I 0, .slice none 0 0, .slice none 0 0]∧(c.like.take i).findSome? f=none) ⟨σ2,D.trans M,SLe.refl _,av,rfl⟩ fun i w3 d hi ao=>?_
  obtain ⟨σ3,A,ak,ae,y⟩:=ao
  have a5:=ht.lift ⟨A.le⟩
  refine Z1 ?_
  refine Q5 (fun hh=>?_) (fun hh=>?_)
  ·have g:i<c.like.length:=by simpa using hh
   refine Q48 (g1.lift ak) g fun p az ap=>?_
   refine X8 A.sat az rfl ?_
   obtain ⟨d,Z⟩:=ok.full c (U8 hc).2.1 _ (List.getElem_mem g)
   obtain ⟨ac,a1,_⟩:=U8 Z
   have j:f c.like[i]=match H4 d n with | some m=>some (c.like[i],m) | none=>U2 l d n:=by rw[←hf];simp only[Z]
   refine Xn A.sat a5 Z fun ba aq a4 w4 σ4 B f1 f2 f3 f4 f5 aw=>?_
   refine Q96 B.sat aw (ok.sm d a1) fun pv X Y w5 σ5 E ad=>?_
   refine Z7 (vs:=[_,_]) rfl ?_
   refine Z7 (vs:=[_,_]) rfl ?_
   refine Y1 E.sat (by rfl) rfl (Rep.one ad) fun q w6 σ6 J ai=>?_
   have t:=((A.trans B).trans E).trans J
   have af:=((ae.step B).step E).step J
   have R:=RMe_lift ad ⟨J.le⟩
   cases ho:H4 d n with
   | some m=>
    rw[ho] at j R ai
    (try simp only[ho])
    refine L7 ?_
    refine U6 t.sat ?_
    refine N1 (fun v _=>v= .agg [S m.name,pv,S m.result, .bool m.abs,I m.locals,X,Y].toArray) (fun _ _ _ h _=>h) (fun w hb=>Y4 hb.sat ai rfl ⟨Below.refl _ _,rfl⟩) ?_
    rintro _ w7 ag rfl
    refine B8 (af.step ag.stp) (t.trans ag.stp) U rfl rfl (Rep.one R) fun w8 a8 a7=>?_
    refine V9 a7 rfl ?_
    have Q:=C.trans (A4 g y j)
    rw[Q] at h
    exact h _ _ _ w8 σ6 a8.stp R
   | none=>
    rw[ho] at j
    (try simp only[Option.isSome_none])
    refine M0 ?_
    refine Xn t.sat (ht.lift ⟨t.le⟩) Z fun ba aq a4 w7 σ7 z f1 f2 f3 f4 f5 ay=>?_
    have br:=Xk ok.acy hc (by simp[J3,List.getElem_mem g]:c.like[i]∈J3 c) Z
    refine ih (by rw[ac];omega) (by rw[ac];exact Z) z.sat (ht.lift ⟨(t.trans z).le⟩) ay fun pv X Y w8 σ8 L aa=>?_
    refine Z7 (vs:=[_,_,_]) rfl ?_
    refine Z7 (vs:=[_,_,_]) rfl ?_
    refine Z7 (vs:=[_,_,_]) rfl ?_
    refine Y1 L.sat (by rfl) rfl (Rep.one aa) fun q w9 σ9 H aj=>?_
    have O:=((t.trans z).trans L).trans H
    have an:=((af.step z).step L).step H
    have V:=RMe_lift aa ⟨H.le⟩
    cases Q:U2 l d n with
    | some r=>
     obtain ⟨s,m⟩:=r
     rw[Q] at j V aj
     (try simp only[Q])
     refine L7 ?_
     refine U6 O.sat ?_
     refine N1 (fun v _=>v= .agg [S m.name,pv,S m.result, .bool m.abs,I m.locals,X,Y].toArray) (fun _ _ _ h _=>h) (fun w hb=>Y4 hb.sat aj rfl ⟨Below.refl _ _,rfl⟩) ?_
     rintro _ bk N rfl
     refine B8 (an.step N.stp) (O.trans N.stp) U rfl rfl (Rep.one V) fun ar al am=>?_
     refine V9 am rfl ?_
     have ap:=C.trans (A4 g y j)
     rw[ap] at h
     exact h _ _ _ ar σ9 al.stp V
    | none=>
     rw[Q] at j
     (try simp only[Option.isSome_none])
     refine M0 ?_
     refine M7 ?_
     refine Y3 (by have:=g1.max;omega) g ⟨σ9,O,?_,an,?_⟩
     ·exact ak.more ⟨fun b o e=>H.le _ _ (L.le _ _ (z.le _ _ (J.le _ _ (E.le _ _ (B.le _ _ e)))))⟩
     ·rw[A6 g y];exact j
  ·have g: ¬i<c.like.length:=by simpa using hh
   rw[List.take_of_length_le (by omega)] at y
   refine Rz ?_
   refine B8 ae A U rfl rfl (Rep.one (P0 (σ:=σ3))) fun w5 a6 bb=>?_
   refine V9 bb rfl ?_
   have Q:=C.trans y
   rw[Q] at h
   exact h _ _ _ w5 σ3 a6.stp P0
end Go.Proofs.YtjdiakhipmggjaaGreatDoor

namespace Go.Hm
open Go.Kd
theorem Q8F {l:List Cla} {n:X0} {c:Cla} (h:c∈chain l n):lk l c.name=some c:=by
 have key: ∀(f:Nat) (n:X0),c∈S1 (lk l) f n→lk l c.name=some c:=by
  intro f
  induction f with
  | zero=>intro n h;simp[S1] at h
  | succ f b=>
   intro n h
   simp only[S1] at h
   split at h
   ·simp at h
   ·rename_i d a
    rcases List.mem_cons.1 h with rfl | h
    ·rw[(U8 a).1];exact a
    ·exact b _ h
 exact key _ _ h
end Go.Hm
namespace Go.Proofs.YtjdiakhipmggjaaGreatDoor
open Go.Emb Go.RowKit Go.Kd Go.Hm
variable {w : World} {K : Value → World → Prop} {σ : Q4} {v : Value} {l : List Cla}
theorem Q8t {k n:X0} (hs:X4 w σ) (ht:Tab σ v l) (ok:Ok l)
 (h: ∀pv Z hv w' H,Stp w σ w' H→L9 H (o2 (U1 l k n)) [S (o2 (U1 l k n)).name,pv,S (o2 (U1 l k n)).result, .bool (o2 (U1 l k n)).abs,I (o2 (U1 l k n)).locals,Z,hv]→
  K (.tuple #[S (o1 (U1 l k n)), .agg [S (o2 (U1 l k n)).name,pv,S (o2 (U1 l k n)).result, .bool (o2 (U1 l k n)).abs,I (o2 (U1 l k n)).locals,Z,hv].toArray, .bool (U1 l k n).isSome]) w'):
 Q1 P F.aY [v,S k,S n] w K:=Ci (by
 unfold Uu
 refine C5 hs fun b w1 σ1 E M ay=>?_
 refine Q7i M.sat (ht.lift ⟨M.le⟩) ok.acy ok.len fun v1 w2 σ2 a0 az=>?_
 have a8:=ay.step a0
 have bk:=ay.lt
 refine Q2J (M.trans a0) (az.mono M.bel.size) fun w3 bb a4 ae=>?_
 rw[List.reverse_reverse] at ae
 obtain ⟨σ3,ah,Q,br,aq⟩:=ae.keep a4
 have bg:=Hw l k
 have ac:v1.ownBlock≠some b:=fun e=>by have:=az.own e;omega
 have al:J0 σ3 w3 b [S [], .slice none 0 0,S [], .bool false,I 0, .slice none 0 0, .slice none 0 0]:=by
  have:=a8.kp bb ac
  exact ⟨(aq b fun e=>ac e.symm).trans this.1,this.2⟩
 refine Q9 Q ?_
 unfold U1 at h
 refine U3 (chain l k).length (fun i w'=> ∃H,Stp w σ w' H∧SLe σ3 H∧J0 H w' b [S [], .slice none 0 0,S [], .bool false,I 0, .slice none 0 0, .slice none 0 0]∧((chain l k).take i).findSome? (fun c=>(H4 c n).map (c.name,·))=none) ⟨σ3,ah,SLe.refl _,al,rfl⟩ fun i w5 d hi D=>?_
 obtain ⟨σ5,N,J,aw,u⟩:=D
 refine Z1 ?_
 refine Q5 (fun hh=>?_) (fun hh=>?_)
 ·have a:i<(chain l k).length:=by simpa using hh
  refine W7 (Q.lift J) a fun p cells Y z hr=>?_
  refine Y4 N.sat Y z ?_
  refine Y1 N.sat (by rfl) z (Rep.one hr) fun q w6 σ6 B a2=>?_
  refine Y4 B.sat a2 z ?_
  have aj:=Hs (List.getElem_mem a)
  refine Q96 B.sat (Rep.up B.le hr) (ok.sm _ aj) fun pv Z hv w7 σ7 j a1=>?_
  refine Z7 (vs:=[_,_]) rfl ?_
  refine Z7 (vs:=[_,_]) rfl ?_
  refine Y1 j.sat (by rfl) rfl (Rep.one a1) fun q8 w8 σ8 y av=>?_
  have W:=((N.trans B).trans j).trans y
  have ap:=((aw.step B).step j).step y
  have A:=RMe_lift a1 ⟨y.le⟩
  cases C:H4 (chain l k)[i] n with
  | some m=>
   rw[C] at A av
   (try simp only[C])
   refine L7 ?_
   obtain ⟨lv,fv,mv,rfl,g⟩:=hr
   refine U6 W.sat ?_
   refine X2 (.pointer (some (q.add 0))) (fun w E=>by rw[fa];exact X5 rfl) ?_
   refine X2 (S (chain l k)[i].name) (fun t w E e=>by rw[e];exact ld E.sat ((a2.up j).up y) rfl (X5 rfl)) ?_
   refine N1 (fun v _=>v= .agg [S m.name,pv,S m.result, .bool m.abs,I m.locals,Z,hv].toArray) (fun _ _ _ h _=>h) (fun w E=>Y4 E.sat av rfl ⟨Below.refl _ _,rfl⟩) ?_
   rintro _ _ _ w9 ax rfl rfl rfl
   refine B8 (ap.step ax.stp) (W.trans ax.stp) E rfl rfl (Rep.one A) fun am ad ai=>?_
   refine V9 ai rfl ?_
   rw[A4 (f:=fun c=>(H4 c n).map (c.name,·)) a u (by simp only[C];rfl)] at h
   exact h _ _ _ am σ8 ad.stp A
  | none=>
   (try simp only[C])
   refine M0 ?_
   refine M7 ?_
   refine Y3 (by have:=ok.len;omega) a ⟨σ8,W,J.more ⟨fun b o e=>y.le _ _ (j.le _ _ (B.le _ _ e))⟩,ap,?_⟩
   rw[A6 a u];simp only[C];rfl
 ·have a: ¬i<(chain l k).length:=by simpa using hh
  rw[List.take_of_length_le (by omega)] at u
  rw[u] at h
  clear al ah hh
  refine Q9 (Q.lift J) ?_
  refine U3 (chain l k).length (fun i w'=> ∃H,Stp w σ w' H∧SLe σ3 H∧J0 H w' b [S [], .slice none 0 0,S [], .bool false,I 0, .slice none 0 0, .slice none 0 0]∧((chain l k).take i).findSome? (fun c=>U2 l c n)=none) ⟨σ5,N,J,aw,rfl⟩ fun i w6 d hi D=>?_
  obtain ⟨σ6,L,ag,an,u⟩:=D
  refine Z1 ?_
  refine Q5 (fun hh=>?_) (fun hh=>?_)
  ·have a:i<(chain l k).length:=by simpa using hh
   refine W7 (Q.lift ag) a fun p cells Y z hr=>?_
   refine Y4 L.sat Y z ?_
   refine Y1 L.sat (by rfl) z (Rep.one hr) fun q w7 σ7 j a5=>?_
   refine Y4 j.sat a5 z ?_
   have O:=L.trans j
   have bc:=Q8F (List.getElem_mem a)
   refine X0w ok _ (Nat.lt_succ_self _) bc j.sat (ht.lift ⟨O.le⟩) (Rep.up j.le hr) fun pv Z hv w8 σ8 y A=>?_
   refine Z7 (vs:=[_,_,_]) rfl ?_
   refine Z7 (vs:=[_,_,_]) rfl ?_
   refine Z7 (vs:=[_,_,_]) rfl ?_
   refine Y1 y.sat (by rfl) rfl (Rep.one A) fun q9 w9 σ9 R af=>?_
   have V:=(O.trans y).trans R
   have ar:=((an.step j).step y).step R
   have X:=RMe_lift A ⟨R.le⟩
   cases C:U2 l (chain l k)[i] n with
   | some r=>
    obtain ⟨s,m⟩:=r
    rw[C] at X af
    (try simp only[C])
    refine L7 ?_
    refine U6 V.sat ?_
    refine N1 (fun v _=>v= .agg [S m.name,pv,S m.result, .bool m.abs,I m.locals,Z,hv].toArray) (fun _ _ _ h _=>h) (fun w E=>Y4 E.sat af rfl ⟨Below.refl _ _,rfl⟩) ?_
    rintro _ am U rfl
    refine B8 (ar.step U.stp) (V.trans U.stp) E rfl rfl (Rep.one X) fun a6 ak ao=>?_
    refine V9 ao rfl ?_
    have:=A4 (f:=fun c=>U2 l c n) a u C
    unfold U2 at this
    rw[this] at h
    exact h _ _ _ a6 σ9 ak.stp X
   | none=>
    (try simp only[C])
    refine M0 ?_
    refine M7 ?_
    refine Y3 (by have:=ok.len;omega) a ⟨σ9,V,ag.more ⟨fun b o e=>R.le _ _ (y.le _ _ (j.le _ _ e))⟩,ar,?_⟩
    rw[A6 a u];exact C
  ·have a: ¬i<(chain l k).length:=by simpa using hh
   rw[List.take_of_length_le (by omega)] at u
   refine Rz ?_
   refine B8 an L E rfl rfl (Rep.one (P0 (σ:=σ6))) fun w7 O ba=>?_
   refine V9 ba rfl ?_
   unfold U2 at u
   rw[u] at h
   exact h _ _ _ w7 σ6 O.stp P0)
theorem Q2q {n:X0} (hs:X4 w σ) (ht:Tab σ v l) (h: ∀w' σ',Stp w σ w' σ'→K (.bool (Ze l n)) w'):Q1 P F.av [v,S n] w K:=Rq (by
 unfold Jv
 unfold Ze at h
 cases hd:lk l n with
 | none=>
  rw[hd] at h
  (repeat' (first | (with_reducible intro _) | (with_reducible refine U9 ?_) | (simp only[↓M2,M2,Mb,reduceIte]) | (with_reducible first | refine ld aS aL aR ?_ | refine X8 aS aL aR ?_ | refine Y4 aS aL aR ?_ | refine Q9 aL ?_ | refine U0 aR ?_ | refine Y9 aS ?_ | refine W4 aS aL ?_ | refine J4 aS aR ?_ | refine Y1 aS aR aR (Rep.one (by assumption)) ?_ | refine J5 aS aR aR aR ?_ | refine Pb au au au ?_ | (refine Y7 (fun hh=>?_) (fun hh=>?_)<;>(try simp only[hh,Bool.not_true,Bool.not_false,↓M2,M2,Mb,reduceIte])) | (refine Q5 (fun hh=>?_) (fun hh=>?_)<;>(try simp only[hh,Bool.not_true,Bool.not_false,↓M2,M2,Mb,reduceIte])))))
  all_goals exact aF
 | some d=>
  rw[hd] at h
  (repeat' (first | (with_reducible intro _) | (with_reducible refine U9 ?_) | (simp only[↓M2,M2,Mb,reduceIte]) | (with_reducible first | refine ld aS aL aR ?_ | refine X8 aS aL aR ?_ | refine Y4 aS aL aR ?_ | refine Q9 aL ?_ | refine U0 aR ?_ | refine Y9 aS ?_ | refine W4 aS aL ?_ | refine J4 aS aR ?_ | refine Y1 aS aR aR (Rep.one (by assumption)) ?_ | refine J5 aS aR aR aR ?_ | refine Ee au au au ?_ | refine Xn au au au ?_ | (refine Y7 (fun hh=>?_) (fun hh=>?_)<;>(try simp only[hh,Bool.not_true,Bool.not_false,↓M2,M2,Mb,reduceIte])) | (refine Q5 (fun hh=>?_) (fun hh=>?_)<;>(try simp only[hh,Bool.not_true,Bool.not_false,↓M2,M2,Mb,reduceIte])))))
  all_goals exact aF)
end Go.Proofs.YtjdiakhipmggjaaGreatDoor

namespace Go.Kd
def brk (b:UInt8):Bool:=[(91:UInt8),93].contains b
def Tx:Nat→X0→X0
 | 0,s=>s
 | n+1,s=>match s.getLast? with
  | some b=>if brk b then Tx n (s.take (s.length-1)) else s
  | none=>s
def Oa (s:X0):X0:=Tx s.length s
theorem Q62: ∀(n m:Nat) (s:X0),s.length≤n→s.length≤m→Tx n s=Tx m s:=by
 intro n
 induction n with
 | zero=>
  intro m s h _
  have:s=[]:=List.eq_nil_of_length_eq_zero (by omega)
  subst this
  cases m<;>rfl
 | succ n a=>
  intro m s h c
  cases m with
  | zero=>
   have:s=[]:=List.eq_nil_of_length_eq_zero (by omega)
   subst this;rfl
  | succ m=>
   simp only[Tx]
   cases d:s.getLast? with
   | none=>rfl
   | some b=>
    simp only
    split
    ·exact a m _ (by rw[List.length_take];omega) (by rw[List.length_take];omega)
    ·rfl
theorem Al (s:X0):Oa s=match s.getLast? with | some b=>if brk b then Oa (s.take (s.length-1)) else s | none=>s:=by
 unfold Oa
 cases d:s with
 | nil=>rfl
 | cons c r=>
  rw[←d]
  obtain ⟨n,e⟩: ∃n,s.length=n+1:=⟨r.length,by rw[d];rfl⟩
  have a:s.length-1=n:=by omega
  rw[e]
  simp only[Tx,a]
  cases f:s.getLast? with
  | none=>rfl
  | some b=>
   simp only
   split
   ·rw[show n+1-1=n by omega];exact Q62 n (s.take n).length _ (by rw[List.length_take];omega) (Nat.le_refl _)
   ·rfl
theorem Q7R {s:X0} (h:name s=true): ∃b,s.getLast?=some b∧D0 b.toNat=true:=by
 cases s with
 | nil=>simp[name] at h
 | cons c r=>
  refine ⟨(c::r).getLast (by simp),List.getLast?_eq_some_getLast (by simp),?_⟩
  simp only[name,Bool.and_eq_true,List.all_eq_true] at h
  exact h.2 _ (List.getLast_mem _)
theorem Q75 {b:UInt8} (h:D0 b.toNat=true):brk b=false:=by
 have a:b≠91:=by rintro rfl;revert h;decide
 have c:b≠93:=by rintro rfl;revert h;decide
 simp[brk,a,c]
theorem Vv {s:X0} (h:(plain s||W2 s)=true):name s=true:=by
 simp only[Bool.or_eq_true] at h
 rcases h with h | h
 ·simp only[plain,Bool.or_eq_true,decide_eq_true_eq] at h
  rcases h with (h | h) | h<;>subst h<;>decide
 ·cases s with
  | nil=>simp[W2] at h
  | cons c r=>simp only[W2,Bool.and_eq_true] at h;exact h.1
end Go.Kd
namespace Go.Proofs.YtjdiakhipmggjaaGreatDoor
open Go.Emb Go.RowKit Go.Kd Go.Hm
variable {w : World} {K : Value → World → Prop} {σ : Q4} {v : Value} {l : List Cla}
theorem Q8f {s:X0} (h:arr s=true):Oa s=Oa (Kd.cutA s):=by
 have e:2≤s.length∧s.drop (s.length-2)=[91,93]:=by simpa [arr] using h
 obtain ⟨i,d⟩:=e
 have a:s=Kd.cutA s++[91,93]:=by unfold Kd.cutA;rw[←d,List.take_append_drop]
 have g:(Kd.cutA s).length+2=s.length:=by unfold Kd.cutA;rw[List.length_take];omega
 have c:s.getLast?=some 93:=by rw[a];simp
 have f:s.take (s.length-1)=Kd.cutA s++[91]:=by
  conv=>lhs;rw[a]
  rw[List.take_append,List.length_append]
  simp
  exact List.take_of_length_le (by omega)
 rw[Al s,c]
 simp only[show brk 93=true from rfl,if_true,f]
 rw[Al]
 have b:(Kd.cutA s++[91]).getLast?=some 91:=by simp
 rw[b]
 simp only[show brk 91=true from rfl,if_true]
 congr 1
 simp
theorem Q7V {s:X0}:(plain (base s).1||W2 (base s).1)=true→Oa s=(base s).1:=by
 have key: ∀(n:Nat) (s:X0),s.length≤n→(plain (base s).1||W2 (base s).1)=true→Oa s=(base s).1:=by
  intro n
  induction n with
  | zero=>
   intro s h a
   have:s=[]:=List.eq_nil_of_length_eq_zero (by omega)
   subst this;rfl
  | succ n e=>
   intro s h a
   by_cases c:arr s=true
   ·have d:base s=((base (Kd.cutA s)).1,(base (Kd.cutA s)).2+1):=by rw[Zl s,c];simp
    rw[d] at a⊢
    rw[Q8f c]
    exact e _ (by have:=P3 c;omega) a
   ·have d:base s=(s,0):=by rw[Zl s,eq_false_of_ne_true c];simp
    rw[d] at a⊢
    obtain ⟨b,f,g⟩:=Q7R (Vv a)
    rw[Al,f]
    simp[Q75 g]
 exact key _ s (Nat.le_refl _)
instance z_asciiSet:TZ P T.a9 256 256 (.agg (Array.replicate 256 (.bool false))):=⟨by kernel_rfl⟩
theorem Q4S (h: ∀w',Below w.heap.size w w'→K (.tuple #[.agg (Lib.setCells [91,93]), .bool true]) w'):Q1 P F.bX [S [91,93]] w K:=by
 refine Ul (fn:=Tryz.f157) Tryz.func157 (by kernel_rfl) (by kernel_rfl) (Calls.mono (Tryz.strings_makeASCIISet (fun w=>Xh z_asciiSet w) ⟨[91,93].toArray⟩ w (by decide) (by
  intro j b a
  have:b∈[(91:UInt8),93]:=List.mem_of_getElem? a
  simp at this;rcases this with rfl | rfl<;>decide)) ?_)
 rintro e w' ⟨rfl,rfl⟩
 exact h _ ((Below.refl _ _).alloc (Nat.le_refl _) _)
theorem Q1a {q:Addr} {b:UInt8} (c:X4 w σ) (a:Z3 σ q (Lib.setCells [91,93]).toList) (h:K (.bool (brk b)) w):Q1 P F.aq [.pointer (some q), .int .u8 b.toNat] w K:=Ll (by
 unfold P4
 rw[L4]
 have d:=b.toNat_lt
 rw[Q7n (by omega) (by omega)]
 refine ld c a ?_ h
 have:=Lib.setCells_at [91,93] b
 rw[←Array.getElem?_toList] at this
 simpa [brk] using this)
theorem Q0Q {q:Addr} {s:X0} (m:X4 w σ) (j:s.length≤J8) (n:Z3 σ q (Lib.setCells [91,93]).toList) (h:K (S (Oa s)) w):Q1 P F.ai [S s, .pointer (some q)] w K:=Ea (by
 unfold Zk
 refine U9 ?_
 refine Uc (fun x w'=>w'=w∧ ∃u:X0,x=S u∧u.length≤J8∧Oa u=Oa s) (fun x _=>(sOf x).length) ⟨rfl,s,rfl,j,rfl⟩ ?_
 rintro _ d _ ⟨rfl,u,rfl,g,e⟩
 have f:sOf (S u)=u:=by simp[sOf]
 simp only[f]
 refine Q4n X9 ?_
 refine Q68 ?_
 refine Q5 (fun hh=>?_) (fun hh=>?_)
 ·have k:0<u.length:=by simpa using hh
  have o:u.length≤9223372036854775807:=Nat.le_trans g (by decide)
  refine Q4n X9 ?_
  refine Mq ⟨by omega,by omega⟩ ?_
  have i:((u.length:Int)-1).toNat=u.length-1:=by omega
  rw[T6 X9 (by omega) (by omega)]
  simp only[i]
  have b:u.getLast?=some (u[u.length-1]'(by omega)):=by rw[List.getLast?_eq_getElem?,List.getElem?_eq_getElem]
  have a:=Al u
  rw[b] at a
  simp only at a
  refine Q1a m n ?_
  cases c:brk (u[u.length-1]'(by omega)) with
  | true=>
   rw[c] at a
   simp only[↓M1,M1,Mb,reduceIte]
   rw[S8 (by omega) (by omega),I6 X9 (by omega) (by omega)]
   simp only[i]
   refine ⟨⟨trivial,_,rfl,by rw[List.length_take];omega,?_⟩,?_⟩
   ·rw[←e,a];simp
   ·have:sOf (S (u.take (u.length-1)))=u.take (u.length-1):=by simp[sOf]
    simp only[this,List.length_take];omega
  | false=>
   rw[c] at a
   simp only[↓M1,M1,Mb,reduceIte]
   intro _
   rw[←e,a] at h
   simpa using h
 ·have k: ¬0<u.length:=by simpa using hh
  have:u=[]:=List.eq_nil_of_length_eq_zero (by omega)
  subst this
  intro _
  rw[←e] at h
  exact h)
theorem Q4L {s:X0} (hs:X4 w σ) (hl:s.length≤J8) (h: ∀w' σ',Stp w σ w' σ'→K (S (Oa s)) w'):Q1 P F.bs [S s,S [91,93]] w K:=Ii (by
 unfold Mj
 by_cases hs0:s=[]
 ·subst hs0
  (repeat' (first | (with_reducible intro _) | (with_reducible refine U9 ?_) | (simp only[↓M2,M2,Mb,reduceIte]) | (with_reducible first | refine ld aS aL aR ?_ | refine X8 aS aL aR ?_ | refine Y4 aS aL aR ?_ | refine Q9 aL ?_ | refine U0 aR ?_ | refine Y9 aS ?_ | refine W4 aS aL ?_ | refine J4 aS aR ?_ | refine Y1 aS aR aR (Rep.one (by assumption)) ?_ | refine J5 aS aR aR aR ?_ | (refine Y7 (fun hh=>?_) (fun hh=>?_)<;>(try simp only[hh,Bool.not_true,Bool.not_false,↓M2,M2,Mb,reduceIte])) | (refine Q5 (fun hh=>?_) (fun hh=>?_)<;>(try simp only[hh,Bool.not_true,Bool.not_false,↓M2,M2,Mb,reduceIte])))))
  all_goals first | exact h _ _ (by (repeat (first | exact Stp.refl (by (first | assumption | exact Stp.sat (by assumption) | exact Hst.sat (by assumption))) | assumption | refine Stp.trans ?_ (by first | assumption | exact Hst.stp (by assumption))))) | (exfalso;simp_all)
 have d1:decide (s=[])=false:=decide_eq_false hs0
 simp only[d1,show decide (([91,93]:X0)=[])=false from rfl,show decide ((([91,93]:X0).length:Int)=1)=false from rfl,↓M1,M1,Mb,reduceIte]
 refine Q4S (V6 hs fun w1 σ1 hk1=>?_)
 simp only[↓M1,M1,Mb,reduceIte]
 have hsz:(Lib.setCells [91,93]).toList.length=256:=by rw[Array.length_toList];exact Lib.setCells_size _
 have hone: ∀u∈(Lib.setCells [91,93]).toList,u.oneCell'=true:=by
  have:=Lib.setCells_one [91,93]
  rw[Array.all_eq_true'] at this
  intro u hu;exact this u (by simpa using hu)
 have htr: ∀{w:World} {σ:Q4} {K:Value→World→Prop} {q:Addr},X4 w σ→Z3 σ q (Lib.setCells [91,93]).toList→K (S (Oa s)) w→Q1 P F.ai [S s, .pointer (some q)] w K:=fun hs hq h=>Q0Q hs hl hq h
 have hta:Lib.setCells [91,93]=(Lib.setCells [91,93]).toList.toArray:=Array.toArray_toList.symm
 generalize (Lib.setCells [91,93]).toList=cs at*
 rw[hta]
 refine Y1 hk1.sat (by show (Array.replicate 256 (Value.bool false)).size=256;exact Array.size_replicate) hsz hone fun q w2 σ2 hk2 hq=>?_
 refine htr hk2.sat hq ?_
 exact h _ _ (hk1.trans hk2))
theorem Ti {s:X0} (hs:X4 w σ) (ht:Tab σ v l) (hl:s.length≤J8) (h: ∀w' σ',Stp w σ w' σ'→K (.bool (N9 l s)) w'):Q1 P F.q [v,S s] w K:=Im (by
 unfold Lu
 unfold N9 at h
 refine Xy ?_
 refine Q5 (fun hh=>?_) (fun hh=>?_)
 ·have e:decide (s=C0)=true:=hh
  rw[e] at h
  exact h _ _ (Stp.refl hs)
 ·have e:decide (s=C0)=false:=hh
  rw[e] at h
  refine Q4L hs hl fun w1 σ1 hk1=>?_
  refine Xi s (Nat.le_trans hl (by decide)) (V6 hk1.sat fun w2 σ2 hk2=>?_)
  cases hr:right s with
  | false=>
   rw[hr] at h
   (repeat' (first | (with_reducible intro _) | (with_reducible refine U9 ?_) | (simp only[↓M2,M2,Mb,reduceIte]) | (with_reducible first | refine ld aS aL aR ?_ | refine X8 aS aL aR ?_ | refine Y4 aS aL aR ?_ | refine Q9 aL ?_ | refine U0 aR ?_ | refine Y9 aS ?_ | refine W4 aS aL ?_ | refine J4 aS aR ?_ | refine Y1 aS aR aR (Rep.one (by assumption)) ?_ | refine J5 aS aR aR aR ?_ | (refine Y7 (fun hh=>?_) (fun hh=>?_)<;>(try simp only[hh,Bool.not_true,Bool.not_false,↓M2,M2,Mb,reduceIte])) | (refine Q5 (fun hh=>?_) (fun hh=>?_)<;>(try simp only[hh,Bool.not_true,Bool.not_false,↓M2,M2,Mb,reduceIte])))))
   all_goals exact aF
  | true=>
   rw[hr] at h
   have hr2:(plain (base s).1||W2 (base s).1)=true:=by
    simp only[right,Bool.and_eq_true] at hr;exact hr.2
   rw[Q7V hr2]
   (repeat' (first | (with_reducible intro _) | (with_reducible refine U9 ?_) | (simp only[↓M2,M2,Mb,reduceIte]) | (with_reducible first | refine ld aS aL aR ?_ | refine X8 aS aL aR ?_ | refine Y4 aS aL aR ?_ | refine Q9 aL ?_ | refine U0 aR ?_ | refine Y9 aS ?_ | refine W4 aS aL ?_ | refine J4 aS aR ?_ | refine Y1 aS aR aR (Rep.one (by assumption)) ?_ | refine J5 aS aR aR aR ?_ | refine Dg _ ?_ | refine Q6N au au ?_ | (refine Y7 (fun hh=>?_) (fun hh=>?_)<;>(try simp only[hh,Bool.not_true,Bool.not_false,↓M2,M2,Mb,reduceIte])) | (refine Q5 (fun hh=>?_) (fun hh=>?_)<;>(try simp only[hh,Bool.not_true,Bool.not_false,↓M2,M2,Mb,reduceIte])))))
   all_goals exact aF)
end Go.Proofs.YtjdiakhipmggjaaGreatDoor

namespace Go.Emb
open Go.RowKit Go.Hm
variable {P : Program} {w w0 w1 w' w'' : World} {K : Value → World → Prop} {σ σ0 σ1 σ' : Q4}
theorem Q2z (m:List (List UInt8×Value)) (k n:List UInt8) (v:Value):E5 (Uk m k v) n=if k=n then some v else E5 m n:=by
 induction m with
 | nil=>simp[Uk,E5]
 | cons p r b=>
  simp only[Uk]
  by_cases h:p.1=k
  ·rw[if_pos h]
   simp only[E5]
   by_cases a:k=n
   ·simp[a]
   ·rw[if_neg a,if_neg a,if_neg (by rw[h];exact a)]
  ·rw[if_neg h]
   simp only[E5]
   by_cases a:p.1=n
   ·rw[if_pos a,if_pos a,if_neg (by intro e;exact h (a.trans e.symm))]
   ·rw[if_neg a,if_neg a];exact b
theorem J9.shift {B sz:Nat} {e:TypeId} {v:Value} {xs:List (List UInt8)} (h:J9 B e sz J6 σ w v xs) (m: ∀k,v.ownBlock=some k→σ' k=none):J9 B e sz J6 σ' w v xs:=by
 obtain ⟨a,i,rfl,p,u,c,t⟩:=h
 refine ⟨a,i,rfl,p,u,fun b d=>⟨(c b d).1,(c b d).2.1,(c b d).2.2.1,m _ (by subst d;rfl)⟩,fun q=>?_⟩
 obtain ⟨g,j,f,rfl,r,y,o,s,n⟩:=t q
 exact ⟨g,j,f,rfl,r,m g rfl,o,s,n⟩
theorem Kpt.sat {D:Nat→Prop} (a:X4 w σ) (c:Kpt D w w') (d: ∀k,D k→σ k=none):X4 w' σ:=fun b o e=>by
 rw[c.block b (a.lt e) fun h=>by rw[d b h] at e;cases e];exact a b o e
theorem Nxt.kpt {D D':Nat→Prop} (h:Nxt D w σ w' σ') (a:Kpt D' w' w'') (c: ∀k,D' k→D k) (b: ∀k,D' k→σ' k=none):Nxt D w σ w'' σ':=
 ⟨h.kp.trans (a.mono fun k _ h=>c k h),h.le,h.old,a.sat h.sat b⟩
theorem X12 {t W:TypeId} {e:TypeId} {n:Nat} {z:Value} {cs:List Bool} [ts:TS P t e] [tz:TZ P e 1 n z] {B:Nat} {A:World} {g σ':Q4} {i u:Value} {xs:List (List UInt8)} {s:List UInt8}
 (D:J9 B e 1 J6 g A i xs) (hB:B≤A.heap.size) (Q:J9 B e 1 J6 g w1 i xs) (y:Nxt (fun k=>i.ownBlock=some k) A g w1 σ') (J:Sl 1 J6 σ' u [s]) (R:(z.cells.size==1&&decide (0<1))=true)
 (j:(xs.length+1)*n≤140737488355328) (L:xs.length+1≤1000000000000):
 X6 P .append [t,t] W cs [i,u] w1 (dk (Sq B e 1 J6 g i xs s) (VQa A.heap.size B e 1 J6 g i xs s) w1):=by
 have m: ∀k,i.ownBlock=some k→σ' k=none:=fun k c=>(y.old k (D.mem c).2.1).trans (D.mem c).2.2
 refine Q6M y.sat (Nat.le_trans hB y.kp.size) (Q.shift m) J R (by simpa using j) (by simpa using L) fun M U C V r d=>?_
 have b:J9 B e 1 J6 g U M (xs++[s]):=r.shift fun k c=>by
  have:=(r.mem c).2.2
  cases hh:g k with
  | none=>rfl
  | some o=>rw[y.le.le _ _ hh] at this;cases this
 refine ⟨⟨C.mono fun k _ h=>h.1,fun h=>?_,fun a f E h=>?_⟩,b,?_⟩
 ·rcases d with ⟨a,f,p,q⟩ | ⟨j,_⟩
  ·rw[q] at b;rw[p];exact b.pre rfl
  ·exact h.below j
 ·rcases d with ⟨Y,H,p,q⟩ | ⟨j,_⟩
  ·rw[p] at E;injection E with X q2 N
   subst X N
   rw[q] at b;exact b
  ·exact h.below j
 ·rcases d with ⟨a,f,p,q⟩ | ⟨j,O⟩
  ·exact .inl ⟨a,f,p,q⟩
  ·exact .inr ⟨fun k c=>Nat.le_trans y.kp.size (O k c),fun k c=>(D.mem c).2.1⟩
end Go.Emb
namespace Go.Hm
open Go.Kd
def Wy (l:List Cla) (n:X0):List Cla:=(R2 l n).filterMap (lk l)
theorem Q4X {l:List Cla} (h: ∀c∈l,K5 c) (a:List X0):weigh l a≤l.length*1000001:=by
 unfold weigh
 induction l with
 | nil=>simp
 | cons c r b=>
  have f:=b fun c d=>h c (by simp[d])
  have g:=(h c (by simp)).1
  simp only[List.map_cons,List.sum_cons,List.length_cons,Nat.add_mul]
  have e:(J3 c).length=c.like.length+1:=rfl
  split<;>omega
end Go.Hm
namespace Go.Proofs.YtjdiakhipmggjaaGreatDoor
open Go.Emb Go.RowKit Go.Kd Go.Hm
variable {w : World} {K : Value → World → Prop} {σ : Q4} {v : Value} {l : List Cla}
theorem Q5N {β:Type} {n:X0} {f:Value} (H:β→Cla→Bool×β) (s0:β) (Q:β→World→Prop) (D:Nat→Prop) (hs:X4 w σ) (ht:Tab σ v l) (hl:l.length≤100000) (bf: ∀c∈l,K5 c) (hn:n.length≤J8)
 (hD: ∀k,D k→k<w.heap.size∧σ k=none) (an: ∀s w1 w2,Q s w1→(∀k,D k→w2.heap[k]? =w1.heap[k]?)→Q s w2) (h0:Q s0 w)
 (hf: ∀s c cs (w1:World) (σ1:Q4) (K:Value→World→Prop),SLe σ σ1→X4 w1 σ1→(∀k,D k→σ1 k=none)→Q s w1→U4 σ1 c cs→lk l c.name=some c→(∀w',Kpt D w1 w'→Q (H s c).2 w'→K (.bool (H s c).1) w')→Y6 P f [.agg cs.toArray] w1 K)
 (h: ∀w' σ',Nxt D w σ w' σ'→Q (Z5 H s0 (Wy l n) 0).2 w'→K (.bool (Z5 H s0 (Wy l n) 0).1.isSome) w'):Q1 P F.u [v,S n,f] w K:=Fm (by
 unfold Vq
 refine Xa (R:=J6) (sz:=1) (xs:=[n]) (Stp.refl hs) [S n] rfl rfl (by simp;rfl) rfl ⟨⟨rfl,hn⟩,trivial⟩ fun x0 w1 ax bs _=>?_
 refine Q0U ax.sat fun r w2 hr ag ca=>?_
 have cf:=J9.of_acc (bs.up ag)
 have bk:=ax.trans ag
 have bq:w.heap.size≤r:=Nat.le_trans ax.bel.size hr
 have bd: ∀b,weigh l b≤100001000000:=fun b=>by
  have:=Q4X bf b
  have h2:l.length*1000001≤100000*1000001:=Nat.mul_le_mul_right _ hl
  omega
 refine Ak (fun d x w1=> ∃(C b:List X0) (s:β) (σ1:Q4) (m:List (X0×Value)),d=C.length+weigh l b∧d≤1+weigh l []∧Nxt D w σ w1 σ1∧J9 w.heap.size T.b 1 J6 σ1 w1 x C∧E4 σ1 w1 r m∧(∀k,(E5 m k).isSome=decide (k∈b))∧x.ownBlock≠some r∧Q s w1∧
  R2 l n=Zx (lk l) d C b∧(∃i,Z5 H s0 (Wy l n) 0=Z5 H s (((R2 l n).drop b.length).filterMap (lk l)) i)) (1+weigh l []) ?_ ?_
 ·refine ⟨[n],[],s0,σ,[],by simp,Nat.le_refl _,Nxt.of_stp bk,cf,ca,by simp[E5],?_,an _ _ _ h0 fun k o=>bk.bel.block k (hD k o).1,rfl,0,by simp[Wy]⟩
  intro e
  have:=bs.mem r e
  omega
 rintro a1 d x dd w3 ⟨C,b,s,σ3,m,hd,c8,A,aq,Z,N,b9,a2,hv,i,y⟩ bc
 have cw:=bd []
 have a6:=A.sat
 obtain ⟨a5,B⟩:=Ap (lk l) d C b
 rw[←hv] at B
 have ac:(R2 l n).drop b.length=a5:=by rw[B];simp
 rw[ac] at y
 refine Am aq ?_
 refine Q68 ?_
 cases ae:C with
 | nil=>
  subst ae
  refine Q5 (fun hh=>absurd (of_decide_eq_true hh) (by simp)) (fun _=>?_)
  have:R2 l n=b:=by rw[hv];cases d<;>rfl
  have hp:a5=[]:=by rw[this] at B;simpa using B
  rw[hp] at y
  rw[y] at h
  exact h _ _ A a2
 | cons t g=>
  subst ae
  refine Q5 (fun _=>?_) (fun hh=>absurd (of_decide_eq_false hh) (by simp))
  simp only[List.length_cons] at hd
  refine Q3t (n:=0) aq (by simp) fun a cs h1 h2 h3=>?_
  obtain ⟨rfl,cm⟩:=h3
  simp only[List.getElem_cons_zero] at h1 cm
  have ad:=h1 0 _ rfl
  rw[add_zero] at ad
  refine T7 ad ?_
  refine X1j aq 1 (by simp) fun x' af b0=>?_
  simp only[List.drop_succ_cons,List.drop_zero] at af
  have L:x'.ownBlock≠some r:=by
   rcases b0 with e | e<;>rw[e]
   ·exact b9
   ·simp
  rw[Q0S X9 Z.2 t]
  have cc:d=(g.length+weigh l b)+1:=by omega
  have p:=hv
  rw[cc] at p
  simp only[Zx] at p
  have skip:(lk l t=none∨t∈b)→R2 l n=Zx (lk l) (g.length+weigh l b) g b:=by
   rintro (e | e)
   ·rw[e] at p;exact p
   ·cases e2:lk l t with
    | none=>rw[e2] at p;exact p
    | some c=>rw[e2] at p;simp only[if_pos e] at p;exact p
  have ab:(lk l t=none∨t∈b)→a1 x' w3:=fun b5=>
   bc (g.length+weigh l b) x' w3 (by omega) ⟨g,b,s,σ3,m,rfl,by omega,A,af,Z,N,L,a2,skip b5,i,by rw[ac];exact y⟩
  have a4:=ht.lift A.le
  have U:=N t
  cases bx:E5 m t with
  | some u=>
   rw[bx] at U
   have aj:t∈b:=by simpa using U
   simp only[↓M2,M2,Mb,reduceIte]
   exact ab (.inr aj)
  | none=>
   rw[bx] at U
   have aj:t∉b:=by simpa using U
   simp only[↓M2,M2,Mb,reduceIte]
   cases J:lk l t with
   | none=>
    refine Pb a6 a4 J ?_
    simp only[↓M2,M2,Mb,reduceIte]
    exact ab (.inl J)
   | some c=>
    obtain ⟨ar,bh,_⟩:=U8 J
    refine Ee a6 a4 J ?_
    simp only[↓M2,M2,Mb,reduceIte]
    refine Fz X9 Z t (I 1) fun w4 bi b6=>?_
    have Y:Kpt (fun k=>k=r) w3 w4:=Kpt.of_upd bi rfl
    have cp:X4 w4 σ3:=Y.sat a6 fun k o=>by rw[o];exact Z.1
    have bb:=af.kp Y fun k o e=>L (e▸o)
    have cq:=an _ _ _ a2 fun k o=>bi.block k (by have:=(hD k o).1;omega)
    have c9:r<w3.heap.size:=Z.lt
    refine Xn cp a4 J fun lv fv mv w5 σ5 bl f1 f2 f3 f4 f5 bg=>?_
    refine Y1 bl.sat (by rfl) rfl (Rep.one bg) fun q w6 M V a3=>?_
    refine Y4 V.sat a3 rfl ?_
    have z:=bl.trans V
    have be: ∀k,D k→k<w4.heap.size:=fun k o=>by
     have h1:=(hD k o).1
     have h2:=A.kp.size
     have h3:=Y.size
     omega
    have ch:=an _ _ _ cq fun k o=>z.bel.block k (be k o)
    have aw:SLe σ M:=A.le.more ⟨z.le⟩
    have b1: ∀k,D k→M k=none:=fun k o=>by
     rw[z.old k (be k o),A.old k (hD k o).1];exact (hD k o).2
    refine hf s c _ w6 M _ aw V.sat b1 ch (RCl_lift bg ⟨V.le⟩) (by rw[ar];exact J) fun w7 ak br=>?_
    have bn:X4 w7 M:=ak.sat V.sat b1
    have ai:Nxt D w σ w7 M:=⟨((A.kp.more Y fun j e=>by rw[e];exact bq).trans (Kpt.of_below z.bel)).trans ak,aw,fun k o=>by
     rw[z.old k (by have:=A.kp.size;have:=Y.size;omega)];exact A.old k o,bn⟩
    have ao: ∀k,w.heap.size≤k→ ¬D k:=fun k o e=>by have:=(hD k e).1;omega
    have W:=(bb.up z).kp ak fun k o=>ao k ((bb.mem o).1)
    have bm:=(b6.up z).kp ak (ao r bq)
    have bj: ∀k,(E5 (Uk m t (I 1)) k).isSome=decide (k∈b++[t]):=fun k=>by
     rw[Q2z]
     by_cases e:t=k
     ·subst e;simp
     ·rw[if_neg e,N k];simp[Ne.symm e]
    rw[J] at p
    simp only[if_neg aj] at p
    obtain ⟨bo,a7⟩:=Ap (lk l) (g.length+weigh l b) (g++J3 c) (b++[t])
    have bp:a5=t::bo:=by
     have:=B.symm.trans (p.trans a7)
     simpa using this
    rw[bp] at y
    simp only[List.filterMap_cons,J,Z5] at y
    cases E:(H s c).1 with
    | true=>
     rw[E] at y
     simp only[if_true] at y
     refine L7 ?_
     have:=h w7 M ai
     rw[y] at this
     exact this br
    | false=>
     rw[E] at y
     simp only[Bool.false_eq_true,if_false] at y
     refine M0 ?_
     have ap:w.heap.size≤w7.heap.size:=ai.kp.size
     have X: ∀k,x'.ownBlock=some k→M k=none:=fun k o=>(W.mem o).2.2
     have hw:=Be l b c bh (by rw[ar];exact aj)
     rw[ar] at hw
     have dg:=bd b
     have cl:g.length≤100001000001:=by omega
     have b8:=(bf c bh).1
     have ct:=bm.lt
     refine Q1o (Sq w.heap.size T.b 1 J6 M x' g c.super) (fun w1=>Kpt (fun k=>x'.ownBlock=some k) w7 w1∧X4 w1 M∧J9 w.heap.size T.b 1 J6 M w1 x' g)
      ⟨.of_below (Below.refl _ _).drew,bn.below (Below.refl _ _).drew,W.below (Below.refl _ _).drew⟩ (fun w1 w2 E ht=>⟨E.1.trans ht.1,ht.1.sat E.2.1 X,ht.2.1 E.2.2⟩) ?_
     refine X2 (.pointer (some (q.add 1))) (fun w E=>by rw[fa];exact ⟨Sq.refl,rfl⟩) ?_
     refine X2 (.pointer (some (q.add 2))) (fun w E=>by rw[fa];exact ⟨Sq.refl,rfl⟩) ?_
     refine X2 (S c.super) (fun t w E e=>by rw[e];exact ld E.2.1 a3 rfl ⟨Sq.refl,rfl⟩) ?_
     refine N1 (fun u w1=> ∃σ',Nxt (fun k=>x'.ownBlock=some k) w7 M w1 σ'∧Sl 1 J6 σ' u [c.super]) (fun u w1 w2 e ht=>by obtain ⟨σ',h1,h2⟩:=e;exact ⟨σ',h1.kpt ht.1 (fun _ o=>o) (fun k o=>(h1.old k (W.mem o).2.1).trans (X k o)),h2⟩) (fun t w1 E e=>?_) ?_
     ·rw[e]
      refine T4 (R:=J6) (sz:=1) E.2.1 [S c.super] [c.super] rfl rfl (by simp;rfl) rfl ⟨⟨rfl,f5⟩,trivial⟩ fun u w2 σ2 ag hu=>?_
      have cd:Nxt (fun k=>x'.ownBlock=some k) w7 M w1 M:=⟨E.1,SLe.refl _,fun _ _=>rfl,E.2.1⟩
      exact ⟨Sq.below ag.bel,σ2,cd.trans (Nxt.of_stp ag),hu⟩
     refine N1 (VQa w7.heap.size w.heap.size T.b 1 J6 M x' g c.super) (fun _ _ _ h1 ht=>h1.stable ht) (fun u w1 E e=>?_) ?_
     ·obtain ⟨σ',h1,h2⟩:=e
      exact X12 W ap E.2.2 h1 h2 rfl (by omega) (by omega)
     refine X2 lv (fun t w E e=>by rw[e];exact ld E.2.1 a3 rfl ⟨Sq.refl,rfl⟩) ?_
     rintro da cy c6 c2 cr c1 w8 O _ _ _ _ ⟨ce,bz⟩ rfl
     have av:cr.ownBlock≠some r:=by
      rcases bz with ⟨a,ci,e1,e2⟩ | ⟨e1,_⟩
      ·rw[e2];rw[e1] at L;cases a<;>exact L
      ·intro e;have:=e1 r e;omega
     refine Q6M O.2.1 (Nat.le_trans ap O.1.size) ce (f1.up V) rfl (by rw[List.length_append,List.length_cons,List.length_nil];omega) (by rw[List.length_append,List.length_cons,List.length_nil];omega) fun bw w9 a0 ck cj bu=>?_
     have b3:bw.ownBlock≠some r:=by
      rcases bu with ⟨a,ci,e1,e2⟩ | ⟨_,e1⟩
      ·rw[e2];rw[e1] at av;cases a<;>exact av
      ·intro e;have:=e1 r e;have:=O.1.size;omega
     have cg:Nxt D w σ w9 M:=⟨(ai.kp.more O.1 fun j e=>(W.mem e).1).more a0 fun j e=>e.2.1,aw,ai.old,ck⟩
     have cn:=(bm.kp O.1 L).kp a0 fun e=>av e.1
     have b7:=an _ w7 w9 br fun k o=>by
      have h1:=(hD k o).1
      rw[a0.block k (by have:=O.1.size;omega) fun e=>by have:=e.2.1;omega,O.1.block k (by omega) fun e=>by have:=(W.mem e).1;omega]
     have c0:(g++J3 c).length=g.length+1+c.like.length:=by simp[J3];omega
     have cu:(J3 c).length=c.like.length+1:=rfl
     have az:Zx (lk l) (g.length+weigh l b) (g++J3 c) (b++[t])=Zx (lk l) ((g++J3 c).length+weigh l (b++[t])) (g++J3 c) (b++[t]):=by
      have:=Q8Y l ((g++J3 c).length+weigh l (b++[t])) (g++J3 c) (b++[t]) (Nat.le_refl _) (g.length+weigh l b-((g++J3 c).length+weigh l (b++[t])))
      rw[←this];congr 1;omega
     refine bc ((g++J3 c).length+weigh l (b++[t])) bw w9 (by omega) ⟨g++J3 c,b++[t],(H s c).2,M,_,rfl,by omega,cg,?_,cn,bj,b3,b7,p.trans az,i+1,?_⟩
     ·have:g++J3 c=(g++[c.super])++c.like:=by simp[J3]
      rw[this];exact cj
     ·rw[y,B,bp];simp)
end Go.Proofs.YtjdiakhipmggjaaGreatDoor

namespace Go.Emb
open Go.RowKit Go.Hm
theorem Nxt.stp {w w':World} {σ a:Q4} (h:Nxt (fun _=>False) w σ w' a):Stp w σ w' a:=⟨h.kp.below fun _=>id,h.sat,h.le.le,h.old⟩
end Go.Emb
namespace Go.Hm
open Go.Kd Go.Emb
theorem Q2Q {α:Type} (p:α→Bool): ∀(xs:List α) (i:Nat),(Z5 (fun (_:Unit) x=>(p x,())) () xs i).1.isSome=xs.any p
 | [],_=>rfl
 | x::r,i=>by
  simp only[Z5,List.any_cons]
  cases p x with
  | true=>simp
  | false=>simpa using Q2Q p r (i+1)
theorem Q3q {l:List Cla} (n b:X0):((Wy l n).any fun c=>decide (c.name=b))=(R2 l n).contains b:=by
 have key: ∀vs:List X0,(∀x∈vs,∃c,lk l x=some c)→((vs.filterMap (lk l)).any fun c=>decide (c.name=b))=vs.contains b:=by
  intro vs
  induction vs with
  | nil=>intro _;rfl
  | cons x r e=>
   intro h
   obtain ⟨c,a⟩:=h x (by simp)
   rw[List.filterMap_cons,a]
   simp only[List.any_cons,List.contains_cons]
   rw[e fun y d=>h y (by simp[d]),(U8 a).1]
   congr 1
   rw[Bool.eq_iff_iff,beq_iff_eq,decide_eq_true_eq];exact ⟨Eq.symm,Eq.symm⟩
 exact key _ fun x f=>(Zp.1 f).right
end Go.Hm
namespace Go.Proofs.YtjdiakhipmggjaaGreatDoor
open Go.Emb Go.RowKit Go.Kd Go.Hm
variable {w : World} {K : Value → World → Prop} {σ : Q4} {v : Value} {l : List Cla}
theorem Q5n {n:X0} {f:Value} (p:Cla→Bool) (hs:X4 w σ) (ht:Tab σ v l) (hl:l.length≤100000) (hsm: ∀c∈l,K5 c) (hn:n.length≤J8)
 (hf: ∀c cs (w1:World) (σ1:Q4) (K:Value→World→Prop),SLe σ σ1→X4 w1 σ1→U4 σ1 c cs→(∀w' σ',Stp w1 σ1 w' σ'→K (.bool (p c)) w')→Y6 P f [.agg cs.toArray] w1 K)
 (h: ∀w' σ',Stp w σ w' σ'→K (.bool ((Wy l n).any p)) w'):Q1 P F.u [v,S n,f] w K:=by
 refine Q5N (fun (_:Unit) c=>(p c,())) () (fun _ _=>True) (fun _=>False) hs ht hl hsm hn (fun _ e=>e.elim) (fun _ _ _ _ _=>trivial) trivial (fun s c cs w1 σ1 K le hs1 _ _ hr _ hK=>hf c cs w1 σ1 K le hs1 hr fun w' σ' hk=>hK w' (.of_below hk.bel) trivial) fun w' σ' hn _=>?_
 rw[Q2Q]
 exact h w' σ' hn.stp
theorem Q8G {n b:X0} {q:Addr} (hs:X4 w σ) (ht:Tab σ v l) (ok:Ok l) (hn:n.length≤J8) (hq:Z3 σ q [S b]) (h: ∀w' σ',Stp w σ w' σ'→K (.bool ((R2 l n).contains b)) w'):
 Q1 P F.u [v,S n, .func (.func F.bd) #[] #[.pointer (some q)]] w K:=by
 refine Q5n (fun c=>decide (c.name=b)) hs ht ok.len ok.sm hn (fun c cs w1 σ1 K le hs1 hr hK=>Y8 (Bl ?_)) (by rw[Q3q];exact h)
 obtain ⟨lv,fv,mv,rfl,_⟩:=hr
 unfold Ww
 have hq1:=hq.lift le
 refine Y9 hs1 fun a w2 σ2 hk2 ha2=>?_
 (repeat' (first | (with_reducible intro _) | (with_reducible refine U9 ?_) | (simp only[↓M2,M2,Mb,reduceIte]) | (with_reducible first | refine ld aS aL aR ?_ | refine X8 aS aL aR ?_ | refine Y4 aS aL aR ?_ | refine Q9 aL ?_ | refine U0 aR ?_ | refine Y9 aS ?_ | refine W4 aS aL ?_ | refine J4 aS aR ?_ | refine Y1 aS aR aR (Rep.one (by assumption)) ?_ | refine J5 aS aR aR aR ?_ | (refine Y7 (fun hh=>?_) (fun hh=>?_)<;>(try simp only[hh,Bool.not_true,Bool.not_false,↓M2,M2,Mb,reduceIte])) | (refine Q5 (fun hh=>?_) (fun hh=>?_)<;>(try simp only[hh,Bool.not_true,Bool.not_false,↓M2,M2,Mb,reduceIte])))))
 exact hK _ _ hk2
theorem X1e {a b:X0} (H:X4 w σ) (r:Tab σ v l) (ok:Ok l) (t:a.length≤J8) (D:b.length≤J8) (h: ∀w' E,Stp w σ w' E→K (.bool (Ob l a b)) w'):Q1 P F.bz [v,S a,S b] w K:=Tc (by
 unfold Nu
 unfold Ob at h
 refine J4 H rfl fun q w1 σ1 m C=>?_
 refine Ti m.sat (r.lift ⟨m.le⟩) t fun N L e=>?_
 have j:=m.trans e
 cases A:N9 l a with
 | false=>
  simp only[A,↓M2,M2,Mb,reduceIte,Bool.not_false,Bool.true_or,if_true] at h⊢
  exact h _ _ j
 | true=>
  simp only[A,↓M2,M2,Mb,reduceIte,Bool.not_true,Bool.false_or] at h⊢
  refine X8 e.sat (C.up e) rfl ?_
  refine Ti e.sat (r.lift ⟨j.le⟩) D fun O Q d=>?_
  have c:=j.trans d
  cases B:N9 l b with
  | false=>
   simp only[B,↓M2,M2,Mb,reduceIte,Bool.not_false,if_true] at h⊢
   exact h _ _ c
  | true=>
   simp only[B,↓M2,M2,Mb,reduceIte,Bool.not_true,Bool.false_eq_true,if_false] at h⊢
   have i:=(C.up e).up d
   refine X8 d.sat i rfl ?_
   refine Xy ?_
   by_cases f:a=b
   ·rw[if_pos f] at h
    simp only[decide_eq_true f,↓M2,M2,Mb,reduceIte]
    exact h _ _ c
   rw[if_neg f] at h
   simp only[decide_eq_false f,↓M2,M2,Mb,reduceIte]
   refine Dg a ?_
   cases y:plain a with
   | true=>
    simp only[y,↓M2,M2,Mb,reduceIte,Bool.true_or,if_true] at h⊢
    exact h _ _ c
   | false=>
    simp only[y,↓M2,M2,Mb,reduceIte,Bool.false_or] at h⊢
    refine X8 d.sat i rfl ?_
    refine Dg b ?_
    cases z:plain b with
    | true=>
     simp only[z,↓M2,M2,Mb,reduceIte,if_true] at h⊢
     exact h _ _ c
    | false=>
     simp only[z,↓M2,M2,Mb,reduceIte,Bool.false_eq_true,if_false] at h⊢
     by_cases p:a=C0
     ·rw[if_pos p] at h
      have u:decide (a=[110,117,108,108])=true:=decide_eq_true p
      simp only[u,↓M2,M2,Mb,reduceIte]
      exact h _ _ c
     rw[if_neg p] at h
     have u:decide (a=[110,117,108,108])=false:=decide_eq_false p
     simp only[u,↓M2,M2,Mb,reduceIte]
     refine Q4i a (Nat.le_trans t (by decide)) (V6 d.sat fun J M g=>?_)
     have k:=c.trans g
     have n:=i.up g
     refine Mx ?_
     by_cases o:elem a=[]
     ·rw[if_neg (by simpa using o)] at h
      simp only[decide_eq_true o,↓M2,M2,Mb,reduceIte]
      exact Q8G g.sat (r.lift ⟨k.le⟩) ok t n fun R U s=>h _ _ (k.trans s)
     ·rw[if_pos o] at h
      simp only[decide_eq_false o,↓M2,M2,Mb,reduceIte]
      refine X8 g.sat n rfl ?_
      refine Xy ?_
      exact h _ _ k)
theorem X0n {c:Cla} {cs:List Value} (hs:X4 w σ) (ht:Tab σ v l) (hl:l.length≤100000) (hsm: ∀c∈l,K5 c) (hc:U4 σ c cs) (h: ∀w' σ',Stp w σ w' σ'→K (.bool (B5 l c)) w'):Q1 P F.b7 [v, .agg cs.toArray] w K:=Fi (by
 obtain ⟨lv,fv,mv,rfl,g1,g2,g3,g4,g5⟩:=hc
 unfold Wl
 obtain ⟨a,_,_,_,rfl,_⟩:=ht.ex
 refine J4 hs rfl fun q w1 σ1 hk1 hq=>?_
 refine Y9 hk1.sat fun q2 w2 σ2 hk2 hq2=>?_
 rw[Qb,fa]
 have hS2:=hk1.trans hk2
 have back: ∀{n:X0} {w3:World} {σ3:Q4} {K:Value→World→Prop},SLe σ2 σ3→X4 w3 σ3→n.length≤J8→(∀w' σ',Stp w3 σ3 w' σ'→K (.bool ((R2 l n).contains c.name)) w')→
  Y6 P (.func (.func F.aU) #[] #[.pointer (some q), .pointer (some q2)]) [S n] w3 K:=by
  intro n w3 σ3 K le hs3 hn hK
  refine Y8 (Rl ?_)
  unfold Jr
  refine X8 hs3 ((hq.up hk2).lift le) rfl ?_
  rw[Qb]
  have le3:SLe σ σ3:=SLe.more ⟨hS2.le⟩ le
  refine Q5n (fun d=>decide (d.name=c.name)) hs3 (ht.lift le3) hl hsm hn (fun d ds w4 σ4 K le4 hs4 hr hK=>Y8 (Dh ?_)) (by rw[Q3q];exact hK)
  obtain ⟨lv,fv,mv,rfl,_⟩:=hr
  unfold Yj
  have hq4:=(hq2.lift le).lift le4
  refine Y9 hs4 fun a w5 σ5 hk5 ha5=>?_
  (repeat' (first | (with_reducible intro _) | (with_reducible refine U9 ?_) | (simp only[↓M2,M2,Mb,reduceIte]) | (with_reducible first | refine ld aS aL aR ?_ | refine X8 aS aL aR ?_ | refine Y4 aS aL aR ?_ | refine Q9 aL ?_ | refine U0 aR ?_ | refine Y9 aS ?_ | refine W4 aS aL ?_ | refine J4 aS aR ?_ | refine Y1 aS aR aR (Rep.one (by assumption)) ?_ | refine J5 aS aR aR aR ?_ | (refine Y7 (fun hh=>?_) (fun hh=>?_)<;>(try simp only[hh,Bool.not_true,Bool.not_false,↓M2,M2,Mb,reduceIte])) | (refine Q5 (fun hh=>?_) (fun hh=>?_)<;>(try simp only[hh,Bool.not_true,Bool.not_false,↓M2,M2,Mb,reduceIte])))))
  exact hK _ _ hk5
 refine ld hk2.sat hq2 rfl ?_
 unfold B5 at h
 simp only[J3,List.any_cons] at h
 refine back (SLe.refl _) hk2.sat g5 fun w3 σ3 hk3=>?_
 cases e1:(R2 l c.super).contains c.name with
 | true=>
  rw[e1] at h
  simp only[↓M2,M2,Mb,reduceIte]
  exact h _ _ (hS2.trans hk3)
 | false=>
  rw[e1,Bool.false_or] at h
  simp only[↓M2,M2,Mb,reduceIte]
  refine ld hk3.sat (hq2.up hk3) rfl ?_
  refine B0 (fun n=>(R2 l n).contains c.name) hk3.sat (((g1.up hk1).up hk2).up hk3) (fun x w4 K _ hs4 hx hK=>back ⟨hk3.le⟩ hs4 hx fun w' σ' hk=>hK _ hk.bel) fun w4 hb=>?_
  (try simp only[↓M2,M2,Mb,reduceIte])
  exact h _ _ ((hS2.trans hk3).trans (Stp.of_below hk3.sat hb)))
end Go.Proofs.YtjdiakhipmggjaaGreatDoor

namespace Go.Emb
open Go.RowKit Go.Hm
variable {P : Program} {w w0 w1 w' w'' : World} {K : Value → World → Prop} {σ σ0 σ1 σ' : Q4}
theorem Sl.at {α:Type} {R:Q4→α→List Value→Prop} {sz:Nat} {v:Value} {xs:List α} (h:Sl sz R σ v xs) {i:Nat} (g:i<xs.length):
 ∃p cs,Z3 σ p cs∧cs.length=sz∧R σ xs[i] cs∧ ∀{P:Program} {t e:TypeId} {c:Nat} {z:Value} {w:World} {K:Value→World→Prop} [TS P t e] [TZ P e sz c z],K (.pointer (some p)) w→indexAddr P t v (I i) w K:=by
 obtain ⟨a,k,rfl,r,q,n,j⟩:=h
 cases a with
 | none=>have:=n rfl;omega
 | some b=>
  obtain ⟨cs,o,f,m⟩:=(j b rfl).2 i xs[i] (by simp[g])
  refine ⟨_,cs,o,f,m,?_⟩
  intro P t e c z w K _ _ d
  rw[Sw (by omega) (by omega)]
  simpa using d
abbrev ints (xs:List Nat):List Int:=xs.map fun n:Nat=>(n:Int)
theorem V2.grow {α:Type} {R:Q4→α→List Value→Prop} [hr:Rep R] {B sz:Nat} {e:TypeId} {v:Value} {xs:List α} (h:V2 B e sz R σ w v xs) (f:SLe σ σ') (a: ∀k,v.ownBlock=some k→σ' k=none):V2 B e sz R σ' w v xs:=by
 obtain ⟨cells,c,g,b⟩:=h
 exact ⟨cells,c,a,fun i x d=>hr.up f.le (b i x d)⟩
end Go.Emb
namespace Go.Proofs.YtjdiakhipmggjaaGreatDoor
open Go.Emb Go.RowKit Go.Kd Go.Hm
variable {w : World} {K : Value → World → Prop} {σ : Q4} {v : Value} {l : List Cla}
theorem Q58 {B i:Nat} {xs:List Nat} {x:Value} (o:J9 B T.d 1 Uj σ w x (ints xs)) (h:K (.bool (decide (i∈xs))) w):Q1 P F.ay [x,I i] w K:=Np (by
 unfold Qg
 have g:xs.length≤9223372036854775807:=by
  obtain ⟨a,r,_,m,p,_⟩:=o
  simp only[maxLen,ints,List.length_map] at p m;omega
 refine Dw ?_
 unfold Yw
 refine Am o ?_
 have f:(ints xs).length=xs.length:=by simp
 refine U3 xs.length (fun n w'=>w'=w∧i∉xs.take n) ⟨rfl,by simp⟩ fun n w' d u j=>?_
 obtain ⟨rfl,j⟩:=j
 rw[f]
 refine Z1 ?_
 refine Q5 (fun hh=>?_) (fun hh=>?_)
 ·have b:n<xs.length:=by simpa using hh
  refine Q3t o (by rw[f];exact b) fun a cs m p t=>?_
  obtain ⟨rfl,_⟩:=t
  have q:=m 0 _ rfl
  rw[add_zero] at q
  refine T7 q ?_
  simp only[List.getElem_map]
  refine Q39 ?_
  refine Q5 (fun c=>?_) (fun c=>?_)
  ·have e:(i:Int)=xs[n]:=by simpa using c
   have:i=xs[n]:=by omega
   have k:decide (i∈xs)=true:=decide_eq_true (by rw[this];exact List.getElem_mem b)
   rw[k] at h
   refine Xx ?_
   rw[decide_eq_true (by omega:(0:Int)≤n)]
   exact h
  ·have e: ¬(i:Int)=xs[n]:=by simpa using c
   refine M7 ?_
   refine Y3 g b ⟨rfl,?_⟩
   rw[List.take_add_one,List.getElem?_eq_getElem b]
   simp only[Option.toList_some,List.mem_append,List.mem_singleton,not_or]
   exact ⟨j,fun s=>e (by rw[s])⟩
 ·have b: ¬n<xs.length:=by simpa using hh
  rw[List.take_of_length_le (by omega)] at j
  rw[decide_eq_false j] at h
  refine Xx ?_
  exact h)
theorem X15 {w0:World} {σ0 σb:Q4} {pf pt pw:Addr} {E frm:Nat} (ha:Xv l) (ho:F2 l) (hl:l.length≤100000) (bl: ∀c∈l,K5 c) (hf:0<frm) (ht:Tab σb v l) (a4:Z3 σb pf [I frm]) (bz:Z3 σb pt [v])
 (bg:Z3 σb pw [.func (.func F.v) #[] #[.pointer (some pf), .pointer (some ⟨E,0,none⟩), .pointer (some pt), .pointer (some pw)]]) (bm:w0.heap.size≤E):
 ∀(k:Nat) {i:Nat} {b:List Nat} {x:Value} {w1:World} {σ1:Q4} {K:Value→World→Prop},i<l.length→(i<frm∨B2 l (Y0 l i)<k)→SLe σb σ1→Stp w0 σ0 w1 σ1→J0 σ1 w1 E [x]→V2 w0.heap.size T.d 1 Uj σ1 w1 x (ints b)→x.ownBlock≠some E→Tu l b→
  (∀w2 σ2 x',SLe σ1 σ2→Stp w0 σ0 w2 σ2→J0 σ2 w2 E [x']→V2 w0.heap.size T.d 1 Uj σ2 w2 x' (ints (A0 l frm b i))→x'.ownBlock≠some E→K (.tuple #[]) w2)→
  Y6 P (.func (.func F.v) #[] #[.pointer (some pf), .pointer (some ⟨E,0,none⟩), .pointer (some pt), .pointer (some pw)]) [I i] w1 K:=by
 obtain ⟨a,lv,r,m,rfl,t1,t2,t3,t4⟩:=ht.ex
 intro k
 induction k with
 | zero=>
  intro i b x w1 σ1 K hi hk X V hm o hx Z h
  have A:i<frm:=hk.resolve_right (by omega)
  refine Y8 (Jq ?_)
  unfold P1
  refine X8 V.sat (a4.lift X) rfl ?_
  refine Z1 ?_
  rw[decide_eq_true (by omega:(i:Int)<frm)]
  simp only[↓M2,M2,Mb,reduceIte]
  have:A0 l frm b i=b:=Qv _ _ A
  rw[this] at h
  exact h _ _ _ (SLe.refl _) V hm o hx
 | succ k ih=>
  intro i b x w1 σ1 K hi hk X V hm o hx Z h
  refine Y8 (Jq ?_)
  unfold P1
  refine X8 V.sat (a4.lift X) rfl ?_
  refine Z1 ?_
  have z:=Q5y ha ho hf b hi
  by_cases A:i<frm
  ·rw[decide_eq_true (by omega:(i:Int)<frm)]
   simp only[↓M2,M2,Mb,reduceIte]
   rw[if_pos A] at z
   rw[z] at h
   exact h _ _ _ (SLe.refl _) V hm o hx
  rw[if_neg A] at z
  rw[decide_eq_false (by omega: ¬(i:Int)<frm)]
  simp only[↓M2,M2,Mb,reduceIte]
  refine Q8x hm rfl ?_
  refine Q58 (J9.of_acc o) ?_
  by_cases O:i∈b
  ·rw[if_pos O] at z
   rw[z] at h
   simp only[decide_eq_true O,↓M2,M2,Mb,reduceIte]
   exact h _ _ _ (SLe.refl _) V hm o hx
  rw[if_neg O] at z
  simp only[decide_eq_false O,↓M2,M2,Mb,reduceIte]
  have db:B2 l (Y0 l i)<k+1:=hk.resolve_left A
  have t1:=t1.lift X
  have t2:=t2.lift X
  have t3:=t3.lift X
  have H:=bz.lift X
  obtain ⟨p,cs,ax,c9,b8,ba⟩:=t2.at hi
  obtain ⟨cb,fv,mv,rfl,f1,f2,f3,f4,f5⟩:=b8
  have a3:l.getD i Cla.zero=l[i]:=by rw[List.getD_eq_getElem?_getD,List.getElem?_eq_getElem hi];rfl
  have co:=hm.lt
  refine U6 V.sat ?_
  refine X2 (.pointer (some a)) (fun w f=>X8 f.sat H rfl (X5 rfl)) ?_
  refine X2 (.pointer (some a)) (fun t w f e=>by rw[e,L4];exact X5 rfl) ?_
  refine X2 (.pointer (some (a.add 0))) (fun t w f e=>by rw[e,fa];exact X5 rfl) ?_
  refine X2 lv (fun t w f e=>by rw[e];exact ld f.sat t1 rfl (X5 rfl)) ?_
  refine X2 (.pointer (some p)) (fun t w f e=>by rw[e];exact ba (X5 rfl)) ?_
  refine X2 (.pointer (some (p.add 1))) (fun t w f e=>by rw[e,fa];exact X5 rfl) ?_
  refine X2 (S l[i].super) (fun t w f e=>by rw[e];exact ld f.sat ax rfl (X5 rfl)) ?_
  refine N1 (fun u w=>X4 w σ1∧V2 w0.heap.size T.b 1 J6 σ1 w u [l[i].super]∧ ∀k,u.ownBlock=some k→w1.heap.size≤k) (fun u w2 w3 h f=>⟨h.1.below f,h.2.1.up (Stp.of_below h.1 f),h.2.2⟩) (fun t w f e=>?_) ?_
  ·rw[e]
   refine Xa (R:=J6) (sz:=1) (xs:=[l[i].super]) (V.trans f.stp) [S l[i].super] rfl rfl (by simp;rfl) rfl ⟨⟨rfl,f5⟩,trivial⟩ fun u w2 bd hu bu=>?_
   exact ⟨bd.bel,bd.sat,hu,fun k hk=>Nat.le_trans f.stp.bel.size (bu k hk)⟩
  refine X2 (.pointer (some a)) (fun w f=>X8 f.sat H rfl (X5 rfl)) ?_
  refine X2 (.pointer (some a)) (fun t w f e=>by rw[e,L4];exact X5 rfl) ?_
  refine X2 (.pointer (some (a.add 0))) (fun t w f e=>by rw[e,fa];exact X5 rfl) ?_
  refine X2 lv (fun t w f e=>by rw[e];exact ld f.sat t1 rfl (X5 rfl)) ?_
  refine X2 (.pointer (some p)) (fun t w f e=>by rw[e];exact ba (X5 rfl)) ?_
  refine X2 (.pointer (some (p.add 2))) (fun t w f e=>by rw[e,fa];exact X5 rfl) ?_
  refine X2 cb (fun t w f e=>by rw[e];exact ld f.sat ax rfl (X5 rfl)) ?_
  rintro c2 c8 de da ck df c4 ct dn cr cz dm c1 dh cn w2 U _ _ _ _ _ _ _ ⟨dj,b5,M⟩ _ _ _ _ _ _ b0
  subst b0
  have bq:=V.trans U.stp
  have bn:=(bl _ (List.getElem_mem hi)).1
  have a6: ∀j,x.ownBlock=some j→j<w1.heap.size:=fun j B=>(o.mem j B).2.1
  have br:=hm.step U.stp
  have ae:=o.step U.stp
  refine Oy bq b5 f1 rfl (by simp only[List.length_cons,List.length_nil];omega) (by simp only[List.length_cons,List.length_nil];omega) fun aq w3 a5 b1 b4 az=>?_
  have ab: ∀j,aq.ownBlock=some j→w1.heap.size≤j:=fun j B=>by
   rcases az with e | e
   ·exact M j (e▸B)
   ·exact Nat.le_trans U.stp.bel.size (e j B)
  have ar:=br.nx a5 fun e=>by have:=M _ e;omega
  have J:=ae.nx a5 fun j B e=>by have:=M _ e;have:=a6 j B;omega
  obtain ⟨σ4,b3,Q,a0,aa⟩:=b4.keep b1
  have Q:Sl 1 J6 σ4 aq (J3 l[i]):=Q
  have bi:J0 σ4 w3 E [x]:=⟨(aa E fun e=>by have:=ab E e.symm;omega).trans ar.1,ar.2⟩
  have ah:V2 w0.heap.size T.d 1 Uj σ4 w3 x (ints b):=J.grow ⟨a0⟩ fun j B=>(aa j fun e=>by have:=ab j e.symm;have:=a6 j B;omega).trans (J.mem j B).2.2
  have ay:SLe σ1 σ4:=⟨a0⟩
  refine Q9 Q ?_
  refine U3 (J3 l[i]).length (fun n w'=> ∃σ' x',SLe σ4 σ'∧Stp w0 σ0 w' σ'∧J0 σ' w' E [x']∧V2 w0.heap.size T.d 1 Uj σ' w' x' (ints (((J3 l[i]).take n).foldl (fun b u=>A0 l frm b ((Y2 l u).getD 0)) b))∧x'.ownBlock≠some E∧Tu l (((J3 l[i]).take n).foldl (fun b u=>A0 l frm b ((Y2 l u).getD 0)) b))
   ⟨σ4,x,SLe.refl _,b3,bi,ah,hx,Z⟩ fun n w5 d hn bc=>?_
  obtain ⟨σ5,x5,ac,W,Y,C,af,s⟩:=bc
  refine Z1 ?_
  have y:=ay.more ac
  refine Q5 (fun hh=>?_) (fun hh=>?_)
  ·have N:n<(J3 l[i]).length:=by simpa using hh
   refine Q48 (Q.lift ac) N fun q hq dg=>?_
   refine X8 W.sat hq rfl ?_
   have e1:((J3 l[i]).take (n+1)).foldl (fun b u=>A0 l frm b ((Y2 l u).getD 0)) b=A0 l frm (((J3 l[i]).take n).foldl (fun b u=>A0 l frm b ((Y2 l u).getD 0)) b) ((Y2 l (J3 l[i])[n]).getD 0):=by
    rw[List.take_add_one,List.getElem?_eq_getElem N,List.foldl_append];rfl
   refine U6 W.sat ?_
   refine X2 _ (fun w f=>X8 f.sat (bg.lift (X.more y)) rfl (X5 rfl)) ?_
   refine X2 (.pointer (some a)) (fun w f=>X8 f.sat (H.lift y) rfl (X5 rfl)) ?_
   refine X2 (.pointer (some a)) (fun t w f e=>by rw[e,L4];exact X5 rfl) ?_
   refine X2 (.pointer (some (a.add 1))) (fun t w f e=>by rw[e,fa];exact X5 rfl) ?_
   refine X2 (.map (some r)) (fun t w f e=>by rw[e];exact ld f.sat (t1.lift y) rfl (X5 rfl)) ?_
   refine X2 (I ((Y2 l (J3 l[i])[n]).getD 0:Nat)) (fun t w f e=>by
    rw[e,Q2P X9 ((t3.lift y).is f.sat) _,t4]
    cases Y2 l (J3 l[i])[n]<;>exact X5 rfl) ?_
   rintro cm di cl cp cw dc w6 aj rfl _ _ _ _ rfl
   have cx:l.length≤9223372036854775807:=by omega
   refine ih ?_ ?_ (X.more y) (W.trans aj.stp) (Y.step aj.stp) (C.step aj.stp) af s fun w7 σ7 x7 bh b6 bs ag bv=>?_
   ·cases B:Y2 l (J3 l[i])[n] with
    | none=>simp only[Option.getD_none];omega
    | some j=>exact (H6 B).1
   ·cases B:Y2 l (J3 l[i])[n] with
    | none=>exact .inl hf
    | some j=>
     right
     have:=Ao ha ho hi (u:=(J3 l[i])[n]) (by rw[a3];exact List.getElem_mem N) B
     simp only[Option.getD_some];omega
   ·refine M7 ?_
    refine Y3 (by have:(J3 l[i]).length=l[i].like.length+1:=rfl;omega) N ⟨σ7,x7,ac.more bh,b6,bs,?_,bv,?_⟩
    ·rw[e1];exact ag
    ·rw[e1]
     cases B:Y2 l (J3 l[i])[n] with
     | none=>simp only[Option.getD_none];rw[show A0 l frm _ 0=_ from Qv _ _ hf];exact s
     | some j=>exact Bj ha ho hf _ _ _ (H6 B).1 s
  ·have N: ¬n<(J3 l[i]).length:=by simpa using hh
   rw[List.take_of_length_le (by omega)] at C s
   rw[a3] at z
   refine Q8x Y rfl ?_
   have cy:=s.len
   refine Zb (x:=(i:Int)) W C ⟨rfl,by omega,by omega⟩ rfl rfl rfl (by rw[List.length_map];omega) (by rw[List.length_map];omega) fun u x8 w8 σ8 a1 b7 L bb=>?_
   have a9:=Y.nx a1 af
   have av:x8.ownBlock≠some E:=fun e=>by
    rcases bb with e2 | e2
    ·exact af (e2▸e)
    ·have:=e2 E e;have:=Y.lt;omega
   have a8:x8.cells= #[x8]∧x8.oneCell'=true:=by
    obtain ⟨cells,h1,_⟩:=L
    rcases h1.2 with ⟨rfl,_⟩ | ⟨g,c6,dd,rfl,_⟩<;>exact ⟨rfl,rfl⟩
   refine st0 a9 (by simp) a8.1 a8.2 fun w9 aw ca=>?_
   have bk:=aw.stp b7 bm a9.1
   have ad:V2 w0.heap.size T.d 1 Uj σ8 w9 x8 (ints (A0 l frm b i)):=by
    rw[z]
    have:=L.kp (Kpt.of_upd (D:=fun k=>k=E) aw rfl) fun k hk e=>av (e▸hk)
    simpa [ints] using this
   exact h w9 σ8 x8 (y.more a1.le) bk ca ad av
theorem X01 {frm:Nat} (hs:X4 w σ) (ht:Tab σ v l) (ha:Xv l) (ho:F2 l) (hl:l.length≤100000) (ae: ∀c∈l,K5 c) (hf:0<frm) (ap:frm≤l.length) (h: ∀v' w' σ',Stp w σ w' σ'→Sl 1 Uj σ' v' (ints (U7 l frm))→(U7 l frm).length≤l.length→(∀y∈U7 l frm,y<l.length)→K v' w'):Q1 P F.b8 [v,I frm] w K:=Bt (by
 unfold Vl
 have ab:=ht
 obtain ⟨a,lv,r,m,rfl,t1,t2,t3,t4⟩:=ht.ex
 refine J4 hs rfl fun pt w1 σ1 t aq=>?_
 refine J4 t.sat rfl fun pf w2 σ2 p X=>?_
 refine C5 p.sat fun E w3 σ3 ag o Q=>?_
 refine C5 o.sat fun bw w4 σ4 am s M=>?_
 rw[Qb]
 have R:=Q.step s
 have a1:=Q.lt
 have O:=((t.trans p).trans o).trans s
 have U:w.heap.size≤E:=C2 ag (t.trans p)
 have B:w.heap.size≤bw:=C2 am ((t.trans p).trans o)
 refine st0 M (by simp[Value.cells]) rfl rfl fun w5 V al=>?_
 have af:=V.stp O B M.1
 have A:=R.upd V (by omega)
 obtain ⟨H,J,L,k,N⟩:=al.keep af B
 have ah:J0 H w5 E [.slice none 0 0]:=⟨(N E (by omega)).trans A.1,A.2⟩
 have k:SLe σ4 H:=⟨k⟩
 have z:=((X.up o).up s).lift k
 have u:=(((aq.up p).up o).up s).lift k
 have f:SLe σ H:=SLe.more ⟨O.le⟩ k
 have t1:=t1.lift f
 have t2:=t2.lift f
 refine X8 J.sat z rfl ?_
 have a6:(List.range l.length).length=l.length:=List.length_range
 have hz:([Value.nilFunc].set 0 (Value.func (Fn.func F.v) #[] #[.pointer (some pf), .pointer (some ⟨E,0,none⟩), .pointer (some pt), .pointer (some ⟨bw,0,none⟩)]))=[Value.func (Fn.func F.v) #[] #[.pointer (some pf), .pointer (some ⟨E,0,none⟩), .pointer (some pt), .pointer (some ⟨bw,0,none⟩)]]:=rfl
 refine Ak (fun d x w'=> ∃(i:Nat) (σ':Q4) (x':Value),x=I i∧frm≤i∧i≤l.length∧d=l.length-i∧SLe H σ'∧Stp w σ w' σ'∧J0 σ' w' E [x']∧V2 w.heap.size T.d 1 Uj σ' w' x' (ints (((List.range i).drop frm).foldl (fun e i=>A0 l frm e i) []))∧x'.ownBlock≠some E∧Tu l (((List.range i).drop frm).foldl (fun e i=>A0 l frm e i) [])) _
  ⟨frm,H, .slice none 0 0,rfl,Nat.le_refl _,ap,rfl,SLe.refl _,J,ah,by rw[List.drop_eq_nil_of_le (by simp)];exact V2.nil,by simp[Value.ownBlock],by rw[List.drop_eq_nil_of_le (by simp)];exact ⟨by simp,by simp⟩⟩ ?_
 rintro an d x dd w7 ⟨i,σ7,x7,rfl,a8,bb,rfl,g,n,W,j,ao,b⟩ Y
 refine X8 n.sat (u.lift g) rfl ?_
 rw[L4,fa]
 refine ld n.sat (t1.lift g) rfl ?_
 refine Q9 (t2.lift g) ?_
 refine Z1 ?_
 refine Q5 (fun hh=>?_) (fun hh=>?_)
 ·have q:i<l.length:=by simpa using hh
  refine X8 n.sat (L.lift g) rfl ?_
  refine X15 (w0:=w) (σ0:=σ) (σb:=H) ha ho hl ae hf (ab.lift f) z u L U (B2 l (Y0 l i)+1) q (.inr (Nat.lt_succ_self _)) g n W j ao b fun w8 σ8 x8 ar D ak C aj=>?_
  refine Uq ⟨by omega,by omega⟩ ?_
  have e1:((List.range (i+1)).drop frm).foldl (fun e i=>A0 l frm e i) []=A0 l frm (((List.range i).drop frm).foldl (fun e i=>A0 l frm e i) []) i:=by
   rw[List.range_succ,List.drop_append_of_le_length (by simp;omega),List.foldl_append];rfl
  refine Y _ _ _ (by omega:l.length-(i+1)<l.length-i) ⟨i+1,σ8,x8,by simp,by omega,by omega,rfl,g.more ar,D,ak,?_,aj,?_⟩
  ·rw[e1];exact C
  ·rw[e1];exact Bj ha ho hf _ _ _ q b
 ·have q:i=l.length:=by
   have: ¬i<l.length:=by simpa using hh
   omega
  subst q
  refine Q8x W rfl ?_
  obtain ⟨σ8,D,Z,_,_⟩:=j.keep n
  exact h _ _ _ D Z b.len b.2)
end Go.Proofs.YtjdiakhipmggjaaGreatDoor

namespace Go.Hm
open Go.Kd
theorem Q4G (x:X0) (r:List X0):M8 (x::r)=x++Lib.joinTail [44] r:=by
 induction r generalizing x with
 | nil=>simp[M8,Lib.joinTail]
 | cons y r a=>
  simp only[M8]
  rw[a y]
  simp[Lib.joinTail]
theorem Q0e (xs:List X0):Lib.join xs [44]=M8 xs:=by
 cases xs with
 | nil=>rfl
 | cons x r=>rw[Lib.join_cons,Q4G]
theorem Ov: ∀xs:List X0,(∀x∈xs,x.length≤100)→(M8 xs).length≤xs.length*101
 | [],_=>by simp[M8]
 | [a],h=>by have:=h a (by simp);simp[M8];omega
 | a::b::r,h=>by
  have d:=h a (by simp)
  have e:=Ov (b::r) fun x c=>h x (by simp[c])
  simp only[M8,List.length_append,List.length_cons,List.length_nil,Nat.add_mul] at*
  omega
def NmM (m:Hm.Met):Prop:=m.result.length≤100∧ ∀p∈m.params,p.length≤100
end Go.Hm
namespace Go.Proofs.YtjdiakhipmggjaaGreatDoor
open Go.Emb Go.RowKit Go.Kd Go.Hm
variable {w : World} {K : Value → World → Prop} {σ : Q4} {v : Value} {l : List Cla}
theorem X0f {xs:List X0} {pv:Value} (E:X4 w σ) (C:Sl 1 J6 σ pv xs) (A:xs.length≤1000000) (M: ∀x∈xs,x.length≤100) (h: ∀w',Below w.heap.size w w'→K (S (M8 xs)) w'):Q1 P F.cu [pv,S [44]] w K:=by
 obtain ⟨a,k,rfl,N,U,J,D⟩:=C
 have t:=Ov xs M
 have z:xs.length*101≤1000000*101:=Nat.mul_le_mul_right _ A
 cases a with
 | none=>
  have O:=J rfl
  have d:xs=[]:=List.eq_nil_of_length_eq_zero (by omega)
  subst d
  refine Ul (fn:=Tryz.f143) Tryz.func143 (by kernel_rfl) (by kernel_rfl) (Calls.mono (Tryz.strings_Join_none none k ⟨[44].toArray⟩ w) ?_)
  rintro e w' ⟨rfl,rfl⟩
  exact h _ (Below.refl _ _)
 | some b=>
  obtain ⟨f,p⟩:=D b rfl
  by_cases d:xs=[]
  ·subst d
   refine Ul (fn:=Tryz.f143) Tryz.func143 (by kernel_rfl) (by kernel_rfl) (Calls.mono (Tryz.strings_Join_none (some b) k ⟨[44].toArray⟩ w) ?_)
   rintro e w' ⟨rfl,rfl⟩
   exact h _ (Below.refl _ _)
  have f:=f (List.length_pos_iff.2 d)
  obtain ⟨n,o,R⟩:=b
  simp only at f
  subst f
  have c: ∀(j:Nat) (x:ByteArray),(xs.map fun s=>(⟨s.toArray⟩:ByteArray))[j]? =some x→w.cell? ⟨n,o+j,none⟩=some (.string x):=by
   intro j x m
   rw[List.getElem?_map] at m
   cases g:xs[j]? with
   | none=>rw[g] at m;cases m
   | some s=>
    rw[g] at m
    cases m
    obtain ⟨cs,L,Q,H⟩:=p j s g
    obtain ⟨rfl,_⟩:=H
    have:=L.cell E (i:=0) (v:=S s) rfl
    rw[add_zero] at this
    have e:(⟨n,o,none⟩:Addr).add (j*1)=⟨n,o+j,none⟩:=by unfold Addr.add;split<;>simp_all
    rw[e] at this;exact this
  have q:n<w.heap.size:=by
   obtain ⟨x,r,rfl⟩: ∃x r,xs=x::r:=by cases xs with | nil=>exact absurd rfl d | cons x r=>exact ⟨x,r,rfl⟩
   have:=c 0 ⟨x.toArray⟩ (by simp)
   exact World.block_lt_of_cell? _ _ this
  have u:(xs.map fun s=>(⟨s.toArray⟩:ByteArray)).map (·.data.toList)=xs:=by rw[List.map_map];simp[Function.comp_def]
  have y:=Tryz.strings_Join n o k (xs.map fun s=>(⟨s.toArray⟩:ByteArray)) ⟨[44].toArray⟩ w c q (by rw[List.length_map];omega) (by rw[List.length_map];exact N) (by rw[u];show (Lib.join xs [44]).length≤_;rw[Q0e];omega)
  rw[u,List.length_map] at y
  refine Ul (fn:=Tryz.f143) Tryz.func143 (by kernel_rfl) (by kernel_rfl) (Calls.mono y ?_)
  rintro e w' ⟨rfl,B⟩
  have:=h w' B
  rw[←Q0e] at this
  exact this
theorem Q7d {m:Hm.Met} {cs:List Value} (q:X4 w σ) (n:L9 σ m cs) (d:SmM m) (i:NmM m) (h: ∀w' p,Stp w σ w' p→K (S (K9 m)) w'):Q1 P F.bV [.agg cs.toArray] w K:=Q3v (by
 obtain ⟨pv,s,A,rfl,r,y,J,D,B,O⟩:=n
 unfold Pj
 refine Y9 q fun a w1 σ1 c k=>?_
 have o:=Ov m.params i.2
 have j:m.params.length*101≤1000000*101:=Nat.mul_le_mul_right _ d.1
 refine U6 c.sat ?_
 refine X2 (.pointer (some (a.add 1))) (fun w b=>by rw[fa];exact X5 rfl) ?_
 refine X2 (.pointer (some (a.add 2))) (fun w b=>by rw[fa];exact X5 rfl) ?_
 refine X2 pv (fun t w b e=>by rw[e];exact ld b.sat k rfl (X5 rfl)) ?_
 refine X2 (S (M8 m.params)) (fun t w b e=>by rw[e];exact X0f b.sat (r.up c) d.1 i.2 fun w' f=>Q1t f rfl) ?_
 refine X2 (S ([40]++M8 m.params)) (fun t w b e=>by rw[e];exact Hx (by simp only[List.length_cons,List.length_nil];omega) (X5 rfl)) ?_
 refine X2 (S ([40]++M8 m.params++[41])) (fun t w b e=>by rw[e];exact Hx (by simp only[List.length_append,List.length_cons,List.length_nil];omega) (X5 rfl)) ?_
 refine X2 (S m.result) (fun t w b e=>by rw[e];exact ld b.sat k rfl (X5 rfl)) ?_
 rintro N u M L C E z H g _ _ _ _ _ rfl rfl
 have:=i.1
 refine Hx (by simp only[List.length_append,List.length_cons,List.length_nil];omega) ?_
 exact h _ _ (c.trans g.stp))
end Go.Proofs.YtjdiakhipmggjaaGreatDoor

namespace Go.Emb
open Go.RowKit Go.Hm
variable {P : Program} {w w0 w1 w' w'' : World} {K : Value → World → Prop} {σ σ0 σ1 σ' : Q4}
theorem Bz {α:Type} (f:α→α) (e:α): ∀l:List α,(l++[e]).modify l.length f=l++[f e]
 | []=>rfl
 | x::r=>by simp[Bz f e r]
theorem Kx (k:List UInt8) (e:MapEntry) (b:e.key=S k): ∀(a:List MapEntry) (i:Nat),Instr.findNow .string (S k) a i=some none→Instr.findNow .string (S k) (a++[e]) i=some (some (i+a.length,e.val))
 | [],i,_=>by
  simp[Instr.findNow,b,Instr.sameNow,Na]
 | x::r,i,h=>by
  simp only[Instr.findNow,List.cons_append] at h⊢
  split at h
  ·cases h
  ·rename_i c
   rw[Kx k e b r (i+1) h]
   simp;omega
  ·cases h
theorem Q0s (k:List UInt8) (u:Value): ∀(b:List MapEntry) (i j:Nat) (v:Value),Instr.findNow .string (S k) b i=some (some (j,v))→i≤j∧j-i<b.length∧Instr.findNow .string (S k) (b.modify (j-i) fun e=>{e with val:=u}) i=some (some (j,u))
 | [],i,j,v,h=>by simp[Instr.findNow] at h
 | x::r,i,j,v,h=>by
  simp only[Instr.findNow] at h
  split at h
  ·rename_i a
   cases h
   refine ⟨Nat.le_refl _,by simp,?_⟩
   simp only[Nat.sub_self,List.modify_zero_cons,Instr.findNow,a]
  ·rename_i a
   obtain ⟨d,f,c⟩:=Q0s k u r (i+1) j v h
   refine ⟨by omega,by simp;omega,?_⟩
   rw[show j-i=(j-(i+1))+1 by omega]
   simp only[List.modify_succ_cons,Instr.findNow,a]
   exact c
  ·cases h
theorem Jf {t o s:TypeId} [tm:TM P t o s] (n:P.underlying o=some .string) {r:Nat} {b:Array MapEntry} {a:Nat} {k:List UInt8} {i:Nat} {v:Value} {e:MapEntry} (p:w.heap[r]? =some (.map b a))
 (u:Instr.findNow .string (S k) b.toList 0=some (some (i,v))) (m:b[i]? =some e) (l:e.key=S k):
 (Instr.mapEntry t (.map (some r)) (S k)).run P w= .ok (.tuple #[v,goInt e.born]) {w with heap:=w.heap.setIfInBounds r (.map b a)}:=by
 have q:(getObj r).run P w= .ok (.map b a) w:=by simp[getObj,Sem.run,p]
 have c:(Instr.keyThatStays (S k) (S k)).run P w= .ok (S k) w:=by
  simp[Instr.keyThatStays,Instr.sameBits,Na]
 have f:(b.modify i fun e=>{e with key:=S k})=b:=by
  apply Array.ext'
  apply List.ext_getElem?
  intro j
  simp only[Array.toList_modify,List.getElem?_modify]
  by_cases g:i=j
  ·subst g
   rw[Array.getElem?_toList,m]
   simp[←l]
  ·cases b.toList[j]? <;>simp[g]
 have d:(setObj r (.map b a)).run P w= .ok () {w with heap:=w.heap.setIfInBounds r (.map b a)}:=by
  simp[setObj,Sem.run,p]
 simp only[Instr.mapEntry,Sem.run_bind,run_underlying tm.h,Result.andThen_ok,Instr.findKey,run_underlying n,u,S4 n,q,Sem.run_pure]
 simp only[m,Option.map_some,Option.getD_some,l,c,Result.andThen_ok,f,d]
theorem Q0P {r:Nat} {o:Obj} (h:w.heap[r]? =some o):({w with heap:=w.heap.setIfInBounds r o}:World)=w:=by
 have:w.heap.setIfInBounds r o=w.heap:=by
  apply Array.ext'
  apply List.ext_getElem?
  intro j
  simp only[Array.toList_setIfInBounds,List.getElem?_set]
  by_cases a:r=j
  ·subst a
   rw[if_pos rfl]
   have:=h
   rw[←Array.getElem?_toList] at this
   rw[this,if_pos (by have:=(Array.getElem?_eq_some_iff.1 h).1;simpa using this)]
  ·rw[if_neg a]
 rw[this]
theorem Q1W {r:Nat} {o a:Obj} (h:w.heap[r]? =some a):Upd w r {w with heap:=w.heap.setIfInBounds r o}∧({w with heap:=w.heap.setIfInBounds r o}:World).heap[r]? =some o:=by
 have b:=(Array.getElem?_eq_some_iff.1 h).1
 exact ⟨⟨rfl,rfl,rfl,by simp,fun k c=>by simp only[Array.getElem?_setIfInBounds];rw[if_neg (by omega)]⟩,by simp[Array.getElem?_setIfInBounds,b]⟩
structure Ent3 (P : Program) (t : TypeId) (r : Nat) (k : List UInt8) (u : Value) (m : List (List UInt8 × Value)) (O0 O1 O2 : Obj) (stamp : Nat) : Prop where
  same : O0 = O2 → O1 = O0
  put : M4 (some O2) (Uk m k u)
  entry : ∀ {w : World} {K : Value → World → Prop}, (w.heap[r]? = some O0 ∨ w.heap[r]? = some O1 ∨ w.heap[r]? = some O2) → (∀ x w', Upd w r w' → (w.heap[r]? = some O0 → w'.heap[r]? = some O1) → (w.heap[r]? ≠ some O0 → w'.heap[r]? = w.heap[r]?) → K (.tuple #[x, I stamp]) w') → mapEntry P t (.map (some r)) (S k) w K
  store : ∀ {w : World} {K : Value → World → Prop}, (w.heap[r]? = some O1 ∨ w.heap[r]? = some O2) → (∀ w', Upd w r w' → w'.heap[r]? = some O2 → K undef w') → entryStore P t (.map (some r)) (I stamp) u w K
theorem X1z {t kt et:TypeId} {aq:Nat} {z:Value} [tm:TM P t kt et] [tz:TZ P et 1 aq z] (U:P.underlying kt=some .string) {r:Nat} {m:List (List UInt8×Value)} (hm:M4 (w.heap[r]?) m) (k:List UInt8) (u:Value):
 ∃V O1 O2 A,w.heap[r]? =some V∧Ent3 P t r k u m V O1 O2 A:=by
 obtain ⟨q,g,h1,h2,h3,h4⟩:=hm
 obtain ⟨r',Z,q2,q3,q4⟩:=Ho k q.toList m 0 h2
 -- the array behind it, the place, the stamp
 have Q: ∀(f:Array MapEntry) (d i:Nat) (s:MapEntry) (v1:Value),Instr.findNow .string (S k) f.toList 0=some (some (i,v1))→f[i]? =some s→s.key=S k→(f.toList.map (·.born)).Pairwise (· < ·)→
  (Obj.map q g= .map (f.modify i fun e=>{e with val:=u}) d→Obj.map f d=Obj.map q g)→M4 (some (.map (f.modify i fun e=>{e with val:=u}) d)) (Uk m k u)→
  (∀{w:World},w.heap[r]? =some (.map q g)→ ∃x,(Instr.mapEntry t (.map (some r)) (S k)).run P w= .ok (.tuple #[x,I s.born]) {w with heap:=w.heap.setIfInBounds r (.map f d)})→
  ∃V O1 O2 A,w.heap[r]? =some V∧Ent3 P t r k u m V O1 O2 A:=by
  intro f d i s v1 f1 f2 f3 f4 f5 f6 f7
  obtain ⟨_,J,f8⟩:=Q0s k u f.toList 0 i v1 f1
  simp only[Nat.sub_zero] at J f8
  have a4:i<f.size:=by simpa using J
  have f9:(f.modify i fun e=>{e with val:=u})[i]? =some {s with val:=u}:=by
   rw[Array.getElem?_modify,if_pos rfl,f2];rfl
  have aw:Instr.findNow .string (S k) (f.modify i fun e=>{e with val:=u}).toList 0=some (some (i,u)):=by
   rw[Array.toList_modify];exact f8
  have L: ∀(l:Array MapEntry),l.toList.map (·.born)=f.toList.map (·.born)→l.findIdx? (fun e=>(e.born:Int)==s.born)=some i:=by
   intro l D
   obtain ⟨le⟩:=l
   have e0:(Array.mk le).findIdx? (fun e=>(e.born:Int)==s.born)=le.findIdx? (fun e=>(e.born:Int)==s.born):=List.findIdx?_toArray ..
   rw[e0,List.findIdx?_eq_some_iff_getElem]
   generalize R:(Array.mk le)=l at*
   have ag:le=l.toList:=by rw[←R]
   subst ag
   have a2:l.toList.length=f.toList.length:=by have:=congrArg List.length D;simpa using this
   have W: ∀j (hj:j<l.toList.length),(l.toList[j]).born=(f.toList[j]'(by omega)).born:=fun j hj=>by
    have h5:(l.toList.map (·.born))[j]? =(f.toList.map (·.born))[j]? :=by rw[D]
    rw[List.getElem?_map,List.getElem?_map,List.getElem?_eq_getElem hj,List.getElem?_eq_getElem (by omega)] at h5
    simpa using h5
   have O:f.toList[i]=s:=by
    have:=f2
    rw[←Array.getElem?_toList,List.getElem?_eq_getElem J] at this
    simpa using this
   refine ⟨by omega,by rw[W i (by omega),O];simp,fun j hj=>?_⟩
   have aj:j<f.toList.length:=by omega
   have:=(List.pairwise_iff_getElem.1 f4) j i (by simpa using aj) (by simpa using J) hj
   simp only[List.getElem_map] at this
   rw[W j (by omega)]
   rw[O] at this
   simp only[beq_iff_eq];omega
  have H:(f.modify i fun e=>{e with val:=u}).toList.map (·.born)=f.toList.map (·.born):=by
   apply List.ext_getElem?
   intro j
   simp only[Array.toList_modify,List.getElem?_map,List.getElem?_modify]
   by_cases M:i=j<;>cases f.toList[j]? <;>simp[M]
  have ai:(f.modify i fun e=>{e with val:=u}).modify i (fun e=>{e with val:=u})=f.modify i fun e=>{e with val:=u}:=by
   apply Array.ext'
   apply List.ext_getElem?
   intro j
   simp only[Array.toList_modify,List.getElem?_modify]
   by_cases M:i=j<;>cases f.toList[j]? <;>simp[M]
  have B: ∀(l:Array MapEntry) {w:World},l.toList.map (·.born)=f.toList.map (·.born)→w.heap[r]? =some (.map l d)→(Instr.entryStore t (.map (some r)) (I s.born) u).run P w= .ok () {w with heap:=w.heap.setIfInBounds r (.map (l.modify i fun e=>{e with val:=u}) d)}:=by
   intro l w D hw
   have hg:(getObj r).run P w= .ok (.map l d) w:=by simp[getObj,Sem.run,hw]
   have E: ∀o,(setObj r (.map o d)).run P w= .ok () {w with heap:=w.heap.setIfInBounds r (.map o d)}:=by
    intro o;simp[setObj,Sem.run,hw]
   simp only[Instr.entryStore,Sem.run_bind,hg,Result.andThen_ok,asInt,Sem.run_pure,asIntOf,L l D,E]
  refine ⟨.map q g, .map f d, .map (f.modify i fun e=>{e with val:=u}) d,s.born,h1,f5,f6,?_,?_⟩
  ·intro w K hw N
   unfold mapEntry
   rcases hw with hw | hw | hw
   ·obtain ⟨x,hx⟩:=f7 hw
    rw[X7 hx]
    obtain ⟨u1,u2⟩:=Q1W (o:= .map f d) hw
    exact N x _ u1 (fun _=>u2) fun h=>absurd hw h
   ·have:=Jf (P:=P) (t:=t) U hw f1 f2 f3
    rw[Q0P hw] at this
    rw[X7 this]
    refine N _ w ⟨rfl,rfl,rfl,rfl,fun _ _=>rfl⟩ (fun h0=>?_) fun _=>rfl
    exact hw
   ·have:=Jf (P:=P) (t:=t) U hw aw f9 f3
    rw[Q0P hw] at this
    rw[X7 this]
    refine N _ w ⟨rfl,rfl,rfl,rfl,fun _ _=>rfl⟩ (fun h0=>?_) fun _=>rfl
    rw[h0] at hw
    cases hw
    rw[h0,f5 rfl]
  ·intro w K hw N
   unfold entryStore
   rcases hw with hw | hw
   ·rw[Mn (B f rfl hw)]
    obtain ⟨u1,u2⟩:=Q1W (o:= .map (f.modify i fun e=>{e with val:=u}) d) hw
    exact N _ u1 u2
   ·have:=B _ H hw
    rw[ai,Q0P hw] at this
    rw[Mn this]
    exact N _ ⟨rfl,rfl,rfl,rfl,fun _ _=>rfl⟩ hw
 cases r' with
 | none=>
  obtain ⟨i,hi,be,bg,ao⟩:=tz.info
  have hz: ∀w:World,(zeroValue et).run P w= .ok z w:=fun w=>Xh tz w
  refine Q (q.push {key:=S k,val:=z,born:=g}) (g+1) q.size {key:=S k,val:=z,born:=g} z ?_ (by simp) rfl ?_ ?_ ?_ ?_
  ·have:=Kx k {key:=S k,val:=z,born:=g} rfl q.toList 0 Z
   simpa using this
  ·simp only[Array.toList_push,List.map_append,List.map_cons,List.map_nil]
   rw[List.pairwise_append]
   refine ⟨h3,by simp,?_⟩
   intro a ha b D
   simp at D;subst D
   obtain ⟨e,he,rfl⟩:=List.mem_map.1 ha
   exact h4 e he
  ·intro e
   injection e with s Y
   omega
  ·refine ⟨_,_,rfl,?_,?_,?_⟩
   ·rw[q4 rfl]
    simp only[Array.toList_modify,Array.toList_push]
    rw[←Array.length_toList,Bz]
    simp[h2]
   ·have:((q.push {key:=S k,val:=z,born:=g}).modify q.size fun e=>{e with val:=u}).toList.map (·.born)=q.toList.map (·.born)++[g]:=by
     simp only[Array.toList_modify,Array.toList_push]
     rw[←Array.length_toList,Bz]
     simp
    rw[this,List.pairwise_append]
    refine ⟨h3,by simp,?_⟩
    intro a ha b D
    simp at D;subst D
    obtain ⟨e,he,rfl⟩:=List.mem_map.1 ha
    exact h4 e he
   ·intro e he
    simp only[Array.toList_modify,Array.toList_push] at he
    rw[←Array.length_toList,Bz] at he
    rcases List.mem_append.1 he with he | he
    ·have:=h4 e he;omega
    ·simp at he;subst he;simp
  ·intro w hw
   have hg:(getObj r).run P w= .ok (.map q g) w:=by simp[getObj,Sem.run,hw]
   have E: ∀o c,(setObj r (.map o c)).run P w= .ok () {w with heap:=w.heap.setIfInBounds r (.map o c)}:=by
    intro o c;simp[setObj,Sem.run,hw]
   refine ⟨z,?_⟩
   simp only[Instr.mapEntry,Sem.run_bind,run_underlying tm.h,Result.andThen_ok,Instr.findKey,run_underlying U,Z,S4 U,hg,Sem.run_pure,hz,E]
   rfl
 | some p=>
  obtain ⟨j,v⟩:=p
  obtain ⟨z1,z2,z3⟩:=q3 j v rfl
  obtain ⟨e,s,Y⟩:=z2
  simp only[Nat.sub_zero] at s z3
  have X:q[j]? =some e:=by rw[←Array.getElem?_toList];exact s
  refine Q q g j e v Z X Y h3 (fun _=>rfl) ?_ fun hw=>⟨v,Jf U hw Z X Y⟩
  refine ⟨_,_,rfl,?_,?_,?_⟩
  ·have:=z3 u
   rw[←this,Array.toList_modify]
   congr 1
   apply List.ext_getElem?
   intro n
   simp only[List.getElem?_modify]
   by_cases C:j=n
   ·subst C;rw[s];simp[Y]
   ·simp[C]
  ·have:(q.modify j fun e=>{e with val:=u}).toList.map (·.born)=q.toList.map (·.born):=by
    apply List.ext_getElem?
    intro n
    simp only[Array.toList_modify,List.getElem?_map,List.getElem?_modify]
    by_cases C:j=n<;>cases q.toList[n]? <;>simp[C]
   rw[this];exact h3
  ·intro x hx
   have:x.born∈(q.modify j fun e=>{e with val:=u}).toList.map (·.born):=List.mem_map.2 ⟨x,hx,rfl⟩
   have D:(q.modify j fun e=>{e with val:=u}).toList.map (·.born)=q.toList.map (·.born):=by
    apply List.ext_getElem?
    intro n
    simp only[Array.toList_modify,List.getElem?_map,List.getElem?_modify]
    by_cases C:j=n<;>cases q.toList[n]? <;>simp[C]
   rw[D] at this
   obtain ⟨y,hy,e⟩:=List.mem_map.1 this
   rw[←e];exact h4 y hy
end Go.Emb

namespace Go.Hm
open Go.Kd Go.Emb
abbrev E9:=List (X0×X0)
def E2:E9→X0→Option X0
 | [],_=>none
 | p::r,k=>if p.1=k then some p.2 else E2 r k
def Di:E9→X0→X0→E9
 | [],k,v=>[(k,v)]
 | p::r,k,v=>if p.1=k then (k,v)::r else p::Di r k v
def vals (m:E9):List (List UInt8×Value):=m.map fun p=>(p.1,S p.2)
theorem Q7z (m:E9) (k:X0):E5 (vals m) k=(E2 m k).map S:=by
 induction m with
 | nil=>rfl
 | cons p r a=>
  simp only[vals,List.map_cons,E5,E2]
  split
  ·rfl
  ·exact a
theorem Q49 (m:E9) (k v:X0):Uk (vals m) k (S v)=vals (Di m k v):=by
 induction m with
 | nil=>rfl
 | cons p r a=>
  simp only[vals,List.map_cons,Uk,Di]
  split
  ·rfl
  ·rw[List.map_cons];congr 1
theorem Tw (m:E9) (k v n:X0):E2 (Di m k v) n=if k=n then some v else E2 m n:=by
 induction m with
 | nil=>simp[Di,E2]
 | cons p r b=>
  simp only[Di]
  by_cases h:p.1=k
  ·rw[if_pos h]
   simp only[E2]
   by_cases a:k=n
   ·simp[a]
   ·rw[if_neg a,if_neg a,if_neg (by rw[h];exact a)]
  ·rw[if_neg h]
   simp only[E2]
   by_cases a:p.1=n
   ·rw[if_pos a,if_pos a,if_neg (by intro e;exact h (a.trans e.symm))]
   ·rw[if_neg a,if_neg a];exact b
def Je (d:X0) (s:E9×E9) (m:Hm.Met):Bool×(E9×E9):=
 ((match E2 s.1 m.name with | some x=> !decide (x=K9 m) | none=>false),(Di s.1 m.name (K9 m),Di s.2 m.name d))
end Go.Hm
namespace Go.Emb
open Go.RowKit Go.Hm
theorem M4.of_below {w w':World} {r:Nat} {m:List (List UInt8×Value)} (h:M4 (w.heap[r]?) m) (c:Below w.heap.size w w'):M4 (w'.heap[r]?) m:=by
 obtain ⟨e,a,b,d⟩:=h
 rw[c.block r (Array.getElem?_eq_some_iff.1 b).1]
 exact ⟨e,a,b,d⟩
theorem Q7S {P:Program} {w:World} {K:Value→World→Prop} {t b c:TypeId} {sz a:Nat} {z:Value} [tm:TM P t b c] [tz:TZ P c sz a z] (d:P.underlying b=some .string) {r:Nat} {m:List (List UInt8×Value)} (f:M4 (w.heap[r]?) m) (k:List UInt8)
 (h:K (.tuple #[(E5 m k).getD z, .bool (E5 m k).isSome]) w):lookup P t (.map (some r)) (S k) true w K:=by
 rw[Q0S d f k];cases e:E5 m k<;>rw[e] at h<;>exact h
theorem M4.lt {w:World} {r:Nat} {m:List (List UInt8×Value)} (h:M4 (w.heap[r]?) m):r<w.heap.size:=by
 obtain ⟨d,a,b,c⟩:=h
 exact (Array.getElem?_eq_some_iff.1 b).1
end Go.Emb
namespace Go.Proofs.YtjdiakhipmggjaaGreatDoor
open Go.Emb Go.RowKit Go.Kd Go.Hm
variable {w : World} {K : Value → World → Prop} {σ : Q4} {v : Value} {l : List Cla}
theorem X1s {m:Hm.Met} {cs ds:List Value} {pa pb q:Addr} {b o:Nat} {s:E9×E9} {d:X0} (hs:X4 w σ) (hm:L9 σ m cs) (V:SmM m) (hn:NmM m) (ab:Z3 σ pa [.map (some b)]) (ah:Z3 σ pb [.map (some o)]) (hq:Z3 σ q (S d::ds))
 (aj:σ b=none) (al:σ o=none) (Q:b≠o) (p:M4 (w.heap[b]?) (vals s.1)) (r:M4 (w.heap[o]?) (vals s.2))
 (h: ∀w',Kpt (fun k=>k=b∨k=o) w w'→M4 (w'.heap[b]?) (vals (Je d s m).2.1)→M4 (w'.heap[o]?) (vals (Je d s m).2.2)→K (.bool (Je d s m).1) w'):
 Q1 P F.az [.agg cs.toArray, .pointer (some pa), .pointer (some q), .pointer (some pb)] w K:=Oc (by
 have R:=hm
 obtain ⟨pv,cv,hv,rfl,g1,g2,g3,g4,g5,g6⟩:=hm
 unfold Xe
 refine Y9 hs fun a w1 σ1 f ha=>?_
 have ay:=p.lt
 have av:=r.lt
 have p:=p.of_below f.bel
 have r:=r.of_below f.bel
 have U:σ1 b=none:=(f.old b ay).trans aj
 have J:σ1 o=none:=(f.old o av).trans al
 refine X8 f.sat (ab.up f) rfl ?_
 rw[fa]
 refine ld f.sat ha rfl ?_
 refine Q7S X9 p m.name ?_
 have ar:(.tuple #[(E5 (vals s.1) m.name).getD (.string ⟨#[]⟩), .bool (E5 (vals s.1) m.name).isSome]:Value)= .tuple #[S ((E2 s.1 m.name).getD []), .bool (E2 s.1 m.name).isSome]:=by
  rw[Q7z];cases E2 s.1 m.name<;>rfl
 rw[ar]
 refine Z7 (vs:=[_,_]) rfl ?_
 refine Z7 (vs:=[_,_]) rfl ?_
 obtain ⟨N,L,y,A,ae,E⟩:=X1z (P:=P) (t:=T.v) X9 p m.name (S (K9 m))
 have W:=p.lt
 refine Q1o (fun c i=>Kpt (fun k=>k=b) c i∧(i.heap[b]? =c.heap[b]? ∨(c.heap[b]? =some N∧N≠y∧i.heap[b]? =some L)∨i.heap[b]? =some y))
  (fun c=>Kpt (fun k=>k=b) w1 c∧X4 c σ1∧(c.heap[b]? =some N∨c.heap[b]? =some L∨c.heap[b]? =some y))
  ⟨.of_below (Below.refl _ _).drew,f.sat.below (Below.refl _ _).drew, .inl ae⟩ (fun c i g B=>⟨g.1.trans B.1,B.1.sat g.2.1 (fun k hk=>hk▸U),by
   rcases B.2 with e | ⟨_,_,e⟩ | e
   ·rw[e];exact g.2.2
   ·exact .inr (.inl e)
   ·exact .inr (.inr e)⟩) ?_
 refine X2 (.pointer (some (a.add 0))) (fun w g=>by rw[fa];exact ⟨⟨Kpt.refl, .inl rfl⟩,rfl⟩) ?_
 refine X2 (.pointer (some (a.add 0))) (fun w g=>by rw[fa];exact ⟨⟨Kpt.refl, .inl rfl⟩,rfl⟩) ?_
 refine X2 (.pointer (some (q.add 0))) (fun w g=>by rw[fa];exact ⟨⟨Kpt.refl, .inl rfl⟩,rfl⟩) ?_
 refine X2 (.map (some b)) (fun w g=>X8 g.2.1 (ab.up f) rfl ⟨⟨Kpt.refl, .inl rfl⟩,rfl⟩) ?_
 refine X2 (S m.name) (fun t w g e=>by rw[e];exact ld g.2.1 ha rfl ⟨⟨Kpt.refl, .inl rfl⟩,rfl⟩) ?_
 refine X2 (.map (some o)) (fun w g=>X8 g.2.1 (ah.up f) rfl ⟨⟨Kpt.refl, .inl rfl⟩,rfl⟩) ?_
 refine X2 (S m.name) (fun t w g e=>by rw[e];exact ld g.2.1 ha rfl ⟨⟨Kpt.refl, .inl rfl⟩,rfl⟩) ?_
 refine X2 (.agg [S m.name,pv,S m.result, .bool m.abs,I m.locals,cv,hv].toArray) (fun w g=>Y4 g.2.1 ha rfl ⟨⟨Kpt.refl, .inl rfl⟩,rfl⟩) ?_
 refine X2 (S (K9 m)) (fun t c g e=>by
  rw[e]
  exact Q7d g.2.1 (RMe_lift R ⟨f.le⟩) V hn fun i σ3 z=>⟨⟨.of_below z.bel, .inl (z.bel.block b (Nat.lt_of_lt_of_le W g.1.size))⟩,rfl⟩) ?_
 refine X2 (S d) (fun t w g e=>by rw[e];exact ld g.2.1 (hq.up f) rfl ⟨⟨Kpt.refl, .inl rfl⟩,rfl⟩) ?_
 have st: ∀{c i:World},(c.heap[b]? =some L∨c.heap[b]? =some y)→(i.heap[b]? =c.heap[b]? ∨(c.heap[b]? =some N∧N≠y∧i.heap[b]? =some L)∨i.heap[b]? =some y)→(i.heap[b]? =some L∨i.heap[b]? =some y):=by
  intro c i j h2
  rcases h2 with e | ⟨_,_,e⟩ | e
  ·rw[e];exact j
  ·exact .inl e
  ·exact .inr e
 refine N1 (fun u c=>(∃x,u= .tuple #[x,I A])∧(c.heap[b]? =some L∨c.heap[b]? =some y)) (fun u c i j B=>⟨j.1,st j.2 B.2⟩) (fun aa an c g e1 e2=>?_) ?_
 ·rw[e1,e2]
  refine E.entry g.2.2 fun x i n aq ag=>?_
  by_cases Y:c.heap[b]? =some N
  ·have j:=aq Y
   refine ⟨⟨Kpt.of_upd n rfl,?_⟩,⟨x,rfl⟩, .inl j⟩
   by_cases C:N=y
   ·left;rw[j,Y,E.same C]
   ·exact .inr (.inl ⟨Y,C,j⟩)
  ·have j:=ag Y
   refine ⟨⟨Kpt.of_upd n rfl, .inl j⟩,⟨x,rfl⟩,?_⟩
   rw[j];exact g.2.2.resolve_left Y
 refine N1 (fun u c=>u=I A∧(c.heap[b]? =some L∨c.heap[b]? =some y)) (fun u c i j B=>⟨j.1,st j.2 B.2⟩) (fun t c g e=>?_) ?_
 ·obtain ⟨⟨x,rfl⟩,j⟩:=e
  exact Z7 (vs:=[_,_]) rfl ⟨⟨Kpt.refl, .inl rfl⟩,rfl,j⟩
 refine N1 (fun _ c=>c.heap[b]? =some y) (fun u c i j B=>?_) (fun aa ao ap c g e1 e2 e3=>?_) ?_
 ·rcases B.2 with e | ⟨e,C,_⟩ | e
  ·exact e.trans j
  ·rw[j] at e;cases e;exact absurd rfl C
  ·exact e
 ·rw[e1,e3,e2.1]
  refine E.store e2.2 fun i n h3=>⟨⟨Kpt.of_upd n rfl, .inr (.inr h3)⟩,h3⟩
 rintro a7 bd ba aa an bg bb bc ap be bi ao a5 c O _ _ _ _ _ rfl rfl _ _ rfl _ _ aw
 have ax:M4 (c.heap[b]?) (vals (Di s.1 m.name (K9 m))):=by
  rw[aw,←Q49];exact E.put
 have af:M4 (c.heap[o]?) (vals s.2):=by
  rw[O.1.block o r.lt fun e=>Q e.symm];exact r
 refine Fz X9 ⟨J,af⟩ m.name (S d) fun i n ak=>?_
 have X:M4 (i.heap[o]?) (vals (Di s.2 m.name d)):=by rw[←Q49];exact ak.2
 have H:M4 (i.heap[b]?) (vals (Di s.1 m.name (K9 m))):=by rw[n.block b Q];exact ax
 have z:Kpt (fun k=>k=b∨k=o) w i:=((Kpt.of_below f.bel).trans (O.1.mono fun k _ h=> .inl h)).trans (Kpt.of_upd n (.inr rfl))
 have Z:X4 i σ1:=(Kpt.of_upd (D:=fun k=>k=o) n rfl).sat O.2.1 fun k hk=>hk▸J
 unfold Je at h
 cases ho:E2 s.1 m.name with
 | none=>
  rw[ho] at h
  simp only[Option.isSome_none,↓M2,M2,Mb,reduceIte]
  exact h i z H X
 | some x=>
  rw[ho] at h
  simp only[Option.isSome_some,Option.getD_some,↓M2,M2,Mb,reduceIte]
  refine Y4 Z ha rfl ?_
  refine Q7d Z (RMe_lift R ⟨f.le⟩) V hn fun w4 σ4 M=>?_
  simp only[↓M2,M2,Mb,reduceIte]
  exact h w4 (z.trans (Kpt.of_below M.bel)) (H.of_below M.bel) (X.of_below M.bel))
end Go.Proofs.YtjdiakhipmggjaaGreatDoor

namespace Go.Hm
open Go.Kd Go.Emb
def Du (s:E9×E9) (c:Cla):Bool×(E9×E9):=((Z5 (Je c.name) s c.methods 0).1.isSome,(Z5 (Je c.name) s c.methods 0).2)
def Oo (a:List Hm.Met):Prop:= ∃x∈a,∃y∈a,x.name=y.name∧K9 x≠K9 y
theorem Q2B (a:List Hm.Met):Wn a=true↔Oo a:=by
 simp[Wn,Oo]
structure Gd (pre : List Hm.Met) (s : E9 × E9) : Prop where
  a : ∀ m ∈ pre, E2 s.1 m.name = some (K9 m)
  b : ∀ k x, E2 s.1 k = some x → ∃ m ∈ pre, m.name = k ∧ K9 m = x
  c : ∀ k, (E2 s.2 k).isSome = true ↔ ∃ m ∈ pre, m.name = k
theorem Gd.no {b:List Hm.Met} {s:E9×E9} (h:Gd b s): ¬Oo b:=by
 rintro ⟨x,f,y,d,e,i⟩
 have c:=h.a x f
 have g:=h.a y d
 rw[e,g] at c
 exact i (Option.some.inj c).symm
theorem Gd.step {n:List Hm.Met} {s:E9×E9} (h:Gd n s) (d:X0) (m:Hm.Met):((Je d s m).1=true→Oo (n++[m]))∧((Je d s m).1=false→Gd (n++[m]) (Je d s m).2):=by
 unfold Je
 constructor
 ·intro i
  cases o:E2 s.1 m.name with
  | none=>rw[o] at i;cases i
  | some x=>
   rw[o] at i
   obtain ⟨y,hy,f,p⟩:=h.b _ _ o
   exact ⟨y,by simp[hy],m,by simp,f,by rw[p];simpa using i⟩
 ·intro i
  have g: ∀x,E2 s.1 m.name=some x→x=K9 m:=fun x j=>by rw[j] at i;simpa using i
  refine ⟨fun y hy=>?_,fun k x j=>?_,fun k=>?_⟩
  ·simp only[Tw]
   rcases List.mem_append.1 hy with hy | hy
   ·have:=h.a y hy
    by_cases e:m.name=y.name
    ·rw[if_pos e];congr 1;exact (g _ (by rw[e];exact this)).symm
    ·rw[if_neg e];exact this
   ·simp at hy;subst hy;simp
  ·simp only[Tw] at j
   by_cases e:m.name=k
   ·rw[if_pos e] at j;cases j;exact ⟨m,by simp,e,rfl⟩
   ·rw[if_neg e] at j
    obtain ⟨y,hy,f⟩:=h.b _ _ j
    exact ⟨y,by simp[hy],f⟩
  ·simp only[Tw]
   by_cases e:m.name=k
   ·rw[if_pos e];exact ⟨fun _=>⟨m,by simp,e⟩,fun _=>rfl⟩
   ·rw[if_neg e,h.c k]
    constructor
    ·rintro ⟨y,hy,f⟩;exact ⟨y,by simp[hy],f⟩
    ·rintro ⟨y,hy,f⟩
     rcases List.mem_append.1 hy with hy | hy
     ·exact ⟨y,hy,f⟩
     ·simp at hy;subst hy;exact absurd f e
theorem Oo.mono {a b:List Hm.Met} (h:Oo a) (c: ∀x∈a,x∈b):Oo b:=by
 obtain ⟨x,f,y,d,e⟩:=h
 exact ⟨x,c x f,y,c y d,e⟩
theorem Q1B (d:X0): ∀(b a:List Hm.Met) (s:E9×E9) (i:Nat),Gd a s→((Z5 (Je d) s b i).1.isSome=true→Oo (a++b))∧((Z5 (Je d) s b i).1.isSome=false→Gd (a++b) (Z5 (Je d) s b i).2)
 | [],a,s,i,h=>by simpa [Z5] using h
 | m::r,a,s,i,h=>by
  obtain ⟨g,j⟩:=h.step d m
  simp only[Z5]
  cases c:(Je d s m).1 with
  | true=>
   simp only[if_true,Option.isSome_some]
   exact ⟨fun _=>(g c).mono fun x f=>by simp at f⊢;rcases f with h | h<;>simp[h],fun e=>by cases e⟩
  | false=>
   simp only[Bool.false_eq_true,if_false]
   have:=Q1B d r (a++[m]) (Je d s m).2 (i+1) (j c)
   rw[show a++m::r=(a++[m])++r by simp]
   exact this
theorem Q13: ∀(cs:List Cla) (a:List Hm.Met) (s:E9×E9) (i:Nat),Gd a s→((Z5 Du s cs i).1.isSome=true→Oo (a++cs.flatMap (·.methods)))∧((Z5 Du s cs i).1.isSome=false→Gd (a++cs.flatMap (·.methods)) (Z5 Du s cs i).2)
 | [],a,s,i,h=>by simpa [Z5] using h
 | c::r,a,s,i,h=>by
  obtain ⟨d,f⟩:=Q1B c.name c.methods a s 0 h
  simp only[Z5]
  cases b:(Du s c).1 with
  | true=>
   simp only[if_true,Option.isSome_some]
   exact ⟨fun _=>(d b).mono (by simp;intro x hx;rcases hx with hx | hx;exact .inl hx;exact .inr (.inl hx)),fun e=>by cases e⟩
  | false=>
   simp only[Bool.false_eq_true,if_false]
   have:=Q13 r (a++c.methods) (Du s c).2 (i+1) (f b)
   rw[List.flatMap_cons,←List.append_assoc]
   exact this
theorem X0B:Gd [] ([],[]):=⟨by simp,by simp[E2],by simp[E2]⟩
theorem Q6q (l:List Cla) (n:X0):Vi l n=(Wy l n).flatMap (·.methods):=by
 unfold Vi Wy
 induction R2 l n with
 | nil=>rfl
 | cons u r a=>
  rw[List.flatMap_cons,List.filterMap_cons]
  cases b:lk l u with
  | none=>simpa [b] using a
  | some c=>simp only[Option.map_some,Option.getD_some,List.flatMap_cons];rw[a]
end Go.Hm
namespace Go.Emb
open Go.RowKit Go.Hm
variable {P : Program} {w w0 w1 w' w'' : World} {K : Value → World → Prop} {σ σ0 σ1 σ' : Q4}
def It (σ:Q4) (w:World) (b r:Nat) (d:Array MapEntry) (a:Nat) (c:Array Nat):Prop:=σ b=none∧ ∃c0,a≤c0∧w.heap[b]? =some (.mapIter (some r) a c c0)
theorem It.step {b r:Nat} {f:Array MapEntry} {a:Nat} {c:Array Nat} (h:It σ w b r f a c) (k:Stp w σ w' σ'):It σ' w' b r f a c:=by
 obtain ⟨g,c0,i,e⟩:=h
 have d:=(Array.getElem?_eq_some_iff.1 e).1
 exact ⟨(k.old b d).trans g,c0,i,(k.bel.block b d).trans e⟩
theorem X1t {t e f:TypeId} [tm:TM P t e f] {r:Nat} {c:Array MapEntry} {a:Nat} (d:X4 w σ) (i:w.heap[r]? =some (.map c a))
 (h: ∀b w' σ',w.heap.size≤b→Stp w σ w' σ'→It σ' w' b r c a #[]→K (.pointer (some ⟨b,0,none⟩)) w'):rng P t (.map (some r)) w K:=by
 unfold rng
 have g:(getObj r).run P w= .ok (.map c a) w:=by simp[getObj,Sem.run,i]
 rw[X7 (v:= .pointer (some ⟨w.heap.size,0,none⟩)) (w':=w.alloc (.mapIter (some r) a #[] a)) (by
  simp only[Instr.range,Sem.run_bind,run_underlying tm.h,Result.andThen_ok,g,Sem.run_pure]
  simp)]
 exact h _ _ _ (Nat.le_refl _) (Stp.own d _) ⟨d.none (Nat.le_refl _),a,Nat.le_refl _,heap_alloc_new w _⟩
theorem X1c {t:TypeId} {b r:Nat} {es:Array MapEntry} {clock:Nat} {seen:Array Nat} (hi:It σ w b r es clock seen) (hm:w.heap[r]? =some (.map es clock)) (hold: ∀x∈es.toList,x.born<clock)
 (h0:(∀e∈es.toList,e.born∈seen)→K (.tuple #[.bool false]) w)
 (h1: ∀e w',e∈es.toList→e.born∉seen→Kpt (fun k=>k=b) w w'→It σ w' b r es clock (seen.push e.born)→w'.heap[b]? =some (.mapIter (some r) clock (seen.push e.born) clock)→K (.tuple #[.bool true,e.key,e.val]) w'):V0 P (.pointer (some ⟨b,0,none⟩)) false t w K:=by
 obtain ⟨hb,c0,hc,hh⟩:=hi
 unfold V0
 rcases run_next_at (P:=P) w t b r clock c0 seen es clock hh hm hold hc with ⟨hz,hrun⟩ | ⟨e,he,w1,hw1,hrun⟩
 ·rw[X7 hrun]
  refine h0 fun e he=>Classical.byContradiction fun hn=>?_
  have:e∈(leftOf es seen).toList:=by
   unfold leftOf
   simp only[Array.toList_filter,List.mem_filter]
   exact ⟨he,by simpa using hn⟩
  have hl:(leftOf es seen).toList.length=0:=by simpa using hz
  rw[List.eq_nil_of_length_eq_zero hl] at this
  cases this
 ·rw[X7 hrun]
  have he':e∈es.toList∧e.born∉seen:=by
   unfold leftOf at he
   simp only[Array.toList_filter,List.mem_filter] at he
   exact ⟨he.1,by simpa using he.2⟩
  have hh1:w1.heap[b]? =some (.mapIter (some r) clock seen c0):=by rcases hw1 with rfl | rfl<;>exact hh
  obtain ⟨u1,u2⟩:=Q1W (w:=w1) (o:= .mapIter (some r) clock (seen.push e.born) clock) hh1
  refine h1 e _ he'.1 he'.2 ?_ ⟨hb,clock,Nat.le_refl _,u2⟩ u2
  have k1:Kpt (fun k=>k=b) w w1:=by
   rcases hw1 with rfl | rfl
   ·exact Kpt.refl
   ·exact .of_below (Below.refl _ _).drew
  exact k1.trans (Kpt.of_upd u1 rfl)
theorem X0Q {b r:Nat} {d:Array MapEntry} {a:Nat} {c:Array Nat} {e:MapEntry} (hh:w.heap[b]? =some (.mapIter (some r) a (c.push e.born) a)) (i:w.heap[r]? =some (.map d a)) (f:e∈d.toList) (g:(d.toList.map (·.born)).Nodup)
 (h:K (.tuple #[e.key,e.val]) w):Q6F P (.pointer (some ⟨b,0,none⟩)) w K:=by
 unfold Q6F
 rw[X7 (run_entry_at w b r a c d a e hh i f g)]
 exact h
end Go.Emb
namespace Go.Proofs.YtjdiakhipmggjaaGreatDoor
open Go.Emb Go.RowKit Go.Kd Go.Hm
variable {w : World} {K : Value → World → Prop} {σ : Q4} {v : Value} {l : List Cla}
theorem Zu (o:Option Nat):decide ((0:Int)≤W0 o)=o.isSome:=by
 cases o with
 | none=>rfl
 | some i=>simp[W0]
theorem Q1T {q:Addr} {s:X0} (c:X4 w σ) (d:Tab σ v l) (f:Z3 σ q [v]) (g:s.length≤J8) (h: ∀w' σ',Stp w σ w' σ'→K (.bool (W9 l s)) w'):Y6 P (.func (.func F.af) #[] #[.pointer (some q)]) [S s] w K:=Y8 (El (by
 unfold Yn
 unfold W9 at h
 refine Mx ?_
 by_cases a:s=C0
 ·have e:decide (s=[110,117,108,108])=true:=decide_eq_true a
  simp only[e,decide_eq_true a,↓M2,M2,Mb,reduceIte] at h⊢
  exact h _ _ (Stp.refl c)
 ·have e:decide (s=[110,117,108,108])=false:=decide_eq_false a
  simp only[e,decide_eq_false a,↓M2,M2,Mb,reduceIte] at h⊢
  refine X8 c f rfl ?_
  refine Ti c d g fun w1 σ1 b=>?_
  (try simp only[↓M2,M2,Mb,reduceIte])
  exact h _ _ b))
theorem Q61 {q p:Addr} {s:X0} (b:X4 w σ) (c:Tab σ v l) (e:Z3 σ q [v]) (d:Z3 σ p [.func (.func F.af) #[] #[.pointer (some q)]]) (f:s.length≤J8) (h: ∀w' σ',Stp w σ w' σ'→K (.bool (!W9 l s)) w'):Y6 P (.func (.func F.ag) #[] #[.pointer (some p)]) [S s] w K:=Y8 (Er (by
 unfold Zh
 refine X8 b d rfl ?_
 refine Q1T b c e f fun w1 σ1 a=>?_
 refine Oq ?_
 exact h _ _ a))
theorem Q57 {c:Cla} {cs:List Value} {pa D:Addr} {e b:Nat} {s:E9×E9} (R:X4 w σ) (Q:U4 σ c cs) (y:K5 c) (W:Nm c) (z:Z3 σ pa [.map (some e)]) (r:Z3 σ D [.map (some b)])
 (t:σ e=none) (B:σ b=none) (p:e≠b) (j:M4 (w.heap[e]?) (vals s.1)) (o:M4 (w.heap[b]?) (vals s.2))
 (h: ∀w',Kpt (fun k=>k=e∨k=b) w w'→M4 (w'.heap[e]?) (vals (Du s c).2.1)∧M4 (w'.heap[b]?) (vals (Du s c).2.2)→K (.bool (Du s c).1) w'):
 Y6 P (.func (.func F.aL) #[] #[.pointer (some pa), .pointer (some D)]) [.agg cs.toArray] w K:=Y8 (Eg (by
 obtain ⟨lv,fv,mv,rfl,g1,Y,V,g4,Z⟩:=Q
 unfold Yk
 refine Y9 R fun q w1 σ1 a J=>?_
 rw[fa]
 refine ld a.sat J rfl ?_
 rw[Qb]
 have A:=j.lt
 have u:=o.lt
 have n:σ1 e=none:=(a.old e A).trans t
 have i:σ1 b=none:=(a.old b u).trans B
 refine Xu (Je c.name) s (fun s w'=>X4 w' σ1∧M4 (w'.heap[e]?) (vals s.1)∧M4 (w'.heap[b]?) (vals s.2)) (fun k=>k=e∨k=b) (fun _ _ h=>h.1) ⟨a.sat,j.of_below a.bel,o.of_below a.bel⟩ (V.up a)
  (fun s x cs H K E f g X C M=>Y8 ?_) fun H f g=>?_
 ·refine X1s (s:=s) (d:=c.name) g.1 X (y.2.2.2 x E) (W.2.2 x E) (z.up a) (r.up a) J n i p g.2.1 g.2.2 fun U m O N=>?_
  exact M U (f.trans m) ⟨m.sat g.1 fun k L=>by rcases L with rfl | rfl<;>assumption,O,N⟩
 ·exact h H ((Kpt.of_below a.bel).trans f) g.2))
end Go.Proofs.YtjdiakhipmggjaaGreatDoor

namespace Go.Emb
open Go.RowKit Go.Hm
theorem Stp.nx {D:Nat→Prop} {w w1 f:World} {σ σ1 g:Q4} (a:Stp w σ w1 σ1) (c:Nxt D w1 σ1 f g) (hD: ∀k,D k→w.heap.size≤k):Stp w σ f g:=
 ⟨⟨c.kp.os.trans a.bel.os,c.kp.tape.trans a.bel.tape,c.kp.output.trans a.bel.output,Nat.le_trans a.bel.size c.kp.size,fun k d=>(c.kp.block k (Nat.lt_of_lt_of_le d a.bel.size) fun e=>by have:=hD k e;omega).trans (a.bel.block k d)⟩,
  c.sat,fun b o e=>c.le.le b o (a.le b o e),fun k d=>(c.old k (Nat.lt_of_lt_of_le d a.bel.size)).trans (a.old k d)⟩
end Go.Emb
namespace Go.Hm
open Go.Kd Go.Emb
theorem X03 {d:Array MapEntry} {m:E9} (h:d.toList.map (fun e=>(e.key,e.val))=(vals m).map (fun p=>(S p.1,p.2))):
 (∀e∈d.toList,∃k,e.key=S k∧(E2 m k).isSome=true)∧ ∀k,(E2 m k).isSome=true→ ∃e∈d.toList,e.key=S k:=by
 have a: ∀(m:E9) k,(E2 m k).isSome=true↔k∈m.map (·.1):=by
  intro m
  induction m with
  | nil=>intro k;simp[E2]
  | cons p r j=>
   intro k
   simp only[E2,List.map_cons,List.mem_cons]
   by_cases e:p.1=k
   ·simp[e]
   ·rw[if_neg e,j k]
    constructor
    ·exact .inr
    ·rintro (h | h)
     ·exact absurd h.symm e
     ·exact h
 constructor
 ·intro e f
  have b:(e.key,e.val)∈d.toList.map (fun e=>(e.key,e.val)):=List.mem_map.2 ⟨e,f,rfl⟩
  rw[h] at b
  obtain ⟨p,n,c⟩:=List.mem_map.1 b
  obtain ⟨q,g,rfl⟩:=List.mem_map.1 n
  simp only[Prod.mk.injEq] at c
  exact ⟨q.1,c.1.symm,(a m _).2 (List.mem_map.2 ⟨q,g,rfl⟩)⟩
 ·intro k i
  obtain ⟨q,g,rfl⟩:=List.mem_map.1 ((a m k).1 i)
  have b:(S q.1,S q.2)∈(vals m).map (fun p=>(S p.1,p.2)):=List.mem_map.2 ⟨(q.1,S q.2),List.mem_map.2 ⟨q,g,rfl⟩,rfl⟩
  rw[←h] at b
  obtain ⟨e,f,c⟩:=List.mem_map.1 b
  simp only[Prod.mk.injEq] at c
  exact ⟨e,f,c.1⟩
def Ny (l:List Cla) (m:Hm.Met):Bool:=(!W9 l m.result&& !decide (m.result=[]))||m.params.any fun s=> !W9 l s
end Go.Hm
namespace Go.Proofs.YtjdiakhipmggjaaGreatDoor
open Go.Emb Go.RowKit Go.Kd Go.Hm
variable {w : World} {K : Value → World → Prop} {σ : Q4} {v : Value} {l : List Cla}
set_option maxHeartbeats 1000000 in
theorem Q7X {c:Cla} {cs:List Value} (hs:X4 w σ) (ht:Tab σ v l) (ok:Ok l) (hc:U4 σ c cs) (fp:K5 c) (hn:Nm c) (h: ∀w' W,Stp w σ w' W→K (I (U5 l c)) w'):Q1 P F.aS [v, .agg cs.toArray] w K:=Rn (by
 obtain ⟨lv,fv,mv,rfl,g1,g2,g3,g4,g5⟩:=hc
 unfold Jn
 obtain ⟨a,_,_,_,hv,_⟩:=ht.ex
 unfold U5 at h
 refine J4 hs (by rw[hv];rfl) fun q2 w1 σ1 ay u=>?_
 refine Y9 ay.sat fun q3 w2 σ2 aw z=>?_
 have d1:=ay.trans aw
 have u:=u.up aw
 have g1:=(g1.up ay).up aw
 have g2:=(g2.up ay).up aw
 have g3:=(g3.up ay).up aw
 have ba:=g2.max
 have cb:=g3.max
 rw[fa]
 refine ld aw.sat z rfl ?_
 refine Q9 g2 ?_
 refine U3 c.fields.length (fun n w'=> ∃W,Stp w σ w' W∧SLe σ2 W∧((c.fields.take n).any fun f=>(Yz l c.super f.name).isSome)=false) ⟨σ2,d1,SLe.refl _,by simp⟩ fun n w3 d a6 ah=>?_
 obtain ⟨σ3,a0,ca,E⟩:=ah
 refine Z1 ?_
 refine Q5 (fun hh=>?_) (fun hh=>?_)
 ·have g:n<c.fields.length:=by simpa using hh
  refine Q7q (g2.lift ca) g fun p av ab=>?_
  refine Y4 a0.sat av rfl ?_
  refine Y1 a0.sat (by rfl) rfl (Rep.one ab) fun q4 w4 σ4 V eo=>?_
  have Z:SLe σ2 σ4:=ca.more ⟨V.le⟩
  have a1:=a0.trans V
  refine X8 V.sat (u.lift Z) rfl ?_
  rw[fa]
  refine ld V.sat (z.lift Z) rfl ?_
  rw[fa]
  refine ld V.sat eo rfl ?_
  refine Q9L V.sat (ht.lift ⟨a1.le⟩) ok.acy ok.len ok.sm fun w5 σ5 b6=>?_
  refine Xx ?_
  rw[Zu]
  refine Q5 (fun am=>?_) (fun am=>?_)
  ·have:Qk l c=true:=R7 g am
   rw[if_pos this] at h
   exact h _ _ (a1.trans b6)
  ·refine M7 ?_
   refine Y3 ba g ⟨σ5,a1.trans b6,Z.more ⟨b6.le⟩,?_⟩
   rw[L6 g,E,am];rfl
 have g: ¬n<c.fields.length:=by simpa using hh
 rw[O3 g] at E
 have ee:Qk l c=false:=E
 rw[if_neg (by rw[ee];simp)] at h
 rw[Qb]
 clear E hh g a6
 refine J5 a0.sat (by rfl) rfl rfl fun q7 w4 σ4 V a4=>?_
 have Z:SLe σ2 σ4:=ca.more ⟨V.le⟩
 have a1:=a0.trans V
 have u:=u.lift Z
 have z:=z.lift Z
 have g1:=g1.lift Z
 have g2:=g2.lift Z
 have g3:=g3.lift Z
 rw[fa]
 refine ld V.sat z rfl ?_
 refine Q9 g2 ?_
 refine U3 c.fields.length (fun n w'=> ∃W,Stp w σ w' W∧SLe σ4 W∧((c.fields.take n).any fun f=> !W9 l f.kind)=false) ⟨σ4,a1,SLe.refl _,by simp⟩ fun n w5 d a6 ah=>?_
 obtain ⟨σ5,a2,ar,E⟩:=ah
 refine Z1 ?_
 refine Q5 (fun hh=>?_) (fun hh=>?_)
 ·have g:n<c.fields.length:=by simpa using hh
  refine Q7q (g2.lift ar) g fun p av ab=>?_
  refine Y4 a2.sat av rfl ?_
  refine Y1 a2.sat (by rfl) rfl (Rep.one ab) fun q9 w6 σ6 a9 eh=>?_
  have af:SLe σ4 σ6:=ar.more ⟨a9.le⟩
  have O:=a2.trans a9
  refine X8 a9.sat (a4.lift af) rfl ?_
  rw[fa]
  refine ld a9.sat eh rfl ?_
  refine Q1T a9.sat (ht.lift ⟨O.le⟩) (u.lift af) ab.2.2 fun w7 σ7 H=>?_
  refine Oq ?_
  refine Q5 (fun am=>?_) (fun am=>?_)
  ·have:H0 l c=true:=by
    unfold H0
    rw[R7 (p:=fun f:Fld=> !W9 l f.kind) g am];rfl
   rw[if_pos this] at h
   exact h _ _ (O.trans H)
  ·refine M7 ?_
   refine Y3 ba g ⟨σ7,O.trans H,af.more ⟨H.le⟩,?_⟩
   rw[L6 g,E,am];rfl
 have g: ¬n<c.fields.length:=by simpa using hh
 rw[O3 g] at E
 have d7:=E
 clear E hh g a6
 have u:=u.lift ar
 have z:=z.lift ar
 have a4:=a4.lift ar
 have g3:=g3.lift ar
 rw[fa]
 refine ld a2.sat z rfl ?_
 refine Q9 g3 ?_
 refine U3 c.methods.length (fun n w'=> ∃W,Stp w σ w' W∧SLe σ5 W∧((c.methods.take n).any (Ny l))=false) ⟨σ5,a2,SLe.refl _,by simp⟩ fun n w6 d a6 ah=>?_
 obtain ⟨σ6,O,af,E⟩:=ah
 refine Z1 ?_
 refine Q5 (fun hh=>?_) (fun hh=>?_)
 ·have g:n<c.methods.length:=by simpa using hh
  refine W7 (g3.lift af) g fun p cells av c8 ab=>?_
  refine Y4 O.sat av c8 ?_
  refine Y1 O.sat (by rfl) c8 (Rep.one ab) fun ft w7 σ7 H Y=>?_
  obtain ⟨pv,cv,fr,rfl,m1,m2,m3,m4,m5,m6⟩:=ab
  have cg:SLe σ5 σ7:=af.more ⟨H.le⟩
  have dn:=O.trans H
  have D:Ny l c.methods[n]=true→ ∀{w8:World} {σ8:Q4},Stp w σ w8 σ8→K (.int .i64 65) w8:=fun hb w8 σ8 q=>by
   have:H0 l c=true:=by
    unfold H0
    have:=R7 (p:=Ny l) g hb
    unfold Ny at this
    rw[this,Bool.or_true]
   rw[if_pos this] at h
   exact h _ _ q
  have A:Ny l c.methods[n]=false→ ∀{w8:World} {σ8:Q4},Stp w σ w8 σ8→SLe σ5 σ8→UpI c.methods.length (fun n w'=> ∃W,Stp w σ w' W∧SLe σ5 W∧((c.methods.take n).any (Ny l))=false) (.int .i64 (IntKind.i64.wrap (n+1))) w8∧UpM c.methods.length (.int .i64 (IntKind.i64.wrap (n+1)))<UpM c.methods.length (I n):=fun hb w8 σ8 q aa=>
   Y3 cb g ⟨σ8,q,aa,by rw[L6 g,E,hb];rfl⟩
  unfold Ny at D A
  refine X8 H.sat (a4.lift cg) rfl ?_
  rw[fa]
  refine ld H.sat Y rfl ?_
  refine Q1T H.sat (ht.lift ⟨dn.le⟩) (u.lift cg) m5 fun w8 σ8 M=>?_
  have q:=dn.trans M
  have aa:SLe σ5 σ8:=cg.more ⟨M.le⟩
  have Y:=Y.up M
  have m1:=(m1.up H).up M
  -- what the parameters come to
  have b0: ∀{w8:World} {σ8:Q4} {K:Value→World→Prop},Stp w σ w8 σ8→SLe σ5 σ8→Sl 1 J6 σ8 pv c.methods[n].params→(∀w' W,Stp w8 σ8 w' W→K (.bool (c.methods[n].params.any fun s=> !W9 l s)) w')→Q1 P F.c [pv, .func (.func F.ag) #[] #[.pointer (some q7)]] w8 K:=by
   intro w8 σ8 K q aa m1 hK
   refine B0 (fun s=> !W9 l s) q.sat m1 (fun x w9 K _ ek hx em=>Q61 ek (ht.lift ⟨q.le⟩) (u.lift aa) (a4.lift aa) hx fun w' W hk=>em w' hk.bel) fun w9 hb=>hK w9 σ8 (Stp.of_below q.sat hb)
  cases e1:W9 l c.methods[n].result with
  | true=>
   rw[e1] at D A
   simp only[↓M2,M2,Mb,reduceIte]
   refine ld M.sat Y rfl ?_
   (try simp only[↓M2,M2,Mb,reduceIte])
   refine b0 q aa m1 fun w9 σ9 J=>?_
   cases e2:c.methods[n].params.any fun s=> !W9 l s with
   | true=>
    rw[e2] at D
    simp only[↓M2,M2,Mb,reduceIte]
    exact D rfl (q.trans J)
   | false=>
    rw[e2] at A
    simp only[↓M2,M2,Mb,reduceIte]
    exact A rfl (q.trans J) (aa.more ⟨J.le⟩)
  | false=>
   rw[e1] at D A
   simp only[↓M2,M2,Mb,reduceIte]
   refine ld M.sat Y rfl ?_
   simp only[↓M2,M2,Mb,reduceIte]
   by_cases e3:c.methods[n].result=[]
   ·rw[decide_eq_true e3] at D A
    simp only[decide_eq_true e3,↓M2,M2,Mb,reduceIte]
    refine ld M.sat Y rfl ?_
    (try simp only[↓M2,M2,Mb,reduceIte])
    refine b0 q aa m1 fun w9 σ9 J=>?_
    cases e2:c.methods[n].params.any fun s=> !W9 l s with
    | true=>
     rw[e2] at D
     simp only[↓M2,M2,Mb,reduceIte]
     exact D rfl (q.trans J)
    | false=>
     rw[e2] at A
     simp only[↓M2,M2,Mb,reduceIte]
     exact A rfl (q.trans J) (aa.more ⟨J.le⟩)
   ·rw[decide_eq_false e3] at D
    simp only[decide_eq_false e3,↓M2,M2,Mb,reduceIte]
    exact D rfl q
 have g: ¬n<c.methods.length:=by simpa using hh
 rw[O3 g] at E
 have b5:H0 l c=false:=by
  unfold H0
  unfold Ny at E
  rw[d7,E];rfl
 rw[if_neg (by rw[b5];simp)] at h
 clear E hh g a6
 have u:=u.lift af
 have z:=z.lift af
 refine Q0U O.sat fun r1 w7 ab H t=>?_
 refine Q0U H.sat fun N w8 ej M y=>?_
 have av:=t.lt
 have t:=t.up M
 have ec:r1≠N:=by omega
 have q:=(O.trans H).trans M
 have e0:w.heap.size≤r1:=Nat.le_trans O.bel.size ab
 have e7:w.heap.size≤N:=C2 ej (O.trans H)
 refine C5 M.sat fun b1 w9 σ9 ei J C=>?_
 refine C5 J.sat fun b2 dz fn ef ai B=>?_
 have ep:=C.lt
 have ez:=t.lt
 have ey:=y.lt
 have t:=(t.up J).up ai
 have y:=(y.up J).up ai
 have C:=C.up ai
 have cr:=(q.trans J).trans ai
 have bw:w.heap.size≤b1:=C2 ei q
 have bu:w.heap.size≤b2:=C2 ef (q.trans J)
 refine st0 C (by simp[Value.cells]) rfl rfl fun cx ck C=>?_
 have c4:=ck.stp cr bw C.1
 have B:=B.upd ck (by omega)
 have dl:Kpt (fun k=>k=b1) dz cx:=Kpt.of_upd ck rfl
 have t:=t.kp dl (by omega)
 have y:=y.kp dl (by omega)
 refine st0 B (by simp[Value.cells]) rfl rfl fun aq b4 B=>?_
 have c0:=b4.stp c4 bu B.1
 have C:=C.upd b4 (by omega)
 have cq:Kpt (fun k=>k=b2) cx aq:=Kpt.of_upd b4 rfl
 have t:=t.kp cq (by omega)
 have y:=y.kp cq (by omega)
 obtain ⟨cd,c9,a7,cu,ak⟩:=C.keep c0 bw
 have B:J0 cd aq b2 _:=⟨(ak b2 (by omega)).trans B.1,B.2⟩
 have t:E4 cd aq r1 []:=⟨(ak r1 (by omega)).trans t.1,t.2⟩
 have y:E4 cd aq N []:=⟨(ak N (by omega)).trans y.1,y.2⟩
 obtain ⟨ax,ae,bj,bz,a3⟩:=B.keep c9 bu
 have t:E4 ax aq r1 []:=⟨(a3 r1 (by omega)).trans t.1,t.2⟩
 have y:E4 ax aq N []:=⟨(a3 N (by omega)).trans y.1,y.2⟩
 have a7:=a7.le bz
 have a7:Z3 ax ⟨b1,0,none⟩ [.map (some r1)]:=a7
 have bj:Z3 ax ⟨b2,0,none⟩ [.map (some N)]:=bj
 have dc:SLe σ6 ax:=⟨fun b o e=>bz b o (cu b o (ai.le b o (J.le b o (M.le b o (H.le b o e)))))⟩
 clear C B
 have u:=u.lift dc
 have z:=z.lift dc
 refine X8 ae.sat u rfl ?_
 rw[fa]
 refine ld ae.sat z rfl ?_
 rw[Qb]
 refine Q5N Du ([],[]) (fun s w'=>M4 (w'.heap[r1]?) (vals s.1)∧M4 (w'.heap[N]?) (vals s.2)) (fun k=>k=r1∨k=N) ae.sat (ht.lift ⟨ae.le⟩) ok.len ok.sm g4
  (fun k hk=>by rcases hk with rfl | rfl;exact ⟨t.lt,t.1⟩;exact ⟨y.lt,y.1⟩) (fun s wa wb hi hk=>by rw[hk r1 (.inl rfl),hk N (.inr rfl)];exact hi) ⟨t.2,y.2⟩
  (fun s d ds wa σa K le ea dg hi hr d6 hK=>?_) fun fk cl ag b3=>?_
 ·have c2:=(U8 d6).2.1
  exact Q57 ea hr (ok.sm d c2) (ok.nm d c2) (a7.lift le) (bj.lift le) (dg r1 (.inl rfl)) (dg N (.inr rfl)) ec hi.1 hi.2 hK
 have Q:=ae.nx ag fun k hk=>by rcases hk with rfl | rfl<;>assumption
 obtain ⟨di,cw⟩:=Q13 (Wy l c.name) [] ([],[]) 0 X0B
 rw[List.nil_append,←Q6q] at di cw
 cases c7:(Z5 Du ([],[]) (Wy l c.name) 0).1.isSome with
 | true=>
  have:Xm l c=true:=(Q2B _).2 (di c7)
  rw[if_pos this] at h
  refine L7 ?_
  exact h _ _ Q
 | false=>
  have bh:=cw c7
  have:Xm l c=false:=by
   cases e:Xm l c with
   | false=>rfl
   | true=>exact absurd ((Q2B _).1 e) bh.no
  rw[if_neg (by rw[this];simp)] at h
  refine M0 ?_
  have u:=u.lift ag.le
  have z:=z.lift ag.le
  rw[fa]
  refine ld Q.sat z rfl ?_
  unfold Mv at h
  cases da:c.abs with
  | true=>
   rw[da] at h
   refine L7 ?_
   exact h _ _ Q
  | false=>
   rw[da] at h
   simp only[Bool.not_false,Bool.true_and] at h
   refine M0 ?_
   refine X8 Q.sat (bj.lift ag.le) rfl ?_
   generalize fx:(Z5 Du ([],[]) (Wy l c.name) 0).2=st at bh b3
   obtain ⟨es,al,e1,e2,e3,e4⟩:=b3.2
   have dp:cl N=none:=(ag.old N y.lt).trans y.1
   obtain ⟨c5,dq⟩:=X03 e2
   refine X1t (tm:=inferInstance) Q.sat e1 fun ib ff d9 dw ao eb=>?_
   have bv:=(Array.getElem?_eq_some_iff.1 e1).1
   refine Ak (fun d _ w'=> ∃(W:Q4) (U:Array Nat),d=es.toList.countP (fun e=> !U.contains e.born)∧Stp w σ w' W∧SLe cl W∧W N=none∧w'.heap[N]? =some (.map es al)∧It W w' ib N es al U∧ ∀e∈es.toList,e.born∈U→ ∀k,e.key=S k→Qy l c.name k=false) _
    ⟨d9, #[],rfl,Q.trans ao,⟨ao.le⟩,(ao.old N bv).trans dp,(ao.bel.block N bv).trans e1,eb,by simp⟩ ?_
   rintro b7 d x dd fg ⟨dj,U,rfl,bp,an,dh,a8,bd,az⟩ dy
   have de:w.heap.size≤ib:=Nat.le_trans Q.bel.size dw
   refine X1c bd a8 e4 (fun c6=>?_) fun e df bo a5 bs ce cz=>?_
   ·refine Z7 (vs:=[_]) rfl ?_
    refine M0 ?_
    have:((Vi l c.name).any fun m=>Qy l c.name m.name)=false:=by
     rw[List.any_eq_false]
     intro m hm
     obtain ⟨e,he,bl⟩:=dq m.name ((bh.c m.name).2 ⟨m,hm,rfl⟩)
     rw[az e he (c6 e he) _ bl];simp
    rw[this] at h
    exact h _ _ bp
   ·refine Z7 (vs:=[_,_,_]) rfl ?_
    refine L7 ?_
    have ap:df.heap[N]? =some (.map es al):=by
     rw[bs.block N (Array.getElem?_eq_some_iff.1 a8).1 (by omega)];exact a8
    have b8:=bd.1
    have aj:Stp w σ df dj:=bp.kp bs fun k hk=>by rw[hk];exact ⟨de,b8⟩
    refine X0Q cz ap bo (e3.imp fun ch=>Nat.ne_of_lt ch) ?_
    refine Z7 (vs:=[_,_]) rfl ?_
    obtain ⟨k,bl,d4⟩:=c5 e bo
    have eq:SLe cl dj:=an
    refine X8 aj.sat (u.lift an) rfl ?_
    rw[fa]
    refine ld aj.sat (z.lift an) rfl ?_
    rw[bl]
    refine Q8t aj.sat (ht.lift ⟨aj.le⟩) ok fun pv cv hv fo fw L ct=>?_
    refine Z7 (vs:=[_,_,_]) rfl ?_
    refine Z7 (vs:=[_,_,_]) rfl ?_
    refine Z7 (vs:=[_,_,_]) rfl ?_
    refine Y1 L.sat (by rfl) rfl (Rep.one ct) fun fc d5 ed X bx=>?_
    have be:=(aj.trans L).trans X
    have R:Qy l c.name k=true→ ∀{w8:World} {σ8:Q4},Stp w σ w8 σ8→K (.int .i64 67) w8:=fun hb w8 σ8 q=>by
     obtain ⟨m,hm,b5⟩:=(bh.c k).1 d4
     have:((Vi l c.name).any fun m=>Qy l c.name m.name)=true:=List.any_eq_true.2 ⟨m,hm,by rw[b5];exact hb⟩
     rw[this] at h
     exact h _ _ q
    have cc:Qy l c.name k=false→b7 () d5:=fun hb=>by
     have dm: ∀e':MapEntry,e'.born∈U.push e.born↔e'.born∈U∨e'.born=e.born:=fun e'=>by simp
     refine dy _ _ _ ?_ ⟨ed,U.push e.born,rfl,be,an.more ⟨fun b o h=>X.le _ _ (L.le _ _ h)⟩,?_,?_,(ce.step L).step X,fun e' c1 dx k' cf=>?_⟩
     ·refine Q2G (fun x _ hx=>?_) ⟨e,bo,?_,?_⟩
      ·simp only[Bool.not_eq_true',Array.contains_push,Bool.or_eq_false_iff] at hx⊢
       exact hx.1
      ·simpa using a5
      ·simp
     ·have bc:=(Array.getElem?_eq_some_iff.1 ap).1
      rw[X.old N (Nat.lt_of_lt_of_le bc L.bel.size),L.old N bc];exact dh
     ·have bc:=(Array.getElem?_eq_some_iff.1 ap).1
      rw[X.bel.block N (Nat.lt_of_lt_of_le bc L.bel.size),L.bel.block N bc];exact ap
     ·rcases (dm e').1 dx with h1 | h1
      ·exact az e' c1 h1 k' cf
      ·have:e'=e:=by
        have d0:(es.toList.map (·.born)).Nodup:=e3.imp fun ch=>Nat.ne_of_lt ch
        obtain ⟨i,hi,rfl⟩:=List.getElem_of_mem c1
        obtain ⟨j,hj,rfl⟩:=List.getElem_of_mem bo
        have h5:(es.toList.map (·.born))[i]'(by simpa using hi)=(es.toList.map (·.born))[j]'(by simpa using hj):=by simpa using h1
        have:=(List.getElem_inj d0).1 h5
        subst this;rfl
       subst this
       rw[bl] at cf
       have:k=k':=by
        have:=cf
        simp at this
        exact this
       rw[←this];exact hb
    unfold Qy at R cc
    cases db:U1 l c.name k with
    | none=>
     rw[db] at R
     simp only[↓M2,M2,Mb,reduceIte,Option.isSome_none]
     exact R rfl be
    | some r=>
     rw[db] at R cc bx
     simp only[↓M2,M2,Mb,reduceIte,Option.isSome_some]
     refine ld X.sat bx rfl ?_
     (try simp only[↓M2,M2,Mb,reduceIte])
     cases bi:r.2.abs with
     | true=>
      exact Q5 (fun _=>R bi be) (fun e=>absurd (bi.symm.trans e) (by simp))
     | false=>
      exact Q5 (fun e=>absurd (bi.symm.trans e) (by simp)) (fun _=>cc bi))
end Go.Proofs.YtjdiakhipmggjaaGreatDoor

namespace Go.Emb
open Go.RowKit Go.Hm
variable {P : Program} {w w0 w1 w' w'' : World} {K : Value → World → Prop} {σ σ0 σ1 σ' : Q4}
theorem X1u {t e:TypeId} {n a:Nat} {z:Value} [ta:TA P t n e] [tz:TZ P e 1 a z] [tg:TG P e false] {cs:List Value} {i:Nat} {v:Value} (d:i<n) (c:cs[i]? =some v) (h:K v w):D7 P t (.agg cs.toArray) (I i) w K:=by
 unfold D7
 have b:(0:Int)≤i∧(i:Int)<n:=⟨by omega,by omega⟩
 rw[X7 (v:=v) (w':=w) (by
  simp only[Instr.index,asIntOf,Sem.run_bind,Sem.run_pure,Result.andThen_ok,run_underlying ta.h,b,and_self,if_true,W5 tz,part,Qc tg]
  simp[c])]
 exact h
theorem Q6w {α:Type} {R:Q4→α→List Value→Prop} {B sz:Nat} {e:TypeId} {v:Value} {xs:List α} {a t:TypeId} {cs:List Bool} [ts:TS P a e] (h:V2 B e sz R σ w v xs) (b:K (I xs.length) w):X6 P .len [a] t cs [v] w K:=Am (J9.of_acc h) b
theorem Q2K {α:Type} {R:Q4→α→List Value→Prop} {B sz:Nat} {e:TypeId} {v:Value} {xs:List α} (h:V2 B e sz R σ w v xs):v.cells= #[v]∧v.oneCell'=true:=by
 obtain ⟨cells,b,_⟩:=h
 rcases b.2 with ⟨rfl,_⟩ | ⟨g,a,c,rfl,_⟩<;>exact ⟨rfl,rfl⟩
end Go.Emb
namespace Go.Proofs.YtjdiakhipmggjaaGreatDoor
open Go.Emb Go.RowKit Go.Kd Go.Hm
variable {w : World} {K : Value → World → Prop} {σ : Q4} {v : Value} {l : List Cla}
theorem Q9G (C:X4 w σ) (z:Glb σ) (h: ∀r w' σ',Stp w σ w' σ'→V2 w.heap.size T.a 8 U4 σ' w' r R8→K r w'):Q1 P F.cm [] w K:=Q3Z (by
 unfold Pp
 refine V1 (cells:= #[S Z9,S [], .slice none 0 0, .bool false, .bool false, .bool false, .slice none 0 0, .slice none 0 0]) (by kernel_rfl) ?_
 refine V1 (cells:= #[S I0,S M9, .bool false]) (by kernel_rfl) ?_
 refine T4 (R:=O4) (sz:=3) C [.agg #[S I0,S M9, .bool false]] [⟨I0,M9,false⟩] rfl rfl (by simp;rfl) rfl ⟨⟨rfl,by decide,by decide⟩,trivial⟩ fun J w1 σ1 e k=>?_
 have o:=k
 obtain ⟨y,b,rfl,_⟩:=o
 refine V1 (cells:= #[S V8,S Z9, .slice none 0 0, .bool false, .bool false, .bool false, .slice y 1 b, .slice none 0 0]) (by kernel_rfl) ?_
 refine Xa (R:=U4) (sz:=8) e [.agg #[S Z9,S [], .slice none 0 0, .bool false, .bool false, .bool false, .slice none 0 0, .slice none 0 0], .agg #[S V8,S Z9, .slice none 0 0, .bool false, .bool false, .bool false, .slice y 1 b, .slice none 0 0]]
  [⟨Z9,[],[],false,false,false,[],[]⟩,⟨V8,Z9,[],false,false,false,[⟨I0,M9,false⟩],[]⟩] rfl rfl (by simp;exact ⟨rfl,rfl⟩) rfl
  ⟨⟨_,_,_,rfl,Sl.nil,Sl.nil,Sl.nil,by decide,by decide⟩,⟨_,_,_,rfl,Sl.nil,k,Sl.nil,by decide,by decide⟩,trivial⟩ fun E L p i _=>?_
 have u:=z.lift ⟨e.le⟩
 refine Y4 (cs:=J1.map S) p.sat u.flt rfl ?_
 refine M3 6 (fun n a w'=> ∃σ',Stp w σ w' σ'∧V2 w.heap.size T.a 8 U4 σ' w' a ([⟨Z9,[],[],false,false,false,[],[]⟩,⟨V8,Z9,[],false,false,false,[⟨I0,M9,false⟩],[]⟩]++(J1.take n).map fun n=>⟨n,V8,[],false,false,true,[],[]⟩)) ⟨σ1,e.trans p,i⟩ fun n a M d O m=>?_
 obtain ⟨N,g,c⟩:=m
 have D:J1.length=6:=rfl
 refine Z1 ?_
 refine Q5 (fun hh=>?_) (fun hh=>?_)
 ·have f:n<6:=by have:=of_decide_eq_true hh;omega
  refine X1u (v:=S (J1[n]'(by omega))) f (by rw[List.getElem?_map,List.getElem?_eq_getElem (by omega)];rfl) ?_
  refine V1 (cells:= #[S (J1[n]'(by omega)),S V8, .slice none 0 0, .bool false, .bool false, .bool true, .slice none 0 0, .slice none 0 0]) (by kernel_rfl) ?_
  have j:(J1[n]'(by omega)).length≤10:=by
   have: ∀x∈J1,x.length≤10:=by decide
   exact this _ (List.getElem_mem _)
  refine Zb (x:=⟨J1[n]'(by omega),V8,[],false,false,true,[],[]⟩) g c ⟨_,_,_,rfl,Sl.nil,Sl.nil,Sl.nil,Nat.le_trans j (by decide),(by decide:V8.length≤J8)⟩ rfl rfl rfl (by simp;omega) (by simp;omega) fun s r H B A t q _=>?_
  refine M7 ?_
  refine Z2 (by omega) f ⟨B,t,?_⟩
  rw[List.take_add_one,List.getElem?_eq_getElem (by omega),List.map_append,←List.append_assoc]
  exact q
 ·have f: ¬n<6:=by have:=of_decide_eq_false hh;omega
  rw[List.take_of_length_le (by omega)] at c
  exact h _ _ _ g c)
end Go.Proofs.YtjdiakhipmggjaaGreatDoor

namespace Go.Hm
open Go.Kd
def L1 {α:Type} (f:α→Int):List α→Nat→Option (Nat×Int)
 | [],_=>none
 | x::r,i=>if f x=0 then L1 f r (i+1) else some (i,f x)
theorem B1 {α:Type} {f:α→Int}: ∀{l:List α} {i:Nat},L1 f l i=none→ ∀x∈l,f x=0
 | [],_,_=>by simp
 | x::r,i,h=>by
  simp only[L1] at h
  split at h
  ·rename_i a
   intro y hy
   rcases List.mem_cons.1 hy with rfl | hy
   ·exact a
   ·exact B1 h y hy
  ·cases h
def Es (a:List Cla):Option Nat:=(List.range a.length).find? fun i=>(Y2 (a.take i) (Y0 a i)).isSome
def Q7 (l:List Cla):List Cla:=R8++l
def Ej (a:Cla→Int) (l:List Cla):Option (Int×Int):=match L1 a l 0 with
 | some (i,e)=>some (i,e)
 | none=>match Es (Q7 l) with
  | some i=>some ((i:Int)-8,60)
  | none=>match L1 (fun c=>(L2 (Q7 l) c:Int)) l 0 with
   | some (i,e)=>some (i,e)
   | none=>match l.findIdx? (B5 (Q7 l)) with
    | some i=>some (i,63)
    | none=>match (U7 (Q7 l) 8).find? fun j=> !decide (U5 (Q7 l) ((Q7 l).getD j Cla.zero)=0) with
     | some j=>some ((j:Int)-8,U5 (Q7 l) ((Q7 l).getD j Cla.zero))
     | none=>none
theorem Q3X {s:X0} (h:name s=true):s.length≤32:=by
 cases s with
 | nil=>simp
 | cons c r=>simp only[name,Bool.and_eq_true,decide_eq_true_eq] at h;exact h.1.1
theorem Q8D {s:X0} (h:W2 s=true):s.length≤32:=Q3X (Vv (by rw[h,Bool.or_true]))
theorem Q6j {s:X0} (h:L5 s=true):s.length≤32:=by
 cases s with
 | nil=>simp
 | cons c r=>simp only[L5,Bool.and_eq_true] at h;exact Q3X h.1
theorem Bh {a:List Cla} (h:Es a=none):F2 a:=by
 unfold Es at h
 rw[List.find?_eq_none] at h
 unfold F2
 rw[List.nodup_iff_pairwise_ne,List.pairwise_iff_getElem]
 intro i j f b g e
 simp only[List.length_map] at f b
 have:=h j (by simp;exact b)
 apply this
 simp only[List.getElem_map] at e
 cases d:Y2 (a.take j) (Y0 a j) with
 | some _=>rfl
 | none=>
  have c:=List.findIdx?_eq_none_iff.1 d a[i] (List.mem_take_iff_getElem.2 ⟨i,by omega,rfl⟩)
  have k:Y0 a j=a[j].name:=by unfold Y0;rw[List.getD_eq_getElem?_getD,List.getElem?_eq_getElem b];rfl
  rw[k] at c
  simp[e] at c
theorem Yi: ∀c∈R8,K5 c∧Nm c∧c.like=[]:=by
 have h: ∀c∈R8,(c.like=[]∧c.methods=[]∧c.fields.length≤1∧c.name.length≤100∧ ∀f∈c.fields,f.name.length≤100∧f.kind.length≤100):=by decide
 intro c g
 obtain ⟨b,a,i,d,e⟩:=h c g
 refine ⟨⟨by rw[b];simp,by omega,by rw[a];simp,by rw[a];simp⟩,⟨d,e,by rw[a];simp⟩,b⟩
theorem Q8P: ∀c∈R8,(c.name=Z9∧J3 c=[[]])∨(c.name=V8∧J3 c=[Z9])∨(c.name∈J1∧J3 c=[V8]):=by decide
theorem Q4c {l:List Cla} (p:F2 (Q7 l)) (w: ∀c∈l,c.name≠[]) (r: ∀c∈l,B5 (Q7 l) c=false):Xv (Q7 l):=by
 have k:lk (Q7 l) []=none:=by
  cases h:lk (Q7 l) [] with
  | none=>rfl
  | some c=>
   obtain ⟨e,hm,_⟩:=U8 h
   rcases List.mem_append.1 hm with hm | hm
   ·have: ∀c∈R8,c.name≠[]:=by decide
    exact absurd e (this c hm)
   ·exact absurd e (w c hm)
 have j:lk (Q7 l) Z9=some ⟨Z9,[],[],false,false,false,[],[]⟩:=p.lk (c:=⟨Z9,[],[],false,false,false,[],[]⟩) (List.mem_append_left _ (by decide))
 have g:lk (Q7 l) V8=some ⟨V8,Z9,[],false,false,false,[⟨I0,M9,false⟩],[]⟩:=p.lk (c:=⟨V8,Z9,[],false,false,false,[⟨I0,M9,false⟩],[]⟩) (List.mem_append_left _ (by decide))
 have o: ∀b,¬Reach (lk (Q7 l)) [] b:=fun b h=>by obtain ⟨c,f⟩:=h.left;rw[k] at f;cases f
 have q: ∀b,Reach (lk (Q7 l)) Z9 b→b=Z9:=by
  intro b h
  cases h with
  | refl=>rfl
  | step f d i=>
   rw[j] at f;cases f
   simp[J3] at d;subst d
   exact absurd i (o b)
 have s: ∀b,Reach (lk (Q7 l)) V8 b→b=V8∨b=Z9:=by
  intro b h
  cases h with
  | refl=>exact .inl rfl
  | step f d i=>
   rw[g] at f;cases f
   simp[J3] at d;subst d
   exact .inr (q b i)
 rintro a ⟨c,f,u,d,i⟩
 obtain ⟨e,hm,_⟩:=U8 f
 rcases List.mem_append.1 hm with hm | hm
 ·rcases Q8P c hm with ⟨m,n⟩ | ⟨m,n⟩ | ⟨m,n⟩<;>rw[n] at d<;>simp at d<;>subst d
  ·exact o _ i
  ·have:=q _ i
   rw[←e,m] at this
   exact absurd this (by decide)
  ·have y: ∀x∈J1,x≠V8∧x≠Z9:=by decide
   obtain ⟨v,t⟩:=y _ m
   rw[←e] at i
   rcases s _ i with h | h
   ·exact v h
   ·exact t h
 ·have:=r c hm
  unfold B5 at this
  have z:=List.any_eq_false.1 this u d
  apply z
  rw[List.contains_iff_mem,Zp,e];exact i
end Go.Hm
namespace Go.Proofs.YtjdiakhipmggjaaGreatDoor
open Go.Emb Go.RowKit Go.Kd Go.Hm
theorem Ai {s:X0} (h:right s=true):s.length≤38:=by
 simp only[right,Bool.and_eq_true,decide_eq_true_eq] at h
 have e:=Ac s
 have:(base s).1.length≤32:=by
  have d:=h.2
  have a:=Vv d
  cases b:(base s).1 with
  | nil=>simp
  | cons c r=>
   rw[b] at a
   simp only[name,Bool.and_eq_true,decide_eq_true_eq] at a
   exact a.1.1
 omega
theorem Rs {c:Cla} (h:L3 c=0):K5 c∧Nm c∧c.name≠[]:=by
 unfold L3 at h
 split at h
 ·cases h
 ·rename_i b
  split at h
  ·rename_i j
   simp only[Xr,Bool.or_eq_true,decide_eq_true_eq,not_or,List.any_eq_true,not_exists,not_and] at b
   obtain ⟨⟨⟨n,B⟩,t⟩,z⟩:=b
   simp only[Vj,Bool.and_eq_true] at j
   obtain ⟨⟨⟨⟨⟨⟨⟨⟨q,y⟩,w⟩,A⟩,v⟩,u⟩,s⟩,o⟩,l⟩:=j
   have a:W2 c.name=true:=List.all_eq_true.1 q c.name (by simp)
   have d: ∀m∈c.methods,m.params.length≤32∧m.catches.length≤32∧m.code.length≤200:=fun m b=>by
    have:=n m b
    simp only[Jz,Bool.or_eq_true,decide_eq_true_eq,not_or] at this
    omega
   refine ⟨⟨by omega,by omega,by omega,fun m b=>by have:=d m b;unfold SmM;omega⟩,⟨by have:=Q8D a;omega,fun f r=>?_,fun m b=>?_⟩,fun e=>by rw[e] at a;simp[W2] at a⟩
   ·have:=List.all_eq_true.1 o f r
    simp only[Nz,Bool.and_eq_true] at this
    have g:=Q6j this.1
    have i:=Ai this.2
    omega
   ·have:=List.all_eq_true.1 l m b
    simp only[S5,Bool.and_eq_true,Bool.or_eq_true,decide_eq_true_eq,List.all_eq_true] at this
    obtain ⟨⟨⟨_,g⟩,i⟩,_⟩:=this
    refine ⟨?_,fun p k=>by have:=Ai (g p k);omega⟩
    rcases i with e | e
    ·rw[e];simp
    ·have:=Ai e;omega
  ·cases h
end Go.Proofs.YtjdiakhipmggjaaGreatDoor

namespace Go.Hm
open Go.Kd
theorem Ua {α:Type} {f:α→Int} {xs:List α} {n:Nat} (h:n<xs.length) (a:L1 f xs 0=L1 f (xs.drop n) n):L1 f xs 0=if f xs[n]=0 then L1 f (xs.drop (n+1)) (n+1) else some (n,f xs[n]):=by
 rw[a,List.drop_eq_getElem_cons h];rfl
theorem Q5Z {a:List Cla} {n:Nat} (h:n<a.length) (k:X0):Y2 (a.take (n+1)) k=match Y2 (a.take n) k with
 | some i=>some i
 | none=>if a[n].name=k then some n else none:=by
 unfold Y2
 rw[List.take_add_one,List.getElem?_eq_getElem h]
 simp only[Option.toList_some,List.findIdx?_append]
 cases (a.take n).findIdx? fun c=>decide (c.name=k) with
 | some i=>rfl
 | none=>
  simp only[Option.none_or,List.findIdx?_cons,List.findIdx?_nil,List.length_take]
  by_cases e:a[n].name=k
  ·simp[e];omega
  ·simp[e]
end Go.Hm
namespace Go.Proofs.YtjdiakhipmggjaaGreatDoor
open Go.Emb Go.RowKit Go.Kd Go.Hm
variable {w : World} {K : Value → World → Prop} {σ : Q4} {v : Value} {l : List Cla}
theorem Bb {a:List Cla} {n:Nat} (h:n<a.length):Y0 a n=a[n].name:=by unfold Y0;rw[List.getD_eq_getElem?_getD,List.getElem?_eq_getElem h];rfl
set_option maxHeartbeats 1000000 in
theorem Q9m {lv:Value} (hs:X4 w σ) (hg:Glb σ) (hl:Sl 8 U4 σ lv l) (hlen:l.length≤1000) (hsm: ∀c∈l,K5 c)
 (h1: ∀i e w' σ',Ej L3 l=some (i,e)→Stp w σ w' σ'→K (.tuple #[.pointer none,I i,I e]) w')
 (h0: ∀v w' σ',Ej L3 l=none→Stp w σ w' σ'→Tab σ' v (Q7 l)→Ok (Q7 l)→F2 (Q7 l)→K (.tuple #[v,I 0,I 0]) w'):Q1 P F.ch [lv] w K:=Q6S (by
 unfold Q1z
 have hgl:R8.length=8:=rfl
 have hal:(Q7 l).length=8+l.length:=by simp[Q7,hgl]
 refine Q9G hs hg fun x0 w1 σ1 hk1 ha1=>?_
 refine Q0U hk1.sat fun r w2 hr hk2 hm2=>?_
 have ha2:=ha1.up hk2
 have hx0:x0.cells= #[x0]∧x0.oneCell'=true:=Q2K ha1
 have hx0s: ∃a n c,x0= .slice a n c:=by
  obtain ⟨cells,q1,_⟩:=ha1
  rcases q1.2 with ⟨rfl,_⟩ | ⟨g,cap,cur,rfl,_⟩<;>exact ⟨_,_,_,rfl⟩
 have hx0r:x0.ownBlock≠some r:=fun e=>by have:=(ha1.mem r e).2.1;omega
 obtain ⟨a0,n0,c0,hx0e⟩:=hx0s
 rw[hx0e]
 refine V1 (cells:= #[.slice a0 n0 c0, .map (some r)]) (by kernel_rfl) ?_
 rw[←hx0e]
 refine Q1x (cs:=[x0, .map (some r)]) hk2.sat fun bt w3 σ3 hbt hk3 hbm=>?_
 have hS3:=(hk1.trans hk2).trans hk3
 have ha3:=ha2.up hk3
 have hm3:=hm2.up hk3
 have hrw:w.heap.size≤r:=Nat.le_trans hk1.bel.size hr
 have hrl:r<w2.heap.size:=hm2.lt
 have hbtw:w.heap.size≤bt:=C2 hbt (hk1.trans hk2)
 have hrbt:r≠bt:=by omega
 have hx0b:x0.ownBlock≠some bt:=fun e=>by have:=(ha2.mem bt e).2.1;omega
 rw[L4,fa]
 refine Pz hbm rfl ?_
 refine Q6w ha3 ?_
 rw[hgl]
 have hl3:=hl.up hS3
 refine Q9 hl3 ?_
 -- classes, each by itself
 refine U3 l.length (fun n w'=> ∃σ' x,Stp w σ w' σ'∧SLe σ3 σ'∧J0 σ' w' bt [x, .map (some r)]∧V2 w.heap.size T.a 8 U4 σ' w' x (R8++l.take n)∧E4 σ' w' r []∧x.ownBlock≠some bt∧x.ownBlock≠some r∧L1 L3 l 0=L1 L3 (l.drop n) n)
  ⟨σ3,x0,hS3,SLe.refl _,hbm,by simpa using ha3,hm3,hx0b,hx0r,rfl⟩ fun n w4 d hn hinv=>?_
 obtain ⟨σ4,x,hS4,le4,hb4,ha4,hm4,hxb,hxr,hfb⟩:=hinv
 refine Z1 ?_
 refine Q5 (fun hh=>?_) (fun hh=>?_)
 ·have hn':n<l.length:=by simpa using hh
  refine W7 (hl3.lift le4) hn' fun p cells hl1 hl2 hr1=>?_
  refine Y4 hS4.sat hl1 hl2 ?_
  refine Y1 hS4.sat (by rfl) hl2 (Rep.one hr1) fun q w5 σ5 hk5 hq5=>?_
  have hS5:=hS4.trans hk5
  have hr5:=RCl_lift hr1 ⟨hk5.le⟩
  refine Y4 hk5.sat hq5 hl2 ?_
  have hsmn:=hsm _ (List.getElem_mem hn')
  refine Q9I hk5.sat (hg.lift ⟨hS5.le⟩) hr5 hsmn.1 fun w6 σ6 hk6=>?_
  have hS6:=hS5.trans hk6
  have hfb2:=Ua hn' hfb
  refine Vr ?_
  refine Q5 (fun hh2=>?_) (fun hh2=>?_)
  ·have hne: ¬L3 l[n]=0:=by simpa using hh2
   rw[if_neg hne] at hfb2
   refine h1 _ _ _ _ ?_ hS6
   unfold Ej
   rw[hfb2]
  ·have hz:L3 l[n]=0:=by simpa using hh2
   rw[if_pos hz] at hfb2
   have hk56:=hk5.trans hk6
   have hb6:=hb4.up hk56
   have ha6:=ha4.up hk56
   have hm6:=hm4.up hk56
   have hq6:=hq5.up hk6
   have hr6:=RCl_lift hr5 ⟨hk6.le⟩
   have hxs: ∀k,x.ownBlock=some k→k<w6.heap.size:=fun k hk=>(ha6.mem k hk).2.1
   refine U6 hk6.sat ?_
   refine X2 (.pointer (some ⟨bt,0,none⟩)) (fun w hb=>by rw[L4];exact X5 rfl) ?_
   refine X2 (.pointer (some ((⟨bt,0,none⟩:Addr).add 0))) (fun t w hb e=>by rw[e,fa];exact X5 rfl) ?_
   refine X2 x (fun t w hb e=>by rw[e];exact Pz (hb6.step hb.stp) rfl (X5 rfl)) ?_
   refine X2 (.agg cells.toArray) (fun w hb=>Y4 hb.sat hq6 hl2 (X5 rfl)) ?_
   refine Ou (Φ:=fun σ' v=> ∃ds:List Value,v= .agg ds.toArray∧ds.length=8∧U4 σ' l[n] ds) (fun t w hb e=>by
    rw[e];exact Q8V hb.sat hr6 hsmn fun lv fv mv w' σ' hk hrc=>Kn hb hk ⟨_,rfl,rfl,hrc⟩) ?_
   refine Ou (w:=w6) (σ:=σ6) (Φ:=fun σ' v=>Sl 8 U4 σ' v [l[n]]) (fun t w hb e=>by
    obtain ⟨σ',hk,ds,rfl,hd1,hd2⟩:=e
    refine T4 (R:=U4) (sz:=8) hk.sat [.agg ds.toArray] [l[n]] rfl rfl (by simpa [Value.cells] using hd1) rfl ⟨by simpa [Value.cells] using hd2,trivial⟩ fun u w2 σ2 hk2 hu=>?_
    exact ⟨hk2.bel,σ2,hk.trans hk2,hu⟩) ?_
   rintro t43 t44 t45 t46 t47 t48 w7 hb7 _ _ e45 _ _ ⟨σ8,hk8,hu8⟩
   subst e45
   have hS8:=hS6.trans hk8
   have hb8:=hb6.up hk8
   have ha8:=ha6.up hk8
   have hm8:=hm6.up hk8
   have hbl:=hb6.lt
   have hml:=hm6.lt
   refine Oy hS8 ha8 hu8 rfl (by simp[hgl];omega) (by simp[hgl];omega) fun x' w9 hn9 hS9 ha9 hat9=>?_
   have hb9:=hb8.nx hn9 hxb
   have hm9:=hm8.nx hn9 hxr
   have hxb':x'.ownBlock≠some bt:=fun e=>by
    rcases hat9 with e2 | e2
    ·exact hxb (e2▸e)
    ·have:=e2 bt e;have:=hk8.bel.size;omega
   have hxr':x'.ownBlock≠some r:=fun e=>by
    rcases hat9 with e2 | e2
    ·exact hxr (e2▸e)
    ·have:=e2 r e;have:=hk8.bel.size;omega
   obtain ⟨hxc1,hxc2⟩:=Q2K ha9
   rw[L4,fa]
   refine Ce hb9 (by simp) hxc1 hxc2 fun w10 u10 hb10=>?_
   have hS10:=u10.stp hS9 hbtw hb9.1
   have k10:Kpt (fun k=>k=bt) w9 w10:=Kpt.of_upd u10 rfl
   refine M7 ?_
   refine Y3 hl3.max hn' ⟨σ8,x',hS10,le4.more ⟨fun b o e=>hk8.le _ _ (hk56.le _ _ e)⟩,hb10,?_,hm9.kp k10 hrbt,hxb',hxr',hfb2⟩
   have:=ha9.kp k10 fun k hk e=>hxb' (e▸hk)
   rw[List.take_add_one,List.getElem?_eq_getElem hn',←List.append_assoc]
   exact this
 have hn': ¬n<l.length:=by simpa using hh
 rw[List.take_of_length_le (by omega)] at ha4
 rw[List.drop_eq_nil_of_le (by omega)] at hfb
 have hfb:L1 L3 l 0=none:=hfb
 have hck:=B1 hfb
 have hcf: ∀c∈l,K5 c∧Nm c∧c.name≠[]:=fun c hc=>Rs (hck c hc)
 have hsmall: ∀c∈Q7 l,K5 c:=fun c hc=>by
  rcases List.mem_append.1 hc with hc | hc
  ·exact (Yi c hc).1
  ·exact (hcf c hc).1
 have hnmall: ∀c∈Q7 l,Nm c:=fun c hc=>by
  rcases List.mem_append.1 hc with hc | hc
  ·exact (Yi c hc).2.1
  ·exact (hcf c hc).2.1
 have hlenall:(Q7 l).length≤100000:=by omega
 unfold Ej at h1 h0
 rw[hfb] at h1 h0
 simp only at h1 h0
 -- from now on the classes stay
 obtain ⟨σ5,hS5,hv5,le5,old5⟩:=ha4.keep hS4
 have hb5:J0 σ5 w4 bt _:=⟨(old5 bt fun e=>hxb e.symm).trans hb4.1,hb4.2⟩
 have hm5:E4 σ5 w4 r []:=⟨(old5 r fun e=>hxr e.symm).trans hm4.1,hm4.2⟩
 obtain ⟨σ6,hS6,hb6,le6,old6⟩:=hb5.keep hS5 hbtw
 have hm6:E4 σ6 w4 r []:=⟨(old6 r hrbt).trans hm5.1,hm5.2⟩
 have hv6:Sl 8 U4 σ6 x (Q7 l):=hv5.le le6
 clear hb5 hb4 ha4
 rw[L4,fa]
 refine ld hS6.sat hb6 rfl ?_
 refine Q9 hv6 ?_
 refine U3 (Q7 l).length (fun n w'=> ∃σ' m,Stp w σ w' σ'∧SLe σ6 σ'∧E4 σ' w' r m∧(∀k,E5 m k=(Y2 ((Q7 l).take n) k).map (fun i:Nat=>I (i:Int)))∧ ∀j,j<n→(Y2 ((Q7 l).take j) (Y0 (Q7 l) j)).isSome=false)
  ⟨σ6,[],hS6,SLe.refl _,hm6,by simp[E5,Y2],by intro j hj;omega⟩ fun n w5 d hn2 hinv=>?_
 obtain ⟨σ7,m,hS7,le7,hm7,hlm,hnd⟩:=hinv
 refine Z1 ?_
 refine Q5 (fun hh2=>?_) (fun hh2=>?_)
 ·have hn3:n<(Q7 l).length:=by simpa using hh2
  refine W7 (hv6.lift le7) hn3 fun p cells hl1 hl2 hr1=>?_
  refine Y4 hS7.sat hl1 hl2 ?_
  refine Y1 hS7.sat (by rfl) hl2 (Rep.one hr1) fun q w6 σ8 hk8 hq8=>?_
  obtain ⟨lv',fv,mv,rfl,f1,f2,f3,f4,f5⟩:=hr1
  have hS8:=hS7.trans hk8
  have le8:SLe σ6 σ8:=le7.more ⟨hk8.le⟩
  have hm8:=hm7.up hk8
  have hb8:=hb6.lift le8
  rw[fa]
  refine ld hk8.sat hq8 rfl ?_
  refine Ni ?_
  unfold Zf
  rw[L4,fa]
  refine ld hk8.sat hb8 rfl ?_
  refine Q7S X9 hm8.2 _ ?_
  refine Z7 (vs:=[_,_]) rfl ?_
  refine Z7 (vs:=[_,_]) rfl ?_
  have hna:=Bb hn3
  have hfd:=hlm (Q7 l)[n].name
  cases hfc:Y2 ((Q7 l).take n) (Q7 l)[n].name with
  | some i=>
   rw[hfc] at hfd
   rw[hfd]
   refine L7 ?_
   have hdup:Es (Q7 l)=some n:=by
    unfold Es
    rw[List.find?_range_eq_some]
    refine ⟨by rw[hna,hfc];rfl,by simpa using hn3,fun j hj=>by rw[hnd j hj];rfl⟩
   refine Mq ⟨by omega,by omega⟩ ?_
   refine h1 _ _ _ _ ?_ hS8
   rw[hdup]
   rfl
  | none=>
   rw[hfc] at hfd
   rw[hfd]
   refine M0 ?_
   refine U6 hk8.sat ?_
   refine X2 (.pointer (some ⟨bt,0,none⟩)) (fun w hb=>by rw[L4];exact X5 rfl) ?_
   refine X2 (.pointer (some ((⟨bt,0,none⟩:Addr).add 1))) (fun t w hb e=>by rw[e,fa];exact X5 rfl) ?_
   refine X2 (.pointer (some (q.add 0))) (fun w hb=>by rw[fa];exact X5 rfl) ?_
   refine X2 (.map (some r)) (fun t w hb e=>by rw[e];exact ld hb.sat hb8 rfl (X5 rfl)) ?_
   refine X2 (S (Q7 l)[n].name) (fun t w hb e=>by rw[e];exact ld hb.sat hq8 rfl (X5 rfl)) ?_
   rintro t71 t72 t74 t73 t75 w9 hb9 _ _ _ rfl rfl
   refine Fz X9 (hm8.up hb9.stp) _ (I n) fun w10 u10 hm10=>?_
   have hS9:=hS8.trans hb9.stp
   have hS10:=u10.stp hS9 hrw hm10.1
   refine M7 ?_
   refine Y3 (by omega) hn3 ⟨σ8,_,hS10,le8,hm10,fun k=>?_,fun j hj=>?_⟩
   ·rw[Q2z,Q5Z hn3 k]
    by_cases e:(Q7 l)[n].name=k
    ·subst e
     rw[if_pos rfl,hfc];simp
    ·rw[if_neg e,hlm k]
     cases Y2 ((Q7 l).take n) k with
     | some i=>rfl
     | none=>simp[e]
   ·by_cases e:j=n
    ·subst e;rw[hna,hfc];rfl
    ·exact hnd j (by omega)
 have hn3: ¬n<(Q7 l).length:=by simpa using hh2
 have hne:n=(Q7 l).length:=by omega
 subst hne
 rw[List.take_of_length_le (Nat.le_refl _)] at hlm
 have hdup:Es (Q7 l)=none:=by
  unfold Es
  rw[List.find?_eq_none]
  intro j hj
  rw[hnd j (by simpa using hj)];simp
 rw[hdup] at h1 h0
 simp only at h1 h0
 have hown:=Bh hdup
 obtain ⟨σ8,hS8,hm8,le8,_⟩:=hm7.keep hS7 hrw
 have le68:SLe σ6 σ8:=le7.more ⟨le8⟩
 have ht8:Tab σ8 (.pointer (some ⟨bt,0,none⟩)) (Q7 l):=⟨⟨bt,0,none⟩,x,r,m,rfl,hb6.lift le68,hv6.lift le68,hm8,hlm⟩
 have hb8:=hb6.lift le68
 have hv8:=hv6.lift le68
 clear hm7 hm8 hh2 hn3 hn2 hh hn' hn hnd
 have hdr:(Q7 l).drop 8=l:=by simp[Q7,hgl]
 rw[L4,fa]
 refine ld hS8.sat hb8 rfl ?_
 refine Sh hv8 (some (I (8:Nat))) none 8 (Q7 l).length (.inr rfl) (.inl ⟨rfl,rfl⟩) (by omega) (Nat.le_refl _) fun v9 hv9=>?_
 rw[hdr,List.take_of_length_le (by omega)] at hv9
 refine Q9 hv9 ?_
 refine U3 l.length (fun n w'=> ∃σ',Stp w σ w' σ'∧SLe σ8 σ'∧L1 (fun c=>(L2 (Q7 l) c:Int)) l 0=L1 (fun c=>(L2 (Q7 l) c:Int)) (l.drop n) n) ⟨σ8,hS8,SLe.refl _,rfl⟩ fun n w6 d hn hinv=>?_
 obtain ⟨σ9,hS9,le9,hfu⟩:=hinv
 refine Z1 ?_
 refine Q5 (fun hh=>?_) (fun hh=>?_)
 ·have hn':n<l.length:=by simpa using hh
  refine W7 (hv9.lift le9) hn' fun p cells hl1 hl2 hr1=>?_
  refine Y4 hS9.sat hl1 hl2 ?_
  refine Y1 hS9.sat (by rfl) hl2 (Rep.one hr1) fun q w7 σ10 hk10 hq10=>?_
  have hS10:=hS9.trans hk10
  refine Y4 hk10.sat hq10 hl2 ?_
  have hfu2:=Ua hn' hfu
  refine Q8o hk10.sat (ht8.lift (le9.more ⟨hk10.le⟩)) (RCl_lift hr1 ⟨hk10.le⟩) fun w8 σ11 hk11=>?_
  refine Vr ?_
  refine Q5 (fun hh2=>?_) (fun hh2=>?_)
  ·have hne: ¬(L2 (Q7 l) l[n]:Int)=0:=by simpa using hh2
   rw[if_neg hne] at hfu2
   refine h1 _ _ _ _ ?_ (hS10.trans hk11)
   rw[hfu2]
  ·have hz:(L2 (Q7 l) l[n]:Int)=0:=by simpa using hh2
   rw[if_pos hz] at hfu2
   refine M7 ?_
   exact Y3 hl3.max hn' ⟨σ11,hS10.trans hk11,le9.more ⟨fun b o e=>hk11.le _ _ (hk10.le _ _ e)⟩,hfu2⟩
 have hn': ¬n<l.length:=by simpa using hh
 rw[List.drop_eq_nil_of_le (by omega)] at hfu
 have hfu:L1 (fun c=>(L2 (Q7 l) c:Int)) l 0=none:=hfu
 rw[hfu] at h1 h0
 simp only at h1 h0
 have hup:=B1 hfu
 have ht9:=ht8.lift le9
 clear hh hn' hn
 rw[L4,fa]
 refine ld hS9.sat (hb8.lift le9) rfl ?_
 refine Sh (hv8.lift le9) (some (I (8:Nat))) none 8 (Q7 l).length (.inr rfl) (.inl ⟨rfl,rfl⟩) (by omega) (Nat.le_refl _) fun v10 hv10=>?_
 rw[hdr,List.take_of_length_le (by omega)] at hv10
 rw[Qb]
 refine So (B5 (Q7 l)) hS9.sat hv10 (fun c cs w7 K hc hs7 hr hlen hK=>Y8 (first:=[.pointer (some ⟨bt,0,none⟩)]) (caps:=[]) ?_) fun w7 hb7=>?_
 ·exact X0n hs7 ht9 hlenall hsmall hr fun w' σ' hk=>hK w' hk.bel
 have hS10:=hS9.trans (Stp.of_below hS9.sat hb7)
 refine Xx ?_
 rw[Zu]
 cases hlo:l.findIdx? (B5 (Q7 l)) with
 | some i=>
  refine L7 ?_
  refine h1 _ _ _ _ ?_ hS10
  rw[hlo];rfl
 | none=>
  rw[hlo] at h1 h0
  simp only at h1 h0
  refine M0 ?_
  have hlo': ∀c∈l,B5 (Q7 l) c=false:=fun c hc=>List.findIdx?_eq_none_iff.1 hlo c hc
  have hacy:=Q4c hown (fun c hc=>(hcf c hc).2.2) hlo'
  have hfull:Q8m (Q7 l):=fun c hc u hu=>by
   rcases List.mem_append.1 hc with hc | hc
   ·rw[(Yi c hc).2.2] at hu;simp at hu
   ·have:=hup c hc
    unfold L2 at this
    split at this
    ·simp at this
    ·split at this
     ·simp at this
     ·rename_i hnb
      have hnb:c.like.any (N3 (Q7 l))=false:=eq_false_of_ne_true hnb
      have:=List.any_eq_false.1 hnb u hu
      unfold N3 at this
      cases hd:lk (Q7 l) u with
      | none=>rw[hd] at this;simp at this
      | some d=>exact ⟨d,rfl⟩
  have hok:Ok (Q7 l):=⟨hacy,hlenall,hsmall,hfull,hnmall⟩
  refine X01 (frm:=8) hS10.sat (ht9.lift ⟨(Stp.of_below hS9.sat hb7).le⟩) hacy hown hlenall hsmall (by omega) (by omega) fun v11 w8 σ11 hk11 hv11 hol hoi=>?_
  have hS11:=hS10.trans hk11
  have ht11:=ht9.lift ⟨fun b o e=>hk11.le _ _ e⟩
  refine Q9 hv11 ?_
  have hil:(ints (U7 (Q7 l) 8)).length=(U7 (Q7 l) 8).length:=by simp
  rw[hil]
  refine U3 (U7 (Q7 l) 8).length (fun n w'=> ∃σ',Stp w σ w' σ'∧SLe σ11 σ'∧ ∀j∈(U7 (Q7 l) 8).take n,U5 (Q7 l) ((Q7 l).getD j Cla.zero)=0) ⟨σ11,hS11,SLe.refl _,by simp⟩ fun n w9 d hn hinv=>?_
  obtain ⟨σ12,hS12,le12,hno⟩:=hinv
  refine Z1 ?_
  refine Q5 (fun hh=>?_) (fun hh=>?_)
  ·have hn':n<(U7 (Q7 l) 8).length:=by simpa using hh
   refine W7 (hv11.lift le12) (by rw[hil];exact hn') fun p cells hl1 hl2 hr1=>?_
   obtain ⟨rfl,_⟩:=hr1
   refine X8 hS12.sat hl1 rfl ?_
   simp only[List.getElem_map]
   rw[L4,fa]
   have le8x:SLe σ8 σ12:=le9.more (SLe.more ⟨hk11.le⟩ le12)
   refine ld hS12.sat (hb8.lift le8x) rfl ?_
   have hji:=hoi _ (List.getElem_mem hn')
   refine W7 (hv8.lift le8x) hji fun p2 cells hl1 hl2 hr1=>?_
   refine Y4 hS12.sat hl1 hl2 ?_
   have hat:(Q7 l).getD (U7 (Q7 l) 8)[n] Cla.zero=(Q7 l)[(U7 (Q7 l) 8)[n]]:=by rw[List.getD_eq_getElem?_getD,List.getElem?_eq_getElem hji];rfl
   have hmem:=List.getElem_mem hji
   refine Q7X hS12.sat (ht11.lift le12) hok hr1 (hsmall _ hmem) (hnmall _ hmem) fun w10 σ13 hk13=>?_
   have hS13:=hS12.trans hk13
   refine Vr ?_
   refine Q5 (fun hh2=>?_) (fun hh2=>?_)
   ·have hne: ¬U5 (Q7 l) (Q7 l)[(U7 (Q7 l) 8)[n]]=0:=by simpa using hh2
    refine Mq ⟨by omega,by omega⟩ ?_
    have hfind:(U7 (Q7 l) 8).find? (fun j=> !decide (U5 (Q7 l) ((Q7 l).getD j Cla.zero)=0))=some (U7 (Q7 l) 8)[n]:=by
     rw[List.find?_eq_some_iff_getElem]
     refine ⟨by rw[hat];simpa using hne,n,hn',rfl,fun j hj=>?_⟩
     have:=hno _ (List.mem_take_iff_getElem.2 ⟨j,by omega,rfl⟩)
     rw[this];simp
    have:=h1 (((U7 (Q7 l) 8)[n]:Int)-8) (U5 (Q7 l) (Q7 l)[(U7 (Q7 l) 8)[n]]) w10 σ13 (by rw[hfind];simp only[hat]) hS13
    exact this
   ·have hz:U5 (Q7 l) (Q7 l)[(U7 (Q7 l) 8)[n]]=0:=by simpa using hh2
    refine M7 ?_
    refine Y3 (by omega) hn' ⟨σ13,hS13,le12.more ⟨hk13.le⟩,fun j hj=>?_⟩
    rw[List.take_add_one,List.getElem?_eq_getElem hn'] at hj
    rcases List.mem_append.1 hj with hj | hj
    ·exact hno j hj
    ·simp at hj;subst hj;rw[hat];exact hz
  ·have hn': ¬n<(U7 (Q7 l) 8).length:=by simpa using hh
   rw[List.take_of_length_le (by omega)] at hno
   have hfind:(U7 (Q7 l) 8).find? (fun j=> !decide (U5 (Q7 l) ((Q7 l).getD j Cla.zero)=0))=none:=by
    rw[List.find?_eq_none]
    intro j hj
    rw[hno j hj];simp
   rw[hfind] at h0
   exact h0 _ _ _ rfl hS12 (ht11.lift le12) hok hown)
end Go.Proofs.YtjdiakhipmggjaaGreatDoor

namespace Go.Hm
open Go.Kd
def Q7C (m:Hm.Met):Bool:= !(decide (50<m.code.length)||decide (8<m.params.length)||decide (8<m.catches.length))
def Q8S (c:Cla):Bool:= !(decide (6<c.like.length)||decide (6<c.fields.length)||decide (6<c.methods.length))&&c.methods.all Q7C
def Q8W (l:List Cla):Bool:= !decide (12<l.length)&&l.all Q8S
theorem Q7Z {l:List Cla} (h:Q8W l=true):l.length≤12∧ ∀c∈l,Q8S c=true:=by
 simp only[Q8W,Bool.and_eq_true,Bool.not_eq_true',decide_eq_false_iff_not,List.all_eq_true] at h
 exact ⟨by omega,h.2⟩
theorem X0H {l:List Cla} (h:Q8W l=true): ∀c∈l,K5 c:=by
 intro c f
 have:=(Q7Z h).2 c f
 simp only[Q8S,Q7C,Bool.and_eq_true,Bool.not_eq_true',Bool.or_eq_false_iff,decide_eq_false_iff_not,List.all_eq_true] at this
 obtain ⟨⟨⟨a,b⟩,g⟩,d⟩:=this
 refine ⟨by omega,by omega,by omega,fun m e=>?_⟩
 obtain ⟨⟨p,q⟩,r⟩:=d m e
 exact ⟨by omega,by omega,by omega⟩
end Go.Hm
namespace Go.Proofs.YtjdiakhipmggjaaGreatDoor
open Go.Emb Go.RowKit Go.Kd Go.Hm
variable {w : World} {K : Value → World → Prop} {σ : Q4} {v : Value} {l : List Cla}
end Go.Proofs.YtjdiakhipmggjaaGreatDoor

namespace Go.Proofs.YtjdiakhipmggjaaGreatDoor
open Go.Emb Go.RowKit Go.Kd Go.Hm
variable {w : World} {K : Value → World → Prop} {σ : Q4} {v : Value} {l : List Cla}
theorem X1l:P.underlying T.l=some (.pointer T.y):=by kernel_rfl
theorem Q3n (d:Nat) (o:Option Addr):(Op.equalIn (d+1) T.l (.pointer o) (.pointer none)).run P w= .ok o.isNone w:=by
 cases o<;>simp[Op.equalIn,run_underlying X1l]
theorem Q74 {a:Addr} {b c:Operand} (h:K (.bool false) w):Q3 P .eql T.l b c (.pointer (some a)) (.pointer none) w K:=by
 have e:(Op.equal T.l (.pointer (some a)) (.pointer none)).run P w= .ok false w:=Q3n 9999 _
 unfold Q3
 rw[X7 (v:= .bool false) (w':=w) (by simp[eqGuard,Go.binOp,e])]
 exact h
end Go.Proofs.YtjdiakhipmggjaaGreatDoor

namespace Go.Hm
open Go.Kd
theorem Q3M {l:List Cla} {frm:Nat}: ∀(f:Nat) (a:List Nat) (i:Nat),(∀y∈a,y∈F6 l frm f a i)∧(0<f→frm≤i→i∈F6 l frm f a i):=by
 intro f
 induction f with
 | zero=>intro a i;exact ⟨fun y b=>b,fun h=>by omega⟩
 | succ f g=>
  intro a i
  have c: ∀(e:List X0) (o:List Nat),∀y∈o,y∈e.foldl (fun a n=>F6 l frm f a ((Y2 l n).getD 0)) o:=by
   intro e
   induction e with
   | nil=>intro o y b;exact b
   | cons u r d=>intro o y b;exact d _ y ((g o _).1 y b)
  simp only[F6]
  split
  ·exact ⟨fun y b=>b,fun _ h=>by omega⟩
  ·split
   ·rename_i h;exact ⟨fun y b=>b,fun _ _=>h⟩
   ·exact ⟨fun y b=>List.mem_append_left _ (c _ _ y b),fun _ _=>by simp⟩
theorem Q7p {l:List Cla} {frm i:Nat} (e:frm≤i) (f:i<l.length):i∈U7 l frm:=by
 unfold U7
 have key: ∀(is b:List Nat),(∀y∈b,y∈is.foldl (fun b i=>F6 l frm (l.length+1) b i) b)∧(i∈is→i∈is.foldl (fun b i=>F6 l frm (l.length+1) b i) b):=by
  intro is
  induction is with
  | nil=>intro b;exact ⟨fun y c=>c,fun h=>by simp at h⟩
  | cons a r d=>
   intro b
   refine ⟨fun y c=>(d _).1 y ((Q3M _ _ _).1 y c),fun h=>?_⟩
   rcases List.mem_cons.1 h with rfl | h
   ·exact (d _).1 _ ((Q3M _ _ _).2 (by omega) e)
   ·exact (d _).2 h
 refine (key _ _).2 ?_
 rw[List.mem_drop_iff_getElem]
 exact ⟨i-frm,by simp;omega,by simp;omega⟩
theorem Q7D {s:X0} (h:W2 s=true):name s=true:=Vv (by rw[h,Bool.or_true])
theorem Q4A {a:X0} (h:name a=true):arr a=false:=by
 cases d:arr a with
 | false=>rfl
 | true=>
  exfalso
  have e:2≤a.length∧a.drop (a.length-2)=[91,93]:=by simpa [arr] using d
  have b:(93:UInt8)∈a:=List.mem_of_mem_drop (i:=a.length-2) (by rw[e.2];simp)
  cases a with
  | nil=>simp at b
  | cons c r=>
   simp only[name,Bool.and_eq_true,List.all_eq_true] at h
   have:=h.2 _ b
   revert this;decide
end Go.Hm
namespace Go.Proofs.YtjdiakhipmggjaaGreatDoor
open Go.Emb Go.RowKit Go.Kd Go.Hm
theorem Q8c {a:X0} (h:name a=true):base a=(a,0):=by rw[Zl,Q4A h];simp
theorem Wh {s:X0} (h:W2 s=true):arr s=false∧base s=(s,0)∧right s=true∧plain s=false∧elem s=[]∧s≠C0∧s≠[]:=by
 have b:=Hm.Q7D h
 have a:=Q4A b
 have c:=Q8c b
 refine ⟨a,c,?_,?_,by simp[elem,a],?_,?_⟩
 ·simp[right,c,h]
 ·cases d:plain s with
  | false=>rfl
  | true=>
   simp only[plain,Bool.or_eq_true,decide_eq_true_eq] at d
   rcases d with (e | e) | e<;>subst e<;>revert h<;>decide
 ·rintro rfl;revert h;decide
 ·rintro rfl;revert h;decide
structure Wf (l : List Cla) : Prop where
  ck : ∀ c ∈ l, L3 c = 0
  own : F2 (Q7 l)
  acy : Xv (Q7 l)
  up : ∀ c ∈ l, L2 (Q7 l) c = 0
  mem : ∀ c ∈ l, U5 (Q7 l) c = 0
theorem X1k {l:List Cla} (h:Ej L3 l=none):Wf l:=by
 unfold Ej at h
 split at h
 ·cases h
 rename_i n
 split at h
 ·cases h
 rename_i p
 split at h
 ·cases h
 rename_i k
 split at h
 ·cases h
 rename_i j
 split at h
 ·cases h
 rename_i o
 have d:=B1 n
 have a:=Bh p
 have g: ∀c∈l,B5 (Q7 l) c=false:=fun c b=>List.findIdx?_eq_none_iff.1 j c b
 refine ⟨d,a,Q4c a (fun c b=>(Rs (d c b)).2.2) g,fun c b=>by have:=B1 k c b;omega,fun c b=>?_⟩
 obtain ⟨i,m,rfl⟩:=List.getElem_of_mem b
 have f:R8.length=8:=rfl
 have:=List.find?_eq_none.1 o (8+i) (Q7p (by omega) (by simp[Q7,f];omega))
 have e:(Q7 l).getD (8+i) Cla.zero=l[i]:=by
  rw[List.getD_eq_getElem?_getD,Q7,List.getElem?_append_right (by omega),f,show 8+i-8=i by omega,List.getElem?_eq_getElem m];rfl
 rw[e] at this
 simpa using this
section
variable {l : List Cla} (wf : Wf l)
include wf
theorem Wf.names {c:Cla} (hc:c∈Q7 l):W2 c.name=true:=by
 rcases List.mem_append.1 hc with hc | hc
 ·have: ∀c∈R8,W2 c.name=true:=by decide+kernel
  exact this c hc
 ·have:=wf.ck c hc
  unfold L3 at this
  split at this
  ·cases this
  ·split at this
   ·rename_i a
    simp only[Vj,Bool.and_eq_true] at a
    obtain ⟨⟨⟨⟨⟨⟨⟨⟨b,_⟩,_⟩,_⟩,_⟩,_⟩,_⟩,_⟩,_⟩:=a
    exact List.all_eq_true.1 b c.name (by simp)
   ·cases this
theorem Wf.lkn {n:X0} {c:Cla} (h:lk (Q7 l) n=some c):W2 n=true:=by
 obtain ⟨e,a,_⟩:=U8 h
 rw[←e];exact wf.names a
theorem Wf.root:lk (Q7 l) Z9=some ⟨Z9,[],[],false,false,false,[],[]⟩:=wf.own.lk (c:=⟨Z9,[],[],false,false,false,[],[]⟩) (List.mem_append_left _ (by decide))
theorem Wf.fault:lk (Q7 l) V8=some ⟨V8,Z9,[],false,false,false,[⟨I0,M9,false⟩],[]⟩:=wf.own.lk (c:=⟨V8,Z9,[],false,false,false,[⟨I0,M9,false⟩],[]⟩) (List.mem_append_left _ (by decide))
theorem Wf.super {c:Cla} (hc:c∈Q7 l):c.name=Z9∨ ∃d,lk (Q7 l) c.super=some d:=by
 rcases List.mem_append.1 hc with hc | hc
 ·have: ∀c∈R8,c.name=Z9∨c.super=Z9∨c.super=V8:=by decide
  rcases this c hc with h | h | h
  ·exact .inl h
  ·exact .inr ⟨_,h▸wf.root⟩
  ·exact .inr ⟨_,h▸wf.fault⟩
 ·right
  have:=wf.up c hc
  unfold L2 at this
  split at this
  ·cases this
  ·rename_i h
   unfold K8 at h
   cases a:lk (Q7 l) c.super with
   | none=>rw[a] at h;simp at h
   | some d=>exact ⟨d,rfl⟩
theorem Wf.atRoot {b:X0} (h:Hm.Reach (lk (Q7 l)) Z9 b):b=Z9:=by
 cases h with
 | refl=>rfl
 | step c a e=>
  rw[wf.root] at c;cases c
  simp[J3] at a;subst a
  obtain ⟨d,f⟩:=e.left
  exact absurd (wf.lkn f) (by decide)
theorem Wf.kind {n:X0} {c:Cla} (h:lk (Q7 l) n=some c):N9 (Q7 l) n=true:=by
 obtain ⟨g,b,a,d,i,e,f⟩:=Wh (wf.lkn h)
 have:Q0w (Q7 l) n=true:=by rw[Q1N,h];rfl
 simp[N9,a,b,this]
theorem Wf.sub_iff {a b:X0}:Ob (Q7 l) a b=true↔N9 (Q7 l) a=true∧N9 (Q7 l) b=true∧(a=b∨(plain a=false∧plain b=false∧(a=C0∨(elem a≠[]∧b=Z9)∨(lk (Q7 l) a≠none∧Hm.Reach (lk (Q7 l)) a b)))):=by
 unfold Ob
 cases j:N9 (Q7 l) a<;>cases k:N9 (Q7 l) b<;>simp
 by_cases e:a=b
 ·simp[e]
 cases pa:plain a<;>cases m:plain b<;>simp[e]
 by_cases f:a=C0
 ·simp[f]
 simp only[f,false_or]
 by_cases d:elem a=[]
 ·simp only[d,if_true,not_true_eq_false,false_and,false_or,Zp]
  constructor
  ·intro h;obtain ⟨c,i⟩:=h.left;exact ⟨by rw[i];simp,h⟩
  ·intro h;exact h.2
 ·simp only[d,if_false,not_false_eq_true,true_and]
  constructor
  ·exact .inl
  ·rintro (h | ⟨h,_⟩)
   ·exact h
   ·cases g:lk (Q7 l) a with
    | none=>exact absurd g h
    | some c=>exact absurd (Wh (wf.lkn g)).2.2.2.2.1 d
theorem Wf.sub_class {a b:X0} {c:Cla} (e:lk (Q7 l) a=some c):Ob (Q7 l) a b=true↔Hm.Reach (lk (Q7 l)) a b:=by
 obtain ⟨m,o,n,g,j,i,k⟩:=Wh (wf.lkn e)
 rw[wf.sub_iff]
 constructor
 ·rintro ⟨_,_,rfl | ⟨_,_,h | ⟨h,_⟩ | ⟨_,h⟩⟩⟩
  ·exact .refl e
  ·exact absurd h i
  ·exact absurd j h
  ·exact h
 ·intro h
  obtain ⟨d,f⟩:=h.right
  exact ⟨wf.kind e,wf.kind f, .inr ⟨g,(Wh (wf.lkn f)).2.2.2.1, .inr (.inr ⟨by rw[e];simp,h⟩)⟩⟩
end
end Go.Proofs.YtjdiakhipmggjaaGreatDoor

namespace Go.Proofs.YtjdiakhipmggjaaGreatDoor
open Go.Emb Go.RowKit Go.Kd Go.Hm
theorem Q5f {L:List Cla} (i:Xv L): ∀(k:Nat) {n:X0} {c:Cla},B2 L n<k→c∈chain L n→Hm.Reach (lk L) n c.name∧lk L c.name=some c:=by
 intro k
 induction k with
 | zero=>intro n c h;omega
 | succ k j=>
  intro n c p hc
  rw[F7 i] at hc
  cases a:lk L n with
  | none=>rw[a] at hc;simp at hc
  | some d=>
   rw[a] at hc
   have b:=(U8 a).1
   rcases List.mem_cons.1 hc with rfl | hc
   ·rw[b];exact ⟨.refl a,a⟩
   ·cases f:lk L d.super with
    | none=>rw[Qn f] at hc;simp at hc
    | some e=>
     have g:d.super∈J3 d:=by simp[J3]
     obtain ⟨m,o⟩:=j (by have:=Xk i a g f;omega) hc
     exact ⟨.step a g m,o⟩
section
variable {l : List Cla} (wf : Wf l)
include wf
theorem Wf.lkArr {a:X0} {c:Cla} (h:lk (Q7 l) a=some c):elem a=[]:=(Wh (wf.lkn h)).2.2.2.2.1
theorem Wf.sub_refl {a:X0} (h:N9 (Q7 l) a=true):Ob (Q7 l) a a=true:=wf.sub_iff.2 ⟨h,h, .inl rfl⟩
end
end Go.Proofs.YtjdiakhipmggjaaGreatDoor

namespace Go.Proofs.YtjdiakhipmggjaaGreatDoor
open Go.Emb Go.RowKit Go.Kd Go.Hm
theorem Q5d {c:Cla} (h:L3 c=0):W2 c.name=true∧W2 c.super=true∧(c.iface=true→c.super=Z9∧c.fields=[]∧c.abs=true∧ ∀m∈c.methods,m.abs=true)∧(∀m∈c.methods,m.abs=true→c.abs=true)∧c.fields.all Nz=true∧c.methods.all S5=true∧E1 Fld.name [] c.fields=true∧E1 Hm.Met.name [] c.methods=true:=by
 unfold L3 at h
 split at h
 ·cases h
 split at h
 ·rename_i k
  simp only[Vj,Bool.and_eq_true] at k
  obtain ⟨⟨⟨⟨⟨⟨⟨⟨j,v⟩,u⟩,i⟩,f⟩,o⟩,n⟩,s⟩,p⟩:=k
  refine ⟨List.all_eq_true.1 j c.name (by simp),List.all_eq_true.1 j c.super (by simp),fun r=>?_,fun m g t=>?_,s,p,o,n⟩
  ·rw[r] at i
   simp only[Bool.true_and,Bool.not_eq_true',Bool.or_eq_false_iff,Bool.not_eq_false',decide_eq_true_eq] at i
   obtain ⟨⟨⟨a,b⟩,d⟩,e⟩:=i
   refine ⟨b,d,a,fun m g=>?_⟩
   have:=List.any_eq_false.1 e m g
   simpa using this
  ·simp only[Bool.not_eq_true',Bool.or_eq_false_iff] at f
   obtain ⟨_,f⟩:=f
   have q:c.methods.any (·.abs)=true:=List.any_eq_true.2 ⟨m,g,t⟩
   rw[q] at f
   simpa using f
 ·cases h
theorem Q6r {l:List Cla} {c:Cla} (b:c∈Q7 l) (a:c.iface=true):c∈l:=by
 rcases List.mem_append.1 b with h | h
 ·have: ∀c∈R8,c.iface=false:=by decide
  rw[this c h] at a;cases a
 ·exact h
section
variable {l : List Cla} (wf : Wf l)
include wf
theorem Wf.likes {c:Cla} (f:c∈Q7 l) {u:X0} (b:u∈c.like): ∃d,lk (Q7 l) u=some d∧d.iface=true:=by
 rcases List.mem_append.1 f with h | h
 ·rw[(Yi c h).2.2] at b;simp at b
 ·have:=wf.up c h
  unfold L2 at this
  split at this
  ·cases this
  ·split at this
   ·cases this
   ·rename_i a
    have a:=List.any_eq_false.1 (eq_false_of_ne_true a) u b
    unfold N3 at a
    cases e:lk (Q7 l) u with
    | none=>rw[e] at a;simp at a
    | some d=>rw[e] at a;exact ⟨d,rfl,by simpa using a⟩
theorem Wf.above_iface {u b:X0} (h:Hm.Reach (lk (Q7 l)) u b): ∀d,lk (Q7 l) u=some d→d.iface=true→b=Z9∨ ∃e,lk (Q7 l) b=some e∧e.iface=true:=by
 induction h with
 | refl h=>intro d a c;exact .inr ⟨d,a,c⟩
 | step k hu i m=>
  intro d a c
  rw[k] at a;cases a
  obtain ⟨e,j,_⟩:=U8 k
  rcases List.mem_cons.1 hu with rfl | hu
  ·rw[((Q5d (wf.ck _ (Q6r j c))).2.2.1 c).1] at i
   exact .inl (wf.atRoot i)
  ·obtain ⟨f,n,g⟩:=wf.likes j hu
   exact m f n g
theorem Wf.by_chain {n b:X0} (h:Hm.Reach (lk (Q7 l)) n b): ∀e,lk (Q7 l) b=some e→e.iface=false→b≠Z9→e∈chain (Q7 l) n:=by
 induction h with
 | refl h=>
  intro e c _ _
  rw[F7 wf.acy,c];simp
 | step m hu q p=>
  intro e c k j
  obtain ⟨en,o,_⟩:=U8 m
  rcases List.mem_cons.1 hu with rfl | hu
  ·rw[F7 wf.acy,m]
   exact List.mem_cons_of_mem _ (p e c k j)
  ·obtain ⟨f,r,d⟩:=wf.likes o hu
   rcases wf.above_iface q f r d with h | ⟨g,i,a⟩
   ·exact absurd h j
   ·rw[c] at i;cases i;rw[k] at a;cases a
theorem Wf.chain_tail: ∀(k:Nat) {n:X0} {c:Cla},B2 (Q7 l) n<k→c∈chain (Q7 l) n→ ∃a,chain (Q7 l) n=a++chain (Q7 l) c.name:=by
 intro k
 induction k with
 | zero=>intro n c h;omega
 | succ k j=>
  intro n c o hc
  rw[F7 wf.acy] at hc
  cases b:lk (Q7 l) n with
  | none=>rw[b] at hc;simp at hc
  | some d=>
   rw[b] at hc
   have f:=(U8 b).1
   rcases List.mem_cons.1 hc with rfl | hc
   ·exact ⟨[],by rw[f];rfl⟩
   ·cases g:lk (Q7 l) d.super with
    | none=>rw[Qn g] at hc;simp at hc
    | some e=>
     have i:d.super∈J3 d:=by simp[J3]
     obtain ⟨a,m⟩:=j (by have:=Xk wf.acy b i g;omega) hc
     exact ⟨d::a,by rw[F7 wf.acy,b];show d::chain (Q7 l) d.super=_;rw[m];rfl⟩
theorem Wf.fields_tail {n:X0} {c:Cla} (h:c∈chain (Q7 l) n): ∃a,Z0 (Q7 l) n=Z0 (Q7 l) c.name++a:=by
 obtain ⟨b,d⟩:=wf.chain_tail _ (Nat.lt_succ_self _) h
 exact ⟨b.reverse.flatMap (·.fields),by unfold Z0;rw[d];simp⟩
theorem Wf.none_nil:lk (Q7 l) []=none:=by
 cases h:lk (Q7 l) [] with
 | none=>rfl
 | some c=>exact absurd (wf.lkn h) (by decide)
theorem Wf.fault_fields:Z0 (Q7 l) V8=[⟨I0,M9,false⟩]:=by
 unfold Z0
 rw[F7 wf.acy,wf.fault]
 simp only
 rw[F7 wf.acy,wf.root]
 simp only
 rw[Qn wf.none_nil]
 rfl
theorem Wf.what {n:X0} (h:Ob (Q7 l) n V8=true) {c:Cla} (b:lk (Q7 l) n=some c):Yz (Q7 l) n I0=some 0:=by
 have d:=(wf.sub_class b).1 h
 have e:=wf.by_chain d _ wf.fault rfl (by decide)
 obtain ⟨a,f⟩:=wf.fields_tail e
 unfold Yz
 rw[f,show (Cla.mk V8 Z9 [] false false false [⟨I0,M9,false⟩] []).name=V8 from rfl,wf.fault_fields]
 rfl
end
end Go.Proofs.YtjdiakhipmggjaaGreatDoor

namespace Go.Hm
open Go.Kd
end Go.Hm
namespace Go.Proofs.YtjdiakhipmggjaaGreatDoor
open Go.Emb Go.RowKit Go.Kd Go.Hm
section
variable {l : List Cla} (wf : Wf l)
include wf
end
end Go.Proofs.YtjdiakhipmggjaaGreatDoor
namespace Go.Proofs.YtjdiakhipmggjaaGreatDoor
open Go.Emb Go.RowKit Go.Kd Go.Hm
end Go.Proofs.YtjdiakhipmggjaaGreatDoor
namespace Go.Proofs.YtjdiakhipmggjaaGreatDoor
open Go.Emb Go.RowKit Go.Kd Go.Hm
section
variable {l : List Cla} (wf : Wf l)
include wf
end
end Go.Proofs.YtjdiakhipmggjaaGreatDoor

namespace Go.Hm
open Go.Kd
structure Val where
  sort : Int
  n : Int
  s : X0
  ref : Int
deriving DecidableEq
structure Cel where
  kind : X0
  vals : List Val
deriving DecidableEq
def Val.zero:Val:=⟨0,0,[],0⟩
def Cel.zero:Cel:=⟨[],[]⟩
def G4:X0:=[105,110,116]
def Mz:X0:=[98,111,111,108]
def O7 (k:X0):Val:=if k=G4 then ⟨1,0,[],0⟩ else if k=Mz then ⟨2,0,[],0⟩ else if k=M9 then ⟨3,0,[],0⟩ else Val.zero
def W3 (cs:List Cel):Int:=(cs.map fun c=>1+(c.vals.length:Int)).sum
def R1 (room:Int) (cs:List Cel):Int:=room-W3 cs
def G9 (cs:List Cel) (r:Int):Bool:=decide (0≤r)&&decide (r<cs.length)
def Oz (cs:List Cel) (r:Int):Cel:=cs.getD r.toNat Cel.zero
def D6 (cs:List Cel) (r:Int):X0:=if G9 cs r then (Oz cs r).kind else []
def Pa (cs:List Cel) (r:Int):Int:=if G9 cs r then (Oz cs r).vals.length else 0
def Og (ok:X0→Bool) (cs:List Cel) (v:Val):X0:=
 if v=Val.zero then C0 else if v=⟨1,v.n,[],0⟩ then G4 else if v=⟨2,v.n,[],0⟩∧(v.n=0∨v.n=1) then Mz
 else if v=⟨3,0,v.s,0⟩∧ok v.s=true then M9 else if v=⟨4,0,[],v.ref⟩ then D6 cs v.ref else []
def I5 (ok:X0→Bool) (l:List Cla) (cs:List Cel) (v:Val) (k:X0):Bool:= !decide (Og ok cs v=[])&&Ob l (Og ok cs v) k
def Q0R (l:List Cla) (room:Int) (cs:List Cel) (k:X0):List Cel×Int:=
 if Ze l k=false then (cs,91) else if R1 room cs<1+((Z0 l k).length:Int) then (cs,90) else (cs++[⟨k,(Z0 l k).map fun f=>O7 f.kind⟩],0)
def T9 (l:List Cla) (e:X0):Bool:= !decide (e=C0)&&N9 l e&&decide (Xq e≤2)
def Q0B (l:List Cla) (room:Int) (cs:List Cel) (e:X0) (n:Int):List Cel×Int:=
 if T9 l e=false then (cs,91) else if n<0 then (cs,93) else if R1 room cs≤n then (cs,90) else (cs++[⟨e++[91,93],List.replicate n.toNat (O7 e)⟩],0)
def B4 (cs:List Cel) (r a:Int):Int:=if G9 cs r then (if 0≤a∧a<((Oz cs r).vals.length:Int) then 0 else 93) else 92
def Q3p (cs:List Cel) (r a:Int):Val:=if B4 cs r a=0 then (Oz cs r).vals.getD a.toNat Val.zero else Val.zero
def Lc (l:List Cla) (k:X0) (i:Nat):X0:=if elem k=[] then ((Z0 l k).getD i Fld.zero).kind else elem k
def Q94 (cs:List Cel) (r a:Int) (v:Val):List Cel:=cs.set r.toNat ⟨(Oz cs r).kind,(Oz cs r).vals.set a.toNat v⟩
def Q3Y (ok:X0→Bool) (l:List Cla) (cs:List Cel) (r a:Int) (v:Val):List Cel×Int:=
 if B4 cs r a≠0 then (cs,B4 cs r a) else if I5 ok l cs v (Lc l (Oz cs r).kind a.toNat) then (Q94 cs r a v,0) else (cs,91)
def X1L (n:Int) (v:Val):Bool:=decide (v.sort=4)&&decide (n≤v.ref)
structure ActH where
  kind : Int
  s : X0
  n : Int
  ref : Int
  v : Val
deriving DecidableEq
structure GoodC (ok : X0 → Bool) (l : List Cla) (cs : List Cel) (c : Cel) : Prop where
  is : elem c.kind ≠ [] ∨ (Ze l c.kind = true ∧ c.vals.length = (Z0 l c.kind).length)
  kd : N9 l c.kind = true
  fits : ∀ i (h : i < c.vals.length), I5 ok l cs c.vals[i] (Lc l c.kind i) = true
structure GoodH (ok : X0 → Bool) (l : List Cla) (room : Int) (cs : List Cel) : Prop where
  cells : ∀ c ∈ cs, GoodC ok l cs c
  left : 0 ≤ R1 room cs
theorem Cw (a b:List Cel):W3 (a++b)=W3 a+W3 b:=by simp[W3]
theorem Xd (a:List Cel):0≤W3 a:=by
 unfold W3
 induction a with
 | nil=>simp
 | cons c r b=>simp only[List.map_cons,List.sum_cons];omega
theorem Q0W (a:List Cel):(a.length:Int)≤W3 a:=by
 unfold W3
 induction a with
 | nil=>simp
 | cons c r b=>simp only[List.map_cons,List.sum_cons,List.length_cons];omega
theorem Qj {cs:List Cel} {r:Int}:G9 cs r=true↔ ∃i:Nat,r=i∧i<cs.length:=by
 simp only[G9,Bool.and_eq_true,decide_eq_true_eq]
 constructor
 ·rintro ⟨a,b⟩;exact ⟨r.toNat,by omega,by omega⟩
 ·rintro ⟨i,rfl,h⟩;omega
theorem K7 {cs:List Cel} {i:Nat} (h:i<cs.length):Oz cs (i:Int)=cs[i]:=by
 unfold Oz;rw[Int.toNat_natCast,List.getD_eq_getElem?_getD,List.getElem?_eq_getElem h];rfl
theorem Q1D {cs:List Cel} {i:Nat} (h:i<cs.length):D6 cs (i:Int)=cs[i].kind:=by
 unfold D6;rw[if_pos (Qj.2 ⟨i,rfl,h⟩),K7 h]
theorem Q8e {ok:X0→Bool} {cs a:List Cel} {v:Val} (h:v.sort=4→D6 cs v.ref≠[]→D6 a v.ref=D6 cs v.ref) (b:Og ok cs v≠[]):Og ok a v=Og ok cs v:=by
 unfold Og at*
 split
 ·rfl
 ·split
  ·rfl
  ·split
   ·rfl
   ·split
    ·rfl
    ·split
     ·rename_i e g f d c
      rw[if_neg e,if_neg g,if_neg f,if_neg d,if_pos c] at b
      exact h (by rw[c]) b
     ·rfl
theorem Q6y {ok:X0→Bool} {l:List Cla} {cs a:List Cel} {v:Val} {k:X0} (h:v.sort=4→D6 cs v.ref≠[]→D6 a v.ref=D6 cs v.ref) (b:I5 ok l cs v k=true):I5 ok l a v k=true:=by
 unfold I5 at*
 have c:Og ok cs v≠[]:=by
  intro e;rw[e] at b;simp at b
 rw[Q8e h c];exact b
theorem Q5U {cs more:List Cel} {r:Int} (h:D6 cs r≠[]):D6 (cs++more) r=D6 cs r:=by
 have c:G9 cs r=true:=by
  cases b:G9 cs r with
  | true=>rfl
  | false=>unfold D6 at h;rw[b] at h;simp at h
 obtain ⟨i,rfl,a⟩:=Qj.1 c
 rw[Q1D a,Q1D (by simp;omega),List.getElem_append_left a]
theorem GoodC.app {ok:X0→Bool} {l:List Cla} {cs more:List Cel} {c:Cel} (h:GoodC ok l cs c):GoodC ok l (cs++more) c:=
 ⟨h.is,h.kd,fun i b=>Q6y (fun _ a=>Q5U a) (h.fits i b)⟩
section
variable {ok : X0 → Bool} {l : List Cla} {room : Int} {cs : List Cel}
theorem GoodH.snoc (h:GoodH ok l room cs) {c:Cel} (a:GoodC ok l (cs++[c]) c) (b:1+(c.vals.length:Int)≤R1 room cs):GoodH ok l room (cs++[c]):=by
 refine ⟨fun d hd=>?_,?_⟩
 ·rcases List.mem_append.1 hd with hd | hd
  ·exact (h.cells d hd).app
  ·simp at hd;subst hd;exact a
 ·unfold R1 at*;rw[Cw];simp only[W3,List.map_cons,List.map_nil,List.sum_cons,List.sum_nil] at*;omega
end
end Go.Hm
namespace Go.Proofs.YtjdiakhipmggjaaGreatDoor
open Go.Emb Go.RowKit Go.Kd Go.Hm
section
variable {l : List Cla} (wf : Wf l)
include wf
theorem Wf.field_kinds {n:X0} {f:Fld} (h:f∈Z0 (Q7 l) n):W9 (Q7 l) f.kind=true:=by
 unfold Z0 at h
 obtain ⟨c,m,e⟩:=List.mem_flatMap.1 h
 have i:=(Q5f wf.acy _ (Nat.lt_succ_self _) (by simpa using m)).2
 obtain ⟨_,a,_⟩:=U8 i
 rcases List.mem_append.1 a with g | hl
 ·have d: ∀c∈R8,∀f∈c.fields,f.kind=M9:=by decide
  rw[d c g f e]
  have:N9 (Q7 l) M9=true:=by
   have j:right M9=true:=by decide
   have k:plain (base M9).1=true:=by decide
   simp[N9,j,k]
  simp[W9,this];decide
 ·have:=wf.mem c hl
  unfold U5 at this
  split at this
  ·cases this
  ·split at this
   ·cases this
   ·rename_i b
    have b:H0 (Q7 l) c=false:=eq_false_of_ne_true b
    unfold H0 at b
    rw[Bool.or_eq_false_iff] at b
    have:=List.any_eq_false.1 b.1 f e
    simpa using this
theorem Wf.zero_fits {ok:X0→Bool} (g:ok []=true) {cs:List Cel} {k:X0} (h:W9 (Q7 l) k=true):I5 ok (Q7 l) cs (O7 k) k=true:=by
 have a:N9 (Q7 l) k=true∧k≠C0:=by
  simp only[W9,Bool.and_eq_true,Bool.not_eq_true',decide_eq_false_iff_not] at h;exact ⟨h.2,h.1⟩
 by_cases d:k=G4
 ·subst d
  have:I5 ok (Q7 l) cs (O7 G4) G4=Ob (Q7 l) G4 G4:=by
   unfold I5;simp[O7,Og,Val.zero,G4]
  rw[this];exact wf.sub_refl a.1
 by_cases f:k=Mz
 ·subst f
  have:I5 ok (Q7 l) cs (O7 Mz) Mz=Ob (Q7 l) Mz Mz:=by
   unfold I5;simp[O7,Og,Val.zero,Mz,G4]
  rw[this];exact wf.sub_refl a.1
 by_cases c:k=M9
 ·subst c
  have:I5 ok (Q7 l) cs (O7 M9) M9=Ob (Q7 l) M9 M9:=by
   unfold I5;simp[O7,Og,Val.zero,Mz,G4,M9,g]
  rw[this];exact wf.sub_refl a.1
 ·have i:O7 k=Val.zero:=by simp[O7,d,f,c]
  have:I5 ok (Q7 l) cs (O7 k) k=Ob (Q7 l) C0 k:=by
   rw[i];unfold I5 Og;simp[C0]
  rw[this]
  have b:plain k=false:=by
   cases b:plain k with
   | false=>rfl
   | true=>
    simp only[plain,Bool.or_eq_true,decide_eq_true_eq] at b
    rcases b with (e | e) | e
    ·exact absurd e d
    ·exact absurd e f
    ·exact absurd e c
  exact wf.sub_iff.2 ⟨by simp[N9],a.1, .inr ⟨by decide,b, .inl rfl⟩⟩
end
theorem Q4w (a:X0):arr (a++[91,93])=true:=by
 simp[arr]
theorem Q4j (a:X0):Kd.cutA (a++[91,93])=a:=by
 simp[Kd.cutA]
theorem Kt (a:X0):base (a++[91,93])=((base a).1,(base a).2+1):=by
 rw[Zl,Q4w,if_pos rfl,Q4j]
theorem Q6e {a:X0} (h:right a=true) (b:(base a).2≤2):right (a++[91,93])=true:=by
 unfold right at*
 rw[Kt]
 simp only[Bool.and_eq_true,decide_eq_true_eq] at*
 exact ⟨by omega,h.2⟩
theorem Q85 {a:X0} (h:right (a++[91,93])=true):elem (a++[91,93])=a:=by
 unfold elem;rw[Q4w,h,Q4j];rfl
theorem Q6Z {l:List Cla} {e:X0}:T9 l e=true↔W9 l e=true∧right (e++[91,93])=true:=by
 unfold T9 W9
 simp only[Bool.and_eq_true,Bool.not_eq_true',decide_eq_false_iff_not,decide_eq_true_eq]
 constructor
 ·rintro ⟨⟨b,h2⟩,a⟩
  have c:right e=true:=by
   unfold N9 at h2
   simp only[Bool.or_eq_true,Bool.and_eq_true,decide_eq_true_eq] at h2
   rcases h2 with h2 | h2
   ·exact absurd h2 b
   ·exact h2.1
  unfold Xq at a
  rw[if_pos c] at a
  exact ⟨⟨b,h2⟩,Q6e c a⟩
 ·rintro ⟨⟨b,h2⟩,a⟩
  refine ⟨⟨b,h2⟩,?_⟩
  unfold right at a
  rw[Kt] at a
  simp only[Bool.and_eq_true,decide_eq_true_eq] at a
  unfold Xq
  split
  ·omega
  ·omega
section
variable {ok : X0 → Bool} {l : List Cla} {room : Int} {cs : List Cel}
theorem GoodH.obj (wf:Wf l) (g:ok []=true) (h:GoodH ok (Q7 l) room cs) (k:X0):GoodH ok (Q7 l) room (Q0R (Q7 l) room cs k).1:=by
 unfold Q0R
 split
 ·exact h
 split
 ·exact h
 rename_i a j
 have a:Ze (Q7 l) k=true:=by simpa using a
 have d: ∃c,lk (Q7 l) k=some c:=by
  unfold Ze at a
  cases b:lk (Q7 l) k with
  | none=>rw[b] at a;cases a
  | some c=>exact ⟨c,rfl⟩
 obtain ⟨c,b⟩:=d
 have f:elem k=[]:=wf.lkArr b
 refine h.snoc ⟨.inr ⟨a,by simp⟩,wf.kind b,fun i e=>?_⟩ (by simp only[List.length_map];omega)
 simp only[List.length_map] at e
 simp only[List.getElem_map,Lc,f,if_pos]
 rw[List.getD_eq_getElem?_getD,List.getElem?_eq_getElem e]
 exact wf.zero_fits g (wf.field_kinds (List.getElem_mem e))
theorem GoodH.arr (wf:Wf l) (k:ok []=true) (h:GoodH ok (Q7 l) room cs) (e:X0) (n:Int):GoodH ok (Q7 l) room (Q0B (Q7 l) room cs e n).1:=by
 unfold Q0B
 split
 ·exact h
 split
 ·exact h
 split
 ·exact h
 rename_i f p o
 have f:T9 (Q7 l) e=true:=by simpa using f
 obtain ⟨g,d⟩:=Q6Z.1 f
 have j:=Q85 d
 have b:e≠[]:=by
  rintro rfl
  revert d;decide
 have a:N9 (Q7 l) (e++[91,93])=true:=by
  have a:=g
  unfold W9 at a
  simp only[Bool.and_eq_true,Bool.not_eq_true',decide_eq_false_iff_not] at a
  obtain ⟨c,hk2⟩:=a
  unfold N9 at hk2⊢
  simp only[Bool.or_eq_true,Bool.and_eq_true,decide_eq_true_eq] at hk2⊢
  rcases hk2 with hk2 | hk2
  ·exact absurd hk2 c
  ·right;rw[Kt];exact ⟨d,hk2.2⟩
 refine h.snoc ⟨.inl (by simp only;rw[j];exact b),a,fun i m=>?_⟩ (by simp only[List.length_replicate];omega)
 simp only[List.getElem_replicate,Lc,j,if_neg b]
 exact wf.zero_fits k g
theorem Q2L {r a:Int} (h:B4 cs r a=0): ∃i j:Nat,r=i∧a=j∧ ∃(b:i<cs.length),j<(cs[i]).vals.length:=by
 unfold B4 at h
 split at h
 ·rename_i d
  obtain ⟨i,rfl,b⟩:=Qj.1 d
  split at h
  ·rename_i c
   rw[K7 b] at c
   exact ⟨i,a.toNat,rfl,by omega,b,by omega⟩
  ·cases h
 ·cases h
theorem GoodH.empty (a:0≤room):GoodH ok l room []:=⟨by simp,by simpa [R1,W3] using a⟩
end
end Go.Proofs.YtjdiakhipmggjaaGreatDoor

namespace Go.Emb
open Go.RowKit Go.Hm
variable {P : Program} {w w0 w1 w' w'' : World} {K : Value → World → Prop} {σ σ0 σ1 σ' : Q4}
def B6 (_:Q4) (v:Val) (cs:List Value):Prop:=cs=[I v.sort,I v.n,S v.s,I v.ref]∧Jh v.sort∧Jh v.n∧v.s.length≤J8∧Jh v.ref
instance:Rep B6:=⟨fun _ h=>h,fun h u hu=>by rw[h.1] at hu;simp at hu;rcases hu with rfl | rfl | rfl | rfl<;>rfl⟩
def Yf (σ:Q4) (c:Cel) (cs:List Value):Prop:= ∃v,cs=[S c.kind,v]∧Sl 4 B6 σ v c.vals∧c.kind.length≤J8
instance:Rep Yf:=⟨fun hk ⟨v,h1,h2,h3⟩=>⟨v,h1,h2.le hk,h3⟩,fun ⟨v,h1,h2,h3⟩ u hu=>by
 rw[h1] at hu;simp at hu;rcases hu with rfl | rfl
 ·rfl
 ·exact F8 h2⟩
theorem Q7K {c:Cel} {cs:List Value} (h:Yf σ0 c cs) (k:SLe σ0 σ):Yf σ c cs:=Rep.up k.le h
def Q1Z (_:Q4) (x:List UInt8×Value) (cs:List Value):Prop:=cs=[S x.1,x.2]∧x.1.length≤J8∧ ∃a n c,x.2= .slice a n c
instance:Rep Q1Z:=⟨fun _ h=>h,fun ⟨h1,_,a,n,c,h2⟩ u hu=>by
 rw[h1,h2] at hu;simp at hu;rcases hu with rfl | rfl<;>rfl⟩
section
variable {α : Type} {R : Q4 → α → List Value → Prop} {B sz : Nat} {e : TypeId} {v u : Value} {xs : List α}
theorem J9.shiftR [hr:Rep R] (h:J9 B e sz R σ w v xs) (n:SLe σ σ') (m: ∀k,v.ownBlock=some k→σ' k=none):J9 B e sz R σ' w v xs:=by
 obtain ⟨a,j,rfl,q,A,c,z⟩:=h
 refine ⟨a,j,rfl,q,A,fun b d=>⟨(c b d).1,(c b d).2.1,(c b d).2.2.1,by subst d;exact m _ rfl⟩,fun r=>?_⟩
 obtain ⟨g,l,f,rfl,s,C,p,t,o⟩:=z r
 exact ⟨g,l,f,rfl,s,m g rfl,p,t,fun i x y=>hr.up n.le (o i x y)⟩
def Q65 (w:World):World:={w with heap:= #[]}
theorem Q0z (d:X4 w σ):Stp (Q65 w) (fun _=>none) w σ:=
 ⟨⟨rfl,rfl,rfl,Nat.zero_le _,fun k a=>absurd a (Nat.not_lt_zero k)⟩,d,fun _ _ h=>(by cases h),fun b c=>absurd c (Nat.not_lt_zero b)⟩
theorem J9.freeze [hr:Rep R] (d:X4 w σ) (h:J9 B e sz R σ w v xs): ∃σ',X4 w σ'∧SLe σ σ'∧Sl sz R σ' v xs∧ ∀k,some k≠v.ownBlock→σ' k=σ k:=by
 obtain ⟨σ',c,f,b,a⟩:=(h.mono (Nat.zero_le B):J9 (Q65 w).heap.size e sz R σ w v xs).keep (Q0z d)
 exact ⟨σ',c.sat,b,f,a⟩
theorem J0.freeze {b:Nat} {cs:List Value} (f:X4 w σ) (h:J0 σ w b cs): ∃σ',X4 w σ'∧SLe σ σ'∧Z3 σ' ⟨b,0,none⟩ cs∧ ∀k,k≠b→σ' k=σ k:=by
 obtain ⟨σ',d,g,c,a⟩:=h.keep (Q0z f) (Nat.zero_le b)
 exact ⟨σ',d.sat,⟨c⟩,g,a⟩
end
def Q9g (vs:List Value):Prop:=vs.Pairwise fun a b=> ∀k,a.ownBlock=some k→b.ownBlock≠some k
def Q0Y (B:Nat) (e:TypeId) (σ:Q4) (w:World) (vs:List Value) (cs:List Cel):Prop:=vs.length=cs.length∧ ∀i (h:i<vs.length) (a:i<cs.length),J9 B e 4 B6 σ w vs[i] cs[i].vals
theorem Q0Y.freeze {B:Nat} {e:TypeId}: ∀{vs:List Value} {cs:List Cel} {σ:Q4},X4 w σ→Q0Y B e σ w vs cs→Q9g vs→
 ∃σ',X4 w σ'∧SLe σ σ'∧(∀i (h:i<vs.length) (z:i<cs.length),Sl 4 B6 σ' vs[i] cs[i].vals)∧ ∀k,(∀v∈vs,v.ownBlock≠some k)→σ' k=σ k
 | [],cs,σ,f,h,l=>⟨σ,f,SLe.refl _,fun i h=>absurd h (Nat.not_lt_zero i),fun _ _=>rfl⟩
 | v::vs,[],σ,f,h,l=>by have:=h.1;simp at this
 | v::vs,c::cs,σ,f,h,l=>by
  obtain ⟨σ1,t,m,s,o1⟩:=(h.2 0 (by simp) (by simp)).freeze f
  obtain ⟨g,j⟩:=List.pairwise_cons.1 l
  have r:Q0Y B e σ1 w vs cs:=⟨by simpa using h.1,fun i d a=>by
   have:=h.2 (i+1) (by simpa using d) (by simpa using a)
   simp only[List.getElem_cons_succ] at this
   refine this.shiftR m fun k b=>?_
   rw[o1 k fun e=>g _ (List.getElem_mem d) k e.symm b]
   exact (this.mem b).2.2⟩
  obtain ⟨q,y,n,o,o2⟩:=Q0Y.freeze t r j
  refine ⟨q,y,m.more n,fun i d a=>?_,fun k b=>?_⟩
  ·cases i with
   | zero=>exact s.lift n
   | succ i=>exact o i (by simpa using d) (by simpa using a)
  ·rw[o2 k fun u p=>b u (by simp[p]),o1 k fun e=>b v (by simp) e.symm]
def Yg (vs:List Value) (cs:List Cel):List (List UInt8×Value):=List.zipWith (fun v c=>(c.kind,v)) vs cs
theorem Ep {vs:List Value} {cs:List Cel} (h:vs.length=cs.length):(Yg vs cs).length=cs.length:=by simp[Yg,h]
end Go.Emb
namespace Go.Proofs.YtjdiakhipmggjaaGreatDoor
open Go.Emb Go.RowKit Go.Kd Go.Hm
variable {w w' : World} {K : Value → World → Prop} {σ σ' : Q4}
def E0 (σ:Q4) (hp tv:Value) (room:Int) (cs:List Cel):Prop:= ∃a lv,hp= .pointer (some a)∧Z3 σ a [tv,I room,I (W3 cs),lv]∧Sl 2 Yf σ lv cs
theorem E0.lift {hp tv:Value} {room:Int} {cs:List Cel} (h:E0 σ hp tv room cs) (b:SLe σ σ'):E0 σ' hp tv room cs:=by
 obtain ⟨a,lv,c,f,d⟩:=h
 exact ⟨a,lv,c,f.lift b,d.lift b⟩
structure RowsIs (B : Nat) (D : Nat → Prop) (σ : Q4) (w : World) (lv : Value) (cs : List Cel) : Prop where
  ex : ∃ vs, J9 B T.u 2 Q1Z σ w lv (Yg vs cs) ∧ Q0Y B T.i σ w vs cs ∧ Q9g (lv :: vs) ∧ ∀ k, D k ↔ ∃ v ∈ lv :: vs, v.ownBlock = some k
structure HeapIs (B : Nat) (D : Nat → Prop) (σ : Q4) (w : World) (hp tv : Value) (room : Int) (cs : List Cel) : Prop where
  ex : ∃ b lv E, hp = .pointer (some ⟨b, 0, none⟩) ∧ B ≤ b ∧ J0 σ w b [tv, I room, I (W3 cs), lv] ∧ RowsIs B E σ w lv cs ∧ ¬ E b ∧ ∀ k, D k ↔ (k = b ∨ E k)
section
variable {B : Nat} {D E : Nat → Prop} {lv hp tv : Value} {room : Int} {cs : List Cel}
theorem RowsIs.mem (h:RowsIs B D σ w lv cs) {k:Nat} (a:D k):B≤k∧k<w.heap.size∧σ k=none:=by
 obtain ⟨vs,d,b,f,hD⟩:=h.ex
 obtain ⟨v,hv,a⟩:=(hD k).1 a
 rcases List.mem_cons.1 hv with rfl | hv
 ·exact d.mem a
 ·obtain ⟨i,c,rfl⟩:=List.getElem_of_mem hv
  exact (b.2 i c (by rw[←b.1];exact c)).mem a
theorem RowsIs.nx (h:RowsIs B D σ w lv cs) (k:Nxt E w σ w' σ') (d: ∀k,D k→ ¬E k):RowsIs B D σ' w' lv cs:=by
 obtain ⟨vs,l,c,g,hD⟩:=h.ex
 exact ⟨vs,l.nx k fun i a=>d i ((hD i).2 ⟨lv,by simp,a⟩),⟨c.1,fun i a b=>(c.2 i a b).nx k fun j f=>d j ((hD j).2 ⟨vs[i],by simp[List.getElem_mem a],f⟩)⟩,g,hD⟩
theorem RowsIs.up (h:RowsIs B D σ w lv cs) (k:Stp w σ w' σ'):RowsIs B D σ' w' lv cs:=
 h.nx (E:=fun _=>False) (.of_stp k) fun _ _=>id
theorem RowsIs.freeze (h:RowsIs B D σ w lv cs) (C:X4 w σ): ∃σ',X4 w σ'∧SLe σ σ'∧Sl 2 Yf σ' lv cs∧ ∀k,¬D k→σ' k=σ k:=by
 obtain ⟨vs,p,j,H,hD⟩:=h.ex
 obtain ⟨b,f⟩:=List.pairwise_cons.1 H
 obtain ⟨σ1,A,n,z,o1⟩:=j.freeze C f
 have l:J9 B T.u 2 Q1Z σ1 w lv (Yg vs cs):=p.shiftR n fun k a=>by
  rw[o1 k fun v d e=>b v d k a e];exact (p.mem a).2.2
 obtain ⟨t,J,o,s,o2⟩:=l.freeze A
 refine ⟨t,J,n.more o,s.conv (R':=Yf) (ys:=cs) (by rw[Ep j.1]) fun i L m c y=>?_,fun k a=>?_⟩
 ·have g:i<vs.length:=by rw[j.1];exact m
  obtain ⟨q,r,_⟩:=y
  have e:(Yg vs cs)[i]=(cs[i].kind,vs[i]):=by simp[Yg]
  rw[e] at q r
  exact ⟨vs[i],q,(z i g m).lift o,r⟩
 ·rw[o2 k fun e=>a ((hD k).2 ⟨lv,by simp,e.symm⟩),o1 k fun v d e=>a ((hD k).2 ⟨v,by simp[d],e⟩)]
theorem HeapIs.mem (h:HeapIs B D σ w hp tv room cs) {k:Nat} (hk:D k):B≤k∧k<w.heap.size∧σ k=none:=by
 obtain ⟨b,lv,E,rfl,hB,a,c,hE,hD⟩:=h.ex
 rcases (hD k).1 hk with rfl | hk
 ·exact ⟨hB,a.lt,a.1⟩
 ·exact c.mem hk
theorem HeapIs.nx {F:Nat→Prop} (h:HeapIs B D σ w hp tv room cs) (k:Nxt F w σ w' σ') (a: ∀k,D k→ ¬F k):HeapIs B D σ' w' hp tv room cs:=by
 obtain ⟨b,lv,E,rfl,hB,d,c,hE,hD⟩:=h.ex
 exact ⟨b,lv,E,rfl,hB,d.nx k (a b ((hD b).2 (.inl rfl))),c.nx k fun i f=>a i ((hD i).2 (.inr f)),hE,hD⟩
theorem HeapIs.up (h:HeapIs B D σ w hp tv room cs) (k:Stp w σ w' σ'):HeapIs B D σ' w' hp tv room cs:=
 h.nx (F:=fun _=>False) (.of_stp k) fun _ _=>id
theorem HeapIs.freeze (h:HeapIs B D σ w hp tv room cs) (o:X4 w σ): ∃σ',X4 w σ'∧SLe σ σ'∧E0 σ' hp tv room cs∧ ∀k,¬D k→σ' k=σ k:=by
 obtain ⟨b,lv,E,rfl,hB,d,q,hE,hD⟩:=h.ex
 obtain ⟨σ1,n,g,l,o1⟩:=q.freeze o
 have a:J0 σ1 w b [tv,I room,I (W3 cs),lv]:=⟨by rw[o1 b hE];exact d.1,d.2⟩
 obtain ⟨p,i,f,j,m⟩:=a.freeze n
 exact ⟨p,i,g.more f,⟨_,lv,rfl,j,l.lift f⟩,fun k c=>by rw[m k fun e=>c ((hD k).2 (.inl e)),o1 k fun e=>c ((hD k).2 (.inr e))]⟩
end
end Go.Proofs.YtjdiakhipmggjaaGreatDoor

namespace Go.Emb
open Go.RowKit Go.Hm
variable {P : Program} {w : World} {K : Value → World → Prop}
theorem Q81 (n:Int):(BitVec.ofInt 64 n &&& BitVec.ofInt 64 1).toNat=(n % 2).toNat:=by
 rw[BitVec.toNat_and,BitVec.toNat_ofInt,BitVec.toNat_ofInt]
 have e:((1:Int) % ((2 ^ 64:Nat):Int)).toNat=1:=by decide
 rw[e,Nat.and_one_is_mod]
 omega
theorem X0x {t:TypeId} {b a:Operand} {n:Int} (h:K (I (n % 2)) w):Q3 P .and t b a (I n) (I 1) w K:=by
 have e:Q3 P .and t b a (I n) (I 1) w K=K (I (n % 2)) w:=X7 (by
  have f:(BitVec.ofInt IntKind.i64.bits n &&& BitVec.ofInt IntKind.i64.bits 1).toNat=(n % 2).toNat:=Q81 n
  have d:IntKind.i64.wrap ((n % 2).toNat:Int)=n % 2:=by rw[S8 (by omega) (by omega)];omega
  have c:((n % 2 ^ IntKind.i64.bits).toNat &&& 1 % 2 ^ IntKind.i64.bits)=(n % 2).toNat:=by
   show ((n % 18446744073709551616).toNat &&& 1)=_
   rw[Nat.and_one_is_mod];omega
  simp[eqGuard,binOp,Op.intBits,c]
  rw[show max (n % 2) 0=n % 2 by omega,S8 (by omega) (by omega)])
 rw[e];exact h
end Go.Emb
namespace Go.Proofs.YtjdiakhipmggjaaGreatDoor
open Go.Emb Go.RowKit Go.Kd Go.Hm
variable {w w' : World} {K : Value → World → Prop} {σ σ' : Q4} {hp tv : Value} {room : Int} {cs : List Cel} {l : List Cla}
theorem X0I:(P.fieldsOf T.i).toList=[⟨"Sort",T.d,0,false, "", "",0⟩,⟨"N",T.ah,1,false, "", "",8⟩,⟨"S",T.b,2,false, "", "",16⟩,⟨"Ref",T.d,3,false, "", "",32⟩]:=by kernel_rfl
set_option maxRecDepth 100000 in
theorem X02 (a b:Val):(Op.eqFields 9999 [I a.sort,I a.n,S a.s,I a.ref].toArray [I b.sort,I b.n,S b.s,I b.ref].toArray (P.fieldsOf T.i).toList).run P w= .ok (decide (a=b)) w:=by
 rw[X0I]
 have:=Fc (P:=P) (w:=w) (d:=9999) (xs:=[I a.sort,I a.n,S a.s,I a.ref].toArray) (ys:=[I b.sort,I b.n,S b.s,I b.ref].toArray) (f:=⟨"Sort",T.d,0,false, "", "",0⟩) (by decide) rfl rfl (Q1S (k:= .i64) (by kernel_rfl) _ _)
  (Fc (f:=⟨"N",T.ah,1,false, "", "",8⟩) (by decide) rfl rfl (Q1S (k:= .i64) (by kernel_rfl) _ _) (Fc (f:=⟨"S",T.b,2,false, "", "",16⟩) (by decide) rfl rfl (X0t X9 _ _) (Fc (f:=⟨"Ref",T.d,3,false, "", "",32⟩) (by decide) rfl rfl (Q1S (k:= .i64) (by kernel_rfl) _ _) Q9A)))
 rw[this]
 congr 1
 obtain ⟨m,j,c,g⟩:=a
 obtain ⟨h,i,e,o⟩:=b
 simp[Bool.decide_and]
theorem Q3V {a b d:Int} {c:X0}: ∀u∈[I a,I b,S c,I d],u.oneCell'=true:=by
 intro u e
 simp only[List.mem_cons,List.not_mem_nil,or_false] at e
 rcases e with rfl | rfl | rfl | rfl<;>rfl
set_option maxRecDepth 100000 in
theorem Cb {j k:Operand} {g f c d e i:Int} {a b:X0} (h:K (.bool (decide ((⟨g,f,a,c⟩:Val)=⟨d,e,b,i⟩))) w):Q3 P .eql T.i j k (.agg [I g,I f,S a,I c].toArray) (.agg [I d,I e,S b,I i].toArray) w K:=
 X0h (by kernel_rfl) (by kernel_rfl) (by kernel_rfl) (X02 ⟨g,f,a,c⟩ ⟨d,e,b,i⟩) h
theorem Sl.elV {v:Value} {xs:List Val} (h:Sl 4 B6 σ v xs) {i:Nat} (c:i<xs.length):Z3 σ (Gj 4 v i) [I xs[i].sort,I xs[i].n,S xs[i].s,I xs[i].ref]∧B6 σ xs[i] [I xs[i].sort,I xs[i].n,S xs[i].s,I xs[i].ref]:=by
 obtain ⟨cs,b,d,rfl,a⟩:=h.el c;exact ⟨b,rfl,a⟩
theorem Sl.elO {v:Value} {xs:List Cel} (h:Sl 2 Yf σ v xs) {i:Nat} (d:i<xs.length): ∃a,Z3 σ (Gj 2 v i) [S xs[i].kind,a]∧Sl 4 B6 σ a xs[i].vals∧xs[i].kind.length≤J8:=by
 obtain ⟨cs,c,f,a,rfl,e,b⟩:=h.el d;exact ⟨a,c,e,b⟩
theorem Q84 (d:X4 w σ) (hh:E0 σ hp tv room cs) (h:K (I cs.length) w):Q1 P F.aR [hp] w K:=Q04 (by
 obtain ⟨a,e,rfl,c,b⟩:=hh
 unfold Ol
 (try simp only[↓M1,M1,Mb,reduceIte])
 refine ld d c rfl ?_
 refine Q9 b ?_
 exact h)
theorem Q8h (c:X4 w σ) (hh:E0 σ hp tv room cs) (h:K tv w):Q1 P F.bo [hp] w K:=Kg (by
 obtain ⟨a,d,rfl,b,e⟩:=hh
 unfold Md
 rw[L4,fa]
 exact ld c b rfl h)
theorem Q1K (d:X4 w σ) (hh:E0 σ hp tv room cs) (g:0≤R1 room cs) (j:room≤1048576) (h: ∀w',Below w.heap.size w w'→K (I (R1 room cs)) w'):Q1 P F.a2 [hp] w K:=Ks (by
 obtain ⟨a,e,rfl,k,f⟩:=hh
 unfold Ns
 have i:=Xd cs
 unfold R1 at*
 refine U6 d ?_
 (repeat refine V7 Xc ?_)
 (intros;(repeat (rename_i c;subst c));(try simp only[↓M2,M2,Mb,reduceIte]))
 rename_i m b
 rw[S8 (by omega) (by omega)]
 exact h _ b.stp.bel)
theorem Q45 (e:X4 w σ) (hh:E0 σ hp tv room cs) {r:Int} (h:K (.bool (G9 cs r)) w):Q1 P F.ax [hp,I r] w K:=Aw (by
 obtain ⟨a,f,rfl,d,c⟩:=hh
 unfold Oh
 refine Xx ?_
 unfold G9 at h
 cases b:decide ((0:Int)≤r) with
 | false=>
  rw[b] at h
  (try simp only[↓M1,M1,Mb,reduceIte])
  exact h
 | true=>
  rw[b] at h
  (try simp only[↓M1,M1,Mb,reduceIte])
  refine ld e d rfl ?_
  refine Q9 c ?_
  refine Z1 ?_
  (try simp only[↓M1,M1,Mb,reduceIte])
  exact h)
theorem Q27 (d:X4 w σ) (hh:E0 σ hp tv room cs) {r:Int} (h:K (S (D6 cs r)) w):Q1 P F.ab [hp,I r] w K:=Pn (by
 unfold Nd
 refine Q45 d hh ?_
 unfold D6 at h
 cases b:G9 cs r with
 | false=>rw[b] at h;(try simp only[↓M1,M1,Mb,reduceIte]);exact h
 | true=>
  rw[b] at h
  obtain ⟨i,rfl,c⟩:=Qj.1 b
  rw[K7 c] at h
  obtain ⟨a,j,rfl,g,e⟩:=hh
  obtain ⟨k,f,_,_⟩:=Sl.elO e c
  (try simp only[↓M1,M1,Mb,reduceIte])
  refine ld d g rfl ?_
  refine Z4 e c ?_
  (try simp only[↓M1,M1,Mb,reduceIte])
  exact ld d f rfl h)
theorem Q5L (d:X4 w σ) (hh:E0 σ hp tv room cs) {r:Int} (h:K (I (Pa cs r)) w):Q1 P F.aM [hp,I r] w K:=Td (by
 unfold Nx
 refine Q45 d hh ?_
 unfold Pa at h
 cases b:G9 cs r with
 | false=>rw[b] at h;(try simp only[↓M1,M1,Mb,reduceIte]);exact h
 | true=>
  rw[b] at h
  obtain ⟨i,rfl,c⟩:=Qj.1 b
  rw[K7 c] at h
  obtain ⟨a,k,rfl,g,e⟩:=hh
  obtain ⟨m,f,j,_⟩:=Sl.elO e c
  (try simp only[↓M1,M1,Mb,reduceIte])
  refine ld d g rfl ?_
  refine Z4 e c ?_
  (try simp only[↓M1,M1,Mb,reduceIte])
  refine ld d f rfl ?_
  exact Q9 j h)
theorem Q5C (e:X4 w σ) (hh:E0 σ hp tv room cs) {r i:Int} (h:K (I (B4 cs r i)) w):Q1 P F.aE [hp,I r,I i] w K:=Ig (by
 unfold Lw
 refine Q45 e hh ?_
 unfold B4 at h
 cases d:G9 cs r with
 | false=>rw[d] at h;(try simp only[↓M1,M1,Mb,reduceIte]);exact h
 | true=>
  rw[d] at h
  obtain ⟨j,rfl,c⟩:=Qj.1 d
  rw[K7 c] at h
  obtain ⟨a,p,rfl,n,g⟩:=hh
  obtain ⟨o,k,m,_⟩:=Sl.elO g c
  (try simp only[↓M1,M1,Mb,reduceIte])
  by_cases f:i<0
  ·rw[decide_eq_true f]
   (try simp only[↓M1,M1,Mb,reduceIte])
   rw[if_pos rfl,if_neg (by omega)] at h
   exact h
  ·rw[decide_eq_false f]
   (try simp only[↓M1,M1,Mb,reduceIte])
   refine ld e n rfl ?_
   refine Z4 g c ?_
   (try simp only[↓M1,M1,Mb,reduceIte])
   refine ld e k rfl ?_
   refine Q9 m ?_
   refine Xx ?_
   (try simp only[↓M1,M1,Mb,reduceIte])
   refine Q5 (fun b=>?_) (fun b=>?_)
   ·have b:(cs[j].vals.length:Int)≤i:=by simpa using b
    rw[if_pos rfl,if_neg (by omega)] at h
    exact h
   ·have b: ¬(cs[j].vals.length:Int)≤i:=by simpa using b
    rw[if_pos rfl,if_pos (by omega)] at h
    exact h)
theorem X0y (t:X4 w σ) (hh:E0 σ hp tv room cs) {r i:Int} (h: ∀w' σ',Stp w σ w' σ'→K (.tuple #[.agg [I (Q3p cs r i).sort,I (Q3p cs r i).n,S (Q3p cs r i).s,I (Q3p cs r i).ref].toArray,I (B4 cs r i)]) w'):Q1 P F.bI [hp,I r,I i] w K:=Q00 (by
 unfold Oi
 refine C5 t fun b w1 σ1 u c o=>?_
 have k:=hh.lift ⟨c.le⟩
 refine Q5C c.sat k ?_
 refine Vr ?_
 unfold Q3p at h
 by_cases g:B4 cs r i=0
 ·have e:decide (B4 cs r i=0)=true:=decide_eq_true g
  rw[if_pos g,g] at h
  obtain ⟨a,H,rfl,C,y⟩:=k
  simp only[e,Bool.not_true,↓M1,M1,Mb,reduceIte]
  obtain ⟨j,m,rfl,rfl,p,q⟩:=Q2L g
  rw[K7 p,Int.toNat_natCast] at h
  obtain ⟨E,A,v,_⟩:=Sl.elO y p
  obtain ⟨D,z⟩:=Sl.elV v q
  refine ld c.sat C rfl ?_
  refine Z4 y p ?_
  (try simp only[↓M1,M1,Mb,reduceIte])
  refine ld c.sat A rfl ?_
  refine Z4 v q ?_
  refine Y4 c.sat D rfl ?_
  refine B8 o c (C2 u (Stp.refl t)) rfl rfl (Rep.one z) fun B f d=>?_
  refine V9 d rfl ?_
  have e:cs[j].vals.getD m Val.zero=cs[j].vals[m]:=by rw[List.getD_eq_getElem?_getD,List.getElem?_eq_getElem q];rfl
  rw[e] at h
  exact h _ _ f.stp
 ·have e:decide (B4 cs r i=0)=false:=by simpa using g
  rw[if_neg g] at h
  simp only[e,Bool.not_false,↓M1,M1,Mb,reduceIte]
  refine V1 (cells:= #[I 0,I 0,S [],I 0]) (by kernel_rfl) ?_
  refine B8 (ds:=[I 0,I 0,S [],I 0]) o c (C2 u (Stp.refl t)) rfl rfl Q3V fun B f d=>?_
  refine V9 d rfl ?_
  exact h _ _ f.stp)
theorem Q7t {k:X0} (o:X4 w σ) (h: ∀w' σ',Stp w σ w' σ'→K (.agg [I (O7 k).sort,I (O7 k).n,S (O7 k).s,I (O7 k).ref].toArray) w'):Q1 P F.ca [S k] w K:=Q54 (by
 unfold Q0m
 refine C5 o fun b w1 σ1 r g j=>?_
 have hB:=C2 r (Stp.refl o)
 unfold O7 at h
 have a: ∀(n:Int) (t:K (.agg [I n,I 0,S [],I 0].toArray)=K (.agg [I n,I 0,S [],I 0].toArray)),(∀w' σ',Stp w σ w' σ'→K (.agg [I n,I 0,S [],I 0].toArray) w')→Z6 P T.i (.pointer (some ⟨b,0,none⟩)) (.agg #[I n,I 0,S [],I 0]) w1 fun _ m=>V4 P T.i (.pointer (some ⟨b,0,none⟩)) m fun p=>K p m:=fun n _ q=>
  B8 (ds:=[I n,I 0,S [],I 0]) j g hB rfl rfl Q3V fun m i f=>V9 f rfl (q _ _ i.stp)
 refine Xy ?_
 by_cases c:k=G4
 ·simp only[if_pos c] at h
  rw[show decide (k=[105,110,116])=true from decide_eq_true c]
  refine L7 ?_
  refine V1 (cells:= #[I 1,I 0,S [],I 0]) (by kernel_rfl) ?_
  exact a 1 rfl h
 simp only[if_neg c] at h
 rw[show decide (k=[105,110,116])=false from decide_eq_false c]
 refine M0 ?_
 refine Xy ?_
 by_cases e:k=Mz
 ·simp only[if_pos e] at h
  rw[show decide (k=[98,111,111,108])=true from decide_eq_true e]
  refine L7 ?_
  refine V1 (cells:= #[I 2,I 0,S [],I 0]) (by kernel_rfl) ?_
  exact a 2 rfl h
 simp only[if_neg e] at h
 rw[show decide (k=[98,111,111,108])=false from decide_eq_false e]
 refine M0 ?_
 refine Xy ?_
 by_cases d:k=M9
 ·simp only[if_pos d] at h
  rw[show decide (k=[116,101,120,116])=true from decide_eq_true d]
  refine L7 ?_
  refine V1 (cells:= #[I 3,I 0,S [],I 0]) (by kernel_rfl) ?_
  exact a 3 rfl h
 ·simp only[if_neg d] at h
  rw[show decide (k=[116,101,120,116])=false from decide_eq_false d]
  refine M0 ?_
  refine V1 (cells:= #[I 0,I 0,S [],I 0]) (by kernel_rfl) ?_
  exact a 0 rfl h)
def Nc (s:X0):Bool:=decide (s.length≤4096)&&Lib.validD s
theorem Q60 (hh:E0 σ hp tv room cs) (r:Int):(D6 cs r).length≤J8:=by
 unfold D6
 split
 ·rename_i d
  obtain ⟨i,rfl,b⟩:=Qj.1 d
  rw[K7 b]
  obtain ⟨a,e,rfl,f,c⟩:=hh
  exact (Sl.elO c b).choose_spec.2.2
 ·exact Nat.zero_le _
theorem Q9R (hh:E0 σ hp tv room cs) (v:Val):(Og Nc cs v).length≤J8:=by
 unfold Og
 split
 ·decide
 split
 ·decide
 split
 ·decide
 split
 ·decide
 split
 ·exact Q60 hh _
 ·exact Nat.zero_le _
theorem Q3F (n:Int):n=n % 2↔n=0∨n=1:=by omega
set_option maxHeartbeats 1000000 in
theorem X1C (Y:X4 w σ) (W:Glb σ) (hh:E0 σ hp tv room cs) {v:Val} (X:v.s.length≤J8) (h: ∀w' σ',Stp w σ w' σ'→K (S (Og Nc cs v)) w'):Q1 P F.bS [hp, .agg [I v.sort,I v.n,S v.s,I v.ref].toArray] w K:=Q0A (by
 unfold Em
 refine Y9 Y fun q w1 σ1 g k=>?_
 have f:=g.sat
 refine Y4 f k rfl ?_
 refine V1 (cells:= #[I 0,I 0,S [],I 0]) (by kernel_rfl) ?_
 refine Cb ?_
 unfold Og at h
 by_cases y:v=Val.zero
 ·rw[if_pos y] at h
  have:decide ((⟨v.sort,v.n,v.s,v.ref⟩:Val)=⟨0,0,[],0⟩)=true:=decide_eq_true y
  rw[this]
  exact L7 (h _ _ g)
 rw[if_neg y] at h
 have:decide ((⟨v.sort,v.n,v.s,v.ref⟩:Val)=⟨0,0,[],0⟩)=false:=decide_eq_false y
 rw[this]
 refine M0 ?_
 refine Y4 f k rfl ?_
 refine Q2c ?_
 refine ld f k rfl ?_
 refine V1 (cells:= #[I 1,I v.n,S [],I 0]) (by kernel_rfl) ?_
 refine Cb ?_
 by_cases z:v=⟨1,v.n,[],0⟩
 ·rw[if_pos z] at h
  have:decide ((⟨v.sort,v.n,v.s,v.ref⟩:Val)=⟨1,v.n,[],0⟩)=true:=decide_eq_true z
  rw[this]
  exact L7 (h _ _ g)
 rw[if_neg z] at h
 have:decide ((⟨v.sort,v.n,v.s,v.ref⟩:Val)=⟨1,v.n,[],0⟩)=false:=decide_eq_false z
 rw[this]
 refine M0 ?_
 refine Y4 f k rfl ?_
 refine Q2c ?_
 refine ld f k rfl ?_
 refine X0x ?_
 refine V1 (cells:= #[I 2,I (v.n % 2),S [],I 0]) (by kernel_rfl) ?_
 refine Cb ?_
 have p:(v=⟨2,v.n % 2,[],0⟩)↔(v=⟨2,v.n,[],0⟩∧(v.n=0∨v.n=1)):=by
  obtain ⟨a,b,c,d⟩:=v
  simp only[Val.mk.injEq,true_and]
  constructor
  ·rintro ⟨L,R,p⟩;exact ⟨⟨L,p⟩,(Q3F b).1 R⟩
  ·rintro ⟨⟨L,p⟩,R⟩;exact ⟨L,(Q3F b).2 R,p⟩
 by_cases t:v=⟨2,v.n % 2,[],0⟩
 ·rw[if_pos (p.1 t)] at h
  have:decide ((⟨v.sort,v.n,v.s,v.ref⟩:Val)=⟨2,v.n % 2,[],0⟩)=true:=decide_eq_true t
  rw[this]
  exact L7 (h _ _ g)
 rw[if_neg (fun e=>t (p.2 e))] at h
 have:decide ((⟨v.sort,v.n,v.s,v.ref⟩:Val)=⟨2,v.n % 2,[],0⟩)=false:=decide_eq_false t
 rw[this]
 refine M0 ?_
 refine Y4 f k rfl ?_
 refine Q2c ?_
 refine ld f k rfl ?_
 refine V1 (cells:= #[I 3,I 0,S v.s,I 0]) (by kernel_rfl) ?_
 refine Cb ?_
 have j: ∀{A H},Stp w σ A H→SLe σ1 H→(∀w' σ',Stp w σ w' σ'→K (S (if v=⟨4,0,[],v.ref⟩ then D6 cs v.ref else [])) w')→Q2 P T.i (.pointer (some q)) A fun Q w=>
  Q2 P T.d (.pointer (some (q.add 3))) w fun C w=>
  N8 P T.i [(0,(.int .i64 4)),(3,C)] w fun N w=>
  Q3 P .eql T.i (.tmp 40) (.tmp 43) Q N w fun D w=>
  X1 D (
   Q2 P T.d (.pointer (some (q.add 3))) w fun M w=>
   Q1 P F.ab [hp,M] w fun E w=>
   K E w) (
   K (.string ⟨#[]⟩) w):=by
  intro A H i J h
  have m:=k.lift J
  refine Y4 i.sat m rfl ?_
  refine ld i.sat m rfl ?_
  refine V1 (cells:= #[I 4,I 0,S [],I v.ref]) (by kernel_rfl) ?_
  refine Cb ?_
  by_cases B:v=⟨4,0,[],v.ref⟩
  ·rw[if_pos B] at h
   have:decide ((⟨v.sort,v.n,v.s,v.ref⟩:Val)=⟨4,0,[],v.ref⟩)=true:=decide_eq_true B
   rw[this]
   refine L7 ?_
   refine ld i.sat m rfl ?_
   exact Q27 i.sat (hh.lift ⟨i.le⟩) (h _ _ i)
  ·rw[if_neg B] at h
   have:decide ((⟨v.sort,v.n,v.s,v.ref⟩:Val)=⟨4,0,[],v.ref⟩)=false:=decide_eq_false B
   rw[this]
   exact M0 (h _ _ i)
 by_cases u:v=⟨3,0,v.s,0⟩
 ·have:decide ((⟨v.sort,v.n,v.s,v.ref⟩:Val)=⟨3,0,v.s,0⟩)=true:=decide_eq_true u
  rw[this]
  (try simp only[↓M1,M1,Mb,reduceIte])
  refine ld f k rfl ?_
  refine Q4n X9 ?_
  refine X1v ?_
  by_cases V:v.s.length≤4096
  ·rw[decide_eq_true (show (v.s.length:Int)≤4096 by omega)]
   (try simp only[↓M1,M1,Mb,reduceIte])
   refine ld f k rfl ?_
   refine Gf X (W.tabs _ (fun b o e=>f b o (g.le b o e))) fun A O=>?_
   have r:=g.trans (Stp.of_below f O)
   cases U:Lib.validD v.s with
   | true=>
    (try simp only[↓M1,M1,Mb,reduceIte])
    rw[if_pos ⟨u,by simp[Nc,U,V]⟩] at h
    exact h _ _ r
   | false=>
    (try simp only[↓M1,M1,Mb,reduceIte])
    rw[if_neg (by rintro ⟨_,e⟩;simp[Nc,U] at e)] at h
    exact j r (SLe.refl _) h
  ·rw[decide_eq_false (show¬(v.s.length:Int)≤4096 by omega)]
   (try simp only[↓M1,M1,Mb,reduceIte])
   rw[if_neg (by rintro ⟨_,e⟩;simp[Nc,V] at e)] at h
   exact j g (SLe.refl _) h
 ·have:decide ((⟨v.sort,v.n,v.s,v.ref⟩:Val)=⟨3,0,v.s,0⟩)=false:=decide_eq_false u
  rw[this]
  (try simp only[↓M1,M1,Mb,reduceIte])
  rw[if_neg (fun e=>u e.1)] at h
  exact j g (SLe.refl _) h)
end Go.Proofs.YtjdiakhipmggjaaGreatDoor

namespace Go.Proofs.YtjdiakhipmggjaaGreatDoor
open Go.Emb Go.RowKit Go.Kd Go.Hm
variable {w : World} {K : Value → World → Prop} {σ : Q4}
theorem Bk {β:Type} {xs:List Cel} {v f:Value} (b:β→Cel→Bool×β) (k:β) (a:β→World→Prop) (D:Nat→Prop) (m: ∀s w,a s w→X4 w σ) (z:a k w) (u:Sl 2 Yf σ v xs)
 (C: ∀s x cs (w1:World) (K:Value→World→Prop),x∈xs→Kpt D w w1→a s w1→Yf σ x cs→cs.length=2→(∀w',Kpt D w w'→a (b s x).2 w'→K (.bool (b s x).1) w')→Y6 P f [.agg cs.toArray] w1 K)
 (h: ∀w',Kpt D w w'→a (Z5 b k xs 0).2 w'→K (I (W0 (Z5 b k xs 0).1)) w'):Q1 P F.a4 [v,f] w K:=Xp (by
 unfold R9
 ((try simp only[↓M1,M1,Mb,reduceIte]);repeat ((first | refine ld (by assumption) (by assumption) rfl ?_ | refine X8 (by assumption) (by assumption) rfl ?_ | refine Q9 (by assumption) ?_);(try simp only[↓M1,M1,Mb,reduceIte])))
 refine U3 xs.length (fun n w'=>Kpt D w w'∧ ∃s,a s w'∧Z5 b k xs 0=Z5 b s (xs.drop n) n) ⟨Kpt.refl,k,z,rfl⟩ fun n w1 d E j=>?_
 obtain ⟨t,s,j,e⟩:=j
 have o:=m s w1 j
 ((try simp only[↓M1,M1,Mb,reduceIte]);repeat ((first | refine ld (by assumption) (by assumption) rfl ?_ | refine X8 (by assumption) (by assumption) rfl ?_ | refine Q9 (by assumption) ?_);(try simp only[↓M1,M1,Mb,reduceIte])))
 refine Q5 (fun r=>?_) (fun r=>?_)
 ·have c:n<xs.length:=by simpa using r
  refine W7 u c fun p cs y g B=>?_
  refine Y4 o y g ?_
  refine C s xs[n] cs w1 _ (List.getElem_mem c) t j B g fun A l i=>?_
  rw[List.drop_eq_getElem_cons c] at e
  simp only[Z5] at e
  refine Q5 (fun q=>?_) (fun q=>?_)
  ·rw[q] at e
   have:=h A l
   rw[e] at this
   exact this i
  ·rw[q] at e
   ((try simp only[↓M1,M1,Mb,reduceIte]);repeat ((first | refine ld (by assumption) (by assumption) rfl ?_ | refine X8 (by assumption) (by assumption) rfl ?_ | refine Q9 (by assumption) ?_);(try simp only[↓M1,M1,Mb,reduceIte])))
   exact Y3 u.max c ⟨l,_,i,by simpa using e⟩
 ·have c: ¬n<xs.length:=by simpa using r
  rw[List.drop_eq_nil_of_le (by omega)] at e
  have:=h w1 t
  rw[e] at this
  exact this j)
theorem Hh {β:Type} {xs:List Cel} {v f:Value} (b:β→Cel→Bool×β) (d:β) (a:β→World→Prop) (D:Nat→Prop) (c: ∀s w,a s w→X4 w σ) (g:a d w) (i:Sl 2 Yf σ v xs)
 (k: ∀s x cs (w1:World) (K:Value→World→Prop),x∈xs→Kpt D w w1→a s w1→Yf σ x cs→cs.length=2→(∀w',Kpt D w w'→a (b s x).2 w'→K (.bool (b s x).1) w')→Y6 P f [.agg cs.toArray] w1 K)
 (h: ∀w',Kpt D w w'→a (Z5 b d xs 0).2 w'→K (.bool (Z5 b d xs 0).1.isSome) w'):Q1 P F.m [v,f] w K:=Qd (by
 unfold H5
 refine Bk b d a D c g i k fun w1 e j=>?_
 (try simp only[↓M1,M1,Mb,reduceIte])
 rw[Ef]
 exact h w1 e j)
theorem Hg {xs:List Cel} {v f:Value} (p:Cel→Bool) (hs:X4 w σ) (hv:Sl 2 Yf σ v xs)
 (hf: ∀x cs (w1:World) (K:Value→World→Prop),x∈xs→X4 w1 σ→Yf σ x cs→cs.length=2→(∀w',Below w1.heap.size w1 w'→K (.bool (p x)) w')→Y6 P f [.agg cs.toArray] w1 K)
 (h: ∀w',Below w.heap.size w w'→K (.bool (xs.any p)) w'):Q1 P F.m [v,f] w K:=by
 refine Hh (fun (_:Unit) x=>(p x,())) () (fun _ w'=>Below w.heap.size w w') (fun _=>False) (fun _ w' hb=>hs.below hb) (Below.refl _ _) hv (fun s x cs w1 K hx hk hi hr hl hK=>hf x cs w1 K hx (hs.below hi) hr hl fun w' hb=>hK w' (.of_below (bt hi hb)) (bt hi hb)) fun w' hk hi=>?_
 rw[F0]
 simpa using h w' hi
end Go.Proofs.YtjdiakhipmggjaaGreatDoor

namespace Go.Proofs.YtjdiakhipmggjaaGreatDoor
open Go.Emb Go.RowKit Go.Kd Go.Hm
variable {w w' : World} {K : Value → World → Prop} {σ σ' : Q4} {hp tv : Value} {room : Int} {cs : List Cel} {l : List Cla}
theorem Q7I (p:X4 w σ) (j:Glb σ) (hh:E0 σ hp tv room cs) (m:Tab σ tv l) (ok:Ok l) {v:Val} {k:X0} (o:v.s.length≤J8) (i:k.length≤J8) (h: ∀w' σ',Stp w σ w' σ'→K (.bool (I5 Nc l cs v k)) w'):Q1 P F.ar [hp, .agg [I v.sort,I v.n,S v.s,I v.ref].toArray,S k] w K:=Ph (by
 unfold Nh
 refine Y9 p fun q w1 σ1 c t=>?_
 refine Y4 c.sat t rfl ?_
 refine X1C c.sat (j.lift ⟨c.le⟩) (hh.lift ⟨c.le⟩) o fun A y g=>?_
 have b:=c.trans g
 refine Mx ?_
 unfold I5 at h
 have d:=Q9R hh v
 generalize Og Nc cs v=u at*
 by_cases e:u=[]
 ·rw[decide_eq_true e] at h⊢
  (try simp only[↓M1,M1,Mb,reduceIte])
  exact h _ _ b
 ·rw[decide_eq_false e] at h⊢
  obtain ⟨a,z,rfl,r,D⟩:=hh
  (try simp only[↓M1,M1,Mb,reduceIte])
  refine ld b.sat (r.lift ⟨b.le⟩) rfl ?_
  refine X1e b.sat (m.lift ⟨b.le⟩) ok d i fun B C f=>?_
  (try simp only[↓M1,M1,Mb,reduceIte])
  exact h _ _ (b.trans f))
theorem Q71 (z:X4 w σ) (hh:E0 σ hp tv room cs) (u:Tab σ tv l) (ok:Ok l) {k:X0} {n:Value} {i:Nat} (t:k.length≤J8) (J:n.cells= #[n]∧n.oneCell'=true) (o:elem k=[]→i<(Z0 l k).length)
 (h: ∀w' σ',Stp w σ w' σ'→K (S (Lc l k i)) w'):Q1 P F.au [hp, .agg [S k,n].toArray,I i] w K:=Po (by
 unfold Nn
 refine Y9 z fun q w1 σ1 c s=>?_
 (try simp only[↓M1,M1,Mb,reduceIte])
 refine X8 c.sat s rfl ?_
 refine Q4i k (Nat.le_trans t (by decide)) fun M p=>?_
 have d:=Stp.of_below c.sat p
 have b:=c.trans d
 refine Mx ?_
 unfold Lc at h
 by_cases e:elem k=[]
 ·simp only[if_pos e] at h
  rw[decide_eq_true e]
  (try simp only[↓M1,M1,Mb,reduceIte])
  obtain ⟨a,L,rfl,C,Q⟩:=hh
  have r:=d.sat
  have v:=s.up d
  have y:=C.lift ⟨b.le⟩
  refine U6 r ?_
  (repeat refine V7 Xc ?_)
  (intros;(repeat (rename_i D;subst D));(try simp only[↓M2,M2,Mb,reduceIte]))
  rename_i N m
  have f:=b.trans m.stp
  refine Cr m.sat (u.lift ⟨f.le⟩) ok.acy ok.len ok.sm fun O E H j g=>?_
  refine Z4 g (o e) ?_
  obtain ⟨A,_⟩:=g.elF (o e)
  (try simp only[↓M1,M1,Mb,reduceIte])
  refine ld j.sat A rfl ?_
  have B:(Z0 l k).getD i Fld.zero=(Z0 l k)[i]'(o e):=by rw[List.getD_eq_getElem?_getD,List.getElem?_eq_getElem (o e)];rfl
  rw[B] at h
  exact h _ _ (f.trans j)
 ·simp only[if_neg e] at h
  rw[decide_eq_false e]
  (try simp only[↓M1,M1,Mb,reduceIte])
  exact h _ _ b)
set_option maxHeartbeats 1000000 in
theorem Q2m {w1:World} {q:Addr} {c:Cel} {vv:Value} (hk1:Stp w σ w1 σ') (hg:Glb σ) (hh:E0 σ hp tv room cs) (ht:Tab σ tv l) (ok:Ok l) (hq:Z3 σ' q [S c.kind,vv]) (hv1:Sl 4 B6 σ' vv c.vals) (hkl:c.kind.length≤J8) (hfk: ∀i,(Lc l c.kind i).length≤J8) (good:GoodC Nc l cs c) (h: ∀w' σ',Stp w σ w' σ'→K (.bool true) w'):
 lp (α:=Value) (.int .i64 0) w1 fun again6 x6 d_ w=>
  Q3 P .lss T.d (.tmp 38) (.tmp 37) x6 (I c.vals.length) w fun t39 w=>
  X1 t39 (
   indexAddr P T.n vv x6 w fun t41 w=>
   Q2 P T.i t41 w fun t42 w=>
   W1 P T.i w fun v_v_6 w=>
   Z6 P T.i v_v_6 t42 w fun _u w=>
   dr w fun Tr Br=>
   Q6 Tr (fun φ44=> ∀w,Br w→Q2 P T.i v_v_6 w (dk Tr φ44 w)) fun φ44=>
   Q6 Tr (fun φ46=> ∀w,Br w→Q2 P T.u (.pointer (some q)) w (dk Tr φ46 w)) fun φ46=>
   Q6 Tr (fun φ48=> ∀t46 w,Br w→φ46 t46 w→Q1 P F.au [hp,t46,x6] w (dk Tr φ48 w)) fun φ48=>
   ∀t44 t46 t48 w,Br w→φ44 t44 w→φ46 t46 w→φ48 t48 w→
   Q1 P F.ar [hp,t44,t48] w fun t49 w=>
   Z8 P .not t49 w fun t50 w=>
   X1 t50 (
    K (.bool false) w) (
    Q3 P .add T.d (.tmp 38) (.const (.int .i64 1)) x6 (.int .i64 1) w fun t51 w=>
    again6 t51 w)) (
   dr w fun Tr Br=>
   Q6 Tr (fun φ53=> ∀w,Br w→nilCheck P hp w (dk Tr φ53 w)) fun φ53=>
   Q6 Tr (fun φ54=> ∀t53 w,Br w→φ53 t53 w→fieldAddr P T.r t53 0 w (dk Tr φ54 w)) fun φ54=>
   Q6 Tr (fun φ56=> ∀w,Br w→fieldAddr P T.u (.pointer (some q)) 0 w (dk Tr φ56 w)) fun φ56=>
   Q6 Tr (fun φ55=> ∀t54 w,Br w→φ54 t54 w→Q2 P T.l t54 w (dk Tr φ55 w)) fun φ55=>
   Q6 Tr (fun φ57=> ∀t56 w,Br w→φ56 t56 w→Q2 P T.b t56 w (dk Tr φ57 w)) fun φ57=>
   ∀t53 t54 t56 t55 t57 w,Br w→φ53 t53 w→φ54 t54 w→φ56 t56 w→φ55 t55 w→φ57 t57 w→
   Q1 P F.q [t55,t57] w fun t58 w=>
   K t58 w):=by
 have hone:vv.cells= #[vv]∧vv.oneCell'=true:=by obtain ⟨a,c,rfl,_⟩:=hv1;exact ⟨rfl,rfl⟩
 refine U3 c.vals.length (fun n w'=> ∃σ2,Stp w σ w' σ2∧SLe σ' σ2) ⟨σ',hk1,SLe.refl _⟩ fun n w2 d hn hinv=>?_
 obtain ⟨σ2,hS2,le2⟩:=hinv
 have hv2:=hv1.lift le2
 have hq2:=hq.lift le2
 have hh2:=hh.lift ⟨hS2.le⟩
 have ht2:=ht.lift ⟨hS2.le⟩
 refine Z1 ?_
 refine Q5 (fun hc=>?_) (fun hc=>?_)
 ·have hn':n<c.vals.length:=by simpa using hc
  obtain ⟨p1,r1⟩:=Sl.elV hv2 hn'
  refine Z4 hv2 hn' ?_
  refine Y4 hS2.sat p1 rfl ?_
  refine Y1 hS2.sat (by rfl) rfl (Rep.one r1) fun q3 w3 σ3 hk3 hq3=>?_
  have hS3:=hS2.trans hk3
  have hs3:=hk3.sat
  have hq23:=hq2.up hk3
  have hh3:=hh2.lift ⟨hk3.le⟩
  have ht3:=ht2.lift ⟨hk3.le⟩
  have hif:elem c.kind=[]→n<(Z0 l c.kind).length:=fun e=>by
   rcases good.is with h | h
   ·exact absurd e h
   ·rw[←h.2];exact hn'
  refine U6 hs3 ?_
  (repeat (apply V7;(· intros;(repeat (rename_i hx;subst hx));(repeat' (first | (with_reducible exact H9 rfl) | (with_reducible exact F4 (Stp.bel (by (repeat (first | exact Stp.refl (by (first | assumption | exact Stp.sat (by assumption) | exact Hst.sat (by assumption))) | assumption | refine Stp.trans ?_ (by first | assumption | exact Hst.stp (by assumption)))))) rfl) | (with_reducible intro _) | (simp only[↓M2,M2,Mb,reduceIte]) | (with_reducible show Q2 _ _ _ _ _;first | refine X8 aS aL aR ?_ | refine Y4 aS aL aR ?_ | refine ld aS aL aR ?_) | (with_reducible show indexAddr _ _ _ _ _ _;refine Z4 aL au ?_) | (with_reducible show X6 _ _ _ _ _ _ _ _;refine Q9 aL ?_) | (with_reducible show Yy _ _ _ _ _ _;refine U0 aR ?_) | (with_reducible show pick _ _ _ _ _ _;refine G7 ?_) | (with_reducible show Q1 _ _ _ _ _;first | refine Q71 au au au au au au au ?_) | (apply T8;intro hh;(try simp only[hh,reduceIte,↓M2,M2,Mb,reduceIte]))));done)))
  (intros;(repeat (rename_i hx;subst hx));(try simp only[↓M2,M2,Mb,reduceIte]))
  rename_i w4 hb4
  have hS4:=hS3.trans hb4.stp
  refine Q7I hb4.sat (hg.lift ⟨hS4.le⟩) (hh.lift ⟨hS4.le⟩) (ht.lift ⟨hS4.le⟩) ok r1.2.2.2.1 (hfk n) fun w5 σ5 hk5=>?_
  rw[good.fits n hn']
  (try simp only[↓M1,M1,Mb,reduceIte])
  exact Y3 hv1.max hn' ⟨σ5,hS4.trans hk5,le2.more ⟨(hk3.trans (hb4.stp.trans hk5)).le⟩⟩
 ·obtain ⟨a,lv,rfl,la,ls⟩:=hh2
  have hs2:=hS2.sat
  refine U6 hs2 ?_
  (repeat refine V7 Xc ?_)
  (intros;(repeat (rename_i hx;subst hx));(try simp only[↓M2,M2,Mb,reduceIte]))
  rename_i w3 hb3
  refine Ti hb3.sat ht2 hkl fun w4 σ4 hk4=>?_
  rw[good.kd]
  exact h _ _ ((hS2.trans hb3.stp).trans hk4)
set_option maxHeartbeats 1000000 in
theorem Q8U (hs:X4 w σ) (hg:Glb σ) (hh:E0 σ hp tv room cs) (ht:Tab σ tv l) (ok:Ok l) {c:Cel} {ds:List Value} (hc:Yf σ c ds) (hfk: ∀i,(Lc l c.kind i).length≤J8) (good:GoodC Nc l cs c) (h: ∀w' σ',Stp w σ w' σ'→K (.bool true) w'):Q1 P F.bp [hp, .agg ds.toArray] w K:=Iv (by
 obtain ⟨vv,rfl,hvv,hkl⟩:=hc
 have hone:vv.cells= #[vv]∧vv.oneCell'=true:=by obtain ⟨a,c,rfl,_⟩:=hvv;exact ⟨rfl,rfl⟩
 have hh0:=hh
 obtain ⟨a,lv,rfl,la,ls⟩:=hh
 unfold Ls
 refine Y9 hs fun q w1 σ1 hk1 hq=>?_
 have hs1:=hk1.sat
 have la1:=la.lift ⟨hk1.le⟩
 have ht1:=ht.lift ⟨hk1.le⟩
 have hv1:=hvv.up hk1
 have hkl':c.kind.length≤140737488355328:=Nat.le_trans hkl (by decide)
 have acy:=ok.acy
 have olen:=ok.len
 have osm:=ok.sm
 refine U6 hs1 ?_
 (repeat (apply V7;(· intros;(repeat (rename_i hx;subst hx));(repeat' (first | (with_reducible exact H9 rfl) | (with_reducible exact F4 (Stp.bel (by (repeat (first | exact Stp.refl (by (first | assumption | exact Stp.sat (by assumption) | exact Hst.sat (by assumption))) | assumption | refine Stp.trans ?_ (by first | assumption | exact Hst.stp (by assumption)))))) rfl) | (with_reducible intro _) | (simp only[↓M2,M2,Mb,reduceIte]) | (with_reducible show Q2 _ _ _ _ _;first | refine X8 aS aL aR ?_ | refine Y4 aS aL aR ?_ | refine ld aS aL aR ?_) | (with_reducible show indexAddr _ _ _ _ _ _;refine Z4 aL au ?_) | (with_reducible show X6 _ _ _ _ _ _ _ _;refine Q9 aL ?_) | (with_reducible show Yy _ _ _ _ _ _;refine U0 aR ?_) | (with_reducible show pick _ _ _ _ _ _;refine G7 ?_) | (with_reducible show Q1 _ _ _ _ _;first | refine Q4i _ au (V6 aS ?_)) | (apply T8;intro hh;(try simp only[hh,reduceIte,↓M2,M2,Mb,reduceIte]))));done)))
 by_cases e:elem c.kind=[]
 ·have hd:decide (elem c.kind=[])=true:=decide_eq_true e
  obtain ⟨hobj,hlen⟩:Ze l c.kind=true∧c.vals.length=(Z0 l c.kind).length:=by
   rcases good.is with h | h
   ·exact absurd e h
   ·exact h
  simp only[hd,reduceIte]
  (repeat (apply V7;(· intros;(repeat (rename_i hx;subst hx));(repeat' (first | (with_reducible exact H9 rfl) | (with_reducible exact F4 (Stp.bel (by (repeat (first | exact Stp.refl (by (first | assumption | exact Stp.sat (by assumption) | exact Hst.sat (by assumption))) | assumption | refine Stp.trans ?_ (by first | assumption | exact Hst.stp (by assumption)))))) rfl) | (with_reducible intro _) | (simp only[↓M2,M2,Mb,reduceIte]) | (with_reducible show Q2 _ _ _ _ _;first | refine X8 aS aL aR ?_ | refine Y4 aS aL aR ?_ | refine ld aS aL aR ?_) | (with_reducible show indexAddr _ _ _ _ _ _;refine Z4 aL au ?_) | (with_reducible show X6 _ _ _ _ _ _ _ _;refine Q9 aL ?_) | (with_reducible show Yy _ _ _ _ _ _;refine U0 aR ?_) | (with_reducible show pick _ _ _ _ _ _;refine G7 ?_) | (with_reducible show Q1 _ _ _ _ _;first | refine Q2q au au ?_) | (apply T8;intro hh;(try simp only[hh,reduceIte,↓M2,M2,Mb,reduceIte]))));done)))
  simp only[hobj,Bool.not_true,reduceIte]
  (repeat refine V7 Xc ?_)
  refine Ou (w:=w1) (σ:=σ1) (Φ:=fun σ' v=>Sl 3 O4 σ' v (Z0 l c.kind)) (fun t20 t27 t29 w hb e1 e2 e3=>?_) ?_
  ·subst e1;subst e2;subst e3
   simp only[↓M2,M2,Mb,reduceIte]
   exact Cr hb.sat ht1 acy olen osm fun v' w' σ' hk hv'=>Kn hb hk hv'
  refine V7 (V:=I (Z0 l c.kind).length) (fun t20 t30 w hb e1 e2=>?_) ?_
  ·subst e1
   obtain ⟨σ',hk,hv'⟩:=e2
   simp only[↓M2,M2,Mb,reduceIte]
   exact Q9 hv' (H9 rfl)
  rintro t7 t8 t9 t10 t12 t13 t14 t16 t15 t17 t18 t19 t20 t21 t24 t25 t26 t28 t22 t23 t27 t29 t30 t31 w2 hb2 rfl rfl rfl rfl rfl rfl rfl rfl rfl rfl rfl rfl rfl rfl rfl rfl rfl rfl rfl rfl rfl rfl _ rfl
  rw[hlen]
  simp only[Qf,F9,Jk,O9,C8]
  refine Vr ?_
  rw[decide_eq_true (show ((Z0 l c.kind).length:Int)=(Z0 l c.kind).length from rfl)]
  simp only[Bool.not_true,B7,K6,K4]
  refine Q2c ?_
  refine ld hb2.sat hq rfl ?_
  refine Q9 hv1 ?_
  exact Q2m (hk1.trans hb2.stp) hg hh0 ht ok hq hv1 hkl hfk good h
 ·have hd:decide (elem c.kind=[])=false:=decide_eq_false e
  simp only[hd,Bool.false_eq_true,reduceIte]
  (repeat refine V7 Xc ?_)
  (intros;(repeat (rename_i hx;subst hx)))
  rename_i w2 hb2
  simp only[Qf,F9,Jk,O9,C8,B7,K6,K4]
  refine Q2c ?_
  refine ld hb2.sat hq rfl ?_
  refine Q9 hv1 ?_
  exact Q2m (hk1.trans hb2.stp) hg hh0 ht ok hq hv1 hkl hfk good h)
end Go.Proofs.YtjdiakhipmggjaaGreatDoor
