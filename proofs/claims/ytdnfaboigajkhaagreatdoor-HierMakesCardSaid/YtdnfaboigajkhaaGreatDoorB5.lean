/- Parts of a proof about the given program: its functions as texts of their own, what each computes, plain laws of that. The conditions of each stand in its statement. -/
import Derived.Test.YtdnfaboigajkhaaGreatDoorB4
import Derived.Shelf.Strings.Builder1
import Derived.Shelf.Strings.Builder2
import Derived.Shelf.Strings.OnBuilder
import Derived.Shelf.Strings.Trim
import Derived.Shelf.Small.Utf8
import Derived.Shelf.Small.Strs
import Derived.Shelf.Small.Wraps
import Derived.Shelf.Strings.BuilderF
import Derived.Shelf.Strings.BuilderK
import Derived.Shelf.Strings.Builder2Cap
import Derived.Shelf.Strings.Search1
import Derived.Shelf.Strings.Search2
import Derived.Shelf.Strings.Search3
import Derived.Shelf.Strings.Cut
import Derived.Shelf.LaysM
import Derived.Shelf.Strings.Shaped
import Derived.Shelf.Strings.Prefix
import Derived.Shelf.Unicode.Decode
import Derived.Shelf.Strings.Runes
import Derived.Shelf.Strings.AsciiSet
import Derived.Shelf.Unicode.DecodeSlow
import Derived.Shelf.Unicode.DecodeAny
import Derived.Shelf.Unicode.DecodeLast
import Derived.Shelf.Slices.Turned
import Derived.Ground.Names2Prog
import Derived.Shelf.Slices.Clone
import Derived.Ground.SlgnProg
import Derived.Shelf.SlicesE.Clone
import Derived.Shelf.Unicode.ValidAny
import Derived.Test.YtdnfaboigajkhaaGreatDoorProg
import Derived.Test.YtdnfaboigajkhaaGreatDoorB3
import Derived.Test.YtdnfaboigajkhaaGreatDoorRows
import Derived.Lib.LaidU8T
import Derived.OpenShut
import Derived.MakeChecks
import Derived.WideShapes
import Derived.Lib.AsciiSet
import Derived.Lib.Join
import Derived.Maps.RangeRun
set_option linter.unnecessarySimpa false
set_option linter.defProp false
set_option linter.unusedSectionVars false
set_option linter.unusedVariables false
set_option linter.unusedSimpArgs false
namespace Go.Proofs
open Go.Shelf
def Tryz.lays156_ren : Go.Shelf.Ren := ⟨fun | 156 => 72 | 165 => 104 | 166 => 105 | 169 => 106 | 240 => 137 | 241 => 138 | 276 => 161 | 277 => 162 | n => n, fun | 31 => 46 | 9 => 9 | 3 => 3 | 4 => 4 | 0 => 0 | 20 => 20 | 72 => 127 | 76 => 130 | 70 => 124 | 37 => 125 | 75 => 129 | 127 => 150 | 164 => 160 | 5 => 5 | 80 => 132 | n => n, fun | n => n⟩
theorem Tryz.lays156 : Go.Proofs.Lays.n156 Tryz.prog Tryz.lays156_ren := {
  mixed := by kernel_rfl
  f156 := Tryz.func72.trans (congrArg some (by kernel_rfl))
  f165 := Tryz.func104.trans (congrArg some (by kernel_rfl))
  f166 := Tryz.func105.trans (congrArg some (by kernel_rfl))
  f169 := Tryz.func106.trans (congrArg some (by kernel_rfl))
  f240 := Tryz.func137.trans (congrArg some (by kernel_rfl))
  f241 := Tryz.func138.trans (congrArg some (by kernel_rfl))
  f276 := Tryz.func161.trans (congrArg some (by kernel_rfl))
  f277 := Tryz.func162.trans (congrArg some (by kernel_rfl))
  t0 := Tryz.underlying0
  a0 := Tryz.isAgg0
  z0 := Tryz.sizeOf0
  v0 := Tryz.zeroValue0
  t3 := Tryz.underlying3
  a3 := Tryz.isAgg3
  z3 := Tryz.sizeOf3
  v3 := Tryz.zeroValue3
  t4 := Tryz.underlying4
  a4 := Tryz.isAgg4
  z4 := Tryz.sizeOf4
  v4 := Tryz.zeroValue4
  t9 := Tryz.underlying9
  a9 := Tryz.isAgg9
  z9 := Tryz.sizeOf9
  v9 := Tryz.zeroValue9
  t20 := Tryz.underlying20
  a20 := Tryz.isAgg20
  z20 := Tryz.sizeOf20
  v20 := Tryz.zeroValue20
  t31 := Tryz.underlying46
  a31 := Tryz.isAgg46
  z31 := Tryz.sizeOf46
  v31 := Tryz.zeroValue46
  t37 := Tryz.underlying125
  a37 := Tryz.isAgg125
  z37 := Tryz.sizeOf125
  v37 := Tryz.zeroValue125
  t70 := Tryz.underlying124
  a70 := Tryz.isAgg124
  z70 := Tryz.sizeOf124
  v70 := Tryz.zeroValue124
  t72 := Tryz.underlying127
  a72 := Tryz.isAgg127
  z72 := Tryz.sizeOf127
  v72 := Tryz.zeroValue127
  t75 := Tryz.underlying129
  a75 := Tryz.isAgg129
  z75 := Tryz.sizeOf129
  v75 := Tryz.zeroValue129
  t76 := Tryz.underlying130
  a76 := Tryz.isAgg130
  z76 := Tryz.sizeOf130
  v76 := Tryz.zeroValue130
  t127 := Tryz.underlying150
  a127 := Tryz.isAgg150
  z127 := Tryz.sizeOf150
  v127 := Tryz.zeroValue150
  t164 := Tryz.underlying160
  a164 := Tryz.isAgg160
  z164 := Tryz.sizeOf160
  v164 := Tryz.zeroValue160 }
theorem Tryz.Builder_Extra_156 : Builder.Extra Tryz.prog Tryz.lays156_ren := {
  sizeBuilder := by kernel_rfl
  liesBuilder := by kernel_rfl
  t5 := Tryz.underlying5
  a5 := Tryz.isAgg5
  z5 := Tryz.sizeOf5
  v5 := Tryz.zeroValue5
  infoByte := by kernel_rfl
  cellsByte := by kernel_rfl
  sizeByte := by kernel_rfl
  neB5 := by decide }
open Go.RowKit in
theorem Tryz.strings_Join_none (a : Option Addr) (c : Nat) (sep : ByteArray) (w : World) :
    Calls Tryz.prog 72 #[.slice a 0 c, .string sep] w fun e w' => e = .returned (.string ⟨#[]⟩) ∧ w' = w := Any.strings_Join_none Tryz.lays156 Tryz.Builder_Extra_156 a c sep w
open Go.RowKit in
theorem Tryz.strings_Join (bk o c : Nat) (xs : List ByteArray) (sep : ByteArray) (w : World) (hcells : ∀ (j : Nat) x, xs[j]? = some x → w.cell? ⟨bk, o + j, none⟩ = some (.string x)) (hbk : bk < w.heap.size) (hN : xs.length ≤ 140737488355328) (hcap : xs.length ≤ c) (hlen : (Lib.join (xs.map (·.data.toList)) sep.data.toList).length ≤ 140737488355328) :
    Calls Tryz.prog 72 #[.slice (some ⟨bk, o, none⟩) xs.length c, .string sep] w fun e w' => e = .returned (.string ⟨(Lib.join (xs.map (·.data.toList)) sep.data.toList).toArray⟩) ∧ Below w.heap.size w w' := Any.strings_Join Tryz.lays156 Tryz.Builder_Extra_156 bk o c xs sep w hcells hbk hN hcap hlen
def Tryz.lays232_ren : Go.Shelf.Ren := ⟨fun | 232 => 93 | n => n, fun | 9 => 9 | 5 => 5 | 3 => 3 | 4 => 4 | n => n, fun | n => n⟩
theorem Tryz.lays232 : Go.Proofs.Lays.n232 Tryz.prog Tryz.lays232_ren := {
  mixed := by kernel_rfl
  f232 := Tryz.func93.trans (congrArg some (by kernel_rfl))
  t3 := Tryz.underlying3
  a3 := Tryz.isAgg3
  z3 := Tryz.sizeOf3
  v3 := Tryz.zeroValue3
  t4 := Tryz.underlying4
  a4 := Tryz.isAgg4
  z4 := Tryz.sizeOf4
  v4 := Tryz.zeroValue4
  t5 := Tryz.underlying5
  a5 := Tryz.isAgg5
  z5 := Tryz.sizeOf5
  v5 := Tryz.zeroValue5
  t9 := Tryz.underlying9
  a9 := Tryz.isAgg9
  z9 := Tryz.sizeOf9
  v9 := Tryz.zeroValue9 }
open Go.RowKit in
theorem Tryz.strings_trimRightByte (s : ByteArray) (c : UInt8) (w : World) (hs : s.size ≤ 9223372036854775807) :
    Calls Tryz.prog 93 #[.string s, .int .u8 c.toNat] w fun e w' => e = .returned (.string ⟨(Lib.trimRightB s.data.toList c).toArray⟩) ∧ w' = w := Any.strings_trimRightByte Tryz.lays232 s c w hs
def Tryz.lays144_ren : Go.Shelf.Ren := ⟨fun | 144 => 178 | 143 => 189 | 219 => 194 | 217 => 185 | 225 => 174 | 224 => 173 | 267 => 198 | 266 => 193 | 314 => 199 | n => n, fun | 9 => 9 | 4 => 4 | 3 => 3 | 5 => 5 | 46 => 167 | 146 => 189 | 51 => 188 | n => n, fun | 1 => 1 | n => n⟩
theorem Tryz.lays144 : Go.Proofs.Lays.n144 Tryz.prog Tryz.lays144_ren := {
  mixed := by kernel_rfl
  f143 := Tryz.func189.trans (congrArg some (by kernel_rfl))
  f144 := Tryz.func178.trans (congrArg some (by kernel_rfl))
  f217 := Tryz.func185.trans (congrArg some (by kernel_rfl))
  f219 := Tryz.func194.trans (congrArg some (by kernel_rfl))
  f224 := Tryz.func173.trans (congrArg some (by kernel_rfl))
  f225 := Tryz.func174.trans (congrArg some (by kernel_rfl))
  f266 := Tryz.func193.trans (congrArg some (by kernel_rfl))
  f267 := Tryz.func198.trans (congrArg some (by kernel_rfl))
  f314 := Tryz.func199.trans (congrArg some (by kernel_rfl))
  t3 := Tryz.underlying3
  a3 := Tryz.isAgg3
  z3 := Tryz.sizeOf3
  v3 := Tryz.zeroValue3
  t4 := Tryz.underlying4
  a4 := Tryz.isAgg4
  z4 := Tryz.sizeOf4
  v4 := Tryz.zeroValue4
  t5 := Tryz.underlying5
  a5 := Tryz.isAgg5
  z5 := Tryz.sizeOf5
  v5 := Tryz.zeroValue5
  t9 := Tryz.underlying9
  a9 := Tryz.isAgg9
  z9 := Tryz.sizeOf9
  v9 := Tryz.zeroValue9
  t46 := Tryz.underlying167
  a46 := Tryz.isAgg167
  z46 := Tryz.sizeOf167
  v46 := Tryz.zeroValue167
  t51 := Tryz.underlying188
  a51 := Tryz.isAgg188
  z51 := Tryz.sizeOf188
  v51 := Tryz.zeroValue188
  t146 := Tryz.underlying189
  a146 := Tryz.isAgg189
  z146 := Tryz.sizeOf189
  v146 := Tryz.zeroValue189
  g1 := by kernel_rfl }
open Go.RowKit Go.Lib in
theorem Tryz.strings_Contains_one (s : ByteArray) (c : UInt8) (w : World) :
    Calls Tryz.prog 178 #[.string s, .string ⟨#[c]⟩] w fun e w' => e = .returned (.bool (decide (0 ≤ Lib.indexByte s.data.toList c))) ∧ w' = w := Any.strings_Contains_one Tryz.lays144 s c w
def Tryz.lays227_ren : Go.Shelf.Ren := ⟨fun | 227 => 94 | n => n, fun | 9 => 9 | 116 => 112 | 4 => 4 | 0 => 0 | 3 => 3 | 5 => 5 | n => n, fun | n => n⟩
theorem Tryz.lays227 : Go.Proofs.Lays.n227 Tryz.prog Tryz.lays227_ren := {
  mixed := by kernel_rfl
  f227 := Tryz.func94.trans (congrArg some (by kernel_rfl))
  t0 := Tryz.underlying0
  a0 := Tryz.isAgg0
  z0 := Tryz.sizeOf0
  v0 := Tryz.zeroValue0
  t3 := Tryz.underlying3
  a3 := Tryz.isAgg3
  z3 := Tryz.sizeOf3
  v3 := Tryz.zeroValue3
  t4 := Tryz.underlying4
  a4 := Tryz.isAgg4
  z4 := Tryz.sizeOf4
  v4 := Tryz.zeroValue4
  t5 := Tryz.underlying5
  a5 := Tryz.isAgg5
  z5 := Tryz.sizeOf5
  v5 := Tryz.zeroValue5
  t9 := Tryz.underlying9
  a9 := Tryz.isAgg9
  z9 := Tryz.sizeOf9
  v9 := Tryz.zeroValue9
  t116 := Tryz.underlying112
  a116 := Tryz.isAgg112
  z116 := Tryz.sizeOf112 }
open Go.RowKit Go.Lib in
theorem Tryz.strings_makeASCIISet (hv116 : ∀ w, (zeroValue 112).run Tryz.prog w = .ok (.agg (Array.replicate 256 (.bool false))) w) (chars : ByteArray) (w : World) (hs : chars.size < 4294967281) (hascii : ∀ (j : Nat) b, chars.data.toList[j]? = some b → b.toNat < 128) :
    Calls Tryz.prog 94 #[.string chars] w fun e w' => e = .returned (.tuple #[.agg (Lib.setCells chars.data.toList), .bool true]) ∧ w' = w.alloc (.cells (Lib.setCells chars.data.toList) 112) := Any.strings_makeASCIISet Tryz.lays227 hv116 (by kernel_rfl) chars w hs hascii
open Go.RowKit Go.Lib in
def Tryz.lays196_ren : Go.Shelf.Ren := ⟨fun | 196 => 177 | 259 => 188 | n => n, fun | 9 => 9 | 4 => 4 | 3 => 3 | 5 => 5 | 12 => 12 | 119 => 177 | 0 => 0 | 46 => 167 | 139 => 180 | 138 => 179 | 53 => 186 | n => n, fun | 3 => 3 | 4 => 4 | n => n⟩
theorem Tryz.lays196 : Go.Proofs.Lays.n196 Tryz.prog Tryz.lays196_ren := {
  mixed := by kernel_rfl
  f196 := Tryz.func177.trans (congrArg some (by kernel_rfl))
  f259 := Tryz.func188.trans (congrArg some (by kernel_rfl))
  t0 := Tryz.underlying0
  a0 := Tryz.isAgg0
  z0 := Tryz.sizeOf0
  v0 := Tryz.zeroValue0
  t3 := Tryz.underlying3
  a3 := Tryz.isAgg3
  z3 := Tryz.sizeOf3
  v3 := Tryz.zeroValue3
  t4 := Tryz.underlying4
  a4 := Tryz.isAgg4
  z4 := Tryz.sizeOf4
  v4 := Tryz.zeroValue4
  t5 := Tryz.underlying5
  a5 := Tryz.isAgg5
  z5 := Tryz.sizeOf5
  v5 := Tryz.zeroValue5
  t9 := Tryz.underlying9
  a9 := Tryz.isAgg9
  z9 := Tryz.sizeOf9
  v9 := Tryz.zeroValue9
  t12 := Tryz.underlying12
  a12 := Tryz.isAgg12
  z12 := Tryz.sizeOf12
  v12 := Tryz.zeroValue12
  t46 := Tryz.underlying167
  a46 := Tryz.isAgg167
  z46 := Tryz.sizeOf167
  v46 := Tryz.zeroValue167
  t53 := Tryz.underlying186
  a53 := Tryz.isAgg186
  z53 := Tryz.sizeOf186
  v53 := Tryz.zeroValue186
  t119 := Tryz.underlying177
  a119 := Tryz.isAgg177
  z119 := Tryz.sizeOf177
  t138 := Tryz.underlying179
  a138 := Tryz.isAgg179
  z138 := Tryz.sizeOf179
  v138 := Tryz.zeroValue179
  t139 := Tryz.underlying180
  a139 := Tryz.isAgg180
  z139 := Tryz.sizeOf180
  v139 := Tryz.zeroValue180
  g3 := by kernel_rfl
  g4 := by kernel_rfl }
end Go.Proofs

namespace Go.Proofs.YtdnfaboigajkhaaGreatDoor
open Go.Emb Go.RowKit Go.Kd Go.Hm
variable {w : World} {K : Value → World → Prop} {σ : Q5}
theorem Q6X {f : FuncId} {fn : Func} {args : List Value} {V : Value} (hf : P.funcs[f]? = some fn) (hb : fn.body.isSome = true) (hn : (fn.name == "runtime.NumGoroutine") = false)
    (h : Calls P f args.toArray w fun e w' => e = .returned V ∧ Below w.heap.size w w') (hk : ∀ w', Below w.heap.size w w' → K V w') : Q1 P f args w K := by
  refine Jq hf hb hn (Calls.mono h ?_)
  rintro e w' ⟨rfl, hb⟩
  exact hk w' hb
theorem Q1U {a : X0} (ha : a.length ≤ W3) (ht : Lib.Utf8Tabs G.e G.d w) (h : ∀ w', Below w.heap.size w w' → K (.bool (Lib.validD a)) w') : Q1 P F.bs [S a] w K :=
  Q6X Tryz.func177 (by kernel_rfl) (by kernel_rfl) (by
    have := Any.utf8_ValidString Tryz.lays196 ⟨a.toArray⟩ w (by rw [S5]; simp only [W3] at ha; omega) ht
    simp only [List.toList_toArray] at this
    exact this) h
theorem Q3K {a : X0} {c : UInt8} (h : K (.bool (decide (0 ≤ Lib.indexByte a c))) w) : Q1 P F.c6 [S a, S [c]] w K := by
  refine Jq (fn := Tryz.f178) Tryz.func178 (by kernel_rfl) (by kernel_rfl) (Calls.mono (Tryz.strings_Contains_one ⟨a.toArray⟩ c w) ?_)
  rintro e w' ⟨rfl, rfl⟩
  exact h
structure Glb (σ : Q5) : Prop where
  ops : Ak σ
  tabs : ∀ w, X6 w σ → Lib.Utf8Tabs G.e G.d w
  flt : U0 σ ⟨G.b, 0, none⟩ (V1.map S)
theorem Glb.lift {σ0 : Q5} (h : Glb σ0) (k : SLe σ0 σ) : Glb σ := ⟨h.ops.le k.le, fun w hs => h.tabs w fun b o e => hs b o (k.le b o e), h.flt.le k.le⟩
def txt (n s : X0) : Bool :=
  if n = [119, 111, 114, 100] then decide (s.length ≤ 64) && Lib.validD s && !decide (0 ≤ Lib.indexByte s 10)
  else if n = [110, 101, 119] then L4 s
  else if n = [105, 115] ∨ n = [99, 97, 115, 116] then right s && !plain s
  else if n = [97, 114, 114, 97, 121] then right s && decide (Ay s < 3)
  else Qz s
theorem Q91 {n a : X0} (ha : a.length ≤ W3) (hs : X6 w σ) (hg : Glb σ) (h : ∀ w' σ', Stp w σ w' σ' → K (.bool (txt n a)) w') : Q1 P F.cd [S n, S a] w K := Q3Y (by
  unfold Aa
  have ha' : a.length ≤ 140737488355320 := by simp only [W3] at ha; omega
  have ha2 : a.length ≤ 140737488355328 := by simp only [W3] at ha; omega
  have hv : ∀ {w1 : World} {K : Value → World → Prop}, X6 w1 σ → (∀ w', Below w1.heap.size w1 w' → K (.bool (Lib.validD a)) w') → Q1 P F.bs [S a] w1 K := fun hk h => Q1U ha (hg.tabs _ hk) h
  unfold txt at h
  have e : decide ((a.length : Int) ≤ 64) = decide (a.length ≤ 64) := by rw [Bool.eq_iff_iff]; simp only [decide_eq_true_eq]; omega
  have e3 : decide ((Ay a : Int) < 3) = decide (Ay a < 3) := by rw [Bool.eq_iff_iff]; simp only [decide_eq_true_eq]; omega
  by_cases h1 : n = [119, 111, 114, 100]
  · rw [if_pos h1] at h
    simp only [decide_eq_true h1, ↓Mm, Mm, ↓Mr, Mr, Mb, reduceIte, e]
    by_cases h2 : a.length ≤ 64
    · simp only [decide_eq_true h2, ↓Mm, Mm, ↓Mr, Mr, Mb, reduceIte] at h ⊢
      refine hv hs (W7 hs ?_)
      intro w1 σ1 hk
      by_cases h3 : Lib.validD a = true
      · simp only [h3, ↓Mm, Mm, ↓Mr, Mr, Mb, reduceIte] at h ⊢
        refine Q3K ?_
        (repeat' (first | (with_reducible intro _) | (with_reducible refine V3 ?_) | (simp only [↓Mm, Mm, ↓Mp, Mp, Mb, reduceIte]) | (with_reducible first | refine ld aS aL aR ?_ | refine X8 aS aL aR ?_ | refine Y3 aS aL aR ?_ | refine Q6 aL ?_ | refine Y6 aR ?_ | refine Z4 aS ?_ | refine L1 aS aL ?_ | refine U2 aS aR ?_ | refine Y0 aS aR aR (Rep.one (by assumption)) ?_ | refine U1 aS aR aR aR ?_ | (refine Y2 (fun hh => ?_) (fun hh => ?_) <;> (try simp only [hh, Bool.not_true, Bool.not_false, ↓Mm, Mm, ↓Mp, Mp, Mb, reduceIte])) | (refine Q4 (fun hh => ?_) (fun hh => ?_) <;> (try simp only [hh, Bool.not_true, Bool.not_false, ↓Mm, Mm, ↓Mp, Mp, Mb, reduceIte])))))
        all_goals (refine Eq.subst (motive := fun b => K b _) ?_ (h _ _ (by (repeat (first | exact Stp.refl (by (first | assumption | exact Stp.sat (by assumption) | exact Hst.sat (by assumption))) | assumption | refine Stp.trans ?_ (by first | assumption | exact Hst.stp (by assumption)))))); clear h; (try clear hA); (try clear hB); (try clear hC); first | rfl | ((try simp only [Bool.not_eq_true', Bool.not_eq_false', Bool.not_true, Bool.not_false, Bool.not_eq_true] at *); simp only [*, Mb, reduceIte]; done) | (simp [*]; done) | simp_all)
      · simp only [eq_false_of_ne_true h3, ↓Mm, Mm, ↓Mr, Mr, Mb, reduceIte] at h ⊢
        (repeat' (first | (with_reducible intro _) | (with_reducible refine V3 ?_) | (simp only [↓Mm, Mm, ↓Mp, Mp, Mb, reduceIte]) | (with_reducible first | refine ld aS aL aR ?_ | refine X8 aS aL aR ?_ | refine Y3 aS aL aR ?_ | refine Q6 aL ?_ | refine Y6 aR ?_ | refine Z4 aS ?_ | refine L1 aS aL ?_ | refine U2 aS aR ?_ | refine Y0 aS aR aR (Rep.one (by assumption)) ?_ | refine U1 aS aR aR aR ?_ | (refine Y2 (fun hh => ?_) (fun hh => ?_) <;> (try simp only [hh, Bool.not_true, Bool.not_false, ↓Mm, Mm, ↓Mp, Mp, Mb, reduceIte])) | (refine Q4 (fun hh => ?_) (fun hh => ?_) <;> (try simp only [hh, Bool.not_true, Bool.not_false, ↓Mm, Mm, ↓Mp, Mp, Mb, reduceIte])))))
        all_goals (refine Eq.subst (motive := fun b => K b _) ?_ (h _ _ (by (repeat (first | exact Stp.refl (by (first | assumption | exact Stp.sat (by assumption) | exact Hst.sat (by assumption))) | assumption | refine Stp.trans ?_ (by first | assumption | exact Hst.stp (by assumption)))))); clear h; (try clear hA); (try clear hB); (try clear hC); first | rfl | ((try simp only [Bool.not_eq_true', Bool.not_eq_false', Bool.not_true, Bool.not_false, Bool.not_eq_true] at *); simp only [*, Mb, reduceIte]; done) | (simp [*]; done) | simp_all)
    · simp only [decide_eq_false h2, ↓Mm, Mm, ↓Mr, Mr, Mb, reduceIte] at h ⊢
      (repeat' (first | (with_reducible intro _) | (with_reducible refine V3 ?_) | (simp only [↓Mm, Mm, ↓Mp, Mp, Mb, reduceIte]) | (with_reducible first | refine ld aS aL aR ?_ | refine X8 aS aL aR ?_ | refine Y3 aS aL aR ?_ | refine Q6 aL ?_ | refine Y6 aR ?_ | refine Z4 aS ?_ | refine L1 aS aL ?_ | refine U2 aS aR ?_ | refine Y0 aS aR aR (Rep.one (by assumption)) ?_ | refine U1 aS aR aR aR ?_ | (refine Y2 (fun hh => ?_) (fun hh => ?_) <;> (try simp only [hh, Bool.not_true, Bool.not_false, ↓Mm, Mm, ↓Mp, Mp, Mb, reduceIte])) | (refine Q4 (fun hh => ?_) (fun hh => ?_) <;> (try simp only [hh, Bool.not_true, Bool.not_false, ↓Mm, Mm, ↓Mp, Mp, Mb, reduceIte])))))
      all_goals (refine Eq.subst (motive := fun b => K b _) ?_ (h _ _ (by (repeat (first | exact Stp.refl (by (first | assumption | exact Stp.sat (by assumption) | exact Hst.sat (by assumption))) | assumption | refine Stp.trans ?_ (by first | assumption | exact Hst.stp (by assumption)))))); clear h; (try clear hA); (try clear hB); (try clear hC); first | rfl | ((try simp only [Bool.not_eq_true', Bool.not_eq_false', Bool.not_true, Bool.not_false, Bool.not_eq_true] at *); simp only [*, Mb, reduceIte]; done) | (simp [*]; done) | simp_all)
  rw [if_neg h1] at h
  simp only [decide_eq_false h1, ↓Mm, Mm, ↓Mr, Mr, Mb, reduceIte]
  by_cases h2 : n = [110, 101, 119]
  · rw [if_pos h2] at h
    simp only [decide_eq_true h2, ↓Mm, Mm, ↓Mr, Mr, Mb, reduceIte]
    (repeat' (first | (with_reducible intro _) | (with_reducible refine V3 ?_) | (simp only [↓Mm, Mm, ↓Mp, Mp, Mb, reduceIte]) | (with_reducible first | refine ld aS aL aR ?_ | refine X8 aS aL aR ?_ | refine Y3 aS aL aR ?_ | refine Q6 aL ?_ | refine Y6 aR ?_ | refine Z4 aS ?_ | refine L1 aS aL ?_ | refine U2 aS aR ?_ | refine Y0 aS aR aR (Rep.one (by assumption)) ?_ | refine U1 aS aR aR aR ?_ | refine Ny _ au (W7 aS ?_) | (refine Y2 (fun hh => ?_) (fun hh => ?_) <;> (try simp only [hh, Bool.not_true, Bool.not_false, ↓Mm, Mm, ↓Mp, Mp, Mb, reduceIte])) | (refine Q4 (fun hh => ?_) (fun hh => ?_) <;> (try simp only [hh, Bool.not_true, Bool.not_false, ↓Mm, Mm, ↓Mp, Mp, Mb, reduceIte])))))
    all_goals (refine Eq.subst (motive := fun b => K b _) ?_ (h _ _ (by (repeat (first | exact Stp.refl (by (first | assumption | exact Stp.sat (by assumption) | exact Hst.sat (by assumption))) | assumption | refine Stp.trans ?_ (by first | assumption | exact Hst.stp (by assumption)))))); clear h; (try clear hA); (try clear hB); (try clear hC); first | rfl | ((try simp only [Bool.not_eq_true', Bool.not_eq_false', Bool.not_true, Bool.not_false, Bool.not_eq_true] at *); simp only [*, Mb, reduceIte]; done) | (simp [*]; done) | simp_all)
  rw [if_neg h2] at h
  simp only [decide_eq_false h2, ↓Mm, Mm, ↓Mr, Mr, Mb, reduceIte]
  by_cases h3 : n = [105, 115] ∨ n = [99, 97, 115, 116]
  · rw [if_pos h3] at h
    have e4 : (decide (n = [105, 115]) || decide (n = [99, 97, 115, 116])) = true := by simpa using h3
    refine V3 ?_
    refine Q4 (fun h4 => ?_) (fun h4 => ?_)
    · simp only [h4, ↓Mm, Mm, ↓Mr, Mr, Mb, reduceIte]
      (repeat' (first | (with_reducible intro _) | (with_reducible refine V3 ?_) | (simp only [↓Mm, Mm, ↓Mp, Mp, Mb, reduceIte]) | (with_reducible first | refine ld aS aL aR ?_ | refine X8 aS aL aR ?_ | refine Y3 aS aL aR ?_ | refine Q6 aL ?_ | refine Y6 aR ?_ | refine Z4 aS ?_ | refine L1 aS aL ?_ | refine U2 aS aR ?_ | refine Y0 aS aR aR (Rep.one (by assumption)) ?_ | refine U1 aS aR aR aR ?_ | refine Yz _ au (W7 aS ?_) | refine Uf _ ?_ | (refine Y2 (fun hh => ?_) (fun hh => ?_) <;> (try simp only [hh, Bool.not_true, Bool.not_false, ↓Mm, Mm, ↓Mp, Mp, Mb, reduceIte])) | (refine Q4 (fun hh => ?_) (fun hh => ?_) <;> (try simp only [hh, Bool.not_true, Bool.not_false, ↓Mm, Mm, ↓Mp, Mp, Mb, reduceIte])))))
      all_goals (refine Eq.subst (motive := fun b => K b _) ?_ (h _ _ (by (repeat (first | exact Stp.refl (by (first | assumption | exact Stp.sat (by assumption) | exact Hst.sat (by assumption))) | assumption | refine Stp.trans ?_ (by first | assumption | exact Hst.stp (by assumption)))))); clear h; (try clear hA); (try clear hB); (try clear hC); first | rfl | ((try simp only [Bool.not_eq_true', Bool.not_eq_false', Bool.not_true, Bool.not_false, Bool.not_eq_true] at *); simp only [*, Mb, reduceIte]; done) | (simp [*]; done) | simp_all)
    · rw [h4, Bool.false_or] at e4
      simp only [e4, ↓Mm, Mm, ↓Mr, Mr, Mb, reduceIte]
      (repeat' (first | (with_reducible intro _) | (with_reducible refine V3 ?_) | (simp only [↓Mm, Mm, ↓Mp, Mp, Mb, reduceIte]) | (with_reducible first | refine ld aS aL aR ?_ | refine X8 aS aL aR ?_ | refine Y3 aS aL aR ?_ | refine Q6 aL ?_ | refine Y6 aR ?_ | refine Z4 aS ?_ | refine L1 aS aL ?_ | refine U2 aS aR ?_ | refine Y0 aS aR aR (Rep.one (by assumption)) ?_ | refine U1 aS aR aR aR ?_ | refine Yz _ au (W7 aS ?_) | refine Uf _ ?_ | (refine Y2 (fun hh => ?_) (fun hh => ?_) <;> (try simp only [hh, Bool.not_true, Bool.not_false, ↓Mm, Mm, ↓Mp, Mp, Mb, reduceIte])) | (refine Q4 (fun hh => ?_) (fun hh => ?_) <;> (try simp only [hh, Bool.not_true, Bool.not_false, ↓Mm, Mm, ↓Mp, Mp, Mb, reduceIte])))))
      all_goals (refine Eq.subst (motive := fun b => K b _) ?_ (h _ _ (by (repeat (first | exact Stp.refl (by (first | assumption | exact Stp.sat (by assumption) | exact Hst.sat (by assumption))) | assumption | refine Stp.trans ?_ (by first | assumption | exact Hst.stp (by assumption)))))); clear h; (try clear hA); (try clear hB); (try clear hC); first | rfl | ((try simp only [Bool.not_eq_true', Bool.not_eq_false', Bool.not_true, Bool.not_false, Bool.not_eq_true] at *); simp only [*, Mb, reduceIte]; done) | (simp [*]; done) | simp_all)
  rw [if_neg h3] at h
  obtain ⟨h3, h4⟩ := not_or.1 h3
  refine V3 ?_
  simp only [decide_eq_false h3, decide_eq_false h4, ↓Mm, Mm, ↓Mr, Mr, Mb, reduceIte]
  by_cases h5 : n = [97, 114, 114, 97, 121]
  · rw [if_pos h5] at h
    simp only [decide_eq_true h5, ↓Mm, Mm, ↓Mr, Mr, Mb, reduceIte]
    (repeat' (first | (with_reducible intro _) | (with_reducible refine V3 ?_) | (simp only [↓Mm, Mm, ↓Mp, Mp, Mb, reduceIte]) | (with_reducible first | refine ld aS aL aR ?_ | refine X8 aS aL aR ?_ | refine Y3 aS aL aR ?_ | refine Q6 aL ?_ | refine Y6 aR ?_ | refine Z4 aS ?_ | refine L1 aS aL ?_ | refine U2 aS aR ?_ | refine Y0 aS aR aR (Rep.one (by assumption)) ?_ | refine U1 aS aR aR aR ?_ | refine Yz _ au (W7 aS ?_) | refine Q8R _ au (W7 aS ?_) | (refine Y2 (fun hh => ?_) (fun hh => ?_) <;> (try simp only [hh, Bool.not_true, Bool.not_false, ↓Mm, Mm, ↓Mp, Mp, Mb, reduceIte])) | (refine Q4 (fun hh => ?_) (fun hh => ?_) <;> (try simp only [hh, Bool.not_true, Bool.not_false, ↓Mm, Mm, ↓Mp, Mp, Mb, reduceIte])))))
    all_goals (try rw [e3])
    all_goals (refine Eq.subst (motive := fun b => K b _) ?_ (h _ _ (by (repeat (first | exact Stp.refl (by (first | assumption | exact Stp.sat (by assumption) | exact Hst.sat (by assumption))) | assumption | refine Stp.trans ?_ (by first | assumption | exact Hst.stp (by assumption)))))); clear h; (try clear hA); (try clear hB); (try clear hC); first | rfl | ((try simp only [Bool.not_eq_true', Bool.not_eq_false', Bool.not_true, Bool.not_false, Bool.not_eq_true] at *); simp only [*, Mb, reduceIte]; done) | (simp [*]; done) | simp_all)
  rw [if_neg h5] at h
  simp only [decide_eq_false h5, ↓Mm, Mm, ↓Mr, Mr, Mb, reduceIte]
  intro _
  refine Q7O a ha2 (W7 hs fun w1 σ1 hk => ?_)
  by_cases hp : Qz a = true
  · simp only [hp, if_true] at h ⊢
    (repeat' (first | (with_reducible intro _) | (with_reducible refine V3 ?_) | (simp only [↓Mm, Mm, ↓Mp, Mp, Mb, reduceIte]) | (with_reducible first | refine ld aS aL aR ?_ | refine X8 aS aL aR ?_ | refine Y3 aS aL aR ?_ | refine Q6 aL ?_ | refine Y6 aR ?_ | refine Z4 aS ?_ | refine L1 aS aL ?_ | refine U2 aS aR ?_ | refine Y0 aS aR aR (Rep.one (by assumption)) ?_ | refine U1 aS aR aR aR ?_ | (refine Y2 (fun hh => ?_) (fun hh => ?_) <;> (try simp only [hh, Bool.not_true, Bool.not_false, ↓Mm, Mm, ↓Mp, Mp, Mb, reduceIte])) | (refine Q4 (fun hh => ?_) (fun hh => ?_) <;> (try simp only [hh, Bool.not_true, Bool.not_false, ↓Mm, Mm, ↓Mp, Mp, Mb, reduceIte])))))
    all_goals (refine Eq.subst (motive := fun b => K b _) ?_ (h _ _ (by (repeat (first | exact Stp.refl (by (first | assumption | exact Stp.sat (by assumption) | exact Hst.sat (by assumption))) | assumption | refine Stp.trans ?_ (by first | assumption | exact Hst.stp (by assumption)))))); clear h; (try clear hA); (try clear hB); (try clear hC); first | rfl | ((try simp only [Bool.not_eq_true', Bool.not_eq_false', Bool.not_true, Bool.not_false, Bool.not_eq_true] at *); simp only [*, Mb, reduceIte]; done) | (simp [*]; done) | simp_all)
  · simp only [eq_false_of_ne_true hp, Bool.false_eq_true, if_false] at h ⊢
    (repeat' (first | (with_reducible intro _) | (with_reducible refine V3 ?_) | (simp only [↓Mm, Mm, ↓Mp, Mp, Mb, reduceIte]) | (with_reducible first | refine ld aS aL aR ?_ | refine X8 aS aL aR ?_ | refine Y3 aS aL aR ?_ | refine Q6 aL ?_ | refine Y6 aR ?_ | refine Z4 aS ?_ | refine L1 aS aL ?_ | refine U2 aS aR ?_ | refine Y0 aS aR aR (Rep.one (by assumption)) ?_ | refine U1 aS aR aR aR ?_ | (refine Y2 (fun hh => ?_) (fun hh => ?_) <;> (try simp only [hh, Bool.not_true, Bool.not_false, ↓Mm, Mm, ↓Mp, Mp, Mb, reduceIte])) | (refine Q4 (fun hh => ?_) (fun hh => ?_) <;> (try simp only [hh, Bool.not_true, Bool.not_false, ↓Mm, Mm, ↓Mp, Mp, Mb, reduceIte])))))
    all_goals (refine Eq.subst (motive := fun b => K b _) ?_ (h _ _ (by (repeat (first | exact Stp.refl (by (first | assumption | exact Stp.sat (by assumption) | exact Hst.sat (by assumption))) | assumption | refine Stp.trans ?_ (by first | assumption | exact Hst.stp (by assumption)))))); clear h; (try clear hA); (try clear hB); (try clear hC); first | rfl | ((try simp only [Bool.not_eq_true', Bool.not_eq_false', Bool.not_true, Bool.not_false, Bool.not_eq_true] at *); simp only [*, Mb, reduceIte]; done) | (simp [*]; done) | simp_all))
def N9 (i : Ins) : Int := if !(D2 i.op).2.2 then 40 else if (!(D2 i.op).1 && decide (i.n ≠ 0)) || (!(D2 i.op).2.1 && decide (i.s ≠ [])) || ((D2 i.op).2.1 && !txt i.op i.s) then 41 else 0
theorem Q7c {a : X0} (hs : X6 w σ) (hg : Glb σ) (h : ∀ w', Below w.heap.size w w' → K (.tuple #[.bool (D2 a).1, .bool (D2 a).2.1, .bool (D2 a).2.2]) w') : Q1 P F.bS [S a] w K := Q80 hs hg.ops h
theorem Q3V {i : Ins} {cs : List Value} (hs : X6 w σ) (hg : Glb σ) (hi : F5 σ i cs) (h : ∀ w' σ', Stp w σ w' σ' → K (I (N9 i)) w') : Q1 P F.c8 [.agg cs.toArray] w K := Q2m (by
  obtain ⟨rfl, h1, h2, h3⟩ := hi
  unfold Ia
  unfold N9 at h
  (repeat' (first | (with_reducible intro _) | (with_reducible refine V3 ?_) | (simp only [↓Mm, Mm, ↓Mp, Mp, Mb, reduceIte]) | (with_reducible first | refine ld aS aL aR ?_ | refine X8 aS aL aR ?_ | refine Y3 aS aL aR ?_ | refine Q6 aL ?_ | refine Y6 aR ?_ | refine Z4 aS ?_ | refine L1 aS aL ?_ | refine U2 aS aR ?_ | refine Y0 aS aR aR (Rep.one (by assumption)) ?_ | refine U1 aS aR aR aR ?_ | refine Q7c au au (W7 aS ?_) | refine Q91 au au au ?_ | (refine Y2 (fun hh => ?_) (fun hh => ?_) <;> (try simp only [hh, Bool.not_true, Bool.not_false, ↓Mm, Mm, ↓Mp, Mp, Mb, reduceIte])) | (refine Q4 (fun hh => ?_) (fun hh => ?_) <;> (try simp only [hh, Bool.not_true, Bool.not_false, ↓Mm, Mm, ↓Mp, Mp, Mb, reduceIte])))))
  all_goals (refine Eq.subst (motive := fun b => K b _) ?_ (h _ _ (by (repeat (first | exact Stp.refl (by (first | assumption | exact Stp.sat (by assumption) | exact Hst.sat (by assumption))) | assumption | refine Stp.trans ?_ (by first | assumption | exact Hst.stp (by assumption)))))); clear h; (try clear hA); (try clear hB); (try clear hC); first | rfl | ((try simp only [Bool.not_eq_true', Bool.not_eq_false', Bool.not_true, Bool.not_false, Bool.not_eq_true] at *); simp only [*, Mb, reduceIte]; done) | (simp [*]; done) | simp_all))
end Go.Proofs.YtdnfaboigajkhaaGreatDoor

namespace Go.Emb
open Go.RowKit Go.Hm
variable {P : Program} {W : World}
theorem Am {w : World} (hs : X6 w (I2 W)) {a : Addr} {v : Value} (h : W.cell? a = some v) : w.cell? a = some v := by
  unfold World.cell? at h ⊢
  cases hb : W.heap[a.block]? with
  | none => rw [hb] at h; cases h
  | some o => rw [hb] at h; rw [hs _ o hb]; exact h
theorem Q8L {α : Type} {f : α → List Value} {sz : Nat} (hf : ∀ a, (f a).length = sz) : ∀ (l : List α) (cs : List Value), cs.length = l.length * sz → (∀ i a, l[i]? = some a → (cs.drop (i * sz)).take sz = f a) → cs = l.flatMap f := by
  intro l
  induction l with
  | nil => intro cs h _; simp at h; simp [h]
  | cons a r ih =>
    intro cs h hh
    have h0 := hh 0 a rfl
    have h1 := ih (cs.drop sz) (by rw [List.length_drop, h, List.length_cons, Nat.succ_mul]; omega) (fun i b hb => by
      have := hh (i + 1) b (by simpa using hb)
      rw [List.drop_drop]
      rwa [Nat.succ_mul, Nat.add_comm] at this)
    rw [List.flatMap_cons, ← h1, ← h0]
    simp
theorem Q1k {α H : Type} {enc : TypeId × Value → H} {V8 : Nat} {sp : Nat → Bool} {held : Bool} {f : α → List Value} {fd : α → DataW H} {n sz : Nat} {t e : TypeId} {fuel : Nat} {cs : List Value} {p : List MemPlace} (ht : P.underlying t = some (.array n e)) (hc : P.cellsOf e = sz) (hct : P.cellsOf t = n * sz)
    (l : List α) (hf : ∀ a, (f a).length = sz) (hel : ∀ m cs a q, DataW.trod enc P W V8 sp held m e cs = some (fd a, q) → cs = f a)
    (h : DataW.trod enc P W V8 sp held fuel t cs = some (.agg (l.map fd), p)) : cs = l.flatMap f := by
  obtain ⟨xs, m, _, he, h1, h2, h3⟩ := DataW.trod_array ht h
  simp only [Prod.mk.injEq, DataW.agg.injEq] at he
  have hl : l.length = n := by have := congrArg List.length he.1; simp at this; omega
  refine Q8L hf l cs (by rw [h1, hct, hl]) fun i a ha => ?_
  have hi : i < l.length := (List.getElem?_eq_some_iff.1 ha).1
  have h4 := h3 i (by omega)
  have hx : i < xs.length := by omega
  rw [List.getElem?_eq_getElem hx, hc] at h4
  have h5 : (xs[i]).1 = fd a := by
    have := congrArg (·[i]?) he.1
    simp only [List.getElem?_map, ha, List.getElem?_eq_getElem hx, Option.map_some, Option.some.injEq] at this
    exact this.symm
  exact hel m _ a _ (by rw [h4]; congr 1; exact Prod.ext h5 rfl)
theorem Q3c {n : String} {g : Nat} {cs : Array Value} {l : List Value} (hg : P.globalNamed n = some g) (hv : W.var? P n = some cs) (hl : cs.toList = l) : U0 (I2 W) ⟨g, 0, none⟩ l := by
  unfold World.var? at hv
  rw [hg] at hv
  simp only [Option.bind_some] at hv
  cases hb : W.heap[g]? with
  | none => rw [hb] at hv; cases hv
  | some o =>
    rw [hb] at hv
    cases o with
    | cells D6 e fr =>
      cases hv
      refine ⟨rfl, cs, e, fr, hb, fun i v hi => ?_⟩
      subst hl
      simpa using hi
    | _ => cases hv
end Go.Emb
namespace Go.Proofs.YtdnfaboigajkhaaGreatDoor
open Go.Emb Go.RowKit Go.Kd Go.Hm
variable {W : World}
def laidAll : List (String × DataW Unit) := [("unicode/utf8.acceptRanges", Rows.laid_unicode_utf8_acceptRanges), ("squinch/code.ops", Rows.laid_squinch_code_ops), ("squinch/hier.faults", Rows.laid_squinch_hier_faults), ("unicode/utf8.first", Rows.laid_unicode_utf8_first)]
theorem Q9y : Rows.laid_squinch_code_ops = (.agg (Yd.map fun o => .agg [.lit (.string o.name), .lit (.bool o.number), .lit (.bool o.text)]) : DataW Unit) := by rfl
theorem Q7k : Rows.laid_squinch_hier_faults = (.agg (V1.map fun s => .lit (.string s)) : DataW Unit) := by rfl
theorem Q9u : (Rows.laid_unicode_utf8_acceptRanges : DataW Unit) = Lib.acceptData := by rfl
theorem Q8b : Rows.laid_unicode_utf8_first = Lib.firstData := by kernel_rfl
def Q9O : Array Field := #[⟨"name", T.b, 0, false, "", "squinch/code", 0⟩, ⟨"number", T.l, 1, false, "", "squinch/code", 16⟩, ⟨"text", T.l, 2, false, "", "squinch/code", 17⟩]
theorem Q9T : P.underlying T.a3 = some (.struct Q9O) := by kernel_rfl
theorem Q8U (h : laidMetH P laidAll W) : Glb (I2 W) := by
  rw [Go.MakeChecks.laidMetH_plain _ _ _ (by kernel_rfl)] at h
  refine ⟨?_, fun w hs => ?_, ?_⟩
  · obtain ⟨g, t, cs, fuel, p, hg, hty, hvar, hd⟩ := Lib.laidMet.reads h (.tail _ (.head _))
    obtain rfl := Option.some.inj ((show P.globalNamed "squinch/code.ops" = some G.a by kernel_rfl).symm.trans hg)
    obtain rfl := Option.some.inj ((show (P.globals[G.a]?).map (·.type) = some T.a5 by kernel_rfl).symm.trans hty)
    rw [Q9y] at hd
    refine Q3c hg hvar (Q1k (f := Ag) (sz := 3) (n := 42) (e := T.a3) (by kernel_rfl) (by kernel_rfl) (by kernel_rfl) Yd (fun _ => rfl) (fun m cs a q h => by
    obtain ⟨xs, n, _, he, h1, h2, h3⟩ := DataW.trod_struct Q9T h
    simp only [Prod.mk.injEq, DataW.agg.injEq] at he
    have hlen : cs.length = 3 := by rw [h1]; kernel_rfl
    obtain ⟨c0, c1, c2, rfl⟩ := Q28 hlen
    obtain ⟨x0, x1, x2, rfl⟩ := Q28 (show xs.length = 3 by rw [h2]; rfl)
    have he := he.1
    simp only [List.map_cons, List.map_nil, List.cons.injEq, and_true] at he
    obtain ⟨e0, e1, e2⟩ := he
    have h0 : DataW.trod (fun _ => ()) P W 0 (fun _ => true) false n T.b (List.take (P.cellsOf T.b) (List.drop 0 [c0, c1, c2])) = some x0 := h3 0 _ rfl
    have h4 : DataW.trod (fun _ => ()) P W 0 (fun _ => true) false n T.l (List.take (P.cellsOf T.l) (List.drop 1 [c0, c1, c2])) = some x1 := h3 1 _ rfl
    have h5 : DataW.trod (fun _ => ()) P W 0 (fun _ => true) false n T.l (List.take (P.cellsOf T.l) (List.drop 2 [c0, c1, c2])) = some x2 := h3 2 _ rfl
    rw [S7] at h0
    rw [Rz] at h4 h5
    obtain ⟨⟨⟨s0⟩⟩, q0, r0, _⟩ := DataW.trod_string X7 h0
    obtain ⟨b1, q1, r1⟩ := DataW.trod_bool Jd h4
    obtain ⟨b2, q2, r2⟩ := DataW.trod_bool Jd h5
    simp at q0 q1 q2
    subst q0 q1 q2 r0 r1 r2
    simp at e0 e1 e2
    simp [Ag, ← e0, ← e1, ← e2]) hd)
  · have := utf8Tabs_of_readsT (U8Types.of196 Tryz.lays196) ⟨by kernel_rfl, by kernel_rfl, by kernel_rfl, by kernel_rfl, by kernel_rfl, by kernel_rfl, by kernel_rfl⟩ (Q8b ▸ Lib.laidMet.reads h (.tail _ (.tail _ (.tail _ (.head _))))) (Q9u ▸ Lib.laidMet.reads h (.head _))
    exact ⟨fun c hc => Am hs (this.1 c hc), fun i hi => ⟨Am hs (this.2 i hi).1, Am hs (this.2 i hi).2⟩⟩
  · obtain ⟨g, t, cs, fuel, p, hg, hty, hvar, hd⟩ := Lib.laidMet.reads h (.tail _ (.tail _ (.head _)))
    obtain rfl := Option.some.inj ((show P.globalNamed "squinch/hier.faults" = some G.b by kernel_rfl).symm.trans hg)
    obtain rfl := Option.some.inj ((show (P.globals[G.b]?).map (·.type) = some T.ad by kernel_rfl).symm.trans hty)
    rw [Q7k] at hd
    have := Q1k (f := fun s => [S s]) (sz := 1) (n := 6) (e := T.b) (by kernel_rfl) S7 (by kernel_rfl) V1 (fun _ => rfl) (fun m cs a q h => by
      obtain ⟨⟨⟨s⟩⟩, rfl, he, _⟩ := DataW.trod_string X7 h
      cases he; rfl) hd
    exact Q3c hg hvar (this.trans (by rfl))
end Go.Proofs.YtdnfaboigajkhaaGreatDoor
namespace Go.Emb
open Go.RowKit Go.Hm
theorem Q8T {H : Type} {P : Program} {ts : List TypeId} {ds : List (DataW H)} (h : (DataW.weightsEach P ts ds).all (· ≤ reachBytes) = true) {j : Nat} {t : TypeId} {d : DataW H} (ht : ts[j]? = some t) (hd : ds[j]? = some d) : Wt P t d := fun n hn => by
  have := List.all_eq_true.1 h _ (DataW.weights_mem_each ht hd n hn)
  simpa using this
end Go.Emb
namespace Go.Proofs.YtdnfaboigajkhaaGreatDoor
open Go.Emb Go.RowKit Go.Kd Go.Hm
section
variable {H : Type} {enc : TypeId × Value → H} {W : World} {v : Value} {d : DataW H} {p : List MemPlace}
set_option maxRecDepth 100000 in
theorem Q7S {V8 : Nat} (hv : Value.okWide P W .any V8 T.g v) (h : DataW.Trod enc P W 0 (fun _ => true) true T.g v d p) (hw : Wt P T.g d) : ∃ l, Sl 8 U7 (I2 W) v l := by
  obtain ⟨a, n, c, rfl⟩ := WideShapes.okWide_slice Q5X hv
  unfold DataW.Trod at h
  obtain ⟨fuel, h⟩ := h
  obtain ⟨u, l, e, hl⟩ := Q7R h hw
  simp [Value.cells] at e
  subst e
  exact ⟨l, hl⟩
end
end Go.Proofs.YtdnfaboigajkhaaGreatDoor

namespace Go.Proofs.YtdnfaboigajkhaaGreatDoor
open Go.Emb Go.RowKit Go.Kd Go.Hm
variable {w : World} {K : Value → World → Prop} {σ : Q5}
def S1 (n : Int) (x : Cat) : Bool := decide (0 ≤ x.frm) && decide (x.frm < x.to) && decide (x.to ≤ n) && decide (0 ≤ x.at_) && decide (x.at_ < n) && L4 x.cls
theorem Q5d {cs : List Value} {c : Cat} {q : Addr} {n : Int} (hs : X6 w σ) (hc : Qr σ c cs) (hq : U0 σ q [I n]) (h : ∀ w' σ', Stp w σ w' σ' → K (.bool (S1 n c)) w') : Q1 P F.aX [.agg cs.toArray, .pointer (some q)] w K := Aq (by
  obtain ⟨rfl, h1, h2, h3, h4⟩ := hc
  unfold Oy
  unfold S1 at h
  (repeat' (first | (with_reducible intro _) | (with_reducible refine V3 ?_) | (simp only [↓Mm, Mm, ↓Mp, Mp, Mb, reduceIte]) | (with_reducible first | refine ld aS aL aR ?_ | refine X8 aS aL aR ?_ | refine Y3 aS aL aR ?_ | refine Q6 aL ?_ | refine Y6 aR ?_ | refine Z4 aS ?_ | refine L1 aS aL ?_ | refine U2 aS aR ?_ | refine Y0 aS aR aR (Rep.one (by assumption)) ?_ | refine U1 aS aR aR aR ?_ | refine Ny _ au (W7 aS ?_) | (refine Y2 (fun hh => ?_) (fun hh => ?_) <;> (try simp only [hh, Bool.not_true, Bool.not_false, ↓Mm, Mm, ↓Mp, Mp, Mb, reduceIte])) | (refine Q4 (fun hh => ?_) (fun hh => ?_) <;> (try simp only [hh, Bool.not_true, Bool.not_false, ↓Mm, Mm, ↓Mp, Mp, Mb, reduceIte])))))
  all_goals (refine Eq.subst (motive := fun b => K b _) ?_ (h _ _ (by (repeat (first | exact Stp.refl (by (first | assumption | exact Stp.sat (by assumption) | exact Hst.sat (by assumption))) | assumption | refine Stp.trans ?_ (by first | assumption | exact Hst.stp (by assumption)))))); clear h; (try clear hA); (try clear hB); (try clear hC); first | rfl | ((try simp only [Bool.not_eq_true', Bool.not_eq_false', Bool.not_true, Bool.not_false, Bool.not_eq_true] at *); simp only [*, Mb, reduceIte]; done) | (simp [*]; done) | simp_all))
theorem Q5j {cs : List Value} {i : Ins} (hs : X6 w σ) (hg : Glb σ) (hc : F5 σ i cs) (h : ∀ w' σ', Stp w σ w' σ' → K (.bool (decide (N9 i = 0))) w') : Q1 P F.aY [.agg cs.toArray] w K := An (by
  obtain ⟨rfl, h1, h2, h3⟩ := hc
  have hc : F5 σ i [S i.op, I i.n, S i.s] := ⟨rfl, h1, h2, h3⟩
  unfold Od
  (repeat' (first | (with_reducible intro _) | (with_reducible refine V3 ?_) | (simp only [↓Mm, Mm, ↓Mp, Mp, Mb, reduceIte]) | (with_reducible first | refine ld aS aL aR ?_ | refine X8 aS aL aR ?_ | refine Y3 aS aL aR ?_ | refine Q6 aL ?_ | refine Y6 aR ?_ | refine Z4 aS ?_ | refine L1 aS aL ?_ | refine U2 aS aR ?_ | refine Y0 aS aR aR (Rep.one (by assumption)) ?_ | refine U1 aS aR aR aR ?_ | refine Q3V au au au ?_ | (refine Y2 (fun hh => ?_) (fun hh => ?_) <;> (try simp only [hh, Bool.not_true, Bool.not_false, ↓Mm, Mm, ↓Mp, Mp, Mb, reduceIte])) | (refine Q4 (fun hh => ?_) (fun hh => ?_) <;> (try simp only [hh, Bool.not_true, Bool.not_false, ↓Mm, Mm, ↓Mp, Mp, Mb, reduceIte])))))
  all_goals (refine Eq.subst (motive := fun b => K b _) ?_ (h _ _ (by (repeat (first | exact Stp.refl (by (first | assumption | exact Stp.sat (by assumption) | exact Hst.sat (by assumption))) | assumption | refine Stp.trans ?_ (by first | assumption | exact Hst.stp (by assumption)))))); clear h; (try clear hA); (try clear hB); (try clear hC); first | rfl | ((try simp only [Bool.not_eq_true', Bool.not_eq_false', Bool.not_true, Bool.not_false, Bool.not_eq_true] at *); simp only [*, Mb, reduceIte]; done) | (simp [*]; done) | simp_all))
def S3 (m : Hm.Met) : Bool := M7 m.name && m.params.all right && (decide (m.result = []) || right m.result) &&
  if m.abs then decide (m.locals = 0) && decide (m.code = []) && decide (m.catches = [])
  else decide (m.code ≠ []) && decide ((m.params.length : Int) < m.locals) && m.code.all (fun i => decide (N9 i = 0)) && m.catches.all (S1 m.code.length)
theorem Q6K {cs : List Value} {m : Hm.Met} (hs : X6 w σ) (hg : Glb σ) (hm : M9 σ m cs) (h : ∀ w' σ', Stp w σ w' σ' → K (.bool (S3 m)) w') : Q1 P F.aQ [.agg cs.toArray] w K := Q0V (by
  obtain ⟨pv, cv, hv, rfl, g1, g2, g3, g4, g5, g6⟩ := hm
  unfold Rs
  unfold S3 at h
  have e1 : decide ((0 : Int) < m.code.length) = decide (m.code ≠ []) := by cases m.code <;> simp
  have e2 : decide ((m.code.length : Int) = 0) = decide (m.code = []) := by cases m.code <;> simp; omega
  have e3 : decide ((m.catches.length : Int) = 0) = decide (m.catches = []) := by cases m.catches <;> simp; omega
  have hA : ∀ {w1 : World} {σ1 : Q5} {K : Value → World → Prop}, X6 w1 σ1 → Sl 1 U5 σ1 pv m.params → (∀ w' σ', Stp w1 σ1 w' σ' → K (.bool (m.params.all right)) w') → Q1 P F.a3 [pv, .func (.func F.a1) #[] #[]] w1 K :=
    fun hs hv h => Rb right hs hv (fun σ1 x w1 K _ _ hs hl hK => J4 (Yz x (Nat.le_trans hl (by decide)) hK)) (W7 hs h)
  have hB : ∀ {w1 : World} {σ1 : Q5} {K : Value → World → Prop}, X6 w1 σ1 → Glb σ1 → Sl 3 F5 σ1 cv m.code → (∀ w' σ', Stp w1 σ1 w' σ' → K (.bool (m.code.all fun i => decide (N9 i = 0))) w') → Q1 P F.an [cv, .func (.func F.aY) #[] #[]] w1 K :=
    fun hs hg hv h => Tg (fun i => decide (N9 i = 0)) hs hv (fun σ1 x cs w1 K le _ hs hr hl hK => J4 (Q5j hs (hg.lift ⟨le⟩) hr fun w' σ' hk => hK w' hk.bel)) (W7 hs h)
  have hC : ∀ {w1 : World} {σ1 : Q5} {K : Value → World → Prop} {q : Addr}, X6 w1 σ1 → Sl 4 Qr σ1 hv m.catches → U0 σ1 q [I m.code.length] → (∀ w' σ', Stp w1 σ1 w' σ' → K (.bool (m.catches.all (S1 m.code.length))) w') → Q1 P F.ao [hv, .func (.func F.aX) #[] #[.pointer (some q)]] w1 K :=
    fun hs hv hq h => Ti (S1 m.code.length) hs hv (fun σ1 x cs w1 K le _ hs hr hl hK => J4 (Q5d hs hr (hq.le le) fun w' σ' hk => hK w' hk.bel)) (W7 hs h)
  refine Z4 hs fun a w1 σ1 hk1 ha1 => ?_
  (repeat' (first | (with_reducible intro _) | (with_reducible refine V3 ?_) | (simp only [↓Mm, Mm, ↓Mp, Mp, Mb, reduceIte]) | (with_reducible first | refine ld aS aL aR ?_ | refine X8 aS aL aR ?_ | refine Y3 aS aL aR ?_ | refine Q6 aL ?_ | refine Y6 aR ?_ | refine Z4 aS ?_ | refine L1 aS aL ?_ | refine U2 aS aR ?_ | refine Y0 aS aR aR (Rep.one (by assumption)) ?_ | refine U1 aS aR aR aR ?_ | refine Q2x au (W7 aS ?_) | refine Yz _ au (W7 aS ?_) | refine hA au au ?_ | refine hB au au au ?_ | refine hC au au au ?_ | (refine Y2 (fun hh => ?_) (fun hh => ?_) <;> (try simp only [hh, Bool.not_true, Bool.not_false, ↓Mm, Mm, ↓Mp, Mp, Mb, reduceIte])) | (refine Q4 (fun hh => ?_) (fun hh => ?_) <;> (try simp only [hh, Bool.not_true, Bool.not_false, ↓Mm, Mm, ↓Mp, Mp, Mb, reduceIte])))))
  all_goals (simp only [← e1, ← e2, ← e3] at h; clear e1 e2 e3; (refine Eq.subst (motive := fun b => K b _) ?_ (h _ _ (by (repeat (first | exact Stp.refl (by (first | assumption | exact Stp.sat (by assumption) | exact Hst.sat (by assumption))) | assumption | refine Stp.trans ?_ (by first | assumption | exact Hst.stp (by assumption)))))); clear h; (try clear hA); (try clear hB); (try clear hC); first | rfl | ((try simp only [Bool.not_eq_true', Bool.not_eq_false', Bool.not_true, Bool.not_false, Bool.not_eq_true] at *); simp only [*, Mb, reduceIte]; done) | (simp [*]; done) | simp_all)))
theorem Q5S {cs : List Value} {m : Hm.Met} (hs : X6 w σ) (hg : Glb σ) (hm : M9 σ m cs) (h : ∀ w' σ', Stp w σ w' σ' → K (.bool (S3 m)) w') : Z7 P (.func (.func F.aQ) #[] #[]) [.agg cs.toArray] w K := J4 (Q6K hs hg hm h)
def Mk (f : Fld) : Bool := M7 f.name && right f.kind
def Vm (c : Cla) : Bool := (c.name :: c.super :: c.like).all L4 && !((c.super :: c.like).any fun y => decide (c.name = y)) && E5 id [] c.like &&
  !(c.iface && (!c.abs || !decide (c.super = U4) || !decide (c.fields = []) || c.methods.any (fun m => !m.abs))) &&
  !((c.abs && c.fin) || (c.methods.any (·.abs) && !c.abs)) && E5 Fld.name [] c.fields && E5 Hm.Met.name [] c.methods && c.fields.all Mk && c.methods.all S3
def L5 (c : Cla) : Int := if Xe c then 51 else if Vm c then 0 else 50
theorem Q6s {cs : List Value} {f : Fld} (hs : X6 w σ) (hf : D7 σ f cs) (h : ∀ w' σ', Stp w σ w' σ' → K (.bool (Mk f)) w') : Q1 P F.be [.agg cs.toArray] w K := Q0z (by
  obtain ⟨rfl, h1, h2⟩ := hf
  unfold Ef
  unfold Mk at h
  (repeat' (first | (with_reducible intro _) | (with_reducible refine V3 ?_) | (simp only [↓Mm, Mm, ↓Mp, Mp, Mb, reduceIte]) | (with_reducible first | refine ld aS aL aR ?_ | refine X8 aS aL aR ?_ | refine Y3 aS aL aR ?_ | refine Q6 aL ?_ | refine Y6 aR ?_ | refine Z4 aS ?_ | refine L1 aS aL ?_ | refine U2 aS aR ?_ | refine Y0 aS aR aR (Rep.one (by assumption)) ?_ | refine U1 aS aR aR aR ?_ | refine Q2x au (W7 aS ?_) | refine Yz _ au (W7 aS ?_) | (refine Y2 (fun hh => ?_) (fun hh => ?_) <;> (try simp only [hh, Bool.not_true, Bool.not_false, ↓Mm, Mm, ↓Mp, Mp, Mb, reduceIte])) | (refine Q4 (fun hh => ?_) (fun hh => ?_) <;> (try simp only [hh, Bool.not_true, Bool.not_false, ↓Mm, Mm, ↓Mp, Mp, Mb, reduceIte])))))
  all_goals (refine Eq.subst (motive := fun b => K b _) ?_ (h _ _ (by (repeat (first | exact Stp.refl (by (first | assumption | exact Stp.sat (by assumption) | exact Hst.sat (by assumption))) | assumption | refine Stp.trans ?_ (by first | assumption | exact Hst.stp (by assumption)))))); clear h; (try clear hA); (try clear hB); (try clear hC); first | rfl | ((try simp only [Bool.not_eq_true', Bool.not_eq_false', Bool.not_true, Bool.not_false, Bool.not_eq_true] at *); simp only [*, Mb, reduceIte]; done) | (simp [*]; done) | simp_all))
set_option maxHeartbeats 1600000 in
theorem Q8e {cs : List Value} {c : Cla} (hs : X6 w σ) (hg : Glb σ) (hc : U7 σ c cs) (hl : c.like.length ≤ 1000000) (h : ∀ w' σ', Stp w σ w' σ' → K (.bool (Vm c)) w') : Q1 P F.c2 [.agg cs.toArray] w K := Q21 (by
  obtain ⟨lv, fv, mv, rfl, g1, g2, g3, g4, g5⟩ := hc
  unfold Fe
  unfold Vm at h
  refine Z4 hs fun a w1 σ1 hk1 ha1 => ?_
  rw [fa]
  refine ld hk1.sat ha1 rfl ?_
  rw [fa]
  refine ld hk1.sat ha1 rfl ?_
  refine Qq (R := U5) (sz := 1) (xs := [c.name, c.super]) hk1 [_, _] rfl rfl (by simp; exact ⟨rfl, rfl⟩) rfl ⟨⟨rfl, g4⟩, ⟨rfl, g5⟩, trivial⟩ fun v w2 hk2 hacc _ => ?_
  rw [fa]
  refine ld hk2.sat ha1 rfl ?_
  refine Nv (hk1.trans hk2) hacc (g1.up hk1) rfl (by simp; omega) (by simp; omega) fun v' w3 hn3 hS3 hacc3 _ => ?_
  obtain ⟨σ3, hS3, hv3, le3, _⟩ := hacc3.keep hS3
  have hv3 : Sl 1 U5 σ3 v' (c.name :: c.super :: c.like) := hv3
  have ha3 := ha1.le le3
  have le13 : SLe σ σ3 := ⟨hS3.le⟩
  have g1 := g1.lift le13
  have g2 := g2.lift le13
  have g3 := g3.lift le13
  have hg := hg.lift le13
  refine W1 hS3.sat ?_
  refine O4 (fun v _ => Sl 1 U5 σ3 v (c.super :: c.like)) (fun _ _ _ h _ => h) (fun w hb => ?_) ?_
  · refine Ry hv3 (some (I 1)) none 1 (c.like.length + 2) (.inr rfl) (.inl ⟨rfl, by simp⟩) (by omega) (by simp) fun v' hv' => ⟨Below.refl _ _, ?_⟩
    simpa using hv'
  refine X2 (.pointer (some (a.add 0))) (fun w hb => by rw [fa]; exact X5 rfl) ?_
  refine X2 (S c.name) (fun t w hb e => by rw [e]; exact ld hb.sat ha3 rfl (X5 rfl)) ?_
  rintro t16 t17 t18 w4 hb4 f16 rfl rfl
  have hS4 := hS3.trans hb4.stp
  clear hb4 hk1 hk2 hn3
  have hs4 := hS4.sat
  refine Th hs4 f16 ?_
  have hA : ∀ {w1 : World} {σ1 : Q5} {K : Value → World → Prop}, X6 w1 σ1 → Sl 7 M9 σ1 mv c.methods → (∀ w' σ', Stp w1 σ1 w' σ' → K (.bool (c.methods.any (·.abs))) w') → Q1 P F.a [mv, .func (.func F.bT) #[] #[]] w1 K :=
    fun hs hv h => H6 (·.abs) hs hv (fun x cs w1 K _ hs hr hl hK => J4 (Q06 (by
      obtain ⟨pv, cv, hv, rfl, _⟩ := hr
      unfold Ev
      refine Z4 hs fun a w1 σ1 hk1 ha1 => ?_
      (repeat' (first | (with_reducible intro _) | (with_reducible refine V3 ?_) | (simp only [↓Mm, Mm, ↓Mp, Mp, Mb, reduceIte]) | (with_reducible first | refine ld aS aL aR ?_ | refine X8 aS aL aR ?_ | refine Y3 aS aL aR ?_ | refine Q6 aL ?_ | refine Y6 aR ?_ | refine Z4 aS ?_ | refine L1 aS aL ?_ | refine U2 aS aR ?_ | refine Y0 aS aR aR (Rep.one (by assumption)) ?_ | refine U1 aS aR aR aR ?_ | (refine Y2 (fun hh => ?_) (fun hh => ?_) <;> (try simp only [hh, Bool.not_true, Bool.not_false, ↓Mm, Mm, ↓Mp, Mp, Mb, reduceIte])) | (refine Q4 (fun hh => ?_) (fun hh => ?_) <;> (try simp only [hh, Bool.not_true, Bool.not_false, ↓Mm, Mm, ↓Mp, Mp, Mb, reduceIte])))))
      exact hK _ hk1.bel))) (W7 hs h)
  have hB : ∀ {w1 : World} {σ1 : Q5} {K : Value → World → Prop}, X6 w1 σ1 → Sl 7 M9 σ1 mv c.methods → (∀ w' σ', Stp w1 σ1 w' σ' → K (.bool (c.methods.any fun m => !m.abs)) w') → Q1 P F.a [mv, .func (.func F.bU) #[] #[]] w1 K :=
    fun hs hv h => H6 (fun m => !m.abs) hs hv (fun x cs w1 K _ hs hr hl hK => J4 (Q07 (by
      obtain ⟨pv, cv, hv, rfl, _⟩ := hr
      unfold Ep
      refine Z4 hs fun a w1 σ1 hk1 ha1 => ?_
      (repeat' (first | (with_reducible intro _) | (with_reducible refine V3 ?_) | (simp only [↓Mm, Mm, ↓Mp, Mp, Mb, reduceIte]) | (with_reducible first | refine ld aS aL aR ?_ | refine X8 aS aL aR ?_ | refine Y3 aS aL aR ?_ | refine Q6 aL ?_ | refine Y6 aR ?_ | refine Z4 aS ?_ | refine L1 aS aL ?_ | refine U2 aS aR ?_ | refine Y0 aS aR aR (Rep.one (by assumption)) ?_ | refine U1 aS aR aR aR ?_ | (refine Y2 (fun hh => ?_) (fun hh => ?_) <;> (try simp only [hh, Bool.not_true, Bool.not_false, ↓Mm, Mm, ↓Mp, Mp, Mb, reduceIte])) | (refine Q4 (fun hh => ?_) (fun hh => ?_) <;> (try simp only [hh, Bool.not_true, Bool.not_false, ↓Mm, Mm, ↓Mp, Mp, Mb, reduceIte])))))
      exact hK _ hk1.bel))) (W7 hs h)
  have hC : ∀ {w1 : World} {σ1 : Q5} {K : Value → World → Prop}, X6 w1 σ1 → Sl 1 U5 σ1 v' (c.name :: c.super :: c.like) → (∀ w' σ', Stp w1 σ1 w' σ' → K (.bool ((c.name :: c.super :: c.like).all L4)) w') → Q1 P F.a3 [v', .func (.func F.ac) #[] #[]] w1 K :=
    fun hs hv h => Rb L4 hs hv (fun σ1 x w1 K _ _ hs hl hK => J4 (Ny x (Nat.le_trans hl (by decide)) hK)) (W7 hs h)
  have hD : ∀ {w1 : World} {σ1 : Q5} {K : Value → World → Prop}, X6 w1 σ1 → Sl 1 U5 σ1 lv c.like → (∀ w' σ', Stp w1 σ1 w' σ' → K (.bool (E5 id [] c.like)) w') → Q1 P F.aG [lv, .func (.func F.bV) #[] #[]] w1 K :=
    fun hs hv h => Q1Y id hs hv (fun σ1 x w1 K _ hs hl hK => J4 (Q0u (hK _ (Below.refl _ _)))) (W7 hs h)
  have hE : ∀ {w1 : World} {σ1 : Q5} {K : Value → World → Prop}, X6 w1 σ1 → Sl 3 D7 σ1 fv c.fields → (∀ w' σ', Stp w1 σ1 w' σ' → K (.bool (E5 Fld.name [] c.fields)) w') → Q1 P F.au [fv, .func (.func F.bW) #[] #[]] w1 K :=
    fun hs hv h => Al Fld.name hs hv (fun σ1 x cs w1 K _ hs hr hl hK => J4 (Q0q (by
      obtain ⟨rfl, _⟩ := hr
      unfold Ei
      refine Z4 hs fun a w1 σ1 hk1 ha1 => ?_
      (repeat' (first | (with_reducible intro _) | (with_reducible refine V3 ?_) | (simp only [↓Mm, Mm, ↓Mp, Mp, Mb, reduceIte]) | (with_reducible first | refine ld aS aL aR ?_ | refine X8 aS aL aR ?_ | refine Y3 aS aL aR ?_ | refine Q6 aL ?_ | refine Y6 aR ?_ | refine Z4 aS ?_ | refine L1 aS aL ?_ | refine U2 aS aR ?_ | refine Y0 aS aR aR (Rep.one (by assumption)) ?_ | refine U1 aS aR aR aR ?_ | (refine Y2 (fun hh => ?_) (fun hh => ?_) <;> (try simp only [hh, Bool.not_true, Bool.not_false, ↓Mm, Mm, ↓Mp, Mp, Mb, reduceIte])) | (refine Q4 (fun hh => ?_) (fun hh => ?_) <;> (try simp only [hh, Bool.not_true, Bool.not_false, ↓Mm, Mm, ↓Mp, Mp, Mb, reduceIte])))))
      exact hK _ hk1.bel))) (W7 hs h)
  have hF : ∀ {w1 : World} {σ1 : Q5} {K : Value → World → Prop}, X6 w1 σ1 → Sl 7 M9 σ1 mv c.methods → (∀ w' σ', Stp w1 σ1 w' σ' → K (.bool (E5 Hm.Met.name [] c.methods)) w') → Q1 P F.ak [mv, .func (.func F.bX) #[] #[]] w1 K :=
    fun hs hv h => Tj Hm.Met.name hs hv (fun σ1 x cs w1 K _ hs hr hl hK => J4 (Q0e (by
      obtain ⟨pv, cv, hv, rfl, _⟩ := hr
      unfold Em
      refine Z4 hs fun a w1 σ1 hk1 ha1 => ?_
      (repeat' (first | (with_reducible intro _) | (with_reducible refine V3 ?_) | (simp only [↓Mm, Mm, ↓Mp, Mp, Mb, reduceIte]) | (with_reducible first | refine ld aS aL aR ?_ | refine X8 aS aL aR ?_ | refine Y3 aS aL aR ?_ | refine Q6 aL ?_ | refine Y6 aR ?_ | refine Z4 aS ?_ | refine L1 aS aL ?_ | refine U2 aS aR ?_ | refine Y0 aS aR aR (Rep.one (by assumption)) ?_ | refine U1 aS aR aR aR ?_ | (refine Y2 (fun hh => ?_) (fun hh => ?_) <;> (try simp only [hh, Bool.not_true, Bool.not_false, ↓Mm, Mm, ↓Mp, Mp, Mb, reduceIte])) | (refine Q4 (fun hh => ?_) (fun hh => ?_) <;> (try simp only [hh, Bool.not_true, Bool.not_false, ↓Mm, Mm, ↓Mp, Mp, Mb, reduceIte])))))
      exact hK _ hk1.bel))) (W7 hs h)
  have hG : ∀ {w1 : World} {σ1 : Q5} {K : Value → World → Prop}, X6 w1 σ1 → Sl 3 D7 σ1 fv c.fields → (∀ w' σ', Stp w1 σ1 w' σ' → K (.bool (c.fields.all Mk)) w') → Q1 P F.al [fv, .func (.func F.be) #[] #[]] w1 K :=
    fun hs hv h => Tl Mk hs hv (fun σ1 x cs w1 K _ _ hs hr hl hK => J4 (Q6s hs hr fun w' σ' hk => hK w' hk.bel)) (W7 hs h)
  have hH : ∀ {w1 : World} {σ1 : Q5} {K : Value → World → Prop}, X6 w1 σ1 → Glb σ1 → Sl 7 M9 σ1 mv c.methods → (∀ w' σ', Stp w1 σ1 w' σ' → K (.bool (c.methods.all S3)) w') → Q1 P F.ah [mv, .func (.func F.aQ) #[] #[]] w1 K :=
    fun hs hg hv h => Kj S3 hs hv (fun σ1 x cs w1 K le _ hs hr hl hK => Q5S hs (hg.lift ⟨le⟩) hr fun w' σ' hk => hK w' hk.bel) (W7 hs h)
  have e1 : decide ((0 : Int) < c.fields.length) = !decide (c.fields = []) := by cases c.fields <;> simp
  have e2 : decide (c.super = [79, 98, 106, 101, 99, 116]) = decide (c.super = U4) := rfl
  (repeat' (first | (with_reducible intro _) | (with_reducible refine V3 ?_) | (simp only [↓Mm, Mm, ↓Mp, Mp, Mb, reduceIte]) | (with_reducible first | refine ld aS aL aR ?_ | refine X8 aS aL aR ?_ | refine Y3 aS aL aR ?_ | refine Q6 aL ?_ | refine Y6 aR ?_ | refine Z4 aS ?_ | refine L1 aS aL ?_ | refine U2 aS aR ?_ | refine Y0 aS aR aR (Rep.one (by assumption)) ?_ | refine U1 aS aR aR aR ?_ | refine hA au au ?_ | refine hB au au ?_ | refine hC au au ?_ | refine hD au au ?_ | refine hE au au ?_ | refine hF au au ?_ | refine hG au au ?_ | refine hH au au au ?_ | (refine Y2 (fun hh => ?_) (fun hh => ?_) <;> (try simp only [hh, Bool.not_true, Bool.not_false, ↓Mm, Mm, ↓Mp, Mp, Mb, reduceIte])) | (refine Q4 (fun hh => ?_) (fun hh => ?_) <;> (try simp only [hh, Bool.not_true, Bool.not_false, ↓Mm, Mm, ↓Mp, Mp, Mb, reduceIte])))))
  all_goals (simp only [← e1, ← e2] at h; clear hA hB hC hD hE hF hG hH e1 e2; (refine Eq.subst (motive := fun b => K b _) ?_ (h _ _ (by (repeat (first | exact Stp.refl (by (first | assumption | exact Stp.sat (by assumption) | exact Hst.sat (by assumption))) | assumption | refine Stp.trans ?_ (by first | assumption | exact Hst.stp (by assumption)))))); clear h; (try clear hA); (try clear hB); (try clear hC); first | rfl | ((try simp only [Bool.not_eq_true', Bool.not_eq_false', Bool.not_true, Bool.not_false, Bool.not_eq_true] at *); simp only [*, Mb, reduceIte]; done) | (simp [*]; done) | simp_all)))
theorem Q8f {cs : List Value} {c : Cla} (hs : X6 w σ) (hg : Glb σ) (hc : U7 σ c cs) (hl : c.like.length ≤ 1000000) (h : ∀ w' σ', Stp w σ w' σ' → K (I (L5 c)) w') : Q1 P F.c1 [.agg cs.toArray] w K := Q1W (by
  have hc0 := hc
  obtain ⟨lv, fv, mv, rfl, g1, g2, g3, g4, g5⟩ := hc
  unfold Fd
  unfold L5 at h
  (repeat' (first | (with_reducible intro _) | (with_reducible refine V3 ?_) | (simp only [↓Mm, Mm, ↓Mp, Mp, Mb, reduceIte]) | (with_reducible first | refine ld aS aL aR ?_ | refine X8 aS aL aR ?_ | refine Y3 aS aL aR ?_ | refine Q6 aL ?_ | refine Y6 aR ?_ | refine Z4 aS ?_ | refine L1 aS aL ?_ | refine U2 aS aR ?_ | refine Y0 aS aR aR (Rep.one (by assumption)) ?_ | refine U1 aS aR aR aR ?_ | refine Q9b au au (W7 aS ?_) | refine Q8e au au au au ?_ | (refine Y2 (fun hh => ?_) (fun hh => ?_) <;> (try simp only [hh, Bool.not_true, Bool.not_false, ↓Mm, Mm, ↓Mp, Mp, Mb, reduceIte])) | (refine Q4 (fun hh => ?_) (fun hh => ?_) <;> (try simp only [hh, Bool.not_true, Bool.not_false, ↓Mm, Mm, ↓Mp, Mp, Mb, reduceIte])))))
  all_goals (refine Eq.subst (motive := fun b => K b _) ?_ (h _ _ (by (repeat (first | exact Stp.refl (by (first | assumption | exact Stp.sat (by assumption) | exact Hst.sat (by assumption))) | assumption | refine Stp.trans ?_ (by first | assumption | exact Hst.stp (by assumption)))))); clear h; (try clear hA); (try clear hB); (try clear hC); first | rfl | ((try simp only [Bool.not_eq_true', Bool.not_eq_false', Bool.not_true, Bool.not_false, Bool.not_eq_true] at *); simp only [*, Mb, reduceIte]; done) | (simp [*]; done) | simp_all))
end Go.Proofs.YtdnfaboigajkhaaGreatDoor

namespace Go.Emb
open Go.RowKit Go.Hm
structure Tab (σ : Q5) (v : Value) (l : List Cla) : Prop where
  ex : ∃ a lv r m, v = .pointer (some a) ∧ U0 σ a [lv, .map (some r)] ∧ Sl 8 U7 σ lv l ∧ P5 σ r m ∧ ∀ n, E6 m n = (Y7 l n).map (fun i : Nat => I (i : Int))
theorem Tab.lift {σ0 σ : Q5} {v : Value} {l : List Cla} (h : Tab σ0 v l) (k : SLe σ0 σ) : Tab σ v l := by
  obtain ⟨a, lv, r, m, h0, h1, h2, h3, h4⟩ := h.ex
  exact ⟨a, lv, r, m, h0, h1.lift k, h2.lift k, h3.lift k, h4⟩
end Go.Emb
namespace Go.Proofs.YtdnfaboigajkhaaGreatDoor
open Go.Emb Go.RowKit Go.Kd Go.Hm
variable {w : World} {K : Value → World → Prop} {σ : Q5} {v : Value} {l : List Cla}
theorem Q4K {n : X0} (hs : X6 w σ) (ht : Tab σ v l) (h : K (.bool (hasM l n)) w) : Q1 P F.f [v, S n] w K := Lw (by
  obtain ⟨a, lv, r, m, rfl, t1, t2, t3, t4⟩ := ht.ex
  unfold Xt
  rw [H4, fa]
  refine ld hs t1 rfl ?_
  rw [Sw X7 (t3.is hs) n, t4 n]
  unfold hasM at h
  cases hf : Y7 l n <;> rw [hf] at h <;> ((try simp only [Option.map_some, Option.map_none]); (try simp only [↓Mm, Mm, ↓Mr, Mr, Mb, reduceIte]); exact h))
theorem G6 {n : X0} {c : Cla} (hs : X6 w σ) (ht : Tab σ v l) (hc : lk l n = some c)
    (h : ∀ lv fv mv w' σ', Stp w σ w' σ' → Sl 1 U5 σ' lv c.like → Sl 3 D7 σ' fv c.fields → Sl 7 M9 σ' mv c.methods → c.name.length ≤ W3 → c.super.length ≤ W3 → U7 σ' c [S c.name, S c.super, lv, .bool c.iface, .bool c.abs, .bool c.fin, fv, mv] →
      K (.agg [S c.name, S c.super, lv, .bool c.iface, .bool c.abs, .bool c.fin, fv, mv].toArray) w') : Q1 P F.d [v, S n] w K := Cm (by
  obtain ⟨a, lv, r, m, rfl, t1, t2, t3, t4⟩ := ht.ex
  obtain ⟨_, _, i, hi, hli⟩ := V6 hc
  obtain ⟨hil, rfl⟩ := List.getElem?_eq_some_iff.1 hli
  unfold Uv
  refine T7 hs fun b w1 σ1 hb hk1 hm1 => ?_
  refine W1 hk1.sat ?_
  refine X2 (.pointer (some a)) (fun w hb => by rw [H4]; exact X5 rfl) ?_
  refine X2 (.pointer (some (a.add 0))) (fun t w hb e => by rw [e, fa]; exact X5 rfl) ?_
  refine X2 (.pointer (some a)) (fun w hb => by rw [H4]; exact X5 rfl) ?_
  refine X2 (.pointer (some (a.add 1))) (fun t w hb e => by rw [e, fa]; exact X5 rfl) ?_
  refine X2 lv (fun t w hb e => by rw [e]; exact ld hb.sat (t1.up hk1) rfl (X5 rfl)) ?_
  refine X2 (.map (some r)) (fun t w hb e => by rw [e]; exact ld hb.sat (t1.up hk1) rfl (X5 rfl)) ?_
  refine X2 (I i) (fun t w hb e => by rw [e, Q1I X7 ((t3.up hk1).is hb.sat) n, t4 n, hi]; exact X5 rfl) ?_
  rintro t6 t7 t10 t11 t8 t12 t14 w2 hb2 rfl rfl rfl rfl e8 rfl rfl
  subst e8
  have hm2 := hm1.step hb2.stp
  refine L2 (t2.up hk1) hil fun p cs hl hlen hr => ?_
  refine Y3 hb2.sat hl hlen ?_
  have hr0 := hr
  obtain ⟨lv', fv, mv, rfl, g1, g2, g3, g4, g5⟩ := hr
  refine I5 hm2 (hk1.trans hb2.stp) hb rfl rfl (Rep.one hr0) fun w3 hS3 hm3 => ?_
  refine M6 hm3 rfl ?_
  exact h _ _ _ w3 σ1 hS3.stp g1 g2 g3 g4 g5 hr0)
theorem Md {n : X0} (hs : X6 w σ) (ht : Tab σ v l) (hd : lk l n = none) (h : K (.bool false) w) : Q1 P F.f [v, S n] w K := Q4K hs ht (by rw [Ro, hd]; exact h)
theorem Us {n : X0} {d : Cla} (hs : X6 w σ) (ht : Tab σ v l) (hd : lk l n = some d) (h : K (.bool true) w) : Q1 P F.f [v, S n] w K := Q4K hs ht (by rw [Ro, hd]; exact h)
theorem Q74 {c : Cla} {cs : List Value} (hs : X6 w σ) (ht : Tab σ v l) (hc : U7 σ c cs) (h : ∀ w' σ', Stp w σ w' σ' → K (I (uppersM l c)) w') : Q1 P F.aU [v, .agg cs.toArray] w K := Rf (by
  obtain ⟨lv, fv, mv, rfl, g1, g2, g3, g4, g5⟩ := hc
  unfold Uk
  unfold uppersM at h
  cases hd : lk l c.super with
  | none =>
    simp only [F8, hd, if_true] at h
    (repeat' (first | (with_reducible intro _) | (with_reducible refine V3 ?_) | (simp only [↓Mm, Mm, ↓Mp, Mp, Mb, reduceIte]) | (with_reducible first | refine ld aS aL aR ?_ | refine X8 aS aL aR ?_ | refine Y3 aS aL aR ?_ | refine Q6 aL ?_ | refine Y6 aR ?_ | refine Z4 aS ?_ | refine L1 aS aL ?_ | refine U2 aS aR ?_ | refine Y0 aS aR aR (Rep.one (by assumption)) ?_ | refine U1 aS aR aR aR ?_ | refine Md au au au ?_ | (refine Y2 (fun hh => ?_) (fun hh => ?_) <;> (try simp only [hh, Bool.not_true, Bool.not_false, ↓Mm, Mm, ↓Mp, Mp, Mb, reduceIte])) | (refine Q4 (fun hh => ?_) (fun hh => ?_) <;> (try simp only [hh, Bool.not_true, Bool.not_false, ↓Mm, Mm, ↓Mp, Mp, Mb, reduceIte])))))
    all_goals (refine Eq.subst (motive := fun b => K b _) ?_ (h _ _ (by (repeat (first | exact Stp.refl (by (first | assumption | exact Stp.sat (by assumption) | exact Hst.sat (by assumption))) | assumption | refine Stp.trans ?_ (by first | assumption | exact Hst.stp (by assumption)))))); clear h; (try clear hA); (try clear hB); (try clear hC); first | rfl | ((try simp only [Bool.not_eq_true', Bool.not_eq_false', Bool.not_true, Bool.not_false, Bool.not_eq_true] at *); simp only [*, Mb, reduceIte]; done) | (simp [*]; done) | simp_all)
  | some d =>
    simp only [F8, hd] at h
    obtain ⟨dn, ds, dl, di, da, df, dfs, dms⟩ := d
    cases di <;> cases df
    · simp only [Bool.or_self, Bool.false_eq_true, if_false] at h
      (repeat' (first | (with_reducible intro _) | (with_reducible refine V3 ?_) | (simp only [↓Mm, Mm, ↓Mp, Mp, Mb, reduceIte]) | (with_reducible first | refine ld aS aL aR ?_ | refine X8 aS aL aR ?_ | refine Y3 aS aL aR ?_ | refine Q6 aL ?_ | refine Y6 aR ?_ | refine Z4 aS ?_ | refine L1 aS aL ?_ | refine U2 aS aR ?_ | refine Y0 aS aR aR (Rep.one (by assumption)) ?_ | refine U1 aS aR aR aR ?_ | refine Us au au au ?_ | refine G6 au au au ?_ | (refine Y2 (fun hh => ?_) (fun hh => ?_) <;> (try simp only [hh, Bool.not_true, Bool.not_false, ↓Mm, Mm, ↓Mp, Mp, Mb, reduceIte])) | (refine Q4 (fun hh => ?_) (fun hh => ?_) <;> (try simp only [hh, Bool.not_true, Bool.not_false, ↓Mm, Mm, ↓Mp, Mp, Mb, reduceIte])))))
      rename_i w3 σ3 hk3 _ _ _ _ _ _
      have hS : Stp w σ w3 σ3 := by (repeat (first | exact Stp.refl (by (first | assumption | exact Stp.sat (by assumption) | exact Hst.sat (by assumption))) | assumption | refine Stp.trans ?_ (by first | assumption | exact Hst.stp (by assumption))))
      refine V2 c.like.length (fun n w' => ∃ σ', Stp w σ w' σ' ∧ SLe σ3 σ' ∧ ((c.like.take n).any (N0 l)) = false) ⟨σ3, hS, SLe.refl _, by simp⟩ fun n w4 d hn hi => ?_
      obtain ⟨σ4, hS4, le4, hq⟩ := hi
      clear hk3
      refine Z5 ?_
      refine Q4 (fun hh => ?_) (fun hh => ?_)
      · have hn' : n < c.like.length := by simpa using hh
        have hmax : c.like.length ≤ 9223372036854775807 := g1.max
        refine Q2F (by (first | assumption | exact Sl.lift (by assumption) (by (repeat (first | exact SLe.refl _ | refine SLe.more ?_ (by assumption) | refine SLe.more ?_ (Nxt.le (by assumption)) | refine SLe.step ?_ (by assumption)))) | exact U0.lift (by assumption) (by (repeat (first | exact SLe.refl _ | refine SLe.more ?_ (by assumption) | refine SLe.more ?_ (Nxt.le (by assumption)) | refine SLe.step ?_ (by assumption)))) | exact P5.lift (by assumption) (by (repeat (first | exact SLe.refl _ | refine SLe.more ?_ (by assumption) | refine SLe.more ?_ (Nxt.le (by assumption)) | refine SLe.step ?_ (by assumption)))) | exact H2 (by assumption) (by (repeat (first | exact SLe.refl _ | refine SLe.more ?_ (by assumption) | refine SLe.more ?_ (Nxt.le (by assumption)) | refine SLe.step ?_ (by assumption)))) | exact S6 (by assumption) (by (repeat (first | exact SLe.refl _ | refine SLe.more ?_ (by assumption) | refine SLe.more ?_ (Nxt.le (by assumption)) | refine SLe.step ?_ (by assumption)))) | exact Glb.lift (by assumption) (by (repeat (first | exact SLe.refl _ | refine SLe.more ?_ (by assumption) | refine SLe.more ?_ (Nxt.le (by assumption)) | refine SLe.step ?_ (by assumption)))) | exact Tab.lift (by assumption) (by (repeat (first | exact SLe.refl _ | refine SLe.more ?_ (by assumption) | refine SLe.more ?_ (Nxt.le (by assumption)) | refine SLe.step ?_ (by assumption)))) | exact Q13 (by assumption) | exact Q1b (by assumption) | exact Q11 (by assumption))) hn' fun p hl hbig => ?_
        have hq' := M8 (p := N0 l) hn'
        rw [hq] at hq'
        cases hx : lk l c.like[n] with
        | none =>
          simp only [R6 (p := N0 l) hn' (by simp only [N0, hx]), if_true] at h
          (repeat' (first | (with_reducible intro _) | (with_reducible refine V3 ?_) | (simp only [↓Mm, Mm, ↓Mp, Mp, Mb, reduceIte]) | (with_reducible first | refine ld aS aL aR ?_ | refine X8 aS aL aR ?_ | refine Y3 aS aL aR ?_ | refine Q6 aL ?_ | refine Y6 aR ?_ | refine Z4 aS ?_ | refine L1 aS aL ?_ | refine U2 aS aR ?_ | refine Y0 aS aR aR (Rep.one (by assumption)) ?_ | refine U1 aS aR aR aR ?_ | refine Md au au au ?_ | (refine Y2 (fun hh => ?_) (fun hh => ?_) <;> (try simp only [hh, Bool.not_true, Bool.not_false, ↓Mm, Mm, ↓Mp, Mp, Mb, reduceIte])) | (refine Q4 (fun hh => ?_) (fun hh => ?_) <;> (try simp only [hh, Bool.not_true, Bool.not_false, ↓Mm, Mm, ↓Mp, Mp, Mb, reduceIte])))))
          all_goals (refine Eq.subst (motive := fun b => K b _) ?_ (h _ _ (by (repeat (first | exact Stp.refl (by (first | assumption | exact Stp.sat (by assumption) | exact Hst.sat (by assumption))) | assumption | refine Stp.trans ?_ (by first | assumption | exact Hst.stp (by assumption)))))); clear h; (try clear hA); (try clear hB); (try clear hC); first | rfl | ((try simp only [Bool.not_eq_true', Bool.not_eq_false', Bool.not_true, Bool.not_false, Bool.not_eq_true] at *); simp only [*, Mb, reduceIte]; done) | (simp [*]; done) | simp_all)
        | some x =>
          obtain ⟨xn, xs, xl, xi, xa, xf, xfs, xms⟩ := x
          cases xi
          · simp only [R6 (p := N0 l) hn' (by simp only [N0, hx]; rfl), if_true] at h
            (repeat' (first | (with_reducible intro _) | (with_reducible refine V3 ?_) | (simp only [↓Mm, Mm, ↓Mp, Mp, Mb, reduceIte]) | (with_reducible first | refine ld aS aL aR ?_ | refine X8 aS aL aR ?_ | refine Y3 aS aL aR ?_ | refine Q6 aL ?_ | refine Y6 aR ?_ | refine Z4 aS ?_ | refine L1 aS aL ?_ | refine U2 aS aR ?_ | refine Y0 aS aR aR (Rep.one (by assumption)) ?_ | refine U1 aS aR aR aR ?_ | refine Us au au au ?_ | refine G6 au au au ?_ | (refine Y2 (fun hh => ?_) (fun hh => ?_) <;> (try simp only [hh, Bool.not_true, Bool.not_false, ↓Mm, Mm, ↓Mp, Mp, Mb, reduceIte])) | (refine Q4 (fun hh => ?_) (fun hh => ?_) <;> (try simp only [hh, Bool.not_true, Bool.not_false, ↓Mm, Mm, ↓Mp, Mp, Mb, reduceIte])))))
            all_goals (refine Eq.subst (motive := fun b => K b _) ?_ (h _ _ (by (repeat (first | exact Stp.refl (by (first | assumption | exact Stp.sat (by assumption) | exact Hst.sat (by assumption))) | assumption | refine Stp.trans ?_ (by first | assumption | exact Hst.stp (by assumption)))))); clear h; (try clear hA); (try clear hB); (try clear hC); first | rfl | ((try simp only [Bool.not_eq_true', Bool.not_eq_false', Bool.not_true, Bool.not_false, Bool.not_eq_true] at *); simp only [*, Mb, reduceIte]; done) | (simp [*]; done) | simp_all)
          · (repeat' (first | (with_reducible intro _) | (with_reducible refine V3 ?_) | (simp only [↓Mm, Mm, ↓Mp, Mp, Mb, reduceIte]) | (with_reducible first | refine ld aS aL aR ?_ | refine X8 aS aL aR ?_ | refine Y3 aS aL aR ?_ | refine Q6 aL ?_ | refine Y6 aR ?_ | refine Z4 aS ?_ | refine L1 aS aL ?_ | refine U2 aS aR ?_ | refine Y0 aS aR aR (Rep.one (by assumption)) ?_ | refine U1 aS aR aR aR ?_ | refine Us au au au ?_ | refine G6 au au au ?_ | (refine Y2 (fun hh => ?_) (fun hh => ?_) <;> (try simp only [hh, Bool.not_true, Bool.not_false, ↓Mm, Mm, ↓Mp, Mp, Mb, reduceIte])) | (refine Q4 (fun hh => ?_) (fun hh => ?_) <;> (try simp only [hh, Bool.not_true, Bool.not_false, ↓Mm, Mm, ↓Mp, Mp, Mb, reduceIte])))))
            refine Y5 hmax hn' ⟨_, by (repeat (first | exact Stp.refl (by (first | assumption | exact Stp.sat (by assumption) | exact Hst.sat (by assumption))) | assumption | refine Stp.trans ?_ (by first | assumption | exact Hst.stp (by assumption)))), by (repeat (first | exact SLe.refl _ | refine SLe.more ?_ (by assumption) | refine SLe.more ?_ (Nxt.le (by assumption)) | refine SLe.step ?_ (by assumption))), by rw [hq']; simp only [N0, hx]; rfl⟩
      · have hn' : ¬ n < c.like.length := by simpa using hh
        rw [O9 hn'] at hq
        simp only [hq, Bool.false_eq_true, if_false] at h
        exact h _ _ hS4
    all_goals
      simp only [Bool.or_self, Bool.or_true, Bool.true_or, if_true] at h
      (repeat' (first | (with_reducible intro _) | (with_reducible refine V3 ?_) | (simp only [↓Mm, Mm, ↓Mp, Mp, Mb, reduceIte]) | (with_reducible first | refine ld aS aL aR ?_ | refine X8 aS aL aR ?_ | refine Y3 aS aL aR ?_ | refine Q6 aL ?_ | refine Y6 aR ?_ | refine Z4 aS ?_ | refine L1 aS aL ?_ | refine U2 aS aR ?_ | refine Y0 aS aR aR (Rep.one (by assumption)) ?_ | refine U1 aS aR aR aR ?_ | refine Us au au au ?_ | refine G6 au au au ?_ | (refine Y2 (fun hh => ?_) (fun hh => ?_) <;> (try simp only [hh, Bool.not_true, Bool.not_false, ↓Mm, Mm, ↓Mp, Mp, Mb, reduceIte])) | (refine Q4 (fun hh => ?_) (fun hh => ?_) <;> (try simp only [hh, Bool.not_true, Bool.not_false, ↓Mm, Mm, ↓Mp, Mp, Mb, reduceIte])))))
      all_goals (refine Eq.subst (motive := fun b => K b _) ?_ (h _ _ (by (repeat (first | exact Stp.refl (by (first | assumption | exact Stp.sat (by assumption) | exact Hst.sat (by assumption))) | assumption | refine Stp.trans ?_ (by first | assumption | exact Hst.stp (by assumption)))))); clear h; (try clear hA); (try clear hB); (try clear hC); first | rfl | ((try simp only [Bool.not_eq_true', Bool.not_eq_false', Bool.not_true, Bool.not_false, Bool.not_eq_true] at *); simp only [*, Mb, reduceIte]; done) | (simp [*]; done) | simp_all))
end Go.Proofs.YtdnfaboigajkhaaGreatDoor

namespace Go.Emb
open Go.RowKit Go.Hm
variable {P : Program} {w w0 w1 w' w'' : World} {K : Value → World → Prop} {σ σ0 σ1 σ' : Q5}
theorem Q4M {a : Addr} {v : Value} (h : w.cell? a = some v) (hb : Below w.heap.size w w') : w'.cell? a = some v := by
  rw [← h]; exact World.cell?_of_block (hb.block a.block (World.block_lt_of_cell? _ _ h))
def Ptr {α : Type} (sz : Nat) (R : Q5 → α → List Value → Prop) (σ : Q5) (x : α) (p : Value) (w : World) : Prop :=
  ∃ a cs, p = .pointer (some a) ∧ (∀ j u, cs[j]? = some u → w.cell? (a.add j) = some u) ∧ cs.length = sz ∧ R σ x cs
theorem Ptr.below {α : Type} {sz : Nat} {R : Q5 → α → List Value → Prop} {x : α} {p : Value} (h : Ptr sz R σ x p w) (hb : Below w.heap.size w w') : Ptr sz R σ x p w' := by
  obtain ⟨a, cs, h1, h2, h3⟩ := h
  exact ⟨a, cs, h1, fun j u hu => Q4M (h2 j u hu) hb, h3⟩
end Go.Emb
namespace Go.Proofs.YtdnfaboigajkhaaGreatDoor
open Go.Emb Go.RowKit Go.Kd Go.Hm
variable {w : World} {K : Value → World → Prop} {σ : Q5} {v : Value} {l : List Cla}
theorem Q1z {w0 : World} {σ0 : Q5} {xs : List Cla} (hS : Stp w0 σ0 w σ) (ha : L7 w0.heap.size T.a 8 U7 σ w v xs)
    (h : ∀ w', Kpt (fun k => v.ownBlock = some k) w w' → Stp w0 σ0 w' σ → L7 w0.heap.size T.a 8 U7 σ w' v xs.reverse → K (.tuple #[]) w') : Q1 P F.n [v] w K := Xd (by
  unfold S2
  have hmax : xs.length ≤ 9223372036854775807 := by
    obtain ⟨a, cap, _, h1, h2, _⟩ := ha
    simp only [maxLen] at h2; omega
  refine Q2a ha ?_
  refine Nx ⟨by omega, by omega⟩ ?_
  refine Jm (fun x w' => ∃ i : Nat, x = (I i, I ((xs.length : Int) - 1 - i)) ∧ 2 * i ≤ xs.length ∧ Kpt (fun k => v.ownBlock = some k) w w' ∧ Stp w0 σ0 w' σ ∧ L7 w0.heap.size T.a 8 U7 σ w' v (E4 i xs)) (fun x _ => match x.2 with | .int _ n => (n + 1).toNat | _ => 0) ⟨0, by simp, by omega, Kpt.refl, hS, ha⟩ ?_
  rintro _ d w1 ⟨i, rfl, hi, hk, hS1, ha1⟩
  obtain ⟨hlen, hget⟩ := Pj xs i hi
  refine Z5 ?_
  refine Q4 (fun hh => ?_) (fun hh => ?_)
  · have hlt : (i : Int) < (xs.length : Int) - 1 - i := by simpa using hh
    have ej : ((xs.length : Int) - 1 - i) = ((xs.length - 1 - i : Nat) : Int) := by omega
    have hil : i < (E4 i xs).length := by omega
    have hjl : xs.length - 1 - i < (E4 i xs).length := by omega
    refine W1 hS1.sat ?_
    refine O4 (Ptr 8 U7 σ (E4 i xs)[xs.length - 1 - i]) (fun _ _ _ h hb => h.below hb) (fun w hb => ?_) ?_
    · simp only [ej]
      exact Q2y (ha1.step hb.stp) hjl fun a cs h1 h2 h3 => ⟨Below.refl _ _, a, cs, rfl, h1, h2, h3⟩
    refine O4 (Ptr 8 U7 σ (E4 i xs)[i]) (fun _ _ _ h hb => h.below hb) (fun w hb => ?_) ?_
    · exact Q2y (ha1.step hb.stp) hil fun a cs h1 h2 h3 => ⟨Below.refl _ _, a, cs, rfl, h1, h2, h3⟩
    refine O4 (fun v _ => ∃ cs : List Value, v = .agg cs.toArray ∧ cs.length = 8 ∧ U7 σ (E4 i xs)[xs.length - 1 - i] cs) (fun _ _ _ h _ => h) (fun t w hb e => ?_) ?_
    · obtain ⟨a, cs, rfl, h1, h2, h3⟩ := e
      exact Bp h2 h1 ⟨Below.refl _ _, cs, rfl, h2, h3⟩
    refine O4 (fun v _ => ∃ cs : List Value, v = .agg cs.toArray ∧ cs.length = 8 ∧ U7 σ (E4 i xs)[i] cs) (fun _ _ _ h _ => h) (fun t w hb e => ?_) ?_
    · obtain ⟨a, cs, rfl, h1, h2, h3⟩ := e
      exact Bp h2 h1 ⟨Below.refl _ _, cs, rfl, h2, h3⟩
    rintro t20 t24 t21 t25 w2 hb2 _ _ ⟨cs, rfl, hc1, hc2⟩ ⟨ds, rfl, hd1, hd2⟩
    refine Q7B (hS1.trans hb2.stp) (ha1.step hb2.stp) hil hc1 hc2 (Rep.one hc2) fun p u w3 hk3 hS3 ha3 => ?_
    simp only [ej]
    refine Q7B hS3.stp ha3 (by simpa using hjl) hd1 hd2 (Rep.one hd2) fun p u w4 hk4 hS4 ha4 => ?_
    refine Se ⟨by omega, by omega⟩ ?_
    refine Nx ⟨by omega, by omega⟩ ?_
    refine ⟨⟨i + 1, by congr 1 <;> congr 1 <;> omega, by omega, ?_, hS4.stp, ?_⟩, ?_⟩
    · exact ((hk.trans (Kpt.of_below hb2.stp.bel)).trans hk3).trans hk4
    · have e1 : (E4 i xs)[i]? = some (E4 i xs)[i] := List.getElem?_eq_getElem hil
      have e2 : (E4 i xs)[xs.length - 1 - i]? = some (E4 i xs)[xs.length - 1 - i] := List.getElem?_eq_getElem hjl
      have : E4 (i + 1) xs = ((E4 i xs).set i (E4 i xs)[xs.length - 1 - i]).set (xs.length - 1 - i) (E4 i xs)[i] := by
        simp only [E4, e1, e2]
      rw [this]; exact ha4
    · simp only; omega
  · have hge : ¬ (i : Int) < (xs.length : Int) - 1 - i := by simpa using hh
    rw [Q5D xs i hi (by omega)] at ha1
    exact h w1 hk hS1 ha1)
def To : Value → X0 | .string b => b.data.toList | _ => []
theorem Q5Q {n : X0} (hs : X6 w σ) (ht : Tab σ v l) (ha : Qv l) (hl : l.length ≤ 100000) (h : ∀ v' w' σ', Stp w σ w' σ' → L7 w.heap.size T.a 8 U7 σ' w' v' (chain l n).reverse → K v' w') : Q1 P F.aD [v, S n] w K := Gv (by
  unfold Wx
  refine Jm (fun x w' => ∃ (s : X0) (dn : List Cla) (σ' : Q5), x.2 = S s ∧ chain l n = dn ++ chain l s ∧ Stp w σ w' σ' ∧ W5 w.heap.size T.a 8 U7 σ' w' x.1 dn) (fun x _ => (chain l (To x.2)).length)
    ⟨n, [], σ, rfl, rfl, Stp.refl hs, W5.nil⟩ ?_
  rintro ⟨x1, _⟩ d w1 ⟨s, dn, σ1, rfl, he, hS1, ha1⟩
  have ht1 := ht.lift ⟨hS1.le⟩
  have hlen := Eu l n
  have hs1 : To (S s) = s := by simp [To]
  simp only [hs1]
  cases hd : lk l s with
  | none =>
    refine Md hS1.sat ht1 hd ?_
    refine I7 ?_
    rw [Qk hd, List.append_nil] at he
    rw [← he] at ha1
    refine Q1z hS1 (L7.of_acc ha1) fun w2 hk2 hS2 ha2 => ?_
    exact h _ _ _ hS2 ha2
  | some c =>
    refine Us hS1.sat ht1 hd ?_
    refine F6 ?_
    refine G6 hS1.sat ht1 hd fun lv fv mv w2 σ2 hk2 f1 f2 f3 f4 f5 hr => ?_
    have hch := F7 ha s
    rw [hd] at hch
    simp only at hch
    have hdl : dn.length + 1 ≤ l.length + 1 := by
      have := congrArg List.length he
      rw [List.length_append, hch, List.length_cons] at this; omega
    refine Ys (hS1.trans hk2) (ha1.up hk2) hr rfl rfl rfl (by omega) (by omega) fun u v' w3 σ3 hn3 hS3 ha3 _ => ?_
    refine G6 hS3.sat (ht.lift ⟨hS3.le⟩) hd fun lv fv mv w4 σ4 hk4 f1 f2 f3 f4 f5 hr => ?_
    refine Y6 (v := S c.super) rfl ?_
    refine ⟨⟨c.super, dn ++ [c], σ4, rfl, ?_, hS3.trans hk4, ha3.up hk4⟩, ?_⟩
    · rw [he, hch]; simp
    · have : To (S c.super) = c.super := by simp [To]
      simp only [this, hch, List.length_cons]; omega)
theorem Q6Z {n : X0} (hs : X6 w σ) (ht : Tab σ v l) (ha : Qv l) (hl : l.length ≤ 100000) (hsm : ∀ c ∈ l, G3 c) (h : ∀ v' w' σ', Stp w σ w' σ' → Sl 3 D7 σ' v' (fieldsM l n) → K v' w') : Q1 P F.aR [v, S n] w K := Sd (by
  unfold Ug
  refine Q5Q hs ht ha hl fun v1 w1 σ1 hk1 ha1 => ?_
  obtain ⟨σ2, hS2, hv2, le2, _⟩ := ha1.keep hk1
  generalize hcs : (chain l n).reverse = cs at *
  have hlen : cs.length ≤ l.length + 1 := by rw [← hcs, List.length_reverse]; exact Eu l n
  have hcf : ∀ c ∈ cs, c.fields.length ≤ 1000000 := fun c hc => (hsm c (Ir (by rw [← hcs] at hc; simpa using hc))).2.1
  refine Q6 hv2 ?_
  refine N1 cs.length (fun i a w' => ∃ σ', Stp w σ w' σ' ∧ SLe σ2 σ' ∧ W5 w.heap.size T.i 3 D7 σ' w' a ((cs.take i).flatMap (·.fields))) ⟨σ2, hS2, SLe.refl _, W5.nil⟩ fun i a w3 d hi hinv => ?_
  obtain ⟨σ3, hS3, le3, ha3⟩ := hinv
  refine Z5 ?_
  refine Q4 (fun hh => ?_) (fun hh => ?_)
  · have hi' : i < cs.length := by simpa using hh
    refine L2 (hv2.lift le3) hi' fun p cells hl1 hl2 hr => ?_
    refine Y3 hS3.sat hl1 hl2 ?_
    refine Y0 hS3.sat (by rfl) hl2 (Rep.one hr) fun q w4 σ4 hk4 hq => ?_
    obtain ⟨lv, fv, mv, rfl, f1, f2, f3, f4, f5⟩ := hr
    rw [fa]
    refine ld hk4.sat hq rfl ?_
    have hfl := K0 (fun c : Cla => c.fields) 1000000 (cs.take i) fun c hc => hcf c (List.mem_of_mem_take hc)
    rw [List.length_take] at hfl
    have hci := hcf cs[i] (List.getElem_mem hi')
    have hmul : min i cs.length * 1000000 ≤ 100000 * 1000000 := Nat.mul_le_mul_right _ (by omega)
    refine Nv (hS3.trans hk4) (ha3.up hk4) (f2.up hk4) rfl (by omega) (by omega) fun v' w5 hn5 hS5 ha5 _ => ?_
    refine O5 ?_
    refine Z6 (by omega) hi' ⟨σ4, hS5, le3.more ⟨hk4.le⟩, ?_⟩
    rw [List.take_add_one, List.getElem?_eq_getElem hi', List.flatMap_append]
    simpa using ha5
  · have hi' : ¬ i < cs.length := by simpa using hh
    rw [List.take_of_length_le (by omega)] at ha3
    obtain ⟨σ4, hS4, hv4, le4, _⟩ := ha3.keep hS3
    refine h _ _ _ hS4 ?_
    unfold fieldsM
    rw [hcs]; exact hv4)
theorem Q4B {n f : X0} (hs : X6 w σ) (ht : Tab σ v l) (ha : Qv l) (hl : l.length ≤ 100000) (hsm : ∀ c ∈ l, G3 c) (h : ∀ w' σ', Stp w σ w' σ' → K (I (L6 (placeM l n f))) w') : Q1 P F.ax [v, S n, S f] w K := Sh (by
  unfold Ut
  refine U2 hs rfl fun q w1 σ1 hk1 hq => ?_
  refine Q6Z hk1.sat (ht.lift ⟨hk1.le⟩) ha hl hsm fun v' w2 σ2 hk2 hv2 => ?_
  rw [Xa]
  refine Hv (fun x => decide (x.name = f)) hk2.sat hv2 (fun x cs w3 K _ hs3 hr hl hK => J4 (Hg ?_)) fun w3 hb => ?_
  · obtain ⟨rfl, _⟩ := hr
    unfold Zw
    have hq2 := hq.up hk2
    refine Z4 hs3 fun a w4 σ4 hk4 ha4 => ?_
    (repeat' (first | (with_reducible intro _) | (with_reducible refine V3 ?_) | (simp only [↓Mm, Mm, ↓Mp, Mp, Mb, reduceIte]) | (with_reducible first | refine ld aS aL aR ?_ | refine X8 aS aL aR ?_ | refine Y3 aS aL aR ?_ | refine Q6 aL ?_ | refine Y6 aR ?_ | refine Z4 aS ?_ | refine L1 aS aL ?_ | refine U2 aS aR ?_ | refine Y0 aS aR aR (Rep.one (by assumption)) ?_ | refine U1 aS aR aR aR ?_ | (refine Y2 (fun hh => ?_) (fun hh => ?_) <;> (try simp only [hh, Bool.not_true, Bool.not_false, ↓Mm, Mm, ↓Mp, Mp, Mb, reduceIte])) | (refine Q4 (fun hh => ?_) (fun hh => ?_) <;> (try simp only [hh, Bool.not_true, Bool.not_false, ↓Mm, Mm, ↓Mp, Mp, Mb, reduceIte])))))
    exact hK _ hk4.bel
  · exact h _ _ ((hk1.trans hk2).trans (Stp.of_below hk2.sat hb)))
end Go.Proofs.YtdnfaboigajkhaaGreatDoor

namespace Go.Hm
open Go.Kd
theorem Q2s {α : Type} (p : α → Bool) : ∀ xs : List α, xs.find? p = (xs.findIdx? p).bind (xs[·]?)
  | [] => rfl
  | x :: r => by
    rw [List.find?_cons, List.findIdx?_cons]
    cases p x with
    | true => rfl
    | false =>
      simp only [Bool.false_eq_true, if_false]
      rw [Q2s p r]
      cases r.findIdx? p <;> simp
def Q72 (l : List Cla) : Prop := ∀ c ∈ l, ∀ u ∈ c.like, ∃ d, lk l u = some d
def Nm (c : Cla) : Prop := c.name.length ≤ 100 ∧ (∀ f ∈ c.fields, f.name.length ≤ 100 ∧ f.kind.length ≤ 100) ∧ ∀ m ∈ c.methods, m.result.length ≤ 100 ∧ ∀ p ∈ m.params, p.length ≤ 100
structure Ok (l : List Cla) : Prop where
  acy : Qv l
  len : l.length ≤ 100000
  sm : ∀ c ∈ l, G3 c
  full : Q72 l
  nm : ∀ c ∈ l, Nm c
abbrev oM (o : Option Hm.Met) : Hm.Met := o.getD Hm.Met.zero
abbrev o1 (o : Option (X0 × Hm.Met)) : X0 := (o.map (·.1)).getD []
abbrev o2 (o : Option (X0 × Hm.Met)) : Hm.Met := (o.map (·.2)).getD Hm.Met.zero
theorem T6 {α β : Type} {xs : List α} {f : α → Option β} {n : Nat} (h : n < xs.length) (hn : (xs.take n).findSome? f = none) : (xs.take (n + 1)).findSome? f = f xs[n] := by
  rw [List.take_add_one, List.getElem?_eq_getElem h, List.findSome?_append, hn]; simp
theorem P8 {α β : Type} {xs : List α} {f : α → Option β} {n : Nat} {y : β} (h : n < xs.length) (hn : (xs.take n).findSome? f = none) (hy : f xs[n] = some y) : xs.findSome? f = some y := by
  have := T6 h hn
  rw [hy] at this
  rw [← List.take_append_drop (n + 1) xs, List.findSome?_append, this]; rfl
end Go.Hm
namespace Go.Proofs.YtdnfaboigajkhaaGreatDoor
open Go.Emb Go.RowKit Go.Kd Go.Hm
variable {w : World} {K : Value → World → Prop} {σ : Q5} {v : Value} {l : List Cla}
theorem K6 : M9 σ Hm.Met.zero [S [], .slice none 0 0, S [], .bool false, I 0, .slice none 0 0, .slice none 0 0] :=
  ⟨_, _, _, rfl, Sl.nil, Sl.nil, Sl.nil, by decide, by decide, by decide, by decide⟩
theorem Hu (h : K (.agg [S [], .slice none 0 0, S [], .bool false, I 0, .slice none 0 0, .slice none 0 0].toArray) w) : Qu P T.c [] w K := B1 (by kernel_rfl) h
theorem Q7m {c : Cla} {cs : List Value} {n : X0} (hs : X6 w σ) (hc : U7 σ c cs) (hsm : G3 c)
    (h : ∀ pv cv hv w' σ', Stp w σ w' σ' → M9 σ' (oM (H8 c n)) [S (oM (H8 c n)).name, pv, S (oM (H8 c n)).result, .bool (oM (H8 c n)).abs, I (oM (H8 c n)).locals, cv, hv] →
      K (.tuple #[.agg [S (oM (H8 c n)).name, pv, S (oM (H8 c n)).result, .bool (oM (H8 c n)).abs, I (oM (H8 c n)).locals, cv, hv].toArray, .bool (H8 c n).isSome]) w') : Q1 P F.c4 [.agg cs.toArray, S n] w K := Q4J (by
  obtain ⟨lv, fv, mv, rfl, g1, g2, g3, g4, g5⟩ := hc
  unfold Q08
  refine Z4 hs fun a w1 σ1 hk1 ha1 => ?_
  refine U2 hk1.sat rfl fun q w2 σ2 hk2 hq => ?_
  refine T7 hk2.sat fun b w3 σ3 hb hk3 hm => ?_
  rw [fa]
  have ha3 := (ha1.up hk2).up hk3
  have g3 := ((g3.up hk1).up hk2).up hk3
  have hq3 := hq.up hk3
  refine ld hk3.sat ha3 rfl ?_
  rw [Xa]
  have hS3 := (hk1.trans hk2).trans hk3
  have hb0 : w.heap.size ≤ b := Yn hb (hk1.trans hk2)
  refine Hd (fun x => decide (x.name = n)) hk3.sat g3 (fun x cs w4 K _ hs4 hr hl hK => J4 (Q2Q ?_)) fun w4 hb4 => ?_
  · obtain ⟨pv, cv, hv, rfl, _⟩ := hr
    unfold Ko
    refine Z4 hs4 fun a w5 σ5 hk5 ha5 => ?_
    (repeat' (first | (with_reducible intro _) | (with_reducible refine V3 ?_) | (simp only [↓Mm, Mm, ↓Mp, Mp, Mb, reduceIte]) | (with_reducible first | refine ld aS aL aR ?_ | refine X8 aS aL aR ?_ | refine Y3 aS aL aR ?_ | refine Q6 aL ?_ | refine Y6 aR ?_ | refine Z4 aS ?_ | refine L1 aS aL ?_ | refine U2 aS aR ?_ | refine Y0 aS aR aR (Rep.one (by assumption)) ?_ | refine U1 aS aR aR aR ?_ | (refine Y2 (fun hh => ?_) (fun hh => ?_) <;> (try simp only [hh, Bool.not_true, Bool.not_false, ↓Mm, Mm, ↓Mp, Mp, Mb, reduceIte])) | (refine Q4 (fun hh => ?_) (fun hh => ?_) <;> (try simp only [hh, Bool.not_true, Bool.not_false, ↓Mm, Mm, ↓Mp, Mp, Mb, reduceIte])))))
    exact hK _ hk5.bel
  have hk4 : Stp w3 σ3 w4 σ3 := Stp.of_below hk3.sat hb4
  have hm := hm.step hk4
  have hS4 := hS3.trans hk4
  unfold H8 at h
  rw [Q2s] at h
  refine Z5 ?_
  cases hf : c.methods.findIdx? fun x => decide (x.name = n) with
  | none =>
    rw [hf] at h
    simp only [L6]
    refine F6 ?_
    refine Hu ?_
    refine I5 hm hS4 hb0 rfl rfl (Rep.one (K6 (σ := σ3))) fun w5 hS5 hm5 => ?_
    refine M6 hm5 rfl ?_
    exact h _ _ _ w5 σ3 hS5.stp K6
  | some i =>
    rw [hf] at h
    have hi : i < c.methods.length := (List.findIdx?_eq_some_iff_getElem.1 hf).1
    simp only [Option.bind_some, List.getElem?_eq_getElem hi] at h
    simp only [L6]
    refine Q4 (fun hh => absurd (of_decide_eq_true hh) (by omega)) (fun _ => ?_)
    rw [fa]
    refine ld hk4.sat ha3 rfl ?_
    refine L2 g3 hi fun p cells hl1 hl2 hr => ?_
    refine Y3 hk4.sat hl1 hl2 ?_
    refine Q1p hk4.sat hr (hsm.2.2.2 _ (List.getElem_mem hi)) fun pv cv hv w5 σ5 hk5 hr5 => ?_
    refine I5 (hm.step hk5) (hS4.trans hk5) hb0 rfl rfl (Rep.one hr5) fun w6 hS6 hm6 => ?_
    refine M6 hm6 rfl ?_
    exact h _ _ _ w6 σ5 hS6.stp hr5)
theorem Q9g {n : X0} (ok : Ok l) : ∀ (k : Nat) {c : Cla} {cs : List Value} {w : World} {σ : Q5} {K : Value → World → Prop}, H7 l c.name < k → lk l c.name = some c → X6 w σ → Tab σ v l → U7 σ c cs →
    (∀ pv cv hv w' σ', Stp w σ w' σ' → M9 σ' (o2 (V7 l c n)) [S (o2 (V7 l c n)).name, pv, S (o2 (V7 l c n)).result, .bool (o2 (V7 l c n)).abs, I (o2 (V7 l c n)).locals, cv, hv] →
      K (.tuple #[S (o1 (V7 l c n)), .agg [S (o2 (V7 l c n)).name, pv, S (o2 (V7 l c n)).result, .bool (o2 (V7 l c n)).abs, I (o2 (V7 l c n)).locals, cv, hv].toArray, .bool (V7 l c n).isSome]) w') →
    Q1 P F.aE [v, .agg cs.toArray, S n] w K := by
  intro k
  induction k with
  | zero =>
    intro c cs w σ K hk
    omega
  | succ k ih =>
    intro c cs w σ K hk hc hs ht hr h
    refine Gh ?_
    obtain ⟨lv, fv, mv, rfl, g1, g2, g3, g4, g5⟩ := hr
    have heq := Q1Q ok.acy hc n
    generalize hf : (fun u => match lk l u with | none => none | some d => match H8 d n with | some m => some (u, m) | none => V7 l d n) = f at heq
    unfold Wv
    refine Z4 hs fun a w1 σ1 hk1 ha1 => ?_
    refine T7 hk1.sat fun b w2 σ2 hb hk2 hm2 => ?_
    have hb0 : w.heap.size ≤ b := Yn hb hk1
    have ha2 := ha1.up hk2
    rw [fa]
    refine ld hk2.sat ha2 rfl ?_
    have g1 := (g1.up hk1).up hk2
    refine Q6 g1 ?_
    refine V2 c.like.length (fun i w' => ∃ σ', Stp w σ w' σ' ∧ SLe σ2 σ' ∧ V4 σ' w' b [S [], .slice none 0 0, S [], .bool false, I 0, .slice none 0 0, .slice none 0 0] ∧ (c.like.take i).findSome? f = none) ⟨σ2, hk1.trans hk2, SLe.refl _, hm2, rfl⟩ fun i w3 d hi hinv => ?_
    obtain ⟨σ3, hS3, le3, hm3, hno⟩ := hinv
    have ht3 := ht.lift ⟨hS3.le⟩
    refine Z5 ?_
    refine Q4 (fun hh => ?_) (fun hh => ?_)
    · have hi' : i < c.like.length := by simpa using hh
      refine Q2F (g1.lift le3) hi' fun p hl1 hl2 => ?_
      refine X8 hS3.sat hl1 rfl ?_
      obtain ⟨d, hd⟩ := ok.full c (V6 hc).2.1 _ (List.getElem_mem hi')
      obtain ⟨hdn, hdm, _⟩ := V6 hd
      have hfx : f c.like[i] = match H8 d n with | some m => some (c.like[i], m) | none => V7 l d n := by rw [← hf]; simp only [hd]
      refine G6 hS3.sat ht3 hd fun lv' fv' mv' w4 σ4 hk4 f1 f2 f3 f4 f5 hr4 => ?_
      refine Q7m hk4.sat hr4 (ok.sm d hdm) fun pv cv hv w5 σ5 hk5 hr5 => ?_
      refine M5 (vs := [_, _]) rfl ?_
      refine M5 (vs := [_, _]) rfl ?_
      refine Y0 hk5.sat (by rfl) rfl (Rep.one hr5) fun q w6 σ6 hk6 hq6 => ?_
      have hS6 := ((hS3.trans hk4).trans hk5).trans hk6
      have hm6 := ((hm3.step hk4).step hk5).step hk6
      have hr6 := S6 hr5 ⟨hk6.le⟩
      cases ho : H8 d n with
      | some m =>
        rw [ho] at hfx hr6 hq6
        (try simp only [ho])
        refine F6 ?_
        refine W1 hS6.sat ?_
        refine O4 (fun v _ => v = .agg [S m.name, pv, S m.result, .bool m.abs, I m.locals, cv, hv].toArray) (fun _ _ _ h _ => h) (fun w hb => Y3 hb.sat hq6 rfl ⟨Below.refl _ _, rfl⟩) ?_
        rintro _ w7 hb7 rfl
        refine I5 (hm6.step hb7.stp) (hS6.trans hb7.stp) hb0 rfl rfl (Rep.one hr6) fun w8 hS8 hm8 => ?_
        refine M6 hm8 rfl ?_
        have hl := heq.trans (P8 hi' hno hfx)
        rw [hl] at h
        exact h _ _ _ w8 σ6 hS8.stp hr6
      | none =>
        rw [ho] at hfx
        (try simp only [Option.isSome_none])
        refine I7 ?_
        refine G6 hS6.sat (ht.lift ⟨hS6.le⟩) hd fun lv' fv' mv' w7 σ7 hk7 f1 f2 f3 f4 f5 hr7 => ?_
        have hrk := B8 ok.acy hc (by simp [U9, List.getElem_mem hi'] : c.like[i] ∈ U9 c) hd
        refine ih (by rw [hdn]; omega) (by rw [hdn]; exact hd) hk7.sat (ht.lift ⟨(hS6.trans hk7).le⟩) hr7 fun pv cv hv w8 σ8 hk8 hr8 => ?_
        refine M5 (vs := [_, _, _]) rfl ?_
        refine M5 (vs := [_, _, _]) rfl ?_
        refine M5 (vs := [_, _, _]) rfl ?_
        refine Y0 hk8.sat (by rfl) rfl (Rep.one hr8) fun q w9 σ9 hk9 hq9 => ?_
        have hS9 := ((hS6.trans hk7).trans hk8).trans hk9
        have hm9 := ((hm6.step hk7).step hk8).step hk9
        have hr9 := S6 hr8 ⟨hk9.le⟩
        cases hl : V7 l d n with
        | some r =>
          obtain ⟨s, m⟩ := r
          rw [hl] at hfx hr9 hq9
          (try simp only [hl])
          refine F6 ?_
          refine W1 hS9.sat ?_
          refine O4 (fun v _ => v = .agg [S m.name, pv, S m.result, .bool m.abs, I m.locals, cv, hv].toArray) (fun _ _ _ h _ => h) (fun w hb => Y3 hb.sat hq9 rfl ⟨Below.refl _ _, rfl⟩) ?_
          rintro _ w10 hb10 rfl
          refine I5 (hm9.step hb10.stp) (hS9.trans hb10.stp) hb0 rfl rfl (Rep.one hr9) fun w11 hS11 hm11 => ?_
          refine M6 hm11 rfl ?_
          have hl2 := heq.trans (P8 hi' hno hfx)
          rw [hl2] at h
          exact h _ _ _ w11 σ9 hS11.stp hr9
        | none =>
          rw [hl] at hfx
          (try simp only [Option.isSome_none])
          refine I7 ?_
          refine O5 ?_
          refine Y5 (by have := g1.max; omega) hi' ⟨σ9, hS9, ?_, hm9, ?_⟩
          · exact le3.more ⟨fun b o e => hk9.le _ _ (hk8.le _ _ (hk7.le _ _ (hk6.le _ _ (hk5.le _ _ (hk4.le _ _ e)))))⟩
          · rw [T6 hi' hno]; exact hfx
    · have hi' : ¬ i < c.like.length := by simpa using hh
      rw [List.take_of_length_le (by omega)] at hno
      refine Hu ?_
      refine I5 hm3 hS3 hb0 rfl rfl (Rep.one (K6 (σ := σ3))) fun w5 hS5 hm5 => ?_
      refine M6 hm5 rfl ?_
      have hl := heq.trans hno
      rw [hl] at h
      exact h _ _ _ w5 σ3 hS5.stp K6
end Go.Proofs.YtdnfaboigajkhaaGreatDoor

namespace Go.Hm
open Go.Kd
theorem Q7a {l : List Cla} {n : X0} {c : Cla} (h : c ∈ chain l n) : lk l c.name = some c := by
  have key : ∀ (f : Nat) (n : X0), c ∈ R9 (lk l) f n → lk l c.name = some c := by
    intro f
    induction f with
    | zero => intro n h; simp [R9] at h
    | succ f ih =>
      intro n h
      simp only [R9] at h
      split at h
      · simp at h
      · rename_i d hd
        rcases List.mem_cons.1 h with rfl | h
        · rw [(V6 hd).1]; exact hd
        · exact ih _ h
  exact key _ _ h
theorem Tx {f : Fld} (h : f.name.length ≤ 100 ∧ f.kind.length ≤ 100) : (D4 f).length ≤ 202 := by
  unfold D4
  split <;> simp; omega
theorem Q0o {l : List Cla} (hn : ∀ c ∈ l, Nm c) (hs : ∀ c ∈ l, G3 c) : ∀ (f : Nat) (n : X0), (B0 (lk l) f n).length ≤ f * 300000000
  | 0, _ => by simp [B0]
  | f + 1, n => by
    simp only [B0]
    split
    · simp
    · rename_i c hc
      obtain ⟨e, hm, _⟩ := V6 hc
      have h1 := hn c hm
      have h2 := hs c hm
      have h3 := Q0o hn hs f c.super
      have h4 := K0 D4 202 c.fields fun f hf => Tx (h1.2.1 f hf)
      have h5 : c.fields.length * 202 ≤ 1000000 * 202 := Nat.mul_le_mul_right _ h2.2.1
      have h6 := h1.1
      rw [e] at h6
      split
      · simp
      · simp only [List.length_append, List.length_cons, List.length_nil, Nat.add_mul]; omega
theorem Q0n {l : List Cla} (ok : Ok l) (n : X0) : (printM l n).length ≤ 30000300000000 := by
  have := Q0o ok.nm ok.sm (l.length + 1) n
  have h2 : (l.length + 1) * 300000000 ≤ 100001 * 300000000 := Nat.mul_le_mul_right _ (by have := ok.len; omega)
  unfold printM; omega
theorem Fh {c : Cla} (h : Nm c) (h2 : G3 c) (i : Nat) : ((c.fields.take i).flatMap D4).length ≤ 202000000 := by
  have h4 := K0 D4 202 (c.fields.take i) fun f hf => Tx (h.2.1 f (List.mem_of_mem_take hf))
  rw [List.length_take] at h4
  have h5 : min i c.fields.length * 202 ≤ 1000000 * 202 := Nat.mul_le_mul_right _ (by have := h2.2.1; omega)
  omega
end Go.Hm
namespace Go.Proofs.YtdnfaboigajkhaaGreatDoor
open Go.Emb Go.RowKit Go.Kd Go.Hm
variable {w : World} {K : Value → World → Prop} {σ : Q5} {v : Value} {l : List Cla}
theorem Q3b : U7 σ Cla.zero [S [], S [], .slice none 0 0, .bool false, .bool false, .bool false, .slice none 0 0, .slice none 0 0] :=
  ⟨_, _, _, rfl, Sl.nil, Sl.nil, Sl.nil, by decide, by decide⟩
theorem Q7U (h : K (.agg [S [], S [], .slice none 0 0, .bool false, .bool false, .bool false, .slice none 0 0, .slice none 0 0].toArray) w) : Qu P T.a [] w K := B1 (by kernel_rfl) h
theorem Q6T {k n : X0} (hs : X6 w σ) (ht : Tab σ v l) (ok : Ok l)
    (h : ∀ pv cv hv w' σ', Stp w σ w' σ' → M9 σ' (o2 (methodM l k n)) [S (o2 (methodM l k n)).name, pv, S (o2 (methodM l k n)).result, .bool (o2 (methodM l k n)).abs, I (o2 (methodM l k n)).locals, cv, hv] →
      K (.tuple #[S (o1 (methodM l k n)), .agg [S (o2 (methodM l k n)).name, pv, S (o2 (methodM l k n)).result, .bool (o2 (methodM l k n)).abs, I (o2 (methodM l k n)).locals, cv, hv].toArray, .bool (methodM l k n).isSome]) w') :
    Q1 P F.aS [v, S k, S n] w K := Ri (by
  unfold Um
  refine T7 hs fun b w1 σ1 hb hk1 hm1 => ?_
  refine Q5Q hk1.sat (ht.lift ⟨hk1.le⟩) ok.acy ok.len fun v1 w2 σ2 hk2 ha2 => ?_
  have hm2 := hm1.step hk2
  have hb1 := hm1.lt
  refine Q1z (hk1.trans hk2) (ha2.mono hk1.bel.size) fun w3 hk3 hS3 ha3 => ?_
  rw [List.reverse_reverse] at ha3
  obtain ⟨σ3, hS4, hv4, le4, old4⟩ := ha3.keep hS3
  have hcl := Eu l k
  have hne : v1.ownBlock ≠ some b := fun e => by have := ha2.own e; omega
  have hm3 : V4 σ3 w3 b [S [], .slice none 0 0, S [], .bool false, I 0, .slice none 0 0, .slice none 0 0] := by
    have := hm2.kp hk3 hne
    exact ⟨(old4 b fun e => hne e.symm).trans this.1, this.2⟩
  refine Q6 hv4 ?_
  unfold methodM at h
  refine V2 (chain l k).length (fun i w' => ∃ σ', Stp w σ w' σ' ∧ SLe σ3 σ' ∧ V4 σ' w' b [S [], .slice none 0 0, S [], .bool false, I 0, .slice none 0 0, .slice none 0 0] ∧ ((chain l k).take i).findSome? (fun c => (H8 c n).map (c.name, ·)) = none) ⟨σ3, hS4, SLe.refl _, hm3, rfl⟩ fun i w5 d hi hinv => ?_
  obtain ⟨σ5, hS5, le5, hm5, hno⟩ := hinv
  refine Z5 ?_
  refine Q4 (fun hh => ?_) (fun hh => ?_)
  · have hi' : i < (chain l k).length := by simpa using hh
    refine L2 (hv4.lift le5) hi' fun p cells hl1 hl2 hr => ?_
    refine Y3 hS5.sat hl1 hl2 ?_
    refine Y0 hS5.sat (by rfl) hl2 (Rep.one hr) fun q w6 σ6 hk6 hq6 => ?_
    refine Y3 hk6.sat hq6 hl2 ?_
    have hmem := Ir (List.getElem_mem hi')
    refine Q7m hk6.sat (Rep.up hk6.le hr) (ok.sm _ hmem) fun pv cv hv w7 σ7 hk7 hr7 => ?_
    refine M5 (vs := [_, _]) rfl ?_
    refine M5 (vs := [_, _]) rfl ?_
    refine Y0 hk7.sat (by rfl) rfl (Rep.one hr7) fun q8 w8 σ8 hk8 hq8 => ?_
    have hS8 := ((hS5.trans hk6).trans hk7).trans hk8
    have hm8 := ((hm5.step hk6).step hk7).step hk8
    have hr8 := S6 hr7 ⟨hk8.le⟩
    cases ho : H8 (chain l k)[i] n with
    | some m =>
      rw [ho] at hr8 hq8
      (try simp only [ho])
      refine F6 ?_
      obtain ⟨lv, fv, mv, rfl, g⟩ := hr
      refine W1 hS8.sat ?_
      refine X2 (.pointer (some (q.add 0))) (fun w hb => by rw [fa]; exact X5 rfl) ?_
      refine X2 (S (chain l k)[i].name) (fun t w hb e => by rw [e]; exact ld hb.sat ((hq6.up hk7).up hk8) rfl (X5 rfl)) ?_
      refine O4 (fun v _ => v = .agg [S m.name, pv, S m.result, .bool m.abs, I m.locals, cv, hv].toArray) (fun _ _ _ h _ => h) (fun w hb => Y3 hb.sat hq8 rfl ⟨Below.refl _ _, rfl⟩) ?_
      rintro _ _ _ w9 hb9 rfl rfl rfl
      refine I5 (hm8.step hb9.stp) (hS8.trans hb9.stp) hb rfl rfl (Rep.one hr8) fun w10 hS10 hm10 => ?_
      refine M6 hm10 rfl ?_
      rw [P8 (f := fun c => (H8 c n).map (c.name, ·)) hi' hno (by simp only [ho]; rfl)] at h
      exact h _ _ _ w10 σ8 hS10.stp hr8
    | none =>
      (try simp only [ho])
      refine I7 ?_
      refine O5 ?_
      refine Y5 (by have := ok.len; omega) hi' ⟨σ8, hS8, le5.more ⟨fun b o e => hk8.le _ _ (hk7.le _ _ (hk6.le _ _ e))⟩, hm8, ?_⟩
      rw [T6 hi' hno]; simp only [ho]; rfl
  · have hi' : ¬ i < (chain l k).length := by simpa using hh
    rw [List.take_of_length_le (by omega)] at hno
    rw [hno] at h
    clear hm3 hS4 hh
    refine Q6 (hv4.lift le5) ?_
    refine V2 (chain l k).length (fun i w' => ∃ σ', Stp w σ w' σ' ∧ SLe σ3 σ' ∧ V4 σ' w' b [S [], .slice none 0 0, S [], .bool false, I 0, .slice none 0 0, .slice none 0 0] ∧ ((chain l k).take i).findSome? (fun c => V7 l c n) = none) ⟨σ5, hS5, le5, hm5, rfl⟩ fun i w6 d hi hinv => ?_
    obtain ⟨σ6, hS6, le6, hm6, hno⟩ := hinv
    refine Z5 ?_
    refine Q4 (fun hh => ?_) (fun hh => ?_)
    · have hi' : i < (chain l k).length := by simpa using hh
      refine L2 (hv4.lift le6) hi' fun p cells hl1 hl2 hr => ?_
      refine Y3 hS6.sat hl1 hl2 ?_
      refine Y0 hS6.sat (by rfl) hl2 (Rep.one hr) fun q w7 σ7 hk7 hq7 => ?_
      refine Y3 hk7.sat hq7 hl2 ?_
      have hS7 := hS6.trans hk7
      have hlk := Q7a (List.getElem_mem hi')
      refine Q9g ok _ (Nat.lt_succ_self _) hlk hk7.sat (ht.lift ⟨hS7.le⟩) (Rep.up hk7.le hr) fun pv cv hv w8 σ8 hk8 hr8 => ?_
      refine M5 (vs := [_, _, _]) rfl ?_
      refine M5 (vs := [_, _, _]) rfl ?_
      refine M5 (vs := [_, _, _]) rfl ?_
      refine Y0 hk8.sat (by rfl) rfl (Rep.one hr8) fun q9 w9 σ9 hk9 hq9 => ?_
      have hS9 := (hS7.trans hk8).trans hk9
      have hm9 := ((hm6.step hk7).step hk8).step hk9
      have hr9 := S6 hr8 ⟨hk9.le⟩
      cases ho : V7 l (chain l k)[i] n with
      | some r =>
        obtain ⟨s, m⟩ := r
        rw [ho] at hr9 hq9
        (try simp only [ho])
        refine F6 ?_
        refine W1 hS9.sat ?_
        refine O4 (fun v _ => v = .agg [S m.name, pv, S m.result, .bool m.abs, I m.locals, cv, hv].toArray) (fun _ _ _ h _ => h) (fun w hb => Y3 hb.sat hq9 rfl ⟨Below.refl _ _, rfl⟩) ?_
        rintro _ w10 hb10 rfl
        refine I5 (hm9.step hb10.stp) (hS9.trans hb10.stp) hb rfl rfl (Rep.one hr9) fun w11 hS11 hm11 => ?_
        refine M6 hm11 rfl ?_
        have := P8 (f := fun c => V7 l c n) hi' hno ho
        unfold V7 at this
        rw [this] at h
        exact h _ _ _ w11 σ9 hS11.stp hr9
      | none =>
        (try simp only [ho])
        refine I7 ?_
        refine O5 ?_
        refine Y5 (by have := ok.len; omega) hi' ⟨σ9, hS9, le6.more ⟨fun b o e => hk9.le _ _ (hk8.le _ _ (hk7.le _ _ e))⟩, hm9, ?_⟩
        rw [T6 hi' hno]; exact ho
    · have hi' : ¬ i < (chain l k).length := by simpa using hh
      rw [List.take_of_length_le (by omega)] at hno
      refine Hu ?_
      refine I5 hm6 hS6 hb rfl rfl (Rep.one (K6 (σ := σ6))) fun w7 hS7 hm7 => ?_
      refine M6 hm7 rfl ?_
      unfold V7 at hno
      rw [hno] at h
      exact h _ _ _ w7 σ6 hS7.stp K6)
theorem Kn {n : X0} (hs : X6 w σ) (ht : Tab σ v l) (h : ∀ w' σ', Stp w σ w' σ' → K (.bool (Dm l n)) w') : Q1 P F.ar [v, S n] w K := Hk (by
  unfold Je
  unfold Dm at h
  cases hd : lk l n with
  | none =>
    rw [hd] at h
    (repeat' (first | (with_reducible intro _) | (with_reducible refine V3 ?_) | (simp only [↓Mm, Mm, ↓Mp, Mp, Mb, reduceIte]) | (with_reducible first | refine ld aS aL aR ?_ | refine X8 aS aL aR ?_ | refine Y3 aS aL aR ?_ | refine Q6 aL ?_ | refine Y6 aR ?_ | refine Z4 aS ?_ | refine L1 aS aL ?_ | refine U2 aS aR ?_ | refine Y0 aS aR aR (Rep.one (by assumption)) ?_ | refine U1 aS aR aR aR ?_ | refine Md au au au ?_ | (refine Y2 (fun hh => ?_) (fun hh => ?_) <;> (try simp only [hh, Bool.not_true, Bool.not_false, ↓Mm, Mm, ↓Mp, Mp, Mb, reduceIte])) | (refine Q4 (fun hh => ?_) (fun hh => ?_) <;> (try simp only [hh, Bool.not_true, Bool.not_false, ↓Mm, Mm, ↓Mp, Mp, Mb, reduceIte])))))
    all_goals (refine Eq.subst (motive := fun b => K b _) ?_ (h _ _ (by (repeat (first | exact Stp.refl (by (first | assumption | exact Stp.sat (by assumption) | exact Hst.sat (by assumption))) | assumption | refine Stp.trans ?_ (by first | assumption | exact Hst.stp (by assumption)))))); clear h; (try clear hA); (try clear hB); (try clear hC); first | rfl | ((try simp only [Bool.not_eq_true', Bool.not_eq_false', Bool.not_true, Bool.not_false, Bool.not_eq_true] at *); simp only [*, Mb, reduceIte]; done) | (simp [*]; done) | simp_all)
  | some d =>
    rw [hd] at h
    (repeat' (first | (with_reducible intro _) | (with_reducible refine V3 ?_) | (simp only [↓Mm, Mm, ↓Mp, Mp, Mb, reduceIte]) | (with_reducible first | refine ld aS aL aR ?_ | refine X8 aS aL aR ?_ | refine Y3 aS aL aR ?_ | refine Q6 aL ?_ | refine Y6 aR ?_ | refine Z4 aS ?_ | refine L1 aS aL ?_ | refine U2 aS aR ?_ | refine Y0 aS aR aR (Rep.one (by assumption)) ?_ | refine U1 aS aR aR aR ?_ | refine Us au au au ?_ | refine G6 au au au ?_ | (refine Y2 (fun hh => ?_) (fun hh => ?_) <;> (try simp only [hh, Bool.not_true, Bool.not_false, ↓Mm, Mm, ↓Mp, Mp, Mb, reduceIte])) | (refine Q4 (fun hh => ?_) (fun hh => ?_) <;> (try simp only [hh, Bool.not_true, Bool.not_false, ↓Mm, Mm, ↓Mp, Mp, Mb, reduceIte])))))
    all_goals (refine Eq.subst (motive := fun b => K b _) ?_ (h _ _ (by (repeat (first | exact Stp.refl (by (first | assumption | exact Stp.sat (by assumption) | exact Hst.sat (by assumption))) | assumption | refine Stp.trans ?_ (by first | assumption | exact Hst.stp (by assumption)))))); clear h; (try clear hA); (try clear hB); (try clear hC); first | rfl | ((try simp only [Bool.not_eq_true', Bool.not_eq_false', Bool.not_true, Bool.not_false, Bool.not_eq_true] at *); simp only [*, Mb, reduceIte]; done) | (simp [*]; done) | simp_all))
theorem Q9n {n : X0} (hs : X6 w σ) (ht : Tab σ v l) (hsm : ∀ c ∈ l, G3 c)
    (h : ∀ lv fv mv w' σ', Stp w σ w' σ' → U7 σ' ((lk l n).getD Cla.zero) [S ((lk l n).getD Cla.zero).name, S ((lk l n).getD Cla.zero).super, lv, .bool ((lk l n).getD Cla.zero).iface, .bool ((lk l n).getD Cla.zero).abs, .bool ((lk l n).getD Cla.zero).fin, fv, mv] →
      K (.tuple #[.agg [S ((lk l n).getD Cla.zero).name, S ((lk l n).getD Cla.zero).super, lv, .bool ((lk l n).getD Cla.zero).iface, .bool ((lk l n).getD Cla.zero).abs, .bool ((lk l n).getD Cla.zero).fin, fv, mv].toArray, .bool (lk l n).isSome]) w') : Q1 P F.bp [v, S n] w K := Kr (by
  obtain ⟨a, lv, r, m, rfl, t1, t2, t3, t4⟩ := ht.ex
  unfold Ls
  refine T7 hs fun b w1 σ1 hb hk1 hm1 => ?_
  have t1 := t1.up hk1
  have t2 := t2.up hk1
  have t3 := t3.up hk1
  rw [H4, fa]
  refine ld hk1.sat t1 rfl ?_
  rw [Sw X7 (t3.is hk1.sat) n, t4 n]
  cases hf : Y7 l n with
  | none =>
    have hlk : lk l n = none := by unfold lk; rw [hf]; rfl
    rw [hlk] at h
    (try simp only [Option.map_none])
    (try simp only [↓Mm, Mm, ↓Mr, Mr, Mb, reduceIte])
    refine Q7U ?_
    refine I5 hm1 hk1 hb rfl rfl (Rep.one (Q3b (σ := σ1))) fun w2 hS2 hm2 => ?_
    refine M6 hm2 rfl ?_
    exact h _ _ _ w2 σ1 hS2.stp Q3b
  | some i =>
    obtain ⟨c, hlk, hli, hcn⟩ := Xc hf
    obtain ⟨hil, rfl⟩ := List.getElem?_eq_some_iff.1 hli
    rw [hlk] at h
    (try simp only [Option.map_some])
    (try simp only [↓Mm, Mm, ↓Mr, Mr, Mb, reduceIte])
    refine ld hk1.sat t1 rfl ?_
    refine L2 t2 hil fun p cells hl1 hl2 hr => ?_
    refine Y3 hk1.sat hl1 hl2 ?_
    refine Q3i hk1.sat hr (hsm _ (List.getElem_mem hil)) fun lv' fv mv w2 σ2 hk2 hr2 => ?_
    refine I5 (hm1.step hk2) (hk1.trans hk2) hb rfl rfl (Rep.one hr2) fun w3 hS3 hm3 => ?_
    refine M6 hm3 rfl ?_
    exact h _ _ _ w3 σ2 hS3.stp hr2)
theorem Q7W (hs : X6 w σ) (ht : Tab σ v l) (hl : l.length ≤ 100000) (h : ∀ v' w' σ', Stp w σ w' σ' → Sl 1 U5 σ' v' (l.map (·.name)) → K v' w') : Q1 P F.b1 [v] w K := Cy (by
  obtain ⟨a, lv, r, m, rfl, t1, t2, t3, t4⟩ := ht.ex
  unfold Vs
  rw [H4, fa]
  refine ld hs t1 rfl ?_
  refine Q6 t2 ?_
  refine N1 l.length (fun i a w' => ∃ σ', Stp w σ w' σ' ∧ SLe σ σ' ∧ W5 w.heap.size T.b 1 U5 σ' w' a ((l.take i).map (·.name))) ⟨σ, Stp.refl hs, SLe.refl _, W5.nil⟩ fun i a w3 d hi hinv => ?_
  obtain ⟨σ3, hS3, le3, ha3⟩ := hinv
  refine Z5 ?_
  refine Q4 (fun hh => ?_) (fun hh => ?_)
  · have hi' : i < l.length := by simpa using hh
    refine L2 (t2.lift le3) hi' fun p cells hl1 hl2 hr => ?_
    refine Y3 hS3.sat hl1 hl2 ?_
    refine Y0 hS3.sat (by rfl) hl2 (Rep.one hr) fun q w4 σ4 hk4 hq => ?_
    obtain ⟨lv, fv, mv, rfl, f1, f2, f3, f4, f5⟩ := hr
    rw [fa]
    refine ld hk4.sat hq rfl ?_
    refine Ys (x := l[i].name) (hS3.trans hk4) (ha3.up hk4) ⟨rfl, f4⟩ rfl rfl rfl (by rw [List.length_map, List.length_take]; omega) (by rw [List.length_map, List.length_take]; omega) fun u v' w5 σ5 hn5 hS5 ha5 _ => ?_
    refine O5 ?_
    refine Z6 (by omega) hi' ⟨σ5, hS5, (le3.more ⟨hk4.le⟩).more hn5.le, ?_⟩
    rw [List.take_add_one, List.getElem?_eq_getElem hi', List.map_append]
    simpa using ha5
  · have hi' : ¬ i < l.length := by simpa using hh
    rw [List.take_of_length_le (by omega)] at ha3
    obtain ⟨σ4, hS4, hv4, le4, _⟩ := ha3.keep hS3
    exact h _ _ _ hS4 hv4)
end Go.Proofs.YtdnfaboigajkhaaGreatDoor

namespace Go.Kd
def brk (b : UInt8) : Bool := [(91 : UInt8), 93].contains b
def Pp : Nat → X0 → X0
  | 0, s => s
  | n + 1, s => match s.getLast? with
    | some b => if brk b then Pp n (s.take (s.length - 1)) else s
    | none => s
def Mt (s : X0) : X0 := Pp s.length s
theorem Q4Q : ∀ (n m : Nat) (s : X0), s.length ≤ n → s.length ≤ m → Pp n s = Pp m s := by
  intro n
  induction n with
  | zero =>
    intro m s h _
    have : s = [] := List.eq_nil_of_length_eq_zero (by omega)
    subst this
    cases m <;> rfl
  | succ n ih =>
    intro m s h hm
    cases m with
    | zero =>
      have : s = [] := List.eq_nil_of_length_eq_zero (by omega)
      subst this; rfl
    | succ m =>
      simp only [Pp]
      cases hl : s.getLast? with
      | none => rfl
      | some b =>
        simp only
        split
        · exact ih m _ (by rw [List.length_take]; omega) (by rw [List.length_take]; omega)
        · rfl
theorem Pr (s : X0) : Mt s = match s.getLast? with | some b => if brk b then Mt (s.take (s.length - 1)) else s | none => s := by
  unfold Mt
  cases hs : s with
  | nil => rfl
  | cons c r =>
    rw [← hs]
    obtain ⟨n, hn⟩ : ∃ n, s.length = n + 1 := ⟨r.length, by rw [hs]; rfl⟩
    have hn' : s.length - 1 = n := by omega
    rw [hn]
    simp only [Pp, hn']
    cases hl : s.getLast? with
    | none => rfl
    | some b =>
      simp only
      split
      · rw [show n + 1 - 1 = n by omega]; exact Q4Q n (s.take n).length _ (by rw [List.length_take]; omega) (Nat.le_refl _)
      · rfl
theorem Q6B {s : X0} (h : name s = true) : ∃ b, s.getLast? = some b ∧ D9 b.toNat = true := by
  cases s with
  | nil => simp [name] at h
  | cons c r =>
    refine ⟨(c :: r).getLast (by simp), List.getLast?_eq_some_getLast (by simp), ?_⟩
    simp only [name, Bool.and_eq_true, List.all_eq_true] at h
    exact h.2 _ (List.getLast_mem _)
theorem Q5E {b : UInt8} (h : D9 b.toNat = true) : brk b = false := by
  have h1 : b ≠ 91 := by rintro rfl; revert h; decide
  have h2 : b ≠ 93 := by rintro rfl; revert h; decide
  simp [brk, h1, h2]
theorem Vy {s : X0} (h : (plain s || L4 s) = true) : name s = true := by
  simp only [Bool.or_eq_true] at h
  rcases h with h | h
  · simp only [plain, Bool.or_eq_true, decide_eq_true_eq] at h
    rcases h with (h | h) | h <;> subst h <;> decide
  · cases s with
    | nil => simp [L4] at h
    | cons c r => simp only [L4, Bool.and_eq_true] at h; exact h.1
end Go.Kd
namespace Go.Proofs.YtdnfaboigajkhaaGreatDoor
open Go.Emb Go.RowKit Go.Kd Go.Hm
variable {w : World} {K : Value → World → Prop} {σ : Q5} {v : Value} {l : List Cla}
theorem Q6R {s : X0} (h : D6 s = true) : Mt s = Mt (Kd.O6 s) := by
  have hl : 2 ≤ s.length ∧ s.drop (s.length - 2) = [91, 93] := by simpa [D6] using h
  obtain ⟨h1, h2⟩ := hl
  have h3 : s = Kd.O6 s ++ [91, 93] := by unfold Kd.O6; rw [← h2, List.take_append_drop]
  have h4 : (Kd.O6 s).length + 2 = s.length := by unfold Kd.O6; rw [List.length_take]; omega
  have e1 : s.getLast? = some 93 := by rw [h3]; simp
  have e2 : s.take (s.length - 1) = Kd.O6 s ++ [91] := by
    conv => lhs; rw [h3]
    rw [List.take_append, List.length_append]
    simp
    exact List.take_of_length_le (by omega)
  rw [Pr s, e1]
  simp only [show brk 93 = true from rfl, if_true, e2]
  rw [Pr]
  have e3 : (Kd.O6 s ++ [91]).getLast? = some 91 := by simp
  rw [e3]
  simp only [show brk 91 = true from rfl, if_true]
  congr 1
  simp
theorem Q6b {s : X0} : (plain (V8 s).1 || L4 (V8 s).1) = true → Mt s = (V8 s).1 := by
  have key : ∀ (n : Nat) (s : X0), s.length ≤ n → (plain (V8 s).1 || L4 (V8 s).1) = true → Mt s = (V8 s).1 := by
    intro n
    induction n with
    | zero =>
      intro s h hp
      have : s = [] := List.eq_nil_of_length_eq_zero (by omega)
      subst this; rfl
    | succ n ih =>
      intro s h hp
      by_cases ha : D6 s = true
      · have hb : V8 s = ((V8 (Kd.O6 s)).1, (V8 (Kd.O6 s)).2 + 1) := by rw [Za s, ha]; simp
        rw [hb] at hp ⊢
        rw [Q6R ha]
        exact ih _ (by have := K4 ha; omega) hp
      · have hb : V8 s = (s, 0) := by rw [Za s, eq_false_of_ne_true ha]; simp
        rw [hb] at hp ⊢
        obtain ⟨b, h1, h2⟩ := Q6B (Vy hp)
        rw [Pr, h1]
        simp [Q5E h2]
  exact key _ s (Nat.le_refl _)
instance z_asciiSet : TZ P T.a1 256 256 (.agg (Array.replicate 256 (.bool false))) := ⟨by kernel_rfl⟩
theorem Q3A (h : ∀ w', Below w.heap.size w w' → K (.tuple #[.agg (Lib.setCells [91, 93]), .bool true]) w') : Q1 P F.bO [S [91, 93]] w K := by
  refine Jq (fn := Tryz.f94) Tryz.func94 (by kernel_rfl) (by kernel_rfl) (Calls.mono (Tryz.strings_makeASCIISet (fun w => Xb z_asciiSet w) ⟨[91, 93].toArray⟩ w (by decide) (by
    intro j b hb
    have : b ∈ [(91 : UInt8), 93] := List.mem_of_getElem? hb
    simp at this; rcases this with rfl | rfl <;> decide)) ?_)
  rintro e w' ⟨rfl, rfl⟩
  exact h _ ((Below.refl _ _).alloc (Nat.le_refl _) _)
theorem Q0v {q : Addr} {b : UInt8} (hs : X6 w σ) (hq : U0 σ q (Lib.setCells [91, 93]).toList) (h : K (.bool (brk b)) w) : Q1 P F.aq [.pointer (some q), .int .u8 b.toNat] w K := Wn (by
  unfold P0
  rw [H4]
  have hb := b.toNat_lt
  rw [Q5O (by omega) (by omega)]
  refine ld hs hq ?_ h
  have := Lib.setCells_at [91, 93] b
  rw [← Array.getElem?_toList] at this
  simpa [brk] using this)
theorem Au {q : Addr} {s : X0} (hs : X6 w σ) (hl : s.length ≤ W3) (hq : U0 σ q (Lib.setCells [91, 93]).toList) (h : K (S (Mt s)) w) : Q1 P F.ag [S s, .pointer (some q)] w K := Oo (by
  unfold Yb
  refine V3 ?_
  refine Jm (fun x w' => w' = w ∧ ∃ u : X0, x = S u ∧ u.length ≤ W3 ∧ Mt u = Mt s) (fun x _ => (To x).length) ⟨rfl, s, rfl, hl, rfl⟩ ?_
  rintro _ d _ ⟨rfl, u, rfl, hul, hu⟩
  have hsu : To (S u) = u := by simp [To]
  simp only [hsu]
  refine Q5W X7 ?_
  refine Q7D ?_
  refine Q4 (fun hh => ?_) (fun hh => ?_)
  · have h0 : 0 < u.length := by simpa using hh
    have hb : u.length ≤ 9223372036854775807 := Nat.le_trans hul (by decide)
    refine Q5W X7 ?_
    refine Nx ⟨by omega, by omega⟩ ?_
    have e1 : ((u.length : Int) - 1).toNat = u.length - 1 := by omega
    rw [T9 X7 (by omega) (by omega)]
    simp only [e1]
    have hlast : u.getLast? = some (u[u.length - 1]'(by omega)) := by rw [List.getLast?_eq_getElem?, List.getElem?_eq_getElem]
    have htr := Pr u
    rw [hlast] at htr
    simp only at htr
    refine Q0v hs hq ?_
    cases hbr : brk (u[u.length - 1]'(by omega)) with
    | true =>
      rw [hbr] at htr
      simp only [↓Mm, Mm, ↓Mr, Mr, Mb, reduceIte]
      rw [B6 (by omega) (by omega), I1 X7 (by omega) (by omega)]
      simp only [e1]
      refine ⟨⟨trivial, _, rfl, by rw [List.length_take]; omega, ?_⟩, ?_⟩
      · rw [← hu, htr]; simp
      · have : To (S (u.take (u.length - 1))) = u.take (u.length - 1) := by simp [To]
        simp only [this, List.length_take]; omega
    | false =>
      rw [hbr] at htr
      simp only [↓Mm, Mm, ↓Mr, Mr, Mb, reduceIte]
      intro _
      rw [← hu, htr] at h
      simpa using h
  · have h0 : ¬ 0 < u.length := by simpa using hh
    have : u = [] := List.eq_nil_of_length_eq_zero (by omega)
    subst this
    intro _
    rw [← hu] at h
    exact h)
theorem Q3J {s : X0} (hs : X6 w σ) (hl : s.length ≤ W3) (h : ∀ w' σ', Stp w σ w' σ' → K (S (Mt s)) w') : Q1 P F.bh [S s, S [91, 93]] w K := Gr (by
  unfold Wu
  by_cases hs0 : s = []
  · subst hs0
    (repeat' (first | (with_reducible intro _) | (with_reducible refine V3 ?_) | (simp only [↓Mm, Mm, ↓Mp, Mp, Mb, reduceIte]) | (with_reducible first | refine ld aS aL aR ?_ | refine X8 aS aL aR ?_ | refine Y3 aS aL aR ?_ | refine Q6 aL ?_ | refine Y6 aR ?_ | refine Z4 aS ?_ | refine L1 aS aL ?_ | refine U2 aS aR ?_ | refine Y0 aS aR aR (Rep.one (by assumption)) ?_ | refine U1 aS aR aR aR ?_ | (refine Y2 (fun hh => ?_) (fun hh => ?_) <;> (try simp only [hh, Bool.not_true, Bool.not_false, ↓Mm, Mm, ↓Mp, Mp, Mb, reduceIte])) | (refine Q4 (fun hh => ?_) (fun hh => ?_) <;> (try simp only [hh, Bool.not_true, Bool.not_false, ↓Mm, Mm, ↓Mp, Mp, Mb, reduceIte])))))
    all_goals first | exact h _ _ (by (repeat (first | exact Stp.refl (by (first | assumption | exact Stp.sat (by assumption) | exact Hst.sat (by assumption))) | assumption | refine Stp.trans ?_ (by first | assumption | exact Hst.stp (by assumption))))) | (exfalso; simp_all)
  have d1 : decide (s = []) = false := decide_eq_false hs0
  simp only [d1, show decide (([91, 93] : X0) = []) = false from rfl, show decide ((([91, 93] : X0).length : Int) = 1) = false from rfl, ↓Mm, Mm, ↓Mr, Mr, Mb, reduceIte]
  refine Q3A (W7 hs fun w1 σ1 hk1 => ?_)
  simp only [↓Mm, Mm, ↓Mr, Mr, Mb, reduceIte]
  have hsz : (Lib.setCells [91, 93]).toList.length = 256 := by rw [Array.length_toList]; exact Lib.setCells_size _
  have hone : ∀ u ∈ (Lib.setCells [91, 93]).toList, u.oneCell' = true := by
    have := Lib.setCells_one [91, 93]
    rw [Array.all_eq_true'] at this
    intro u hu; exact this u (by simpa using hu)
  have htr : ∀ {w : World} {σ : Q5} {K : Value → World → Prop} {q : Addr}, X6 w σ → U0 σ q (Lib.setCells [91, 93]).toList → K (S (Mt s)) w → Q1 P F.ag [S s, .pointer (some q)] w K := fun hs hq h => Au hs hl hq h
  have hta : Lib.setCells [91, 93] = (Lib.setCells [91, 93]).toList.toArray := Array.toArray_toList.symm
  generalize (Lib.setCells [91, 93]).toList = cs at *
  rw [hta]
  refine Y0 hk1.sat (by show (Array.replicate 256 (Value.bool false)).size = 256; exact Array.size_replicate) hsz hone fun q w2 σ2 hk2 hq => ?_
  refine htr hk2.sat hq ?_
  exact h _ _ (hk1.trans hk2))
theorem Ii {s : X0} (hs : X6 w σ) (ht : Tab σ v l) (hl : s.length ≤ W3) (h : ∀ w' σ', Stp w σ w' σ' → K (.bool (kindM l s)) w') : Q1 P F.v [v, S s] w K := Fz (by
  unfold Lg
  unfold kindM at h
  refine Nr ?_
  refine Q4 (fun hh => ?_) (fun hh => ?_)
  · have e : decide (s = Yw) = true := hh
    rw [e] at h
    exact h _ _ (Stp.refl hs)
  · have e : decide (s = Yw) = false := hh
    rw [e] at h
    refine Q3J hs hl fun w1 σ1 hk1 => ?_
    refine Yz s (Nat.le_trans hl (by decide)) (W7 hk1.sat fun w2 σ2 hk2 => ?_)
    cases hr : right s with
    | false =>
      rw [hr] at h
      (repeat' (first | (with_reducible intro _) | (with_reducible refine V3 ?_) | (simp only [↓Mm, Mm, ↓Mp, Mp, Mb, reduceIte]) | (with_reducible first | refine ld aS aL aR ?_ | refine X8 aS aL aR ?_ | refine Y3 aS aL aR ?_ | refine Q6 aL ?_ | refine Y6 aR ?_ | refine Z4 aS ?_ | refine L1 aS aL ?_ | refine U2 aS aR ?_ | refine Y0 aS aR aR (Rep.one (by assumption)) ?_ | refine U1 aS aR aR aR ?_ | (refine Y2 (fun hh => ?_) (fun hh => ?_) <;> (try simp only [hh, Bool.not_true, Bool.not_false, ↓Mm, Mm, ↓Mp, Mp, Mb, reduceIte])) | (refine Q4 (fun hh => ?_) (fun hh => ?_) <;> (try simp only [hh, Bool.not_true, Bool.not_false, ↓Mm, Mm, ↓Mp, Mp, Mb, reduceIte])))))
      all_goals (refine Eq.subst (motive := fun b => K b _) ?_ (h _ _ (by (repeat (first | exact Stp.refl (by (first | assumption | exact Stp.sat (by assumption) | exact Hst.sat (by assumption))) | assumption | refine Stp.trans ?_ (by first | assumption | exact Hst.stp (by assumption)))))); clear h; (try clear hA); (try clear hB); (try clear hC); first | rfl | ((try simp only [Bool.not_eq_true', Bool.not_eq_false', Bool.not_true, Bool.not_false, Bool.not_eq_true] at *); simp only [*, Mb, reduceIte]; done) | (simp [*]; done) | simp_all)
    | true =>
      rw [hr] at h
      have hr2 : (plain (V8 s).1 || L4 (V8 s).1) = true := by
        simp only [right, Bool.and_eq_true] at hr; exact hr.2
      rw [Q6b hr2]
      (repeat' (first | (with_reducible intro _) | (with_reducible refine V3 ?_) | (simp only [↓Mm, Mm, ↓Mp, Mp, Mb, reduceIte]) | (with_reducible first | refine ld aS aL aR ?_ | refine X8 aS aL aR ?_ | refine Y3 aS aL aR ?_ | refine Q6 aL ?_ | refine Y6 aR ?_ | refine Z4 aS ?_ | refine L1 aS aL ?_ | refine U2 aS aR ?_ | refine Y0 aS aR aR (Rep.one (by assumption)) ?_ | refine U1 aS aR aR aR ?_ | refine Uf _ ?_ | refine Q4K au au ?_ | (refine Y2 (fun hh => ?_) (fun hh => ?_) <;> (try simp only [hh, Bool.not_true, Bool.not_false, ↓Mm, Mm, ↓Mp, Mp, Mb, reduceIte])) | (refine Q4 (fun hh => ?_) (fun hh => ?_) <;> (try simp only [hh, Bool.not_true, Bool.not_false, ↓Mm, Mm, ↓Mp, Mp, Mb, reduceIte])))))
      all_goals (refine Eq.subst (motive := fun b => K b _) ?_ (h _ _ (by (repeat (first | exact Stp.refl (by (first | assumption | exact Stp.sat (by assumption) | exact Hst.sat (by assumption))) | assumption | refine Stp.trans ?_ (by first | assumption | exact Hst.stp (by assumption)))))); clear h; (try clear hA); (try clear hB); (try clear hC); first | rfl | ((try simp only [Bool.not_eq_true', Bool.not_eq_false', Bool.not_true, Bool.not_false, Bool.not_eq_true] at *); simp only [*, Mb, reduceIte]; done) | (simp [*]; done) | simp_all))
theorem Q1d (ok : Ok l) : ∀ (k : Nat) {n : X0} {w : World} {σ : Q5} {K : Value → World → Prop}, (lk l n = none ∨ H7 l n < k) → n.length ≤ W3 → X6 w σ → Tab σ v l → (∀ w' σ', Stp w σ w' σ' → K (S (printM l n)) w') → Q1 P F.s [v, S n] w K := by
  intro k
  induction k with
  | zero =>
    intro n w σ K hk hl hs ht h
    have hd : lk l n = none := hk.resolve_right (by omega)
    refine Wi ?_
    unfold Qe
    rw [Hh hd] at h
    (repeat' (first | (with_reducible intro _) | (with_reducible refine V3 ?_) | (simp only [↓Mm, Mm, ↓Mp, Mp, Mb, reduceIte]) | (with_reducible first | refine ld aS aL aR ?_ | refine X8 aS aL aR ?_ | refine Y3 aS aL aR ?_ | refine Q6 aL ?_ | refine Y6 aR ?_ | refine Z4 aS ?_ | refine L1 aS aL ?_ | refine U2 aS aR ?_ | refine Y0 aS aR aR (Rep.one (by assumption)) ?_ | refine U1 aS aR aR aR ?_ | refine Md au au au ?_ | (refine Y2 (fun hh => ?_) (fun hh => ?_) <;> (try simp only [hh, Bool.not_true, Bool.not_false, ↓Mm, Mm, ↓Mp, Mp, Mb, reduceIte])) | (refine Q4 (fun hh => ?_) (fun hh => ?_) <;> (try simp only [hh, Bool.not_true, Bool.not_false, ↓Mm, Mm, ↓Mp, Mp, Mb, reduceIte])))))
    all_goals exact h _ _ (by (repeat (first | exact Stp.refl (by (first | assumption | exact Stp.sat (by assumption) | exact Hst.sat (by assumption))) | assumption | refine Stp.trans ?_ (by first | assumption | exact Hst.stp (by assumption)))))
  | succ k ih =>
    intro n w σ K hk hl hs ht h
    refine Wi ?_
    unfold Qe
    cases hd : lk l n with
    | none =>
      rw [Hh hd] at h
      (repeat' (first | (with_reducible intro _) | (with_reducible refine V3 ?_) | (simp only [↓Mm, Mm, ↓Mp, Mp, Mb, reduceIte]) | (with_reducible first | refine ld aS aL aR ?_ | refine X8 aS aL aR ?_ | refine Y3 aS aL aR ?_ | refine Q6 aL ?_ | refine Y6 aR ?_ | refine Z4 aS ?_ | refine L1 aS aL ?_ | refine U2 aS aR ?_ | refine Y0 aS aR aR (Rep.one (by assumption)) ?_ | refine U1 aS aR aR aR ?_ | refine Md au au au ?_ | (refine Y2 (fun hh => ?_) (fun hh => ?_) <;> (try simp only [hh, Bool.not_true, Bool.not_false, ↓Mm, Mm, ↓Mp, Mp, Mb, reduceIte])) | (refine Q4 (fun hh => ?_) (fun hh => ?_) <;> (try simp only [hh, Bool.not_true, Bool.not_false, ↓Mm, Mm, ↓Mp, Mp, Mb, reduceIte])))))
      all_goals exact h _ _ (by (repeat (first | exact Stp.refl (by (first | assumption | exact Stp.sat (by assumption) | exact Hst.sat (by assumption))) | assumption | refine Stp.trans ?_ (by first | assumption | exact Hst.stp (by assumption)))))
    | some c =>
      have hp := Q1h ok.acy n
      rw [hd] at hp
      simp only at hp
      obtain ⟨hcn, hmem, _⟩ := V6 hd
      have hnm := ok.nm c hmem
      have hsm := ok.sm c hmem
      have hlen := Q0n ok c.super
      refine Us hs ht hd ?_
      simp only [↓Mm, Mm, ↓Mr, Mr, Mb, reduceIte]
      refine Q4 (fun hh => ?_) (fun hh => ?_)
      · have : n = U4 := of_decide_eq_true hh
        rw [if_pos this] at hp
        rw [hp] at h
        exact h _ _ (Stp.refl hs)
      have : ¬ n = U4 := of_decide_eq_false hh
      rw [if_neg this] at hp
      refine G6 hs ht hd fun lv fv mv w1 σ1 hk1 f1 f2 f3 f4 f5 hr => ?_
      refine Y0 hk1.sat (by rfl) rfl (Rep.one hr) fun q w2 σ2 hk2 hq => ?_
      have hn100 : n.length ≤ 100 := by rw [← hcn]; exact hnm.1
      refine H5 (by simp only [List.length_cons, List.length_nil]; omega) ?_
      simp only [fa]
      refine ld hk2.sat hq rfl ?_
      have hk' : lk l c.super = none ∨ H7 l c.super < k := by
        cases hd2 : lk l c.super with
        | none => exact .inl rfl
        | some e =>
          right
          have := B8 ok.acy hd (by simp [U9]) hd2
          rcases hk with hk | hk
          · rw [hk] at hd; cases hd
          · omega
      refine ih hk' f5 hk2.sat (ht.lift ⟨(hk1.trans hk2).le⟩) fun w3 σ3 hk3 => ?_
      refine H5 (by simp only [List.length_append, List.length_cons, List.length_nil]; omega) ?_
      refine H5 (by simp only [List.length_append, List.length_cons, List.length_nil]; omega) ?_
      refine ld hk3.sat (hq.up hk3) rfl ?_
      have f2 := (f2.up hk2).up hk3
      have hS3 := (hk1.trans hk2).trans hk3
      refine Q6 f2 ?_
      refine N1 c.fields.length (fun i a w' => ∃ σ', Stp w σ w' σ' ∧ SLe σ3 σ' ∧ a = S (n ++ [40] ++ printM l c.super ++ [41] ++ (c.fields.take i).flatMap D4)) ⟨σ3, hS3, SLe.refl _, by simp⟩ fun i a w4 d hi hinv => ?_
      obtain ⟨σ4, hS4, le4, rfl⟩ := hinv
      have hfl := Fh hnm hsm i
      refine Z5 ?_
      refine Q4 (fun hh => ?_) (fun hh => ?_)
      · have hi' : i < c.fields.length := by simpa using hh
        have hff := hnm.2.1 _ (List.getElem_mem hi')
        have hmax : c.fields.length ≤ 9223372036854775807 := f2.max
        refine V3 ?_
        refine Q3k (f2.lift le4) hi' fun p hl1 hr1 => ?_
        refine Y3 hS4.sat hl1 rfl ?_
        refine Y0 hS4.sat (by rfl) rfl (Rep.one hr1) fun q5 w5 σ5 hk5 hq5 => ?_
        rw [fa]
        refine ld hk5.sat hq5 rfl ?_
        have e5 : (c.fields.take (i + 1)).flatMap D4 = (c.fields.take i).flatMap D4 ++ D4 c.fields[i] := by
          rw [List.take_add_one, List.getElem?_eq_getElem hi', List.flatMap_append]; simp
        cases htr : c.fields[i].tr with
        | true =>
          simp only [↓Mm, Mm, ↓Mr, Mr, Mb, reduceIte]
          intro _
          refine Z6 hmax hi' ⟨σ5, hS4.trans hk5, le4.more ⟨hk5.le⟩, ?_⟩
          rw [e5]; simp [D4, htr]
        | false =>
          simp only [↓Mm, Mm, ↓Mr, Mr, Mb, reduceIte]
          refine ld hk5.sat hq5 rfl ?_
          refine H5 (by simp only [List.length_append, List.length_cons, List.length_nil]; omega) ?_
          refine H5 (by simp only [List.length_append, List.length_cons, List.length_nil]; omega) ?_
          refine ld hk5.sat hq5 rfl ?_
          refine H5 (by simp only [List.length_append, List.length_cons, List.length_nil]; omega) ?_
          refine H5 (by simp only [List.length_append, List.length_cons, List.length_nil]; omega) ?_
          intro _
          (try simp only [↓Mm, Mm, ↓Mr, Mr, Mb, reduceIte])
          refine Z6 hmax hi' ⟨σ5, hS4.trans hk5, le4.more ⟨hk5.le⟩, ?_⟩
          rw [e5]; simp [D4, htr]
      · have hi' : ¬ i < c.fields.length := by simpa using hh
        rw [List.take_of_length_le (by omega)] at hfl ⊢
        refine H5 (by simp only [List.length_append, List.length_cons, List.length_nil]; omega) ?_
        rw [hp] at h
        exact h _ _ hS4
end Go.Proofs.YtdnfaboigajkhaaGreatDoor

namespace Go.Emb
open Go.RowKit Go.Hm
variable {P : Program} {w w0 w1 w' w'' : World} {K : Value → World → Prop} {σ σ0 σ1 σ' : Q5}
theorem Q1C (m : List (List UInt8 × Value)) (k n : List UInt8) (v : Value) : E6 (Jo m k v) n = if k = n then some v else E6 m n := by
  induction m with
  | nil => simp [Jo, E6]
  | cons p r ih =>
    simp only [Jo]
    by_cases h : p.1 = k
    · rw [if_pos h]
      simp only [E6]
      by_cases h2 : k = n
      · simp [h2]
      · rw [if_neg h2, if_neg h2, if_neg (by rw [h]; exact h2)]
    · rw [if_neg h]
      simp only [E6]
      by_cases h2 : p.1 = n
      · rw [if_pos h2, if_pos h2, if_neg (by intro e; exact h (h2.trans e.symm))]
      · rw [if_neg h2, if_neg h2]; exact ih
theorem L7.shift {B sz : Nat} {e : TypeId} {v : Value} {xs : List (List UInt8)} (h : L7 B e sz U5 σ w v xs) (hk : ∀ k, v.ownBlock = some k → σ' k = none) : L7 B e sz U5 σ' w v xs := by
  obtain ⟨a, cap, rfl, h1, h2, hsp, h3⟩ := h
  refine ⟨a, cap, rfl, h1, h2, fun b hb => ⟨(hsp b hb).1, (hsp b hb).2.1, (hsp b hb).2.2.1, hk _ (by subst hb; rfl)⟩, fun hc => ?_⟩
  obtain ⟨g, off, cur, rfl, q1, q2, q3, q4, q5⟩ := h3 hc
  exact ⟨g, off, cur, rfl, q1, hk g rfl, q3, q4, q5⟩
theorem Kpt.sat {D : Nat → Prop} (hs : X6 w σ) (hk : Kpt D w w') (hd : ∀ k, D k → σ k = none) : X6 w' σ := fun b o e => by
  rw [hk.block b (hs.lt e) fun h => by rw [hd b h] at e; cases e]; exact hs b o e
theorem Nxt.kpt {D D' : Nat → Prop} (h : Nxt D w σ w' σ') (hk : Kpt D' w' w'') (hd : ∀ k, D' k → D k) (hn : ∀ k, D' k → σ' k = none) : Nxt D w σ w'' σ' :=
  ⟨h.kp.trans (hk.mono fun k _ h => hd k h), h.le, h.old, hk.sat h.sat hn⟩
theorem Q92 {t ty : TypeId} {e : TypeId} {by_ : Nat} {z : Value} {cs : List Bool} [ts : TS P t e] [tz : TZ P e 1 by_ z] {B : Nat} {wr : World} {σr σ' : Q5} {x' u : Value} {xs : List (List UInt8)} {s : List UInt8}
    (hr : L7 B e 1 U5 σr wr x' xs) (hB : B ≤ wr.heap.size) (h1 : L7 B e 1 U5 σr w1 x' xs) (hn : Nxt (fun k => x'.ownBlock = some k) wr σr w1 σ') (hu : Sl 1 U5 σ' u [s]) (hz : (z.cells.size == 1 && decide (0 < 1)) = true)
    (hb : (xs.length + 1) * by_ ≤ 140737488355328) (hm : xs.length + 1 ≤ 1000000000000) :
    X4 P .append [t, t] ty cs [x', u] w1 (dk (Hy B e 1 U5 σr x' xs s) (VQa wr.heap.size B e 1 U5 σr x' xs s) w1) := by
  have hown : ∀ k, x'.ownBlock = some k → σ' k = none := fun k hk => (hn.old k (hr.mem hk).2.1).trans (hr.mem hk).2.2
  refine Q7p hn.sat (Nat.le_trans hB hn.kp.size) (h1.shift hown) hu hz (by simpa using hb) (by simpa using hm) fun v' w2 hk2 hs2 ha2 hat => ?_
  have ha2' : L7 B e 1 U5 σr w2 v' (xs ++ [s]) := ha2.shift fun k hk => by
    have := (ha2.mem hk).2.2
    cases hh : σr k with
    | none => rfl
    | some o => rw [hn.le.le _ _ hh] at this; cases this
  refine ⟨⟨hk2.mono fun k _ h => h.1, fun h => ?_, fun a cap he h => ?_⟩, ha2', ?_⟩
  · rcases hat with ⟨a, cap, e1, e2⟩ | ⟨hb, _⟩
    · rw [e2] at ha2'; rw [e1]; exact ha2'.pre rfl
    · exact h.below hb
  · rcases hat with ⟨a', cap', e1, e2⟩ | ⟨hb, _⟩
    · rw [e1] at he; injection he with q1 q2 q3
      subst q1 q3
      rw [e2] at ha2'; exact ha2'
    · exact h.below hb
  · rcases hat with ⟨a, cap, e1, e2⟩ | ⟨hb, h2⟩
    · exact .inl ⟨a, cap, e1, e2⟩
    · exact .inr ⟨fun k hk => Nat.le_trans hn.kp.size (h2 k hk), fun k hk => (hr.mem hk).2.1⟩
end Go.Emb
namespace Go.Hm
open Go.Kd
def Up (l : List Cla) (n : X0) : List Cla := (visits l n).filterMap (lk l)
theorem Q3F {l : List Cla} (h : ∀ c ∈ l, G3 c) (seen : List X0) : weigh l seen ≤ l.length * 1000001 := by
  unfold weigh
  induction l with
  | nil => simp
  | cons c r ih =>
    have h1 := ih fun c hc => h c (by simp [hc])
    have h2 := (h c (by simp)).1
    simp only [List.map_cons, List.sum_cons, List.length_cons, Nat.add_mul]
    have hu : (U9 c).length = c.like.length + 1 := rfl
    split <;> omega
end Go.Hm
namespace Go.Proofs.YtdnfaboigajkhaaGreatDoor
open Go.Emb Go.RowKit Go.Kd Go.Hm
variable {w : World} {K : Value → World → Prop} {σ : Q5} {v : Value} {l : List Cla}
theorem Q4e {β : Type} {n : X0} {f : Value} (stp : β → Cla → Bool × β) (s0 : β) (Inv : β → World → Prop) (D : Nat → Prop) (hs : X6 w σ) (ht : Tab σ v l) (hl : l.length ≤ 100000) (hsm : ∀ c ∈ l, G3 c) (hn : n.length ≤ W3)
    (hD : ∀ k, D k → k < w.heap.size ∧ σ k = none) (hst : ∀ s w1 w2, Inv s w1 → (∀ k, D k → w2.heap[k]? = w1.heap[k]?) → Inv s w2) (h0 : Inv s0 w)
    (hf : ∀ s c cs (w1 : World) (σ1 : Q5) (K : Value → World → Prop), SLe σ σ1 → X6 w1 σ1 → (∀ k, D k → σ1 k = none) → Inv s w1 → U7 σ1 c cs → lk l c.name = some c → (∀ w', Kpt D w1 w' → Inv (stp s c).2 w' → K (.bool (stp s c).1) w') → Z7 P f [.agg cs.toArray] w1 K)
    (h : ∀ w' σ', Nxt D w σ w' σ' → Inv (V0 stp s0 (Up l n) 0).2 w' → K (.bool (V0 stp s0 (Up l n) 0).1.isSome) w') : Q1 P F.t [v, S n, f] w K := Sq (by
  unfold Wj
  refine Qq (R := U5) (sz := 1) (xs := [n]) (Stp.refl hs) [S n] rfl rfl (by simp; rfl) rfl ⟨⟨rfl, hn⟩, trivial⟩ fun x0 w1 hk1 ha1 _ => ?_
  refine Q0w hk1.sat fun r w2 hr hk2 hm2 => ?_
  have ha2 := L7.of_acc (ha1.up hk2)
  have hS2 := hk1.trans hk2
  have hrw : w.heap.size ≤ r := Nat.le_trans hk1.bel.size hr
  have hwb : ∀ seen, weigh l seen ≤ 100001000000 := fun seen => by
    have := Q3F hsm seen
    have h2 : l.length * 1000001 ≤ 100000 * 1000001 := Nat.mul_le_mul_right _ hl
    omega
  refine Ct (fun d x w1 => ∃ (todo seen : List X0) (s : β) (σ1 : Q5) (m : List (X0 × Value)), d = todo.length + weigh l seen ∧ d ≤ 1 + weigh l [] ∧ Nxt D w σ w1 σ1 ∧ L7 w.heap.size T.b 1 U5 σ1 w1 x todo ∧ N5 σ1 w1 r m ∧ (∀ k, (E6 m k).isSome = decide (k ∈ seen)) ∧ x.ownBlock ≠ some r ∧ Inv s w1 ∧
      visits l n = Zg (lk l) d todo seen ∧ (∃ i, V0 stp s0 (Up l n) 0 = V0 stp s (((visits l n).drop seen.length).filterMap (lk l)) i)) (1 + weigh l []) ?_ ?_
  · refine ⟨[n], [], s0, σ, [], by simp, Nat.le_refl _, Nxt.of_stp hS2, ha2, hm2, by simp [E6], ?_, hst _ _ _ h0 fun k hk => hS2.bel.block k (hD k hk).1, rfl, 0, by simp [Up]⟩
    intro e
    have := ha1.mem r e
    omega
  rintro again d x dd w3 ⟨todo, seen, s, σ3, m, hd, hd0, hn3, ha3, hm3, hseen, hxr, hi3, hv, i, hsc⟩ hag
  have hwb0 := hwb []
  have hs3 := hn3.sat
  obtain ⟨pre, hpre⟩ := Pv (lk l) d todo seen
  rw [← hv] at hpre
  have hdrop : (visits l n).drop seen.length = pre := by rw [hpre]; simp
  rw [hdrop] at hsc
  refine Q2a ha3 ?_
  refine Q7D ?_
  cases htodo : todo with
  | nil =>
    subst htodo
    refine Q4 (fun hh => absurd (of_decide_eq_true hh) (by simp)) (fun _ => ?_)
    have : visits l n = seen := by rw [hv]; cases d <;> rfl
    have hp : pre = [] := by rw [this] at hpre; simpa using hpre
    rw [hp] at hsc
    rw [hsc] at h
    exact h _ _ hn3 hi3
  | cons t rest =>
    subst htodo
    refine Q4 (fun _ => ?_) (fun hh => absurd (of_decide_eq_false hh) (by simp))
    simp only [List.length_cons] at hd
    refine Q2y (n := 0) ha3 (by simp) fun a cs h1 h2 h3 => ?_
    obtain ⟨rfl, htb⟩ := h3
    simp only [List.getElem_cons_zero] at h1 htb
    have hcell := h1 0 _ rfl
    rw [add_zero] at hcell
    refine T8 hcell ?_
    refine Q9E ha3 1 (by simp) fun x' ha3' hown => ?_
    simp only [List.drop_succ_cons, List.drop_zero] at ha3'
    have hxr' : x'.ownBlock ≠ some r := by
      rcases hown with e | e <;> rw [e]
      · exact hxr
      · simp
    rw [Sw X7 hm3.2 t]
    have hd' : d = (rest.length + weigh l seen) + 1 := by omega
    have hv2 := hv
    rw [hd'] at hv2
    simp only [Zg] at hv2
    have skip : (lk l t = none ∨ t ∈ seen) → visits l n = Zg (lk l) (rest.length + weigh l seen) rest seen := by
      rintro (e | e)
      · rw [e] at hv2; exact hv2
      · cases e2 : lk l t with
        | none => rw [e2] at hv2; exact hv2
        | some c => rw [e2] at hv2; simp only [if_pos e] at hv2; exact hv2
    have hskip : (lk l t = none ∨ t ∈ seen) → again x' w3 := fun hsk =>
      hag (rest.length + weigh l seen) x' w3 (by omega) ⟨rest, seen, s, σ3, m, rfl, by omega, hn3, ha3', hm3, hseen, hxr', hi3, skip hsk, i, by rw [hdrop]; exact hsc⟩
    have ht3 := ht.lift hn3.le
    have hsk0 := hseen t
    cases hlm : E6 m t with
    | some u =>
      rw [hlm] at hsk0
      have hin : t ∈ seen := by simpa using hsk0
      simp only [↓Mm, Mm, ↓Mp, Mp, Mb, reduceIte]
      exact hskip (.inr hin)
    | none =>
      rw [hlm] at hsk0
      have hin : t ∉ seen := by simpa using hsk0
      simp only [↓Mm, Mm, ↓Mp, Mp, Mb, reduceIte]
      cases hlt : lk l t with
      | none =>
        refine Md hs3 ht3 hlt ?_
        simp only [↓Mm, Mm, ↓Mp, Mp, Mb, reduceIte]
        exact hskip (.inl hlt)
      | some c =>
        obtain ⟨hcn, hcm, _⟩ := V6 hlt
        refine Us hs3 ht3 hlt ?_
        simp only [↓Mm, Mm, ↓Mp, Mp, Mb, reduceIte]
        refine Bn X7 hm3 t (I 1) fun w4 hu4 hm4 => ?_
        have hk4 : Kpt (fun k => k = r) w3 w4 := Kpt.of_upd hu4 rfl
        have hs4 : X6 w4 σ3 := hk4.sat hs3 fun k hk => by rw [hk]; exact hm3.1
        have ha4 := ha3'.kp hk4 fun k hk e => hxr' (e ▸ hk)
        have hi4 := hst _ _ _ hi3 fun k hk => hu4.block k (by have := (hD k hk).1; omega)
        have hrl : r < w3.heap.size := hm3.lt
        refine G6 hs4 ht3 hlt fun lv fv mv w5 σ5 hk5 f1 f2 f3 f4 f5 hr5 => ?_
        refine Y0 hk5.sat (by rfl) rfl (Rep.one hr5) fun q w6 σ6 hk6 hq6 => ?_
        refine Y3 hk6.sat hq6 rfl ?_
        have hk46 := hk5.trans hk6
        have hD4 : ∀ k, D k → k < w4.heap.size := fun k hk => by
          have h1 := (hD k hk).1
          have h2 := hn3.kp.size
          have h3 := hk4.size
          omega
        have hi6 := hst _ _ _ hi4 fun k hk => hk46.bel.block k (hD4 k hk)
        have le6 : SLe σ σ6 := hn3.le.more ⟨hk46.le⟩
        have hD6 : ∀ k, D k → σ6 k = none := fun k hk => by
          rw [hk46.old k (hD4 k hk), hn3.old k (hD k hk).1]; exact (hD k hk).2
        refine hf s c _ w6 σ6 _ le6 hk6.sat hD6 hi6 (H2 hr5 ⟨hk6.le⟩) (by rw [hcn]; exact hlt) fun w7 hk7 hi7 => ?_
        have hs7 : X6 w7 σ6 := hk7.sat hk6.sat hD6
        have hn7 : Nxt D w σ w7 σ6 := ⟨((hn3.kp.more hk4 fun j e => by rw [e]; exact hrw).trans (Kpt.of_below hk46.bel)).trans hk7, le6, fun k hk => by
          rw [hk46.old k (by have := hn3.kp.size; have := hk4.size; omega)]; exact hn3.old k hk, hs7⟩
        have hlow : ∀ k, w.heap.size ≤ k → ¬ D k := fun k hk e => by have := (hD k e).1; omega
        have ha7 := (ha4.up hk46).kp hk7 fun k hk => hlow k ((ha4.mem hk).1)
        have hm7 := (hm4.up hk46).kp hk7 (hlow r hrw)
        have hlm7 : ∀ k, (E6 (Jo m t (I 1)) k).isSome = decide (k ∈ seen ++ [t]) := fun k => by
          rw [Q1C]
          by_cases e : t = k
          · subst e; simp
          · rw [if_neg e, hseen k]; simp [Ne.symm e]
        rw [hlt] at hv2
        simp only [if_neg hin] at hv2
        obtain ⟨pre', hpre'⟩ := Pv (lk l) (rest.length + weigh l seen) (rest ++ U9 c) (seen ++ [t])
        have hpt : pre = t :: pre' := by
          have := hpre.symm.trans (hv2.trans hpre')
          simpa using this
        rw [hpt] at hsc
        simp only [List.filterMap_cons, hlt, V0] at hsc
        cases hb : (stp s c).1 with
        | true =>
          rw [hb] at hsc
          simp only [if_true] at hsc
          refine F6 ?_
          have := h w7 σ6 hn7
          rw [hsc] at this
          exact this hi7
        | false =>
          rw [hb] at hsc
          simp only [Bool.false_eq_true, if_false] at hsc
          refine I7 ?_
          have hsz7 : w.heap.size ≤ w7.heap.size := hn7.kp.size
          have hown7 : ∀ k, x'.ownBlock = some k → σ6 k = none := fun k hk => (ha7.mem hk).2.2
          have hw := Ck l seen c hcm (by rw [hcn]; exact hin)
          rw [hcn] at hw
          have hwl := hwb seen
          have hrest : rest.length ≤ 100001000001 := by omega
          have hlike := (hsm c hcm).1
          have hlt7 := hm7.lt
          refine Q0b (Hy w.heap.size T.b 1 U5 σ6 x' rest c.super) (fun w1 => Kpt (fun k => x'.ownBlock = some k) w7 w1 ∧ X6 w1 σ6 ∧ L7 w.heap.size T.b 1 U5 σ6 w1 x' rest)
            ⟨.of_below (Below.refl _ _).drew, hs7.below (Below.refl _ _).drew, ha7.below (Below.refl _ _).drew⟩ (fun w1 w2 hb ht => ⟨hb.1.trans ht.1, ht.1.sat hb.2.1 hown7, ht.2.1 hb.2.2⟩) ?_
          refine X2 (.pointer (some (q.add 1))) (fun w hb => by rw [fa]; exact ⟨Hy.refl, rfl⟩) ?_
          refine X2 (.pointer (some (q.add 2))) (fun w hb => by rw [fa]; exact ⟨Hy.refl, rfl⟩) ?_
          refine X2 (S c.super) (fun t w hb e => by rw [e]; exact ld hb.2.1 hq6 rfl ⟨Hy.refl, rfl⟩) ?_
          refine O4 (fun u w1 => ∃ σ', Nxt (fun k => x'.ownBlock = some k) w7 σ6 w1 σ' ∧ Sl 1 U5 σ' u [c.super]) (fun u w1 w2 e ht => by obtain ⟨σ', h1, h2⟩ := e; exact ⟨σ', h1.kpt ht.1 (fun _ hk => hk) (fun k hk => (h1.old k (ha7.mem hk).2.1).trans (hown7 k hk)), h2⟩) (fun t w1 hb e => ?_) ?_
          · rw [e]
            refine Nc (R := U5) (sz := 1) hb.2.1 [S c.super] [c.super] rfl rfl (by simp; rfl) rfl ⟨⟨rfl, f5⟩, trivial⟩ fun u w2 σ2 hk2 hu => ?_
            have hn0 : Nxt (fun k => x'.ownBlock = some k) w7 σ6 w1 σ6 := ⟨hb.1, SLe.refl _, fun _ _ => rfl, hb.2.1⟩
            exact ⟨Hy.below hk2.bel, σ2, hn0.trans (Nxt.of_stp hk2), hu⟩
          refine O4 (VQa w7.heap.size w.heap.size T.b 1 U5 σ6 x' rest c.super) (fun _ _ _ h1 ht => h1.stable ht) (fun u w1 hb e => ?_) ?_
          · obtain ⟨σ', h1, h2⟩ := e
            exact Q92 ha7 hsz7 hb.2.2 h1 h2 rfl (by omega) (by omega)
          refine X2 lv (fun t w hb e => by rw [e]; exact ld hb.2.1 hq6 rfl ⟨Hy.refl, rfl⟩) ?_
          rintro t46 t50 t47 t48 t49 t51 w8 hb8 _ _ _ _ ⟨ha8, hat8⟩ rfl
          have hr8 : t49.ownBlock ≠ some r := by
            rcases hat8 with ⟨a, cap, e1, e2⟩ | ⟨e1, _⟩
            · rw [e2]; rw [e1] at hxr'; cases a <;> exact hxr'
            · intro e; have := e1 r e; omega
          refine Q7p hb8.2.1 (Nat.le_trans hsz7 hb8.1.size) ha8 (f1.up hk6) rfl (by rw [List.length_append, List.length_cons, List.length_nil]; omega) (by rw [List.length_append, List.length_cons, List.length_nil]; omega) fun x'' w9 hk9 hs9 ha9 hat9 => ?_
          have hx9 : x''.ownBlock ≠ some r := by
            rcases hat9 with ⟨a, cap, e1, e2⟩ | ⟨_, e1⟩
            · rw [e2]; rw [e1] at hr8; cases a <;> exact hr8
            · intro e; have := e1 r e; have := hb8.1.size; omega
          have hn9 : Nxt D w σ w9 σ6 := ⟨(hn7.kp.more hb8.1 fun j e => (ha7.mem e).1).more hk9 fun j e => e.2.1, le6, hn7.old, hs9⟩
          have hm9 := (hm7.kp hb8.1 hxr').kp hk9 fun e => hr8 e.1
          have hi9 := hst _ w7 w9 hi7 fun k hk => by
            have h1 := (hD k hk).1
            rw [hk9.block k (by have := hb8.1.size; omega) fun e => by have := e.2.1; omega, hb8.1.block k (by omega) fun e => by have := (ha7.mem e).1; omega]
          have eul : (rest ++ U9 c).length = rest.length + 1 + c.like.length := by simp [U9]; omega
          have eul2 : (U9 c).length = c.like.length + 1 := rfl
          have hfull : Zg (lk l) (rest.length + weigh l seen) (rest ++ U9 c) (seen ++ [t]) = Zg (lk l) ((rest ++ U9 c).length + weigh l (seen ++ [t])) (rest ++ U9 c) (seen ++ [t]) := by
            have := Q71 l ((rest ++ U9 c).length + weigh l (seen ++ [t])) (rest ++ U9 c) (seen ++ [t]) (Nat.le_refl _) (rest.length + weigh l seen - ((rest ++ U9 c).length + weigh l (seen ++ [t])))
            rw [← this]; congr 1; omega
          refine hag ((rest ++ U9 c).length + weigh l (seen ++ [t])) x'' w9 (by omega) ⟨rest ++ U9 c, seen ++ [t], (stp s c).2, σ6, _, rfl, by omega, hn9, ?_, hm9, hlm7, hx9, hi9, hv2.trans hfull, i + 1, ?_⟩
          · have : rest ++ U9 c = (rest ++ [c.super]) ++ c.like := by simp [U9]
            rw [this]; exact ha9
          · rw [hsc, hpre, hpt]; simp)
end Go.Proofs.YtdnfaboigajkhaaGreatDoor

namespace Go.Emb
open Go.RowKit Go.Hm
theorem Nxt.stp {w w' : World} {σ σ' : Q5} (h : Nxt (fun _ => False) w σ w' σ') : Stp w σ w' σ' := ⟨h.kp.below fun _ => id, h.sat, h.le.le, h.old⟩
end Go.Emb
namespace Go.Hm
open Go.Kd Go.Emb
theorem Q1A {α : Type} (p : α → Bool) : ∀ (xs : List α) (i : Nat), (V0 (fun (_ : Unit) x => (p x, ())) () xs i).1.isSome = xs.any p
  | [], _ => rfl
  | x :: r, i => by
    simp only [V0, List.any_cons]
    cases p x with
    | true => simp
    | false => simpa using Q1A p r (i + 1)
theorem Q3n {l : List Cla} (n b : X0) : ((Up l n).any fun c => decide (c.name = b)) = (visits l n).contains b := by
  have key : ∀ vs : List X0, (∀ x ∈ vs, ∃ c, lk l x = some c) → ((vs.filterMap (lk l)).any fun c => decide (c.name = b)) = vs.contains b := by
    intro vs
    induction vs with
    | nil => intro _; rfl
    | cons x r ih =>
      intro h
      obtain ⟨c, hc⟩ := h x (by simp)
      rw [List.filterMap_cons, hc]
      simp only [List.any_cons, List.contains_cons]
      rw [ih fun y hy => h y (by simp [hy]), (V6 hc).1]
      congr 1
      rw [Bool.eq_iff_iff, beq_iff_eq, decide_eq_true_eq]; exact ⟨Eq.symm, Eq.symm⟩
  exact key _ fun x hx => (Zd.1 hx).right
end Go.Hm
namespace Go.Proofs.YtdnfaboigajkhaaGreatDoor
open Go.Emb Go.RowKit Go.Kd Go.Hm
variable {w : World} {K : Value → World → Prop} {σ : Q5} {v : Value} {l : List Cla}
theorem Q4G {n : X0} {f : Value} (p : Cla → Bool) (hs : X6 w σ) (ht : Tab σ v l) (hl : l.length ≤ 100000) (hsm : ∀ c ∈ l, G3 c) (hn : n.length ≤ W3)
    (hf : ∀ c cs (w1 : World) (σ1 : Q5) (K : Value → World → Prop), SLe σ σ1 → X6 w1 σ1 → U7 σ1 c cs → (∀ w' σ', Stp w1 σ1 w' σ' → K (.bool (p c)) w') → Z7 P f [.agg cs.toArray] w1 K)
    (h : ∀ w' σ', Stp w σ w' σ' → K (.bool ((Up l n).any p)) w') : Q1 P F.t [v, S n, f] w K := by
  refine Q4e (fun (_ : Unit) c => (p c, ())) () (fun _ _ => True) (fun _ => False) hs ht hl hsm hn (fun _ e => e.elim) (fun _ _ _ _ _ => trivial) trivial (fun s c cs w1 σ1 K le hs1 _ _ hr _ hK => hf c cs w1 σ1 K le hs1 hr fun w' σ' hk => hK w' (.of_below hk.bel) trivial) fun w' σ' hn _ => ?_
  rw [Q1A]
  exact h w' σ' hn.stp
theorem Q6Y {n b : X0} {q : Addr} (hs : X6 w σ) (ht : Tab σ v l) (ok : Ok l) (hn : n.length ≤ W3) (hq : U0 σ q [S b]) (h : ∀ w' σ', Stp w σ w' σ' → K (.bool ((visits l n).contains b)) w') :
    Q1 P F.t [v, S n, .func (.func F.b6) #[] #[.pointer (some q)]] w K := by
  refine Q4G (fun c => decide (c.name = b)) hs ht ok.len ok.sm hn (fun c cs w1 σ1 K le hs1 hr hK => J4 (Cn ?_)) (by rw [Q3n]; exact h)
  obtain ⟨lv, fv, mv, rfl, _⟩ := hr
  unfold Wm
  have hq1 := hq.lift le
  refine Z4 hs1 fun a w2 σ2 hk2 ha2 => ?_
  (repeat' (first | (with_reducible intro _) | (with_reducible refine V3 ?_) | (simp only [↓Mm, Mm, ↓Mp, Mp, Mb, reduceIte]) | (with_reducible first | refine ld aS aL aR ?_ | refine X8 aS aL aR ?_ | refine Y3 aS aL aR ?_ | refine Q6 aL ?_ | refine Y6 aR ?_ | refine Z4 aS ?_ | refine L1 aS aL ?_ | refine U2 aS aR ?_ | refine Y0 aS aR aR (Rep.one (by assumption)) ?_ | refine U1 aS aR aR aR ?_ | (refine Y2 (fun hh => ?_) (fun hh => ?_) <;> (try simp only [hh, Bool.not_true, Bool.not_false, ↓Mm, Mm, ↓Mp, Mp, Mb, reduceIte])) | (refine Q4 (fun hh => ?_) (fun hh => ?_) <;> (try simp only [hh, Bool.not_true, Bool.not_false, ↓Mm, Mm, ↓Mp, Mp, Mb, reduceIte])))))
  exact hK _ _ hk2
theorem Q29 {a b : X0} (hs : X6 w σ) (ht : Tab σ v l) (ok : Ok l) (ha : a.length ≤ W3) (hb : b.length ≤ W3) (h : ∀ w' σ', Stp w σ w' σ' → K (.bool (subM l a b)) w') : Q1 P F.a8 [v, S a, S b] w K := Kk (by
  unfold Ml
  unfold subM at h
  refine U2 hs rfl fun q w1 σ1 hk1 hq => ?_
  refine Ii hk1.sat (ht.lift ⟨hk1.le⟩) ha fun w2 σ2 hk2 => ?_
  have hS2 := hk1.trans hk2
  cases e1 : kindM l a with
  | false =>
    simp only [e1, ↓Mm, Mm, ↓Mp, Mp, Mb, reduceIte, Bool.not_false, Bool.true_or, if_true] at h ⊢
    exact h _ _ hS2
  | true =>
    simp only [e1, ↓Mm, Mm, ↓Mp, Mp, Mb, reduceIte, Bool.not_true, Bool.false_or] at h ⊢
    refine X8 hk2.sat (hq.up hk2) rfl ?_
    refine Ii hk2.sat (ht.lift ⟨hS2.le⟩) hb fun w3 σ3 hk3 => ?_
    have hS3 := hS2.trans hk3
    cases e2 : kindM l b with
    | false =>
      simp only [e2, ↓Mm, Mm, ↓Mp, Mp, Mb, reduceIte, Bool.not_false, if_true] at h ⊢
      exact h _ _ hS3
    | true =>
      simp only [e2, ↓Mm, Mm, ↓Mp, Mp, Mb, reduceIte, Bool.not_true, Bool.false_eq_true, if_false] at h ⊢
      have hq3 := (hq.up hk2).up hk3
      refine X8 hk3.sat hq3 rfl ?_
      refine Nr ?_
      by_cases hab : a = b
      · rw [if_pos hab] at h
        simp only [decide_eq_true hab, ↓Mm, Mm, ↓Mp, Mp, Mb, reduceIte]
        exact h _ _ hS3
      rw [if_neg hab] at h
      simp only [decide_eq_false hab, ↓Mm, Mm, ↓Mp, Mp, Mb, reduceIte]
      refine Uf a ?_
      cases e3 : plain a with
      | true =>
        simp only [e3, ↓Mm, Mm, ↓Mp, Mp, Mb, reduceIte, Bool.true_or, if_true] at h ⊢
        exact h _ _ hS3
      | false =>
        simp only [e3, ↓Mm, Mm, ↓Mp, Mp, Mb, reduceIte, Bool.false_or] at h ⊢
        refine X8 hk3.sat hq3 rfl ?_
        refine Uf b ?_
        cases e4 : plain b with
        | true =>
          simp only [e4, ↓Mm, Mm, ↓Mp, Mp, Mb, reduceIte, if_true] at h ⊢
          exact h _ _ hS3
        | false =>
          simp only [e4, ↓Mm, Mm, ↓Mp, Mp, Mb, reduceIte, Bool.false_eq_true, if_false] at h ⊢
          by_cases hn : a = Yw
          · rw [if_pos hn] at h
            have e5 : decide (a = [110, 117, 108, 108]) = true := decide_eq_true hn
            simp only [e5, ↓Mm, Mm, ↓Mp, Mp, Mb, reduceIte]
            exact h _ _ hS3
          rw [if_neg hn] at h
          have e5 : decide (a = [110, 117, 108, 108]) = false := decide_eq_false hn
          simp only [e5, ↓Mm, Mm, ↓Mp, Mp, Mb, reduceIte]
          refine Q98 a (Nat.le_trans ha (by decide)) (W7 hk3.sat fun w4 σ4 hk4 => ?_)
          have hS4 := hS3.trans hk4
          have hq4 := hq3.up hk4
          refine Nd ?_
          by_cases he : Hb a = []
          · rw [if_neg (by simpa using he)] at h
            simp only [decide_eq_true he, ↓Mm, Mm, ↓Mp, Mp, Mb, reduceIte]
            exact Q6Y hk4.sat (ht.lift ⟨hS4.le⟩) ok ha hq4 fun w5 σ5 hk5 => h _ _ (hS4.trans hk5)
          · rw [if_pos he] at h
            simp only [decide_eq_false he, ↓Mm, Mm, ↓Mp, Mp, Mb, reduceIte]
            refine X8 hk4.sat hq4 rfl ?_
            refine Nr ?_
            exact h _ _ hS4)
theorem Q39 {a b : X0} (hs : X6 w σ) (ht : Tab σ v l) (ok : Ok l) (ha : a.length ≤ W3) (hb : b.length ≤ W3) (h : ∀ w' σ', Stp w σ w' σ' → K (S (Q0p l a b)) w') : Q1 P F.ai [v, S a, S b] w K := Fl (by
  unfold Wo
  unfold Q0p at h
  refine Q29 hs ht ok ha hb fun w1 σ1 hk1 => ?_
  cases e1 : subM l a b with
  | true =>
    simp only [e1, ↓Mm, Mm, ↓Mp, Mp, Mb, reduceIte, if_true] at h ⊢
    exact h _ _ hk1
  | false =>
    simp only [e1, ↓Mm, Mm, ↓Mp, Mp, Mb, reduceIte, Bool.false_eq_true, if_false] at h ⊢
    refine Q29 hk1.sat (ht.lift ⟨hk1.le⟩) ok hb ha fun w2 σ2 hk2 => ?_
    have hS2 := hk1.trans hk2
    cases e2 : subM l b a with
    | true =>
      simp only [e2, ↓Mm, Mm, ↓Mp, Mp, Mb, reduceIte, if_true] at h ⊢
      exact h _ _ hS2
    | false =>
      simp only [e2, ↓Mm, Mm, ↓Mp, Mp, Mb, reduceIte, Bool.false_eq_true, if_false] at h ⊢
      refine Ii hk2.sat (ht.lift ⟨hS2.le⟩) ha fun w3 σ3 hk3 => ?_
      have hS3 := hS2.trans hk3
      cases e3 : kindM l a with
      | false =>
        simp only [e3, ↓Mm, Mm, ↓Mp, Mp, Mb, reduceIte, Bool.not_false, Bool.true_or, if_true] at h ⊢
        exact h _ _ hS3
      | true =>
        simp only [e3, ↓Mm, Mm, ↓Mp, Mp, Mb, reduceIte, Bool.not_true, Bool.false_or] at h ⊢
        refine Ii hk3.sat (ht.lift ⟨hS3.le⟩) hb fun w4 σ4 hk4 => ?_
        have hS4 := hS3.trans hk4
        cases e4 : kindM l b with
        | false =>
          simp only [e4, ↓Mm, Mm, ↓Mp, Mp, Mb, reduceIte, Bool.not_false, Bool.true_or, if_true] at h ⊢
          exact h _ _ hS4
        | true =>
          simp only [e4, ↓Mm, Mm, ↓Mp, Mp, Mb, reduceIte, Bool.not_true, Bool.false_or] at h ⊢
          refine Uf a ?_
          cases e5 : plain a with
          | true =>
            simp only [e5, ↓Mm, Mm, ↓Mp, Mp, Mb, reduceIte, Bool.true_or, if_true] at h ⊢
            exact h _ _ hS4
          | false =>
            simp only [e5, ↓Mm, Mm, ↓Mp, Mp, Mb, reduceIte, Bool.false_or] at h ⊢
            refine Uf b ?_
            cases e6 : plain b with
            | true =>
              simp only [e6, ↓Mm, Mm, ↓Mp, Mp, Mb, reduceIte, if_true] at h ⊢
              exact h _ _ hS4
            | false =>
              simp only [e6, ↓Mm, Mm, ↓Mp, Mp, Mb, reduceIte, Bool.false_eq_true, if_false] at h ⊢
              refine Ct (fun d x w' => ∃ (s : X0) (σ' : Q5), x = S s ∧ s.length ≤ W3 ∧ Stp w σ w' σ' ∧ d = (chain l s).length ∧ (chain l a).find? (fun c => subM l b c.name) = (chain l s).find? fun c => subM l b c.name) _ ⟨a, σ4, rfl, ha, hS4, rfl, rfl⟩ ?_
              rintro again d x dd w5 ⟨s, σ5, rfl, hsl, hS5, rfl, hfs⟩ hag
              have ht5 := ht.lift ⟨hS5.le⟩
              cases hd : lk l s with
              | none =>
                refine Md hS5.sat ht5 hd ?_
                refine I7 ?_
                rw [Qk hd] at hfs
                rw [hfs] at h
                exact h _ _ hS5
              | some c =>
                have hcn := (V6 hd).1
                have hch := F7 ok.acy s
                rw [hd] at hch
                simp only at hch
                rw [hch, List.find?_cons, hcn] at hfs
                refine Us hS5.sat ht5 hd ?_
                refine F6 ?_
                refine Q29 hS5.sat ht5 ok hb hsl fun w6 σ6 hk6 => ?_
                have hS6 := hS5.trans hk6
                cases e7 : subM l b s with
                | true =>
                  rw [e7] at hfs
                  simp only at hfs
                  refine F6 ?_
                  rw [hfs] at h
                  have := h _ _ hS6
                  simp only [hcn] at this
                  exact this
                | false =>
                  rw [e7] at hfs
                  simp only at hfs
                  refine I7 ?_
                  refine G6 hS6.sat (ht.lift ⟨hS6.le⟩) hd fun lv fv mv w7 σ7 hk7 f1 f2 f3 f4 f5 hr => ?_
                  refine Y6 (v := S c.super) rfl ?_
                  exact hag _ _ _ (by rw [hch]; simp) ⟨c.super, σ7, rfl, f5, hS6.trans hk7, rfl, hfs⟩)
theorem Q87 {c : Cla} {cs : List Value} (hs : X6 w σ) (ht : Tab σ v l) (hl : l.length ≤ 100000) (hsm : ∀ c ∈ l, G3 c) (hc : U7 σ c cs) (h : ∀ w' σ', Stp w σ w' σ' → K (.bool (loopsM l c)) w') : Q1 P F.b3 [v, .agg cs.toArray] w K := Cg (by
  obtain ⟨lv, fv, mv, rfl, g1, g2, g3, g4, g5⟩ := hc
  unfold Wd
  obtain ⟨a, _, _, _, rfl, _⟩ := ht.ex
  refine U2 hs rfl fun q w1 σ1 hk1 hq => ?_
  refine Z4 hk1.sat fun q2 w2 σ2 hk2 hq2 => ?_
  rw [Xa, fa]
  have hS2 := hk1.trans hk2
  have back : ∀ {n : X0} {w3 : World} {σ3 : Q5} {K : Value → World → Prop}, SLe σ2 σ3 → X6 w3 σ3 → n.length ≤ W3 → (∀ w' σ', Stp w3 σ3 w' σ' → K (.bool ((visits l n).contains c.name)) w') →
      Z7 P (.func (.func F.aP) #[] #[.pointer (some q), .pointer (some q2)]) [S n] w3 K := by
    intro n w3 σ3 K le hs3 hn hK
    refine J4 (Hl ?_)
    unfold Ja
    refine X8 hs3 ((hq.up hk2).lift le) rfl ?_
    rw [Xa]
    have le3 : SLe σ σ3 := SLe.more ⟨hS2.le⟩ le
    refine Q4G (fun d => decide (d.name = c.name)) hs3 (ht.lift le3) hl hsm hn (fun d ds w4 σ4 K le4 hs4 hr hK => J4 (Oc ?_)) (by rw [Q3n]; exact hK)
    obtain ⟨lv, fv, mv, rfl, _⟩ := hr
    unfold Xv
    have hq4 := (hq2.lift le).lift le4
    refine Z4 hs4 fun a w5 σ5 hk5 ha5 => ?_
    (repeat' (first | (with_reducible intro _) | (with_reducible refine V3 ?_) | (simp only [↓Mm, Mm, ↓Mp, Mp, Mb, reduceIte]) | (with_reducible first | refine ld aS aL aR ?_ | refine X8 aS aL aR ?_ | refine Y3 aS aL aR ?_ | refine Q6 aL ?_ | refine Y6 aR ?_ | refine Z4 aS ?_ | refine L1 aS aL ?_ | refine U2 aS aR ?_ | refine Y0 aS aR aR (Rep.one (by assumption)) ?_ | refine U1 aS aR aR aR ?_ | (refine Y2 (fun hh => ?_) (fun hh => ?_) <;> (try simp only [hh, Bool.not_true, Bool.not_false, ↓Mm, Mm, ↓Mp, Mp, Mb, reduceIte])) | (refine Q4 (fun hh => ?_) (fun hh => ?_) <;> (try simp only [hh, Bool.not_true, Bool.not_false, ↓Mm, Mm, ↓Mp, Mp, Mb, reduceIte])))))
    exact hK _ _ hk5
  refine ld hk2.sat hq2 rfl ?_
  unfold loopsM at h
  simp only [U9, List.any_cons] at h
  refine back (SLe.refl _) hk2.sat g5 fun w3 σ3 hk3 => ?_
  cases e1 : (visits l c.super).contains c.name with
  | true =>
    rw [e1] at h
    simp only [↓Mm, Mm, ↓Mp, Mp, Mb, reduceIte]
    exact h _ _ (hS2.trans hk3)
  | false =>
    rw [e1, Bool.false_or] at h
    simp only [↓Mm, Mm, ↓Mp, Mp, Mb, reduceIte]
    refine ld hk3.sat (hq2.up hk3) rfl ?_
    refine C5 (fun n => (visits l n).contains c.name) hk3.sat (((g1.up hk1).up hk2).up hk3) (fun x w4 K _ hs4 hx hK => back ⟨hk3.le⟩ hs4 hx fun w' σ' hk => hK _ hk.bel) fun w4 hb => ?_
    (try simp only [↓Mm, Mm, ↓Mp, Mp, Mb, reduceIte])
    exact h _ _ ((hS2.trans hk3).trans (Stp.of_below hk3.sat hb)))
end Go.Proofs.YtdnfaboigajkhaaGreatDoor

namespace Go.Emb
open Go.RowKit Go.Hm
variable {P : Program} {w w0 w1 w' w'' : World} {K : Value → World → Prop} {σ σ0 σ1 σ' : Q5}
theorem Sl.at {α : Type} {R : Q5 → α → List Value → Prop} {sz : Nat} {v : Value} {xs : List α} (h : Sl sz R σ v xs) {i : Nat} (hi : i < xs.length) :
    ∃ p cs, U0 σ p cs ∧ cs.length = sz ∧ R σ xs[i] cs ∧ ∀ {P : Program} {t e : TypeId} {by_ : Nat} {z : Value} {w : World} {K : Value → World → Prop} [TS P t e] [TZ P e sz by_ z], K (.pointer (some p)) w → indexAddr P t v (I i) w K := by
  obtain ⟨a, cap, rfl, h2, h3, h4, h5⟩ := h
  cases a with
  | none => have := h4 rfl; omega
  | some b =>
    obtain ⟨cs, g1, g2, g3⟩ := (h5 b rfl).2 i xs[i] (by simp [hi])
    refine ⟨_, cs, g1, g2, g3, ?_⟩
    intro P t e by_ z w K _ _ hK
    rw [Rh (by omega) (by omega)]
    simpa using hK
abbrev G5 (xs : List Nat) : List Int := xs.map fun n : Nat => (n : Int)
theorem W5.grow {α : Type} {R : Q5 → α → List Value → Prop} [hr : Rep R] {B sz : Nat} {e : TypeId} {v : Value} {xs : List α} (h : W5 B e sz R σ w v xs) (le : SLe σ σ') (hk : ∀ k, v.ownBlock = some k → σ' k = none) : W5 B e sz R σ' w v xs := by
  obtain ⟨cells, h1, h2, h3⟩ := h
  exact ⟨cells, h1, hk, fun i x hx => hr.up le.le (h3 i x hx)⟩
end Go.Emb
namespace Go.Proofs.YtdnfaboigajkhaaGreatDoor
open Go.Emb Go.RowKit Go.Kd Go.Hm
variable {w : World} {K : Value → World → Prop} {σ : Q5} {v : Value} {l : List Cla}
theorem Q3Q {B i : Nat} {xs : List Nat} {x : Value} (ha : L7 B T.d 1 Jn σ w x (G5 xs)) (h : K (.bool (decide (i ∈ xs))) w) : Q1 P F.av [x, I i] w K := Mf (by
  unfold A7
  have hmax : xs.length ≤ 9223372036854775807 := by
    obtain ⟨a, cap, _, h1, h2, _⟩ := ha
    simp only [maxLen, G5, List.length_map] at h2 h1; omega
  refine Da ?_
  unfold Yu
  refine Q2a ha ?_
  have hlm : (G5 xs).length = xs.length := by simp
  refine V2 xs.length (fun n w' => w' = w ∧ i ∉ xs.take n) ⟨rfl, by simp⟩ fun n w' d hn hi => ?_
  obtain ⟨rfl, hi⟩ := hi
  rw [hlm]
  refine Z5 ?_
  refine Q4 (fun hh => ?_) (fun hh => ?_)
  · have hn' : n < xs.length := by simpa using hh
    refine Q2y ha (by rw [hlm]; exact hn') fun a cs h1 h2 h3 => ?_
    obtain ⟨rfl, _⟩ := h3
    have hc := h1 0 _ rfl
    rw [add_zero] at hc
    refine T8 hc ?_
    simp only [List.getElem_map]
    refine Q2c ?_
    refine Q4 (fun hh2 => ?_) (fun hh2 => ?_)
    · have e : (i : Int) = xs[n] := by simpa using hh2
      have : i = xs[n] := by omega
      have hmem : decide (i ∈ xs) = true := decide_eq_true (by rw [this]; exact List.getElem_mem hn')
      rw [hmem] at h
      refine Vh ?_
      rw [decide_eq_true (by omega : (0 : Int) ≤ n)]
      exact h
    · have e : ¬ (i : Int) = xs[n] := by simpa using hh2
      refine O5 ?_
      refine Y5 hmax hn' ⟨rfl, ?_⟩
      rw [List.take_add_one, List.getElem?_eq_getElem hn']
      simp only [Option.toList_some, List.mem_append, List.mem_singleton, not_or]
      exact ⟨hi, fun e2 => e (by rw [e2])⟩
  · have hn' : ¬ n < xs.length := by simpa using hh
    rw [List.take_of_length_le (by omega)] at hi
    rw [decide_eq_false hi] at h
    refine Vh ?_
    exact h)
theorem Q93 {w0 : World} {σ0 σb : Q5} {pf pt pw : Addr} {bo frm : Nat} (ha : Qv l) (ho : B5 l) (hl : l.length ≤ 100000) (hsm : ∀ c ∈ l, G3 c) (hf : 0 < frm) (ht : Tab σb v l) (hpf : U0 σb pf [I frm]) (hpt : U0 σb pt [v])
    (hpw : U0 σb pw [.func (.func F.u) #[] #[.pointer (some pf), .pointer (some ⟨bo, 0, none⟩), .pointer (some pt), .pointer (some pw)]]) (hbo : w0.heap.size ≤ bo) :
    ∀ (k : Nat) {i : Nat} {out : List Nat} {x : Value} {w1 : World} {σ1 : Q5} {K : Value → World → Prop}, i < l.length → (i < frm ∨ H7 l (Y1 l i) < k) → SLe σb σ1 → Stp w0 σ0 w1 σ1 → V4 σ1 w1 bo [x] → W5 w0.heap.size T.d 1 Jn σ1 w1 x (G5 out) → x.ownBlock ≠ some bo → Ip l out →
      (∀ w2 σ2 x', SLe σ1 σ2 → Stp w0 σ0 w2 σ2 → V4 σ2 w2 bo [x'] → W5 w0.heap.size T.d 1 Jn σ2 w2 x' (G5 (T5 l frm out i)) → x'.ownBlock ≠ some bo → K (.tuple #[]) w2) →
      Z7 P (.func (.func F.u) #[] #[.pointer (some pf), .pointer (some ⟨bo, 0, none⟩), .pointer (some pt), .pointer (some pw)]) [I i] w1 K := by
  obtain ⟨a, lv, r, m, rfl, t1, t2, t3, t4⟩ := ht.ex
  intro k
  induction k with
  | zero =>
    intro i out x w1 σ1 K hi hk le hS hm hacc hx hfew h
    have hlow : i < frm := hk.resolve_right (by omega)
    refine J4 (Jg ?_)
    unfold K2
    refine X8 hS.sat (hpf.lift le) rfl ?_
    refine Z5 ?_
    rw [decide_eq_true (by omega : (i : Int) < frm)]
    simp only [↓Mm, Mm, ↓Mp, Mp, Mb, reduceIte]
    have : T5 l frm out i = out := Ql _ _ hlow
    rw [this] at h
    exact h _ _ _ (SLe.refl _) hS hm hacc hx
  | succ k ih =>
    intro i out x w1 σ1 K hi hk le hS hm hacc hx hfew h
    refine J4 (Jg ?_)
    unfold K2
    refine X8 hS.sat (hpf.lift le) rfl ?_
    refine Z5 ?_
    have heq := Q4o ha ho hf out hi
    by_cases hlow : i < frm
    · rw [decide_eq_true (by omega : (i : Int) < frm)]
      simp only [↓Mm, Mm, ↓Mp, Mp, Mb, reduceIte]
      rw [if_pos hlow] at heq
      rw [heq] at h
      exact h _ _ _ (SLe.refl _) hS hm hacc hx
    rw [if_neg hlow] at heq
    rw [decide_eq_false (by omega : ¬ (i : Int) < frm)]
    simp only [↓Mm, Mm, ↓Mp, Mp, Mb, reduceIte]
    refine Q6J hm rfl ?_
    refine Q3Q (L7.of_acc hacc) ?_
    by_cases hin : i ∈ out
    · rw [if_pos hin] at heq
      rw [heq] at h
      simp only [decide_eq_true hin, ↓Mm, Mm, ↓Mp, Mp, Mb, reduceIte]
      exact h _ _ _ (SLe.refl _) hS hm hacc hx
    rw [if_neg hin] at heq
    simp only [decide_eq_false hin, ↓Mm, Mm, ↓Mp, Mp, Mb, reduceIte]
    have hrk : H7 l (Y1 l i) < k + 1 := hk.resolve_left hlow
    have t1 := t1.lift le
    have t2 := t2.lift le
    have t3 := t3.lift le
    have hpt1 := hpt.lift le
    obtain ⟨p, cs, hp1, hp2, hp3, hp4⟩ := t2.at hi
    obtain ⟨lv', fv, mv, rfl, f1, f2, f3, f4, f5⟩ := hp3
    have eat : l.getD i Cla.zero = l[i] := by rw [List.getD_eq_getElem?_getD, List.getElem?_eq_getElem hi]; rfl
    have hbl := hm.lt
    refine W1 hS.sat ?_
    refine X2 (.pointer (some a)) (fun w hb => X8 hb.sat hpt1 rfl (X5 rfl)) ?_
    refine X2 (.pointer (some a)) (fun t w hb e => by rw [e, H4]; exact X5 rfl) ?_
    refine X2 (.pointer (some (a.add 0))) (fun t w hb e => by rw [e, fa]; exact X5 rfl) ?_
    refine X2 lv (fun t w hb e => by rw [e]; exact ld hb.sat t1 rfl (X5 rfl)) ?_
    refine X2 (.pointer (some p)) (fun t w hb e => by rw [e]; exact hp4 (X5 rfl)) ?_
    refine X2 (.pointer (some (p.add 1))) (fun t w hb e => by rw [e, fa]; exact X5 rfl) ?_
    refine X2 (S l[i].super) (fun t w hb e => by rw [e]; exact ld hb.sat hp1 rfl (X5 rfl)) ?_
    refine O4 (fun u w => X6 w σ1 ∧ W5 w0.heap.size T.b 1 U5 σ1 w u [l[i].super] ∧ ∀ k, u.ownBlock = some k → w1.heap.size ≤ k) (fun u w2 w3 h hb => ⟨h.1.below hb, h.2.1.up (Stp.of_below h.1 hb), h.2.2⟩) (fun t w hb e => ?_) ?_
    · rw [e]
      refine Qq (R := U5) (sz := 1) (xs := [l[i].super]) (hS.trans hb.stp) [S l[i].super] rfl rfl (by simp; rfl) rfl ⟨⟨rfl, f5⟩, trivial⟩ fun u w2 hk2 hu hou => ?_
      exact ⟨hk2.bel, hk2.sat, hu, fun k hk => Nat.le_trans hb.stp.bel.size (hou k hk)⟩
    refine X2 (.pointer (some a)) (fun w hb => X8 hb.sat hpt1 rfl (X5 rfl)) ?_
    refine X2 (.pointer (some a)) (fun t w hb e => by rw [e, H4]; exact X5 rfl) ?_
    refine X2 (.pointer (some (a.add 0))) (fun t w hb e => by rw [e, fa]; exact X5 rfl) ?_
    refine X2 lv (fun t w hb e => by rw [e]; exact ld hb.sat t1 rfl (X5 rfl)) ?_
    refine X2 (.pointer (some p)) (fun t w hb e => by rw [e]; exact hp4 (X5 rfl)) ?_
    refine X2 (.pointer (some (p.add 2))) (fun t w hb e => by rw [e, fa]; exact X5 rfl) ?_
    refine X2 lv' (fun t w hb e => by rw [e]; exact ld hb.sat hp1 rfl (X5 rfl)) ?_
    rintro t16 t17 t18 t19 t21 t22 t23 t24 t25 t26 t27 t28 t30 t31 t32 w2 hb2 _ _ _ _ _ _ _ ⟨hs2, hu2, hou2⟩ _ _ _ _ _ _ e32
    subst e32
    have hS2 := hS.trans hb2.stp
    have hlike := (hsm _ (List.getElem_mem hi)).1
    have hxl : ∀ j, x.ownBlock = some j → j < w1.heap.size := fun j hj => (hacc.mem j hj).2.1
    have hm2 := hm.step hb2.stp
    have hacc2 := hacc.step hb2.stp
    refine Nv hS2 hu2 f1 rfl (by simp only [List.length_cons, List.length_nil]; omega) (by simp only [List.length_cons, List.length_nil]; omega) fun t33 w3 hn3 hS3 hu3 hat3 => ?_
    have hou3 : ∀ j, t33.ownBlock = some j → w1.heap.size ≤ j := fun j hj => by
      rcases hat3 with e | e
      · exact hou2 j (e ▸ hj)
      · exact Nat.le_trans hb2.stp.bel.size (e j hj)
    have hm3 := hm2.nx hn3 fun e => by have := hou2 _ e; omega
    have hacc3 := hacc2.nx hn3 fun j hj e => by have := hou2 _ e; have := hxl j hj; omega
    obtain ⟨σ4, hS4, hv4, le4, old4⟩ := hu3.keep hS3
    have hv4 : Sl 1 U5 σ4 t33 (U9 l[i]) := hv4
    have hm4 : V4 σ4 w3 bo [x] := ⟨(old4 bo fun e => by have := hou3 bo e.symm; omega).trans hm3.1, hm3.2⟩
    have hacc4 : W5 w0.heap.size T.d 1 Jn σ4 w3 x (G5 out) := hacc3.grow ⟨le4⟩ fun j hj => (old4 j fun e => by have := hou3 j e.symm; have := hxl j hj; omega).trans (hacc3.mem j hj).2.2
    have le14 : SLe σ1 σ4 := ⟨le4⟩
    refine Q6 hv4 ?_
    refine V2 (U9 l[i]).length (fun n w' => ∃ σ' x', SLe σ4 σ' ∧ Stp w0 σ0 w' σ' ∧ V4 σ' w' bo [x'] ∧ W5 w0.heap.size T.d 1 Jn σ' w' x' (G5 (((U9 l[i]).take n).foldl (fun out u => T5 l frm out ((Y7 l u).getD 0)) out)) ∧ x'.ownBlock ≠ some bo ∧ Ip l (((U9 l[i]).take n).foldl (fun out u => T5 l frm out ((Y7 l u).getD 0)) out))
      ⟨σ4, x, SLe.refl _, hS4, hm4, hacc4, hx, hfew⟩ fun n w5 d hn hinv => ?_
    obtain ⟨σ5, x5, le5, hS5, hm5, hacc5, hx5, hfew5⟩ := hinv
    refine Z5 ?_
    have le15 := le14.more le5
    refine Q4 (fun hh => ?_) (fun hh => ?_)
    · have hn' : n < (U9 l[i]).length := by simpa using hh
      refine Q2F (hv4.lift le5) hn' fun q hq hqb => ?_
      refine X8 hS5.sat hq rfl ?_
      have e1 : ((U9 l[i]).take (n + 1)).foldl (fun out u => T5 l frm out ((Y7 l u).getD 0)) out = T5 l frm (((U9 l[i]).take n).foldl (fun out u => T5 l frm out ((Y7 l u).getD 0)) out) ((Y7 l (U9 l[i])[n]).getD 0) := by
        rw [List.take_add_one, List.getElem?_eq_getElem hn', List.foldl_append]; rfl
      refine W1 hS5.sat ?_
      refine X2 _ (fun w hb => X8 hb.sat (hpw.lift (le.more le15)) rfl (X5 rfl)) ?_
      refine X2 (.pointer (some a)) (fun w hb => X8 hb.sat (hpt1.lift le15) rfl (X5 rfl)) ?_
      refine X2 (.pointer (some a)) (fun t w hb e => by rw [e, H4]; exact X5 rfl) ?_
      refine X2 (.pointer (some (a.add 1))) (fun t w hb e => by rw [e, fa]; exact X5 rfl) ?_
      refine X2 (.map (some r)) (fun t w hb e => by rw [e]; exact ld hb.sat (t1.lift le15) rfl (X5 rfl)) ?_
      refine X2 (I ((Y7 l (U9 l[i])[n]).getD 0 : Nat)) (fun t w hb e => by
        rw [e, Q1I X7 ((t3.lift le15).is hb.sat) _, t4]
        cases Y7 l (U9 l[i])[n] <;> exact X5 rfl) ?_
      rintro t39 t40 t41 t42 t43 t45 w6 hb6 rfl _ _ _ _ rfl
      have hn0 : l.length ≤ 9223372036854775807 := by omega
      refine ih ?_ ?_ (le.more le15) (hS5.trans hb6.stp) (hm5.step hb6.stp) (hacc5.step hb6.stp) hx5 hfew5 fun w7 σ7 x7 le7 hS7 hm7 hacc7 hx7 => ?_
      · cases hj : Y7 l (U9 l[i])[n] with
        | none => simp only [Option.getD_none]; omega
        | some j => exact (R4 hj).1
      · cases hj : Y7 l (U9 l[i])[n] with
        | none => exact .inl hf
        | some j =>
          right
          have := Td ha ho hi (u := (U9 l[i])[n]) (by rw [eat]; exact List.getElem_mem hn') hj
          simp only [Option.getD_some]; omega
      · refine O5 ?_
        refine Y5 (by have : (U9 l[i]).length = l[i].like.length + 1 := rfl; omega) hn' ⟨σ7, x7, le5.more le7, hS7, hm7, ?_, hx7, ?_⟩
        · rw [e1]; exact hacc7
        · rw [e1]
          cases hj : Y7 l (U9 l[i])[n] with
          | none => simp only [Option.getD_none]; rw [show T5 l frm _ 0 = _ from Ql _ _ hf]; exact hfew5
          | some j => exact Bc ha ho hf _ _ _ (R4 hj).1 hfew5
    · have hn' : ¬ n < (U9 l[i]).length := by simpa using hh
      rw [List.take_of_length_le (by omega)] at hacc5 hfew5
      rw [eat] at heq
      refine Q6J hm5 rfl ?_
      have hfl := hfew5.len
      refine Ys (x := (i : Int)) hS5 hacc5 ⟨rfl, by omega, by omega⟩ rfl rfl rfl (by rw [List.length_map]; omega) (by rw [List.length_map]; omega) fun u x8 w8 σ8 hn8 hS8 hacc8 hat8 => ?_
      have hm8 := hm5.nx hn8 hx5
      have hx8 : x8.ownBlock ≠ some bo := fun e => by
        rcases hat8 with e2 | e2
        · exact hx5 (e2 ▸ e)
        · have := e2 bo e; have := hm5.lt; omega
      have hxc : x8.cells = #[x8] ∧ x8.oneCell' = true := by
        obtain ⟨cells, h1, _⟩ := hacc8
        rcases h1.2 with ⟨rfl, _⟩ | ⟨g, cap, cur, rfl, _⟩ <;> exact ⟨rfl, rfl⟩
      refine st0 hm8 (by simp) hxc.1 hxc.2 fun w9 hu9 hm9 => ?_
      have hS9 := hu9.stp hS8 hbo hm8.1
      have hacc9 : W5 w0.heap.size T.d 1 Jn σ8 w9 x8 (G5 (T5 l frm out i)) := by
        rw [heq]
        have := hacc8.kp (Kpt.of_upd (D := fun k => k = bo) hu9 rfl) fun k hk e => hx8 (e ▸ hk)
        simpa [G5] using this
      exact h w9 σ8 x8 (le15.more hn8.le) hS9 hm9 hacc9 hx8
theorem Q8i {frm : Nat} (hs : X6 w σ) (ht : Tab σ v l) (ha : Qv l) (ho : B5 l) (hl : l.length ≤ 100000) (hsm : ∀ c ∈ l, G3 c) (hf : 0 < frm) (hfl : frm ≤ l.length) (h : ∀ v' w' σ', Stp w σ w' σ' → Sl 1 Jn σ' v' (G5 (W0 l frm)) → (W0 l frm).length ≤ l.length → (∀ y ∈ W0 l frm, y < l.length) → K v' w') : Q1 P F.b4 [v, I frm] w K := Bo (by
  unfold Wh
  have ht0 := ht
  obtain ⟨a, lv, r, m, rfl, t1, t2, t3, t4⟩ := ht.ex
  refine U2 hs rfl fun pt w1 σ1 hk1 hpt => ?_
  refine U2 hk1.sat rfl fun pf w2 σ2 hk2 hpf => ?_
  refine T7 hk2.sat fun bo w3 σ3 hbo hk3 hm3 => ?_
  refine T7 hk3.sat fun bw w4 σ4 hbw hk4 hm4 => ?_
  rw [Xa]
  have hm3' := hm3.step hk4
  have hlt3 := hm3.lt
  have hS4 := ((hk1.trans hk2).trans hk3).trans hk4
  have hbo0 : w.heap.size ≤ bo := Yn hbo (hk1.trans hk2)
  have hbw0 : w.heap.size ≤ bw := Yn hbw ((hk1.trans hk2).trans hk3)
  refine st0 hm4 (by simp [Value.cells]) rfl rfl fun w5 hu5 hm5 => ?_
  have hS5 := hu5.stp hS4 hbw0 hm4.1
  have hm5o := hm3'.upd hu5 (by omega)
  obtain ⟨σ6, hS6, hw6, le6, old6⟩ := hm5.keep hS5 hbw0
  have hm6 : V4 σ6 w5 bo [.slice none 0 0] := ⟨(old6 bo (by omega)).trans hm5o.1, hm5o.2⟩
  have le6 : SLe σ4 σ6 := ⟨le6⟩
  have hpf6 := ((hpf.up hk3).up hk4).lift le6
  have hpt6 := (((hpt.up hk2).up hk3).up hk4).lift le6
  have leall : SLe σ σ6 := SLe.more ⟨hS4.le⟩ le6
  have t1 := t1.lift leall
  have t2 := t2.lift leall
  refine X8 hS6.sat hpf6 rfl ?_
  have hll : (List.range l.length).length = l.length := List.length_range
  have hz : ([Value.nilFunc].set 0 (Value.func (Fn.func F.u) #[] #[.pointer (some pf), .pointer (some ⟨bo, 0, none⟩), .pointer (some pt), .pointer (some ⟨bw, 0, none⟩)])) = [Value.func (Fn.func F.u) #[] #[.pointer (some pf), .pointer (some ⟨bo, 0, none⟩), .pointer (some pt), .pointer (some ⟨bw, 0, none⟩)]] := rfl
  refine Ct (fun d x w' => ∃ (i : Nat) (σ' : Q5) (x' : Value), x = I i ∧ frm ≤ i ∧ i ≤ l.length ∧ d = l.length - i ∧ SLe σ6 σ' ∧ Stp w σ w' σ' ∧ V4 σ' w' bo [x'] ∧ W5 w.heap.size T.d 1 Jn σ' w' x' (G5 (((List.range i).drop frm).foldl (fun out i => T5 l frm out i) [])) ∧ x'.ownBlock ≠ some bo ∧ Ip l (((List.range i).drop frm).foldl (fun out i => T5 l frm out i) [])) _
    ⟨frm, σ6, .slice none 0 0, rfl, Nat.le_refl _, hfl, rfl, SLe.refl _, hS6, hm6, by rw [List.drop_eq_nil_of_le (by simp)]; exact W5.nil, by simp [Value.ownBlock], by rw [List.drop_eq_nil_of_le (by simp)]; exact ⟨by simp, by simp⟩⟩ ?_
  rintro again d x dd w7 ⟨i, σ7, x7, rfl, hfi, hil, rfl, le7, hS7, hm7, hacc7, hx7, hfew7⟩ hag
  refine X8 hS7.sat (hpt6.lift le7) rfl ?_
  rw [H4, fa]
  refine ld hS7.sat (t1.lift le7) rfl ?_
  refine Q6 (t2.lift le7) ?_
  refine Z5 ?_
  refine Q4 (fun hh => ?_) (fun hh => ?_)
  · have hi' : i < l.length := by simpa using hh
    refine X8 hS7.sat (hw6.lift le7) rfl ?_
    refine Q93 (w0 := w) (σ0 := σ) (σb := σ6) ha ho hl hsm hf (ht0.lift leall) hpf6 hpt6 hw6 hbo0 (H7 l (Y1 l i) + 1) hi' (.inr (Nat.lt_succ_self _)) le7 hS7 hm7 hacc7 hx7 hfew7 fun w8 σ8 x8 le8 hS8 hm8 hacc8 hx8 => ?_
    refine Se ⟨by omega, by omega⟩ ?_
    have e1 : ((List.range (i + 1)).drop frm).foldl (fun out i => T5 l frm out i) [] = T5 l frm (((List.range i).drop frm).foldl (fun out i => T5 l frm out i) []) i := by
      rw [List.range_succ, List.drop_append_of_le_length (by simp; omega), List.foldl_append]; rfl
    refine hag _ _ _ (by omega : l.length - (i + 1) < l.length - i) ⟨i + 1, σ8, x8, by simp, by omega, by omega, rfl, le7.more le8, hS8, hm8, ?_, hx8, ?_⟩
    · rw [e1]; exact hacc8
    · rw [e1]; exact Bc ha ho hf _ _ _ hi' hfew7
  · have hi' : i = l.length := by have : ¬ i < l.length := by simpa using hh
                                  omega
    subst hi'
    refine Q6J hm7 rfl ?_
    obtain ⟨σ8, hS8, hv8, _, _⟩ := hacc7.keep hS7
    exact h _ _ _ hS8 hv8 hfew7.len hfew7.2)
end Go.Proofs.YtdnfaboigajkhaaGreatDoor

namespace Go.Hm
open Go.Kd
theorem Q3y (x : X0) (r : List X0) : O3 (x :: r) = x ++ Lib.joinTail [44] r := by
  induction r generalizing x with
  | nil => simp [O3, Lib.joinTail]
  | cons y r ih =>
    simp only [O3]
    rw [ih y]
    simp [Lib.joinTail]
theorem Ad (xs : List X0) : Lib.join xs [44] = O3 xs := by
  cases xs with
  | nil => rfl
  | cons x r => rw [Lib.join_cons, Q3y]
theorem Mz : ∀ xs : List X0, (∀ x ∈ xs, x.length ≤ 100) → (O3 xs).length ≤ xs.length * 101
  | [], _ => by simp [O3]
  | [a], h => by have := h a (by simp); simp [O3]; omega
  | a :: b :: r, h => by
    have h1 := h a (by simp)
    have h2 := Mz (b :: r) fun x hx => h x (by simp [hx])
    simp only [O3, List.length_append, List.length_cons, List.length_nil, Nat.add_mul] at *
    omega
def NmM (m : Hm.Met) : Prop := m.result.length ≤ 100 ∧ ∀ p ∈ m.params, p.length ≤ 100
end Go.Hm
namespace Go.Proofs.YtdnfaboigajkhaaGreatDoor
open Go.Emb Go.RowKit Go.Kd Go.Hm
variable {w : World} {K : Value → World → Prop} {σ : Q5} {v : Value} {l : List Cla}
theorem Q7M {xs : List X0} {pv : Value} (hs : X6 w σ) (hv : Sl 1 U5 σ pv xs) (hl : xs.length ≤ 1000000) (hx : ∀ x ∈ xs, x.length ≤ 100) (h : ∀ w', Below w.heap.size w w' → K (S (O3 xs)) w') : Q1 P F.cg [pv, S [44]] w K := by
  obtain ⟨a, cap, rfl, h2, h3, h4, h5⟩ := hv
  have hclen := Mz xs hx
  have hmul : xs.length * 101 ≤ 1000000 * 101 := Nat.mul_le_mul_right _ hl
  cases a with
  | none =>
    have h0 := h4 rfl
    have hx0 : xs = [] := List.eq_nil_of_length_eq_zero (by omega)
    subst hx0
    refine Jq (fn := Tryz.f72) Tryz.func72 (by kernel_rfl) (by kernel_rfl) (Calls.mono (Tryz.strings_Join_none none cap ⟨[44].toArray⟩ w) ?_)
    rintro e w' ⟨rfl, rfl⟩
    exact h _ (Below.refl _ _)
  | some b =>
    obtain ⟨hsp, hel⟩ := h5 b rfl
    by_cases hx0 : xs = []
    · subst hx0
      refine Jq (fn := Tryz.f72) Tryz.func72 (by kernel_rfl) (by kernel_rfl) (Calls.mono (Tryz.strings_Join_none (some b) cap ⟨[44].toArray⟩ w) ?_)
      rintro e w' ⟨rfl, rfl⟩
      exact h _ (Below.refl _ _)
    have hsp := hsp (List.length_pos_iff.2 hx0)
    obtain ⟨bk, o, sp⟩ := b
    simp only at hsp
    subst hsp
    have hcells : ∀ (j : Nat) (x : ByteArray), (xs.map fun s => (⟨s.toArray⟩ : ByteArray))[j]? = some x → w.cell? ⟨bk, o + j, none⟩ = some (.string x) := by
      intro j x hj
      rw [List.getElem?_map] at hj
      cases hxj : xs[j]? with
      | none => rw [hxj] at hj; cases hj
      | some s =>
        rw [hxj] at hj
        cases hj
        obtain ⟨cs, g1, g2, g3⟩ := hel j s hxj
        obtain ⟨rfl, _⟩ := g3
        have := g1.cell hs (i := 0) (v := S s) rfl
        rw [add_zero] at this
        have e : (⟨bk, o, none⟩ : Addr).add (j * 1) = ⟨bk, o + j, none⟩ := by unfold Addr.add; split <;> simp_all
        rw [e] at this; exact this
    have hbk : bk < w.heap.size := by
      obtain ⟨x, r, rfl⟩ : ∃ x r, xs = x :: r := by cases xs with | nil => exact absurd rfl hx0 | cons x r => exact ⟨x, r, rfl⟩
      have := hcells 0 ⟨x.toArray⟩ (by simp)
      exact World.block_lt_of_cell? _ _ this
    have hm : (xs.map fun s => (⟨s.toArray⟩ : ByteArray)).map (·.data.toList) = xs := by rw [List.map_map]; simp [Function.comp_def]
    have hc := Tryz.strings_Join bk o cap (xs.map fun s => (⟨s.toArray⟩ : ByteArray)) ⟨[44].toArray⟩ w hcells hbk (by rw [List.length_map]; omega) (by rw [List.length_map]; exact h2) (by rw [hm]; show (Lib.join xs [44]).length ≤ _; rw [Ad]; omega)
    rw [hm, List.length_map] at hc
    refine Jq (fn := Tryz.f72) Tryz.func72 (by kernel_rfl) (by kernel_rfl) (Calls.mono hc ?_)
    rintro e w' ⟨rfl, hb⟩
    have := h w' hb
    rw [← Ad] at this
    exact this
theorem Q6o {m : Hm.Met} {cs : List Value} (hs : X6 w σ) (hm : M9 σ m cs) (hsm : SmM m) (hn : NmM m) (h : ∀ w' σ', Stp w σ w' σ' → K (S (K1 m)) w') : Q1 P F.bM [.agg cs.toArray] w K := Q2K (by
  obtain ⟨pv, cv, hv, rfl, g1, g2, g3, g4, g5, g6⟩ := hm
  unfold Pc
  refine Z4 hs fun a w1 σ1 hk1 ha => ?_
  have hcl := Mz m.params hn.2
  have hmul : m.params.length * 101 ≤ 1000000 * 101 := Nat.mul_le_mul_right _ hsm.1
  refine W1 hk1.sat ?_
  refine X2 (.pointer (some (a.add 1))) (fun w hb => by rw [fa]; exact X5 rfl) ?_
  refine X2 (.pointer (some (a.add 2))) (fun w hb => by rw [fa]; exact X5 rfl) ?_
  refine X2 pv (fun t w hb e => by rw [e]; exact ld hb.sat ha rfl (X5 rfl)) ?_
  refine X2 (S (O3 m.params)) (fun t w hb e => by rw [e]; exact Q7M hb.sat (g1.up hk1) hsm.1 hn.2 fun w' hb' => Q0h hb' rfl) ?_
  refine X2 (S ([40] ++ O3 m.params)) (fun t w hb e => by rw [e]; exact H5 (by simp only [List.length_cons, List.length_nil]; omega) (X5 rfl)) ?_
  refine X2 (S ([40] ++ O3 m.params ++ [41])) (fun t w hb e => by rw [e]; exact H5 (by simp only [List.length_append, List.length_cons, List.length_nil]; omega) (X5 rfl)) ?_
  refine X2 (S m.result) (fun t w hb e => by rw [e]; exact ld hb.sat ha rfl (X5 rfl)) ?_
  rintro t3 t8 t4 t5 t6 t7 t9 w2 hb2 _ _ _ _ _ rfl rfl
  have := hn.1
  refine H5 (by simp only [List.length_append, List.length_cons, List.length_nil]; omega) ?_
  exact h _ _ (hk1.trans hb2.stp))
end Go.Proofs.YtdnfaboigajkhaaGreatDoor

namespace Go.Emb
open Go.RowKit Go.Hm
variable {P : Program} {w w0 w1 w' w'' : World} {K : Value → World → Prop} {σ σ0 σ1 σ' : Q5}
theorem Bl {α : Type} (f : α → α) (e : α) : ∀ l : List α, (l ++ [e]).modify l.length f = l ++ [f e]
  | [] => rfl
  | x :: r => by simp [Bl f e r]
theorem Pl (k : List UInt8) (e : MapEntry) (he : e.key = S k) : ∀ (es : List MapEntry) (i : Nat), Instr.findNow .string (S k) es i = some none → Instr.findNow .string (S k) (es ++ [e]) i = some (some (i + es.length, e.val))
  | [], i, _ => by
    simp [Instr.findNow, he, Instr.sameNow, Lu]
  | x :: r, i, h => by
    simp only [Instr.findNow, List.cons_append] at h ⊢
    split at h
    · cases h
    · rename_i hs
      rw [Pl k e he r (i + 1) h]
      simp; omega
    · cases h
theorem Tq (k : List UInt8) (u : Value) : ∀ (es : List MapEntry) (i j : Nat) (v : Value), Instr.findNow .string (S k) es i = some (some (j, v)) → i ≤ j ∧ j - i < es.length ∧ Instr.findNow .string (S k) (es.modify (j - i) fun e => { e with val := u }) i = some (some (j, u))
  | [], i, j, v, h => by simp [Instr.findNow] at h
  | x :: r, i, j, v, h => by
    simp only [Instr.findNow] at h
    split at h
    · rename_i hs
      cases h
      refine ⟨Nat.le_refl _, by simp, ?_⟩
      simp only [Nat.sub_self, List.modify_zero_cons, Instr.findNow, hs]
    · rename_i hs
      obtain ⟨h1, h2, h3⟩ := Tq k u r (i + 1) j v h
      refine ⟨by omega, by simp; omega, ?_⟩
      rw [show j - i = (j - (i + 1)) + 1 by omega]
      simp only [List.modify_succ_cons, Instr.findNow, hs]
      exact h3
    · cases h
theorem Zs {t kt et : TypeId} [tm : TM P t kt et] (hk : P.underlying kt = some .string) {r : Nat} {es : Array MapEntry} {clock : Nat} {k : List UInt8} {i : Nat} {v : Value} {e : MapEntry} (hw : w.heap[r]? = some (.map es clock))
    (hf : Instr.findNow .string (S k) es.toList 0 = some (some (i, v))) (he : es[i]? = some e) (hek : e.key = S k) :
    (Instr.mapEntry t (.map (some r)) (S k)).run P w = .ok (.tuple #[v, goInt e.born]) { w with heap := w.heap.setIfInBounds r (.map es clock) } := by
  have hg : (getObj r).run P w = .ok (.map es clock) w := by simp [getObj, Sem.run, hw]
  have hstay : (Instr.keyThatStays (S k) (S k)).run P w = .ok (S k) w := by
    simp [Instr.keyThatStays, Instr.sameBits, Lu]
  have hmod : (es.modify i fun e => { e with key := S k }) = es := by
    apply Array.ext'
    apply List.ext_getElem?
    intro j
    simp only [Array.toList_modify, List.getElem?_modify]
    by_cases hij : i = j
    · subst hij
      rw [Array.getElem?_toList, he]
      simp [← hek]
    · cases es.toList[j]? <;> simp [hij]
  have hset : (setObj r (.map es clock)).run P w = .ok () { w with heap := w.heap.setIfInBounds r (.map es clock) } := by
    simp [setObj, Sem.run, hw]
  simp only [Instr.mapEntry, Sem.run_bind, run_underlying tm.h, Result.andThen_ok, Instr.findKey, run_underlying hk, hf, S4 hk, hg, Sem.run_pure]
  simp only [he, Option.map_some, Option.getD_some, hek, hstay, Result.andThen_ok, hmod, hset]
theorem Av {r : Nat} {o : Obj} (h : w.heap[r]? = some o) : ({ w with heap := w.heap.setIfInBounds r o } : World) = w := by
  have : w.heap.setIfInBounds r o = w.heap := by
    apply Array.ext'
    apply List.ext_getElem?
    intro j
    simp only [Array.toList_setIfInBounds, List.getElem?_set]
    by_cases hj : r = j
    · subst hj
      rw [if_pos rfl]
      have := h
      rw [← Array.getElem?_toList] at this
      rw [this, if_pos (by have := (Array.getElem?_eq_some_iff.1 h).1; simpa using this)]
    · rw [if_neg hj]
  rw [this]
theorem Q0P {r : Nat} {o o' : Obj} (h : w.heap[r]? = some o') : Upd w r { w with heap := w.heap.setIfInBounds r o } ∧ ({ w with heap := w.heap.setIfInBounds r o } : World).heap[r]? = some o := by
  have hl := (Array.getElem?_eq_some_iff.1 h).1
  exact ⟨⟨rfl, rfl, rfl, by simp, fun k hk => by simp only [Array.getElem?_setIfInBounds]; rw [if_neg (by omega)]⟩, by simp [Array.getElem?_setIfInBounds, hl]⟩
structure Ent3 (P : Program) (t : TypeId) (r : Nat) (k : List UInt8) (u : Value) (m : List (List UInt8 × Value)) (O0 O1 O2 : Obj) (stamp : Nat) : Prop where
  same : O0 = O2 → O1 = O0
  put : N7 (some O2) (Jo m k u)
  entry : ∀ {w : World} {K : Value → World → Prop}, (w.heap[r]? = some O0 ∨ w.heap[r]? = some O1 ∨ w.heap[r]? = some O2) → (∀ x w', Upd w r w' → (w.heap[r]? = some O0 → w'.heap[r]? = some O1) → (w.heap[r]? ≠ some O0 → w'.heap[r]? = w.heap[r]?) → K (.tuple #[x, I stamp]) w') → mapEntry P t (.map (some r)) (S k) w K
  store : ∀ {w : World} {K : Value → World → Prop}, (w.heap[r]? = some O1 ∨ w.heap[r]? = some O2) → (∀ w', Upd w r w' → w'.heap[r]? = some O2 → K undef w') → entryStore P t (.map (some r)) (I stamp) u w K
theorem Q9Q {t kt et : TypeId} {by_ : Nat} {z : Value} [tm : TM P t kt et] [tz : TZ P et 1 by_ z] (hk : P.underlying kt = some .string) {r : Nat} {m : List (List UInt8 × Value)} (hm : N7 (w.heap[r]?) m) (k : List UInt8) (u : Value) :
    ∃ O0 O1 O2 stamp, w.heap[r]? = some O0 ∧ Ent3 P t r k u m O0 O1 O2 stamp := by
  obtain ⟨es, clock, h1, h2, h3, h4⟩ := hm
  obtain ⟨r', q1, q2, q3, q4⟩ := Eg k es.toList m 0 h2
  -- the array behind it, the place, the stamp
  have fin : ∀ (es1 : Array MapEntry) (clock1 i : Nat) (e1 : MapEntry) (v1 : Value), Instr.findNow .string (S k) es1.toList 0 = some (some (i, v1)) → es1[i]? = some e1 → e1.key = S k → (es1.toList.map (·.born)).Pairwise (· < ·) →
      (Obj.map es clock = .map (es1.modify i fun e => { e with val := u }) clock1 → Obj.map es1 clock1 = Obj.map es clock) → N7 (some (.map (es1.modify i fun e => { e with val := u }) clock1)) (Jo m k u) →
      (∀ {w : World}, w.heap[r]? = some (.map es clock) → ∃ x, (Instr.mapEntry t (.map (some r)) (S k)).run P w = .ok (.tuple #[x, I e1.born]) { w with heap := w.heap.setIfInBounds r (.map es1 clock1) }) →
      ∃ O0 O1 O2 stamp, w.heap[r]? = some O0 ∧ Ent3 P t r k u m O0 O1 O2 stamp := by
    intro es1 clock1 i e1 v1 f1 f2 f3 f4 f5 f6 f7
    obtain ⟨_, hil, f8⟩ := Tq k u es1.toList 0 i v1 f1
    simp only [Nat.sub_zero] at hil f8
    have hil1 : i < es1.size := by simpa using hil
    have f9 : (es1.modify i fun e => { e with val := u })[i]? = some { e1 with val := u } := by
      rw [Array.getElem?_modify, if_pos rfl, f2]; rfl
    have f8' : Instr.findNow .string (S k) (es1.modify i fun e => { e with val := u }).toList 0 = some (some (i, u)) := by
      rw [Array.toList_modify]; exact f8
    have hfind : ∀ (es' : Array MapEntry), es'.toList.map (·.born) = es1.toList.map (·.born) → es'.findIdx? (fun e => (e.born : Int) == e1.born) = some i := by
      intro es' hb
      obtain ⟨le⟩ := es'
      have e0 : (Array.mk le).findIdx? (fun e => (e.born : Int) == e1.born) = le.findIdx? (fun e => (e.born : Int) == e1.born) := List.findIdx?_toArray ..
      rw [e0, List.findIdx?_eq_some_iff_getElem]
      generalize hes' : (Array.mk le) = es' at *
      have hle : le = es'.toList := by rw [← hes']
      subst hle
      have hlen : es'.toList.length = es1.toList.length := by have := congrArg List.length hb; simpa using this
      have hbi : ∀ j (hj : j < es'.toList.length), (es'.toList[j]).born = (es1.toList[j]'(by omega)).born := fun j hj => by
        have h5 : (es'.toList.map (·.born))[j]? = (es1.toList.map (·.born))[j]? := by rw [hb]
        rw [List.getElem?_map, List.getElem?_map, List.getElem?_eq_getElem hj, List.getElem?_eq_getElem (by omega)] at h5
        simpa using h5
      have he1 : es1.toList[i] = e1 := by
        have := f2
        rw [← Array.getElem?_toList, List.getElem?_eq_getElem hil] at this
        simpa using this
      refine ⟨by omega, by rw [hbi i (by omega), he1]; simp, fun j hj => ?_⟩
      have hjl : j < es1.toList.length := by omega
      have := (List.pairwise_iff_getElem.1 f4) j i (by simpa using hjl) (by simpa using hil) hj
      simp only [List.getElem_map] at this
      rw [hbi j (by omega)]
      rw [he1] at this
      simp only [beq_iff_eq]; omega
    have hborn2 : (es1.modify i fun e => { e with val := u }).toList.map (·.born) = es1.toList.map (·.born) := by
      apply List.ext_getElem?
      intro j
      simp only [Array.toList_modify, List.getElem?_map, List.getElem?_modify]
      by_cases hij : i = j <;> cases es1.toList[j]? <;> simp [hij]
    have hmm : (es1.modify i fun e => { e with val := u }).modify i (fun e => { e with val := u }) = es1.modify i fun e => { e with val := u } := by
      apply Array.ext'
      apply List.ext_getElem?
      intro j
      simp only [Array.toList_modify, List.getElem?_modify]
      by_cases hij : i = j <;> cases es1.toList[j]? <;> simp [hij]
    have hstore : ∀ (es' : Array MapEntry) {w : World}, es'.toList.map (·.born) = es1.toList.map (·.born) → w.heap[r]? = some (.map es' clock1) → (Instr.entryStore t (.map (some r)) (I e1.born) u).run P w = .ok () { w with heap := w.heap.setIfInBounds r (.map (es'.modify i fun e => { e with val := u }) clock1) } := by
      intro es' w hb hw
      have hg : (getObj r).run P w = .ok (.map es' clock1) w := by simp [getObj, Sem.run, hw]
      have hset : ∀ o, (setObj r (.map o clock1)).run P w = .ok () { w with heap := w.heap.setIfInBounds r (.map o clock1) } := by
        intro o; simp [setObj, Sem.run, hw]
      simp only [Instr.entryStore, Sem.run_bind, hg, Result.andThen_ok, asInt, Sem.run_pure, asIntOf, hfind es' hb, hset]
    refine ⟨.map es clock, .map es1 clock1, .map (es1.modify i fun e => { e with val := u }) clock1, e1.born, h1, f5, f6, ?_, ?_⟩
    · intro w K hw hK
      unfold mapEntry
      rcases hw with hw | hw | hw
      · obtain ⟨x, hx⟩ := f7 hw
        rw [X9 hx]
        obtain ⟨u1, u2⟩ := Q0P (o := .map es1 clock1) hw
        exact hK x _ u1 (fun _ => u2) fun h => absurd hw h
      · have := Zs (P := P) (t := t) hk hw f1 f2 f3
        rw [Av hw] at this
        rw [X9 this]
        refine hK _ w ⟨rfl, rfl, rfl, rfl, fun _ _ => rfl⟩ (fun h0 => ?_) fun _ => rfl
        exact hw
      · have := Zs (P := P) (t := t) hk hw f8' f9 f3
        rw [Av hw] at this
        rw [X9 this]
        refine hK _ w ⟨rfl, rfl, rfl, rfl, fun _ _ => rfl⟩ (fun h0 => ?_) fun _ => rfl
        rw [h0] at hw
        cases hw
        rw [h0, f5 rfl]
    · intro w K hw hK
      unfold entryStore
      rcases hw with hw | hw
      · rw [Ln (hstore es1 rfl hw)]
        obtain ⟨u1, u2⟩ := Q0P (o := .map (es1.modify i fun e => { e with val := u }) clock1) hw
        exact hK _ u1 u2
      · have := hstore _ hborn2 hw
        rw [hmm, Av hw] at this
        rw [Ln this]
        exact hK _ ⟨rfl, rfl, rfl, rfl, fun _ _ => rfl⟩ hw
  cases r' with
  | none =>
    obtain ⟨i, hi, hsz, hby, hzero⟩ := tz.info
    have hz : ∀ w : World, (zeroValue et).run P w = .ok z w := fun w => Xb tz w
    refine fin (es.push { key := S k, val := z, born := clock }) (clock + 1) es.size { key := S k, val := z, born := clock } z ?_ (by simp) rfl ?_ ?_ ?_ ?_
    · have := Pl k { key := S k, val := z, born := clock } rfl es.toList 0 q1
      simpa using this
    · simp only [Array.toList_push, List.map_append, List.map_cons, List.map_nil]
      rw [List.pairwise_append]
      refine ⟨h3, by simp, ?_⟩
      intro a ha b hb
      simp at hb; subst hb
      obtain ⟨e, he, rfl⟩ := List.mem_map.1 ha
      exact h4 e he
    · intro e
      injection e with e1 e2
      omega
    · refine ⟨_, _, rfl, ?_, ?_, ?_⟩
      · rw [q4 rfl]
        simp only [Array.toList_modify, Array.toList_push]
        rw [← Array.length_toList, Bl]
        simp [h2]
      · have : ((es.push { key := S k, val := z, born := clock }).modify es.size fun e => { e with val := u }).toList.map (·.born) = es.toList.map (·.born) ++ [clock] := by
          simp only [Array.toList_modify, Array.toList_push]
          rw [← Array.length_toList, Bl]
          simp
        rw [this, List.pairwise_append]
        refine ⟨h3, by simp, ?_⟩
        intro a ha b hb
        simp at hb; subst hb
        obtain ⟨e, he, rfl⟩ := List.mem_map.1 ha
        exact h4 e he
      · intro e he
        simp only [Array.toList_modify, Array.toList_push] at he
        rw [← Array.length_toList, Bl] at he
        rcases List.mem_append.1 he with he | he
        · have := h4 e he; omega
        · simp at he; subst he; simp
    · intro w hw
      have hg : (getObj r).run P w = .ok (.map es clock) w := by simp [getObj, Sem.run, hw]
      have hset : ∀ o c, (setObj r (.map o c)).run P w = .ok () { w with heap := w.heap.setIfInBounds r (.map o c) } := by
        intro o c; simp [setObj, Sem.run, hw]
      refine ⟨z, ?_⟩
      simp only [Instr.mapEntry, Sem.run_bind, run_underlying tm.h, Result.andThen_ok, Instr.findKey, run_underlying hk, q1, S4 hk, hg, Sem.run_pure, hz, hset]
      rfl
  | some p =>
    obtain ⟨j, v⟩ := p
    obtain ⟨z1, z2, z3⟩ := q3 j v rfl
    obtain ⟨e, e1, e2⟩ := z2
    simp only [Nat.sub_zero] at e1 z3
    have e1' : es[j]? = some e := by rw [← Array.getElem?_toList]; exact e1
    refine fin es clock j e v q1 e1' e2 h3 (fun _ => rfl) ?_ fun hw => ⟨v, Zs hk hw q1 e1' e2⟩
    refine ⟨_, _, rfl, ?_, ?_, ?_⟩
    · have := z3 u
      rw [← this, Array.toList_modify]
      congr 1
      apply List.ext_getElem?
      intro n
      simp only [List.getElem?_modify]
      by_cases hjn : j = n
      · subst hjn; rw [e1]; simp [e2]
      · simp [hjn]
    · have : (es.modify j fun e => { e with val := u }).toList.map (·.born) = es.toList.map (·.born) := by
        apply List.ext_getElem?
        intro n
        simp only [Array.toList_modify, List.getElem?_map, List.getElem?_modify]
        by_cases hjn : j = n <;> cases es.toList[n]? <;> simp [hjn]
      rw [this]; exact h3
    · intro x hx
      have : x.born ∈ (es.modify j fun e => { e with val := u }).toList.map (·.born) := List.mem_map.2 ⟨x, hx, rfl⟩
      have hb : (es.modify j fun e => { e with val := u }).toList.map (·.born) = es.toList.map (·.born) := by
        apply List.ext_getElem?
        intro n
        simp only [Array.toList_modify, List.getElem?_map, List.getElem?_modify]
        by_cases hjn : j = n <;> cases es.toList[n]? <;> simp [hjn]
      rw [hb] at this
      obtain ⟨y, hy, e⟩ := List.mem_map.1 this
      rw [← e]; exact h4 y hy
end Go.Emb

namespace Go.Hm
open Go.Kd Go.Emb
abbrev H1 := List (X0 × X0)
def E7 : H1 → X0 → Option X0
  | [], _ => none
  | p :: r, k => if p.1 = k then some p.2 else E7 r k
def On : H1 → X0 → X0 → H1
  | [], k, v => [(k, v)]
  | p :: r, k, v => if p.1 = k then (k, v) :: r else p :: On r k v
def C7 (m : H1) : List (List UInt8 × Value) := m.map fun p => (p.1, S p.2)
theorem Q6g (m : H1) (k : X0) : E6 (C7 m) k = (E7 m k).map S := by
  induction m with
  | nil => rfl
  | cons p r ih =>
    simp only [C7, List.map_cons, E6, E7]
    split
    · rfl
    · exact ih
theorem Q33 (m : H1) (k v : X0) : Jo (C7 m) k (S v) = C7 (On m k v) := by
  induction m with
  | nil => rfl
  | cons p r ih =>
    simp only [C7, List.map_cons, Jo, On]
    split
    · rfl
    · rw [List.map_cons]; congr 1
theorem Iv (m : H1) (k v n : X0) : E7 (On m k v) n = if k = n then some v else E7 m n := by
  induction m with
  | nil => simp [On, E7]
  | cons p r ih =>
    simp only [On]
    by_cases h : p.1 = k
    · rw [if_pos h]
      simp only [E7]
      by_cases h2 : k = n
      · simp [h2]
      · rw [if_neg h2, if_neg h2, if_neg (by rw [h]; exact h2)]
    · rw [if_neg h]
      simp only [E7]
      by_cases h2 : p.1 = n
      · rw [if_pos h2, if_pos h2, if_neg (by intro e; exact h (h2.trans e.symm))]
      · rw [if_neg h2, if_neg h2]; exact ih
def Zp (d : X0) (s : H1 × H1) (m : Hm.Met) : Bool × (H1 × H1) :=
  ((match E7 s.1 m.name with | some x => !decide (x = K1 m) | none => false), (On s.1 m.name (K1 m), On s.2 m.name d))
end Go.Hm
namespace Go.Emb
open Go.RowKit Go.Hm
theorem N7.of_below {w w' : World} {r : Nat} {m : List (List UInt8 × Value)} (h : N7 (w.heap[r]?) m) (hb : Below w.heap.size w w') : N7 (w'.heap[r]?) m := by
  obtain ⟨es, clock, h1, h2⟩ := h
  rw [hb.block r (Array.getElem?_eq_some_iff.1 h1).1]
  exact ⟨es, clock, h1, h2⟩
theorem Q6j {P : Program} {w : World} {K : Value → World → Prop} {t kt et : TypeId} {sz by_ : Nat} {z : Value} [tm : TM P t kt et] [tz : TZ P et sz by_ z] (hk : P.underlying kt = some .string) {r : Nat} {m : List (List UInt8 × Value)} (hm : N7 (w.heap[r]?) m) (k : List UInt8)
    (h : K (.tuple #[(E6 m k).getD z, .bool (E6 m k).isSome]) w) : lookup P t (.map (some r)) (S k) true w K := by
  rw [Sw hk hm k]; cases e : E6 m k <;> rw [e] at h <;> exact h
theorem N7.lt {w : World} {r : Nat} {m : List (List UInt8 × Value)} (h : N7 (w.heap[r]?) m) : r < w.heap.size := by
  obtain ⟨es, clock, h1, h2⟩ := h
  exact (Array.getElem?_eq_some_iff.1 h1).1
end Go.Emb
namespace Go.Proofs.YtdnfaboigajkhaaGreatDoor
open Go.Emb Go.RowKit Go.Kd Go.Hm
variable {w : World} {K : Value → World → Prop} {σ : Q5} {v : Value} {l : List Cla}
theorem Q9v {m : Hm.Met} {cs ds : List Value} {pa pb q : Addr} {r1 r2 : Nat} {s : H1 × H1} {d : X0} (hs : X6 w σ) (hm : M9 σ m cs) (hsm : SmM m) (hn : NmM m) (hpa : U0 σ pa [.map (some r1)]) (hpb : U0 σ pb [.map (some r2)]) (hq : U0 σ q (S d :: ds))
    (hr1 : σ r1 = none) (hr2 : σ r2 = none) (hne : r1 ≠ r2) (hM1 : N7 (w.heap[r1]?) (C7 s.1)) (hM2 : N7 (w.heap[r2]?) (C7 s.2))
    (h : ∀ w', Kpt (fun k => k = r1 ∨ k = r2) w w' → N7 (w'.heap[r1]?) (C7 (Zp d s m).2.1) → N7 (w'.heap[r2]?) (C7 (Zp d s m).2.2) → K (.bool (Zp d s m).1) w') :
    Q1 P F.aA [.agg cs.toArray, .pointer (some pa), .pointer (some q), .pointer (some pb)] w K := Mw (by
  have hm0 := hm
  obtain ⟨pv, cv, hv, rfl, g1, g2, g3, g4, g5, g6⟩ := hm
  unfold Qt
  refine Z4 hs fun a w1 σ1 hk1 ha => ?_
  have hl1 := hM1.lt
  have hl2 := hM2.lt
  have hM1 := hM1.of_below hk1.bel
  have hM2 := hM2.of_below hk1.bel
  have hr1' : σ1 r1 = none := (hk1.old r1 hl1).trans hr1
  have hr2' : σ1 r2 = none := (hk1.old r2 hl2).trans hr2
  refine X8 hk1.sat (hpa.up hk1) rfl ?_
  rw [fa]
  refine ld hk1.sat ha rfl ?_
  refine Q6j X7 hM1 m.name ?_
  have hlk : (.tuple #[(E6 (C7 s.1) m.name).getD (.string ⟨#[]⟩), .bool (E6 (C7 s.1) m.name).isSome] : Value) = .tuple #[S ((E7 s.1 m.name).getD []), .bool (E7 s.1 m.name).isSome] := by
    rw [Q6g]; cases E7 s.1 m.name <;> rfl
  rw [hlk]
  refine M5 (vs := [_, _]) rfl ?_
  refine M5 (vs := [_, _]) rfl ?_
  obtain ⟨O0, O1, O2, stamp, hO0, E⟩ := Q9Q (P := P) (t := T.o) X7 hM1 m.name (S (K1 m))
  have hl11 := hM1.lt
  refine Q0b (fun w2 w3 => Kpt (fun k => k = r1) w2 w3 ∧ (w3.heap[r1]? = w2.heap[r1]? ∨ (w2.heap[r1]? = some O0 ∧ O0 ≠ O2 ∧ w3.heap[r1]? = some O1) ∨ w3.heap[r1]? = some O2))
    (fun w2 => Kpt (fun k => k = r1) w1 w2 ∧ X6 w2 σ1 ∧ (w2.heap[r1]? = some O0 ∨ w2.heap[r1]? = some O1 ∨ w2.heap[r1]? = some O2))
    ⟨.of_below (Below.refl _ _).drew, hk1.sat.below (Below.refl _ _).drew, .inl hO0⟩ (fun w2 w3 hb ht => ⟨hb.1.trans ht.1, ht.1.sat hb.2.1 (fun k hk => hk ▸ hr1'), by
      rcases ht.2 with e | ⟨_, _, e⟩ | e
      · rw [e]; exact hb.2.2
      · exact .inr (.inl e)
      · exact .inr (.inr e)⟩) ?_
  refine X2 (.pointer (some (a.add 0))) (fun w hb => by rw [fa]; exact ⟨⟨Kpt.refl, .inl rfl⟩, rfl⟩) ?_
  refine X2 (.pointer (some (a.add 0))) (fun w hb => by rw [fa]; exact ⟨⟨Kpt.refl, .inl rfl⟩, rfl⟩) ?_
  refine X2 (.pointer (some (q.add 0))) (fun w hb => by rw [fa]; exact ⟨⟨Kpt.refl, .inl rfl⟩, rfl⟩) ?_
  refine X2 (.map (some r1)) (fun w hb => X8 hb.2.1 (hpa.up hk1) rfl ⟨⟨Kpt.refl, .inl rfl⟩, rfl⟩) ?_
  refine X2 (S m.name) (fun t w hb e => by rw [e]; exact ld hb.2.1 ha rfl ⟨⟨Kpt.refl, .inl rfl⟩, rfl⟩) ?_
  refine X2 (.map (some r2)) (fun w hb => X8 hb.2.1 (hpb.up hk1) rfl ⟨⟨Kpt.refl, .inl rfl⟩, rfl⟩) ?_
  refine X2 (S m.name) (fun t w hb e => by rw [e]; exact ld hb.2.1 ha rfl ⟨⟨Kpt.refl, .inl rfl⟩, rfl⟩) ?_
  refine X2 (.agg [S m.name, pv, S m.result, .bool m.abs, I m.locals, cv, hv].toArray) (fun w hb => Y3 hb.2.1 ha rfl ⟨⟨Kpt.refl, .inl rfl⟩, rfl⟩) ?_
  refine X2 (S (K1 m)) (fun t w2 hb e => by
    rw [e]
    exact Q6o hb.2.1 (S6 hm0 ⟨hk1.le⟩) hsm hn fun w3 σ3 hk3 => ⟨⟨.of_below hk3.bel, .inl (hk3.bel.block r1 (Nat.lt_of_lt_of_le hl11 hb.1.size))⟩, rfl⟩) ?_
  refine X2 (S d) (fun t w hb e => by rw [e]; exact ld hb.2.1 (hq.up hk1) rfl ⟨⟨Kpt.refl, .inl rfl⟩, rfl⟩) ?_
  have st : ∀ {w2 w3 : World}, (w2.heap[r1]? = some O1 ∨ w2.heap[r1]? = some O2) → (w3.heap[r1]? = w2.heap[r1]? ∨ (w2.heap[r1]? = some O0 ∧ O0 ≠ O2 ∧ w3.heap[r1]? = some O1) ∨ w3.heap[r1]? = some O2) → (w3.heap[r1]? = some O1 ∨ w3.heap[r1]? = some O2) := by
    intro w2 w3 h1 h2
    rcases h2 with e | ⟨_, _, e⟩ | e
    · rw [e]; exact h1
    · exact .inl e
    · exact .inr e
  refine O4 (fun u w2 => (∃ x, u = .tuple #[x, I stamp]) ∧ (w2.heap[r1]? = some O1 ∨ w2.heap[r1]? = some O2)) (fun u w2 w3 h1 ht => ⟨h1.1, st h1.2 ht.2⟩) (fun t15 t17 w2 hb e1 e2 => ?_) ?_
  · rw [e1, e2]
    refine E.entry hb.2.2 fun x w3 hu3 he0 he1 => ?_
    by_cases h0 : w2.heap[r1]? = some O0
    · have h1 := he0 h0
      refine ⟨⟨Kpt.of_upd hu3 rfl, ?_⟩, ⟨x, rfl⟩, .inl h1⟩
      by_cases h02 : O0 = O2
      · left; rw [h1, h0, E.same h02]
      · exact .inr (.inl ⟨h0, h02, h1⟩)
    · have h1 := he1 h0
      refine ⟨⟨Kpt.of_upd hu3 rfl, .inl h1⟩, ⟨x, rfl⟩, ?_⟩
      rw [h1]; exact hb.2.2.resolve_left h0
  refine O4 (fun u w2 => u = I stamp ∧ (w2.heap[r1]? = some O1 ∨ w2.heap[r1]? = some O2)) (fun u w2 w3 h1 ht => ⟨h1.1, st h1.2 ht.2⟩) (fun t w2 hb e => ?_) ?_
  · obtain ⟨⟨x, rfl⟩, h1⟩ := e
    exact M5 (vs := [_, _]) rfl ⟨⟨Kpt.refl, .inl rfl⟩, rfl, h1⟩
  refine O4 (fun _ w2 => w2.heap[r1]? = some O2) (fun u w2 w3 h1 ht => ?_) (fun t15 t26 t22 w2 hb e1 e2 e3 => ?_) ?_
  · rcases ht.2 with e | ⟨e, h02, _⟩ | e
    · exact e.trans h1
    · rw [h1] at e; cases e; exact absurd rfl h02
    · exact e
  · rw [e1, e3, e2.1]
    refine E.store e2.2 fun w3 hu3 h3 => ⟨⟨Kpt.of_upd hu3 rfl, .inr (.inr h3)⟩, h3⟩
  rintro t16 t19 t23 t15 t17 t18 t20 t21 t22 t24 t25 t26 u12 w2 hb2 _ _ _ _ _ rfl rfl _ _ rfl _ _ hO2
  have hP1 : N7 (w2.heap[r1]?) (C7 (On s.1 m.name (K1 m))) := by
    rw [hO2, ← Q33]; exact E.put
  have hP2 : N7 (w2.heap[r2]?) (C7 s.2) := by
    rw [hb2.1.block r2 hM2.lt fun e => hne e.symm]; exact hM2
  refine Bn X7 ⟨hr2', hP2⟩ m.name (S d) fun w3 hu3 hm3 => ?_
  have hP3 : N7 (w3.heap[r2]?) (C7 (On s.2 m.name d)) := by rw [← Q33]; exact hm3.2
  have hP13 : N7 (w3.heap[r1]?) (C7 (On s.1 m.name (K1 m))) := by rw [hu3.block r1 hne]; exact hP1
  have hk3 : Kpt (fun k => k = r1 ∨ k = r2) w w3 := ((Kpt.of_below hk1.bel).trans (hb2.1.mono fun k _ h => .inl h)).trans (Kpt.of_upd hu3 (.inr rfl))
  have hs3 : X6 w3 σ1 := (Kpt.of_upd (D := fun k => k = r2) hu3 rfl).sat hb2.2.1 fun k hk => hk ▸ hr2'
  unfold Zp at h
  cases ho : E7 s.1 m.name with
  | none =>
    rw [ho] at h
    simp only [Option.isSome_none, ↓Mm, Mm, ↓Mp, Mp, Mb, reduceIte]
    exact h w3 hk3 hP13 hP3
  | some x =>
    rw [ho] at h
    simp only [Option.isSome_some, Option.getD_some, ↓Mm, Mm, ↓Mp, Mp, Mb, reduceIte]
    refine Y3 hs3 ha rfl ?_
    refine Q6o hs3 (S6 hm0 ⟨hk1.le⟩) hsm hn fun w4 σ4 hk4 => ?_
    simp only [↓Mm, Mm, ↓Mp, Mp, Mb, reduceIte]
    exact h w4 (hk3.trans (Kpt.of_below hk4.bel)) (hP13.of_below hk4.bel) (hP3.of_below hk4.bel))
end Go.Proofs.YtdnfaboigajkhaaGreatDoor

namespace Go.Hm
open Go.Kd Go.Emb
def Ow (s : H1 × H1) (c : Cla) : Bool × (H1 × H1) := ((V0 (Zp c.name) s c.methods 0).1.isSome, (V0 (Zp c.name) s c.methods 0).2)
def Nn (ms : List Hm.Met) : Prop := ∃ x ∈ ms, ∃ y ∈ ms, x.name = y.name ∧ K1 x ≠ K1 y
theorem Q1B (ms : List Hm.Met) : Uw ms = true ↔ Nn ms := by
  simp [Uw, Nn]
structure Gd (pre : List Hm.Met) (s : H1 × H1) : Prop where
  a : ∀ m ∈ pre, E7 s.1 m.name = some (K1 m)
  b : ∀ k x, E7 s.1 k = some x → ∃ m ∈ pre, m.name = k ∧ K1 m = x
  c : ∀ k, (E7 s.2 k).isSome = true ↔ ∃ m ∈ pre, m.name = k
theorem Gd.no {pre : List Hm.Met} {s : H1 × H1} (h : Gd pre s) : ¬ Nn pre := by
  rintro ⟨x, hx, y, hy, e1, e2⟩
  have h1 := h.a x hx
  have h2 := h.a y hy
  rw [e1, h2] at h1
  exact e2 (Option.some.inj h1).symm
theorem Gd.step {pre : List Hm.Met} {s : H1 × H1} (h : Gd pre s) (d : X0) (m : Hm.Met) : ((Zp d s m).1 = true → Nn (pre ++ [m])) ∧ ((Zp d s m).1 = false → Gd (pre ++ [m]) (Zp d s m).2) := by
  unfold Zp
  constructor
  · intro hf
    cases ho : E7 s.1 m.name with
    | none => rw [ho] at hf; cases hf
    | some x =>
      rw [ho] at hf
      obtain ⟨y, hy, e1, e2⟩ := h.b _ _ ho
      exact ⟨y, by simp [hy], m, by simp, e1, by rw [e2]; simpa using hf⟩
  · intro hf
    have hsame : ∀ x, E7 s.1 m.name = some x → x = K1 m := fun x hx => by rw [hx] at hf; simpa using hf
    refine ⟨fun y hy => ?_, fun k x hx => ?_, fun k => ?_⟩
    · simp only [Iv]
      rcases List.mem_append.1 hy with hy | hy
      · have := h.a y hy
        by_cases e : m.name = y.name
        · rw [if_pos e]; congr 1; exact (hsame _ (by rw [e]; exact this)).symm
        · rw [if_neg e]; exact this
      · simp at hy; subst hy; simp
    · simp only [Iv] at hx
      by_cases e : m.name = k
      · rw [if_pos e] at hx; cases hx; exact ⟨m, by simp, e, rfl⟩
      · rw [if_neg e] at hx
        obtain ⟨y, hy, e1⟩ := h.b _ _ hx
        exact ⟨y, by simp [hy], e1⟩
    · simp only [Iv]
      by_cases e : m.name = k
      · rw [if_pos e]; exact ⟨fun _ => ⟨m, by simp, e⟩, fun _ => rfl⟩
      · rw [if_neg e, h.c k]
        constructor
        · rintro ⟨y, hy, e1⟩; exact ⟨y, by simp [hy], e1⟩
        · rintro ⟨y, hy, e1⟩
          rcases List.mem_append.1 hy with hy | hy
          · exact ⟨y, hy, e1⟩
          · simp at hy; subst hy; exact absurd e1 e
theorem Nn.mono {a b : List Hm.Met} (h : Nn a) (hs : ∀ x ∈ a, x ∈ b) : Nn b := by
  obtain ⟨x, hx, y, hy, e⟩ := h
  exact ⟨x, hs x hx, y, hs y hy, e⟩
theorem Q0A (d : X0) : ∀ (ms pre : List Hm.Met) (s : H1 × H1) (i : Nat), Gd pre s → ((V0 (Zp d) s ms i).1.isSome = true → Nn (pre ++ ms)) ∧ ((V0 (Zp d) s ms i).1.isSome = false → Gd (pre ++ ms) (V0 (Zp d) s ms i).2)
  | [], pre, s, i, h => by simpa [V0] using h
  | m :: r, pre, s, i, h => by
    obtain ⟨h1, h2⟩ := h.step d m
    simp only [V0]
    cases hf : (Zp d s m).1 with
    | true =>
      simp only [if_true, Option.isSome_some]
      exact ⟨fun _ => (h1 hf).mono fun x hx => by simp at hx ⊢; rcases hx with h | h <;> simp [h], fun e => by cases e⟩
    | false =>
      simp only [Bool.false_eq_true, if_false]
      have := Q0A d r (pre ++ [m]) (Zp d s m).2 (i + 1) (h2 hf)
      rw [show pre ++ m :: r = (pre ++ [m]) ++ r by simp]
      exact this
theorem Q0B : ∀ (cs : List Cla) (pre : List Hm.Met) (s : H1 × H1) (i : Nat), Gd pre s → ((V0 Ow s cs i).1.isSome = true → Nn (pre ++ cs.flatMap (·.methods))) ∧ ((V0 Ow s cs i).1.isSome = false → Gd (pre ++ cs.flatMap (·.methods)) (V0 Ow s cs i).2)
  | [], pre, s, i, h => by simpa [V0] using h
  | c :: r, pre, s, i, h => by
    obtain ⟨h1, h2⟩ := Q0A c.name c.methods pre s 0 h
    simp only [V0]
    cases hf : (Ow s c).1 with
    | true =>
      simp only [if_true, Option.isSome_some]
      exact ⟨fun _ => (h1 hf).mono (by simp; intro x hx; rcases hx with hx | hx; exact .inl hx; exact .inr (.inl hx)), fun e => by cases e⟩
    | false =>
      simp only [Bool.false_eq_true, if_false]
      have := Q0B r (pre ++ c.methods) (Ow s c).2 (i + 1) (h2 hf)
      rw [List.flatMap_cons, ← List.append_assoc]
      exact this
theorem Q8K : Gd [] ([], []) := ⟨by simp, by simp [E7], by simp [E7]⟩
theorem Q52 (l : List Cla) (n : X0) : allMets l n = (Up l n).flatMap (·.methods) := by
  unfold allMets Up
  induction visits l n with
  | nil => rfl
  | cons u r ih =>
    rw [List.flatMap_cons, List.filterMap_cons]
    cases hu : lk l u with
    | none => simpa [hu] using ih
    | some c => simp only [Option.map_some, Option.getD_some, List.flatMap_cons]; rw [ih]
end Go.Hm
namespace Go.Emb
open Go.RowKit Go.Hm
variable {P : Program} {w w0 w1 w' w'' : World} {K : Value → World → Prop} {σ σ0 σ1 σ' : Q5}
def It (σ : Q5) (w : World) (b r : Nat) (es : Array MapEntry) (clock : Nat) (seen : Array Nat) : Prop := σ b = none ∧ ∃ c0, clock ≤ c0 ∧ w.heap[b]? = some (.mapIter (some r) clock seen c0)
theorem It.step {b r : Nat} {es : Array MapEntry} {clock : Nat} {seen : Array Nat} (h : It σ w b r es clock seen) (k : Stp w σ w' σ') : It σ' w' b r es clock seen := by
  obtain ⟨h1, c0, h2, h3⟩ := h
  have hl := (Array.getElem?_eq_some_iff.1 h3).1
  exact ⟨(k.old b hl).trans h1, c0, h2, (k.bel.block b hl).trans h3⟩
theorem Q9l {t kt et : TypeId} [tm : TM P t kt et] {r : Nat} {es : Array MapEntry} {clock : Nat} (hs : X6 w σ) (hm : w.heap[r]? = some (.map es clock))
    (h : ∀ b w' σ', w.heap.size ≤ b → Stp w σ w' σ' → It σ' w' b r es clock #[] → K (.pointer (some ⟨b, 0, none⟩)) w') : rng P t (.map (some r)) w K := by
  unfold rng
  have hg : (getObj r).run P w = .ok (.map es clock) w := by simp [getObj, Sem.run, hm]
  rw [X9 (v := .pointer (some ⟨w.heap.size, 0, none⟩)) (w' := w.alloc (.mapIter (some r) clock #[] clock)) (by
    simp only [Instr.range, Sem.run_bind, run_underlying tm.h, Result.andThen_ok, hg, Sem.run_pure]
    simp)]
  exact h _ _ _ (Nat.le_refl _) (Stp.own hs _) ⟨hs.none (Nat.le_refl _), clock, Nat.le_refl _, heap_alloc_new w _⟩
theorem Q9M {t : TypeId} {b r : Nat} {es : Array MapEntry} {clock : Nat} {seen : Array Nat} (hi : It σ w b r es clock seen) (hm : w.heap[r]? = some (.map es clock)) (hold : ∀ x ∈ es.toList, x.born < clock)
    (h0 : (∀ e ∈ es.toList, e.born ∈ seen) → K (.tuple #[.bool false]) w)
    (h1 : ∀ e w', e ∈ es.toList → e.born ∉ seen → Kpt (fun k => k = b) w w' → It σ w' b r es clock (seen.push e.born) → w'.heap[b]? = some (.mapIter (some r) clock (seen.push e.born) clock) → K (.tuple #[.bool true, e.key, e.val]) w') : N6 P (.pointer (some ⟨b, 0, none⟩)) false t w K := by
  obtain ⟨hb, c0, hc, hh⟩ := hi
  unfold N6
  rcases run_next_at (P := P) w t b r clock c0 seen es clock hh hm hold hc with ⟨hz, hrun⟩ | ⟨e, he, w1, hw1, hrun⟩
  · rw [X9 hrun]
    refine h0 fun e he => Classical.byContradiction fun hn => ?_
    have : e ∈ (leftOf es seen).toList := by
      unfold leftOf
      simp only [Array.toList_filter, List.mem_filter]
      exact ⟨he, by simpa using hn⟩
    have hl : (leftOf es seen).toList.length = 0 := by simpa using hz
    rw [List.eq_nil_of_length_eq_zero hl] at this
    cases this
  · rw [X9 hrun]
    have he' : e ∈ es.toList ∧ e.born ∉ seen := by
      unfold leftOf at he
      simp only [Array.toList_filter, List.mem_filter] at he
      exact ⟨he.1, by simpa using he.2⟩
    have hh1 : w1.heap[b]? = some (.mapIter (some r) clock seen c0) := by rcases hw1 with rfl | rfl <;> exact hh
    obtain ⟨u1, u2⟩ := Q0P (w := w1) (o := .mapIter (some r) clock (seen.push e.born) clock) hh1
    refine h1 e _ he'.1 he'.2 ?_ ⟨hb, clock, Nat.le_refl _, u2⟩ u2
    have k1 : Kpt (fun k => k = b) w w1 := by
      rcases hw1 with rfl | rfl
      · exact Kpt.refl
      · exact .of_below (Below.refl _ _).drew
    exact k1.trans (Kpt.of_upd u1 rfl)
theorem Q90 {b r : Nat} {es : Array MapEntry} {clock : Nat} {seen : Array Nat} {e : MapEntry} (hh : w.heap[b]? = some (.mapIter (some r) clock (seen.push e.born) clock)) (hm : w.heap[r]? = some (.map es clock)) (he : e ∈ es.toList) (hn : (es.toList.map (·.born)).Nodup)
    (h : K (.tuple #[e.key, e.val]) w) : Q4W P (.pointer (some ⟨b, 0, none⟩)) w K := by
  unfold Q4W
  rw [X9 (run_entry_at w b r clock seen es clock e hh hm he hn)]
  exact h
end Go.Emb
namespace Go.Proofs.YtdnfaboigajkhaaGreatDoor
open Go.Emb Go.RowKit Go.Kd Go.Hm
variable {w : World} {K : Value → World → Prop} {σ : Q5} {v : Value} {l : List Cla}
theorem Yv (o : Option Nat) : decide ((0 : Int) ≤ L6 o) = o.isSome := by
  cases o with
  | none => rfl
  | some i => simp [L6]
theorem Q0Z {q : Addr} {s : X0} (hs : X6 w σ) (ht : Tab σ v l) (hq : U0 σ q [v]) (hl : s.length ≤ W3) (h : ∀ w' σ', Stp w σ w' σ' → K (.bool (thereM l s)) w') : Z7 P (.func (.func F.ae) #[] #[.pointer (some q)]) [S s] w K := J4 (Oa (by
  unfold Yr
  unfold thereM at h
  refine Nd ?_
  by_cases hn : s = Yw
  · have e : decide (s = [110, 117, 108, 108]) = true := decide_eq_true hn
    simp only [e, decide_eq_true hn, ↓Mm, Mm, ↓Mp, Mp, Mb, reduceIte] at h ⊢
    exact h _ _ (Stp.refl hs)
  · have e : decide (s = [110, 117, 108, 108]) = false := decide_eq_false hn
    simp only [e, decide_eq_false hn, ↓Mm, Mm, ↓Mp, Mp, Mb, reduceIte] at h ⊢
    refine X8 hs hq rfl ?_
    refine Ii hs ht hl fun w1 σ1 hk1 => ?_
    (try simp only [↓Mm, Mm, ↓Mp, Mp, Mb, reduceIte])
    exact h _ _ hk1))
theorem Q4X {q p : Addr} {s : X0} (hs : X6 w σ) (ht : Tab σ v l) (hq : U0 σ q [v]) (hp : U0 σ p [.func (.func F.ae) #[] #[.pointer (some q)]]) (hl : s.length ≤ W3) (h : ∀ w' σ', Stp w σ w' σ' → K (.bool (!thereM l s)) w') : Z7 P (.func (.func F.af) #[] #[.pointer (some p)]) [S s] w K := J4 (Dk (by
  unfold Yk
  refine X8 hs hp rfl ?_
  refine Q0Z hs ht hq hl fun w1 σ1 hk1 => ?_
  refine U3 ?_
  exact h _ _ hk1))
theorem Q42 {c : Cla} {cs : List Value} {pa pb : Addr} {r1 r2 : Nat} {s : H1 × H1} (hs : X6 w σ) (hc : U7 σ c cs) (hsm : G3 c) (hn : Nm c) (hpa : U0 σ pa [.map (some r1)]) (hpb : U0 σ pb [.map (some r2)])
    (hr1 : σ r1 = none) (hr2 : σ r2 = none) (hne : r1 ≠ r2) (hM1 : N7 (w.heap[r1]?) (C7 s.1)) (hM2 : N7 (w.heap[r2]?) (C7 s.2))
    (h : ∀ w', Kpt (fun k => k = r1 ∨ k = r2) w w' → N7 (w'.heap[r1]?) (C7 (Ow s c).2.1) ∧ N7 (w'.heap[r2]?) (C7 (Ow s c).2.2) → K (.bool (Ow s c).1) w') :
    Z7 P (.func (.func F.aI) #[] #[.pointer (some pa), .pointer (some pb)]) [.agg cs.toArray] w K := J4 (Di (by
  obtain ⟨lv, fv, mv, rfl, g1, g2, g3, g4, g5⟩ := hc
  unfold Yf
  refine Z4 hs fun q w1 σ1 hk1 hq => ?_
  rw [fa]
  refine ld hk1.sat hq rfl ?_
  rw [Xa]
  have hl1 := hM1.lt
  have hl2 := hM2.lt
  have hr1' : σ1 r1 = none := (hk1.old r1 hl1).trans hr1
  have hr2' : σ1 r2 = none := (hk1.old r2 hl2).trans hr2
  refine Xk (Zp c.name) s (fun s w' => X6 w' σ1 ∧ N7 (w'.heap[r1]?) (C7 s.1) ∧ N7 (w'.heap[r2]?) (C7 s.2)) (fun k => k = r1 ∨ k = r2) (fun _ _ h => h.1) ⟨hk1.sat, hM1.of_below hk1.bel, hM2.of_below hk1.bel⟩ (g3.up hk1)
    (fun s x cs w2 K hx hk2 hi hr hlen hK => J4 ?_) fun w2 hk2 hi => ?_
  · refine Q9v (s := s) (d := c.name) hi.1 hr (hsm.2.2.2 x hx) (hn.2.2 x hx) (hpa.up hk1) (hpb.up hk1) hq hr1' hr2' hne hi.2.1 hi.2.2 fun w3 hk3 h1 h2 => ?_
    exact hK w3 (hk2.trans hk3) ⟨hk3.sat hi.1 fun k hk => by rcases hk with rfl | rfl <;> assumption, h1, h2⟩
  · exact h w2 ((Kpt.of_below hk1.bel).trans hk2) hi.2))
end Go.Proofs.YtdnfaboigajkhaaGreatDoor

namespace Go.Emb
open Go.RowKit Go.Hm
theorem Stp.nx {D : Nat → Prop} {w w1 w2 : World} {σ σ1 σ2 : Q5} (hS : Stp w σ w1 σ1) (hn : Nxt D w1 σ1 w2 σ2) (hD : ∀ k, D k → w.heap.size ≤ k) : Stp w σ w2 σ2 :=
  ⟨⟨hn.kp.os.trans hS.bel.os, hn.kp.tape.trans hS.bel.tape, hn.kp.output.trans hS.bel.output, Nat.le_trans hS.bel.size hn.kp.size, fun k hk => (hn.kp.block k (Nat.lt_of_lt_of_le hk hS.bel.size) fun e => by have := hD k e; omega).trans (hS.bel.block k hk)⟩,
    hn.sat, fun b o e => hn.le.le b o (hS.le b o e), fun k hk => (hn.old k (Nat.lt_of_lt_of_le hk hS.bel.size)).trans (hS.old k hk)⟩
end Go.Emb
namespace Go.Hm
open Go.Kd Go.Emb
theorem Q7V {es : Array MapEntry} {m : H1} (h : es.toList.map (fun e => (e.key, e.val)) = (C7 m).map (fun p => (S p.1, p.2))) :
    (∀ e ∈ es.toList, ∃ k, e.key = S k ∧ (E7 m k).isSome = true) ∧ ∀ k, (E7 m k).isSome = true → ∃ e ∈ es.toList, e.key = S k := by
  have mem : ∀ (m : H1) k, (E7 m k).isSome = true ↔ k ∈ m.map (·.1) := by
    intro m
    induction m with
    | nil => intro k; simp [E7]
    | cons p r ih =>
      intro k
      simp only [E7, List.map_cons, List.mem_cons]
      by_cases e : p.1 = k
      · simp [e]
      · rw [if_neg e, ih k]
        constructor
        · exact .inr
        · rintro (h | h)
          · exact absurd h.symm e
          · exact h
  constructor
  · intro e he
    have h1 : (e.key, e.val) ∈ es.toList.map (fun e => (e.key, e.val)) := List.mem_map.2 ⟨e, he, rfl⟩
    rw [h] at h1
    obtain ⟨p, hp, e1⟩ := List.mem_map.1 h1
    obtain ⟨q, hq, rfl⟩ := List.mem_map.1 hp
    simp only [Prod.mk.injEq] at e1
    exact ⟨q.1, e1.1.symm, (mem m _).2 (List.mem_map.2 ⟨q, hq, rfl⟩)⟩
  · intro k hk
    obtain ⟨q, hq, rfl⟩ := List.mem_map.1 ((mem m k).1 hk)
    have h1 : (S q.1, S q.2) ∈ (C7 m).map (fun p => (S p.1, p.2)) := List.mem_map.2 ⟨(q.1, S q.2), List.mem_map.2 ⟨q, hq, rfl⟩, rfl⟩
    rw [← h] at h1
    obtain ⟨e, he, e1⟩ := List.mem_map.1 h1
    simp only [Prod.mk.injEq] at e1
    exact ⟨e, he, e1.1⟩
def Mj (l : List Cla) (m : Hm.Met) : Bool := (!thereM l m.result && !decide (m.result = [])) || m.params.any fun s => !thereM l s
end Go.Hm
namespace Go.Proofs.YtdnfaboigajkhaaGreatDoor
open Go.Emb Go.RowKit Go.Kd Go.Hm
variable {w : World} {K : Value → World → Prop} {σ : Q5} {v : Value} {l : List Cla}
set_option maxHeartbeats 1000000 in
theorem Q5M {c : Cla} {cs : List Value} (hs : X6 w σ) (ht : Tab σ v l) (ok : Ok l) (hc : U7 σ c cs) (hsm : G3 c) (hn : Nm c) (h : ∀ w' σ', Stp w σ w' σ' → K (I (membersM l c)) w') : Q1 P F.aN [v, .agg cs.toArray] w K := Hs (by
  obtain ⟨lv, fv, mv, rfl, g1, g2, g3, g4, g5⟩ := hc
  unfold Zv
  obtain ⟨a, _, _, _, hv, _⟩ := ht.ex
  unfold membersM at h
  refine U2 hs (by rw [hv]; rfl) fun q2 w1 σ1 hk1 hq2 => ?_
  refine Z4 hk1.sat fun q3 w2 σ2 hk2 hq3 => ?_
  have hS2 := hk1.trans hk2
  have hq2 := hq2.up hk2
  have g1 := (g1.up hk1).up hk2
  have g2 := (g2.up hk1).up hk2
  have g3 := (g3.up hk1).up hk2
  have hmaxf := g2.max
  have hmaxm := g3.max
  rw [fa]
  refine ld hk2.sat hq3 rfl ?_
  refine Q6 g2 ?_
  refine V2 c.fields.length (fun n w' => ∃ σ', Stp w σ w' σ' ∧ SLe σ2 σ' ∧ ((c.fields.take n).any fun f => (placeM l c.super f.name).isSome) = false) ⟨σ2, hS2, SLe.refl _, by simp⟩ fun n w3 d hn1 hinv => ?_
  obtain ⟨σ3, hS3, le3, hno⟩ := hinv
  refine Z5 ?_
  refine Q4 (fun hh => ?_) (fun hh => ?_)
  · have hn' : n < c.fields.length := by simpa using hh
    refine Q3k (g2.lift le3) hn' fun p hl1 hr1 => ?_
    refine Y3 hS3.sat hl1 rfl ?_
    refine Y0 hS3.sat (by rfl) rfl (Rep.one hr1) fun q4 w4 σ4 hk4 hq4 => ?_
    have le4 : SLe σ2 σ4 := le3.more ⟨hk4.le⟩
    have hS4 := hS3.trans hk4
    refine X8 hk4.sat (hq2.lift le4) rfl ?_
    rw [fa]
    refine ld hk4.sat (hq3.lift le4) rfl ?_
    rw [fa]
    refine ld hk4.sat hq4 rfl ?_
    refine Q4B hk4.sat (ht.lift ⟨hS4.le⟩) ok.acy ok.len ok.sm fun w5 σ5 hk5 => ?_
    refine Vh ?_
    rw [Yv]
    refine Q4 (fun hh2 => ?_) (fun hh2 => ?_)
    · have : C9 l c = true := R6 hn' hh2
      rw [if_pos this] at h
      exact h _ _ (hS4.trans hk5)
    · refine O5 ?_
      refine Y5 hmaxf hn' ⟨σ5, hS4.trans hk5, le4.more ⟨hk5.le⟩, ?_⟩
      rw [M8 hn', hno, hh2]; rfl
  have hn' : ¬ n < c.fields.length := by simpa using hh
  rw [O9 hn'] at hno
  have hmf : C9 l c = false := hno
  rw [if_neg (by rw [hmf]; simp)] at h
  rw [Xa]
  clear hno hh hn' hn1
  refine U1 hS3.sat (by rfl) rfl rfl fun q7 w4 σ4 hk4 hq7 => ?_
  have le4 : SLe σ2 σ4 := le3.more ⟨hk4.le⟩
  have hS4 := hS3.trans hk4
  have hq2 := hq2.lift le4
  have hq3 := hq3.lift le4
  have g1 := g1.lift le4
  have g2 := g2.lift le4
  have g3 := g3.lift le4
  rw [fa]
  refine ld hk4.sat hq3 rfl ?_
  refine Q6 g2 ?_
  refine V2 c.fields.length (fun n w' => ∃ σ', Stp w σ w' σ' ∧ SLe σ4 σ' ∧ ((c.fields.take n).any fun f => !thereM l f.kind) = false) ⟨σ4, hS4, SLe.refl _, by simp⟩ fun n w5 d hn1 hinv => ?_
  obtain ⟨σ5, hS5, le5, hno⟩ := hinv
  refine Z5 ?_
  refine Q4 (fun hh => ?_) (fun hh => ?_)
  · have hn' : n < c.fields.length := by simpa using hh
    refine Q3k (g2.lift le5) hn' fun p hl1 hr1 => ?_
    refine Y3 hS5.sat hl1 rfl ?_
    refine Y0 hS5.sat (by rfl) rfl (Rep.one hr1) fun q9 w6 σ6 hk6 hq9 => ?_
    have le6 : SLe σ4 σ6 := le5.more ⟨hk6.le⟩
    have hS6 := hS5.trans hk6
    refine X8 hk6.sat (hq7.lift le6) rfl ?_
    rw [fa]
    refine ld hk6.sat hq9 rfl ?_
    refine Q0Z hk6.sat (ht.lift ⟨hS6.le⟩) (hq2.lift le6) hr1.2.2 fun w7 σ7 hk7 => ?_
    refine U3 ?_
    refine Q4 (fun hh2 => ?_) (fun hh2 => ?_)
    · have : E0 l c = true := by
        unfold E0
        rw [R6 (p := fun f : Fld => !thereM l f.kind) hn' hh2]; rfl
      rw [if_pos this] at h
      exact h _ _ (hS6.trans hk7)
    · refine O5 ?_
      refine Y5 hmaxf hn' ⟨σ7, hS6.trans hk7, le6.more ⟨hk7.le⟩, ?_⟩
      rw [M8 hn', hno, hh2]; rfl
  have hn' : ¬ n < c.fields.length := by simpa using hh
  rw [O9 hn'] at hno
  have hkf := hno
  clear hno hh hn' hn1
  have hq2 := hq2.lift le5
  have hq3 := hq3.lift le5
  have hq7 := hq7.lift le5
  have g3 := g3.lift le5
  rw [fa]
  refine ld hS5.sat hq3 rfl ?_
  refine Q6 g3 ?_
  refine V2 c.methods.length (fun n w' => ∃ σ', Stp w σ w' σ' ∧ SLe σ5 σ' ∧ ((c.methods.take n).any (Mj l)) = false) ⟨σ5, hS5, SLe.refl _, by simp⟩ fun n w6 d hn1 hinv => ?_
  obtain ⟨σ6, hS6, le6, hno⟩ := hinv
  refine Z5 ?_
  refine Q4 (fun hh => ?_) (fun hh => ?_)
  · have hn' : n < c.methods.length := by simpa using hh
    refine L2 (g3.lift le6) hn' fun p cells hl1 hl2 hr1 => ?_
    refine Y3 hS6.sat hl1 hl2 ?_
    refine Y0 hS6.sat (by rfl) hl2 (Rep.one hr1) fun q11 w7 σ7 hk7 hq11 => ?_
    obtain ⟨pv, cv, hv', rfl, m1, m2, m3, m4, m5, m6⟩ := hr1
    have le7 : SLe σ5 σ7 := le6.more ⟨hk7.le⟩
    have hS7 := hS6.trans hk7
    have hbad : Mj l c.methods[n] = true → ∀ {w8 : World} {σ8 : Q5}, Stp w σ w8 σ8 → K (.int .i64 65) w8 := fun hb w8 σ8 hS8 => by
      have : E0 l c = true := by
        unfold E0
        have := R6 (p := Mj l) hn' hb
        unfold Mj at this
        rw [this, Bool.or_true]
      rw [if_pos this] at h
      exact h _ _ hS8
    have hgood : Mj l c.methods[n] = false → ∀ {w8 : World} {σ8 : Q5}, Stp w σ w8 σ8 → SLe σ5 σ8 → UpI c.methods.length (fun n w' => ∃ σ', Stp w σ w' σ' ∧ SLe σ5 σ' ∧ ((c.methods.take n).any (Mj l)) = false) (.int .i64 (IntKind.i64.wrap (n + 1))) w8 ∧ Ah c.methods.length (.int .i64 (IntKind.i64.wrap (n + 1))) < Ah c.methods.length (I n) := fun hb w8 σ8 hS8 le8 =>
      Y5 hmaxm hn' ⟨σ8, hS8, le8, by rw [M8 hn', hno, hb]; rfl⟩
    unfold Mj at hbad hgood
    refine X8 hk7.sat (hq7.lift le7) rfl ?_
    rw [fa]
    refine ld hk7.sat hq11 rfl ?_
    refine Q0Z hk7.sat (ht.lift ⟨hS7.le⟩) (hq2.lift le7) m5 fun w8 σ8 hk8 => ?_
    have hS8 := hS7.trans hk8
    have le8 : SLe σ5 σ8 := le7.more ⟨hk8.le⟩
    have hq11 := hq11.up hk8
    have m1 := (m1.up hk7).up hk8
    -- what the parameters come to
    have hpar : ∀ {w8 : World} {σ8 : Q5} {K : Value → World → Prop}, Stp w σ w8 σ8 → SLe σ5 σ8 → Sl 1 U5 σ8 pv c.methods[n].params → (∀ w' σ', Stp w8 σ8 w' σ' → K (.bool (c.methods[n].params.any fun s => !thereM l s)) w') → Q1 P F.c [pv, .func (.func F.af) #[] #[.pointer (some q7)]] w8 K := by
      intro w8 σ8 K hS8 le8 m1 hK
      refine C5 (fun s => !thereM l s) hS8.sat m1 (fun x w9 K _ hs9 hx hK9 => Q4X hs9 (ht.lift ⟨hS8.le⟩) (hq2.lift le8) (hq7.lift le8) hx fun w' σ' hk => hK9 w' hk.bel) fun w9 hb => hK w9 σ8 (Stp.of_below hS8.sat hb)
    cases e1 : thereM l c.methods[n].result with
    | true =>
      rw [e1] at hbad hgood
      simp only [↓Mm, Mm, ↓Mp, Mp, Mb, reduceIte]
      refine ld hk8.sat hq11 rfl ?_
      (try simp only [↓Mm, Mm, ↓Mp, Mp, Mb, reduceIte])
      refine hpar hS8 le8 m1 fun w9 σ9 hk9 => ?_
      cases e2 : c.methods[n].params.any fun s => !thereM l s with
      | true =>
        rw [e2] at hbad
        simp only [↓Mm, Mm, ↓Mp, Mp, Mb, reduceIte]
        exact hbad rfl (hS8.trans hk9)
      | false =>
        rw [e2] at hgood
        simp only [↓Mm, Mm, ↓Mp, Mp, Mb, reduceIte]
        exact hgood rfl (hS8.trans hk9) (le8.more ⟨hk9.le⟩)
    | false =>
      rw [e1] at hbad hgood
      simp only [↓Mm, Mm, ↓Mp, Mp, Mb, reduceIte]
      refine ld hk8.sat hq11 rfl ?_
      simp only [↓Mm, Mm, ↓Mp, Mp, Mb, reduceIte]
      by_cases e3 : c.methods[n].result = []
      · rw [decide_eq_true e3] at hbad hgood
        simp only [decide_eq_true e3, ↓Mm, Mm, ↓Mp, Mp, Mb, reduceIte]
        refine ld hk8.sat hq11 rfl ?_
        (try simp only [↓Mm, Mm, ↓Mp, Mp, Mb, reduceIte])
        refine hpar hS8 le8 m1 fun w9 σ9 hk9 => ?_
        cases e2 : c.methods[n].params.any fun s => !thereM l s with
        | true =>
          rw [e2] at hbad
          simp only [↓Mm, Mm, ↓Mp, Mp, Mb, reduceIte]
          exact hbad rfl (hS8.trans hk9)
        | false =>
          rw [e2] at hgood
          simp only [↓Mm, Mm, ↓Mp, Mp, Mb, reduceIte]
          exact hgood rfl (hS8.trans hk9) (le8.more ⟨hk9.le⟩)
      · rw [decide_eq_false e3] at hbad
        simp only [decide_eq_false e3, ↓Mm, Mm, ↓Mp, Mp, Mb, reduceIte]
        exact hbad rfl hS8
  have hn' : ¬ n < c.methods.length := by simpa using hh
  rw [O9 hn'] at hno
  have hmk : E0 l c = false := by
    unfold E0
    unfold Mj at hno
    rw [hkf, hno]; rfl
  rw [if_neg (by rw [hmk]; simp)] at h
  clear hno hh hn' hn1
  have hq2 := hq2.lift le6
  have hq3 := hq3.lift le6
  refine Q0w hS6.sat fun r1 w7 hr1 hk7 hm1 => ?_
  refine Q0w hk7.sat fun r2 w8 hr2 hk8 hm2 => ?_
  have hl1 := hm1.lt
  have hm1 := hm1.up hk8
  have hne : r1 ≠ r2 := by omega
  have hS8 := (hS6.trans hk7).trans hk8
  have hr1w : w.heap.size ≤ r1 := Nat.le_trans hS6.bel.size hr1
  have hr2w : w.heap.size ≤ r2 := Yn hr2 (hS6.trans hk7)
  refine T7 hk8.sat fun b1 w9 σ9 hb1 hk9 hb1m => ?_
  refine T7 hk9.sat fun b2 w10 σ10 hb2 hk10 hb2m => ?_
  have hb1l := hb1m.lt
  have hm1l := hm1.lt
  have hm2l := hm2.lt
  have hm1 := (hm1.up hk9).up hk10
  have hm2 := (hm2.up hk9).up hk10
  have hb1m := hb1m.up hk10
  have hS10 := (hS8.trans hk9).trans hk10
  have hb1w : w.heap.size ≤ b1 := Yn hb1 hS8
  have hb2w : w.heap.size ≤ b2 := Yn hb2 (hS8.trans hk9)
  refine st0 hb1m (by simp [Value.cells]) rfl rfl fun w11 u11 hb1m => ?_
  have hS11 := u11.stp hS10 hb1w hb1m.1
  have hb2m := hb2m.upd u11 (by omega)
  have k11 : Kpt (fun k => k = b1) w10 w11 := Kpt.of_upd u11 rfl
  have hm1 := hm1.kp k11 (by omega)
  have hm2 := hm2.kp k11 (by omega)
  refine st0 hb2m (by simp [Value.cells]) rfl rfl fun w12 u12 hb2m => ?_
  have hS12 := u12.stp hS11 hb2w hb2m.1
  have hb1m := hb1m.upd u12 (by omega)
  have k12 : Kpt (fun k => k = b2) w11 w12 := Kpt.of_upd u12 rfl
  have hm1 := hm1.kp k12 (by omega)
  have hm2 := hm2.kp k12 (by omega)
  obtain ⟨σ13, hS13, ha1, le13, old13⟩ := hb1m.keep hS12 hb1w
  have hb2m : V4 σ13 w12 b2 _ := ⟨(old13 b2 (by omega)).trans hb2m.1, hb2m.2⟩
  have hm1 : N5 σ13 w12 r1 [] := ⟨(old13 r1 (by omega)).trans hm1.1, hm1.2⟩
  have hm2 : N5 σ13 w12 r2 [] := ⟨(old13 r2 (by omega)).trans hm2.1, hm2.2⟩
  obtain ⟨σ14, hS14, ha2, le14, old14⟩ := hb2m.keep hS13 hb2w
  have hm1 : N5 σ14 w12 r1 [] := ⟨(old14 r1 (by omega)).trans hm1.1, hm1.2⟩
  have hm2 : N5 σ14 w12 r2 [] := ⟨(old14 r2 (by omega)).trans hm2.1, hm2.2⟩
  have ha1 := ha1.le le14
  have ha1 : U0 σ14 ⟨b1, 0, none⟩ [.map (some r1)] := ha1
  have ha2 : U0 σ14 ⟨b2, 0, none⟩ [.map (some r2)] := ha2
  have lex : SLe σ6 σ14 := ⟨fun b o e => le14 b o (le13 b o (hk10.le b o (hk9.le b o (hk8.le b o (hk7.le b o e)))))⟩
  clear hb1m hb2m
  have hq2 := hq2.lift lex
  have hq3 := hq3.lift lex
  refine X8 hS14.sat hq2 rfl ?_
  rw [fa]
  refine ld hS14.sat hq3 rfl ?_
  rw [Xa]
  refine Q4e Ow ([], []) (fun s w' => N7 (w'.heap[r1]?) (C7 s.1) ∧ N7 (w'.heap[r2]?) (C7 s.2)) (fun k => k = r1 ∨ k = r2) hS14.sat (ht.lift ⟨hS14.le⟩) ok.len ok.sm g4
    (fun k hk => by rcases hk with rfl | rfl; exact ⟨hm1.lt, hm1.1⟩; exact ⟨hm2.lt, hm2.1⟩) (fun s wa wb hi hk => by rw [hk r1 (.inl rfl), hk r2 (.inr rfl)]; exact hi) ⟨hm1.2, hm2.2⟩
    (fun s d ds wa σa K le hsa hna hi hr hdl hK => ?_) fun w15 σ15 hn15 hi15 => ?_
  · have hdm := (V6 hdl).2.1
    exact Q42 hsa hr (ok.sm d hdm) (ok.nm d hdm) (ha1.lift le) (ha2.lift le) (hna r1 (.inl rfl)) (hna r2 (.inr rfl)) hne hi.1 hi.2 hK
  have hS15 := hS14.nx hn15 fun k hk => by rcases hk with rfl | rfl <;> assumption
  obtain ⟨sc1, sc2⟩ := Q0B (Up l c.name) [] ([], []) 0 Q8K
  rw [List.nil_append, ← Q52] at sc1 sc2
  cases hov : (V0 Ow ([], []) (Up l c.name) 0).1.isSome with
  | true =>
    have : B9 l c = true := (Q1B _).2 (sc1 hov)
    rw [if_pos this] at h
    refine F6 ?_
    exact h _ _ hS15
  | false =>
    have hgd := sc2 hov
    have : B9 l c = false := by
      cases e : B9 l c with
      | false => rfl
      | true => exact absurd ((Q1B _).1 e) hgd.no
    rw [if_neg (by rw [this]; simp)] at h
    refine I7 ?_
    have hq2 := hq2.lift hn15.le
    have hq3 := hq3.lift hn15.le
    rw [fa]
    refine ld hS15.sat hq3 rfl ?_
    unfold Qf at h
    cases hab : c.abs with
    | true =>
      rw [hab] at h
      refine F6 ?_
      exact h _ _ hS15
    | false =>
      rw [hab] at h
      simp only [Bool.not_false, Bool.true_and] at h
      refine I7 ?_
      refine X8 hS15.sat (ha2.lift hn15.le) rfl ?_
      generalize hst : (V0 Ow ([], []) (Up l c.name) 0).2 = st at hgd hi15
      obtain ⟨es, clock, e1, e2, e3, e4⟩ := hi15.2
      have hr2n : σ15 r2 = none := (hn15.old r2 hm2.lt).trans hm2.1
      obtain ⟨key1, key2⟩ := Q7V e2
      refine Q9l (tm := inferInstance) hS15.sat e1 fun ib w16 σ16 hib hk16 hit => ?_
      have hr2l := (Array.getElem?_eq_some_iff.1 e1).1
      refine Ct (fun d _ w' => ∃ (σ' : Q5) (seen : Array Nat), d = es.toList.countP (fun e => !seen.contains e.born) ∧ Stp w σ w' σ' ∧ SLe σ15 σ' ∧ σ' r2 = none ∧ w'.heap[r2]? = some (.map es clock) ∧ It σ' w' ib r2 es clock seen ∧ ∀ e ∈ es.toList, e.born ∈ seen → ∀ k, e.key = S k → F9 l c.name k = false) _
        ⟨σ16, #[], rfl, hS15.trans hk16, ⟨hk16.le⟩, (hk16.old r2 hr2l).trans hr2n, (hk16.bel.block r2 hr2l).trans e1, hit, by simp⟩ ?_
      rintro again d x dd w17 ⟨σ17, seen, rfl, hS17, le17, hr17, he17, hit17, hok17⟩ hag
      have hitb : w.heap.size ≤ ib := Nat.le_trans hS15.bel.size hib
      refine Q9M hit17 he17 e4 (fun hall => ?_) fun e w18 hee hunseen hk18 hit18 hh18 => ?_
      · refine M5 (vs := [_]) rfl ?_
        refine I7 ?_
        have : ((allMets l c.name).any fun m => F9 l c.name m.name) = false := by
          rw [List.any_eq_false]
          intro m hm
          obtain ⟨e, he, hek⟩ := key2 m.name ((hgd.c m.name).2 ⟨m, hm, rfl⟩)
          rw [hok17 e he (hall e he) _ hek]; simp
        rw [this] at h
        exact h _ _ hS17
      · refine M5 (vs := [_, _, _]) rfl ?_
        refine F6 ?_
        have he18 : w18.heap[r2]? = some (.map es clock) := by
          rw [hk18.block r2 (Array.getElem?_eq_some_iff.1 he17).1 (by omega)]; exact he17
        have hib17 := hit17.1
        have hS18 : Stp w σ w18 σ17 := hS17.kp hk18 fun k hk => by rw [hk]; exact ⟨hitb, hib17⟩
        refine Q90 hh18 he18 hee (e3.imp fun hlt => Nat.ne_of_lt hlt) ?_
        refine M5 (vs := [_, _]) rfl ?_
        obtain ⟨k, hek, hkk⟩ := key1 e hee
        have le18 : SLe σ15 σ17 := le17
        refine X8 hS18.sat (hq2.lift le17) rfl ?_
        rw [fa]
        refine ld hS18.sat (hq3.lift le17) rfl ?_
        rw [hek]
        refine Q6T hS18.sat (ht.lift ⟨hS18.le⟩) ok fun pv cv hv w19 σ19 hk19 hr19 => ?_
        refine M5 (vs := [_, _, _]) rfl ?_
        refine M5 (vs := [_, _, _]) rfl ?_
        refine M5 (vs := [_, _, _]) rfl ?_
        refine Y0 hk19.sat (by rfl) rfl (Rep.one hr19) fun q20 w20 σ20 hk20 hq20 => ?_
        have hS20 := (hS18.trans hk19).trans hk20
        have hlack : F9 l c.name k = true → ∀ {w8 : World} {σ8 : Q5}, Stp w σ w8 σ8 → K (.int .i64 67) w8 := fun hb w8 σ8 hS8 => by
          obtain ⟨m, hm, hmk⟩ := (hgd.c k).1 hkk
          have : ((allMets l c.name).any fun m => F9 l c.name m.name) = true := List.any_eq_true.2 ⟨m, hm, by rw [hmk]; exact hb⟩
          rw [this] at h
          exact h _ _ hS8
        have hgo : F9 l c.name k = false → again () w20 := fun hb => by
          have hmem : ∀ e' : MapEntry, e'.born ∈ seen.push e.born ↔ e'.born ∈ seen ∨ e'.born = e.born := fun e' => by simp
          refine hag _ _ _ ?_ ⟨σ20, seen.push e.born, rfl, hS20, le17.more ⟨fun b o h => hk20.le _ _ (hk19.le _ _ h)⟩, ?_, ?_, (hit18.step hk19).step hk20, fun e' he' hs' k' hk' => ?_⟩
          · refine Q1o (fun x _ hx => ?_) ⟨e, hee, ?_, ?_⟩
            · simp only [Bool.not_eq_true', Array.contains_push, Bool.or_eq_false_iff] at hx ⊢
              exact hx.1
            · simpa using hunseen
            · simp
          · have l18 := (Array.getElem?_eq_some_iff.1 he18).1
            rw [hk20.old r2 (Nat.lt_of_lt_of_le l18 hk19.bel.size), hk19.old r2 l18]; exact hr17
          · have l18 := (Array.getElem?_eq_some_iff.1 he18).1
            rw [hk20.bel.block r2 (Nat.lt_of_lt_of_le l18 hk19.bel.size), hk19.bel.block r2 l18]; exact he18
          · rcases (hmem e').1 hs' with h1 | h1
            · exact hok17 e' he' h1 k' hk'
            · have : e' = e := by
                have hnd : (es.toList.map (·.born)).Nodup := e3.imp fun hlt => Nat.ne_of_lt hlt
                obtain ⟨i, hi, rfl⟩ := List.getElem_of_mem he'
                obtain ⟨j, hj, rfl⟩ := List.getElem_of_mem hee
                have h5 : (es.toList.map (·.born))[i]'(by simpa using hi) = (es.toList.map (·.born))[j]'(by simpa using hj) := by simpa using h1
                have := (List.getElem_inj hnd).1 h5
                subst this; rfl
              subst this
              rw [hek] at hk'
              have : k = k' := by
                have := hk'
                simp at this
                exact this
              rw [← this]; exact hb
        unfold F9 at hlack hgo
        cases hmm : methodM l c.name k with
        | none =>
          rw [hmm] at hlack
          simp only [↓Mm, Mm, ↓Mp, Mp, Mb, reduceIte, Option.isSome_none]
          exact hlack rfl hS20
        | some r =>
          rw [hmm] at hlack hgo hq20
          simp only [↓Mm, Mm, ↓Mp, Mp, Mb, reduceIte, Option.isSome_some]
          refine ld hk20.sat hq20 rfl ?_
          (try simp only [↓Mm, Mm, ↓Mp, Mp, Mb, reduceIte])
          cases hra : r.2.abs with
          | true =>
            exact Q4 (fun _ => hlack hra hS20) (fun e => absurd (hra.symm.trans e) (by simp))
          | false =>
            exact Q4 (fun e => absurd (hra.symm.trans e) (by simp)) (fun _ => hgo hra))
end Go.Proofs.YtdnfaboigajkhaaGreatDoor

namespace Go.Emb
open Go.RowKit Go.Hm
variable {P : Program} {w w0 w1 w' w'' : World} {K : Value → World → Prop} {σ σ0 σ1 σ' : Q5}
theorem Q9m {t e : TypeId} {n by_ : Nat} {z : Value} [ta : TA P t n e] [tz : TZ P e 1 by_ z] [tg : TG P e false] {cs : List Value} {i : Nat} {v : Value} (hi : i < n) (hv : cs[i]? = some v) (h : K v w) : E2 P t (.agg cs.toArray) (I i) w K := by
  unfold E2
  have h0 : (0 : Int) ≤ i ∧ (i : Int) < n := ⟨by omega, by omega⟩
  rw [X9 (v := v) (w' := w) (by
    simp only [Instr.index, asIntOf, Sem.run_bind, Sem.run_pure, Result.andThen_ok, run_underlying ta.h, h0, and_self, if_true, M2 tz, part, P7 tg]
    simp [hv])]
  exact h
theorem Q2g {α : Type} {R : Q5 → α → List Value → Prop} {B sz : Nat} {e : TypeId} {v : Value} {xs : List α} {t0 t : TypeId} {cs : List Bool} [ts : TS P t0 e] (h : W5 B e sz R σ w v xs) (hk : K (I xs.length) w) : X4 P .len [t0] t cs [v] w K := Q2a (L7.of_acc h) hk
theorem Q1D {α : Type} {R : Q5 → α → List Value → Prop} {B sz : Nat} {e : TypeId} {v : Value} {xs : List α} (h : W5 B e sz R σ w v xs) : v.cells = #[v] ∧ v.oneCell' = true := by
  obtain ⟨cells, h1, _⟩ := h
  rcases h1.2 with ⟨rfl, _⟩ | ⟨g, cap, cur, rfl, _⟩ <;> exact ⟨rfl, rfl⟩
end Go.Emb
namespace Go.Proofs.YtdnfaboigajkhaaGreatDoor
open Go.Emb Go.RowKit Go.Kd Go.Hm
variable {w : World} {K : Value → World → Prop} {σ : Q5} {v : Value} {l : List Cla}
theorem Q4h (hs : X6 w σ) (hg : Glb σ) (h : ∀ v' w' σ', Stp w σ w' σ' → W5 w.heap.size T.a 8 U7 σ' w' v' R5 → K v' w') : Q1 P F.bL [] w K := Q3s (by
  unfold Gy
  refine B1 (cells := #[S U4, S [], .slice none 0 0, .bool false, .bool false, .bool false, .slice none 0 0, .slice none 0 0]) (by kernel_rfl) ?_
  refine B1 (cells := #[S I8, S C3, .bool false]) (by kernel_rfl) ?_
  refine Nc (R := D7) (sz := 3) hs [.agg #[S I8, S C3, .bool false]] [⟨I8, C3, false⟩] rfl rfl (by simp; rfl) rfl ⟨⟨rfl, by decide, by decide⟩, trivial⟩ fun v6 w1 σ1 hk1 hv6 => ?_
  have hv6' := hv6
  obtain ⟨a6, cap6, rfl, _⟩ := hv6'
  refine B1 (cells := #[S L3, S U4, .slice none 0 0, .bool false, .bool false, .bool false, .slice a6 1 cap6, .slice none 0 0]) (by kernel_rfl) ?_
  refine Qq (R := U7) (sz := 8) hk1 [.agg #[S U4, S [], .slice none 0 0, .bool false, .bool false, .bool false, .slice none 0 0, .slice none 0 0], .agg #[S L3, S U4, .slice none 0 0, .bool false, .bool false, .bool false, .slice a6 1 cap6, .slice none 0 0]]
    [⟨U4, [], [], false, false, false, [], []⟩, ⟨L3, U4, [], false, false, false, [⟨I8, C3, false⟩], []⟩] rfl rfl (by simp; exact ⟨rfl, rfl⟩) rfl
    ⟨⟨_, _, _, rfl, Sl.nil, Sl.nil, Sl.nil, by decide, by decide⟩, ⟨_, _, _, rfl, Sl.nil, hv6, Sl.nil, by decide, by decide⟩, trivial⟩ fun v8 w2 hk2 hacc _ => ?_
  have hg2 := hg.lift ⟨hk1.le⟩
  refine Y3 (cs := V1.map S) hk2.sat hg2.flt rfl ?_
  refine N1 6 (fun n a w' => ∃ σ', Stp w σ w' σ' ∧ W5 w.heap.size T.a 8 U7 σ' w' a ([⟨U4, [], [], false, false, false, [], []⟩, ⟨L3, U4, [], false, false, false, [⟨I8, C3, false⟩], []⟩] ++ (V1.take n).map fun n => ⟨n, L3, [], false, false, true, [], []⟩)) ⟨σ1, hk1.trans hk2, hacc⟩ fun n a w3 d hn hinv => ?_
  obtain ⟨σ3, hS3, ha3⟩ := hinv
  have hfl : V1.length = 6 := rfl
  refine Z5 ?_
  refine Q4 (fun hh => ?_) (fun hh => ?_)
  · have hn' : n < 6 := by have := of_decide_eq_true hh; omega
    refine Q9m (v := S (V1[n]'(by omega))) hn' (by rw [List.getElem?_map, List.getElem?_eq_getElem (by omega)]; rfl) ?_
    refine B1 (cells := #[S (V1[n]'(by omega)), S L3, .slice none 0 0, .bool false, .bool false, .bool true, .slice none 0 0, .slice none 0 0]) (by kernel_rfl) ?_
    have hlen : (V1[n]'(by omega)).length ≤ 10 := by
      have : ∀ x ∈ V1, x.length ≤ 10 := by decide
      exact this _ (List.getElem_mem _)
    refine Ys (x := ⟨V1[n]'(by omega), L3, [], false, false, true, [], []⟩) hS3 ha3 ⟨_, _, _, rfl, Sl.nil, Sl.nil, Sl.nil, Nat.le_trans hlen (by decide), (by decide : L3.length ≤ W3)⟩ rfl rfl rfl (by simp; omega) (by simp; omega) fun s v' w4 σ4 hn4 hS4 ha4 _ => ?_
    refine O5 ?_
    refine Z6 (by omega) hn' ⟨σ4, hS4, ?_⟩
    rw [List.take_add_one, List.getElem?_eq_getElem (by omega), List.map_append, ← List.append_assoc]
    exact ha4
  · have hn' : ¬ n < 6 := by have := of_decide_eq_false hh; omega
    rw [List.take_of_length_le (by omega)] at ha3
    exact h _ _ _ hS3 ha3)
end Go.Proofs.YtdnfaboigajkhaaGreatDoor

namespace Go.Hm
open Go.Kd
def L8 {α : Type} (f : α → Int) : List α → Nat → Option (Nat × Int)
  | [], _ => none
  | x :: r, i => if f x = 0 then L8 f r (i + 1) else some (i, f x)
theorem C8 {α : Type} {f : α → Int} : ∀ {l : List α} {i : Nat}, L8 f l i = none → ∀ x ∈ l, f x = 0
  | [], _, _ => by simp
  | x :: r, i, h => by
    simp only [L8] at h
    split at h
    · rename_i h0
      intro y hy
      rcases List.mem_cons.1 hy with rfl | hy
      · exact h0
      · exact C8 h y hy
    · cases h
def Ot (all : List Cla) : Option Nat := (List.range all.length).find? fun i => (Y7 (all.take i) (Y1 all i)).isSome
def Q8 (l : List Cla) : List Cla := R5 ++ l
def Yt (ck : Cla → Int) (l : List Cla) : Option (Int × Int) := match L8 ck l 0 with
  | some (i, e) => some (i, e)
  | none => match Ot (Q8 l) with
    | some i => some ((i : Int) - 8, 60)
    | none => match L8 (fun c => (uppersM (Q8 l) c : Int)) l 0 with
      | some (i, e) => some (i, e)
      | none => match l.findIdx? (loopsM (Q8 l)) with
        | some i => some (i, 63)
        | none => match (W0 (Q8 l) 8).find? fun j => !decide (membersM (Q8 l) ((Q8 l).getD j Cla.zero) = 0) with
          | some j => some ((j : Int) - 8, membersM (Q8 l) ((Q8 l).getD j Cla.zero))
          | none => none
theorem Q3q {s : X0} (h : name s = true) : s.length ≤ 32 := by
  cases s with
  | nil => simp
  | cons c r => simp only [name, Bool.and_eq_true, decide_eq_true_eq] at h; exact h.1.1
theorem Q6L {s : X0} (h : L4 s = true) : s.length ≤ 32 := Q3q (Vy (by rw [h, Bool.or_true]))
theorem Q5u {s : X0} (h : M7 s = true) : s.length ≤ 32 := by
  cases s with
  | nil => simp
  | cons c r => simp only [M7, Bool.and_eq_true] at h; exact Q3q h.1
theorem Bt {all : List Cla} (h : Ot all = none) : B5 all := by
  unfold Ot at h
  rw [List.find?_eq_none] at h
  unfold B5
  rw [List.nodup_iff_pairwise_ne, List.pairwise_iff_getElem]
  intro i j hi hj hij e
  simp only [List.length_map] at hi hj
  have := h j (by simp; exact hj)
  apply this
  simp only [List.getElem_map] at e
  cases hf : Y7 (all.take j) (Y1 all j) with
  | some _ => rfl
  | none =>
    have h1 := List.findIdx?_eq_none_iff.1 hf all[i] (List.mem_take_iff_getElem.2 ⟨i, by omega, rfl⟩)
    have h2 : Y1 all j = all[j].name := by unfold Y1; rw [List.getD_eq_getElem?_getD, List.getElem?_eq_getElem hj]; rfl
    rw [h2] at h1
    simp [e] at h1
theorem Yc : ∀ c ∈ R5, G3 c ∧ Nm c ∧ c.like = [] := by
  have h : ∀ c ∈ R5, (c.like = [] ∧ c.methods = [] ∧ c.fields.length ≤ 1 ∧ c.name.length ≤ 100 ∧ ∀ f ∈ c.fields, f.name.length ≤ 100 ∧ f.kind.length ≤ 100) := by decide
  intro c hc
  obtain ⟨h1, h2, h3, h4, h5⟩ := h c hc
  refine ⟨⟨by rw [h1]; simp, by omega, by rw [h2]; simp, by rw [h2]; simp⟩, ⟨h4, h5, by rw [h2]; simp⟩, h1⟩
theorem Q6I : ∀ c ∈ R5, (c.name = U4 ∧ U9 c = [[]]) ∨ (c.name = L3 ∧ U9 c = [U4]) ∨ (c.name ∈ V1 ∧ U9 c = [L3]) := by decide
theorem Q2I {l : List Cla} (ho : B5 (Q8 l)) (hn : ∀ c ∈ l, c.name ≠ []) (hl : ∀ c ∈ l, loopsM (Q8 l) c = false) : Qv (Q8 l) := by
  have hnil : lk (Q8 l) [] = none := by
    cases h : lk (Q8 l) [] with
    | none => rfl
    | some c =>
      obtain ⟨e, hm, _⟩ := V6 h
      rcases List.mem_append.1 hm with hm | hm
      · have : ∀ c ∈ R5, c.name ≠ [] := by decide
        exact absurd e (this c hm)
      · exact absurd e (hn c hm)
  have hroot : lk (Q8 l) U4 = some ⟨U4, [], [], false, false, false, [], []⟩ := ho.lk (c := ⟨U4, [], [], false, false, false, [], []⟩) (List.mem_append_left _ (by decide))
  have hfault : lk (Q8 l) L3 = some ⟨L3, U4, [], false, false, false, [⟨I8, C3, false⟩], []⟩ := ho.lk (c := ⟨L3, U4, [], false, false, false, [⟨I8, C3, false⟩], []⟩) (List.mem_append_left _ (by decide))
  have r0 : ∀ b, ¬ Reach (lk (Q8 l)) [] b := fun b h => by obtain ⟨c, hc⟩ := h.left; rw [hnil] at hc; cases hc
  have r1 : ∀ b, Reach (lk (Q8 l)) U4 b → b = U4 := by
    intro b h
    cases h with
    | refl => rfl
    | step hc hu hr =>
      rw [hroot] at hc; cases hc
      simp [U9] at hu; subst hu
      exact absurd hr (r0 b)
  have r2 : ∀ b, Reach (lk (Q8 l)) L3 b → b = L3 ∨ b = U4 := by
    intro b h
    cases h with
    | refl => exact .inl rfl
    | step hc hu hr =>
      rw [hfault] at hc; cases hc
      simp [U9] at hu; subst hu
      exact .inr (r1 b hr)
  rintro a ⟨c, hc, u, hu, hr⟩
  obtain ⟨e, hm, _⟩ := V6 hc
  rcases List.mem_append.1 hm with hm | hm
  · rcases Q6I c hm with ⟨e1, e2⟩ | ⟨e1, e2⟩ | ⟨e1, e2⟩ <;> rw [e2] at hu <;> simp at hu <;> subst hu
    · exact r0 _ hr
    · have := r1 _ hr
      rw [← e, e1] at this
      exact absurd this (by decide)
    · have h3 : ∀ x ∈ V1, x ≠ L3 ∧ x ≠ U4 := by decide
      obtain ⟨h4, h5⟩ := h3 _ e1
      rw [← e] at hr
      rcases r2 _ hr with h | h
      · exact h4 h
      · exact h5 h
  · have := hl c hm
    unfold loopsM at this
    have h2 := List.any_eq_false.1 this u hu
    apply h2
    rw [List.contains_iff_mem, Zd, e]; exact hr
end Go.Hm
namespace Go.Proofs.YtdnfaboigajkhaaGreatDoor
open Go.Emb Go.RowKit Go.Kd Go.Hm
theorem Q18 {s : X0} (h : right s = true) : s.length ≤ 38 := by
  simp only [right, Bool.and_eq_true, decide_eq_true_eq] at h
  have hb := Py s
  have : (V8 s).1.length ≤ 32 := by
    have h2 := h.2
    have hn := Vy h2
    cases hb1 : (V8 s).1 with
    | nil => simp
    | cons c r =>
      rw [hb1] at hn
      simp only [name, Bool.and_eq_true, decide_eq_true_eq] at hn
      exact hn.1.1
  omega
theorem Ha {c : Cla} (h : L5 c = 0) : G3 c ∧ Nm c ∧ c.name ≠ [] := by
  unfold L5 at h
  split at h
  · cases h
  · rename_i hm
    split at h
    · rename_i hr
      simp only [Xe, Bool.or_eq_true, decide_eq_true_eq, not_or, List.any_eq_true, not_exists, not_and] at hm
      obtain ⟨⟨⟨h1, h2⟩, h3⟩, h4⟩ := hm
      simp only [Vm, Bool.and_eq_true] at hr
      obtain ⟨⟨⟨⟨⟨⟨⟨⟨q1, q2⟩, q3⟩, q4⟩, q5⟩, q6⟩, q7⟩, q8⟩, q9⟩ := hr
      have hname : L4 c.name = true := List.all_eq_true.1 q1 c.name (by simp)
      have hmm : ∀ m ∈ c.methods, m.params.length ≤ 32 ∧ m.catches.length ≤ 32 ∧ m.code.length ≤ 200 := fun m hm => by
        have := h1 m hm
        simp only [Jk, Bool.or_eq_true, decide_eq_true_eq, not_or] at this
        omega
      refine ⟨⟨by omega, by omega, by omega, fun m hm => by have := hmm m hm; unfold SmM; omega⟩, ⟨by have := Q6L hname; omega, fun f hf => ?_, fun m hm => ?_⟩, fun e => by rw [e] at hname; simp [L4] at hname⟩
      · have := List.all_eq_true.1 q8 f hf
        simp only [Mk, Bool.and_eq_true] at this
        have a1 := Q5u this.1
        have a2 := Q18 this.2
        omega
      · have := List.all_eq_true.1 q9 m hm
        simp only [S3, Bool.and_eq_true, Bool.or_eq_true, decide_eq_true_eq, List.all_eq_true] at this
        obtain ⟨⟨⟨_, a1⟩, a2⟩, _⟩ := this
        refine ⟨?_, fun p hp => by have := Q18 (a1 p hp); omega⟩
        rcases a2 with e | e
        · rw [e]; simp
        · have := Q18 e; omega
    · cases h
end Go.Proofs.YtdnfaboigajkhaaGreatDoor

namespace Go.Hm
open Go.Kd
theorem Jj {α : Type} {f : α → Int} {xs : List α} {n : Nat} (h : n < xs.length) (hn : L8 f xs 0 = L8 f (xs.drop n) n) : L8 f xs 0 = if f xs[n] = 0 then L8 f (xs.drop (n + 1)) (n + 1) else some (n, f xs[n]) := by
  rw [hn, List.drop_eq_getElem_cons h]; rfl
theorem Q4T {all : List Cla} {n : Nat} (h : n < all.length) (k : X0) : Y7 (all.take (n + 1)) k = match Y7 (all.take n) k with
    | some i => some i
    | none => if all[n].name = k then some n else none := by
  unfold Y7
  rw [List.take_add_one, List.getElem?_eq_getElem h]
  simp only [Option.toList_some, List.findIdx?_append]
  cases (all.take n).findIdx? fun c => decide (c.name = k) with
  | some i => rfl
  | none =>
    simp only [Option.none_or, List.findIdx?_cons, List.findIdx?_nil, List.length_take]
    by_cases e : all[n].name = k
    · simp [e]; omega
    · simp [e]
end Go.Hm
namespace Go.Proofs.YtdnfaboigajkhaaGreatDoor
open Go.Emb Go.RowKit Go.Kd Go.Hm
variable {w : World} {K : Value → World → Prop} {σ : Q5} {v : Value} {l : List Cla}
theorem Bq {all : List Cla} {n : Nat} (h : n < all.length) : Y1 all n = all[n].name := by unfold Y1; rw [List.getD_eq_getElem?_getD, List.getElem?_eq_getElem h]; rfl
set_option maxHeartbeats 1000000 in
theorem Q7s {lv : Value} (hs : X6 w σ) (hg : Glb σ) (hl : Sl 8 U7 σ lv l) (hlen : l.length ≤ 1000) (hsm : ∀ c ∈ l, G3 c)
    (h1 : ∀ i e w' σ', Yt L5 l = some (i, e) → Stp w σ w' σ' → K (.tuple #[.pointer none, I i, I e]) w')
    (h0 : ∀ v w' σ', Yt L5 l = none → Stp w σ w' σ' → Tab σ' v (Q8 l) → Ok (Q8 l) → B5 (Q8 l) → K (.tuple #[v, I 0, I 0]) w') : Q1 P F.bK [lv] w K := Q4V (by
  unfold Q0x
  have hgl : R5.length = 8 := rfl
  have hal : (Q8 l).length = 8 + l.length := by simp [Q8, hgl]
  refine Q4h hs hg fun x0 w1 σ1 hk1 ha1 => ?_
  refine Q0w hk1.sat fun r w2 hr hk2 hm2 => ?_
  have ha2 := ha1.up hk2
  have hx0 : x0.cells = #[x0] ∧ x0.oneCell' = true := Q1D ha1
  have hx0s : ∃ a n c, x0 = .slice a n c := by
    obtain ⟨cells, q1, _⟩ := ha1
    rcases q1.2 with ⟨rfl, _⟩ | ⟨g, cap, cur, rfl, _⟩ <;> exact ⟨_, _, _, rfl⟩
  have hx0r : x0.ownBlock ≠ some r := fun e => by have := (ha1.mem r e).2.1; omega
  obtain ⟨a0, n0, c0, hx0e⟩ := hx0s
  rw [hx0e]
  refine B1 (cells := #[.slice a0 n0 c0, .map (some r)]) (by kernel_rfl) ?_
  rw [← hx0e]
  refine Q37 (cs := [x0, .map (some r)]) hk2.sat fun bt w3 σ3 hbt hk3 hbm => ?_
  have hS3 := (hk1.trans hk2).trans hk3
  have ha3 := ha2.up hk3
  have hm3 := hm2.up hk3
  have hrw : w.heap.size ≤ r := Nat.le_trans hk1.bel.size hr
  have hrl : r < w2.heap.size := hm2.lt
  have hbtw : w.heap.size ≤ bt := Yn hbt (hk1.trans hk2)
  have hrbt : r ≠ bt := by omega
  have hx0b : x0.ownBlock ≠ some bt := fun e => by have := (ha2.mem bt e).2.1; omega
  rw [H4, fa]
  refine ldm hbm rfl ?_
  refine Q2g ha3 ?_
  rw [hgl]
  have hl3 := hl.up hS3
  refine Q6 hl3 ?_
  -- classes, each by itself
  refine V2 l.length (fun n w' => ∃ σ' x, Stp w σ w' σ' ∧ SLe σ3 σ' ∧ V4 σ' w' bt [x, .map (some r)] ∧ W5 w.heap.size T.a 8 U7 σ' w' x (R5 ++ l.take n) ∧ N5 σ' w' r [] ∧ x.ownBlock ≠ some bt ∧ x.ownBlock ≠ some r ∧ L8 L5 l 0 = L8 L5 (l.drop n) n)
    ⟨σ3, x0, hS3, SLe.refl _, hbm, by simpa using ha3, hm3, hx0b, hx0r, rfl⟩ fun n w4 d hn hinv => ?_
  obtain ⟨σ4, x, hS4, le4, hb4, ha4, hm4, hxb, hxr, hfb⟩ := hinv
  refine Z5 ?_
  refine Q4 (fun hh => ?_) (fun hh => ?_)
  · have hn' : n < l.length := by simpa using hh
    refine L2 (hl3.lift le4) hn' fun p cells hl1 hl2 hr1 => ?_
    refine Y3 hS4.sat hl1 hl2 ?_
    refine Y0 hS4.sat (by rfl) hl2 (Rep.one hr1) fun q w5 σ5 hk5 hq5 => ?_
    have hS5 := hS4.trans hk5
    have hr5 := H2 hr1 ⟨hk5.le⟩
    refine Y3 hk5.sat hq5 hl2 ?_
    have hsmn := hsm _ (List.getElem_mem hn')
    refine Q8f hk5.sat (hg.lift ⟨hS5.le⟩) hr5 hsmn.1 fun w6 σ6 hk6 => ?_
    have hS6 := hS5.trans hk6
    have hfb2 := Jj hn' hfb
    refine Na ?_
    refine Q4 (fun hh2 => ?_) (fun hh2 => ?_)
    · have hne : ¬ L5 l[n] = 0 := by simpa using hh2
      rw [if_neg hne] at hfb2
      refine h1 _ _ _ _ ?_ hS6
      unfold Yt
      rw [hfb2]
    · have hz : L5 l[n] = 0 := by simpa using hh2
      rw [if_pos hz] at hfb2
      have hk56 := hk5.trans hk6
      have hb6 := hb4.up hk56
      have ha6 := ha4.up hk56
      have hm6 := hm4.up hk56
      have hq6 := hq5.up hk6
      have hr6 := H2 hr5 ⟨hk6.le⟩
      have hxs : ∀ k, x.ownBlock = some k → k < w6.heap.size := fun k hk => (ha6.mem k hk).2.1
      refine W1 hk6.sat ?_
      refine X2 (.pointer (some ⟨bt, 0, none⟩)) (fun w hb => by rw [H4]; exact X5 rfl) ?_
      refine X2 (.pointer (some ((⟨bt, 0, none⟩ : Addr).add 0))) (fun t w hb e => by rw [e, fa]; exact X5 rfl) ?_
      refine X2 x (fun t w hb e => by rw [e]; exact ldm (hb6.step hb.stp) rfl (X5 rfl)) ?_
      refine X2 (.agg cells.toArray) (fun w hb => Y3 hb.sat hq6 hl2 (X5 rfl)) ?_
      refine Ee (Φ := fun σ' v => ∃ ds : List Value, v = .agg ds.toArray ∧ ds.length = 8 ∧ U7 σ' l[n] ds) (fun t w hb e => by
        rw [e]; exact Q3i hb.sat hr6 hsmn fun lv fv mv w' σ' hk hrc => Ax hb hk ⟨_, rfl, rfl, hrc⟩) ?_
      refine Ee (w := w6) (σ := σ6) (Φ := fun σ' v => Sl 8 U7 σ' v [l[n]]) (fun t w hb e => by
        obtain ⟨σ', hk, ds, rfl, hd1, hd2⟩ := e
        refine Nc (R := U7) (sz := 8) hk.sat [.agg ds.toArray] [l[n]] rfl rfl (by simpa [Value.cells] using hd1) rfl ⟨by simpa [Value.cells] using hd2, trivial⟩ fun u w2 σ2 hk2 hu => ?_
        exact ⟨hk2.bel, σ2, hk.trans hk2, hu⟩) ?_
      rintro t43 t44 t45 t46 t47 t48 w7 hb7 _ _ e45 _ _ ⟨σ8, hk8, hu8⟩
      subst e45
      have hS8 := hS6.trans hk8
      have hb8 := hb6.up hk8
      have ha8 := ha6.up hk8
      have hm8 := hm6.up hk8
      have hbl := hb6.lt
      have hml := hm6.lt
      refine Nv hS8 ha8 hu8 rfl (by simp [hgl]; omega) (by simp [hgl]; omega) fun x' w9 hn9 hS9 ha9 hat9 => ?_
      have hb9 := hb8.nx hn9 hxb
      have hm9 := hm8.nx hn9 hxr
      have hxb' : x'.ownBlock ≠ some bt := fun e => by
        rcases hat9 with e2 | e2
        · exact hxb (e2 ▸ e)
        · have := e2 bt e; have := hk8.bel.size; omega
      have hxr' : x'.ownBlock ≠ some r := fun e => by
        rcases hat9 with e2 | e2
        · exact hxr (e2 ▸ e)
        · have := e2 r e; have := hk8.bel.size; omega
      obtain ⟨hxc1, hxc2⟩ := Q1D ha9
      rw [H4, fa]
      refine Pb hb9 (by simp) hxc1 hxc2 fun w10 u10 hb10 => ?_
      have hS10 := u10.stp hS9 hbtw hb9.1
      have k10 : Kpt (fun k => k = bt) w9 w10 := Kpt.of_upd u10 rfl
      refine O5 ?_
      refine Y5 hl3.max hn' ⟨σ8, x', hS10, le4.more ⟨fun b o e => hk8.le _ _ (hk56.le _ _ e)⟩, hb10, ?_, hm9.kp k10 hrbt, hxb', hxr', hfb2⟩
      have := ha9.kp k10 fun k hk e => hxb' (e ▸ hk)
      rw [List.take_add_one, List.getElem?_eq_getElem hn', ← List.append_assoc]
      exact this
  have hn' : ¬ n < l.length := by simpa using hh
  rw [List.take_of_length_le (by omega)] at ha4
  rw [List.drop_eq_nil_of_le (by omega)] at hfb
  have hfb : L8 L5 l 0 = none := hfb
  have hck := C8 hfb
  have hcf : ∀ c ∈ l, G3 c ∧ Nm c ∧ c.name ≠ [] := fun c hc => Ha (hck c hc)
  have hsmall : ∀ c ∈ Q8 l, G3 c := fun c hc => by
    rcases List.mem_append.1 hc with hc | hc
    · exact (Yc c hc).1
    · exact (hcf c hc).1
  have hnmall : ∀ c ∈ Q8 l, Nm c := fun c hc => by
    rcases List.mem_append.1 hc with hc | hc
    · exact (Yc c hc).2.1
    · exact (hcf c hc).2.1
  have hlenall : (Q8 l).length ≤ 100000 := by omega
  unfold Yt at h1 h0
  rw [hfb] at h1 h0
  simp only at h1 h0
  -- from now on the classes stay
  obtain ⟨σ5, hS5, hv5, le5, old5⟩ := ha4.keep hS4
  have hb5 : V4 σ5 w4 bt _ := ⟨(old5 bt fun e => hxb e.symm).trans hb4.1, hb4.2⟩
  have hm5 : N5 σ5 w4 r [] := ⟨(old5 r fun e => hxr e.symm).trans hm4.1, hm4.2⟩
  obtain ⟨σ6, hS6, hb6, le6, old6⟩ := hb5.keep hS5 hbtw
  have hm6 : N5 σ6 w4 r [] := ⟨(old6 r hrbt).trans hm5.1, hm5.2⟩
  have hv6 : Sl 8 U7 σ6 x (Q8 l) := hv5.le le6
  clear hb5 hb4 ha4
  rw [H4, fa]
  refine ld hS6.sat hb6 rfl ?_
  refine Q6 hv6 ?_
  refine V2 (Q8 l).length (fun n w' => ∃ σ' m, Stp w σ w' σ' ∧ SLe σ6 σ' ∧ N5 σ' w' r m ∧ (∀ k, E6 m k = (Y7 ((Q8 l).take n) k).map (fun i : Nat => I (i : Int))) ∧ ∀ j, j < n → (Y7 ((Q8 l).take j) (Y1 (Q8 l) j)).isSome = false)
    ⟨σ6, [], hS6, SLe.refl _, hm6, by simp [E6, Y7], by intro j hj; omega⟩ fun n w5 d hn2 hinv => ?_
  obtain ⟨σ7, m, hS7, le7, hm7, hlm, hnd⟩ := hinv
  refine Z5 ?_
  refine Q4 (fun hh2 => ?_) (fun hh2 => ?_)
  · have hn3 : n < (Q8 l).length := by simpa using hh2
    refine L2 (hv6.lift le7) hn3 fun p cells hl1 hl2 hr1 => ?_
    refine Y3 hS7.sat hl1 hl2 ?_
    refine Y0 hS7.sat (by rfl) hl2 (Rep.one hr1) fun q w6 σ8 hk8 hq8 => ?_
    obtain ⟨lv', fv, mv, rfl, f1, f2, f3, f4, f5⟩ := hr1
    have hS8 := hS7.trans hk8
    have le8 : SLe σ6 σ8 := le7.more ⟨hk8.le⟩
    have hm8 := hm7.up hk8
    have hb8 := hb6.lift le8
    rw [fa]
    refine ld hk8.sat hq8 rfl ?_
    refine Lw ?_
    unfold Xt
    rw [H4, fa]
    refine ld hk8.sat hb8 rfl ?_
    refine Q6j X7 hm8.2 _ ?_
    refine M5 (vs := [_, _]) rfl ?_
    refine M5 (vs := [_, _]) rfl ?_
    have hna := Bq hn3
    have hfd := hlm (Q8 l)[n].name
    cases hfc : Y7 ((Q8 l).take n) (Q8 l)[n].name with
    | some i =>
      rw [hfc] at hfd
      rw [hfd]
      refine F6 ?_
      have hdup : Ot (Q8 l) = some n := by
        unfold Ot
        rw [List.find?_range_eq_some]
        refine ⟨by rw [hna, hfc]; rfl, by simpa using hn3, fun j hj => by rw [hnd j hj]; rfl⟩
      refine Nx ⟨by omega, by omega⟩ ?_
      refine h1 _ _ _ _ ?_ hS8
      rw [hdup]
      rfl
    | none =>
      rw [hfc] at hfd
      rw [hfd]
      refine I7 ?_
      refine W1 hk8.sat ?_
      refine X2 (.pointer (some ⟨bt, 0, none⟩)) (fun w hb => by rw [H4]; exact X5 rfl) ?_
      refine X2 (.pointer (some ((⟨bt, 0, none⟩ : Addr).add 1))) (fun t w hb e => by rw [e, fa]; exact X5 rfl) ?_
      refine X2 (.pointer (some (q.add 0))) (fun w hb => by rw [fa]; exact X5 rfl) ?_
      refine X2 (.map (some r)) (fun t w hb e => by rw [e]; exact ld hb.sat hb8 rfl (X5 rfl)) ?_
      refine X2 (S (Q8 l)[n].name) (fun t w hb e => by rw [e]; exact ld hb.sat hq8 rfl (X5 rfl)) ?_
      rintro t71 t72 t74 t73 t75 w9 hb9 _ _ _ rfl rfl
      refine Bn X7 (hm8.up hb9.stp) _ (I n) fun w10 u10 hm10 => ?_
      have hS9 := hS8.trans hb9.stp
      have hS10 := u10.stp hS9 hrw hm10.1
      refine O5 ?_
      refine Y5 (by omega) hn3 ⟨σ8, _, hS10, le8, hm10, fun k => ?_, fun j hj => ?_⟩
      · rw [Q1C, Q4T hn3 k]
        by_cases e : (Q8 l)[n].name = k
        · subst e
          rw [if_pos rfl, hfc]; simp
        · rw [if_neg e, hlm k]
          cases Y7 ((Q8 l).take n) k with
          | some i => rfl
          | none => simp [e]
      · by_cases e : j = n
        · subst e; rw [hna, hfc]; rfl
        · exact hnd j (by omega)
  have hn3 : ¬ n < (Q8 l).length := by simpa using hh2
  have hne : n = (Q8 l).length := by omega
  subst hne
  rw [List.take_of_length_le (Nat.le_refl _)] at hlm
  have hdup : Ot (Q8 l) = none := by
    unfold Ot
    rw [List.find?_eq_none]
    intro j hj
    rw [hnd j (by simpa using hj)]; simp
  rw [hdup] at h1 h0
  simp only at h1 h0
  have hown := Bt hdup
  obtain ⟨σ8, hS8, hm8, le8, _⟩ := hm7.keep hS7 hrw
  have le68 : SLe σ6 σ8 := le7.more ⟨le8⟩
  have ht8 : Tab σ8 (.pointer (some ⟨bt, 0, none⟩)) (Q8 l) := ⟨⟨bt, 0, none⟩, x, r, m, rfl, hb6.lift le68, hv6.lift le68, hm8, hlm⟩
  have hb8 := hb6.lift le68
  have hv8 := hv6.lift le68
  clear hm7 hm8 hh2 hn3 hn2 hh hn' hn hnd
  have hdr : (Q8 l).drop 8 = l := by simp [Q8, hgl]
  rw [H4, fa]
  refine ld hS8.sat hb8 rfl ?_
  refine Ry hv8 (some (I (8 : Nat))) none 8 (Q8 l).length (.inr rfl) (.inl ⟨rfl, rfl⟩) (by omega) (Nat.le_refl _) fun v9 hv9 => ?_
  rw [hdr, List.take_of_length_le (by omega)] at hv9
  refine Q6 hv9 ?_
  refine V2 l.length (fun n w' => ∃ σ', Stp w σ w' σ' ∧ SLe σ8 σ' ∧ L8 (fun c => (uppersM (Q8 l) c : Int)) l 0 = L8 (fun c => (uppersM (Q8 l) c : Int)) (l.drop n) n) ⟨σ8, hS8, SLe.refl _, rfl⟩ fun n w6 d hn hinv => ?_
  obtain ⟨σ9, hS9, le9, hfu⟩ := hinv
  refine Z5 ?_
  refine Q4 (fun hh => ?_) (fun hh => ?_)
  · have hn' : n < l.length := by simpa using hh
    refine L2 (hv9.lift le9) hn' fun p cells hl1 hl2 hr1 => ?_
    refine Y3 hS9.sat hl1 hl2 ?_
    refine Y0 hS9.sat (by rfl) hl2 (Rep.one hr1) fun q w7 σ10 hk10 hq10 => ?_
    have hS10 := hS9.trans hk10
    refine Y3 hk10.sat hq10 hl2 ?_
    have hfu2 := Jj hn' hfu
    refine Q74 hk10.sat (ht8.lift (le9.more ⟨hk10.le⟩)) (H2 hr1 ⟨hk10.le⟩) fun w8 σ11 hk11 => ?_
    refine Na ?_
    refine Q4 (fun hh2 => ?_) (fun hh2 => ?_)
    · have hne : ¬ (uppersM (Q8 l) l[n] : Int) = 0 := by simpa using hh2
      rw [if_neg hne] at hfu2
      refine h1 _ _ _ _ ?_ (hS10.trans hk11)
      rw [hfu2]
    · have hz : (uppersM (Q8 l) l[n] : Int) = 0 := by simpa using hh2
      rw [if_pos hz] at hfu2
      refine O5 ?_
      exact Y5 hl3.max hn' ⟨σ11, hS10.trans hk11, le9.more ⟨fun b o e => hk11.le _ _ (hk10.le _ _ e)⟩, hfu2⟩
  have hn' : ¬ n < l.length := by simpa using hh
  rw [List.drop_eq_nil_of_le (by omega)] at hfu
  have hfu : L8 (fun c => (uppersM (Q8 l) c : Int)) l 0 = none := hfu
  rw [hfu] at h1 h0
  simp only at h1 h0
  have hup := C8 hfu
  have ht9 := ht8.lift le9
  clear hh hn' hn
  rw [H4, fa]
  refine ld hS9.sat (hb8.lift le9) rfl ?_
  refine Ry (hv8.lift le9) (some (I (8 : Nat))) none 8 (Q8 l).length (.inr rfl) (.inl ⟨rfl, rfl⟩) (by omega) (Nat.le_refl _) fun v10 hv10 => ?_
  rw [hdr, List.take_of_length_le (by omega)] at hv10
  rw [Xa]
  refine Rd (loopsM (Q8 l)) hS9.sat hv10 (fun c cs w7 K hc hs7 hr hlen hK => J4 (first := [.pointer (some ⟨bt, 0, none⟩)]) (caps := []) ?_) fun w7 hb7 => ?_
  · exact Q87 hs7 ht9 hlenall hsmall hr fun w' σ' hk => hK w' hk.bel
  have hS10 := hS9.trans (Stp.of_below hS9.sat hb7)
  refine Vh ?_
  rw [Yv]
  cases hlo : l.findIdx? (loopsM (Q8 l)) with
  | some i =>
    refine F6 ?_
    refine h1 _ _ _ _ ?_ hS10
    rw [hlo]; rfl
  | none =>
    rw [hlo] at h1 h0
    simp only at h1 h0
    refine I7 ?_
    have hlo' : ∀ c ∈ l, loopsM (Q8 l) c = false := fun c hc => List.findIdx?_eq_none_iff.1 hlo c hc
    have hacy := Q2I hown (fun c hc => (hcf c hc).2.2) hlo'
    have hfull : Q72 (Q8 l) := fun c hc u hu => by
      rcases List.mem_append.1 hc with hc | hc
      · rw [(Yc c hc).2.2] at hu; simp at hu
      · have := hup c hc
        unfold uppersM at this
        split at this
        · simp at this
        · split at this
          · simp at this
          · rename_i hnb
            have hnb : c.like.any (N0 (Q8 l)) = false := eq_false_of_ne_true hnb
            have := List.any_eq_false.1 hnb u hu
            unfold N0 at this
            cases hd : lk (Q8 l) u with
            | none => rw [hd] at this; simp at this
            | some d => exact ⟨d, rfl⟩
    have hok : Ok (Q8 l) := ⟨hacy, hlenall, hsmall, hfull, hnmall⟩
    refine Q8i (frm := 8) hS10.sat (ht9.lift ⟨(Stp.of_below hS9.sat hb7).le⟩) hacy hown hlenall hsmall (by omega) (by omega) fun v11 w8 σ11 hk11 hv11 hol hoi => ?_
    have hS11 := hS10.trans hk11
    have ht11 := ht9.lift ⟨fun b o e => hk11.le _ _ e⟩
    refine Q6 hv11 ?_
    have hil : (G5 (W0 (Q8 l) 8)).length = (W0 (Q8 l) 8).length := by simp
    rw [hil]
    refine V2 (W0 (Q8 l) 8).length (fun n w' => ∃ σ', Stp w σ w' σ' ∧ SLe σ11 σ' ∧ ∀ j ∈ (W0 (Q8 l) 8).take n, membersM (Q8 l) ((Q8 l).getD j Cla.zero) = 0) ⟨σ11, hS11, SLe.refl _, by simp⟩ fun n w9 d hn hinv => ?_
    obtain ⟨σ12, hS12, le12, hno⟩ := hinv
    refine Z5 ?_
    refine Q4 (fun hh => ?_) (fun hh => ?_)
    · have hn' : n < (W0 (Q8 l) 8).length := by simpa using hh
      refine L2 (hv11.lift le12) (by rw [hil]; exact hn') fun p cells hl1 hl2 hr1 => ?_
      obtain ⟨rfl, _⟩ := hr1
      refine X8 hS12.sat hl1 rfl ?_
      simp only [List.getElem_map]
      rw [H4, fa]
      have le8x : SLe σ8 σ12 := le9.more (SLe.more ⟨hk11.le⟩ le12)
      refine ld hS12.sat (hb8.lift le8x) rfl ?_
      have hji := hoi _ (List.getElem_mem hn')
      refine L2 (hv8.lift le8x) hji fun p2 cells hl1 hl2 hr1 => ?_
      refine Y3 hS12.sat hl1 hl2 ?_
      have hat : (Q8 l).getD (W0 (Q8 l) 8)[n] Cla.zero = (Q8 l)[(W0 (Q8 l) 8)[n]] := by rw [List.getD_eq_getElem?_getD, List.getElem?_eq_getElem hji]; rfl
      have hmem := List.getElem_mem hji
      refine Q5M hS12.sat (ht11.lift le12) hok hr1 (hsmall _ hmem) (hnmall _ hmem) fun w10 σ13 hk13 => ?_
      have hS13 := hS12.trans hk13
      refine Na ?_
      refine Q4 (fun hh2 => ?_) (fun hh2 => ?_)
      · have hne : ¬ membersM (Q8 l) (Q8 l)[(W0 (Q8 l) 8)[n]] = 0 := by simpa using hh2
        refine Nx ⟨by omega, by omega⟩ ?_
        have hfind : (W0 (Q8 l) 8).find? (fun j => !decide (membersM (Q8 l) ((Q8 l).getD j Cla.zero) = 0)) = some (W0 (Q8 l) 8)[n] := by
          rw [List.find?_eq_some_iff_getElem]
          refine ⟨by rw [hat]; simpa using hne, n, hn', rfl, fun j hj => ?_⟩
          have := hno _ (List.mem_take_iff_getElem.2 ⟨j, by omega, rfl⟩)
          rw [this]; simp
        have := h1 (((W0 (Q8 l) 8)[n] : Int) - 8) (membersM (Q8 l) (Q8 l)[(W0 (Q8 l) 8)[n]]) w10 σ13 (by rw [hfind]; simp only [hat]) hS13
        exact this
      · have hz : membersM (Q8 l) (Q8 l)[(W0 (Q8 l) 8)[n]] = 0 := by simpa using hh2
        refine O5 ?_
        refine Y5 (by omega) hn' ⟨σ13, hS13, le12.more ⟨hk13.le⟩, fun j hj => ?_⟩
        rw [List.take_add_one, List.getElem?_eq_getElem hn'] at hj
        rcases List.mem_append.1 hj with hj | hj
        · exact hno j hj
        · simp at hj; subst hj; rw [hat]; exact hz
    · have hn' : ¬ n < (W0 (Q8 l) 8).length := by simpa using hh
      rw [List.take_of_length_le (by omega)] at hno
      have hfind : (W0 (Q8 l) 8).find? (fun j => !decide (membersM (Q8 l) ((Q8 l).getD j Cla.zero) = 0)) = none := by
        rw [List.find?_eq_none]
        intro j hj
        rw [hno j hj]; simp
      rw [hfind] at h0
      exact h0 _ _ _ rfl hS12 (ht11.lift le12) hok hown)
end Go.Proofs.YtdnfaboigajkhaaGreatDoor
