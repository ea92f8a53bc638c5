/- Parts of a proof about the given program: its functions as texts of their own, what each computes, plain laws of that. The conditions of each stand in its statement. -/
import Derived.Test.YtdnfaboigajkhaaGreatDoorB2
import Derived.Shelf.Strings.Builder1
import Derived.Shelf.Strings.Builder2
import Derived.Shelf.Strings.OnBuilder
import Derived.Shelf.Strings.Trim
import Derived.Shelf.Small.Utf8
import Derived.Shelf.Small.Strs
import Derived.Shelf.Small.Wraps
import Derived.Shelf.Strings.BuilderF
import Derived.Shelf.Strings.BuilderK
import Derived.Shelf.Strings.Builder2Cap
import Derived.Shelf.Strings.Search1
import Derived.Shelf.Strings.Search2
import Derived.Shelf.Strings.Search3
import Derived.Shelf.Strings.Cut
import Derived.Shelf.LaysM
import Derived.Shelf.Strings.Shaped
import Derived.Shelf.Strings.Prefix
import Derived.Shelf.Unicode.Decode
import Derived.Shelf.Strings.Runes
import Derived.Shelf.Strings.AsciiSet
import Derived.Shelf.Unicode.DecodeSlow
import Derived.Shelf.Unicode.DecodeAny
import Derived.Shelf.Unicode.DecodeLast
import Derived.Shelf.Slices.Turned
import Derived.Ground.Names2Prog
import Derived.Shelf.Slices.Clone
import Derived.Ground.SlgnProg
import Derived.Shelf.SlicesE.Clone
import Derived.Shelf.Unicode.ValidAny
import Derived.Test.YtdnfaboigajkhaaGreatDoorProg
import Derived.Test.YtdnfaboigajkhaaGreatDoorRows
import Derived.Lib.LaidU8T
import Derived.OpenShut
import Derived.MakeChecks
import Derived.WideShapes
import Derived.Deep.AppendSrc
set_option linter.defProp false
set_option linter.unusedSectionVars false
set_option linter.unusedVariables false
set_option linter.unusedSimpArgs false
set_option autoImplicit false
set_option linter.unusedSimpArgs false
set_option linter.unusedVariables false
namespace Go.Emb
def scan {α β : Type} (stp : β → α → Bool × β) : β → List α → Nat → Option Nat × β
  | s, [], _ => (none, s)
  | s, x :: xs, i => if (stp s x).1 then (some i, (stp s x).2) else scan stp (stp s x).2 xs (i + 1)
def idxI (o : Option Nat) : Int := match o with | some i => i | none => -1
theorem scan_pure {α : Type} (p : α → Bool) : ∀ (xs : List α) (i : Nat), (scan (fun (_ : Unit) x => (p x, ())) () xs i).1 = (xs.findIdx? p).map (· + i) := by
  intro xs
  induction xs with
  | nil => intro i; rfl
  | cons x r ih =>
    intro i
    rw [List.findIdx?_cons]
    simp only [scan]
    cases p x with
    | true => simp
    | false =>
      simp only [Bool.false_eq_true, if_false]
      rw [ih (i + 1), Option.map_map]
      congr 1; funext n; simp only [Function.comp]; omega
theorem scan_any {α β : Type} (stp : β → α → Bool × β) (s : β) (xs : List α) (i : Nat) : decide ((0 : Int) ≤ idxI (scan stp s xs i).1) = (scan stp s xs i).1.isSome := by
  cases (scan stp s xs i).1 <;> simp [idxI]
end Go.Emb
namespace Go.Proofs.YtdnfaboigajkhaaGreatDoor
open Go.Emb Go.RowKit Go.Kd Go.Hm
variable {w : World} {K : Value → World → Prop} {σ : Store}
theorem s_IndexFunc_api_Method {β : Type} {xs : List Hm.Met} {v f : Value} (stp : β → Hm.Met → Bool × β) (s0 : β) (Inv : β → World → Prop) (D : Nat → Prop) (hsat : ∀ s w, Inv s w → Sat w σ) (h0 : Inv s0 w) (hv : Sl 7 RMe σ v xs)
    (hf : ∀ s x cs (w1 : World) (K : Value → World → Prop), x ∈ xs → Kpt D w w1 → Inv s w1 → RMe σ x cs → cs.length = 7 → (∀ w', Kpt D w w' → Inv (stp s x).2 w' → K (.bool (stp s x).1) w') → callV P f [.agg cs.toArray] w1 K)
    (h : ∀ w', Kpt D w w' → Inv (scan stp s0 xs 0).2 w' → K (I (idxI (scan stp s0 xs 0).1)) w') : callF P F.slices_IndexFunc_S_api_Method_api_Method [v, f] w K := r_slices_IndexFunc_S_api_Method_api_Method (by
  unfold g_slices_IndexFunc_S_api_Method_api_Method
  ((try simp only [↓Mm, Mm, ↓Mr, Mr, Mb, reduceIte]); repeat ((first | refine ld (by assumption) (by assumption) rfl ?_ | refine ld0 (by assumption) (by assumption) rfl ?_ | refine len_slK (by assumption) ?_); (try simp only [↓Mm, Mm, ↓Mr, Mr, Mb, reduceIte])))
  refine lp_up xs.length (fun n w' => Kpt D w w' ∧ ∃ s, Inv s w' ∧ scan stp s0 xs 0 = scan stp s (xs.drop n) n) ⟨Kpt.refl, s0, h0, rfl⟩ fun n w1 d hn hi => ?_
  obtain ⟨hk, s, hi, he⟩ := hi
  have hs1 := hsat s w1 hi
  ((try simp only [↓Mm, Mm, ↓Mr, Mr, Mb, reduceIte]); repeat ((first | refine ld (by assumption) (by assumption) rfl ?_ | refine ld0 (by assumption) (by assumption) rfl ?_ | refine len_slK (by assumption) ?_); (try simp only [↓Mm, Mm, ↓Mr, Mr, Mb, reduceIte])))
  refine cnd_split (fun hc => ?_) (fun hc => ?_)
  · have hn' : n < xs.length := by simpa using hc
    refine ix_slN hv hn' fun p cs hl hlen hr => ?_
    refine lda hs1 hl hlen ?_
    refine hf s xs[n] cs w1 _ (List.getElem_mem hn') hk hi hr hlen fun w2 hk2 hi2 => ?_
    rw [List.drop_eq_getElem_cons hn'] at he
    simp only [scan] at he
    refine cnd_split (fun hb => ?_) (fun hb => ?_)
    · rw [hb] at he
      have := h w2 hk2
      rw [he] at this
      exact this hi2
    · rw [hb] at he
      ((try simp only [↓Mm, Mm, ↓Mr, Mr, Mb, reduceIte]); repeat ((first | refine ld (by assumption) (by assumption) rfl ?_ | refine ld0 (by assumption) (by assumption) rfl ?_ | refine len_slK (by assumption) ?_); (try simp only [↓Mm, Mm, ↓Mr, Mr, Mb, reduceIte])))
      exact up_next hv.max hn' ⟨hk2, _, hi2, by simpa using he⟩
  · have hn' : ¬ n < xs.length := by simpa using hc
    rw [List.drop_eq_nil_of_le (by omega)] at he
    have := h w1 hk
    rw [he] at this
    exact this hi)
theorem s_ContainsFunc_api_Method {β : Type} {xs : List Hm.Met} {v f : Value} (stp : β → Hm.Met → Bool × β) (s0 : β) (Inv : β → World → Prop) (D : Nat → Prop) (hsat : ∀ s w, Inv s w → Sat w σ) (h0 : Inv s0 w) (hv : Sl 7 RMe σ v xs)
    (hf : ∀ s x cs (w1 : World) (K : Value → World → Prop), x ∈ xs → Kpt D w w1 → Inv s w1 → RMe σ x cs → cs.length = 7 → (∀ w', Kpt D w w' → Inv (stp s x).2 w' → K (.bool (stp s x).1) w') → callV P f [.agg cs.toArray] w1 K)
    (h : ∀ w', Kpt D w w' → Inv (scan stp s0 xs 0).2 w' → K (.bool (scan stp s0 xs 0).1.isSome) w') : callF P F.slices_ContainsFunc_S_api_Method_api_Method [v, f] w K := r_slices_ContainsFunc_S_api_Method_api_Method (by
  unfold g_slices_ContainsFunc_S_api_Method_api_Method
  refine s_IndexFunc_api_Method stp s0 Inv D hsat h0 hv hf fun w1 hk hi => ?_
  (try simp only [↓Mm, Mm, ↓Mr, Mr, Mb, reduceIte])
  rw [scan_any]
  exact h w1 hk hi)
theorem c_IndexFunc_api_Method {xs : List Hm.Met} {v f : Value} (p : Hm.Met → Bool) (hs : Sat w σ) (hv : Sl 7 RMe σ v xs)
    (hf : ∀ x cs (w1 : World) (K : Value → World → Prop), x ∈ xs → Sat w1 σ → RMe σ x cs → cs.length = 7 → (∀ w', Below w1.heap.size w1 w' → K (.bool (p x)) w') → callV P f [.agg cs.toArray] w1 K)
    (h : ∀ w', Below w.heap.size w w' → K (I (idxI (xs.findIdx? p))) w') : callF P F.slices_IndexFunc_S_api_Method_api_Method [v, f] w K := by
  refine s_IndexFunc_api_Method (fun (_ : Unit) x => (p x, ())) () (fun _ w' => Below w.heap.size w w') (fun _ => False) (fun _ w' hb => hs.below hb) (Below.refl _ _) hv (fun s x cs w1 K hx hk hi hr hl hK => hf x cs w1 K hx (hs.below hi) hr hl fun w' hb => hK w' (.of_below (bt hi hb)) (bt hi hb)) fun w' hk hi => ?_
  rw [scan_pure]
  simpa using h w' hi
theorem c_ContainsFunc_api_Method {xs : List Hm.Met} {v f : Value} (p : Hm.Met → Bool) (hs : Sat w σ) (hv : Sl 7 RMe σ v xs)
    (hf : ∀ x cs (w1 : World) (K : Value → World → Prop), x ∈ xs → Sat w1 σ → RMe σ x cs → cs.length = 7 → (∀ w', Below w1.heap.size w1 w' → K (.bool (p x)) w') → callV P f [.agg cs.toArray] w1 K)
    (h : ∀ w', Below w.heap.size w w' → K (.bool (xs.any p)) w') : callF P F.slices_ContainsFunc_S_api_Method_api_Method [v, f] w K := by
  refine s_ContainsFunc_api_Method (fun (_ : Unit) x => (p x, ())) () (fun _ w' => Below w.heap.size w w') (fun _ => False) (fun _ w' hb => hs.below hb) (Below.refl _ _) hv (fun s x cs w1 K hx hk hi hr hl hK => hf x cs w1 K hx (hs.below hi) hr hl fun w' hb => hK w' (.of_below (bt hi hb)) (bt hi hb)) fun w' hk hi => ?_
  rw [scan_pure]
  simpa using h w' hi
theorem s_IndexFunc_api_Field {β : Type} {xs : List Fld} {v f : Value} (stp : β → Fld → Bool × β) (s0 : β) (Inv : β → World → Prop) (D : Nat → Prop) (hsat : ∀ s w, Inv s w → Sat w σ) (h0 : Inv s0 w) (hv : Sl 3 RFd σ v xs)
    (hf : ∀ s x cs (w1 : World) (K : Value → World → Prop), x ∈ xs → Kpt D w w1 → Inv s w1 → RFd σ x cs → cs.length = 3 → (∀ w', Kpt D w w' → Inv (stp s x).2 w' → K (.bool (stp s x).1) w') → callV P f [.agg cs.toArray] w1 K)
    (h : ∀ w', Kpt D w w' → Inv (scan stp s0 xs 0).2 w' → K (I (idxI (scan stp s0 xs 0).1)) w') : callF P F.slices_IndexFunc_S_api_Field_api_Field [v, f] w K := r_slices_IndexFunc_S_api_Field_api_Field (by
  unfold g_slices_IndexFunc_S_api_Field_api_Field
  ((try simp only [↓Mm, Mm, ↓Mr, Mr, Mb, reduceIte]); repeat ((first | refine ld (by assumption) (by assumption) rfl ?_ | refine ld0 (by assumption) (by assumption) rfl ?_ | refine len_slK (by assumption) ?_); (try simp only [↓Mm, Mm, ↓Mr, Mr, Mb, reduceIte])))
  refine lp_up xs.length (fun n w' => Kpt D w w' ∧ ∃ s, Inv s w' ∧ scan stp s0 xs 0 = scan stp s (xs.drop n) n) ⟨Kpt.refl, s0, h0, rfl⟩ fun n w1 d hn hi => ?_
  obtain ⟨hk, s, hi, he⟩ := hi
  have hs1 := hsat s w1 hi
  ((try simp only [↓Mm, Mm, ↓Mr, Mr, Mb, reduceIte]); repeat ((first | refine ld (by assumption) (by assumption) rfl ?_ | refine ld0 (by assumption) (by assumption) rfl ?_ | refine len_slK (by assumption) ?_); (try simp only [↓Mm, Mm, ↓Mr, Mr, Mb, reduceIte])))
  refine cnd_split (fun hc => ?_) (fun hc => ?_)
  · have hn' : n < xs.length := by simpa using hc
    refine ix_slN hv hn' fun p cs hl hlen hr => ?_
    refine lda hs1 hl hlen ?_
    refine hf s xs[n] cs w1 _ (List.getElem_mem hn') hk hi hr hlen fun w2 hk2 hi2 => ?_
    rw [List.drop_eq_getElem_cons hn'] at he
    simp only [scan] at he
    refine cnd_split (fun hb => ?_) (fun hb => ?_)
    · rw [hb] at he
      have := h w2 hk2
      rw [he] at this
      exact this hi2
    · rw [hb] at he
      ((try simp only [↓Mm, Mm, ↓Mr, Mr, Mb, reduceIte]); repeat ((first | refine ld (by assumption) (by assumption) rfl ?_ | refine ld0 (by assumption) (by assumption) rfl ?_ | refine len_slK (by assumption) ?_); (try simp only [↓Mm, Mm, ↓Mr, Mr, Mb, reduceIte])))
      exact up_next hv.max hn' ⟨hk2, _, hi2, by simpa using he⟩
  · have hn' : ¬ n < xs.length := by simpa using hc
    rw [List.drop_eq_nil_of_le (by omega)] at he
    have := h w1 hk
    rw [he] at this
    exact this hi)
theorem s_ContainsFunc_api_Field {β : Type} {xs : List Fld} {v f : Value} (stp : β → Fld → Bool × β) (s0 : β) (Inv : β → World → Prop) (D : Nat → Prop) (hsat : ∀ s w, Inv s w → Sat w σ) (h0 : Inv s0 w) (hv : Sl 3 RFd σ v xs)
    (hf : ∀ s x cs (w1 : World) (K : Value → World → Prop), x ∈ xs → Kpt D w w1 → Inv s w1 → RFd σ x cs → cs.length = 3 → (∀ w', Kpt D w w' → Inv (stp s x).2 w' → K (.bool (stp s x).1) w') → callV P f [.agg cs.toArray] w1 K)
    (h : ∀ w', Kpt D w w' → Inv (scan stp s0 xs 0).2 w' → K (.bool (scan stp s0 xs 0).1.isSome) w') : callF P F.slices_ContainsFunc_S_api_Field_api_Field [v, f] w K := r_slices_ContainsFunc_S_api_Field_api_Field (by
  unfold g_slices_ContainsFunc_S_api_Field_api_Field
  refine s_IndexFunc_api_Field stp s0 Inv D hsat h0 hv hf fun w1 hk hi => ?_
  (try simp only [↓Mm, Mm, ↓Mr, Mr, Mb, reduceIte])
  rw [scan_any]
  exact h w1 hk hi)
theorem c_IndexFunc_api_Field {xs : List Fld} {v f : Value} (p : Fld → Bool) (hs : Sat w σ) (hv : Sl 3 RFd σ v xs)
    (hf : ∀ x cs (w1 : World) (K : Value → World → Prop), x ∈ xs → Sat w1 σ → RFd σ x cs → cs.length = 3 → (∀ w', Below w1.heap.size w1 w' → K (.bool (p x)) w') → callV P f [.agg cs.toArray] w1 K)
    (h : ∀ w', Below w.heap.size w w' → K (I (idxI (xs.findIdx? p))) w') : callF P F.slices_IndexFunc_S_api_Field_api_Field [v, f] w K := by
  refine s_IndexFunc_api_Field (fun (_ : Unit) x => (p x, ())) () (fun _ w' => Below w.heap.size w w') (fun _ => False) (fun _ w' hb => hs.below hb) (Below.refl _ _) hv (fun s x cs w1 K hx hk hi hr hl hK => hf x cs w1 K hx (hs.below hi) hr hl fun w' hb => hK w' (.of_below (bt hi hb)) (bt hi hb)) fun w' hk hi => ?_
  rw [scan_pure]
  simpa using h w' hi
theorem c_ContainsFunc_api_Field {xs : List Fld} {v f : Value} (p : Fld → Bool) (hs : Sat w σ) (hv : Sl 3 RFd σ v xs)
    (hf : ∀ x cs (w1 : World) (K : Value → World → Prop), x ∈ xs → Sat w1 σ → RFd σ x cs → cs.length = 3 → (∀ w', Below w1.heap.size w1 w' → K (.bool (p x)) w') → callV P f [.agg cs.toArray] w1 K)
    (h : ∀ w', Below w.heap.size w w' → K (.bool (xs.any p)) w') : callF P F.slices_ContainsFunc_S_api_Field_api_Field [v, f] w K := by
  refine s_ContainsFunc_api_Field (fun (_ : Unit) x => (p x, ())) () (fun _ w' => Below w.heap.size w w') (fun _ => False) (fun _ w' hb => hs.below hb) (Below.refl _ _) hv (fun s x cs w1 K hx hk hi hr hl hK => hf x cs w1 K hx (hs.below hi) hr hl fun w' hb => hK w' (.of_below (bt hi hb)) (bt hi hb)) fun w' hk hi => ?_
  rw [scan_pure]
  simpa using h w' hi
theorem s_IndexFunc_api_Instr {β : Type} {xs : List Ins} {v f : Value} (stp : β → Ins → Bool × β) (s0 : β) (Inv : β → World → Prop) (D : Nat → Prop) (hsat : ∀ s w, Inv s w → Sat w σ) (h0 : Inv s0 w) (hv : Sl 3 RIn σ v xs)
    (hf : ∀ s x cs (w1 : World) (K : Value → World → Prop), x ∈ xs → Kpt D w w1 → Inv s w1 → RIn σ x cs → cs.length = 3 → (∀ w', Kpt D w w' → Inv (stp s x).2 w' → K (.bool (stp s x).1) w') → callV P f [.agg cs.toArray] w1 K)
    (h : ∀ w', Kpt D w w' → Inv (scan stp s0 xs 0).2 w' → K (I (idxI (scan stp s0 xs 0).1)) w') : callF P F.slices_IndexFunc_S_api_Instr_api_Instr [v, f] w K := r_slices_IndexFunc_S_api_Instr_api_Instr (by
  unfold g_slices_IndexFunc_S_api_Instr_api_Instr
  ((try simp only [↓Mm, Mm, ↓Mr, Mr, Mb, reduceIte]); repeat ((first | refine ld (by assumption) (by assumption) rfl ?_ | refine ld0 (by assumption) (by assumption) rfl ?_ | refine len_slK (by assumption) ?_); (try simp only [↓Mm, Mm, ↓Mr, Mr, Mb, reduceIte])))
  refine lp_up xs.length (fun n w' => Kpt D w w' ∧ ∃ s, Inv s w' ∧ scan stp s0 xs 0 = scan stp s (xs.drop n) n) ⟨Kpt.refl, s0, h0, rfl⟩ fun n w1 d hn hi => ?_
  obtain ⟨hk, s, hi, he⟩ := hi
  have hs1 := hsat s w1 hi
  ((try simp only [↓Mm, Mm, ↓Mr, Mr, Mb, reduceIte]); repeat ((first | refine ld (by assumption) (by assumption) rfl ?_ | refine ld0 (by assumption) (by assumption) rfl ?_ | refine len_slK (by assumption) ?_); (try simp only [↓Mm, Mm, ↓Mr, Mr, Mb, reduceIte])))
  refine cnd_split (fun hc => ?_) (fun hc => ?_)
  · have hn' : n < xs.length := by simpa using hc
    refine ix_slN hv hn' fun p cs hl hlen hr => ?_
    refine lda hs1 hl hlen ?_
    refine hf s xs[n] cs w1 _ (List.getElem_mem hn') hk hi hr hlen fun w2 hk2 hi2 => ?_
    rw [List.drop_eq_getElem_cons hn'] at he
    simp only [scan] at he
    refine cnd_split (fun hb => ?_) (fun hb => ?_)
    · rw [hb] at he
      have := h w2 hk2
      rw [he] at this
      exact this hi2
    · rw [hb] at he
      ((try simp only [↓Mm, Mm, ↓Mr, Mr, Mb, reduceIte]); repeat ((first | refine ld (by assumption) (by assumption) rfl ?_ | refine ld0 (by assumption) (by assumption) rfl ?_ | refine len_slK (by assumption) ?_); (try simp only [↓Mm, Mm, ↓Mr, Mr, Mb, reduceIte])))
      exact up_next hv.max hn' ⟨hk2, _, hi2, by simpa using he⟩
  · have hn' : ¬ n < xs.length := by simpa using hc
    rw [List.drop_eq_nil_of_le (by omega)] at he
    have := h w1 hk
    rw [he] at this
    exact this hi)
theorem s_ContainsFunc_api_Instr {β : Type} {xs : List Ins} {v f : Value} (stp : β → Ins → Bool × β) (s0 : β) (Inv : β → World → Prop) (D : Nat → Prop) (hsat : ∀ s w, Inv s w → Sat w σ) (h0 : Inv s0 w) (hv : Sl 3 RIn σ v xs)
    (hf : ∀ s x cs (w1 : World) (K : Value → World → Prop), x ∈ xs → Kpt D w w1 → Inv s w1 → RIn σ x cs → cs.length = 3 → (∀ w', Kpt D w w' → Inv (stp s x).2 w' → K (.bool (stp s x).1) w') → callV P f [.agg cs.toArray] w1 K)
    (h : ∀ w', Kpt D w w' → Inv (scan stp s0 xs 0).2 w' → K (.bool (scan stp s0 xs 0).1.isSome) w') : callF P F.slices_ContainsFunc_S_api_Instr_api_Instr [v, f] w K := r_slices_ContainsFunc_S_api_Instr_api_Instr (by
  unfold g_slices_ContainsFunc_S_api_Instr_api_Instr
  refine s_IndexFunc_api_Instr stp s0 Inv D hsat h0 hv hf fun w1 hk hi => ?_
  (try simp only [↓Mm, Mm, ↓Mr, Mr, Mb, reduceIte])
  rw [scan_any]
  exact h w1 hk hi)
theorem c_ContainsFunc_api_Instr {xs : List Ins} {v f : Value} (p : Ins → Bool) (hs : Sat w σ) (hv : Sl 3 RIn σ v xs)
    (hf : ∀ x cs (w1 : World) (K : Value → World → Prop), x ∈ xs → Sat w1 σ → RIn σ x cs → cs.length = 3 → (∀ w', Below w1.heap.size w1 w' → K (.bool (p x)) w') → callV P f [.agg cs.toArray] w1 K)
    (h : ∀ w', Below w.heap.size w w' → K (.bool (xs.any p)) w') : callF P F.slices_ContainsFunc_S_api_Instr_api_Instr [v, f] w K := by
  refine s_ContainsFunc_api_Instr (fun (_ : Unit) x => (p x, ())) () (fun _ w' => Below w.heap.size w w') (fun _ => False) (fun _ w' hb => hs.below hb) (Below.refl _ _) hv (fun s x cs w1 K hx hk hi hr hl hK => hf x cs w1 K hx (hs.below hi) hr hl fun w' hb => hK w' (.of_below (bt hi hb)) (bt hi hb)) fun w' hk hi => ?_
  rw [scan_pure]
  simpa using h w' hi
theorem s_IndexFunc_api_Catch {β : Type} {xs : List Cat} {v f : Value} (stp : β → Cat → Bool × β) (s0 : β) (Inv : β → World → Prop) (D : Nat → Prop) (hsat : ∀ s w, Inv s w → Sat w σ) (h0 : Inv s0 w) (hv : Sl 4 RCa σ v xs)
    (hf : ∀ s x cs (w1 : World) (K : Value → World → Prop), x ∈ xs → Kpt D w w1 → Inv s w1 → RCa σ x cs → cs.length = 4 → (∀ w', Kpt D w w' → Inv (stp s x).2 w' → K (.bool (stp s x).1) w') → callV P f [.agg cs.toArray] w1 K)
    (h : ∀ w', Kpt D w w' → Inv (scan stp s0 xs 0).2 w' → K (I (idxI (scan stp s0 xs 0).1)) w') : callF P F.slices_IndexFunc_S_api_Catch_api_Catch [v, f] w K := r_slices_IndexFunc_S_api_Catch_api_Catch (by
  unfold g_slices_IndexFunc_S_api_Catch_api_Catch
  ((try simp only [↓Mm, Mm, ↓Mr, Mr, Mb, reduceIte]); repeat ((first | refine ld (by assumption) (by assumption) rfl ?_ | refine ld0 (by assumption) (by assumption) rfl ?_ | refine len_slK (by assumption) ?_); (try simp only [↓Mm, Mm, ↓Mr, Mr, Mb, reduceIte])))
  refine lp_up xs.length (fun n w' => Kpt D w w' ∧ ∃ s, Inv s w' ∧ scan stp s0 xs 0 = scan stp s (xs.drop n) n) ⟨Kpt.refl, s0, h0, rfl⟩ fun n w1 d hn hi => ?_
  obtain ⟨hk, s, hi, he⟩ := hi
  have hs1 := hsat s w1 hi
  ((try simp only [↓Mm, Mm, ↓Mr, Mr, Mb, reduceIte]); repeat ((first | refine ld (by assumption) (by assumption) rfl ?_ | refine ld0 (by assumption) (by assumption) rfl ?_ | refine len_slK (by assumption) ?_); (try simp only [↓Mm, Mm, ↓Mr, Mr, Mb, reduceIte])))
  refine cnd_split (fun hc => ?_) (fun hc => ?_)
  · have hn' : n < xs.length := by simpa using hc
    refine ix_slN hv hn' fun p cs hl hlen hr => ?_
    refine lda hs1 hl hlen ?_
    refine hf s xs[n] cs w1 _ (List.getElem_mem hn') hk hi hr hlen fun w2 hk2 hi2 => ?_
    rw [List.drop_eq_getElem_cons hn'] at he
    simp only [scan] at he
    refine cnd_split (fun hb => ?_) (fun hb => ?_)
    · rw [hb] at he
      have := h w2 hk2
      rw [he] at this
      exact this hi2
    · rw [hb] at he
      ((try simp only [↓Mm, Mm, ↓Mr, Mr, Mb, reduceIte]); repeat ((first | refine ld (by assumption) (by assumption) rfl ?_ | refine ld0 (by assumption) (by assumption) rfl ?_ | refine len_slK (by assumption) ?_); (try simp only [↓Mm, Mm, ↓Mr, Mr, Mb, reduceIte])))
      exact up_next hv.max hn' ⟨hk2, _, hi2, by simpa using he⟩
  · have hn' : ¬ n < xs.length := by simpa using hc
    rw [List.drop_eq_nil_of_le (by omega)] at he
    have := h w1 hk
    rw [he] at this
    exact this hi)
theorem s_ContainsFunc_api_Catch {β : Type} {xs : List Cat} {v f : Value} (stp : β → Cat → Bool × β) (s0 : β) (Inv : β → World → Prop) (D : Nat → Prop) (hsat : ∀ s w, Inv s w → Sat w σ) (h0 : Inv s0 w) (hv : Sl 4 RCa σ v xs)
    (hf : ∀ s x cs (w1 : World) (K : Value → World → Prop), x ∈ xs → Kpt D w w1 → Inv s w1 → RCa σ x cs → cs.length = 4 → (∀ w', Kpt D w w' → Inv (stp s x).2 w' → K (.bool (stp s x).1) w') → callV P f [.agg cs.toArray] w1 K)
    (h : ∀ w', Kpt D w w' → Inv (scan stp s0 xs 0).2 w' → K (.bool (scan stp s0 xs 0).1.isSome) w') : callF P F.slices_ContainsFunc_S_api_Catch_api_Catch [v, f] w K := r_slices_ContainsFunc_S_api_Catch_api_Catch (by
  unfold g_slices_ContainsFunc_S_api_Catch_api_Catch
  refine s_IndexFunc_api_Catch stp s0 Inv D hsat h0 hv hf fun w1 hk hi => ?_
  (try simp only [↓Mm, Mm, ↓Mr, Mr, Mb, reduceIte])
  rw [scan_any]
  exact h w1 hk hi)
theorem c_ContainsFunc_api_Catch {xs : List Cat} {v f : Value} (p : Cat → Bool) (hs : Sat w σ) (hv : Sl 4 RCa σ v xs)
    (hf : ∀ x cs (w1 : World) (K : Value → World → Prop), x ∈ xs → Sat w1 σ → RCa σ x cs → cs.length = 4 → (∀ w', Below w1.heap.size w1 w' → K (.bool (p x)) w') → callV P f [.agg cs.toArray] w1 K)
    (h : ∀ w', Below w.heap.size w w' → K (.bool (xs.any p)) w') : callF P F.slices_ContainsFunc_S_api_Catch_api_Catch [v, f] w K := by
  refine s_ContainsFunc_api_Catch (fun (_ : Unit) x => (p x, ())) () (fun _ w' => Below w.heap.size w w') (fun _ => False) (fun _ w' hb => hs.below hb) (Below.refl _ _) hv (fun s x cs w1 K hx hk hi hr hl hK => hf x cs w1 K hx (hs.below hi) hr hl fun w' hb => hK w' (.of_below (bt hi hb)) (bt hi hb)) fun w' hk hi => ?_
  rw [scan_pure]
  simpa using h w' hi
theorem s_IndexFunc_api_Class {β : Type} {xs : List Cla} {v f : Value} (stp : β → Cla → Bool × β) (s0 : β) (Inv : β → World → Prop) (D : Nat → Prop) (hsat : ∀ s w, Inv s w → Sat w σ) (h0 : Inv s0 w) (hv : Sl 8 RCl σ v xs)
    (hf : ∀ s x cs (w1 : World) (K : Value → World → Prop), x ∈ xs → Kpt D w w1 → Inv s w1 → RCl σ x cs → cs.length = 8 → (∀ w', Kpt D w w' → Inv (stp s x).2 w' → K (.bool (stp s x).1) w') → callV P f [.agg cs.toArray] w1 K)
    (h : ∀ w', Kpt D w w' → Inv (scan stp s0 xs 0).2 w' → K (I (idxI (scan stp s0 xs 0).1)) w') : callF P F.slices_IndexFunc_S_api_Class_api_Class [v, f] w K := r_slices_IndexFunc_S_api_Class_api_Class (by
  unfold g_slices_IndexFunc_S_api_Class_api_Class
  ((try simp only [↓Mm, Mm, ↓Mr, Mr, Mb, reduceIte]); repeat ((first | refine ld (by assumption) (by assumption) rfl ?_ | refine ld0 (by assumption) (by assumption) rfl ?_ | refine len_slK (by assumption) ?_); (try simp only [↓Mm, Mm, ↓Mr, Mr, Mb, reduceIte])))
  refine lp_up xs.length (fun n w' => Kpt D w w' ∧ ∃ s, Inv s w' ∧ scan stp s0 xs 0 = scan stp s (xs.drop n) n) ⟨Kpt.refl, s0, h0, rfl⟩ fun n w1 d hn hi => ?_
  obtain ⟨hk, s, hi, he⟩ := hi
  have hs1 := hsat s w1 hi
  ((try simp only [↓Mm, Mm, ↓Mr, Mr, Mb, reduceIte]); repeat ((first | refine ld (by assumption) (by assumption) rfl ?_ | refine ld0 (by assumption) (by assumption) rfl ?_ | refine len_slK (by assumption) ?_); (try simp only [↓Mm, Mm, ↓Mr, Mr, Mb, reduceIte])))
  refine cnd_split (fun hc => ?_) (fun hc => ?_)
  · have hn' : n < xs.length := by simpa using hc
    refine ix_slN hv hn' fun p cs hl hlen hr => ?_
    refine lda hs1 hl hlen ?_
    refine hf s xs[n] cs w1 _ (List.getElem_mem hn') hk hi hr hlen fun w2 hk2 hi2 => ?_
    rw [List.drop_eq_getElem_cons hn'] at he
    simp only [scan] at he
    refine cnd_split (fun hb => ?_) (fun hb => ?_)
    · rw [hb] at he
      have := h w2 hk2
      rw [he] at this
      exact this hi2
    · rw [hb] at he
      ((try simp only [↓Mm, Mm, ↓Mr, Mr, Mb, reduceIte]); repeat ((first | refine ld (by assumption) (by assumption) rfl ?_ | refine ld0 (by assumption) (by assumption) rfl ?_ | refine len_slK (by assumption) ?_); (try simp only [↓Mm, Mm, ↓Mr, Mr, Mb, reduceIte])))
      exact up_next hv.max hn' ⟨hk2, _, hi2, by simpa using he⟩
  · have hn' : ¬ n < xs.length := by simpa using hc
    rw [List.drop_eq_nil_of_le (by omega)] at he
    have := h w1 hk
    rw [he] at this
    exact this hi)
theorem c_IndexFunc_api_Class {xs : List Cla} {v f : Value} (p : Cla → Bool) (hs : Sat w σ) (hv : Sl 8 RCl σ v xs)
    (hf : ∀ x cs (w1 : World) (K : Value → World → Prop), x ∈ xs → Sat w1 σ → RCl σ x cs → cs.length = 8 → (∀ w', Below w1.heap.size w1 w' → K (.bool (p x)) w') → callV P f [.agg cs.toArray] w1 K)
    (h : ∀ w', Below w.heap.size w w' → K (I (idxI (xs.findIdx? p))) w') : callF P F.slices_IndexFunc_S_api_Class_api_Class [v, f] w K := by
  refine s_IndexFunc_api_Class (fun (_ : Unit) x => (p x, ())) () (fun _ w' => Below w.heap.size w w') (fun _ => False) (fun _ w' hb => hs.below hb) (Below.refl _ _) hv (fun s x cs w1 K hx hk hi hr hl hK => hf x cs w1 K hx (hs.below hi) hr hl fun w' hb => hK w' (.of_below (bt hi hb)) (bt hi hb)) fun w' hk hi => ?_
  rw [scan_pure]
  simpa using h w' hi
theorem s_IndexFunc_string {β : Type} {xs : List Str} {v f : Value} (stp : β → Str → Bool × β) (s0 : β) (Inv : β → World → Prop) (D : Nat → Prop) (hsat : ∀ s w, Inv s w → Sat w σ) (h0 : Inv s0 w) (hv : Sl 1 RStr σ v xs)
    (hf : ∀ s x (w1 : World) (K : Value → World → Prop), x ∈ xs → Kpt D w w1 → Inv s w1 → x.length ≤ Big → (∀ w', Kpt D w w' → Inv (stp s x).2 w' → K (.bool (stp s x).1) w') → callV P f [S x] w1 K)
    (h : ∀ w', Kpt D w w' → Inv (scan stp s0 xs 0).2 w' → K (I (idxI (scan stp s0 xs 0).1)) w') : callF P F.slices_IndexFunc_S_string_string [v, f] w K := r_slices_IndexFunc_S_string_string (by
  unfold g_slices_IndexFunc_S_string_string
  ((try simp only [↓Mm, Mm, ↓Mr, Mr, Mb, reduceIte]); repeat ((first | refine ld (by assumption) (by assumption) rfl ?_ | refine ld0 (by assumption) (by assumption) rfl ?_ | refine len_slK (by assumption) ?_); (try simp only [↓Mm, Mm, ↓Mr, Mr, Mb, reduceIte])))
  refine lp_up xs.length (fun n w' => Kpt D w w' ∧ ∃ s, Inv s w' ∧ scan stp s0 xs 0 = scan stp s (xs.drop n) n) ⟨Kpt.refl, s0, h0, rfl⟩ fun n w1 d hn hi => ?_
  obtain ⟨hk, s, hi, he⟩ := hi
  have hs1 := hsat s w1 hi
  ((try simp only [↓Mm, Mm, ↓Mr, Mr, Mb, reduceIte]); repeat ((first | refine ld (by assumption) (by assumption) rfl ?_ | refine ld0 (by assumption) (by assumption) rfl ?_ | refine len_slK (by assumption) ?_); (try simp only [↓Mm, Mm, ↓Mr, Mr, Mb, reduceIte])))
  refine cnd_split (fun hc => ?_) (fun hc => ?_)
  · have hn' : n < xs.length := by simpa using hc
    refine ix_slN hv hn' fun p cs hl hlen hr => ?_
    obtain ⟨rfl, hbig⟩ := hr
    refine ld0 hs1 hl rfl ?_
    refine hf s xs[n] w1 _ (List.getElem_mem hn') hk hi hbig fun w2 hk2 hi2 => ?_
    rw [List.drop_eq_getElem_cons hn'] at he
    simp only [scan] at he
    refine cnd_split (fun hb => ?_) (fun hb => ?_)
    · rw [hb] at he
      have := h w2 hk2
      rw [he] at this
      exact this hi2
    · rw [hb] at he
      ((try simp only [↓Mm, Mm, ↓Mr, Mr, Mb, reduceIte]); repeat ((first | refine ld (by assumption) (by assumption) rfl ?_ | refine ld0 (by assumption) (by assumption) rfl ?_ | refine len_slK (by assumption) ?_); (try simp only [↓Mm, Mm, ↓Mr, Mr, Mb, reduceIte])))
      exact up_next hv.max hn' ⟨hk2, _, hi2, by simpa using he⟩
  · have hn' : ¬ n < xs.length := by simpa using hc
    rw [List.drop_eq_nil_of_le (by omega)] at he
    have := h w1 hk
    rw [he] at this
    exact this hi)
theorem c_IndexFunc_string {xs : List Str} {v f : Value} (p : Str → Bool) (hs : Sat w σ) (hv : Sl 1 RStr σ v xs)
    (hf : ∀ x (w1 : World) (K : Value → World → Prop), x ∈ xs → Sat w1 σ → x.length ≤ Big → (∀ w', Below w1.heap.size w1 w' → K (.bool (p x)) w') → callV P f [S x] w1 K)
    (h : ∀ w', Below w.heap.size w w' → K (I (idxI (xs.findIdx? p))) w') : callF P F.slices_IndexFunc_S_string_string [v, f] w K := by
  refine s_IndexFunc_string (fun (_ : Unit) x => (p x, ())) () (fun _ w' => Below w.heap.size w w') (fun _ => False) (fun _ w' hb => hs.below hb) (Below.refl _ _) hv (fun s x w1 K hx hk hi hr hK => hf x w1 K hx (hs.below hi) hr fun w' hb => hK w' (.of_below (bt hi hb)) (bt hi hb)) fun w' hk hi => ?_
  rw [scan_pure]
  simpa using h w' hi
theorem idxI_any {α : Type} (p : α → Bool) (xs : List α) : decide ((0 : Int) ≤ idxI (xs.findIdx? p)) = xs.any p := by
  rw [Bool.eq_iff_iff, List.any_eq_true]
  simp only [decide_eq_true_eq]
  cases h : xs.findIdx? p with
  | none =>
    simp only [idxI]
    constructor
    · intro h; omega
    · rintro ⟨x, hx, hp⟩; have := List.findIdx?_eq_none_iff.1 h x hx; rw [hp] at this; cases this
  | some i =>
    simp only [idxI]
    obtain ⟨hi, hp, _⟩ := List.findIdx?_eq_some_iff_getElem.1 h
    exact ⟨fun _ => ⟨xs[i], List.getElem_mem hi, hp⟩, fun _ => by omega⟩
theorem c_ContainsFunc_string {xs : List Str} {v f : Value} (p : Str → Bool) (hs : Sat w σ) (hv : Sl 1 RStr σ v xs)
    (hf : ∀ x (w1 : World) (K : Value → World → Prop), x ∈ xs → Sat w1 σ → x.length ≤ Big → (∀ w', Below w1.heap.size w1 w' → K (.bool (p x)) w') → callV P f [S x] w1 K)
    (h : ∀ w', Below w.heap.size w w' → K (.bool (xs.any p)) w') : callF P F.slices_ContainsFunc_S_string_string [v, f] w K := r_slices_ContainsFunc_S_string_string (by
  unfold g_slices_ContainsFunc_S_string_string
  refine c_IndexFunc_string p hs hv hf fun w1 hb => ?_
  (try simp only [↓Mm, Mm, ↓Mr, Mr, Mb, reduceIte])
  rw [idxI_any]
  exact h w1 hb)
theorem c_Index_string {xs : List Str} {v : Value} {x : Str} (hs : Sat w σ) (hv : Sl 1 RStr σ v xs)
    (h : K (I (idxI (xs.findIdx? fun y => decide (x = y)))) w) : callF P F.slices_Index_S_string_string [v, S x] w K := r_slices_Index_S_string_string (by
  unfold g_slices_Index_S_string_string
  ((try simp only [↓Mm, Mm, ↓Mr, Mr, Mb, reduceIte]); repeat ((first | refine ld (by assumption) (by assumption) rfl ?_ | refine ld0 (by assumption) (by assumption) rfl ?_ | refine len_slK (by assumption) ?_); (try simp only [↓Mm, Mm, ↓Mr, Mr, Mb, reduceIte])))
  refine lp_up xs.length (fun n w' => w = w' ∧ (xs.take n).any (fun y => decide (x = y)) = false) ⟨rfl, rfl⟩ fun n w1 d hn hi => ?_
  obtain ⟨rfl, hi⟩ := hi
  ((try simp only [↓Mm, Mm, ↓Mr, Mr, Mb, reduceIte]); repeat ((first | refine ld (by assumption) (by assumption) rfl ?_ | refine ld0 (by assumption) (by assumption) rfl ?_ | refine len_slK (by assumption) ?_); (try simp only [↓Mm, Mm, ↓Mr, Mr, Mb, reduceIte])))
  refine cnd_split (fun hc => ?_) (fun hc => ?_)
  · have hn' : n < xs.length := by simpa using hc
    refine ix_slN hv hn' fun p cs hl hlen hr => ?_
    obtain ⟨rfl, hbig⟩ := hr
    ((try simp only [↓Mm, Mm, ↓Mr, Mr, Mb, reduceIte]); repeat ((first | refine ld (by assumption) (by assumption) rfl ?_ | refine ld0 (by assumption) (by assumption) rfl ?_ | refine len_slK (by assumption) ?_); (try simp only [↓Mm, Mm, ↓Mr, Mr, Mb, reduceIte])))
    refine cnd_split (fun hb => ?_) (fun hb => ?_)
    · have : xs.findIdx? (fun y => decide (x = y)) = some n := by
        rw [List.findIdx?_eq_some_iff_getElem]
        refine ⟨hn', hb, fun j hj => ?_⟩
        have := List.any_eq_false.1 hi (xs[j]) (List.mem_take_iff_getElem.2 ⟨j, by omega, rfl⟩)
        exact this
      rw [this] at h; exact h
    · ((try simp only [↓Mm, Mm, ↓Mr, Mr, Mb, reduceIte]); repeat ((first | refine ld (by assumption) (by assumption) rfl ?_ | refine ld0 (by assumption) (by assumption) rfl ?_ | refine len_slK (by assumption) ?_); (try simp only [↓Mm, Mm, ↓Mr, Mr, Mb, reduceIte])))
      exact up_next hv.max hn' ⟨rfl, by rw [any_take_succ hn', hi, hb]; rfl⟩
  · have hn' : ¬ n < xs.length := by simpa using hc
    rw [any_take_all hn'] at hi
    have : xs.findIdx? (fun y => decide (x = y)) = none := by
      rw [List.findIdx?_eq_none_iff]; intro y hy; simpa using List.any_eq_false.1 hi y hy
    rw [this] at h; exact h)
theorem c_Contains_string {xs : List Str} {v : Value} {x : Str} (hs : Sat w σ) (hv : Sl 1 RStr σ v xs)
    (h : K (.bool (xs.any fun y => decide (x = y))) w) : callF P F.slices_Contains_S_string_string [v, S x] w K := r_slices_Contains_S_string_string (by
  unfold g_slices_Contains_S_string_string
  refine c_Index_string hs hv ?_
  (try simp only [↓Mm, Mm, ↓Mr, Mr, Mb, reduceIte])
  rw [idxI_any]
  exact h)
end Go.Proofs.YtdnfaboigajkhaaGreatDoor

set_option autoImplicit false
set_option linter.unusedSimpArgs false
set_option linter.unusedVariables false
namespace Go.Emb
abbrev Store.Le (σ σ' : Store) : Prop := ∀ b o, σ b = some o → σ' b = some o
def onceR {α : Type} (f : α → List UInt8) : List α → List α → Bool
  | _, [] => true
  | seen, x :: r => !(seen.any fun y => decide (f y = f x)) && onceR f (seen ++ [x]) r
theorem any_not_all {α : Type} (p : α → Bool) (xs : List α) : (!xs.any fun x => !p x) = xs.all p := by
  rw [List.all_eq_not_any_not]
end Go.Emb
namespace Go.Proofs.YtdnfaboigajkhaaGreatDoor
open Go.Emb Go.RowKit Go.Kd Go.Hm
variable {w : World} {K : Value → World → Prop} {σ : Store}
theorem c_every_api_Method {xs : List Hm.Met} {v : Value} {fn : Fn} {fs cps : Array Value} (p : Hm.Met → Bool) (hs : Sat w σ) (hv : Sl 7 RMe σ v xs)
    (hf : ∀ (σ1 : Store) x cs (w1 : World) (K : Value → World → Prop), σ.Le σ1 → x ∈ xs → Sat w1 σ1 → RMe σ1 x cs → cs.length = 7 → (∀ w', Below w1.heap.size w1 w' → K (.bool (p x)) w') → callV P (.func fn fs cps) [.agg cs.toArray] w1 K)
    (h : ∀ w', Below w.heap.size w w' → K (.bool (xs.all p)) w') : callF P F.class_every_api_Method [v, .func fn fs cps] w K := r_class_every_api_Method (by
  unfold g_class_every_api_Method
  refine box_lies hs fun a w1 σ1 hk ha => ?_
  simp only [Value.cells] at ha
  ((try simp only [↓Mm, Mm, ↓Mr, Mr, Mb, reduceIte]); repeat ((first | refine ld (by assumption) (by assumption) rfl ?_ | refine ld0 (by assumption) (by assumption) rfl ?_ | refine len_slK (by assumption) ?_); (try simp only [↓Mm, Mm, ↓Mr, Mr, Mb, reduceIte])))
  refine c_ContainsFunc_api_Method (fun x => !p x) hk.sat (hv.up hk) (fun x cs w2 K hx hs2 hr hl hK => ?_) fun w2 hb => ?_
  · refine callV_func (r_class_every_api_Method_1 ?_)
    unfold g_class_every_api_Method_1
    refine box_lies hs2 fun b w3 σ3 hk3 hb3 => ?_
    refine ld0 hk3.sat (ha.up hk3) rfl ?_
    refine lda hk3.sat hb3 hl ?_
    refine hf σ3 x _ w3 _ (fun b o e => hk3.le b o (hk.le b o e)) hx hk3.sat (Rep.up hk3.le hr) hl fun w4 hb4 => ?_
    (try simp only [↓Mm, Mm, ↓Mr, Mr, Mb, reduceIte])
    exact hK w4 (bt hk3.bel hb4)
  · (try simp only [↓Mm, Mm, ↓Mr, Mr, Mb, reduceIte])
    rw [any_not_all]
    exact h w2 (bt hk.bel hb))
theorem c_every_api_Field {xs : List Fld} {v : Value} {fn : Fn} {fs cps : Array Value} (p : Fld → Bool) (hs : Sat w σ) (hv : Sl 3 RFd σ v xs)
    (hf : ∀ (σ1 : Store) x cs (w1 : World) (K : Value → World → Prop), σ.Le σ1 → x ∈ xs → Sat w1 σ1 → RFd σ1 x cs → cs.length = 3 → (∀ w', Below w1.heap.size w1 w' → K (.bool (p x)) w') → callV P (.func fn fs cps) [.agg cs.toArray] w1 K)
    (h : ∀ w', Below w.heap.size w w' → K (.bool (xs.all p)) w') : callF P F.class_every_api_Field [v, .func fn fs cps] w K := r_class_every_api_Field (by
  unfold g_class_every_api_Field
  refine box_lies hs fun a w1 σ1 hk ha => ?_
  simp only [Value.cells] at ha
  ((try simp only [↓Mm, Mm, ↓Mr, Mr, Mb, reduceIte]); repeat ((first | refine ld (by assumption) (by assumption) rfl ?_ | refine ld0 (by assumption) (by assumption) rfl ?_ | refine len_slK (by assumption) ?_); (try simp only [↓Mm, Mm, ↓Mr, Mr, Mb, reduceIte])))
  refine c_ContainsFunc_api_Field (fun x => !p x) hk.sat (hv.up hk) (fun x cs w2 K hx hs2 hr hl hK => ?_) fun w2 hb => ?_
  · refine callV_func (r_class_every_api_Field_1 ?_)
    unfold g_class_every_api_Field_1
    refine box_lies hs2 fun b w3 σ3 hk3 hb3 => ?_
    refine ld0 hk3.sat (ha.up hk3) rfl ?_
    refine lda hk3.sat hb3 hl ?_
    refine hf σ3 x _ w3 _ (fun b o e => hk3.le b o (hk.le b o e)) hx hk3.sat (Rep.up hk3.le hr) hl fun w4 hb4 => ?_
    (try simp only [↓Mm, Mm, ↓Mr, Mr, Mb, reduceIte])
    exact hK w4 (bt hk3.bel hb4)
  · (try simp only [↓Mm, Mm, ↓Mr, Mr, Mb, reduceIte])
    rw [any_not_all]
    exact h w2 (bt hk.bel hb))
theorem c_every_api_Instr {xs : List Ins} {v : Value} {fn : Fn} {fs cps : Array Value} (p : Ins → Bool) (hs : Sat w σ) (hv : Sl 3 RIn σ v xs)
    (hf : ∀ (σ1 : Store) x cs (w1 : World) (K : Value → World → Prop), σ.Le σ1 → x ∈ xs → Sat w1 σ1 → RIn σ1 x cs → cs.length = 3 → (∀ w', Below w1.heap.size w1 w' → K (.bool (p x)) w') → callV P (.func fn fs cps) [.agg cs.toArray] w1 K)
    (h : ∀ w', Below w.heap.size w w' → K (.bool (xs.all p)) w') : callF P F.class_every_api_Instr [v, .func fn fs cps] w K := r_class_every_api_Instr (by
  unfold g_class_every_api_Instr
  refine box_lies hs fun a w1 σ1 hk ha => ?_
  simp only [Value.cells] at ha
  ((try simp only [↓Mm, Mm, ↓Mr, Mr, Mb, reduceIte]); repeat ((first | refine ld (by assumption) (by assumption) rfl ?_ | refine ld0 (by assumption) (by assumption) rfl ?_ | refine len_slK (by assumption) ?_); (try simp only [↓Mm, Mm, ↓Mr, Mr, Mb, reduceIte])))
  refine c_ContainsFunc_api_Instr (fun x => !p x) hk.sat (hv.up hk) (fun x cs w2 K hx hs2 hr hl hK => ?_) fun w2 hb => ?_
  · refine callV_func (r_class_every_api_Instr_1 ?_)
    unfold g_class_every_api_Instr_1
    refine box_lies hs2 fun b w3 σ3 hk3 hb3 => ?_
    refine ld0 hk3.sat (ha.up hk3) rfl ?_
    refine lda hk3.sat hb3 hl ?_
    refine hf σ3 x _ w3 _ (fun b o e => hk3.le b o (hk.le b o e)) hx hk3.sat (Rep.up hk3.le hr) hl fun w4 hb4 => ?_
    (try simp only [↓Mm, Mm, ↓Mr, Mr, Mb, reduceIte])
    exact hK w4 (bt hk3.bel hb4)
  · (try simp only [↓Mm, Mm, ↓Mr, Mr, Mb, reduceIte])
    rw [any_not_all]
    exact h w2 (bt hk.bel hb))
theorem c_every_api_Catch {xs : List Cat} {v : Value} {fn : Fn} {fs cps : Array Value} (p : Cat → Bool) (hs : Sat w σ) (hv : Sl 4 RCa σ v xs)
    (hf : ∀ (σ1 : Store) x cs (w1 : World) (K : Value → World → Prop), σ.Le σ1 → x ∈ xs → Sat w1 σ1 → RCa σ1 x cs → cs.length = 4 → (∀ w', Below w1.heap.size w1 w' → K (.bool (p x)) w') → callV P (.func fn fs cps) [.agg cs.toArray] w1 K)
    (h : ∀ w', Below w.heap.size w w' → K (.bool (xs.all p)) w') : callF P F.class_every_api_Catch [v, .func fn fs cps] w K := r_class_every_api_Catch (by
  unfold g_class_every_api_Catch
  refine box_lies hs fun a w1 σ1 hk ha => ?_
  simp only [Value.cells] at ha
  ((try simp only [↓Mm, Mm, ↓Mr, Mr, Mb, reduceIte]); repeat ((first | refine ld (by assumption) (by assumption) rfl ?_ | refine ld0 (by assumption) (by assumption) rfl ?_ | refine len_slK (by assumption) ?_); (try simp only [↓Mm, Mm, ↓Mr, Mr, Mb, reduceIte])))
  refine c_ContainsFunc_api_Catch (fun x => !p x) hk.sat (hv.up hk) (fun x cs w2 K hx hs2 hr hl hK => ?_) fun w2 hb => ?_
  · refine callV_func (r_class_every_api_Catch_1 ?_)
    unfold g_class_every_api_Catch_1
    refine box_lies hs2 fun b w3 σ3 hk3 hb3 => ?_
    refine ld0 hk3.sat (ha.up hk3) rfl ?_
    refine lda hk3.sat hb3 hl ?_
    refine hf σ3 x _ w3 _ (fun b o e => hk3.le b o (hk.le b o e)) hx hk3.sat (Rep.up hk3.le hr) hl fun w4 hb4 => ?_
    (try simp only [↓Mm, Mm, ↓Mr, Mr, Mb, reduceIte])
    exact hK w4 (bt hk3.bel hb4)
  · (try simp only [↓Mm, Mm, ↓Mr, Mr, Mb, reduceIte])
    rw [any_not_all]
    exact h w2 (bt hk.bel hb))
theorem c_every_string {xs : List Str} {v : Value} {fn : Fn} {fs cps : Array Value} (p : Str → Bool) (hs : Sat w σ) (hv : Sl 1 RStr σ v xs)
    (hf : ∀ (σ1 : Store) x (w1 : World) (K : Value → World → Prop), σ.Le σ1 → x ∈ xs → Sat w1 σ1 → x.length ≤ Big → (∀ w', Below w1.heap.size w1 w' → K (.bool (p x)) w') → callV P (.func fn fs cps) [S x] w1 K)
    (h : ∀ w', Below w.heap.size w w' → K (.bool (xs.all p)) w') : callF P F.class_every_string [v, .func fn fs cps] w K := r_class_every_string (by
  unfold g_class_every_string
  refine box_lies hs fun a w1 σ1 hk ha => ?_
  simp only [Value.cells] at ha
  ((try simp only [↓Mm, Mm, ↓Mr, Mr, Mb, reduceIte]); repeat ((first | refine ld (by assumption) (by assumption) rfl ?_ | refine ld0 (by assumption) (by assumption) rfl ?_ | refine len_slK (by assumption) ?_); (try simp only [↓Mm, Mm, ↓Mr, Mr, Mb, reduceIte])))
  refine c_ContainsFunc_string (fun x => !p x) hk.sat (hv.up hk) (fun x w2 K hx hs2 hr hK => ?_) fun w2 hb => ?_
  · refine callV_func (r_class_every_string_1 ?_)
    unfold g_class_every_string_1
    refine ld0 hs2 ha rfl ?_
    refine hf σ1 x w2 _ hk.le hx hs2 hr fun w4 hb4 => ?_
    (try simp only [↓Mm, Mm, ↓Mr, Mr, Mb, reduceIte])
    exact hK w4 hb4
  · (try simp only [↓Mm, Mm, ↓Mr, Mr, Mb, reduceIte])
    rw [any_not_all]
    exact h w2 (bt hk.bel hb))
theorem c_once_api_Method {xs : List Hm.Met} {v : Value} {fn : Fn} {fs cps : Array Value} (f : Hm.Met → Str) (hs : Sat w σ) (hv : Sl 7 RMe σ v xs)
    (hf : ∀ (σ1 : Store) x cs (w1 : World) (K : Value → World → Prop), σ.Le σ1 → Sat w1 σ1 → RMe σ1 x cs → cs.length = 7 → (∀ w', Below w1.heap.size w1 w' → K (S (f x)) w') → callV P (.func fn fs cps) [.agg cs.toArray] w1 K)
    (h : ∀ w', Below w.heap.size w w' → K (.bool (onceR f [] xs)) w') : callF P F.class_once_api_Method [v, .func fn fs cps] w K := r_class_once_api_Method (by
  unfold g_class_once_api_Method
  refine box_lies hs fun a w1 σ1 hk ha => ?_
  simp only [Value.cells] at ha
  have hs1 := hk.sat
  replace hv := hv.up hk
  ((try simp only [↓Mm, Mm, ↓Mr, Mr, Mb, reduceIte]); repeat ((first | refine ld (by assumption) (by assumption) rfl ?_ | refine ld0 (by assumption) (by assumption) rfl ?_ | refine len_slK (by assumption) ?_); (try simp only [↓Mm, Mm, ↓Mr, Mr, Mb, reduceIte])))
  refine lp_up xs.length (fun n w' => Below w1.heap.size w1 w' ∧ onceR f [] xs = onceR f (xs.take n) (xs.drop n)) ⟨Below.refl _ _, rfl⟩ fun n w2 d hn hi => ?_
  obtain ⟨hb, he⟩ := hi
  have hs2 := hs1.below hb
  ((try simp only [↓Mm, Mm, ↓Mr, Mr, Mb, reduceIte]); repeat ((first | refine ld (by assumption) (by assumption) rfl ?_ | refine ld0 (by assumption) (by assumption) rfl ?_ | refine len_slK (by assumption) ?_); (try simp only [↓Mm, Mm, ↓Mr, Mr, Mb, reduceIte])))
  refine cnd_split (fun hc => ?_) (fun hc => ?_)
  · have hn' : n < xs.length := by simpa using hc
    rw [List.drop_eq_getElem_cons hn'] at he
    simp only [onceR] at he
    refine ix_slN hv hn' fun p cs hl hlen hr => ?_
    refine lda hs2 hl hlen ?_
    refine alc_st hs2 (by rfl) hlen (Rep.one hr) fun q w3 σ3 hk3 hq => ?_
    refine slc_sl (hv.up hk3) none (some (I n)) 0 n (.inl ⟨rfl, rfl⟩) (.inr rfl) (by omega) (by omega) fun v' hv' => ?_
    ((try simp only [↓Mm, Mm, ↓Mr, Mr, Mb, reduceIte]); repeat ((first | refine ld (by assumption) (by assumption) rfl ?_ | refine ld0 (by assumption) (by assumption) rfl ?_ | refine len_slK (by assumption) ?_); (try simp only [↓Mm, Mm, ↓Mr, Mr, Mb, reduceIte])))
    refine c_ContainsFunc_api_Method (fun y => decide (f y = f xs[n])) hk3.sat hv' (fun y ys w4 K hy hs4 hry hyl hK => ?_) fun w4 hb4 => ?_
    · refine callV_func (r_class_once_api_Method_1 ?_)
      unfold g_class_once_api_Method_1
      refine box_lies hs4 fun b w5 σ5 hk5 hb5 => ?_
      have ha5 := (ha.up hk3).up hk5
      have hq5 := hq.up hk5
      have hle5 : σ.Le σ5 := fun b o e => hk5.le b o (hk3.le b o (hk.le b o e))
      refine dr_below (Below.refl _ _) ?_
      refine dop_val (.func fn fs cps) (fun w hb => ld0 (hk5.sat.below hb) ha5 rfl (dk_same rfl)) ?_
      refine dop_val (.agg ys.toArray) (fun w hb => lda (hk5.sat.below hb) hb5 hyl (dk_same rfl)) ?_
      refine dop_val (S (f y)) (fun t t' w hb e e' => by rw [e, e']; exact hf σ5 y ys w _ hle5 (hk5.sat.below hb) (Rep.up hk5.le hry) hyl fun w' hb' => dk_val hb' rfl) ?_
      refine dop_val (.func fn fs cps) (fun w hb => ld0 (hk5.sat.below hb) ha5 rfl (dk_same rfl)) ?_
      refine dop_val (.agg cs.toArray) (fun w hb => lda (hk5.sat.below hb) hq5 hlen (dk_same rfl)) ?_
      rintro _ _ _ _ _ w6 hb6 rfl rfl rfl rfl rfl
      refine hf σ5 xs[n] cs w6 _ hle5 (hk5.sat.below hb6) (Rep.up (fun b o e => hk5.le b o (hk3.le b o e)) hr) hlen fun w7 hb7 => ?_
      (try simp only [↓Mm, Mm, ↓Mr, Mr, Mb, reduceIte])
      exact hK w7 (bt (bt hk5.bel hb6) hb7)
    · have hb4' := bt hb (bt hk3.bel hb4)
      simp only [List.drop_zero, Nat.sub_zero] at *
      refine cnd_split (fun hh => ?_) (fun hh => ?_)
      · rw [hh] at he
        have := h w4 (bt hk.bel hb4')
        rw [he] at this; exact this
      · rw [hh] at he
        ((try simp only [↓Mm, Mm, ↓Mr, Mr, Mb, reduceIte]); repeat ((first | refine ld (by assumption) (by assumption) rfl ?_ | refine ld0 (by assumption) (by assumption) rfl ?_ | refine len_slK (by assumption) ?_); (try simp only [↓Mm, Mm, ↓Mr, Mr, Mb, reduceIte])))
        refine up_next hv.max hn' ⟨hb4', ?_⟩
        rw [he, List.take_add_one, List.getElem?_eq_getElem hn']; rfl
  · have hn' : ¬ n < xs.length := by simpa using hc
    rw [List.drop_eq_nil_of_le (by omega)] at he
    have := h w2 (bt hk.bel hb)
    rw [he] at this; exact this)
theorem c_once_api_Field {xs : List Fld} {v : Value} {fn : Fn} {fs cps : Array Value} (f : Fld → Str) (hs : Sat w σ) (hv : Sl 3 RFd σ v xs)
    (hf : ∀ (σ1 : Store) x cs (w1 : World) (K : Value → World → Prop), σ.Le σ1 → Sat w1 σ1 → RFd σ1 x cs → cs.length = 3 → (∀ w', Below w1.heap.size w1 w' → K (S (f x)) w') → callV P (.func fn fs cps) [.agg cs.toArray] w1 K)
    (h : ∀ w', Below w.heap.size w w' → K (.bool (onceR f [] xs)) w') : callF P F.class_once_api_Field [v, .func fn fs cps] w K := r_class_once_api_Field (by
  unfold g_class_once_api_Field
  refine box_lies hs fun a w1 σ1 hk ha => ?_
  simp only [Value.cells] at ha
  have hs1 := hk.sat
  replace hv := hv.up hk
  ((try simp only [↓Mm, Mm, ↓Mr, Mr, Mb, reduceIte]); repeat ((first | refine ld (by assumption) (by assumption) rfl ?_ | refine ld0 (by assumption) (by assumption) rfl ?_ | refine len_slK (by assumption) ?_); (try simp only [↓Mm, Mm, ↓Mr, Mr, Mb, reduceIte])))
  refine lp_up xs.length (fun n w' => Below w1.heap.size w1 w' ∧ onceR f [] xs = onceR f (xs.take n) (xs.drop n)) ⟨Below.refl _ _, rfl⟩ fun n w2 d hn hi => ?_
  obtain ⟨hb, he⟩ := hi
  have hs2 := hs1.below hb
  ((try simp only [↓Mm, Mm, ↓Mr, Mr, Mb, reduceIte]); repeat ((first | refine ld (by assumption) (by assumption) rfl ?_ | refine ld0 (by assumption) (by assumption) rfl ?_ | refine len_slK (by assumption) ?_); (try simp only [↓Mm, Mm, ↓Mr, Mr, Mb, reduceIte])))
  refine cnd_split (fun hc => ?_) (fun hc => ?_)
  · have hn' : n < xs.length := by simpa using hc
    rw [List.drop_eq_getElem_cons hn'] at he
    simp only [onceR] at he
    refine ix_slN hv hn' fun p cs hl hlen hr => ?_
    refine lda hs2 hl hlen ?_
    refine alc_st hs2 (by rfl) hlen (Rep.one hr) fun q w3 σ3 hk3 hq => ?_
    refine slc_sl (hv.up hk3) none (some (I n)) 0 n (.inl ⟨rfl, rfl⟩) (.inr rfl) (by omega) (by omega) fun v' hv' => ?_
    ((try simp only [↓Mm, Mm, ↓Mr, Mr, Mb, reduceIte]); repeat ((first | refine ld (by assumption) (by assumption) rfl ?_ | refine ld0 (by assumption) (by assumption) rfl ?_ | refine len_slK (by assumption) ?_); (try simp only [↓Mm, Mm, ↓Mr, Mr, Mb, reduceIte])))
    refine c_ContainsFunc_api_Field (fun y => decide (f y = f xs[n])) hk3.sat hv' (fun y ys w4 K hy hs4 hry hyl hK => ?_) fun w4 hb4 => ?_
    · refine callV_func (r_class_once_api_Field_1 ?_)
      unfold g_class_once_api_Field_1
      refine box_lies hs4 fun b w5 σ5 hk5 hb5 => ?_
      have ha5 := (ha.up hk3).up hk5
      have hq5 := hq.up hk5
      have hle5 : σ.Le σ5 := fun b o e => hk5.le b o (hk3.le b o (hk.le b o e))
      refine dr_below (Below.refl _ _) ?_
      refine dop_val (.func fn fs cps) (fun w hb => ld0 (hk5.sat.below hb) ha5 rfl (dk_same rfl)) ?_
      refine dop_val (.agg ys.toArray) (fun w hb => lda (hk5.sat.below hb) hb5 hyl (dk_same rfl)) ?_
      refine dop_val (S (f y)) (fun t t' w hb e e' => by rw [e, e']; exact hf σ5 y ys w _ hle5 (hk5.sat.below hb) (Rep.up hk5.le hry) hyl fun w' hb' => dk_val hb' rfl) ?_
      refine dop_val (.func fn fs cps) (fun w hb => ld0 (hk5.sat.below hb) ha5 rfl (dk_same rfl)) ?_
      refine dop_val (.agg cs.toArray) (fun w hb => lda (hk5.sat.below hb) hq5 hlen (dk_same rfl)) ?_
      rintro _ _ _ _ _ w6 hb6 rfl rfl rfl rfl rfl
      refine hf σ5 xs[n] cs w6 _ hle5 (hk5.sat.below hb6) (Rep.up (fun b o e => hk5.le b o (hk3.le b o e)) hr) hlen fun w7 hb7 => ?_
      (try simp only [↓Mm, Mm, ↓Mr, Mr, Mb, reduceIte])
      exact hK w7 (bt (bt hk5.bel hb6) hb7)
    · have hb4' := bt hb (bt hk3.bel hb4)
      simp only [List.drop_zero, Nat.sub_zero] at *
      refine cnd_split (fun hh => ?_) (fun hh => ?_)
      · rw [hh] at he
        have := h w4 (bt hk.bel hb4')
        rw [he] at this; exact this
      · rw [hh] at he
        ((try simp only [↓Mm, Mm, ↓Mr, Mr, Mb, reduceIte]); repeat ((first | refine ld (by assumption) (by assumption) rfl ?_ | refine ld0 (by assumption) (by assumption) rfl ?_ | refine len_slK (by assumption) ?_); (try simp only [↓Mm, Mm, ↓Mr, Mr, Mb, reduceIte])))
        refine up_next hv.max hn' ⟨hb4', ?_⟩
        rw [he, List.take_add_one, List.getElem?_eq_getElem hn']; rfl
  · have hn' : ¬ n < xs.length := by simpa using hc
    rw [List.drop_eq_nil_of_le (by omega)] at he
    have := h w2 (bt hk.bel hb)
    rw [he] at this; exact this)
theorem c_once_string {xs : List Str} {v : Value} {fn : Fn} {fs cps : Array Value} (f : Str → Str) (hs : Sat w σ) (hv : Sl 1 RStr σ v xs)
    (hf : ∀ (σ1 : Store) x (w1 : World) (K : Value → World → Prop), σ.Le σ1 → Sat w1 σ1 → x.length ≤ Big → (∀ w', Below w1.heap.size w1 w' → K (S (f x)) w') → callV P (.func fn fs cps) [S x] w1 K)
    (h : ∀ w', Below w.heap.size w w' → K (.bool (onceR f [] xs)) w') : callF P F.class_once_string [v, .func fn fs cps] w K := r_class_once_string (by
  unfold g_class_once_string
  refine box_lies hs fun a w1 σ1 hk ha => ?_
  simp only [Value.cells] at ha
  have hs1 := hk.sat
  replace hv := hv.up hk
  ((try simp only [↓Mm, Mm, ↓Mr, Mr, Mb, reduceIte]); repeat ((first | refine ld (by assumption) (by assumption) rfl ?_ | refine ld0 (by assumption) (by assumption) rfl ?_ | refine len_slK (by assumption) ?_); (try simp only [↓Mm, Mm, ↓Mr, Mr, Mb, reduceIte])))
  refine lp_up xs.length (fun n w' => Below w1.heap.size w1 w' ∧ onceR f [] xs = onceR f (xs.take n) (xs.drop n)) ⟨Below.refl _ _, rfl⟩ fun n w2 d hn hi => ?_
  obtain ⟨hb, he⟩ := hi
  have hs2 := hs1.below hb
  ((try simp only [↓Mm, Mm, ↓Mr, Mr, Mb, reduceIte]); repeat ((first | refine ld (by assumption) (by assumption) rfl ?_ | refine ld0 (by assumption) (by assumption) rfl ?_ | refine len_slK (by assumption) ?_); (try simp only [↓Mm, Mm, ↓Mr, Mr, Mb, reduceIte])))
  refine cnd_split (fun hc => ?_) (fun hc => ?_)
  · have hn' : n < xs.length := by simpa using hc
    rw [List.drop_eq_getElem_cons hn'] at he
    simp only [onceR] at he
    refine ix_slN hv hn' fun p cs hl hlen hr => ?_
    obtain ⟨rfl, hbig⟩ := hr
    refine ld0 hs2 hl rfl ?_
    refine alc_st1 hs2 (by rfl) rfl rfl fun q w3 σ3 hk3 hq => ?_
    refine slc_sl (hv.up hk3) none (some (I n)) 0 n (.inl ⟨rfl, rfl⟩) (.inr rfl) (by omega) (by omega) fun v' hv' => ?_
    ((try simp only [↓Mm, Mm, ↓Mr, Mr, Mb, reduceIte]); repeat ((first | refine ld (by assumption) (by assumption) rfl ?_ | refine ld0 (by assumption) (by assumption) rfl ?_ | refine len_slK (by assumption) ?_); (try simp only [↓Mm, Mm, ↓Mr, Mr, Mb, reduceIte])))
    refine c_ContainsFunc_string (fun y => decide (f y = f xs[n])) hk3.sat hv' (fun y w4 K hy hs4 hry hK => ?_) fun w4 hb4 => ?_
    · refine callV_func (r_class_once_string_1 ?_)
      unfold g_class_once_string_1
      have ha5 := ha.up hk3
      have hle5 : σ.Le σ3 := fun b o e => hk3.le b o (hk.le b o e)
      refine dr_below (Below.refl _ _) ?_
      refine dop_val (.func fn fs cps) (fun w hb => ld0 (hs4.below hb) ha5 rfl (dk_same rfl)) ?_
      refine dop_val (S (f y)) (fun t w hb e => by rw [e]; exact hf σ3 y w _ hle5 (hs4.below hb) hry fun w' hb' => dk_val hb' rfl) ?_
      refine dop_val (.func fn fs cps) (fun w hb => ld0 (hs4.below hb) ha5 rfl (dk_same rfl)) ?_
      refine dop_val (S xs[n]) (fun w hb => ld0 (hs4.below hb) hq rfl (dk_same rfl)) ?_
      rintro _ _ _ _ w6 hb6 rfl rfl rfl rfl
      refine hf σ3 xs[n] w6 _ hle5 (hs4.below hb6) hbig fun w7 hb7 => ?_
      (try simp only [↓Mm, Mm, ↓Mr, Mr, Mb, reduceIte])
      exact hK w7 (bt hb6 hb7)
    · have hb4' := bt hb (bt hk3.bel hb4)
      simp only [List.drop_zero, Nat.sub_zero] at *
      refine cnd_split (fun hh => ?_) (fun hh => ?_)
      · rw [hh] at he
        have := h w4 (bt hk.bel hb4')
        rw [he] at this; exact this
      · rw [hh] at he
        ((try simp only [↓Mm, Mm, ↓Mr, Mr, Mb, reduceIte]); repeat ((first | refine ld (by assumption) (by assumption) rfl ?_ | refine ld0 (by assumption) (by assumption) rfl ?_ | refine len_slK (by assumption) ?_); (try simp only [↓Mm, Mm, ↓Mr, Mr, Mb, reduceIte])))
        refine up_next hv.max hn' ⟨hb4', ?_⟩
        rw [he, List.take_add_one, List.getElem?_eq_getElem hn']; rfl
  · have hn' : ¬ n < xs.length := by simpa using hc
    rw [List.drop_eq_nil_of_le (by omega)] at he
    have := h w2 (bt hk.bel hb)
    rw [he] at this; exact this)
theorem equalIn_nil {P : Program} {w : World} (d : Nat) (t e : TypeId) (a : Option Addr) (n c : Nat) (h : P.underlying t = some (.slice e)) :
    (Op.equalIn (d + 1) t (.slice a n c) (.slice none 0 0)).run P w = .ok a.isNone w := by
  cases a <;> simp [Op.equalIn, run_underlying h]
theorem eql_nil {t e : TypeId} {ox oy : Operand} [ts : TS P t e] {a : Option Addr} {n cap : Nat} {b : Bool} (hb : a.isNone = b) (hk : K (.bool b) w) : bin P .eql t ox oy (.slice a n cap) (.slice none 0 0) w K := by
  have h1 : (Op.equal t (.slice a n cap) (.slice none 0 0)).run P w = .ok b w := by
    have := equalIn_nil (P := P) (w := w) 9999 t e a n cap ts.h
    rw [hb] at this
    exact this
  unfold bin
  rw [op_value (v := .bool b) (w' := w) (by simp [eqGuard, Go.binOp, h1])]
  exact hk
theorem c_Clone_string_string {xs : List Str} {v : Value} (hs : Sat w σ) (hv : Sl 1 RStr σ v xs) (hl : xs.length ≤ 1000000)
    (h : ∀ v' w' σ', Stp w σ w' σ' → Sl 1 RStr σ' v' xs → K v' w') : callF P F.slices_Clone_S_string_string [v] w K := r_slices_Clone_S_string_string (by
  unfold g_slices_Clone_S_string_string
  have hv0 := hv
  obtain ⟨a, cap, rfl, h2, h3, h4, h5⟩ := hv
  refine eql_nil rfl ?_
  refine cnd_split (fun hc => ?_) (fun hc => ?_)
  · have : a = none := by simpa using hc
    have h0 := h4 this
    have hx : xs = [] := List.eq_nil_of_length_eq_zero (by omega)
    subst hx
    exact h _ w σ (Stp.refl hs) Sl.nil
  · refine bs_acc (R := RStr) (sz := 1) (Stp.refl hs) [] [] rfl rfl (by simp) (by rfl) trivial fun v1 w1 hk ha _ => ?_
    refine app hk ha hv0 (by rfl) (by simp only [List.length_nil]; omega) (by simp only [List.length_nil]; omega) fun v2 w2 hg hS ha2 _ => ?_
    obtain ⟨σ', q1, q2, _⟩ := ha2.keep hS
    exact h _ w2 σ' q1 q2)
theorem c_Clone_api_Field_api_Field {xs : List Fld} {v : Value} (hs : Sat w σ) (hv : Sl 3 RFd σ v xs) (hl : xs.length ≤ 1000000)
    (h : ∀ v' w' σ', Stp w σ w' σ' → Sl 3 RFd σ' v' xs → K v' w') : callF P F.slices_Clone_S_api_Field_api_Field [v] w K := r_slices_Clone_S_api_Field_api_Field (by
  unfold g_slices_Clone_S_api_Field_api_Field
  have hv0 := hv
  obtain ⟨a, cap, rfl, h2, h3, h4, h5⟩ := hv
  refine eql_nil rfl ?_
  refine cnd_split (fun hc => ?_) (fun hc => ?_)
  · have : a = none := by simpa using hc
    have h0 := h4 this
    have hx : xs = [] := List.eq_nil_of_length_eq_zero (by omega)
    subst hx
    exact h _ w σ (Stp.refl hs) Sl.nil
  · refine bs_acc (R := RFd) (sz := 3) (Stp.refl hs) [] [] rfl rfl (by simp) (by rfl) trivial fun v1 w1 hk ha _ => ?_
    refine app hk ha hv0 (by rfl) (by simp only [List.length_nil]; omega) (by simp only [List.length_nil]; omega) fun v2 w2 hg hS ha2 _ => ?_
    obtain ⟨σ', q1, q2, _⟩ := ha2.keep hS
    exact h _ w2 σ' q1 q2)
theorem c_Clone_api_Instr_api_Instr {xs : List Ins} {v : Value} (hs : Sat w σ) (hv : Sl 3 RIn σ v xs) (hl : xs.length ≤ 1000000)
    (h : ∀ v' w' σ', Stp w σ w' σ' → Sl 3 RIn σ' v' xs → K v' w') : callF P F.slices_Clone_S_api_Instr_api_Instr [v] w K := r_slices_Clone_S_api_Instr_api_Instr (by
  unfold g_slices_Clone_S_api_Instr_api_Instr
  have hv0 := hv
  obtain ⟨a, cap, rfl, h2, h3, h4, h5⟩ := hv
  refine eql_nil rfl ?_
  refine cnd_split (fun hc => ?_) (fun hc => ?_)
  · have : a = none := by simpa using hc
    have h0 := h4 this
    have hx : xs = [] := List.eq_nil_of_length_eq_zero (by omega)
    subst hx
    exact h _ w σ (Stp.refl hs) Sl.nil
  · refine bs_acc (R := RIn) (sz := 3) (Stp.refl hs) [] [] rfl rfl (by simp) (by rfl) trivial fun v1 w1 hk ha _ => ?_
    refine app hk ha hv0 (by rfl) (by simp only [List.length_nil]; omega) (by simp only [List.length_nil]; omega) fun v2 w2 hg hS ha2 _ => ?_
    obtain ⟨σ', q1, q2, _⟩ := ha2.keep hS
    exact h _ w2 σ' q1 q2)
theorem c_Clone_api_Catch_api_Catch {xs : List Cat} {v : Value} (hs : Sat w σ) (hv : Sl 4 RCa σ v xs) (hl : xs.length ≤ 1000000)
    (h : ∀ v' w' σ', Stp w σ w' σ' → Sl 4 RCa σ' v' xs → K v' w') : callF P F.slices_Clone_S_api_Catch_api_Catch [v] w K := r_slices_Clone_S_api_Catch_api_Catch (by
  unfold g_slices_Clone_S_api_Catch_api_Catch
  have hv0 := hv
  obtain ⟨a, cap, rfl, h2, h3, h4, h5⟩ := hv
  refine eql_nil rfl ?_
  refine cnd_split (fun hc => ?_) (fun hc => ?_)
  · have : a = none := by simpa using hc
    have h0 := h4 this
    have hx : xs = [] := List.eq_nil_of_length_eq_zero (by omega)
    subst hx
    exact h _ w σ (Stp.refl hs) Sl.nil
  · refine bs_acc (R := RCa) (sz := 4) (Stp.refl hs) [] [] rfl rfl (by simp) (by rfl) trivial fun v1 w1 hk ha _ => ?_
    refine app hk ha hv0 (by rfl) (by simp only [List.length_nil]; omega) (by simp only [List.length_nil]; omega) fun v2 w2 hg hS ha2 _ => ?_
    obtain ⟨σ', q1, q2, _⟩ := ha2.keep hS
    exact h _ w2 σ' q1 q2)
end Go.Proofs.YtdnfaboigajkhaaGreatDoor

set_option autoImplicit false
set_option linter.unusedSimpArgs false
set_option linter.unusedVariables false
namespace Go.Hm
open Go.Kd
structure Opr where
  name : Str
  number : Bool
  text : Bool
deriving DecidableEq
def oprs : List Opr := [
  ⟨[105, 110, 116], true, false⟩,
  ⟨[116, 114, 117, 101], false, false⟩,
  ⟨[102, 97, 108, 115, 101], false, false⟩,
  ⟨[119, 111, 114, 100], false, true⟩,
  ⟨[110, 117, 108, 108], false, false⟩,
  ⟨[108, 111, 97, 100], true, false⟩,
  ⟨[115, 116, 111, 114, 101], true, false⟩,
  ⟨[112, 111, 112], false, false⟩,
  ⟨[100, 117, 112], false, false⟩,
  ⟨[115, 119, 97, 112], false, false⟩,
  ⟨[97, 100, 100], false, false⟩,
  ⟨[115, 117, 98], false, false⟩,
  ⟨[109, 117, 108], false, false⟩,
  ⟨[100, 105, 118], false, false⟩,
  ⟨[114, 101, 109], false, false⟩,
  ⟨[110, 101, 103], false, false⟩,
  ⟨[108, 101, 115, 115], false, false⟩,
  ⟨[115, 97, 109, 101], false, false⟩,
  ⟨[110, 111, 116], false, false⟩,
  ⟨[98, 111, 116, 104], false, false⟩,
  ⟨[106, 111, 105, 110], false, false⟩,
  ⟨[115, 105, 122, 101], false, false⟩,
  ⟨[106, 117, 109, 112], true, false⟩,
  ⟨[98, 114, 97, 110, 99, 104], true, false⟩,
  ⟨[110, 101, 119], false, true⟩,
  ⟨[103, 101, 116], false, true⟩,
  ⟨[112, 117, 116], false, true⟩,
  ⟨[99, 97, 108, 108], false, true⟩,
  ⟨[97, 114, 114, 97, 121], false, true⟩,
  ⟨[97, 116], false, false⟩,
  ⟨[115, 101, 116], false, false⟩,
  ⟨[105, 115], false, true⟩,
  ⟨[99, 97, 115, 116], false, true⟩,
  ⟨[114, 101, 116, 117, 114, 110], false, false⟩,
  ⟨[116, 104, 114, 111, 119], false, false⟩,
  ⟨[111, 117, 116], false, false⟩,
  ⟨[101, 113, 117, 97, 108], false, false⟩,
  ⟨[97, 110, 100], false, false⟩,
  ⟨[111, 114], false, false⟩,
  ⟨[120, 111, 114], false, false⟩,
  ⟨[115, 104, 108], false, false⟩,
  ⟨[115, 104, 114], false, false⟩]
end Go.Hm
namespace Go.Emb
open Go.Hm
def ROp (_ : Store) (o : Opr) (cs : List Value) : Prop := cs = [S o.name, .bool o.number, .bool o.text]
def cOp (o : Opr) : List Value := [S o.name, .bool o.number, .bool o.text]
instance : Rep ROp := ⟨fun _ h => h, fun h u hu => by rw [h] at hu; simp at hu; rcases hu with rfl | rfl | rfl <;> rfl⟩
end Go.Emb
namespace Go.Proofs.YtdnfaboigajkhaaGreatDoor
open Go.Emb Go.RowKit Go.Kd Go.Hm
variable {w : World} {K : Value → World → Prop} {σ : Store}
theorem c_member {a : Str} (ha : a.length ≤ Big) (h : ∀ w', Below w.heap.size w w' → K (.bool (member a)) w') : callF P F.class_member [S a] w K := r_class_member (by
  unfold g_class_member
  have ha' : a.length ≤ 140737488355328 := by simp only [Big] at ha; omega
  refine k_Name a ha' fun w1 h1 => ?_
  cases hn : name a
  · (try simp only [↓Mm, Mm, ↓Mr, Mr, Mb, reduceIte])
    have := h w1 h1
    rwa [show member a = false by cases a with | nil => rfl | cons c r => simp [member, hn]] at this
  · (try simp only [↓Mm, Mm, ↓Mr, Mr, Mb, reduceIte])
    refine k_Class a ha' fun w2 h2 => ?_
    (try simp only [↓Mm, Mm, ↓Mr, Mr, Mb, reduceIte])
    have := h w2 (bt h1 h2)
    rwa [show member a = !clas a by
      cases a with
      | nil => simp [name] at hn
      | cons c r =>
        obtain ⟨q1, q2⟩ := head_alnum hn
        simp only [clas, member, hn, Bool.true_and]
        simp only [alnum, q2, Bool.or_false] at q1
        cases hg : great c.toNat <;> cases hs : small c.toNat
        · simp [hg, hs] at q1
        · rfl
        · rfl
        · exfalso
          simp only [great, small, Bool.and_eq_true, decide_eq_true_eq] at hg hs
          omega] at this)
theorem slc_arr {t e : TypeId} {n sz by_ : Nat} {z : Value} [ta : TA P t n e] [tz : TZ P e sz by_ z] {a : Addr} (hk : K (.slice (some a) n n) w) : slc P t (.pointer (some a)) none none none w K := by
  unfold slc
  have : (Instr.sliceAt t (.pointer (some a)) none none none).run P w = .ok (.slice (some (if n = 0 then a else a.add (0 * sz))) (n - 0) (n - 0)) w := by
    simp [Instr.sliceAt, run_underlying ta.h, Instr.sureAddr, Instr.sliceBounds, run_sizeOf_of tz]
  rw [op_value this]
  have e1 : (if n = 0 then a else a.add (0 * sz)) = a := by
    by_cases h : n = 0
    · rw [if_pos h]
    · rw [if_neg h, Nat.zero_mul, add_zero]
  rw [e1]; exact hk
def GOps (σ : Store) : Prop := Lies σ ⟨G.code_ops, 0, none⟩ (oprs.flatMap cOp)
theorem oprs_at (i : Nat) (o : Opr) (h : oprs[i]? = some o) : ((oprs.flatMap cOp).drop (i * 3)).take 3 = cOp o := by
  have hi : i < 42 := (List.getElem?_eq_some_iff.1 h).1
  have key : ∀ l : List Opr, ∀ i o, l[i]? = some o → ((l.flatMap cOp).drop (i * 3)).take 3 = cOp o := by
    intro l
    induction l with
    | nil => intro i o h; simp at h
    | cons a r ih =>
      intro i o h
      cases i with
      | zero => simp at h; subst h; rfl
      | succ i =>
        have := ih i o (by simpa using h)
        rw [List.flatMap_cons, show (i + 1) * 3 = (cOp a).length + i * 3 by simp [cOp]; omega, List.drop_append]
        simpa [List.drop_eq_nil_of_le] using this
  exact key _ i o h
theorem lies_piece {σ : Store} {a : Addr} {cs : List Value} (h : Lies σ a cs) (i n : Nat) : Lies σ (a.add i) ((cs.drop i).take n) := by
  obtain ⟨h1, arr, e, fr, h2, h3⟩ := h
  refine ⟨add_spot h1 _, arr, e, fr, by rw [add_block]; exact h2, fun j v hv => ?_⟩
  rw [List.getElem?_take] at hv
  split at hv
  · rw [List.getElem?_drop] at hv
    rw [add_off, Nat.add_assoc]; exact h3 _ _ hv
  · cases hv
theorem ops_sl (h : GOps σ) : Sl 3 ROp σ (.slice (some ⟨G.code_ops, 0, none⟩) 42 42) oprs := by
  refine ⟨_, 42, rfl, by decide, by decide, by simp, ?_⟩
  rintro _ ⟨⟩
  refine ⟨fun _ => rfl, fun i x hx => ⟨cOp x, ?_, rfl, rfl⟩⟩
  rw [← oprs_at i x hx]
  exact lies_piece h (i * 3) 3
theorem s_IndexFunc_code_op {β : Type} {xs : List Opr} {v f : Value} (stp : β → Opr → Bool × β) (s0 : β) (Inv : β → World → Prop) (D : Nat → Prop) (hsat : ∀ s w, Inv s w → Sat w σ) (h0 : Inv s0 w) (hv : Sl 3 ROp σ v xs)
    (hf : ∀ s x cs (w1 : World) (K : Value → World → Prop), x ∈ xs → Kpt D w w1 → Inv s w1 → ROp σ x cs → cs.length = 3 → (∀ w', Kpt D w w' → Inv (stp s x).2 w' → K (.bool (stp s x).1) w') → callV P f [.agg cs.toArray] w1 K)
    (h : ∀ w', Kpt D w w' → Inv (scan stp s0 xs 0).2 w' → K (I (idxI (scan stp s0 xs 0).1)) w') : callF P F.slices_IndexFunc_S_code_op_code_op [v, f] w K := r_slices_IndexFunc_S_code_op_code_op (by
  unfold g_slices_IndexFunc_S_code_op_code_op
  ((try simp only [↓Mm, Mm, ↓Mr, Mr, Mb, reduceIte]); repeat ((first | refine ld (by assumption) (by assumption) rfl ?_ | refine ld0 (by assumption) (by assumption) rfl ?_ | refine len_slK (by assumption) ?_); (try simp only [↓Mm, Mm, ↓Mr, Mr, Mb, reduceIte])))
  refine lp_up xs.length (fun n w' => Kpt D w w' ∧ ∃ s, Inv s w' ∧ scan stp s0 xs 0 = scan stp s (xs.drop n) n) ⟨Kpt.refl, s0, h0, rfl⟩ fun n w1 d hn hi => ?_
  obtain ⟨hk, s, hi, he⟩ := hi
  have hs1 := hsat s w1 hi
  ((try simp only [↓Mm, Mm, ↓Mr, Mr, Mb, reduceIte]); repeat ((first | refine ld (by assumption) (by assumption) rfl ?_ | refine ld0 (by assumption) (by assumption) rfl ?_ | refine len_slK (by assumption) ?_); (try simp only [↓Mm, Mm, ↓Mr, Mr, Mb, reduceIte])))
  refine cnd_split (fun hc => ?_) (fun hc => ?_)
  · have hn' : n < xs.length := by simpa using hc
    refine ix_slN hv hn' fun p cs hl hlen hr => ?_
    refine lda hs1 hl hlen ?_
    refine hf s xs[n] cs w1 _ (List.getElem_mem hn') hk hi hr hlen fun w2 hk2 hi2 => ?_
    rw [List.drop_eq_getElem_cons hn'] at he
    simp only [scan] at he
    refine cnd_split (fun hb => ?_) (fun hb => ?_)
    · rw [hb] at he
      have := h w2 hk2
      rw [he] at this
      exact this hi2
    · rw [hb] at he
      ((try simp only [↓Mm, Mm, ↓Mr, Mr, Mb, reduceIte]); repeat ((first | refine ld (by assumption) (by assumption) rfl ?_ | refine ld0 (by assumption) (by assumption) rfl ?_ | refine len_slK (by assumption) ?_); (try simp only [↓Mm, Mm, ↓Mr, Mr, Mb, reduceIte])))
      exact up_next hv.max hn' ⟨hk2, _, hi2, by simpa using he⟩
  · have hn' : ¬ n < xs.length := by simpa using hc
    rw [List.drop_eq_nil_of_le (by omega)] at he
    have := h w1 hk
    rw [he] at this
    exact this hi)
theorem c_IndexFunc_code_op {xs : List Opr} {v f : Value} (p : Opr → Bool) (hs : Sat w σ) (hv : Sl 3 ROp σ v xs)
    (hf : ∀ x cs (w1 : World) (K : Value → World → Prop), x ∈ xs → Sat w1 σ → ROp σ x cs → cs.length = 3 → (∀ w', Below w1.heap.size w1 w' → K (.bool (p x)) w') → callV P f [.agg cs.toArray] w1 K)
    (h : ∀ w', Below w.heap.size w w' → K (I (idxI (xs.findIdx? p))) w') : callF P F.slices_IndexFunc_S_code_op_code_op [v, f] w K := by
  refine s_IndexFunc_code_op (fun (_ : Unit) x => (p x, ())) () (fun _ w' => Below w.heap.size w w') (fun _ => False) (fun _ w' hb => hs.below hb) (Below.refl _ _) hv (fun s x cs w1 K hx hk hi hr hl hK => hf x cs w1 K hx (hs.below hi) hr hl fun w' hb => hK w' (.of_below (bt hi hb)) (bt hi hb)) fun w' hk hi => ?_
  rw [scan_pure]
  simpa using h w' hi
theorem GOps.le {σ σ' : Store} (h : GOps σ) (hk : ∀ b o, σ b = some o → σ' b = some o) : GOps σ' := Lies.le h hk
def findOp (n : Str) : Option Nat := oprs.findIdx? fun o => decide (o.name = n)
theorem c_find {a : Str} (hs : Sat w σ) (hg : GOps σ) (h : ∀ w', Below w.heap.size w w' → K (I (idxI (findOp a))) w') : callF P F.code_find [S a] w K := r_code_find (by
  unfold g_code_find
  refine box_lies hs fun p w1 σ1 hk hp => ?_
  simp only [Value.cells] at hp
  refine slc_arr ?_
  ((try simp only [↓Mm, Mm, ↓Mr, Mr, Mb, reduceIte]); repeat ((first | refine ld (by assumption) (by assumption) rfl ?_ | refine ld0 (by assumption) (by assumption) rfl ?_ | refine len_slK (by assumption) ?_); (try simp only [↓Mm, Mm, ↓Mr, Mr, Mb, reduceIte])))
  refine c_IndexFunc_code_op (fun o => decide (o.name = a)) hk.sat (ops_sl (hg.le hk.le)) (fun x cs w2 K hx hs2 hr hl hK => ?_) fun w2 hb => ?_
  · refine callV_func (r_code_find_1 ?_)
    unfold g_code_find_1
    refine box_lies hs2 fun q w3 σ3 hk3 hq => ?_
    have hr' : cs = [S x.name, .bool x.number, .bool x.text] := hr
    subst hr'
    have hs3 := hk3.sat
    have hp3 := hp.up hk3
    simp only [Value.cells] at hq
    ((try simp only [↓Mm, Mm, ↓Mr, Mr, Mb, reduceIte]); repeat ((first | refine ld (by assumption) (by assumption) rfl ?_ | refine ld0 (by assumption) (by assumption) rfl ?_ | refine len_slK (by assumption) ?_); (try simp only [↓Mm, Mm, ↓Mr, Mr, Mb, reduceIte])))
    exact hK w3 hk3.bel
  · (try simp only [↓Mm, Mm, ↓Mr, Mr, Mb, reduceIte])
    exact h w2 (bt hk.bel hb))
def takes (n : Str) : Bool × Bool × Bool := match findOp n with
  | none => (false, false, false)
  | some i => ((oprs.getD i ⟨[], false, false⟩).number, (oprs.getD i ⟨[], false, false⟩).text, true)
theorem c_Takes {a : Str} (hs : Sat w σ) (hg : GOps σ) (h : ∀ w', Below w.heap.size w w' → K (.tuple #[.bool (takes a).1, .bool (takes a).2.1, .bool (takes a).2.2]) w') : callF P F.code_Takes [S a] w K := r_code_Takes (by
  unfold g_code_Takes
  refine c_find hs hg fun w1 hb => ?_
  have hs1 := hs.below hb
  unfold takes at h
  cases hf : findOp a with
  | none =>
    rw [hf] at h
    simp only [idxI]
    (try simp only [↓Mm, Mm, ↓Mr, Mr, Mb, reduceIte])
    simp only [show decide ((-1 : Int) < 0) = true from rfl, ↓Mm, Mm, ↓Mr, Mr, Mb, reduceIte]
    exact h w1 hb
  | some i =>
    rw [hf] at h
    simp only at h
    have hi : i < 42 := (List.findIdx?_eq_some_iff_getElem.1 hf).1
    have ho : oprs[i]? = some (oprs.getD i ⟨[], false, false⟩) := by
      rw [List.getD, List.getElem?_eq_getElem (by exact hi)]; rfl
    generalize oprs.getD i ⟨[], false, false⟩ = o at h ho
    have hl := lies_piece hg (i * 3) 3
    rw [oprs_at i o ho] at hl
    simp only [idxI]
    have e1 : decide ((i : Int) < 0) = false := by simp
    simp only [e1, ↓Mm, Mm, ↓Mr, Mr, Mb, reduceIte]
    have A : ∀ {w : World} {K : Value → World → Prop}, K (.pointer (some ((⟨G.code_ops, 0, none⟩ : Addr).add (i * 3)))) w → indexAddr P T.A42_code_op (.pointer (some ⟨G.code_ops, 0, none⟩)) (I i) w K := by
      intro w K h
      rw [ix_arr (by omega) (by omega)]
      simpa using h
    refine dr_below (Below.refl _ _) ?_
    refine dop_val (.pointer (some ((⟨G.code_ops, 0, none⟩ : Addr).add (i * 3)))) (fun w hb => A (dk_same rfl)) ?_
    refine dop_val (.pointer (some (((⟨G.code_ops, 0, none⟩ : Addr).add (i * 3)).add 1))) (fun t w hb e => by rw [e, fa]; exact dk_same rfl) ?_
    refine dop_val (.pointer (some ((⟨G.code_ops, 0, none⟩ : Addr).add (i * 3)))) (fun w hb => A (dk_same rfl)) ?_
    refine dop_val (.pointer (some (((⟨G.code_ops, 0, none⟩ : Addr).add (i * 3)).add 2))) (fun t w hb e => by rw [e, fa]; exact dk_same rfl) ?_
    refine dop_val (.bool o.number) (fun t w hb e => by rw [e]; exact ld (hs1.below hb) hl rfl (dk_same rfl)) ?_
    refine dop_val (.bool o.text) (fun t w hb e => by rw [e]; exact ld (hs1.below hb) hl rfl (dk_same rfl)) ?_
    rintro _ _ _ _ _ _ w2 hb2 rfl rfl rfl rfl rfl rfl
    exact h w2 (bt hb hb2))
end Go.Proofs.YtdnfaboigajkhaaGreatDoor

set_option autoImplicit false
set_option linter.unusedSimpArgs false
set_option linter.unusedVariables false
namespace Go.Emb
open Go.RowKit Go.Hm
variable {P : Program} {w w0 w1 w' w'' : World} {K : Value → World → Prop} {σ σ0 σ1 σ' : Store}
structure SLe (σ σ' : Store) : Prop where
  le : ∀ b o, σ b = some o → σ' b = some o
theorem SLe.refl (σ : Store) : SLe σ σ := ⟨fun _ _ h => h⟩
theorem SLe.step {w w' : World} (h : SLe σ0 σ) (k : Stp w σ w' σ') : SLe σ0 σ' := ⟨fun b o e => k.le b o (h.le b o e)⟩
theorem SLe.of (k : ∀ b o, σ b = some o → σ' b = some o) : SLe σ σ' := ⟨k⟩
theorem SLe.more (h : SLe σ0 σ) (k : SLe σ σ') : SLe σ0 σ' := ⟨fun b o e => k.le b o (h.le b o e)⟩
structure Hst (w : World) (σ : Store) (w' : World) (σ' : Store) : Prop where
  stp : Stp w σ w' σ'
theorem Hst.sat (h : Hst w σ w' σ') : Sat w' σ' := h.stp.sat
section lifts
variable {α : Type} {R : Store → α → List Value → Prop} {sz : Nat} {v : Value} {xs : List α} {a : Addr} {cs : List Value}
theorem Sl.lift [Rep R] (h : Sl sz R σ0 v xs) (k : SLe σ0 σ) : Sl sz R σ v xs := h.le k.le
theorem Lies.lift (h : Lies σ0 a cs) (k : SLe σ0 σ) : Lies σ a cs := h.le k.le
theorem LiesM.lift {r : Nat} {m : List (List UInt8 × Value)} (h : LiesM σ0 r m) (k : SLe σ0 σ) : LiesM σ r m := h.le k.le
theorem RMe_lift {x : Hm.Met} (h : RMe σ0 x cs) (k : SLe σ0 σ) : RMe σ x cs := Rep.up k.le h
theorem RCl_lift {x : Cla} (h : RCl σ0 x cs) (k : SLe σ0 σ) : RCl σ x cs := Rep.up k.le h
theorem RFd_any {x : Fld} (h : RFd σ0 x cs) : RFd σ x cs := h
theorem RIn_any {x : Ins} (h : RIn σ0 x cs) : RIn σ x cs := h
theorem RCa_any {x : Cat} (h : RCa σ0 x cs) : RCa σ x cs := h
theorem Mine.step {b : Nat} (h : Mine σ w b cs) (k : Stp w σ w' σ') : Mine σ' w' b cs := h.up k
theorem MineM.step {r : Nat} {m : List (List UInt8 × Value)} (h : MineM σ w r m) (k : Stp w σ w' σ') : MineM σ' w' r m := h.up k
theorem Acc.step [Rep R] {B : Nat} {e : TypeId} (h : Acc B e sz R σ w v xs) (k : Stp w σ w' σ') : Acc B e sz R σ' w' v xs := h.up k
end lifts
theorem below_k {Q : World → Prop} (hs : Sat w σ) (h : ∀ w' σ', Stp w σ w' σ' → Q w') : ∀ w', Below w.heap.size w w' → Q w' := fun w' hb => h w' σ (Stp.of_below hs hb)
section plain
variable {k : IntKind} {t : TypeId} {ox oy : Operand} {a b : Int} {x y : Bool} {s u : List UInt8}
theorem x_add (h : K (.int k (k.wrap (a + b))) w) : bin P .add t ox oy (.int k a) (.int k b) w K := by rw [bin_add]; exact h
theorem x_add64 (h0 : -9223372036854775808 ≤ a + b ∧ a + b ≤ 9223372036854775807) (h : K (I (a + b)) w) : bin P .add t ox oy (I a) (I b) w K := by rw [bin_add, w64 h0.1 h0.2]; exact h
theorem x_sub64 (h0 : -9223372036854775808 ≤ a - b ∧ a - b ≤ 9223372036854775807) (h : K (I (a - b)) w) : bin P .sub t ox oy (I a) (I b) w K := by rw [bin_sub, w64 h0.1 h0.2]; exact h
theorem x_lss (h : K (.bool (decide (a < b))) w) : bin P .lss t ox oy (.int k a) (.int k b) w K := by rw [bin_lss]; exact h
theorem x_gtr (h : K (.bool (decide (b < a))) w) : bin P .gtr t ox oy (.int k a) (.int k b) w K := by rw [bin_gtr]; exact h
theorem x_geq (h : K (.bool (decide (b ≤ a))) w) : bin P .geq t ox oy (.int k a) (.int k b) w K := by rw [bin_geq]; exact h
theorem x_eql (h : K (.bool (decide (a = b))) w) : bin P .eql t ox oy (.int k a) (.int k b) w K := by rw [bin_eql]; exact h
theorem x_neq (h : K (.bool (!decide (a = b))) w) : bin P .neq t ox oy (.int k a) (.int k b) w K := by rw [bin_neq]; exact h
theorem x_not (h : K (.bool (!x)) w) : una P .not (.bool x) w K := by rw [una_not]; exact h
theorem x_eqs (h : K (.bool (decide (s = u))) w) : bin P .eql t ox oy (S s) (S u) w K := by rw [bin_eql_str]; exact h
theorem x_nes (h : K (.bool (!decide (s = u))) w) : bin P .neq t ox oy (S s) (S u) w K := by rw [bin_neq_str]; exact h
theorem x_cat (h0 : s.length + u.length ≤ 9223372036854775807) (h : K (S (s ++ u)) w) : bin P .add t ox oy (S s) (S u) w K := by rw [bin_add_str h0]; exact h
theorem x_lens {cs : List Bool} {r : TypeId} (hu : P.underlying t = some .string) (h : K (I s.length) w) : blt P .len [t] r cs [S s] w K := by rw [len_str hu]; exact h
theorem x_pick {v u : Value} (h : K (if x = true then v else u) w) : pick P (.bool x) v u w K := by rw [pick_bool]; exact h
theorem x_ext {vs : List Value} {i : Nat} {v : Value} (hv : vs[i]? = some v) (h : K v w) : ext P (.tuple vs.toArray) i w K := by rw [ext_tuple hv]; exact h
theorem x_cndT {t e : Prop} (h : t) : cnd (.bool true) t e := by rw [cnd_true]; exact h
theorem x_cndF {t e : Prop} (h : e) : cnd (.bool false) t e := by rw [cnd_false]; exact h
end plain
section mem
variable {α : Type} {R : Store → α → List Value → Prop} {sz : Nat} {v : Value} {xs : List α} {a : Addr} {cs : List Value}
theorem x_box {t : TypeId} (hs : Sat w σ) (h : ∀ a w' σ', Stp w σ w' σ' → Lies σ' a cs → K (.pointer (some a)) w') : box P t (.agg cs.toArray) w K :=
  box_lies hs fun a w' σ' hk hl => h a w' σ' hk (by simpa [Value.cells] using hl)
theorem x_box1 {t : TypeId} (hs : Sat w σ) (hc : v.cells = #[v]) (h : ∀ a w' σ', Stp w σ w' σ' → Lies σ' a [v] → K (.pointer (some a)) w') : box P t v w K :=
  box_lies hs fun a w' σ' hk hl => h a w' σ' hk (by rw [hc] at hl; exact hl)
theorem cells_sl (h : Sl sz R σ v xs) : v.cells = #[v] := by
  obtain ⟨a, cap, rfl, _⟩ := h; rfl
theorem x_fa {t : TypeId} {k off : Nat} {ft : TypeId} {sz by_ : Nat} {z : Value} [tf : TF P t k off ft] [tz : TZ P ft sz by_ z] [nz : NZ sz] (h : K (.pointer (some (a.add off))) w) : fieldAddr P t (.pointer (some a)) k w K := by
  rw [fa]; exact h
theorem x_fld {t : TypeId} {k off : Nat} {ft : TypeId} [tf : TF P t k off ft] [tg : TG P ft false] {cs : List Value} {v : Value} (hv : cs[off]? = some v) (h : K v w) : fld P t (.agg cs.toArray) k w K := by
  rw [fld_agg (v := v) (by simpa using hv)]; exact h
end mem
theorem dr_hst {A : (World → World → Prop) → (World → Prop) → Prop} (hs : Sat w σ) (h : A (fun w w' => Below w.heap.size w w') (fun w' => Hst w σ w' σ)) : dr w A :=
  dr_mk _ _ ⟨Stp.of_below hs (Below.refl _ _).drew⟩ (fun _ _ h1 h2 => ⟨h1.stp.trans (Stp.of_below h1.sat h2)⟩) h
theorem x_slb {α : Type} {R : Store → α → List Value → Prop} {sz : Nat} {v : Value} {xs : List α} {t : TypeId} (hs : Sat w σ) (hv : Sl sz R σ v xs) (h : ∀ a w' σ', Stp w σ w' σ' → Lies σ' a [v] → K (.pointer (some a)) w') : box P t v w K :=
  x_box1 hs (cells_sl hv) h
section elems
variable {v : Value} {t e : TypeId} {by_ : Nat} {z : Value} {n : Nat}
theorem ix_Str {xs : List Kd.Str} [TS P t e] [TZ P e 1 by_ z] (h : Sl 1 RStr σ v xs) (hn : n < xs.length) (hk : ∀ a, Lies σ a [S xs[n]] → xs[n].length ≤ Big → K (.pointer (some a)) w) : indexAddr P t v (I n) w K :=
  ix_slN h hn fun a cs h1 h2 h3 => by obtain ⟨rfl, h4⟩ := h3; exact hk a h1 h4
theorem ix_Fld {xs : List Fld} [TS P t e] [TZ P e 3 by_ z] (h : Sl 3 RFd σ v xs) (hn : n < xs.length) (hk : ∀ a, Lies σ a [S xs[n].name, S xs[n].kind, .bool xs[n].tr] → RFd σ xs[n] [S xs[n].name, S xs[n].kind, .bool xs[n].tr] → K (.pointer (some a)) w) : indexAddr P t v (I n) w K :=
  ix_slN h hn fun a cs h1 h2 h3 => by obtain ⟨rfl, h4⟩ := h3; exact hk a h1 ⟨rfl, h4⟩
end elems
end Go.Emb

namespace Go.Proofs
open Go.Shelf
def Tryz.lays156_ren : Go.Shelf.Ren := ⟨fun | 156 => 72 | 165 => 104 | 166 => 105 | 169 => 106 | 240 => 137 | 241 => 138 | 276 => 161 | 277 => 162 | n => n, fun | 31 => 46 | 9 => 9 | 3 => 3 | 4 => 4 | 0 => 0 | 20 => 20 | 72 => 127 | 76 => 130 | 70 => 124 | 37 => 125 | 75 => 129 | 127 => 150 | 164 => 160 | 5 => 5 | 80 => 132 | n => n, fun | n => n⟩
theorem Tryz.lays156 : Go.Proofs.Lays.n156 Tryz.prog Tryz.lays156_ren := {
  mixed := by kernel_rfl
  f156 := Tryz.func72.trans (congrArg some (by kernel_rfl))
  f165 := Tryz.func104.trans (congrArg some (by kernel_rfl))
  f166 := Tryz.func105.trans (congrArg some (by kernel_rfl))
  f169 := Tryz.func106.trans (congrArg some (by kernel_rfl))
  f240 := Tryz.func137.trans (congrArg some (by kernel_rfl))
  f241 := Tryz.func138.trans (congrArg some (by kernel_rfl))
  f276 := Tryz.func161.trans (congrArg some (by kernel_rfl))
  f277 := Tryz.func162.trans (congrArg some (by kernel_rfl))
  t0 := Tryz.underlying0
  a0 := Tryz.isAgg0
  z0 := Tryz.sizeOf0
  v0 := Tryz.zeroValue0
  t3 := Tryz.underlying3
  a3 := Tryz.isAgg3
  z3 := Tryz.sizeOf3
  v3 := Tryz.zeroValue3
  t4 := Tryz.underlying4
  a4 := Tryz.isAgg4
  z4 := Tryz.sizeOf4
  v4 := Tryz.zeroValue4
  t9 := Tryz.underlying9
  a9 := Tryz.isAgg9
  z9 := Tryz.sizeOf9
  v9 := Tryz.zeroValue9
  t20 := Tryz.underlying20
  a20 := Tryz.isAgg20
  z20 := Tryz.sizeOf20
  v20 := Tryz.zeroValue20
  t31 := Tryz.underlying46
  a31 := Tryz.isAgg46
  z31 := Tryz.sizeOf46
  v31 := Tryz.zeroValue46
  t37 := Tryz.underlying125
  a37 := Tryz.isAgg125
  z37 := Tryz.sizeOf125
  v37 := Tryz.zeroValue125
  t70 := Tryz.underlying124
  a70 := Tryz.isAgg124
  z70 := Tryz.sizeOf124
  v70 := Tryz.zeroValue124
  t72 := Tryz.underlying127
  a72 := Tryz.isAgg127
  z72 := Tryz.sizeOf127
  v72 := Tryz.zeroValue127
  t75 := Tryz.underlying129
  a75 := Tryz.isAgg129
  z75 := Tryz.sizeOf129
  v75 := Tryz.zeroValue129
  t76 := Tryz.underlying130
  a76 := Tryz.isAgg130
  z76 := Tryz.sizeOf130
  v76 := Tryz.zeroValue130
  t127 := Tryz.underlying150
  a127 := Tryz.isAgg150
  z127 := Tryz.sizeOf150
  v127 := Tryz.zeroValue150
  t164 := Tryz.underlying160
  a164 := Tryz.isAgg160
  z164 := Tryz.sizeOf160
  v164 := Tryz.zeroValue160 }
theorem Tryz.Builder_Extra_156 : Builder.Extra Tryz.prog Tryz.lays156_ren := {
  sizeBuilder := by kernel_rfl
  liesBuilder := by kernel_rfl
  t5 := Tryz.underlying5
  a5 := Tryz.isAgg5
  z5 := Tryz.sizeOf5
  v5 := Tryz.zeroValue5
  infoByte := by kernel_rfl
  cellsByte := by kernel_rfl
  sizeByte := by kernel_rfl
  neB5 := by decide }
open Go.RowKit in
theorem Tryz.strings_Join_none (a : Option Addr) (c : Nat) (sep : ByteArray) (w : World) :
    Calls Tryz.prog 72 #[.slice a 0 c, .string sep] w fun e w' => e = .returned (.string ⟨#[]⟩) ∧ w' = w := Any.strings_Join_none Tryz.lays156 Tryz.Builder_Extra_156 a c sep w
open Go.RowKit in
theorem Tryz.strings_Join (bk o c : Nat) (xs : List ByteArray) (sep : ByteArray) (w : World) (hcells : ∀ (j : Nat) x, xs[j]? = some x → w.cell? ⟨bk, o + j, none⟩ = some (.string x)) (hbk : bk < w.heap.size) (hN : xs.length ≤ 140737488355328) (hcap : xs.length ≤ c) (hlen : (Lib.join (xs.map (·.data.toList)) sep.data.toList).length ≤ 140737488355328) :
    Calls Tryz.prog 72 #[.slice (some ⟨bk, o, none⟩) xs.length c, .string sep] w fun e w' => e = .returned (.string ⟨(Lib.join (xs.map (·.data.toList)) sep.data.toList).toArray⟩) ∧ Below w.heap.size w w' := Any.strings_Join Tryz.lays156 Tryz.Builder_Extra_156 bk o c xs sep w hcells hbk hN hcap hlen
def Tryz.lays232_ren : Go.Shelf.Ren := ⟨fun | 232 => 93 | n => n, fun | 9 => 9 | 5 => 5 | 3 => 3 | 4 => 4 | n => n, fun | n => n⟩
theorem Tryz.lays232 : Go.Proofs.Lays.n232 Tryz.prog Tryz.lays232_ren := {
  mixed := by kernel_rfl
  f232 := Tryz.func93.trans (congrArg some (by kernel_rfl))
  t3 := Tryz.underlying3
  a3 := Tryz.isAgg3
  z3 := Tryz.sizeOf3
  v3 := Tryz.zeroValue3
  t4 := Tryz.underlying4
  a4 := Tryz.isAgg4
  z4 := Tryz.sizeOf4
  v4 := Tryz.zeroValue4
  t5 := Tryz.underlying5
  a5 := Tryz.isAgg5
  z5 := Tryz.sizeOf5
  v5 := Tryz.zeroValue5
  t9 := Tryz.underlying9
  a9 := Tryz.isAgg9
  z9 := Tryz.sizeOf9
  v9 := Tryz.zeroValue9 }
open Go.RowKit in
theorem Tryz.strings_trimRightByte (s : ByteArray) (c : UInt8) (w : World) (hs : s.size ≤ 9223372036854775807) :
    Calls Tryz.prog 93 #[.string s, .int .u8 c.toNat] w fun e w' => e = .returned (.string ⟨(Lib.trimRightB s.data.toList c).toArray⟩) ∧ w' = w := Any.strings_trimRightByte Tryz.lays232 s c w hs
def Tryz.lays144_ren : Go.Shelf.Ren := ⟨fun | 144 => 178 | 143 => 189 | 219 => 194 | 217 => 185 | 225 => 174 | 224 => 173 | 267 => 198 | 266 => 193 | 314 => 199 | n => n, fun | 9 => 9 | 4 => 4 | 3 => 3 | 5 => 5 | 46 => 167 | 146 => 189 | 51 => 188 | n => n, fun | 1 => 1 | n => n⟩
theorem Tryz.lays144 : Go.Proofs.Lays.n144 Tryz.prog Tryz.lays144_ren := {
  mixed := by kernel_rfl
  f143 := Tryz.func189.trans (congrArg some (by kernel_rfl))
  f144 := Tryz.func178.trans (congrArg some (by kernel_rfl))
  f217 := Tryz.func185.trans (congrArg some (by kernel_rfl))
  f219 := Tryz.func194.trans (congrArg some (by kernel_rfl))
  f224 := Tryz.func173.trans (congrArg some (by kernel_rfl))
  f225 := Tryz.func174.trans (congrArg some (by kernel_rfl))
  f266 := Tryz.func193.trans (congrArg some (by kernel_rfl))
  f267 := Tryz.func198.trans (congrArg some (by kernel_rfl))
  f314 := Tryz.func199.trans (congrArg some (by kernel_rfl))
  t3 := Tryz.underlying3
  a3 := Tryz.isAgg3
  z3 := Tryz.sizeOf3
  v3 := Tryz.zeroValue3
  t4 := Tryz.underlying4
  a4 := Tryz.isAgg4
  z4 := Tryz.sizeOf4
  v4 := Tryz.zeroValue4
  t5 := Tryz.underlying5
  a5 := Tryz.isAgg5
  z5 := Tryz.sizeOf5
  v5 := Tryz.zeroValue5
  t9 := Tryz.underlying9
  a9 := Tryz.isAgg9
  z9 := Tryz.sizeOf9
  v9 := Tryz.zeroValue9
  t46 := Tryz.underlying167
  a46 := Tryz.isAgg167
  z46 := Tryz.sizeOf167
  v46 := Tryz.zeroValue167
  t51 := Tryz.underlying188
  a51 := Tryz.isAgg188
  z51 := Tryz.sizeOf188
  v51 := Tryz.zeroValue188
  t146 := Tryz.underlying189
  a146 := Tryz.isAgg189
  z146 := Tryz.sizeOf189
  v146 := Tryz.zeroValue189
  g1 := by kernel_rfl }
open Go.RowKit Go.Lib in
theorem Tryz.strings_Contains_one (s : ByteArray) (c : UInt8) (w : World) :
    Calls Tryz.prog 178 #[.string s, .string ⟨#[c]⟩] w fun e w' => e = .returned (.bool (decide (0 ≤ Lib.indexByte s.data.toList c))) ∧ w' = w := Any.strings_Contains_one Tryz.lays144 s c w
def Tryz.lays227_ren : Go.Shelf.Ren := ⟨fun | 227 => 94 | n => n, fun | 9 => 9 | 116 => 112 | 4 => 4 | 0 => 0 | 3 => 3 | 5 => 5 | n => n, fun | n => n⟩
theorem Tryz.lays227 : Go.Proofs.Lays.n227 Tryz.prog Tryz.lays227_ren := {
  mixed := by kernel_rfl
  f227 := Tryz.func94.trans (congrArg some (by kernel_rfl))
  t0 := Tryz.underlying0
  a0 := Tryz.isAgg0
  z0 := Tryz.sizeOf0
  v0 := Tryz.zeroValue0
  t3 := Tryz.underlying3
  a3 := Tryz.isAgg3
  z3 := Tryz.sizeOf3
  v3 := Tryz.zeroValue3
  t4 := Tryz.underlying4
  a4 := Tryz.isAgg4
  z4 := Tryz.sizeOf4
  v4 := Tryz.zeroValue4
  t5 := Tryz.underlying5
  a5 := Tryz.isAgg5
  z5 := Tryz.sizeOf5
  v5 := Tryz.zeroValue5
  t9 := Tryz.underlying9
  a9 := Tryz.isAgg9
  z9 := Tryz.sizeOf9
  v9 := Tryz.zeroValue9
  t116 := Tryz.underlying112
  a116 := Tryz.isAgg112
  z116 := Tryz.sizeOf112 }
open Go.RowKit Go.Lib in
theorem Tryz.strings_makeASCIISet (hv116 : ∀ w, (zeroValue 112).run Tryz.prog w = .ok (.agg (Array.replicate 256 (.bool false))) w) (chars : ByteArray) (w : World) (hs : chars.size < 4294967281) (hascii : ∀ (j : Nat) b, chars.data.toList[j]? = some b → b.toNat < 128) :
    Calls Tryz.prog 94 #[.string chars] w fun e w' => e = .returned (.tuple #[.agg (Lib.setCells chars.data.toList), .bool true]) ∧ w' = w.alloc (.cells (Lib.setCells chars.data.toList) 112) := Any.strings_makeASCIISet Tryz.lays227 hv116 (by kernel_rfl) chars w hs hascii
open Go.RowKit Go.Lib in
def Tryz.lays196_ren : Go.Shelf.Ren := ⟨fun | 196 => 177 | 259 => 188 | n => n, fun | 9 => 9 | 4 => 4 | 3 => 3 | 5 => 5 | 12 => 12 | 119 => 177 | 0 => 0 | 46 => 167 | 139 => 180 | 138 => 179 | 53 => 186 | n => n, fun | 3 => 3 | 4 => 4 | n => n⟩
theorem Tryz.lays196 : Go.Proofs.Lays.n196 Tryz.prog Tryz.lays196_ren := {
  mixed := by kernel_rfl
  f196 := Tryz.func177.trans (congrArg some (by kernel_rfl))
  f259 := Tryz.func188.trans (congrArg some (by kernel_rfl))
  t0 := Tryz.underlying0
  a0 := Tryz.isAgg0
  z0 := Tryz.sizeOf0
  v0 := Tryz.zeroValue0
  t3 := Tryz.underlying3
  a3 := Tryz.isAgg3
  z3 := Tryz.sizeOf3
  v3 := Tryz.zeroValue3
  t4 := Tryz.underlying4
  a4 := Tryz.isAgg4
  z4 := Tryz.sizeOf4
  v4 := Tryz.zeroValue4
  t5 := Tryz.underlying5
  a5 := Tryz.isAgg5
  z5 := Tryz.sizeOf5
  v5 := Tryz.zeroValue5
  t9 := Tryz.underlying9
  a9 := Tryz.isAgg9
  z9 := Tryz.sizeOf9
  v9 := Tryz.zeroValue9
  t12 := Tryz.underlying12
  a12 := Tryz.isAgg12
  z12 := Tryz.sizeOf12
  v12 := Tryz.zeroValue12
  t46 := Tryz.underlying167
  a46 := Tryz.isAgg167
  z46 := Tryz.sizeOf167
  v46 := Tryz.zeroValue167
  t53 := Tryz.underlying186
  a53 := Tryz.isAgg186
  z53 := Tryz.sizeOf186
  v53 := Tryz.zeroValue186
  t119 := Tryz.underlying177
  a119 := Tryz.isAgg177
  z119 := Tryz.sizeOf177
  t138 := Tryz.underlying179
  a138 := Tryz.isAgg179
  z138 := Tryz.sizeOf179
  v138 := Tryz.zeroValue179
  t139 := Tryz.underlying180
  a139 := Tryz.isAgg180
  z139 := Tryz.sizeOf180
  v139 := Tryz.zeroValue180
  g3 := by kernel_rfl
  g4 := by kernel_rfl }
end Go.Proofs

set_option autoImplicit false
namespace Go.Hm
open Go.Kd
abbrev Look := Str → Option Cla
def findC (l : List Cla) (n : Str) : Option Nat := l.findIdx? fun c => decide (c.name = n)
def lk (l : List Cla) : Look := fun n => (findC l n).bind (l[·]?)
def ups (c : Cla) : List Str := c.super :: c.like
def sRoot : Str := [79, 98, 106, 101, 99, 116]
def sFault : Str := [70, 97, 117, 108, 116]
def sNull : Str := [110, 117, 108, 108]
def sText : Str := [116, 101, 120, 116]
def sWhat : Str := [119, 104, 97, 116]
def faultNames : List Str := [[78, 117, 108, 108, 70, 97, 117, 108, 116], [73, 110, 100, 101, 120, 70, 97, 117, 108, 116], [67, 97, 115, 116, 70, 97, 117, 108, 116], [90, 101, 114, 111, 70, 97, 117, 108, 116], [82, 111, 111, 109, 70, 97, 117, 108, 116], [67, 97, 108, 108, 70, 97, 117, 108, 116]]
def given : List Cla := [⟨sRoot, [], [], false, false, false, [], []⟩, ⟨sFault, sRoot, [], false, false, false, [⟨sWhat, sText, false⟩], []⟩] ++ faultNames.map fun n => ⟨n, sFault, [], false, false, true, [], []⟩
def bfs (L : Look) : Nat → List Str → List Str → List Str
  | 0, _, seen => seen
  | _, [], seen => seen
  | f + 1, n :: todo, seen => match L n with
    | none => bfs L f todo seen
    | some c => if n ∈ seen then bfs L f todo seen else bfs L f (todo ++ ups c) (seen ++ [n])
def weigh (l : List Cla) (seen : List Str) : Nat := (l.map fun c => if c.name ∈ seen then 0 else (ups c).length).sum
def visits (l : List Cla) (n : Str) : List Str := bfs (lk l) (1 + weigh l []) [n] []
def hasM (l : List Cla) (n : Str) : Bool := (findC l n).isSome
def kindM (l : List Cla) (s : Str) : Bool := decide (s = sNull) || (right s && (plain (base s).1 || hasM l (base s).1))
def subM (l : List Cla) (a b : Str) : Bool :=
  if !kindM l a || !kindM l b then false else if a = b then true else if plain a || plain b then false else if a = sNull then true
  else if elem a ≠ [] then decide (b = sRoot) else (visits l a).contains b
def chainN (L : Look) : Nat → Str → List Cla
  | 0, _ => []
  | f + 1, n => match L n with
    | none => []
    | some c => c :: chainN L f c.super
def chain (l : List Cla) (n : Str) : List Cla := chainN (lk l) (l.length + 1) n
def joinM (l : List Cla) (a b : Str) : Str :=
  if subM l a b then b else if subM l b a then a else if !kindM l a || !kindM l b || plain a || plain b then []
  else match (chain l a).find? fun c => subM l b c.name with
    | some c => c.name
    | none => sRoot
def fieldsM (l : List Cla) (n : Str) : List Fld := (chain l n).reverse.flatMap (·.fields)
def placeM (l : List Cla) (n f : Str) : Option Nat := (fieldsM l n).findIdx? fun x => decide (x.name = f)
def ownM (c : Cla) (n : Str) : Option Hm.Met := c.methods.find? fun m => decide (m.name = n)
def likedN (L : Look) : Nat → Cla → Str → Option (Str × Hm.Met)
  | 0, _, _ => none
  | f + 1, c, n => c.like.findSome? fun u => match L u with
    | none => none
    | some d => match ownM d n with
      | some m => some (u, m)
      | none => likedN L f d n
def methodM (l : List Cla) (k n : Str) : Option (Str × Hm.Met) :=
  match (chain l k).findSome? fun c => (ownM c n).map (c.name, ·) with
  | some r => some r
  | none => (chain l k).findSome? fun c => likedN (lk l) (l.length + 1) c n
def objectsM (l : List Cla) (n : Str) : Bool := match lk l n with
  | some c => !c.abs
  | none => false
def fldText (f : Fld) : Str := if f.tr then [] else [32] ++ f.name ++ [58] ++ f.kind
def printN (L : Look) : Nat → Str → Str
  | 0, _ => []
  | f + 1, n => match L n with
    | none => []
    | some c => if n = sRoot then [] else n ++ [40] ++ printN L f c.super ++ [41] ++ c.fields.flatMap fldText ++ [46]
def printM (l : List Cla) (n : Str) : Str := printN (lk l) (l.length + 1) n
def commas : List Str → Str
  | [] => []
  | [a] => a
  | a :: b :: r => a ++ [44] ++ commas (b :: r)
def sign (m : Hm.Met) : Str := [40] ++ commas m.params ++ [41] ++ m.result
def thereM (l : List Cla) (s : Str) : Bool := !decide (s = sNull) && kindM l s
def memField (l : List Cla) (c : Cla) : Bool := c.fields.any fun f => (placeM l c.super f.name).isSome
def memKind (l : List Cla) (c : Cla) : Bool := c.fields.any (fun f => !thereM l f.kind) || c.methods.any fun m => (!thereM l m.result && !decide (m.result = [])) || m.params.any fun s => !thereM l s
def allMets (l : List Cla) (n : Str) : List Hm.Met := (visits l n).flatMap fun u => ((lk l u).map (·.methods)).getD []
def overs (ms : List Hm.Met) : Bool := ms.any fun x => ms.any fun y => decide (x.name = y.name) && !decide (sign x = sign y)
def memOver (l : List Cla) (c : Cla) : Bool := overs (allMets l c.name)
def lacksM (l : List Cla) (k n : Str) : Bool := match methodM l k n with
  | none => true
  | some r => r.2.abs
def memLacks (l : List Cla) (c : Cla) : Bool := !c.abs && (allMets l c.name).any fun m => lacksM l c.name m.name
def membersM (l : List Cla) (c : Cla) : Nat := if memField l c then 64 else if memKind l c then 65 else if memOver l c then 66 else if memLacks l c then 67 else 0
def superBad (l : List Cla) (n : Str) : Bool := match lk l n with
  | none => true
  | some d => d.iface || d.fin
def likeBad (l : List Cla) (n : Str) : Bool := match lk l n with
  | none => true
  | some d => !d.iface
def uppersM (l : List Cla) (c : Cla) : Nat := if superBad l c.super then 61 else if c.like.any (likeBad l) then 62 else 0
def loopsM (l : List Cla) (c : Cla) : Bool := (ups c).any fun n => (visits l n).contains c.name
def putN (l : List Cla) (frm : Nat) : Nat → List Nat → Nat → List Nat
  | 0, out, _ => out
  | f + 1, out, i => if i < frm then out else if i ∈ out then out else ((ups (l.getD i Cla.zero)).foldl (fun out n => putN l frm f out ((findC l n).getD 0)) out) ++ [i]
def orderM (l : List Cla) (frm : Nat) : List Nat := ((List.range l.length).drop frm).foldl (fun out i => putN l frm (l.length + 1) out i) []
end Go.Hm

set_option autoImplicit false
set_option linter.unusedSimpArgs false
set_option linter.unusedVariables false
namespace Go.Proofs.YtdnfaboigajkhaaGreatDoor
open Go.Emb Go.RowKit Go.Kd Go.Hm
variable {w : World} {K : Value → World → Prop} {σ : Store}
theorem of_calls {f : FuncId} {fn : Func} {args : List Value} {V : Value} (hf : P.funcs[f]? = some fn) (hb : fn.body.isSome = true) (hn : (fn.name == "runtime.NumGoroutine") = false)
    (h : Calls P f args.toArray w fun e w' => e = .returned V ∧ Below w.heap.size w w') (hk : ∀ w', Below w.heap.size w w' → K V w') : callF P f args w K := by
  refine callF_of hf hb hn (Calls.mono h ?_)
  rintro e w' ⟨rfl, hb⟩
  exact hk w' hb
theorem c_ValidString {a : Str} (ha : a.length ≤ Big) (ht : Lib.Utf8Tabs G.utf8_first G.utf8_acceptRanges w) (h : ∀ w', Below w.heap.size w w' → K (.bool (Lib.validD a)) w') : callF P F.utf8_ValidString [S a] w K :=
  of_calls Tryz.func177 (by kernel_rfl) (by kernel_rfl) (by
    have := Any.utf8_ValidString Tryz.lays196 ⟨a.toArray⟩ w (by rw [size_mk]; simp only [Big] at ha; omega) ht
    simp only [List.toList_toArray] at this
    exact this) h
theorem c_Contains1 {a : Str} {c : UInt8} (h : K (.bool (decide (0 ≤ Lib.indexByte a c))) w) : callF P F.strings_Contains [S a, S [c]] w K := by
  refine callF_of (fn := Tryz.f178) Tryz.func178 (by kernel_rfl) (by kernel_rfl) (Calls.mono (Tryz.strings_Contains_one ⟨a.toArray⟩ c w) ?_)
  rintro e w' ⟨rfl, rfl⟩
  exact h
structure Glb (σ : Store) : Prop where
  ops : GOps σ
  tabs : ∀ w, Sat w σ → Lib.Utf8Tabs G.utf8_first G.utf8_acceptRanges w
  flt : Lies σ ⟨G.hier_faults, 0, none⟩ (faultNames.map S)
theorem Glb.lift {σ0 : Store} (h : Glb σ0) (k : SLe σ0 σ) : Glb σ := ⟨h.ops.le k.le, fun w hs => h.tabs w fun b o e => hs b o (k.le b o e), h.flt.le k.le⟩
def txt (n s : Str) : Bool :=
  if n = [119, 111, 114, 100] then decide (s.length ≤ 64) && Lib.validD s && !decide (0 ≤ Lib.indexByte s 10)
  else if n = [110, 101, 119] then clas s
  else if n = [105, 115] ∨ n = [99, 97, 115, 116] then right s && !plain s
  else if n = [97, 114, 114, 97, 121] then right s && decide (deep s < 3)
  else isParts s
theorem c_text {n a : Str} (ha : a.length ≤ Big) (hs : Sat w σ) (hg : Glb σ) (h : ∀ w' σ', Stp w σ w' σ' → K (.bool (txt n a)) w') : callF P F.code_text [S n, S a] w K := r_code_text (by
  unfold g_code_text
  have ha' : a.length ≤ 140737488355320 := by simp only [Big] at ha; omega
  have ha2 : a.length ≤ 140737488355328 := by simp only [Big] at ha; omega
  have hv : ∀ {w1 : World} {K : Value → World → Prop}, Sat w1 σ → (∀ w', Below w1.heap.size w1 w' → K (.bool (Lib.validD a)) w') → callF P F.utf8_ValidString [S a] w1 K := fun hk h => c_ValidString ha (hg.tabs _ hk) h
  unfold txt at h
  have e : decide ((a.length : Int) ≤ 64) = decide (a.length ≤ 64) := by rw [Bool.eq_iff_iff]; simp only [decide_eq_true_eq]; omega
  have e3 : decide ((deep a : Int) < 3) = decide (deep a < 3) := by rw [Bool.eq_iff_iff]; simp only [decide_eq_true_eq]; omega
  by_cases h1 : n = [119, 111, 114, 100]
  · rw [if_pos h1] at h
    simp only [decide_eq_true h1, ↓Mm, Mm, ↓Mr, Mr, Mb, reduceIte, e]
    by_cases h2 : a.length ≤ 64
    · simp only [decide_eq_true h2, ↓Mm, Mm, ↓Mr, Mr, Mb, reduceIte] at h ⊢
      refine hv hs (below_k hs ?_)
      intro w1 σ1 hk
      by_cases h3 : Lib.validD a = true
      · simp only [h3, ↓Mm, Mm, ↓Mr, Mr, Mb, reduceIte] at h ⊢
        refine c_Contains1 ?_
        (repeat' (first | (with_reducible intro _) | (with_reducible refine jn_in ?_) | (simp only [↓Mm, Mm, ↓Mp, Mp, Mb, reduceIte]) | (with_reducible first | refine ld aS aL aR ?_ | refine ld0 aS aL aR ?_ | refine lda aS aL aR ?_ | refine len_slK aL ?_ | refine x_fld aR ?_ | refine x_box aS ?_ | refine x_slb aS aL ?_ | refine x_box1 aS aR ?_ | refine alc_st aS aR aR (Rep.one (by assumption)) ?_ | refine alc_st1 aS aR aR aR ?_ | (refine gop_split (fun hh => ?_) (fun hh => ?_) <;> (try simp only [hh, Bool.not_true, Bool.not_false, ↓Mm, Mm, ↓Mp, Mp, Mb, reduceIte])) | (refine cnd_split (fun hh => ?_) (fun hh => ?_) <;> (try simp only [hh, Bool.not_true, Bool.not_false, ↓Mm, Mm, ↓Mp, Mp, Mb, reduceIte])))))
        all_goals (refine Eq.subst (motive := fun b => K b _) ?_ (h _ _ (by (repeat (first | exact Stp.refl (by (first | assumption | exact Stp.sat (by assumption) | exact Hst.sat (by assumption))) | assumption | refine Stp.trans ?_ (by first | assumption | exact Hst.stp (by assumption)))))); clear h; (try clear hA); (try clear hB); (try clear hC); first | rfl | ((try simp only [Bool.not_eq_true', Bool.not_eq_false', Bool.not_true, Bool.not_false, Bool.not_eq_true] at *); simp only [*, Mb, reduceIte]; done) | (simp [*]; done) | simp_all)
      · simp only [eq_false_of_ne_true h3, ↓Mm, Mm, ↓Mr, Mr, Mb, reduceIte] at h ⊢
        (repeat' (first | (with_reducible intro _) | (with_reducible refine jn_in ?_) | (simp only [↓Mm, Mm, ↓Mp, Mp, Mb, reduceIte]) | (with_reducible first | refine ld aS aL aR ?_ | refine ld0 aS aL aR ?_ | refine lda aS aL aR ?_ | refine len_slK aL ?_ | refine x_fld aR ?_ | refine x_box aS ?_ | refine x_slb aS aL ?_ | refine x_box1 aS aR ?_ | refine alc_st aS aR aR (Rep.one (by assumption)) ?_ | refine alc_st1 aS aR aR aR ?_ | (refine gop_split (fun hh => ?_) (fun hh => ?_) <;> (try simp only [hh, Bool.not_true, Bool.not_false, ↓Mm, Mm, ↓Mp, Mp, Mb, reduceIte])) | (refine cnd_split (fun hh => ?_) (fun hh => ?_) <;> (try simp only [hh, Bool.not_true, Bool.not_false, ↓Mm, Mm, ↓Mp, Mp, Mb, reduceIte])))))
        all_goals (refine Eq.subst (motive := fun b => K b _) ?_ (h _ _ (by (repeat (first | exact Stp.refl (by (first | assumption | exact Stp.sat (by assumption) | exact Hst.sat (by assumption))) | assumption | refine Stp.trans ?_ (by first | assumption | exact Hst.stp (by assumption)))))); clear h; (try clear hA); (try clear hB); (try clear hC); first | rfl | ((try simp only [Bool.not_eq_true', Bool.not_eq_false', Bool.not_true, Bool.not_false, Bool.not_eq_true] at *); simp only [*, Mb, reduceIte]; done) | (simp [*]; done) | simp_all)
    · simp only [decide_eq_false h2, ↓Mm, Mm, ↓Mr, Mr, Mb, reduceIte] at h ⊢
      (repeat' (first | (with_reducible intro _) | (with_reducible refine jn_in ?_) | (simp only [↓Mm, Mm, ↓Mp, Mp, Mb, reduceIte]) | (with_reducible first | refine ld aS aL aR ?_ | refine ld0 aS aL aR ?_ | refine lda aS aL aR ?_ | refine len_slK aL ?_ | refine x_fld aR ?_ | refine x_box aS ?_ | refine x_slb aS aL ?_ | refine x_box1 aS aR ?_ | refine alc_st aS aR aR (Rep.one (by assumption)) ?_ | refine alc_st1 aS aR aR aR ?_ | (refine gop_split (fun hh => ?_) (fun hh => ?_) <;> (try simp only [hh, Bool.not_true, Bool.not_false, ↓Mm, Mm, ↓Mp, Mp, Mb, reduceIte])) | (refine cnd_split (fun hh => ?_) (fun hh => ?_) <;> (try simp only [hh, Bool.not_true, Bool.not_false, ↓Mm, Mm, ↓Mp, Mp, Mb, reduceIte])))))
      all_goals (refine Eq.subst (motive := fun b => K b _) ?_ (h _ _ (by (repeat (first | exact Stp.refl (by (first | assumption | exact Stp.sat (by assumption) | exact Hst.sat (by assumption))) | assumption | refine Stp.trans ?_ (by first | assumption | exact Hst.stp (by assumption)))))); clear h; (try clear hA); (try clear hB); (try clear hC); first | rfl | ((try simp only [Bool.not_eq_true', Bool.not_eq_false', Bool.not_true, Bool.not_false, Bool.not_eq_true] at *); simp only [*, Mb, reduceIte]; done) | (simp [*]; done) | simp_all)
  rw [if_neg h1] at h
  simp only [decide_eq_false h1, ↓Mm, Mm, ↓Mr, Mr, Mb, reduceIte]
  by_cases h2 : n = [110, 101, 119]
  · rw [if_pos h2] at h
    simp only [decide_eq_true h2, ↓Mm, Mm, ↓Mr, Mr, Mb, reduceIte]
    (repeat' (first | (with_reducible intro _) | (with_reducible refine jn_in ?_) | (simp only [↓Mm, Mm, ↓Mp, Mp, Mb, reduceIte]) | (with_reducible first | refine ld aS aL aR ?_ | refine ld0 aS aL aR ?_ | refine lda aS aL aR ?_ | refine len_slK aL ?_ | refine x_fld aR ?_ | refine x_box aS ?_ | refine x_slb aS aL ?_ | refine x_box1 aS aR ?_ | refine alc_st aS aR aR (Rep.one (by assumption)) ?_ | refine alc_st1 aS aR aR aR ?_ | refine k_Class _ au (below_k aS ?_) | (refine gop_split (fun hh => ?_) (fun hh => ?_) <;> (try simp only [hh, Bool.not_true, Bool.not_false, ↓Mm, Mm, ↓Mp, Mp, Mb, reduceIte])) | (refine cnd_split (fun hh => ?_) (fun hh => ?_) <;> (try simp only [hh, Bool.not_true, Bool.not_false, ↓Mm, Mm, ↓Mp, Mp, Mb, reduceIte])))))
    all_goals (refine Eq.subst (motive := fun b => K b _) ?_ (h _ _ (by (repeat (first | exact Stp.refl (by (first | assumption | exact Stp.sat (by assumption) | exact Hst.sat (by assumption))) | assumption | refine Stp.trans ?_ (by first | assumption | exact Hst.stp (by assumption)))))); clear h; (try clear hA); (try clear hB); (try clear hC); first | rfl | ((try simp only [Bool.not_eq_true', Bool.not_eq_false', Bool.not_true, Bool.not_false, Bool.not_eq_true] at *); simp only [*, Mb, reduceIte]; done) | (simp [*]; done) | simp_all)
  rw [if_neg h2] at h
  simp only [decide_eq_false h2, ↓Mm, Mm, ↓Mr, Mr, Mb, reduceIte]
  by_cases h3 : n = [105, 115] ∨ n = [99, 97, 115, 116]
  · rw [if_pos h3] at h
    have e4 : (decide (n = [105, 115]) || decide (n = [99, 97, 115, 116])) = true := by simpa using h3
    refine jn_in ?_
    refine cnd_split (fun h4 => ?_) (fun h4 => ?_)
    · simp only [h4, ↓Mm, Mm, ↓Mr, Mr, Mb, reduceIte]
      (repeat' (first | (with_reducible intro _) | (with_reducible refine jn_in ?_) | (simp only [↓Mm, Mm, ↓Mp, Mp, Mb, reduceIte]) | (with_reducible first | refine ld aS aL aR ?_ | refine ld0 aS aL aR ?_ | refine lda aS aL aR ?_ | refine len_slK aL ?_ | refine x_fld aR ?_ | refine x_box aS ?_ | refine x_slb aS aL ?_ | refine x_box1 aS aR ?_ | refine alc_st aS aR aR (Rep.one (by assumption)) ?_ | refine alc_st1 aS aR aR aR ?_ | refine k_Right _ au (below_k aS ?_) | refine k_Plain _ ?_ | (refine gop_split (fun hh => ?_) (fun hh => ?_) <;> (try simp only [hh, Bool.not_true, Bool.not_false, ↓Mm, Mm, ↓Mp, Mp, Mb, reduceIte])) | (refine cnd_split (fun hh => ?_) (fun hh => ?_) <;> (try simp only [hh, Bool.not_true, Bool.not_false, ↓Mm, Mm, ↓Mp, Mp, Mb, reduceIte])))))
      all_goals (refine Eq.subst (motive := fun b => K b _) ?_ (h _ _ (by (repeat (first | exact Stp.refl (by (first | assumption | exact Stp.sat (by assumption) | exact Hst.sat (by assumption))) | assumption | refine Stp.trans ?_ (by first | assumption | exact Hst.stp (by assumption)))))); clear h; (try clear hA); (try clear hB); (try clear hC); first | rfl | ((try simp only [Bool.not_eq_true', Bool.not_eq_false', Bool.not_true, Bool.not_false, Bool.not_eq_true] at *); simp only [*, Mb, reduceIte]; done) | (simp [*]; done) | simp_all)
    · rw [h4, Bool.false_or] at e4
      simp only [e4, ↓Mm, Mm, ↓Mr, Mr, Mb, reduceIte]
      (repeat' (first | (with_reducible intro _) | (with_reducible refine jn_in ?_) | (simp only [↓Mm, Mm, ↓Mp, Mp, Mb, reduceIte]) | (with_reducible first | refine ld aS aL aR ?_ | refine ld0 aS aL aR ?_ | refine lda aS aL aR ?_ | refine len_slK aL ?_ | refine x_fld aR ?_ | refine x_box aS ?_ | refine x_slb aS aL ?_ | refine x_box1 aS aR ?_ | refine alc_st aS aR aR (Rep.one (by assumption)) ?_ | refine alc_st1 aS aR aR aR ?_ | refine k_Right _ au (below_k aS ?_) | refine k_Plain _ ?_ | (refine gop_split (fun hh => ?_) (fun hh => ?_) <;> (try simp only [hh, Bool.not_true, Bool.not_false, ↓Mm, Mm, ↓Mp, Mp, Mb, reduceIte])) | (refine cnd_split (fun hh => ?_) (fun hh => ?_) <;> (try simp only [hh, Bool.not_true, Bool.not_false, ↓Mm, Mm, ↓Mp, Mp, Mb, reduceIte])))))
      all_goals (refine Eq.subst (motive := fun b => K b _) ?_ (h _ _ (by (repeat (first | exact Stp.refl (by (first | assumption | exact Stp.sat (by assumption) | exact Hst.sat (by assumption))) | assumption | refine Stp.trans ?_ (by first | assumption | exact Hst.stp (by assumption)))))); clear h; (try clear hA); (try clear hB); (try clear hC); first | rfl | ((try simp only [Bool.not_eq_true', Bool.not_eq_false', Bool.not_true, Bool.not_false, Bool.not_eq_true] at *); simp only [*, Mb, reduceIte]; done) | (simp [*]; done) | simp_all)
  rw [if_neg h3] at h
  obtain ⟨h3, h4⟩ := not_or.1 h3
  refine jn_in ?_
  simp only [decide_eq_false h3, decide_eq_false h4, ↓Mm, Mm, ↓Mr, Mr, Mb, reduceIte]
  by_cases h5 : n = [97, 114, 114, 97, 121]
  · rw [if_pos h5] at h
    simp only [decide_eq_true h5, ↓Mm, Mm, ↓Mr, Mr, Mb, reduceIte]
    (repeat' (first | (with_reducible intro _) | (with_reducible refine jn_in ?_) | (simp only [↓Mm, Mm, ↓Mp, Mp, Mb, reduceIte]) | (with_reducible first | refine ld aS aL aR ?_ | refine ld0 aS aL aR ?_ | refine lda aS aL aR ?_ | refine len_slK aL ?_ | refine x_fld aR ?_ | refine x_box aS ?_ | refine x_slb aS aL ?_ | refine x_box1 aS aR ?_ | refine alc_st aS aR aR (Rep.one (by assumption)) ?_ | refine alc_st1 aS aR aR aR ?_ | refine k_Right _ au (below_k aS ?_) | refine k_Deep _ au (below_k aS ?_) | (refine gop_split (fun hh => ?_) (fun hh => ?_) <;> (try simp only [hh, Bool.not_true, Bool.not_false, ↓Mm, Mm, ↓Mp, Mp, Mb, reduceIte])) | (refine cnd_split (fun hh => ?_) (fun hh => ?_) <;> (try simp only [hh, Bool.not_true, Bool.not_false, ↓Mm, Mm, ↓Mp, Mp, Mb, reduceIte])))))
    all_goals (try rw [e3])
    all_goals (refine Eq.subst (motive := fun b => K b _) ?_ (h _ _ (by (repeat (first | exact Stp.refl (by (first | assumption | exact Stp.sat (by assumption) | exact Hst.sat (by assumption))) | assumption | refine Stp.trans ?_ (by first | assumption | exact Hst.stp (by assumption)))))); clear h; (try clear hA); (try clear hB); (try clear hC); first | rfl | ((try simp only [Bool.not_eq_true', Bool.not_eq_false', Bool.not_true, Bool.not_false, Bool.not_eq_true] at *); simp only [*, Mb, reduceIte]; done) | (simp [*]; done) | simp_all)
  rw [if_neg h5] at h
  simp only [decide_eq_false h5, ↓Mm, Mm, ↓Mr, Mr, Mb, reduceIte]
  intro _
  refine k_Parts a ha2 (below_k hs fun w1 σ1 hk => ?_)
  by_cases hp : isParts a = true
  · simp only [hp, if_true] at h ⊢
    (repeat' (first | (with_reducible intro _) | (with_reducible refine jn_in ?_) | (simp only [↓Mm, Mm, ↓Mp, Mp, Mb, reduceIte]) | (with_reducible first | refine ld aS aL aR ?_ | refine ld0 aS aL aR ?_ | refine lda aS aL aR ?_ | refine len_slK aL ?_ | refine x_fld aR ?_ | refine x_box aS ?_ | refine x_slb aS aL ?_ | refine x_box1 aS aR ?_ | refine alc_st aS aR aR (Rep.one (by assumption)) ?_ | refine alc_st1 aS aR aR aR ?_ | (refine gop_split (fun hh => ?_) (fun hh => ?_) <;> (try simp only [hh, Bool.not_true, Bool.not_false, ↓Mm, Mm, ↓Mp, Mp, Mb, reduceIte])) | (refine cnd_split (fun hh => ?_) (fun hh => ?_) <;> (try simp only [hh, Bool.not_true, Bool.not_false, ↓Mm, Mm, ↓Mp, Mp, Mb, reduceIte])))))
    all_goals (refine Eq.subst (motive := fun b => K b _) ?_ (h _ _ (by (repeat (first | exact Stp.refl (by (first | assumption | exact Stp.sat (by assumption) | exact Hst.sat (by assumption))) | assumption | refine Stp.trans ?_ (by first | assumption | exact Hst.stp (by assumption)))))); clear h; (try clear hA); (try clear hB); (try clear hC); first | rfl | ((try simp only [Bool.not_eq_true', Bool.not_eq_false', Bool.not_true, Bool.not_false, Bool.not_eq_true] at *); simp only [*, Mb, reduceIte]; done) | (simp [*]; done) | simp_all)
  · simp only [eq_false_of_ne_true hp, Bool.false_eq_true, if_false] at h ⊢
    (repeat' (first | (with_reducible intro _) | (with_reducible refine jn_in ?_) | (simp only [↓Mm, Mm, ↓Mp, Mp, Mb, reduceIte]) | (with_reducible first | refine ld aS aL aR ?_ | refine ld0 aS aL aR ?_ | refine lda aS aL aR ?_ | refine len_slK aL ?_ | refine x_fld aR ?_ | refine x_box aS ?_ | refine x_slb aS aL ?_ | refine x_box1 aS aR ?_ | refine alc_st aS aR aR (Rep.one (by assumption)) ?_ | refine alc_st1 aS aR aR aR ?_ | (refine gop_split (fun hh => ?_) (fun hh => ?_) <;> (try simp only [hh, Bool.not_true, Bool.not_false, ↓Mm, Mm, ↓Mp, Mp, Mb, reduceIte])) | (refine cnd_split (fun hh => ?_) (fun hh => ?_) <;> (try simp only [hh, Bool.not_true, Bool.not_false, ↓Mm, Mm, ↓Mp, Mp, Mb, reduceIte])))))
    all_goals (refine Eq.subst (motive := fun b => K b _) ?_ (h _ _ (by (repeat (first | exact Stp.refl (by (first | assumption | exact Stp.sat (by assumption) | exact Hst.sat (by assumption))) | assumption | refine Stp.trans ?_ (by first | assumption | exact Hst.stp (by assumption)))))); clear h; (try clear hA); (try clear hB); (try clear hC); first | rfl | ((try simp only [Bool.not_eq_true', Bool.not_eq_false', Bool.not_true, Bool.not_false, Bool.not_eq_true] at *); simp only [*, Mb, reduceIte]; done) | (simp [*]; done) | simp_all))
def codeCheck (i : Ins) : Int := if !(takes i.op).2.2 then 40 else if (!(takes i.op).1 && decide (i.n ≠ 0)) || (!(takes i.op).2.1 && decide (i.s ≠ [])) || ((takes i.op).2.1 && !txt i.op i.s) then 41 else 0
theorem c_TakesG {a : Str} (hs : Sat w σ) (hg : Glb σ) (h : ∀ w', Below w.heap.size w w' → K (.tuple #[.bool (takes a).1, .bool (takes a).2.1, .bool (takes a).2.2]) w') : callF P F.code_Takes [S a] w K := c_Takes hs hg.ops h
theorem c_codeCheck {i : Ins} {cs : List Value} (hs : Sat w σ) (hg : Glb σ) (hi : RIn σ i cs) (h : ∀ w' σ', Stp w σ w' σ' → K (I (codeCheck i)) w') : callF P F.code_Check [.agg cs.toArray] w K := r_code_Check (by
  obtain ⟨rfl, h1, h2, h3⟩ := hi
  unfold g_code_Check
  unfold codeCheck at h
  (repeat' (first | (with_reducible intro _) | (with_reducible refine jn_in ?_) | (simp only [↓Mm, Mm, ↓Mp, Mp, Mb, reduceIte]) | (with_reducible first | refine ld aS aL aR ?_ | refine ld0 aS aL aR ?_ | refine lda aS aL aR ?_ | refine len_slK aL ?_ | refine x_fld aR ?_ | refine x_box aS ?_ | refine x_slb aS aL ?_ | refine x_box1 aS aR ?_ | refine alc_st aS aR aR (Rep.one (by assumption)) ?_ | refine alc_st1 aS aR aR aR ?_ | refine c_TakesG au au (below_k aS ?_) | refine c_text au au au ?_ | (refine gop_split (fun hh => ?_) (fun hh => ?_) <;> (try simp only [hh, Bool.not_true, Bool.not_false, ↓Mm, Mm, ↓Mp, Mp, Mb, reduceIte])) | (refine cnd_split (fun hh => ?_) (fun hh => ?_) <;> (try simp only [hh, Bool.not_true, Bool.not_false, ↓Mm, Mm, ↓Mp, Mp, Mb, reduceIte])))))
  all_goals (refine Eq.subst (motive := fun b => K b _) ?_ (h _ _ (by (repeat (first | exact Stp.refl (by (first | assumption | exact Stp.sat (by assumption) | exact Hst.sat (by assumption))) | assumption | refine Stp.trans ?_ (by first | assumption | exact Hst.stp (by assumption)))))); clear h; (try clear hA); (try clear hB); (try clear hC); first | rfl | ((try simp only [Bool.not_eq_true', Bool.not_eq_false', Bool.not_true, Bool.not_false, Bool.not_eq_true] at *); simp only [*, Mb, reduceIte]; done) | (simp [*]; done) | simp_all))
end Go.Proofs.YtdnfaboigajkhaaGreatDoor

set_option autoImplicit false
set_option linter.unusedSimpArgs false
set_option linter.unusedVariables false
namespace Go.Emb
open Go.RowKit Go.Hm
variable {P : Program} {W : World}
theorem cell_sat {w : World} (hs : Sat w (whole W)) {a : Addr} {v : Value} (h : W.cell? a = some v) : w.cell? a = some v := by
  unfold World.cell? at h ⊢
  cases hb : W.heap[a.block]? with
  | none => rw [hb] at h; cases h
  | some o => rw [hb] at h; rw [hs _ o hb]; exact h
theorem chunks {α : Type} {f : α → List Value} {sz : Nat} (hf : ∀ a, (f a).length = sz) : ∀ (l : List α) (cs : List Value), cs.length = l.length * sz → (∀ i a, l[i]? = some a → (cs.drop (i * sz)).take sz = f a) → cs = l.flatMap f := by
  intro l
  induction l with
  | nil => intro cs h _; simp at h; simp [h]
  | cons a r ih =>
    intro cs h hh
    have h0 := hh 0 a rfl
    have h1 := ih (cs.drop sz) (by rw [List.length_drop, h, List.length_cons, Nat.succ_mul]; omega) (fun i b hb => by
      have := hh (i + 1) b (by simpa using hb)
      rw [List.drop_drop]
      rwa [Nat.succ_mul, Nat.add_comm] at this)
    rw [List.flatMap_cons, ← h1, ← h0]
    simp
theorem arr_cells {α H : Type} {enc : TypeId × Value → H} {base : Nat} {sp : Nat → Bool} {held : Bool} {f : α → List Value} {fd : α → DataW H} {n sz : Nat} {t e : TypeId} {fuel : Nat} {cs : List Value} {p : List MemPlace} (ht : P.underlying t = some (.array n e)) (hc : P.cellsOf e = sz) (hct : P.cellsOf t = n * sz)
    (l : List α) (hf : ∀ a, (f a).length = sz) (hel : ∀ m cs a q, DataW.trod enc P W base sp held m e cs = some (fd a, q) → cs = f a)
    (h : DataW.trod enc P W base sp held fuel t cs = some (.agg (l.map fd), p)) : cs = l.flatMap f := by
  obtain ⟨xs, m, _, he, h1, h2, h3⟩ := DataW.trod_array ht h
  simp only [Prod.mk.injEq, DataW.agg.injEq] at he
  have hl : l.length = n := by have := congrArg List.length he.1; simp at this; omega
  refine chunks hf l cs (by rw [h1, hct, hl]) fun i a ha => ?_
  have hi : i < l.length := (List.getElem?_eq_some_iff.1 ha).1
  have h4 := h3 i (by omega)
  have hx : i < xs.length := by omega
  rw [List.getElem?_eq_getElem hx, hc] at h4
  have h5 : (xs[i]).1 = fd a := by
    have := congrArg (·[i]?) he.1
    simp only [List.getElem?_map, ha, List.getElem?_eq_getElem hx, Option.map_some, Option.some.injEq] at this
    exact this.symm
  exact hel m _ a _ (by rw [h4]; congr 1; exact Prod.ext h5 rfl)
theorem lies_var {n : String} {g : Nat} {cs : Array Value} {l : List Value} (hg : P.globalNamed n = some g) (hv : W.var? P n = some cs) (hl : cs.toList = l) : Lies (whole W) ⟨g, 0, none⟩ l := by
  unfold World.var? at hv
  rw [hg] at hv
  simp only [Option.bind_some] at hv
  cases hb : W.heap[g]? with
  | none => rw [hb] at hv; cases hv
  | some o =>
    rw [hb] at hv
    cases o with
    | cells arr e fr =>
      cases hv
      refine ⟨rfl, cs, e, fr, hb, fun i v hi => ?_⟩
      subst hl
      simpa using hi
    | _ => cases hv
end Go.Emb
namespace Go.Proofs.YtdnfaboigajkhaaGreatDoor
open Go.Emb Go.RowKit Go.Kd Go.Hm
variable {W : World}
def laidAll : List (String × DataW Unit) := [("unicode/utf8.acceptRanges", Rows.laid_unicode_utf8_acceptRanges), ("squinch/code.ops", Rows.laid_squinch_code_ops), ("squinch/hier.faults", Rows.laid_squinch_hier_faults), ("unicode/utf8.first", Rows.laid_unicode_utf8_first)]
theorem ops_d : Rows.laid_squinch_code_ops = (.agg (oprs.map fun o => .agg [.lit (.string o.name), .lit (.bool o.number), .lit (.bool o.text)]) : DataW Unit) := by rfl
theorem faults_d : Rows.laid_squinch_hier_faults = (.agg (faultNames.map fun s => .lit (.string s)) : DataW Unit) := by rfl
theorem acc_d : (Rows.laid_unicode_utf8_acceptRanges : DataW Unit) = Lib.acceptData := by rfl
theorem first_d : Rows.laid_unicode_utf8_first = Lib.firstData := by kernel_rfl
def fsOp : Array Field := #[⟨"name", T.string, 0, false, "", "squinch/code", 0⟩, ⟨"number", T.bool, 1, false, "", "squinch/code", 16⟩, ⟨"text", T.bool, 2, false, "", "squinch/code", 17⟩]
theorem u_op : P.underlying T.code_op = some (.struct fsOp) := by kernel_rfl
theorem glb_of (h : laidMetH P laidAll W) : Glb (whole W) := by
  rw [Go.MakeChecks.laidMetH_plain _ _ _ (by kernel_rfl)] at h
  refine ⟨?_, fun w hs => ?_, ?_⟩
  · obtain ⟨g, t, cs, fuel, p, hg, hty, hvar, hd⟩ := Lib.laidMet.reads h (.tail _ (.head _))
    obtain rfl := Option.some.inj ((show P.globalNamed "squinch/code.ops" = some G.code_ops by kernel_rfl).symm.trans hg)
    obtain rfl := Option.some.inj ((show (P.globals[G.code_ops]?).map (·.type) = some T.A42_code_op by kernel_rfl).symm.trans hty)
    rw [ops_d] at hd
    refine lies_var hg hvar (arr_cells (f := cOp) (sz := 3) (n := 42) (e := T.code_op) (by kernel_rfl) (by kernel_rfl) (by kernel_rfl) oprs (fun _ => rfl) (fun m cs a q h => by
    obtain ⟨xs, n, _, he, h1, h2, h3⟩ := DataW.trod_struct u_op h
    simp only [Prod.mk.injEq, DataW.agg.injEq] at he
    have hlen : cs.length = 3 := by rw [h1]; kernel_rfl
    obtain ⟨c0, c1, c2, rfl⟩ := list3 hlen
    obtain ⟨x0, x1, x2, rfl⟩ := list3 (show xs.length = 3 by rw [h2]; rfl)
    have he := he.1
    simp only [List.map_cons, List.map_nil, List.cons.injEq, and_true] at he
    obtain ⟨e0, e1, e2⟩ := he
    have h0 : DataW.trod (fun _ => ()) P W 0 (fun _ => true) false n T.string (List.take (P.cellsOf T.string) (List.drop 0 [c0, c1, c2])) = some x0 := h3 0 _ rfl
    have h4 : DataW.trod (fun _ => ()) P W 0 (fun _ => true) false n T.bool (List.take (P.cellsOf T.bool) (List.drop 1 [c0, c1, c2])) = some x1 := h3 1 _ rfl
    have h5 : DataW.trod (fun _ => ()) P W 0 (fun _ => true) false n T.bool (List.take (P.cellsOf T.bool) (List.drop 2 [c0, c1, c2])) = some x2 := h3 2 _ rfl
    rw [n_string] at h0
    rw [n_bool] at h4 h5
    obtain ⟨⟨⟨s0⟩⟩, q0, r0, _⟩ := DataW.trod_string u_string h0
    obtain ⟨b1, q1, r1⟩ := DataW.trod_bool u_bool h4
    obtain ⟨b2, q2, r2⟩ := DataW.trod_bool u_bool h5
    simp at q0 q1 q2
    subst q0 q1 q2 r0 r1 r2
    simp at e0 e1 e2
    simp [cOp, ← e0, ← e1, ← e2]) hd)
  · have := utf8Tabs_of_readsT (U8Types.of196 Tryz.lays196) ⟨by kernel_rfl, by kernel_rfl, by kernel_rfl, by kernel_rfl, by kernel_rfl, by kernel_rfl, by kernel_rfl⟩ (first_d ▸ Lib.laidMet.reads h (.tail _ (.tail _ (.tail _ (.head _))))) (acc_d ▸ Lib.laidMet.reads h (.head _))
    exact ⟨fun c hc => cell_sat hs (this.1 c hc), fun i hi => ⟨cell_sat hs (this.2 i hi).1, cell_sat hs (this.2 i hi).2⟩⟩
  · obtain ⟨g, t, cs, fuel, p, hg, hty, hvar, hd⟩ := Lib.laidMet.reads h (.tail _ (.tail _ (.head _)))
    obtain rfl := Option.some.inj ((show P.globalNamed "squinch/hier.faults" = some G.hier_faults by kernel_rfl).symm.trans hg)
    obtain rfl := Option.some.inj ((show (P.globals[G.hier_faults]?).map (·.type) = some T.A6_string by kernel_rfl).symm.trans hty)
    rw [faults_d] at hd
    have := arr_cells (f := fun s => [S s]) (sz := 1) (n := 6) (e := T.string) (by kernel_rfl) n_string (by kernel_rfl) faultNames (fun _ => rfl) (fun m cs a q h => by
      obtain ⟨⟨⟨s⟩⟩, rfl, he, _⟩ := DataW.trod_string u_string h
      cases he; rfl) hd
    exact lies_var hg hvar (this.trans (by rfl))
end Go.Proofs.YtdnfaboigajkhaaGreatDoor
namespace Go.Emb
open Go.RowKit Go.Hm
end Go.Emb
namespace Go.Proofs.YtdnfaboigajkhaaGreatDoor
open Go.Emb Go.RowKit Go.Kd Go.Hm
section
variable {H : Type} {enc : TypeId × Value → H} {W : World} {v : Value} {d : DataW H} {p : List MemPlace}
end
end Go.Proofs.YtdnfaboigajkhaaGreatDoor

set_option autoImplicit false
set_option linter.unusedSimpArgs false
set_option linter.unusedVariables false
namespace Go.Emb
open Go.RowKit Go.Hm
variable {P : Program} {w w0 w1 w' w'' : World} {K : Value → World → Prop} {σ σ0 σ1 σ' : Store}
def Acq {α : Type} (B : Nat) (e : TypeId) (sz : Nat) (R : Store → α → List Value → Prop) (σ : Store) (w : World) (v : Value) (xs : List α) : Prop :=
  ∃ a cap, v = .slice a xs.length cap ∧ xs.length ≤ cap ∧ cap ≤ maxLen ∧ (∀ b, a = some b → b.spot = none ∧ B ≤ b.block ∧ b.block < w.heap.size ∧ σ b.block = none) ∧ (0 < cap → ∃ g off cur, a = some ⟨g, off, none⟩ ∧ B ≤ g ∧ σ g = none ∧ w.heap[g]? = some (.cells cur e (0, 0)) ∧ off + cap * sz ≤ cur.size ∧ ∀ i x, xs[i]? = some x → R σ x ((cur.toList.drop (off + i * sz)).take sz))
section
variable {α : Type} {R : Store → α → List Value → Prop} {B sz : Nat} {e : TypeId} {v u : Value} {xs ys : List α}
theorem Acq.of_acc (h : Acc B e sz R σ w v xs) : Acq B e sz R σ w v xs := by
  obtain ⟨cells, h1, h2, h3⟩ := h
  rcases h1.2 with ⟨rfl, h0⟩ | ⟨g, cap, cur, rfl, hb, hg, hle, hmax, hsz, htk⟩
  · exact ⟨none, 0, by rw [h0], by omega, by simp, by simp, fun h => by omega⟩
  · refine ⟨_, cap, rfl, hle, hmax, by rintro _ ⟨⟩; exact ⟨rfl, hb, (Array.getElem?_eq_some_iff.1 hg).1, h2 g rfl⟩, fun _ => ⟨g, 0, cur, rfl, hb, h2 g rfl, hg, by omega, fun i x hx => ?_⟩⟩
    have hi : i < xs.length := (List.getElem?_eq_some_iff.1 hx).1
    have hh : i * sz + sz ≤ xs.length * sz := by rw [← Nat.succ_mul]; exact Nat.mul_le_mul_right _ hi
    have := h3 i x hx
    rw [← htk, List.drop_take, List.take_take] at this
    rw [Nat.zero_add]
    rwa [show min sz (xs.length * sz - i * sz) = sz by omega] at this
theorem Acq.mem (h : Acq B e sz R σ w v xs) {k : Nat} (hv : v.ownBlock = some k) : B ≤ k ∧ k < w.heap.size ∧ σ k = none := by
  obtain ⟨a, cap, rfl, h1, h2, hsp, h3⟩ := h
  cases a with
  | none => cases hv
  | some a => cases hv; exact (hsp a rfl).2
theorem Acq.lt (h : Acq B e sz R σ w v xs) {k : Nat} (hv : v.ownBlock = some k) (hx : 0 < xs.length) : B ≤ k ∧ k < w.heap.size ∧ σ k = none := h.mem hv
theorem Acq.up [hr : Rep R] (h : Acq B e sz R σ w v xs) (hk : Stp w σ w' σ') : Acq B e sz R σ' w' v xs := by
  obtain ⟨a, cap, rfl, h1, h2, hsp, h3⟩ := h
  refine ⟨a, cap, rfl, h1, h2, fun b hb => ⟨(hsp b hb).1, (hsp b hb).2.1, Nat.lt_of_lt_of_le (hsp b hb).2.2.1 hk.bel.size, (hk.old _ (hsp b hb).2.2.1).trans (hsp b hb).2.2.2⟩, fun hc => ?_⟩
  obtain ⟨g, off, cur, rfl, q1, q2, q3, q4, q5⟩ := h3 hc
  have hl := (Array.getElem?_eq_some_iff.1 q3).1
  exact ⟨g, off, cur, rfl, q1, (hk.old g hl).trans q2, (hk.bel.block g hl).trans q3, q4, fun i x hx => hr.up hk.le (q5 i x hx)⟩
theorem Acq.step [hr : Rep R] (h : Acq B e sz R σ w v xs) (hk : Stp w σ w' σ') : Acq B e sz R σ' w' v xs := h.up hk
theorem Acq.kp {D : Nat → Prop} (h : Acq B e sz R σ w v xs) (hk : Kpt D w w') (hne : ∀ k, v.ownBlock = some k → ¬ D k) : Acq B e sz R σ w' v xs := by
  obtain ⟨a, cap, rfl, h1, h2, hsp, h3⟩ := h
  refine ⟨a, cap, rfl, h1, h2, fun b hb => ⟨(hsp b hb).1, (hsp b hb).2.1, Nat.lt_of_lt_of_le (hsp b hb).2.2.1 hk.size, (hsp b hb).2.2.2⟩, fun hc => ?_⟩
  obtain ⟨g, off, cur, rfl, q1, q2, q3, q4, q5⟩ := h3 hc
  have hl := (Array.getElem?_eq_some_iff.1 q3).1
  exact ⟨g, off, cur, rfl, q1, q2, (hk.block g hl (hne g rfl)).trans q3, q4, q5⟩
theorem q_len {t0 t : TypeId} {cs : List Bool} [ts : TS P t0 e] (h : Acq B e sz R σ w v xs) (hk : K (I xs.length) w) : blt P .len [t0] t cs [v] w K := by
  obtain ⟨a, cap, rfl, _⟩ := h
  rw [len_raw]; exact hk
theorem q_ix {t : TypeId} {by_ : Nat} {z : Value} [TS P t e] [TZ P e sz by_ z] (h : Acq B e sz R σ w v xs) {n : Nat} (hn : n < xs.length)
    (hk : ∀ a cs, (∀ j u, cs[j]? = some u → w.cell? (a.add j) = some u) → cs.length = sz → R σ xs[n] cs → K (.pointer (some a)) w) : indexAddr P t v (I n) w K := by
  obtain ⟨a, cap, rfl, h1, h2, hsp, h3⟩ := h
  obtain ⟨g, off, cur, rfl, q1, q2, q3, q4, q5⟩ := h3 (by omega)
  rw [ix_raw (by omega) (by omega)]
  have hh : n * sz + sz ≤ cap * sz := by rw [← Nat.succ_mul]; exact Nat.mul_le_mul_right _ (by omega)
  refine hk _ ((cur.toList.drop (off + n * sz)).take sz) ?_ ?_ (q5 n _ (by simp [hn]))
  · intro j u hu
    rw [List.getElem?_take] at hu
    split at hu
    · rw [List.getElem?_drop] at hu
      unfold World.cell?
      rw [add_block, add_block, add_off, add_off, add_spot (add_spot rfl _)]
      simp only [q3]
      simpa using hu
    · cases hu
  · rw [List.length_take, List.length_drop, Array.length_toList]; omega
theorem q_cut {t : TypeId} {by_ : Nat} {z : Value} [ts : TS P t e] [tz : TZ P e sz by_ z] (h : Acq B e sz R σ w v xs) (l : Nat) (hl : l ≤ xs.length)
    (hk : ∀ v', Acq B e sz R σ w v' (xs.drop l) → (v'.ownBlock = v.ownBlock ∨ v'.ownBlock = none) → K v' w) : slc P t v (some (I l)) none none w K := by
  obtain ⟨a, cap, rfl, h1, h2, hsp, h3⟩ := h
  have hh : ∀ w : World, (Instr.sliceBounds true xs.length cap (some (I l)) none none).run P w = .ok (l, xs.length, cap) w := by
    intro w
    have c1 : (l : Int) ≤ xs.length := by omega
    simp [Instr.sliceBounds, Instr.sliceBound, asIntOf, h1, c1]
    intros; omega
  unfold slc
  have : (Instr.sliceAt t (.slice a xs.length cap) (some (I l)) none none).run P w = .ok (.slice (if cap = l then a else a.map (·.add (l * sz))) (xs.length - l) (cap - l)) w := by
    simp [Instr.sliceAt, run_underlying ts.h, Instr.slice, hh, run_sizeOf_of tz]
  rw [op_value this]
  refine hk _ ⟨_, cap - l, by rw [List.length_drop], by rw [List.length_drop]; omega, by omega, ?_, fun hc => ?_⟩ ?_
  · intro b hb
    split at hb
    · exact hsp b hb
    · cases a with
      | none => cases hb
      | some a => cases hb; exact ⟨add_spot (hsp a rfl).1 _, by rw [add_block]; exact (hsp a rfl).2⟩
  · have h4 := h3 (by omega)
    clear h3
    obtain ⟨g, off, cur, rfl, q1, q2, q3, q4, q5⟩ := h4
    refine ⟨g, off + l * sz, cur, ?_, q1, q2, q3, ?_, fun i x hx => ?_⟩
    · rw [if_neg (by omega)]; simp only [Option.map_some]; congr 1; unfold Addr.add; split <;> simp_all
    · have : l * sz + (cap - l) * sz = cap * sz := by rw [← Nat.add_mul]; congr 1; omega
      omega
    · rw [List.getElem?_drop] at hx
      have := q5 _ _ hx
      rwa [Nat.add_mul, ← Nat.add_assoc] at this
  · left
    by_cases hcl : cap = l
    · rw [if_pos hcl]; cases a <;> rfl
    · rw [if_neg hcl]
      cases a with
      | none => rfl
      | some a => simp only [Option.map_some, Value.ownBlock, add_block]
theorem q_app {t ty : TypeId} {by_ : Nat} {z : Value} {cs : List Bool} [ts : TS P t e] [tz : TZ P e sz by_ z] [hr : Rep R] (hs : Sat w σ) (hB : B ≤ w.heap.size) (ha : Acq B e sz R σ w v xs) (hu : Sl sz R σ u ys) (hz : (z.cells.size == sz && decide (0 < sz)) = true)
    (hb : (xs.length + ys.length) * by_ ≤ 140737488355328) (hm : xs.length + ys.length ≤ 1000000000000)
    (h : ∀ v' w', Kpt (fun k => v.ownBlock = some k ∧ B ≤ k ∧ σ k = none) w w' → Sat w' σ → Acq B e sz R σ w' v' (xs ++ ys) → ((∃ a cap, v = .slice a xs.length cap ∧ v' = .slice a (xs.length + ys.length) cap) ∨ (Below w.heap.size w w' ∧ ∀ k, v'.ownBlock = some k → w.heap.size ≤ k)) → K v' w') : blt P .append [t, t] ty cs [v, u] w K := by
  obtain ⟨ac, acap, rfl, c1, c2, csp, c3⟩ := ha
  obtain ⟨a, cap, news, rfl, n1, n2, n3, n4, n5⟩ := hu.cells hs
  obtain ⟨i, hi, hsz, hby, hzero⟩ := tz.info
  simp only [Bool.and_eq_true, beq_iff_eq, decide_eq_true_eq] at hz
  obtain ⟨hz1, hz2⟩ := hz
  have fin : ∀ v' w', (Builtin.append_ #[t, t] ty #[.slice ac xs.length acap, .slice a ys.length cap]).run P w = .ok v' w' → Kpt (fun k => (Value.slice ac xs.length acap).ownBlock = some k ∧ B ≤ k ∧ σ k = none) w w' → Acq B e sz R σ w' v' (xs ++ ys) → ((∃ a cap, (Value.slice ac xs.length acap) = .slice a xs.length cap ∧ v' = .slice a (xs.length + ys.length) cap) ∨ (Below w.heap.size w w' ∧ ∀ k, v'.ownBlock = some k → w.heap.size ≤ k)) → blt P .append [t, t] ty cs [.slice ac xs.length acap, .slice a ys.length cap] w K := by
    intro v' w' hrun hk hq hat
    have hrun' : (builtin .append #[t, t] ty cs.toArray #[.slice ac xs.length acap, .slice a ys.length cap]).run P w = .ok (.value v') w' := by
      simp [builtin, hrun]
    unfold blt
    rw [op_eq]; unfold opDef
    rw [hrun']
    exact h v' w' hk (fun k o ho => by rw [hk.block k (hs.lt ho) fun e => by rw [e.2.2] at ho; cases ho]; exact hs k o ho) hq hat
  have hsrc : Src P i.size t (.slice a ys.length cap) ys.length news w := by
    cases a with
    | some b => exact Src.ofSlice w ts.h b ys.length cap news (by rw [hsz]; exact n2) (n3 b rfl) n4
    | none =>
      have hy : ys.length = 0 := by
        obtain ⟨a', cap', e', q1, _, q3, _⟩ := hu; injection e' with e1 e2 e3; have := n1 rfl; omega
      have hn : news = [] := List.eq_nil_of_length_eq_zero (by rw [n2, hy]; simp)
      subst hn
      rw [hy]; exact Src.ofNil w ts.h cap
  by_cases hroom : xs.length + ys.length ≤ acap
  · by_cases hc0 : acap = 0
    · -- nothing at all
      subst hc0
      have hx : xs = [] := List.eq_nil_of_length_eq_zero (by omega)
      have hy : ys = [] := List.eq_nil_of_length_eq_zero (by omega)
      subst hx hy
      have hn : news = [] := List.eq_nil_of_length_eq_zero (by simpa using n2)
      subst hn
      refine fin (.slice ac 0 0) w ?_ Kpt.refl ⟨ac, 0, rfl, by simp, by simp, csp, fun h => by omega⟩ (.inl ⟨_, _, rfl, rfl⟩)
      have hl := hsrc.len w
      have hcs := hsrc.cells
      simp only [List.length_nil] at hl hcs ⊢
      cases ac <;> simp [Builtin.append_, run_underlying ts.h, sizeOf, typeInfo, hi, hl, hcs, storeCells]
    · obtain ⟨g, off, cur, rfl, q1, q2, q3, q4, q5⟩ := c3 (by omega)
      have e1 : (xs.length + ys.length) * sz ≤ acap * sz := Nat.mul_le_mul_right _ hroom
      rw [Nat.add_mul] at e1
      have hst := run_storeCells_at P g (off + xs.length * sz) e news 0 cur w q3 (by omega) n4
      simp only [Nat.add_zero] at hst
      obtain ⟨hu1, hu2⟩ := upd_setRow (cs := (cur.toList.take (off + xs.length * sz) ++ news ++ cur.toList.drop (off + xs.length * sz + news.length)).toArray) q3
      refine fin (.slice (some ⟨g, off, none⟩) (xs.length + ys.length) acap) _ ?_ (Kpt.of_upd hu1 ⟨rfl, q1, q2⟩) ?_ (.inl ⟨_, _, rfl, rfl⟩)
      · have hl := hsrc.len w
        have hcs := hsrc.cells
        rw [hsz] at hcs
        simp [Builtin.append_, run_underlying ts.h, sizeOf, typeInfo, hi, hl, hcs, hsz, hroom, Addr.add_lit, hst]
      · refine ⟨_, acap, by rw [List.length_append], by rw [List.length_append]; exact hroom, c2, fun b hb => ⟨(csp b hb).1, (csp b hb).2.1, by rw [hu1.size]; exact (csp b hb).2.2.1, (csp b hb).2.2.2⟩, fun _ => ⟨g, off, _, rfl, q1, q2, hu2, ?_, fun j x hx => ?_⟩⟩
        · simp; omega
        · by_cases hj : j < xs.length
          · rw [List.getElem?_append_left hj] at hx
            have := q5 j x hx
            have hh : j * sz + sz ≤ xs.length * sz := by rw [← Nat.succ_mul]; exact Nat.mul_le_mul_right _ hj
            have e2 : ((cur.toList.take (off + xs.length * sz) ++ news ++ cur.toList.drop (off + xs.length * sz + news.length)).toArray.toList.drop (off + j * sz)).take sz = (cur.toList.drop (off + j * sz)).take sz := by
              rw [List.toList_toArray, List.append_assoc]
              rw [List.drop_append_of_le_length (by rw [List.length_take, Array.length_toList (xs := cur)]; omega), List.take_append_of_le_length (by rw [List.length_drop, List.length_take, Array.length_toList (xs := cur)]; omega), List.drop_take, List.take_take]
              congr 1; omega
            rw [e2]; exact this
          · rw [List.getElem?_append_right (by omega)] at hx
            have := n5 _ _ hx
            have hjl : j - xs.length < ys.length := (List.getElem?_eq_some_iff.1 hx).1
            have hh : (j - xs.length) * sz + sz ≤ ys.length * sz := by rw [← Nat.succ_mul]; exact Nat.mul_le_mul_right _ hjl
            have hjs : j * sz = xs.length * sz + (j - xs.length) * sz := by rw [← Nat.add_mul]; congr 1; omega
            have e2 : ((cur.toList.take (off + xs.length * sz) ++ news ++ cur.toList.drop (off + xs.length * sz + news.length)).toArray.toList.drop (off + j * sz)).take sz = (news.drop ((j - xs.length) * sz)).take sz := by
              rw [List.toList_toArray, List.append_assoc]
              rw [List.drop_append, List.drop_eq_nil_of_le (by rw [List.length_take, Array.length_toList (xs := cur)]; omega), List.nil_append, List.length_take, Array.length_toList (xs := cur),
                show off + j * sz - min (off + xs.length * sz) cur.size = (j - xs.length) * sz by omega,
                List.drop_append_of_le_length (by omega), List.take_append_of_le_length (by rw [List.length_drop]; omega)]
            rw [e2]; exact this
  · -- a new row
    have holds : ∃ olds : List Value, olds.length = xs.length * sz ∧ (Builtin.firstCells i.size xs.length (.slice ac xs.length acap)).run P w.drew = .ok olds.toArray w.drew ∧ ∀ j x, xs[j]? = some x → R σ x ((olds.drop (j * sz)).take sz) := by
      by_cases hc0 : acap = 0
      · subst hc0
        have hx : xs = [] := List.eq_nil_of_length_eq_zero (by omega)
        subst hx
        refine ⟨[], by simp, ?_, by simp⟩
        cases ac with
        | none => exact run_firstCells_none w.drew i.size 0 0 0
        | some a' => exact run_firstCells_some w.drew i.size 0 a' 0 0 [] (by simp) (by intro _ _ h'; simp at h')
      · obtain ⟨g, off, cur, rfl, q1, q2, q3, q4, q5⟩ := c3 (by omega)
        have e1 : xs.length * sz ≤ acap * sz := Nat.mul_le_mul_right _ c1
        refine ⟨(cur.toList.drop off).take (xs.length * sz), by rw [List.length_take, List.length_drop, Array.length_toList (xs := cur)]; omega, ?_, fun j x hx => ?_⟩
        · refine run_firstCells_some w.drew i.size xs.length ⟨g, off, none⟩ xs.length acap _ (by rw [List.length_take, List.length_drop, Array.length_toList (xs := cur), hsz]; omega) (fun j u hu => ?_)
          rw [List.getElem?_take] at hu
          split at hu
          · rw [List.getElem?_drop] at hu
            have q3' : w.drew.heap[g]? = some (.cells cur e (0, 0)) := q3
            unfold World.cell?
            rw [add_block, add_off, add_spot rfl]
            simp only [q3']
            simpa using hu
          · cases hu
        · have hj : j < xs.length := (List.getElem?_eq_some_iff.1 hx).1
          have hh : j * sz + sz ≤ xs.length * sz := by rw [← Nat.succ_mul]; exact Nat.mul_le_mul_right _ hj
          have := q5 j x hx
          rw [List.drop_take, List.take_take, List.drop_drop, show min sz (xs.length * sz - j * sz) = sz by omega]
          exact this
    obtain ⟨olds, o1, o2, o3⟩ := holds
    have hg : acap < xs.length + ys.length := by omega
    have hrun := run_append_grow_src (P := P) w t t ty e i z ts.h hi hzero ac xs.length acap olds o2 (.slice a ys.length cap) ys.length news hsrc hg (by omega) (growslice_fits hg (by rw [hby]; exact hb))
    have hcm := grownCap_le_maxLen w (xs.length + ys.length) acap e (by simp only [maxLen]; omega)
    have hge := grownCap_ge w (xs.length + ys.length) acap e
    have hL : (olds ++ news).length = (xs.length + ys.length) * sz := by rw [List.length_append, o1, n2, Nat.add_mul]
    refine fin _ _ hrun ?_ ?_ (.inr ⟨(Below.refl _ _).drew.alloc (Nat.le_refl _) _, by intro k hk; cases hk; exact Nat.le_refl _⟩)
    · exact Kpt.of_below ((Below.refl _ _).drew.alloc (Nat.le_refl _) _)
    · refine ⟨_, _, by rw [List.length_append], by rw [List.length_append]; exact hge, hcm, by rintro _ ⟨⟩; exact ⟨rfl, hB, (Array.getElem?_eq_some_iff.1 (heap_alloc_new w.drew _)).1, hs.none (Nat.le_refl _)⟩, fun _ => ⟨w.heap.size, 0, _, rfl, hB, hs.none (Nat.le_refl _), heap_alloc_new w.drew _, ?_, fun j x hx => ?_⟩⟩
      · rw [Array.size_append, List.size_toArray, hL, size_zeroCells, hz1, ← Nat.add_mul]
        rw [Nat.zero_add]; exact Nat.mul_le_mul_right _ (by omega)
      · rw [Nat.zero_add, Array.toList_append]
        have hj : j < xs.length + ys.length := by have := (List.getElem?_eq_some_iff.1 hx).1; rwa [List.length_append] at this
        have hh : j * sz + sz ≤ (xs.length + ys.length) * sz := by rw [← Nat.succ_mul]; exact Nat.mul_le_mul_right _ hj
        rw [List.drop_append_of_le_length (by simp only [List.toList_toArray]; omega), List.take_append_of_le_length (by rw [List.length_drop]; simp only [List.toList_toArray]; omega)]
        simp only [List.toList_toArray]
        by_cases hjx : j < xs.length
        · rw [List.getElem?_append_left hjx] at hx
          rw [drop_take_append olds news xs.length j o1 hjx]
          exact o3 j x hx
        · rw [List.getElem?_append_right (by omega)] at hx
          have := n5 _ _ hx
          rw [show j * sz = olds.length + (j - xs.length) * sz by rw [o1, ← Nat.add_mul]; congr 1; omega, List.drop_append]
          simpa [List.drop_eq_nil_of_le] using this
end
theorem own_le {b : Nat} (h : w1.heap.size ≤ b) (k : Stp w σ w1 σ1) : w.heap.size ≤ b := Nat.le_trans k.bel.size h
theorem x_alcm {t : TypeId} {sz by_ : Nat} {z : Value} [tz : TZ P t sz by_ z] (hs : Sat w σ) (h : ∀ b w' σ', w.heap.size ≤ b → Stp w σ w' σ' → Mine σ' w' b z.cells.toList → K (.pointer (some ⟨b, 0, none⟩)) w') : alc P t w K :=
  alc_mine hs fun b w' hb hk hm => h b w' σ hb hk hm
theorem x_boxm {t : TypeId} {cs : List Value} (hs : Sat w σ) (h : ∀ b w' σ', w.heap.size ≤ b → Stp w σ w' σ' → Mine σ' w' b cs → K (.pointer (some ⟨b, 0, none⟩)) w') : box P t (.agg cs.toArray) w K :=
  box_mine hs fun b w' hb hk hm => h b w' σ hb hk (by simpa [Value.cells] using hm)
theorem x_sta {t : TypeId} {sz by_ : Nat} {z : Value} [tz : TZ P t sz by_ z] {b : Nat} {cs ds : List Value} (hm : Mine σ w b cs) (hS : Stp w0 σ0 w σ) (hb : w0.heap.size ≤ b) (hl : cs.length = sz) (hd : ds.length = sz) (h1 : ∀ u ∈ ds, u.oneCell' = true)
    (h : ∀ w', Hst w0 σ0 w' σ → Mine σ w' b ds → K undef w') : stv P t (.pointer (some ⟨b, 0, none⟩)) (.agg ds.toArray) w K :=
  sta hm hl hd (by rw [List.all_toArray]; exact List.all_eq_true.2 h1) fun w' hu hm' => h w' ⟨hu.stp hS hb hm.1⟩ hm'
structure Nxt (D : Nat → Prop) (w : World) (σ : Store) (w' : World) (σ' : Store) : Prop where
  kp : Kpt D w w'
  le : SLe σ σ'
  old : ∀ k, k < w.heap.size → σ' k = σ k
  sat : Sat w' σ'
theorem Nxt.of_stp {D : Nat → Prop} (h : Stp w σ w' σ') : Nxt D w σ w' σ' := ⟨Kpt.of_below h.bel, ⟨h.le⟩, h.old, h.sat⟩
theorem Nxt.mono {D D' : Nat → Prop} (h : Nxt D w σ w' σ') (hd : ∀ k, k < w.heap.size → D k → D' k) : Nxt D' w σ w' σ' := ⟨h.kp.mono hd, h.le, h.old, h.sat⟩
theorem Nxt.trans {D : Nat → Prop} (h : Nxt D w σ w' σ') (k : Nxt D w' σ' w'' σ1) : Nxt D w σ w'' σ1 :=
  ⟨h.kp.trans k.kp, h.le.more k.le, fun i hi => (k.old i (Nat.lt_of_lt_of_le hi h.kp.size)).trans (h.old i hi), k.sat⟩
theorem Mine.nx {D : Nat → Prop} {b : Nat} {cs : List Value} (h : Mine σ w b cs) (k : Nxt D w σ w' σ') (hd : ¬ D b) : Mine σ' w' b cs := by
  have hl := h.lt
  obtain ⟨h1, e, h2⟩ := h
  exact ⟨(k.old b hl).trans h1, e, (k.kp.block b hl hd).trans h2⟩
theorem MineM.nx {D : Nat → Prop} {r : Nat} {m : List (List UInt8 × Value)} (h : MineM σ w r m) (k : Nxt D w σ w' σ') (hd : ¬ D r) : MineM σ' w' r m :=
  ⟨(k.old r h.lt).trans h.1, (k.kp.block r h.lt hd).symm ▸ h.2⟩
section
variable {α : Type} {R : Store → α → List Value → Prop} {B sz : Nat} {e : TypeId} {v u : Value} {xs : List α} {x : α}
theorem Acc.nx [hr : Rep R] {D : Nat → Prop} (h : Acc B e sz R σ w v xs) (k : Nxt D w σ w' σ') (hd : ∀ k, v.ownBlock = some k → ¬ D k) : Acc B e sz R σ' w' v xs := by
  have h' := h.kp k.kp hd
  obtain ⟨cells, h1, h2, h3⟩ := h'
  refine ⟨cells, h1, fun i hi => (k.old i (h.mem i hi).2.1).trans (h2 i hi), fun i x hx => hr.up k.le.le (h3 i x hx)⟩
theorem Acq.nx [hr : Rep R] {D : Nat → Prop} (h : Acq B e sz R σ w v xs) (k : Nxt D w σ w' σ') (hd : ∀ k, v.ownBlock = some k → ¬ D k) : Acq B e sz R σ' w' v xs := by
  obtain ⟨a, cap, rfl, h1, h2, hsp, h3⟩ := h
  refine ⟨a, cap, rfl, h1, h2, fun b hb => ⟨(hsp b hb).1, (hsp b hb).2.1, Nat.lt_of_lt_of_le (hsp b hb).2.2.1 k.kp.size, (k.old _ (hsp b hb).2.2.1).trans (hsp b hb).2.2.2⟩, fun hc => ?_⟩
  obtain ⟨g, off, cur, rfl, q1, q2, q3, q4, q5⟩ := h3 hc
  have hl := (Array.getElem?_eq_some_iff.1 q3).1
  exact ⟨g, off, cur, rfl, q1, (k.old g hl).trans q2, (k.kp.block g hl (hd g rfl)).trans q3, q4, fun i x hx => hr.up k.le.le (q5 i x hx)⟩
theorem x_app1 {t ty : TypeId} {by_ : Nat} {z : Value} {cs : List Bool} {A : Value → Value → World → Prop} [ts : TS P t e] [tz : TZ P e sz by_ z] [hr : Rep R] (hS : Stp w0 σ0 w σ) (ha : Acc w0.heap.size e sz R σ w v xs) (hu : R σ x u.cells.toList) (hc : u.cells.size = sz) (hz : (z.cells.size == sz && decide (0 < sz)) = true) (hz2 : (decide (0 < sz) && decide ([u].length * sz ≤ 16777216)) = true)
    (hb : (xs.length + 1) * by_ ≤ 140737488355328) (hm : xs.length + 1 ≤ 9223372036854775807)
    (h : ∀ s v' w' σ', Nxt (fun k => v.ownBlock = some k) w σ w' σ' → Stp w0 σ0 w' σ' → Acc w0.heap.size e sz R σ' w' v' (xs ++ [x]) → (v'.ownBlock = v.ownBlock ∨ ∀ k, v'.ownBlock = some k → w.heap.size ≤ k) → A s v' w') :
    buildSlice P t 1 [(0, u)] w (fun s w => blt P .append [t, t] ty cs [v, s] w (fun v' w => A s v' w)) := by
  refine bs_sl hS.sat [u] [x] rfl rfl (by simpa using hc) hz2 ⟨hu, trivial⟩ fun s w1 σ1 hk hsl => ?_
  refine app (hS.trans hk) (ha.up hk) hsl hz (by simpa using hb) (by simpa using hm) fun v' w2 hg hS2 ha2 hat => ?_
  have hkp : Kpt (fun k => v.ownBlock = some k) w w2 := (Kpt.of_below hk.bel).trans (Kpt.of_grown hg fun k hk => hk)
  refine h s v' w2 σ1 ⟨hkp, ⟨hk.le⟩, hk.old, hS2.sat⟩ hS2 ha2 ?_
  rcases hat with hat | hat
  · exact .inl hat
  · exact .inr fun k hk' => Nat.le_trans hk.bel.size (hat k hk')
theorem x_app {t ty : TypeId} {by_ : Nat} {z : Value} {cs : List Bool} {ys : List α} [ts : TS P t e] [tz : TZ P e sz by_ z] [hr : Rep R] (hS : Stp w0 σ0 w σ) (ha : Acc w0.heap.size e sz R σ w v xs) (hu : Sl sz R σ u ys) (hz : (z.cells.size == sz && decide (0 < sz)) = true)
    (hb : (xs.length + ys.length) * by_ ≤ 140737488355328) (hm : xs.length + ys.length ≤ 9223372036854775807)
    (h : ∀ v' w', Nxt (fun k => v.ownBlock = some k) w σ w' σ → Stp w0 σ0 w' σ → Acc w0.heap.size e sz R σ w' v' (xs ++ ys) → (v'.ownBlock = v.ownBlock ∨ ∀ k, v'.ownBlock = some k → w.heap.size ≤ k) → K v' w') : blt P .append [t, t] ty cs [v, u] w K :=
  app hS ha hu hz hb hm fun v' w2 hg hS2 ha2 hat => h v' w2 ⟨Kpt.of_grown hg fun k hk => hk, SLe.refl _, fun _ _ => rfl, hS2.sat⟩ hS2 ha2 hat
end
section
variable {α : Type} {R : Store → α → List Value → Prop} {B sz : Nat} {e : TypeId} {v u : Value} {xs : List α} {x : α}
theorem Acq.mono {B' : Nat} (h : Acq B e sz R σ w v xs) (hb : B' ≤ B) : Acq B' e sz R σ w v xs := by
  obtain ⟨a, cap, rfl, h1, h2, hsp, h3⟩ := h
  refine ⟨a, cap, rfl, h1, h2, fun b hb' => ⟨(hsp b hb').1, Nat.le_trans hb (hsp b hb').2.1, (hsp b hb').2.2⟩, fun hc => ?_⟩
  obtain ⟨g, off, cur, rfl, q1, q⟩ := h3 hc
  exact ⟨g, off, cur, rfl, Nat.le_trans hb q1, q⟩
theorem Acq.own (h : Acq B e sz R σ w v xs) {k : Nat} (hv : v.ownBlock = some k) : B ≤ k := (h.mem hv).1
theorem Acq.keep [hr : Rep R] (h : Acq w0.heap.size e sz R σ w v xs) (hS : Stp w0 σ0 w σ) : ∃ σ', Stp w0 σ0 w σ' ∧ Sl sz R σ' v xs ∧ SLe σ σ' ∧ (∀ k, some k ≠ v.ownBlock → σ' k = σ k) := by
  obtain ⟨a, cap, rfl, h1, h2, hsp, h3⟩ := h
  by_cases hc : cap = 0
  · have hx : xs = [] := List.eq_nil_of_length_eq_zero (by omega)
    subst hc hx
    exact ⟨σ, hS, ⟨a, 0, rfl, by simp, by simp, fun _ => rfl, fun b hb => ⟨fun _ => (hsp b hb).1, by simp⟩⟩, SLe.refl _, fun _ _ => rfl⟩
  · obtain ⟨g, off, cur, rfl, q1, q2, q3, q4, q5⟩ := h3 (by omega)
    have hle' := Store.put_le hS.sat q2 (.cells cur e (0, 0))
    refine ⟨σ.put g (.cells cur e (0, 0)), hS.put q2 q1 q3, ⟨_, cap, rfl, h1, h2, by simp, ?_⟩, ⟨hle'⟩, ?_⟩
    · rintro _ ⟨⟩
      refine ⟨fun _ => rfl, fun i x hx => ⟨(cur.toList.drop (off + i * sz)).take sz, ⟨add_spot rfl _, cur, e, (0, 0), by rw [add_block]; simp [Store.put], ?_⟩, ?_, hr.up hle' (q5 i x hx)⟩⟩
      · intro j u hu
        rw [add_off]
        rw [List.getElem?_take] at hu
        split at hu
        · rw [List.getElem?_drop] at hu; simpa using hu
        · cases hu
      · have hi : i < xs.length := (List.getElem?_eq_some_iff.1 hx).1
        have h : i * sz + sz ≤ cap * sz := by rw [← Nat.succ_mul]; exact Nat.mul_le_mul_right _ (by omega)
        rw [List.length_take, List.length_drop, Array.length_toList (xs := cur)]; omega
    · intro k hk
      have : k ≠ g := by intro e; subst e; exact hk rfl
      simp only [Store.put, if_neg this]
theorem q_set {t t' : TypeId} {by_ : Nat} {z : Value} {A : Value → Value → World → Prop} {ds : List Value} [ts : TS P t e] [tz : TZ P e sz by_ z] {by' : Nat} {z' : Value} [tz' : TZ P t' sz by' z'] (hS : Stp w0 σ0 w σ) (ha : Acq w0.heap.size e sz R σ w v xs) {n : Nat} (hn : n < xs.length) (hd : ds.length = sz) (hx : R σ x ds) (h1 : ∀ u ∈ ds, u.oneCell' = true)
    (h : ∀ p u w', Kpt (fun k => v.ownBlock = some k) w w' → Hst w0 σ0 w' σ → Acq w0.heap.size e sz R σ w' v (xs.set n x) → A p u w') :
    indexAddr P t v (I n) w (fun p w => stv P t' p (.agg ds.toArray) w (fun u w => A p u w)) := by
  obtain ⟨a, cap, rfl, c1, c2, hsp, c3⟩ := ha
  obtain ⟨g, off, cur, rfl, q1, q2, q3, q4, q5⟩ := c3 (by omega)
  rw [ix_raw (by omega) (by omega)]
  have hh : n * sz + sz ≤ cap * sz := by rw [← Nat.succ_mul]; exact Nat.mul_le_mul_right _ (by omega)
  have hadd : (⟨g, off, none⟩ : Addr).add ((n : Int).toNat * sz) = ⟨g, off + n * sz, none⟩ := by unfold Addr.add; split <;> simp_all
  rw [hadd]
  have hst := run_storeCells_at P g (off + n * sz) e ds 0 cur w q3 (by omega) h1
  simp only [Nat.add_zero] at hst
  obtain ⟨hu1, hu2⟩ := upd_setRow (cs := (cur.toList.take (off + n * sz) ++ ds ++ cur.toList.drop (off + n * sz + ds.length)).toArray) q3
  unfold stv
  rw [op_unit (w' := w.setRow g (cur.toList.take (off + n * sz) ++ ds ++ cur.toList.drop (off + n * sz + ds.length)).toArray) (by
    simp [Instr.storeAt, Instr.sureAddr, storeVar, run_sizeOf_of tz', Value.cells, hd]
    simpa [hd] using hst)]
  have hk : Kpt (fun k => (Value.slice (some ⟨g, off, none⟩) xs.length cap).ownBlock = some k) w (w.setRow g (cur.toList.take (off + n * sz) ++ ds ++ cur.toList.drop (off + n * sz + ds.length)).toArray) := Kpt.of_upd hu1 rfl
  refine h _ _ _ hk ⟨hu1.stp hS q1 q2⟩ ⟨_, cap, by rw [List.length_set], by rw [List.length_set]; exact c1, c2, fun b hb => ⟨(hsp b hb).1, (hsp b hb).2.1, by rw [hu1.size]; exact (hsp b hb).2.2.1, (hsp b hb).2.2.2⟩, fun _ => ⟨g, off, _, rfl, q1, q2, hu2, ?_, fun j y hy => ?_⟩⟩
  · simp; omega
  · rw [List.toList_toArray]
    have hcl := Array.length_toList (xs := cur)
    have hjl : j < xs.length := by have := (List.getElem?_eq_some_iff.1 hy).1; simpa using this
    have hj2 : j * sz + sz ≤ cap * sz := by rw [← Nat.succ_mul]; exact Nat.mul_le_mul_right _ (by omega)
    by_cases hj : j = n
    · subst hj
      rw [List.getElem?_set_self hjl] at hy
      cases hy
      rw [List.append_assoc, List.drop_append, List.drop_eq_nil_of_le (by rw [List.length_take]; omega), List.nil_append, List.length_take, show off + j * sz - min (off + j * sz) cur.toList.length = 0 by omega, List.drop_zero, List.take_append_of_le_length (by omega), List.take_of_length_le (by omega)]
      exact hx
    · rw [List.getElem?_set_ne (by omega)] at hy
      have := q5 j y hy
      rcases Nat.lt_or_gt_of_ne hj with hlt | hgt
      · have hh3 : j * sz + sz ≤ n * sz := by rw [← Nat.succ_mul]; exact Nat.mul_le_mul_right _ hlt
        rw [List.append_assoc, List.drop_append_of_le_length (by rw [List.length_take]; omega), List.take_append_of_le_length (by rw [List.length_drop, List.length_take]; omega), List.drop_take, List.take_take]
        rwa [show min sz (off + n * sz - (off + j * sz)) = sz by omega]
      · have hh3 : n * sz + sz ≤ j * sz := by rw [← Nat.succ_mul]; exact Nat.mul_le_mul_right _ hgt
        rw [List.drop_append, List.drop_eq_nil_of_le (by rw [List.length_append, List.length_take]; omega), List.nil_append, List.length_append, List.length_take, List.drop_drop, hd]
        rwa [show off + n * sz + sz + (off + j * sz - (min (off + n * sz) cur.toList.length + sz)) = off + j * sz by omega]
end
theorem exists_least (p : Nat → Prop) : ∀ n, p n → ∃ m, p m ∧ ∀ k, p k → m ≤ k := by
  intro n
  induction n using Nat.strongRecOn with
  | _ n ih =>
    intro h
    by_cases hk : ∃ k, k < n ∧ p k
    · obtain ⟨k, h1, h2⟩ := hk; exact ih k h1 h2
    · exact ⟨n, h, fun k hp => Nat.le_of_not_lt fun hlt => hk ⟨k, hlt, hp⟩⟩
noncomputable def leastOf (p : Nat → Prop) : Nat := open Classical in if h : ∃ m, p m ∧ ∀ k, p k → m ≤ k then Classical.choose h else 0
theorem leastOf_spec {p : Nat → Prop} {n : Nat} (h : p n) : p (leastOf p) ∧ leastOf p ≤ n := by
  have he := exists_least p n h
  unfold leastOf
  rw [dif_pos he]
  exact ⟨(Classical.choose_spec he).1, (Classical.choose_spec he).2 n h⟩
theorem lp_ix {α : Type} {x0 : α} {A : (α → World → Prop) → α → (Nat → Value) → World → Prop} (I : Nat → α → World → Prop) (n : Nat) (h0 : I n x0 w)
    (hr : ∀ again n x d w, I n x w → (∀ n' x' w', n' < n → I n' x' w' → again x' w') → A again x d w) : lp x0 w A := by
  refine lp_mk (fun x w => ∃ n, I n x w) (fun x w => leastOf fun n => I n x w) ⟨n, h0⟩ ?_
  rintro x d w ⟨n, hn⟩
  obtain ⟨h1, h2⟩ := leastOf_spec (p := fun n => I n x w) hn
  refine hr _ _ x d w h1 fun n' x' w' hlt h' => ⟨⟨n', h'⟩, ?_⟩
  exact Nat.lt_of_le_of_lt (leastOf_spec (p := fun n => I n x' w') h').2 hlt
section
variable {α : Type} {R : Store → α → List Value → Prop} {B sz : Nat} {e : TypeId} {v u : Value} {xs ys : List α} {x : α}
theorem Acq.below (h : Acq B e sz R σ w v xs) (hb : Below w.heap.size w w') : Acq B e sz R σ w' v xs := h.kp (D := fun _ => False) (.of_below hb) fun _ _ => id
theorem Acq.pre {a : Option Addr} {n m cap : Nat} (h : Acq B e sz R σ w (.slice a m cap) (xs ++ ys)) (hn : n = xs.length) : Acq B e sz R σ w (.slice a n cap) xs := by
  obtain ⟨a', cap', he, h1, h2, hsp, h3⟩ := h
  injection he with e1 e2 e3
  subst e1 e3 hn
  rw [List.length_append] at h1
  refine ⟨a, cap, rfl, by omega, h2, hsp, fun hc => ?_⟩
  obtain ⟨g, off, cur, q0, q1, q2, q3, q4, q5⟩ := h3 hc
  exact ⟨g, off, cur, q0, q1, q2, q3, q4, fun i x hx => q5 i x (by rw [List.getElem?_append_left (List.getElem?_eq_some_iff.1 hx).1]; exact hx)⟩
def TQa (B : Nat) (e : TypeId) (sz : Nat) (R : Store → α → List Value → Prop) (σ : Store) (v : Value) (xs : List α) (x : α) (w1 w2 : World) : Prop :=
  Kpt (fun k => v.ownBlock = some k) w1 w2 ∧ (Acq B e sz R σ w1 v xs → Acq B e sz R σ w2 v xs) ∧
    ∀ a cap, v = .slice a xs.length cap → Acq B e sz R σ w1 (.slice a (xs.length + 1) cap) (xs ++ [x]) → Acq B e sz R σ w2 (.slice a (xs.length + 1) cap) (xs ++ [x])
theorem TQa.below (hb : Below w.heap.size w w') : TQa B e sz R σ v xs x w w' := ⟨.of_below hb, fun h => h.below hb, fun _ _ _ h => h.below hb⟩
theorem TQa.refl : TQa B e sz R σ v xs x w w := TQa.below (Below.refl _ _)
def VQa (N B : Nat) (e : TypeId) (sz : Nat) (R : Store → α → List Value → Prop) (σ : Store) (v : Value) (xs : List α) (x : α) (v' : Value) (w : World) : Prop :=
  Acq B e sz R σ w v' (xs ++ [x]) ∧ ((∃ a cap, v = .slice a xs.length cap ∧ v' = .slice a (xs.length + 1) cap) ∨ ((∀ k, v'.ownBlock = some k → N ≤ k) ∧ ∀ k, v.ownBlock = some k → k < N))
theorem VQa.stable {N : Nat} {v' : Value} (h : VQa N B e sz R σ v xs x v' w) (ht : TQa B e sz R σ v xs x w w') : VQa N B e sz R σ v xs x v' w' := by
  obtain ⟨h1, h2⟩ := h
  refine ⟨?_, h2⟩
  rcases h2 with ⟨a, cap, h3, rfl⟩ | ⟨h2, h3⟩
  · exact ht.2.2 a cap h3 h1
  · exact h1.kp ht.1 fun k hk hk' => by have := h2 k hk; have := h3 k hk'; omega
theorem Kpt.more {D E : Nat → Prop} (h : Kpt D w w') (k : Kpt E w' w'') (hE : ∀ j, E j → w.heap.size ≤ j) : Kpt D w w'' :=
  ⟨k.os.trans h.os, k.tape.trans h.tape, k.output.trans h.output, Nat.le_trans h.size k.size, fun i hi hd => (k.block i (Nat.lt_of_lt_of_le hi h.size) fun e => by have := hE i e; omega).trans (h.block i hi hd)⟩
end
end Go.Emb

set_option autoImplicit false
set_option linter.unusedSimpArgs false
set_option linter.unusedVariables false
namespace Go.Proofs.YtdnfaboigajkhaaGreatDoor
open Go.Emb Go.RowKit Go.Kd Go.Hm
variable {w : World} {K : Value → World → Prop} {σ : Store}
def catchM (n : Int) (x : Cat) : Bool := decide (0 ≤ x.frm) && decide (x.frm < x.to) && decide (x.to ≤ n) && decide (0 ≤ x.at_) && decide (x.at_ < n) && clas x.cls
theorem c_method_1 {cs : List Value} {c : Cat} {q : Addr} {n : Int} (hs : Sat w σ) (hc : RCa σ c cs) (hq : Lies σ q [I n]) (h : ∀ w' σ', Stp w σ w' σ' → K (.bool (catchM n c)) w') : callF P F.class_method_1 [.agg cs.toArray, .pointer (some q)] w K := r_class_method_1 (by
  obtain ⟨rfl, h1, h2, h3, h4⟩ := hc
  unfold g_class_method_1
  unfold catchM at h
  (repeat' (first | (with_reducible intro _) | (with_reducible refine jn_in ?_) | (simp only [↓Mm, Mm, ↓Mp, Mp, Mb, reduceIte]) | (with_reducible first | refine ld aS aL aR ?_ | refine ld0 aS aL aR ?_ | refine lda aS aL aR ?_ | refine len_slK aL ?_ | refine x_fld aR ?_ | refine x_box aS ?_ | refine x_slb aS aL ?_ | refine x_box1 aS aR ?_ | refine alc_st aS aR aR (Rep.one (by assumption)) ?_ | refine alc_st1 aS aR aR aR ?_ | refine k_Class _ au (below_k aS ?_) | (refine gop_split (fun hh => ?_) (fun hh => ?_) <;> (try simp only [hh, Bool.not_true, Bool.not_false, ↓Mm, Mm, ↓Mp, Mp, Mb, reduceIte])) | (refine cnd_split (fun hh => ?_) (fun hh => ?_) <;> (try simp only [hh, Bool.not_true, Bool.not_false, ↓Mm, Mm, ↓Mp, Mp, Mb, reduceIte])))))
  all_goals (refine Eq.subst (motive := fun b => K b _) ?_ (h _ _ (by (repeat (first | exact Stp.refl (by (first | assumption | exact Stp.sat (by assumption) | exact Hst.sat (by assumption))) | assumption | refine Stp.trans ?_ (by first | assumption | exact Hst.stp (by assumption)))))); clear h; (try clear hA); (try clear hB); (try clear hC); first | rfl | ((try simp only [Bool.not_eq_true', Bool.not_eq_false', Bool.not_true, Bool.not_false, Bool.not_eq_true] at *); simp only [*, Mb, reduceIte]; done) | (simp [*]; done) | simp_all))
theorem c_method_2 {cs : List Value} {i : Ins} (hs : Sat w σ) (hg : Glb σ) (hc : RIn σ i cs) (h : ∀ w' σ', Stp w σ w' σ' → K (.bool (decide (codeCheck i = 0))) w') : callF P F.class_method_2 [.agg cs.toArray] w K := r_class_method_2 (by
  obtain ⟨rfl, h1, h2, h3⟩ := hc
  have hc : RIn σ i [S i.op, I i.n, S i.s] := ⟨rfl, h1, h2, h3⟩
  unfold g_class_method_2
  (repeat' (first | (with_reducible intro _) | (with_reducible refine jn_in ?_) | (simp only [↓Mm, Mm, ↓Mp, Mp, Mb, reduceIte]) | (with_reducible first | refine ld aS aL aR ?_ | refine ld0 aS aL aR ?_ | refine lda aS aL aR ?_ | refine len_slK aL ?_ | refine x_fld aR ?_ | refine x_box aS ?_ | refine x_slb aS aL ?_ | refine x_box1 aS aR ?_ | refine alc_st aS aR aR (Rep.one (by assumption)) ?_ | refine alc_st1 aS aR aR aR ?_ | refine c_codeCheck au au au ?_ | (refine gop_split (fun hh => ?_) (fun hh => ?_) <;> (try simp only [hh, Bool.not_true, Bool.not_false, ↓Mm, Mm, ↓Mp, Mp, Mb, reduceIte])) | (refine cnd_split (fun hh => ?_) (fun hh => ?_) <;> (try simp only [hh, Bool.not_true, Bool.not_false, ↓Mm, Mm, ↓Mp, Mp, Mb, reduceIte])))))
  all_goals (refine Eq.subst (motive := fun b => K b _) ?_ (h _ _ (by (repeat (first | exact Stp.refl (by (first | assumption | exact Stp.sat (by assumption) | exact Hst.sat (by assumption))) | assumption | refine Stp.trans ?_ (by first | assumption | exact Hst.stp (by assumption)))))); clear h; (try clear hA); (try clear hB); (try clear hC); first | rfl | ((try simp only [Bool.not_eq_true', Bool.not_eq_false', Bool.not_true, Bool.not_false, Bool.not_eq_true] at *); simp only [*, Mb, reduceIte]; done) | (simp [*]; done) | simp_all))
def methodC (m : Hm.Met) : Bool := member m.name && m.params.all right && (decide (m.result = []) || right m.result) &&
  if m.abs then decide (m.locals = 0) && decide (m.code = []) && decide (m.catches = [])
  else decide (m.code ≠ []) && decide ((m.params.length : Int) < m.locals) && m.code.all (fun i => decide (codeCheck i = 0)) && m.catches.all (catchM m.code.length)
theorem c_method {cs : List Value} {m : Hm.Met} (hs : Sat w σ) (hg : Glb σ) (hm : RMe σ m cs) (h : ∀ w' σ', Stp w σ w' σ' → K (.bool (methodC m)) w') : callF P F.class_method [.agg cs.toArray] w K := r_class_method (by
  obtain ⟨pv, cv, hv, rfl, g1, g2, g3, g4, g5, g6⟩ := hm
  unfold g_class_method
  unfold methodC at h
  have e1 : decide ((0 : Int) < m.code.length) = decide (m.code ≠ []) := by cases m.code <;> simp
  have e2 : decide ((m.code.length : Int) = 0) = decide (m.code = []) := by cases m.code <;> simp; omega
  have e3 : decide ((m.catches.length : Int) = 0) = decide (m.catches = []) := by cases m.catches <;> simp; omega
  have hA : ∀ {w1 : World} {σ1 : Store} {K : Value → World → Prop}, Sat w1 σ1 → Sl 1 RStr σ1 pv m.params → (∀ w' σ', Stp w1 σ1 w' σ' → K (.bool (m.params.all right)) w') → callF P F.class_every_string [pv, .func (.func F.kind_Right) #[] #[]] w1 K :=
    fun hs hv h => c_every_string right hs hv (fun σ1 x w1 K _ _ hs hl hK => callV_func (k_Right x (Nat.le_trans hl (by decide)) hK)) (below_k hs h)
  have hB : ∀ {w1 : World} {σ1 : Store} {K : Value → World → Prop}, Sat w1 σ1 → Glb σ1 → Sl 3 RIn σ1 cv m.code → (∀ w' σ', Stp w1 σ1 w' σ' → K (.bool (m.code.all fun i => decide (codeCheck i = 0))) w') → callF P F.class_every_api_Instr [cv, .func (.func F.class_method_2) #[] #[]] w1 K :=
    fun hs hg hv h => c_every_api_Instr (fun i => decide (codeCheck i = 0)) hs hv (fun σ1 x cs w1 K le _ hs hr hl hK => callV_func (c_method_2 hs (hg.lift ⟨le⟩) hr fun w' σ' hk => hK w' hk.bel)) (below_k hs h)
  have hC : ∀ {w1 : World} {σ1 : Store} {K : Value → World → Prop} {q : Addr}, Sat w1 σ1 → Sl 4 RCa σ1 hv m.catches → Lies σ1 q [I m.code.length] → (∀ w' σ', Stp w1 σ1 w' σ' → K (.bool (m.catches.all (catchM m.code.length))) w') → callF P F.class_every_api_Catch [hv, .func (.func F.class_method_1) #[] #[.pointer (some q)]] w1 K :=
    fun hs hv hq h => c_every_api_Catch (catchM m.code.length) hs hv (fun σ1 x cs w1 K le _ hs hr hl hK => callV_func (c_method_1 hs hr (hq.le le) fun w' σ' hk => hK w' hk.bel)) (below_k hs h)
  refine x_box hs fun a w1 σ1 hk1 ha1 => ?_
  (repeat' (first | (with_reducible intro _) | (with_reducible refine jn_in ?_) | (simp only [↓Mm, Mm, ↓Mp, Mp, Mb, reduceIte]) | (with_reducible first | refine ld aS aL aR ?_ | refine ld0 aS aL aR ?_ | refine lda aS aL aR ?_ | refine len_slK aL ?_ | refine x_fld aR ?_ | refine x_box aS ?_ | refine x_slb aS aL ?_ | refine x_box1 aS aR ?_ | refine alc_st aS aR aR (Rep.one (by assumption)) ?_ | refine alc_st1 aS aR aR aR ?_ | refine c_member au (below_k aS ?_) | refine k_Right _ au (below_k aS ?_) | refine hA au au ?_ | refine hB au au au ?_ | refine hC au au au ?_ | (refine gop_split (fun hh => ?_) (fun hh => ?_) <;> (try simp only [hh, Bool.not_true, Bool.not_false, ↓Mm, Mm, ↓Mp, Mp, Mb, reduceIte])) | (refine cnd_split (fun hh => ?_) (fun hh => ?_) <;> (try simp only [hh, Bool.not_true, Bool.not_false, ↓Mm, Mm, ↓Mp, Mp, Mb, reduceIte])))))
  all_goals (simp only [← e1, ← e2, ← e3] at h; clear e1 e2 e3; (refine Eq.subst (motive := fun b => K b _) ?_ (h _ _ (by (repeat (first | exact Stp.refl (by (first | assumption | exact Stp.sat (by assumption) | exact Hst.sat (by assumption))) | assumption | refine Stp.trans ?_ (by first | assumption | exact Hst.stp (by assumption)))))); clear h; (try clear hA); (try clear hB); (try clear hC); first | rfl | ((try simp only [Bool.not_eq_true', Bool.not_eq_false', Bool.not_true, Bool.not_false, Bool.not_eq_true] at *); simp only [*, Mb, reduceIte]; done) | (simp [*]; done) | simp_all)))
theorem c_methodV {cs : List Value} {m : Hm.Met} (hs : Sat w σ) (hg : Glb σ) (hm : RMe σ m cs) (h : ∀ w' σ', Stp w σ w' σ' → K (.bool (methodC m)) w') : callV P (.func (.func F.class_method) #[] #[]) [.agg cs.toArray] w K := callV_func (c_method hs hg hm h)
def fieldC (f : Fld) : Bool := member f.name && right f.kind
def rightC (c : Cla) : Bool := (c.name :: c.super :: c.like).all clas && !((c.super :: c.like).any fun y => decide (c.name = y)) && onceR id [] c.like &&
  !(c.iface && (!c.abs || !decide (c.super = sRoot) || !decide (c.fields = []) || c.methods.any (fun m => !m.abs))) &&
  !((c.abs && c.fin) || (c.methods.any (·.abs) && !c.abs)) && onceR Fld.name [] c.fields && onceR Hm.Met.name [] c.methods && c.fields.all fieldC && c.methods.all methodC
def checkM (c : Cla) : Int := if many c then 51 else if rightC c then 0 else 50
theorem c_right_6 {cs : List Value} {f : Fld} (hs : Sat w σ) (hf : RFd σ f cs) (h : ∀ w' σ', Stp w σ w' σ' → K (.bool (fieldC f)) w') : callF P F.class_right_6 [.agg cs.toArray] w K := r_class_right_6 (by
  obtain ⟨rfl, h1, h2⟩ := hf
  unfold g_class_right_6
  unfold fieldC at h
  (repeat' (first | (with_reducible intro _) | (with_reducible refine jn_in ?_) | (simp only [↓Mm, Mm, ↓Mp, Mp, Mb, reduceIte]) | (with_reducible first | refine ld aS aL aR ?_ | refine ld0 aS aL aR ?_ | refine lda aS aL aR ?_ | refine len_slK aL ?_ | refine x_fld aR ?_ | refine x_box aS ?_ | refine x_slb aS aL ?_ | refine x_box1 aS aR ?_ | refine alc_st aS aR aR (Rep.one (by assumption)) ?_ | refine alc_st1 aS aR aR aR ?_ | refine c_member au (below_k aS ?_) | refine k_Right _ au (below_k aS ?_) | (refine gop_split (fun hh => ?_) (fun hh => ?_) <;> (try simp only [hh, Bool.not_true, Bool.not_false, ↓Mm, Mm, ↓Mp, Mp, Mb, reduceIte])) | (refine cnd_split (fun hh => ?_) (fun hh => ?_) <;> (try simp only [hh, Bool.not_true, Bool.not_false, ↓Mm, Mm, ↓Mp, Mp, Mb, reduceIte])))))
  all_goals (refine Eq.subst (motive := fun b => K b _) ?_ (h _ _ (by (repeat (first | exact Stp.refl (by (first | assumption | exact Stp.sat (by assumption) | exact Hst.sat (by assumption))) | assumption | refine Stp.trans ?_ (by first | assumption | exact Hst.stp (by assumption)))))); clear h; (try clear hA); (try clear hB); (try clear hC); first | rfl | ((try simp only [Bool.not_eq_true', Bool.not_eq_false', Bool.not_true, Bool.not_false, Bool.not_eq_true] at *); simp only [*, Mb, reduceIte]; done) | (simp [*]; done) | simp_all))
set_option maxHeartbeats 1600000 in
theorem c_right {cs : List Value} {c : Cla} (hs : Sat w σ) (hg : Glb σ) (hc : RCl σ c cs) (hl : c.like.length ≤ 1000000) (h : ∀ w' σ', Stp w σ w' σ' → K (.bool (rightC c)) w') : callF P F.class_right [.agg cs.toArray] w K := r_class_right (by
  obtain ⟨lv, fv, mv, rfl, g1, g2, g3, g4, g5⟩ := hc
  unfold g_class_right
  unfold rightC at h
  refine x_box hs fun a w1 σ1 hk1 ha1 => ?_
  rw [fa]
  refine ld hk1.sat ha1 rfl ?_
  rw [fa]
  refine ld hk1.sat ha1 rfl ?_
  refine bs_acc (R := RStr) (sz := 1) (xs := [c.name, c.super]) hk1 [_, _] rfl rfl (by simp; exact ⟨rfl, rfl⟩) rfl ⟨⟨rfl, g4⟩, ⟨rfl, g5⟩, trivial⟩ fun v w2 hk2 hacc _ => ?_
  rw [fa]
  refine ld hk2.sat ha1 rfl ?_
  refine x_app (hk1.trans hk2) hacc (g1.up hk1) rfl (by simp; omega) (by simp; omega) fun v' w3 hn3 hS3 hacc3 _ => ?_
  obtain ⟨σ3, hS3, hv3, le3, _⟩ := hacc3.keep hS3
  have hv3 : Sl 1 RStr σ3 v' (c.name :: c.super :: c.like) := hv3
  have ha3 := ha1.le le3
  have le13 : SLe σ σ3 := ⟨hS3.le⟩
  have g1 := g1.lift le13
  have g2 := g2.lift le13
  have g3 := g3.lift le13
  have hg := hg.lift le13
  refine dr_hst hS3.sat ?_
  refine dop_mk (fun v _ => Sl 1 RStr σ3 v (c.super :: c.like)) (fun _ _ _ h _ => h) (fun w hb => ?_) ?_
  · refine slc_sl hv3 (some (I 1)) none 1 (c.like.length + 2) (.inr rfl) (.inl ⟨rfl, by simp⟩) (by omega) (by simp) fun v' hv' => ⟨Below.refl _ _, ?_⟩
    simpa using hv'
  refine dop_val (.pointer (some (a.add 0))) (fun w hb => by rw [fa]; exact dk_same rfl) ?_
  refine dop_val (S c.name) (fun t w hb e => by rw [e]; exact ld hb.sat ha3 rfl (dk_same rfl)) ?_
  rintro t16 t17 t18 w4 hb4 f16 rfl rfl
  have hS4 := hS3.trans hb4.stp
  clear hb4 hk1 hk2 hn3
  have hs4 := hS4.sat
  refine c_Contains_string hs4 f16 ?_
  have hA : ∀ {w1 : World} {σ1 : Store} {K : Value → World → Prop}, Sat w1 σ1 → Sl 7 RMe σ1 mv c.methods → (∀ w' σ', Stp w1 σ1 w' σ' → K (.bool (c.methods.any (·.abs))) w') → callF P F.slices_ContainsFunc_S_api_Method_api_Method [mv, .func (.func F.class_right_1) #[] #[]] w1 K :=
    fun hs hv h => c_ContainsFunc_api_Method (·.abs) hs hv (fun x cs w1 K _ hs hr hl hK => callV_func (r_class_right_1 (by
      obtain ⟨pv, cv, hv, rfl, _⟩ := hr
      unfold g_class_right_1
      refine x_box hs fun a w1 σ1 hk1 ha1 => ?_
      (repeat' (first | (with_reducible intro _) | (with_reducible refine jn_in ?_) | (simp only [↓Mm, Mm, ↓Mp, Mp, Mb, reduceIte]) | (with_reducible first | refine ld aS aL aR ?_ | refine ld0 aS aL aR ?_ | refine lda aS aL aR ?_ | refine len_slK aL ?_ | refine x_fld aR ?_ | refine x_box aS ?_ | refine x_slb aS aL ?_ | refine x_box1 aS aR ?_ | refine alc_st aS aR aR (Rep.one (by assumption)) ?_ | refine alc_st1 aS aR aR aR ?_ | (refine gop_split (fun hh => ?_) (fun hh => ?_) <;> (try simp only [hh, Bool.not_true, Bool.not_false, ↓Mm, Mm, ↓Mp, Mp, Mb, reduceIte])) | (refine cnd_split (fun hh => ?_) (fun hh => ?_) <;> (try simp only [hh, Bool.not_true, Bool.not_false, ↓Mm, Mm, ↓Mp, Mp, Mb, reduceIte])))))
      exact hK _ hk1.bel))) (below_k hs h)
  have hB : ∀ {w1 : World} {σ1 : Store} {K : Value → World → Prop}, Sat w1 σ1 → Sl 7 RMe σ1 mv c.methods → (∀ w' σ', Stp w1 σ1 w' σ' → K (.bool (c.methods.any fun m => !m.abs)) w') → callF P F.slices_ContainsFunc_S_api_Method_api_Method [mv, .func (.func F.class_right_2) #[] #[]] w1 K :=
    fun hs hv h => c_ContainsFunc_api_Method (fun m => !m.abs) hs hv (fun x cs w1 K _ hs hr hl hK => callV_func (r_class_right_2 (by
      obtain ⟨pv, cv, hv, rfl, _⟩ := hr
      unfold g_class_right_2
      refine x_box hs fun a w1 σ1 hk1 ha1 => ?_
      (repeat' (first | (with_reducible intro _) | (with_reducible refine jn_in ?_) | (simp only [↓Mm, Mm, ↓Mp, Mp, Mb, reduceIte]) | (with_reducible first | refine ld aS aL aR ?_ | refine ld0 aS aL aR ?_ | refine lda aS aL aR ?_ | refine len_slK aL ?_ | refine x_fld aR ?_ | refine x_box aS ?_ | refine x_slb aS aL ?_ | refine x_box1 aS aR ?_ | refine alc_st aS aR aR (Rep.one (by assumption)) ?_ | refine alc_st1 aS aR aR aR ?_ | (refine gop_split (fun hh => ?_) (fun hh => ?_) <;> (try simp only [hh, Bool.not_true, Bool.not_false, ↓Mm, Mm, ↓Mp, Mp, Mb, reduceIte])) | (refine cnd_split (fun hh => ?_) (fun hh => ?_) <;> (try simp only [hh, Bool.not_true, Bool.not_false, ↓Mm, Mm, ↓Mp, Mp, Mb, reduceIte])))))
      exact hK _ hk1.bel))) (below_k hs h)
  have hC : ∀ {w1 : World} {σ1 : Store} {K : Value → World → Prop}, Sat w1 σ1 → Sl 1 RStr σ1 v' (c.name :: c.super :: c.like) → (∀ w' σ', Stp w1 σ1 w' σ' → K (.bool ((c.name :: c.super :: c.like).all clas)) w') → callF P F.class_every_string [v', .func (.func F.kind_Class) #[] #[]] w1 K :=
    fun hs hv h => c_every_string clas hs hv (fun σ1 x w1 K _ _ hs hl hK => callV_func (k_Class x (Nat.le_trans hl (by decide)) hK)) (below_k hs h)
  have hD : ∀ {w1 : World} {σ1 : Store} {K : Value → World → Prop}, Sat w1 σ1 → Sl 1 RStr σ1 lv c.like → (∀ w' σ', Stp w1 σ1 w' σ' → K (.bool (onceR id [] c.like)) w') → callF P F.class_once_string [lv, .func (.func F.class_right_3) #[] #[]] w1 K :=
    fun hs hv h => c_once_string id hs hv (fun σ1 x w1 K _ hs hl hK => callV_func (r_class_right_3 (hK _ (Below.refl _ _)))) (below_k hs h)
  have hE : ∀ {w1 : World} {σ1 : Store} {K : Value → World → Prop}, Sat w1 σ1 → Sl 3 RFd σ1 fv c.fields → (∀ w' σ', Stp w1 σ1 w' σ' → K (.bool (onceR Fld.name [] c.fields)) w') → callF P F.class_once_api_Field [fv, .func (.func F.class_right_4) #[] #[]] w1 K :=
    fun hs hv h => c_once_api_Field Fld.name hs hv (fun σ1 x cs w1 K _ hs hr hl hK => callV_func (r_class_right_4 (by
      obtain ⟨rfl, _⟩ := hr
      unfold g_class_right_4
      refine x_box hs fun a w1 σ1 hk1 ha1 => ?_
      (repeat' (first | (with_reducible intro _) | (with_reducible refine jn_in ?_) | (simp only [↓Mm, Mm, ↓Mp, Mp, Mb, reduceIte]) | (with_reducible first | refine ld aS aL aR ?_ | refine ld0 aS aL aR ?_ | refine lda aS aL aR ?_ | refine len_slK aL ?_ | refine x_fld aR ?_ | refine x_box aS ?_ | refine x_slb aS aL ?_ | refine x_box1 aS aR ?_ | refine alc_st aS aR aR (Rep.one (by assumption)) ?_ | refine alc_st1 aS aR aR aR ?_ | (refine gop_split (fun hh => ?_) (fun hh => ?_) <;> (try simp only [hh, Bool.not_true, Bool.not_false, ↓Mm, Mm, ↓Mp, Mp, Mb, reduceIte])) | (refine cnd_split (fun hh => ?_) (fun hh => ?_) <;> (try simp only [hh, Bool.not_true, Bool.not_false, ↓Mm, Mm, ↓Mp, Mp, Mb, reduceIte])))))
      exact hK _ hk1.bel))) (below_k hs h)
  have hF : ∀ {w1 : World} {σ1 : Store} {K : Value → World → Prop}, Sat w1 σ1 → Sl 7 RMe σ1 mv c.methods → (∀ w' σ', Stp w1 σ1 w' σ' → K (.bool (onceR Hm.Met.name [] c.methods)) w') → callF P F.class_once_api_Method [mv, .func (.func F.class_right_5) #[] #[]] w1 K :=
    fun hs hv h => c_once_api_Method Hm.Met.name hs hv (fun σ1 x cs w1 K _ hs hr hl hK => callV_func (r_class_right_5 (by
      obtain ⟨pv, cv, hv, rfl, _⟩ := hr
      unfold g_class_right_5
      refine x_box hs fun a w1 σ1 hk1 ha1 => ?_
      (repeat' (first | (with_reducible intro _) | (with_reducible refine jn_in ?_) | (simp only [↓Mm, Mm, ↓Mp, Mp, Mb, reduceIte]) | (with_reducible first | refine ld aS aL aR ?_ | refine ld0 aS aL aR ?_ | refine lda aS aL aR ?_ | refine len_slK aL ?_ | refine x_fld aR ?_ | refine x_box aS ?_ | refine x_slb aS aL ?_ | refine x_box1 aS aR ?_ | refine alc_st aS aR aR (Rep.one (by assumption)) ?_ | refine alc_st1 aS aR aR aR ?_ | (refine gop_split (fun hh => ?_) (fun hh => ?_) <;> (try simp only [hh, Bool.not_true, Bool.not_false, ↓Mm, Mm, ↓Mp, Mp, Mb, reduceIte])) | (refine cnd_split (fun hh => ?_) (fun hh => ?_) <;> (try simp only [hh, Bool.not_true, Bool.not_false, ↓Mm, Mm, ↓Mp, Mp, Mb, reduceIte])))))
      exact hK _ hk1.bel))) (below_k hs h)
  have hG : ∀ {w1 : World} {σ1 : Store} {K : Value → World → Prop}, Sat w1 σ1 → Sl 3 RFd σ1 fv c.fields → (∀ w' σ', Stp w1 σ1 w' σ' → K (.bool (c.fields.all fieldC)) w') → callF P F.class_every_api_Field [fv, .func (.func F.class_right_6) #[] #[]] w1 K :=
    fun hs hv h => c_every_api_Field fieldC hs hv (fun σ1 x cs w1 K _ _ hs hr hl hK => callV_func (c_right_6 hs hr fun w' σ' hk => hK w' hk.bel)) (below_k hs h)
  have hH : ∀ {w1 : World} {σ1 : Store} {K : Value → World → Prop}, Sat w1 σ1 → Glb σ1 → Sl 7 RMe σ1 mv c.methods → (∀ w' σ', Stp w1 σ1 w' σ' → K (.bool (c.methods.all methodC)) w') → callF P F.class_every_api_Method [mv, .func (.func F.class_method) #[] #[]] w1 K :=
    fun hs hg hv h => c_every_api_Method methodC hs hv (fun σ1 x cs w1 K le _ hs hr hl hK => c_methodV hs (hg.lift ⟨le⟩) hr fun w' σ' hk => hK w' hk.bel) (below_k hs h)
  have e1 : decide ((0 : Int) < c.fields.length) = !decide (c.fields = []) := by cases c.fields <;> simp
  have e2 : decide (c.super = [79, 98, 106, 101, 99, 116]) = decide (c.super = sRoot) := rfl
  (repeat' (first | (with_reducible intro _) | (with_reducible refine jn_in ?_) | (simp only [↓Mm, Mm, ↓Mp, Mp, Mb, reduceIte]) | (with_reducible first | refine ld aS aL aR ?_ | refine ld0 aS aL aR ?_ | refine lda aS aL aR ?_ | refine len_slK aL ?_ | refine x_fld aR ?_ | refine x_box aS ?_ | refine x_slb aS aL ?_ | refine x_box1 aS aR ?_ | refine alc_st aS aR aR (Rep.one (by assumption)) ?_ | refine alc_st1 aS aR aR aR ?_ | refine hA au au ?_ | refine hB au au ?_ | refine hC au au ?_ | refine hD au au ?_ | refine hE au au ?_ | refine hF au au ?_ | refine hG au au ?_ | refine hH au au au ?_ | (refine gop_split (fun hh => ?_) (fun hh => ?_) <;> (try simp only [hh, Bool.not_true, Bool.not_false, ↓Mm, Mm, ↓Mp, Mp, Mb, reduceIte])) | (refine cnd_split (fun hh => ?_) (fun hh => ?_) <;> (try simp only [hh, Bool.not_true, Bool.not_false, ↓Mm, Mm, ↓Mp, Mp, Mb, reduceIte])))))
  all_goals (simp only [← e1, ← e2] at h; clear hA hB hC hD hE hF hG hH e1 e2; (refine Eq.subst (motive := fun b => K b _) ?_ (h _ _ (by (repeat (first | exact Stp.refl (by (first | assumption | exact Stp.sat (by assumption) | exact Hst.sat (by assumption))) | assumption | refine Stp.trans ?_ (by first | assumption | exact Hst.stp (by assumption)))))); clear h; (try clear hA); (try clear hB); (try clear hC); first | rfl | ((try simp only [Bool.not_eq_true', Bool.not_eq_false', Bool.not_true, Bool.not_false, Bool.not_eq_true] at *); simp only [*, Mb, reduceIte]; done) | (simp [*]; done) | simp_all)))
theorem c_Check {cs : List Value} {c : Cla} (hs : Sat w σ) (hg : Glb σ) (hc : RCl σ c cs) (hl : c.like.length ≤ 1000000) (h : ∀ w' σ', Stp w σ w' σ' → K (I (checkM c)) w') : callF P F.class_Check [.agg cs.toArray] w K := r_class_Check (by
  have hc0 := hc
  obtain ⟨lv, fv, mv, rfl, g1, g2, g3, g4, g5⟩ := hc
  unfold g_class_Check
  unfold checkM at h
  (repeat' (first | (with_reducible intro _) | (with_reducible refine jn_in ?_) | (simp only [↓Mm, Mm, ↓Mp, Mp, Mb, reduceIte]) | (with_reducible first | refine ld aS aL aR ?_ | refine ld0 aS aL aR ?_ | refine lda aS aL aR ?_ | refine len_slK aL ?_ | refine x_fld aR ?_ | refine x_box aS ?_ | refine x_slb aS aL ?_ | refine x_box1 aS aR ?_ | refine alc_st aS aR aR (Rep.one (by assumption)) ?_ | refine alc_st1 aS aR aR aR ?_ | refine c_many au au (below_k aS ?_) | refine c_right au au au au ?_ | (refine gop_split (fun hh => ?_) (fun hh => ?_) <;> (try simp only [hh, Bool.not_true, Bool.not_false, ↓Mm, Mm, ↓Mp, Mp, Mb, reduceIte])) | (refine cnd_split (fun hh => ?_) (fun hh => ?_) <;> (try simp only [hh, Bool.not_true, Bool.not_false, ↓Mm, Mm, ↓Mp, Mp, Mb, reduceIte])))))
  all_goals (refine Eq.subst (motive := fun b => K b _) ?_ (h _ _ (by (repeat (first | exact Stp.refl (by (first | assumption | exact Stp.sat (by assumption) | exact Hst.sat (by assumption))) | assumption | refine Stp.trans ?_ (by first | assumption | exact Hst.stp (by assumption)))))); clear h; (try clear hA); (try clear hB); (try clear hC); first | rfl | ((try simp only [Bool.not_eq_true', Bool.not_eq_false', Bool.not_true, Bool.not_false, Bool.not_eq_true] at *); simp only [*, Mb, reduceIte]; done) | (simp [*]; done) | simp_all))
end Go.Proofs.YtdnfaboigajkhaaGreatDoor

set_option autoImplicit false
set_option linter.unusedSimpArgs false
set_option linter.unusedVariables false
namespace Go.Hm
open Go.Kd
theorem lk_some {l : List Cla} {n : Str} {c : Cla} (h : lk l n = some c) : c.name = n ∧ c ∈ l ∧ ∃ i, findC l n = some i ∧ l[i]? = some c := by
  unfold lk at h
  cases hf : findC l n with
  | none => rw [hf] at h; cases h
  | some i =>
    rw [hf] at h
    obtain ⟨hi, hp, _⟩ := List.findIdx?_eq_some_iff_getElem.1 hf
    have h' : l[i]? = some c := h
    rw [List.getElem?_eq_getElem hi] at h'
    cases h'
    exact ⟨by simpa using hp, List.getElem_mem hi, i, rfl, List.getElem?_eq_getElem hi⟩
theorem lk_find {l : List Cla} {n : Str} {i : Nat} (h : findC l n = some i) : ∃ c, lk l n = some c ∧ l[i]? = some c ∧ c.name = n := by
  obtain ⟨hi, hp, _⟩ := List.findIdx?_eq_some_iff_getElem.1 h
  refine ⟨l[i], ?_, List.getElem?_eq_getElem hi, by simpa using hp⟩
  unfold lk; rw [h]; simp [hi]
theorem hasM_lk {l : List Cla} {n : Str} : hasM l n = (lk l n).isSome := by
  unfold hasM
  cases hf : findC l n with
  | none => simp [lk, hf]
  | some i => obtain ⟨c, h, _⟩ := lk_find hf; simp [h]
theorem lk_of_mem {l : List Cla} {c : Cla} (h : c ∈ l) : ∃ d, lk l c.name = some d := by
  cases hf : findC l c.name with
  | none =>
    have := List.findIdx?_eq_none_iff.1 hf c h
    simp at this
  | some i => obtain ⟨d, h, _⟩ := lk_find hf; exact ⟨d, h⟩
inductive Reach (L : Look) : Str → Str → Prop
  | refl {a : Str} {c : Cla} : L a = some c → Reach L a a
  | step {a u b : Str} {c : Cla} : L a = some c → u ∈ ups c → Reach L u b → Reach L a b
theorem Reach.trans {L : Look} {a b d : Str} (h : Reach L a b) (k : Reach L b d) : Reach L a d := by
  induction h with
  | refl _ => exact k
  | step h1 h2 _ ih => exact .step h1 h2 (ih k)
theorem Reach.right {L : Look} {a b : Str} (h : Reach L a b) : ∃ c, L b = some c := by
  induction h with
  | refl h => exact ⟨_, h⟩
  | step _ _ _ ih => exact ih
theorem Reach.left {L : Look} {a b : Str} (h : Reach L a b) : ∃ c, L a = some c := by
  cases h with
  | refl h => exact ⟨_, h⟩
  | step h _ _ => exact ⟨_, h⟩
theorem bfs_pre (L : Look) : ∀ (f : Nat) (todo seen : List Str), ∃ r, bfs L f todo seen = seen ++ r := by
  intro f
  induction f with
  | zero => intro todo seen; exact ⟨[], by simp [bfs]⟩
  | succ f ih =>
    intro todo seen
    cases todo with
    | nil => exact ⟨[], by simp [bfs]⟩
    | cons n todo =>
      simp only [bfs]
      split
      · exact ih _ _
      · split
        · exact ih _ _
        · obtain ⟨r, hr⟩ := ih (todo ++ ups ‹_›) (seen ++ [n])
          exact ⟨n :: r, by rw [hr]; simp⟩
theorem bfs_sound (L : Look) : ∀ (f : Nat) (todo seen : List Str) (x : Str), x ∈ bfs L f todo seen → x ∈ seen ∨ ∃ t ∈ todo, Reach L t x := by
  intro f
  induction f with
  | zero => intro todo seen x h; exact .inl h
  | succ f ih =>
    intro todo seen x h
    cases todo with
    | nil => exact .inl h
    | cons n todo =>
      simp only [bfs] at h
      split at h
      · rcases ih _ _ _ h with h | ⟨t, ht, h⟩
        · exact .inl h
        · exact .inr ⟨t, by simp [ht], h⟩
      · rename_i c hc
        split at h
        · rcases ih _ _ _ h with h | ⟨t, ht, h⟩
          · exact .inl h
          · exact .inr ⟨t, by simp [ht], h⟩
        · rcases ih _ _ _ h with h | ⟨t, ht, h⟩
          · rcases List.mem_append.1 h with h | h
            · exact .inl h
            · simp at h; subst h; exact .inr ⟨x, by simp, .refl hc⟩
          · rcases List.mem_append.1 ht with ht | ht
            · exact .inr ⟨t, by simp [ht], h⟩
            · exact .inr ⟨n, by simp, .step hc ht h⟩
theorem weigh_le (l : List Cla) (seen seen' : List Str) (h : ∀ x ∈ seen, x ∈ seen') : weigh l seen' ≤ weigh l seen := by
  unfold weigh
  induction l with
  | nil => simp
  | cons c r ih =>
    simp only [List.map_cons, List.sum_cons]
    by_cases h1 : c.name ∈ seen
    · rw [if_pos h1, if_pos (h _ h1)]; omega
    · rw [if_neg h1]; split <;> omega
theorem weigh_step (l : List Cla) (seen : List Str) (c : Cla) (hc : c ∈ l) (hn : c.name ∉ seen) : weigh l (seen ++ [c.name]) + (ups c).length ≤ weigh l seen := by
  unfold weigh
  induction l with
  | nil => simp at hc
  | cons d r ih =>
    simp only [List.map_cons, List.sum_cons]
    have hle : weigh r (seen ++ [c.name]) ≤ weigh r seen := weigh_le _ _ _ (by simp; intro x hx; exact .inl hx)
    unfold weigh at hle
    rcases List.mem_cons.1 hc with rfl | hc
    · rw [if_pos (by simp), if_neg hn]; omega
    · have := ih hc
      by_cases h1 : d.name ∈ seen
      · rw [if_pos (by simp [h1]), if_pos h1]; omega
      · rw [if_neg h1]; split <;> omega
theorem bfs_full (l : List Cla) : ∀ (f : Nat) (todo seen : List Str), todo.length + weigh l seen ≤ f →
    (∀ x ∈ seen, ∀ c, lk l x = some c → ∀ u ∈ ups c, ∀ d, lk l u = some d → u ∈ seen ∨ u ∈ todo) →
    (∀ t ∈ todo, ∀ d, lk l t = some d → t ∈ bfs (lk l) f todo seen) ∧ ∀ x ∈ bfs (lk l) f todo seen, ∀ c, lk l x = some c → ∀ u ∈ ups c, ∀ d, lk l u = some d → u ∈ bfs (lk l) f todo seen := by
  intro f
  induction f with
  | zero =>
    intro todo seen hf hs
    have : todo = [] := List.eq_nil_of_length_eq_zero (by omega)
    subst this
    refine ⟨by simp, fun x hx c hc u hu d hd => ?_⟩
    rcases hs x hx c hc u hu d hd with h | h
    · exact h
    · simp at h
  | succ f ih =>
    intro todo seen hf hs
    cases todo with
    | nil =>
      refine ⟨by simp, fun x hx c hc u hu d hd => ?_⟩
      rcases hs x hx c hc u hu d hd with h | h
      · exact h
      · simp at h
    | cons n todo =>
      simp only [List.length_cons] at hf
      simp only [bfs]
      split
      · rename_i hn
        obtain ⟨h1, h2⟩ := ih todo seen (by omega) (fun x hx c hc u hu d hd => by
          rcases hs x hx c hc u hu d hd with h | h
          · exact .inl h
          · rcases List.mem_cons.1 h with rfl | h
            · rw [hn] at hd; cases hd
            · exact .inr h)
        refine ⟨fun t ht d hd => ?_, h2⟩
        rcases List.mem_cons.1 ht with rfl | ht
        · rw [hn] at hd; cases hd
        · exact h1 t ht d hd
      · rename_i c hc
        split
        · rename_i hin
          obtain ⟨r, hr⟩ := bfs_pre (lk l) f todo seen
          obtain ⟨h1, h2⟩ := ih todo seen (by omega) (fun x hx c hc u hu d hd => by
            rcases hs x hx c hc u hu d hd with h | h
            · exact .inl h
            · rcases List.mem_cons.1 h with rfl | h
              · exact .inl hin
              · exact .inr h)
          refine ⟨fun t ht d hd => ?_, h2⟩
          rcases List.mem_cons.1 ht with rfl | ht
          · rw [hr]; simp [hin]
          · exact h1 t ht d hd
        · rename_i hin
          obtain ⟨e, hm, _⟩ := lk_some hc
          have hw := weigh_step l seen c hm (by rw [e]; exact hin)
          rw [e] at hw
          obtain ⟨h1, h2⟩ := ih (todo ++ ups c) (seen ++ [n]) (by rw [List.length_append]; omega) (fun x hx c' hc' u hu d hd => by
            rcases List.mem_append.1 hx with hx | hx
            · rcases hs x hx c' hc' u hu d hd with h | h
              · exact .inl (by simp [h])
              · rcases List.mem_cons.1 h with rfl | h
                · exact .inl (by simp)
                · exact .inr (by simp [h])
            · simp at hx; subst hx
              rw [hc] at hc'; cases hc'
              exact .inr (by simp [hu]))
          refine ⟨fun t ht d hd => ?_, h2⟩
          rcases List.mem_cons.1 ht with rfl | ht
          · obtain ⟨r, hr⟩ := bfs_pre (lk l) f (todo ++ ups c) (seen ++ [t])
            rw [hr]; simp
          · exact h1 t (by simp [ht]) d hd
theorem visits_iff {l : List Cla} {a b : Str} : b ∈ visits l a ↔ Reach (lk l) a b := by
  obtain ⟨h1, h2⟩ := bfs_full l (1 + weigh l []) [a] [] (by simp) (by simp)
  constructor
  · intro h
    rcases bfs_sound _ _ _ _ _ h with h | ⟨t, ht, h'⟩
    · simp at h
    · simp at ht; subst ht; exact h'
  · intro h
    have key : ∀ {x y : Str}, Reach (lk l) x y → x ∈ visits l a → y ∈ visits l a := by
      intro x y h
      induction h with
      | refl _ => exact id
      | step hc hu hr ih =>
        intro hx
        obtain ⟨d, hd⟩ := hr.left
        exact ih (h2 _ hx _ hc _ hu _ hd)
    obtain ⟨d, hd⟩ := h.left
    exact key h (h1 a (by simp) d hd)
theorem bfs_more (l : List Cla) : ∀ (f : Nat) (todo seen : List Str), todo.length + weigh l seen ≤ f → ∀ k, bfs (lk l) (f + k) todo seen = bfs (lk l) f todo seen := by
  intro f
  induction f with
  | zero =>
    intro todo seen hf k
    have : todo = [] := List.eq_nil_of_length_eq_zero (by omega)
    subst this
    cases k <;> rfl
  | succ f ih =>
    intro todo seen hf k
    cases todo with
    | nil => rw [Nat.succ_add]; rfl
    | cons n todo =>
      simp only [List.length_cons] at hf
      rw [Nat.succ_add]
      simp only [bfs]
      split
      · exact ih _ _ (by omega) k
      · rename_i c hc
        split
        · exact ih _ _ (by omega) k
        · rename_i hin
          obtain ⟨e, hm, _⟩ := lk_some hc
          have hw := weigh_step l seen c hm (by rw [e]; exact hin)
          rw [e] at hw
          exact ih _ _ (by rw [List.length_append]; omega) k
end Go.Hm

set_option autoImplicit false
set_option linter.unusedSimpArgs false
set_option linter.unusedVariables false
namespace Go.Hm
open Go.Kd
def Over (L : Look) (a b : Str) : Prop := ∃ c, L a = some c ∧ ∃ u ∈ ups c, Reach L u b
def Acy (l : List Cla) : Prop := ∀ a, ¬ Over (lk l) a a
theorem Over.reach {L : Look} {a b : Str} (h : Over L a b) : Reach L a b := by
  obtain ⟨c, hc, u, hu, hr⟩ := h; exact .step hc hu hr
theorem Over.trans {L : Look} {a b d : Str} (h : Over L a b) (k : Reach L b d) : Over L a d := by
  obtain ⟨c, hc, u, hu, hr⟩ := h; exact ⟨c, hc, u, hu, hr.trans k⟩
theorem Reach.over {L : Look} {a b d : Str} (h : Reach L a b) (k : Over L b d) : Over L a d := by
  cases h with
  | refl _ => exact k
  | step h1 h2 h3 => exact ⟨_, h1, _, h2, h3.trans k.reach⟩
def overB (l : List Cla) (a b : Str) : Bool := match lk l a with
  | none => false
  | some c => (ups c).any fun u => (visits l u).contains b
theorem overB_iff {l : List Cla} {a b : Str} : overB l a b = true ↔ Over (lk l) a b := by
  unfold overB Over
  cases h : lk l a with
  | none => simp
  | some c =>
    simp only [List.any_eq_true, List.contains_iff_mem, visits_iff]
    constructor
    · rintro ⟨u, hu, hr⟩; exact ⟨c, rfl, u, hu, hr⟩
    · rintro ⟨_, ⟨⟩, u, hu, hr⟩; exact ⟨u, hu, hr⟩
def rank (l : List Cla) (n : Str) : Nat := l.countP fun m => overB l n m.name
theorem rank_le (l : List Cla) (n : Str) : rank l n ≤ l.length := List.countP_le_length
theorem countP_lt {α : Type} {p q : α → Bool} : ∀ {l : List α}, (∀ x ∈ l, p x = true → q x = true) → (∃ x ∈ l, q x = true ∧ p x = false) → l.countP p < l.countP q := by
  intro l
  induction l with
  | nil => rintro _ ⟨x, hx, _⟩; simp at hx
  | cons a r ih =>
    rintro h ⟨x, hx, hq, hp⟩
    have hle : r.countP p ≤ r.countP q := List.countP_mono_left fun x hx => h x (by simp [hx])
    rw [List.countP_cons, List.countP_cons]
    rcases List.mem_cons.1 hx with rfl | hx
    · rw [hq, hp]; simp; omega
    · have := ih (fun x hx => h x (by simp [hx])) ⟨x, hx, hq, hp⟩
      have ha := h a (by simp)
      cases hpa : p a
      · simp; split <;> omega
      · rw [ha hpa]; simp; omega
theorem rank_lt {l : List Cla} (ha : Acy l) {a b : Str} (h : Over (lk l) a b) : rank l b < rank l a := by
  unfold rank
  refine countP_lt (fun x _ hx => ?_) ?_
  · rw [overB_iff] at *
    exact h.trans hx.reach
  · obtain ⟨d, hd⟩ := (Reach.right (h.reach))
    obtain ⟨e, hm, _⟩ := lk_some hd
    refine ⟨d, hm, ?_, ?_⟩
    · rw [overB_iff, e]; exact h
    · cases hb : overB l b d.name with
      | false => rfl
      | true => rw [overB_iff, e] at hb; exact absurd hb (ha b)
theorem rank_up {l : List Cla} (ha : Acy l) {a u : Str} {c d : Cla} (hc : lk l a = some c) (hu : u ∈ ups c) (hd : lk l u = some d) : rank l u < rank l a :=
  rank_lt ha ⟨c, hc, u, hu, .refl hd⟩
theorem chainN_more {l : List Cla} (ha : Acy l) : ∀ (f g : Nat) (n : Str), rank l n < f → rank l n < g → chainN (lk l) f n = chainN (lk l) g n := by
  intro f
  induction f with
  | zero => intro g n h; omega
  | succ f ih =>
    intro g n hf hg
    obtain ⟨g, rfl⟩ : ∃ m, g = m + 1 := ⟨g - 1, by omega⟩
    simp only [chainN]
    cases hc : lk l n with
    | none => rfl
    | some c =>
      simp only
      congr 1
      cases hd : lk l c.super with
      | none => cases f <;> cases g <;> simp [chainN, hd]
      | some d =>
        have := rank_up ha hc (by simp [ups]) hd
        exact ih g c.super (by omega) (by omega)
theorem chain_eq {l : List Cla} (ha : Acy l) (n : Str) : chain l n = match lk l n with | none => [] | some c => c :: chain l c.super := by
  have := rank_le l n
  unfold chain
  rw [chainN]
  cases hc : lk l n with
  | none => rfl
  | some c =>
    simp only
    congr 1
    cases hd : lk l c.super with
    | none => cases l.length <;> simp [chainN, hd]
    | some d =>
      have := rank_up ha hc (by simp [ups]) hd
      exact chainN_more ha _ _ _ (by omega) (by omega)
theorem chain_none {l : List Cla} {n : Str} (h : lk l n = none) : chain l n = [] := by simp [chain, chainN, h]
theorem findSome_congr {α β : Type} {f g : α → Option β} : ∀ {l : List α}, (∀ x ∈ l, f x = g x) → l.findSome? f = l.findSome? g
  | [], _ => rfl
  | a :: r, h => by
    rw [List.findSome?_cons, List.findSome?_cons, h a (by simp), findSome_congr fun x hx => h x (by simp [hx])]
theorem likedN_more {l : List Cla} (ha : Acy l) (n : Str) : ∀ (f g : Nat) (c : Cla), lk l c.name = some c → rank l c.name < f → rank l c.name < g → likedN (lk l) f c n = likedN (lk l) g c n := by
  intro f
  induction f with
  | zero => intro g c _ h; omega
  | succ f ih =>
    intro g c hc hf hg
    obtain ⟨g, rfl⟩ : ∃ m, g = m + 1 := ⟨g - 1, by omega⟩
    simp only [likedN]
    refine findSome_congr fun u hu => ?_
    cases hd : lk l u with
    | none => rfl
    | some d =>
      simp only
      cases ownM d n with
      | some m => rfl
      | none =>
        simp only
        have := rank_up ha hc (by simp [ups, hu]) hd
        have e := (lk_some hd).1
        exact ih g d (by rw [e]; exact hd) (by rw [e]; omega) (by rw [e]; omega)
def likedM (l : List Cla) (c : Cla) (n : Str) : Option (Str × Hm.Met) := likedN (lk l) (l.length + 1) c n
theorem likedM_eq {l : List Cla} (ha : Acy l) {c : Cla} (hc : lk l c.name = some c) (n : Str) : likedM l c n = c.like.findSome? fun u => match lk l u with
    | none => none
    | some d => match ownM d n with
      | some m => some (u, m)
      | none => likedM l d n := by
  have := rank_le l c.name
  unfold likedM
  rw [likedN]
  refine findSome_congr fun u hu => ?_
  cases hd : lk l u with
  | none => rfl
  | some d =>
    simp only
    cases ownM d n with
    | some m => rfl
    | none =>
      have := rank_up ha hc (by simp [ups, hu]) hd
      have e := (lk_some hd).1
      exact likedN_more ha n _ _ d (by rw [e]; exact hd) (by rw [e]; omega) (by rw [e]; omega)
theorem printN_more {l : List Cla} (ha : Acy l) : ∀ (f g : Nat) (n : Str), rank l n < f → rank l n < g → printN (lk l) f n = printN (lk l) g n := by
  intro f
  induction f with
  | zero => intro g n h; omega
  | succ f ih =>
    intro g n hf hg
    obtain ⟨g, rfl⟩ : ∃ m, g = m + 1 := ⟨g - 1, by omega⟩
    simp only [printN]
    cases hc : lk l n with
    | none => rfl
    | some c =>
      simp only
      have : printN (lk l) f c.super = printN (lk l) g c.super := by
        cases hd : lk l c.super with
        | none => cases f <;> cases g <;> simp [printN, hd]
        | some d =>
          have := rank_up ha hc (by simp [ups]) hd
          exact ih g c.super (by omega) (by omega)
      rw [this]
theorem printM_eq {l : List Cla} (ha : Acy l) (n : Str) : printM l n = match lk l n with
    | none => []
    | some c => if n = sRoot then [] else n ++ [40] ++ printM l c.super ++ [41] ++ c.fields.flatMap fldText ++ [46] := by
  have := rank_le l n
  unfold printM
  rw [printN]
  cases hc : lk l n with
  | none => rfl
  | some c =>
    simp only
    have : printN (lk l) l.length c.super = printN (lk l) (l.length + 1) c.super := by
      cases hd : lk l c.super with
      | none => cases l.length <;> simp [printN, hd]
      | some d =>
        have := rank_up ha hc (by simp [ups]) hd
        exact printN_more ha _ _ _ (by omega) (by omega)
    rw [this]
theorem printM_none {l : List Cla} {n : Str} (h : lk l n = none) : printM l n = [] := by simp [printM, printN, h]
def Own (l : List Cla) : Prop := (l.map (·.name)).Nodup
theorem Own.lk {l : List Cla} (h : Own l) {c : Cla} (hc : c ∈ l) : Go.Hm.lk l c.name = some c := by
  obtain ⟨d, hd⟩ := lk_of_mem hc
  obtain ⟨e, hm, i, hi, hd'⟩ := lk_some hd
  obtain ⟨j, hj, rfl⟩ := List.getElem_of_mem hc
  obtain ⟨hil, he⟩ := List.getElem?_eq_some_iff.1 hd'
  have : i = j := by
    have h1 : (l.map (·.name))[i]'(by simpa using hil) = (l.map (·.name))[j]'(by simpa using hj) := by simp [he, e]
    exact (List.getElem_inj h).1 h1
  subst this
  rw [hd, ← he]
theorem Own.find {l : List Cla} (h : Own l) {i : Nat} {c : Cla} (hc : l[i]? = some c) : findC l c.name = some i := by
  obtain ⟨hi, rfl⟩ := List.getElem?_eq_some_iff.1 hc
  have := h.lk (List.getElem_mem hi)
  obtain ⟨e, hm, j, hj, hd⟩ := lk_some this
  obtain ⟨hjl, he⟩ := List.getElem?_eq_some_iff.1 hd
  have : j = i := by
    have h1 : (l.map (·.name))[j]'(by simpa using hjl) = (l.map (·.name))[i]'(by simpa using hi) := by simp [he]
    exact (List.getElem_inj h).1 h1
  rw [hj, this]
end Go.Hm

set_option autoImplicit false
set_option linter.unusedSimpArgs false
set_option linter.unusedVariables false
namespace Go.Emb
open Go.RowKit Go.Hm
variable {P : Program} {w w0 w1 w' w'' : World} {K : Value → World → Prop} {σ σ0 σ1 σ2 σ' : Store}
theorem Stp.join (h1 : Stp w σ w' σ1) (h2 : Stp w σ w' σ2) : ∃ σ3, Stp w σ w' σ3 ∧ SLe σ1 σ3 ∧ SLe σ2 σ3 := by
  have l1 : ∀ b o, σ1 b = some o → (fun b => (σ1 b).or (σ2 b)) b = some o := fun b o e => by simp [e]
  have l2 : ∀ b o, σ2 b = some o → (fun b => (σ1 b).or (σ2 b)) b = some o := by
    intro b o e
    cases hb : σ1 b with
    | none => simp [hb, e]
    | some p =>
      have a1 := h1.sat b p hb
      have a2 := h2.sat b o e
      rw [a1] at a2; cases a2; simp only [hb, Option.some_or]
  refine ⟨fun b => (σ1 b).or (σ2 b), ⟨h1.bel, ?_, fun b o e => l1 b o (h1.le b o e), ?_⟩, ⟨l1⟩, ⟨l2⟩⟩
  · intro b o e
    cases hb : σ1 b with
    | none => simp only [hb, Option.none_or] at e; exact h2.sat b o e
    | some p => simp only [hb, Option.some_or] at e; cases e; exact h1.sat b _ hb
  · intro b hb
    simp only [h1.old b hb, h2.old b hb]; cases σ b <;> rfl
theorem dop_f {Φ : Store → Value → Prop} {A rest : (Value → World → Prop) → Prop} (h : A (fun v w' => ∃ σ', Stp w σ w' σ' ∧ Φ σ' v)) (hr : rest (fun v w' => ∃ σ', Stp w σ w' σ' ∧ Φ σ' v)) : dop (fun w w' => Below w.heap.size w w') A rest :=
  dop_mk _ (fun _ _ _ ⟨σ', h1, h2⟩ hb => ⟨σ', h1.trans (Stp.of_below h1.sat hb), h2⟩) h hr
theorem dk_f {Φ : Store → Value → Prop} {v : Value} (h0 : Hst w σ w1 σ) (h : Stp w1 σ w' σ') (hv : Φ σ' v) : dk (fun w w' => Below w.heap.size w w') (fun v w' => ∃ σ', Stp w σ w' σ' ∧ Φ σ' v) w1 v w' :=
  ⟨h.bel, σ', h0.stp.trans h, hv⟩
theorem RMe.mk {m : Hm.Met} {pv cv hv : Value} (h1 : Sl 1 RStr σ pv m.params) (h2 : Sl 3 RIn σ cv m.code) (h3 : Sl 4 RCa σ hv m.catches) (h4 : m.name.length ≤ Big) (h5 : m.result.length ≤ Big) (h6 : In64 m.locals) : RMe σ m [S m.name, pv, S m.result, .bool m.abs, I m.locals, cv, hv] :=
  ⟨pv, cv, hv, rfl, h1, h2, h3, h4, h5, h6⟩
theorem RCl.mk {c : Cla} {lv fv mv : Value} (h1 : Sl 1 RStr σ lv c.like) (h2 : Sl 3 RFd σ fv c.fields) (h3 : Sl 7 RMe σ mv c.methods) (h4 : c.name.length ≤ Big) (h5 : c.super.length ≤ Big) : RCl σ c [S c.name, S c.super, lv, .bool c.iface, .bool c.abs, .bool c.fin, fv, mv] :=
  ⟨lv, fv, mv, rfl, h1, h2, h3, h4, h5⟩
end Go.Emb
namespace Go.Hm
def SmM (m : Hm.Met) : Prop := m.params.length ≤ 1000000 ∧ m.code.length ≤ 1000000 ∧ m.catches.length ≤ 1000000
def SmC (c : Cla) : Prop := c.like.length ≤ 1000000 ∧ c.fields.length ≤ 1000000 ∧ c.methods.length ≤ 1000000 ∧ ∀ m ∈ c.methods, SmM m
end Go.Hm
namespace Go.Proofs.YtdnfaboigajkhaaGreatDoor
open Go.Emb Go.RowKit Go.Kd Go.Hm
variable {w : World} {K : Value → World → Prop} {σ : Store}
theorem c_hmethod {m : Hm.Met} {cs : List Value} (hs : Sat w σ) (hm : RMe σ m cs) (hsm : SmM m)
    (h : ∀ pv cv hv w' σ', Stp w σ w' σ' → RMe σ' m [S m.name, pv, S m.result, .bool m.abs, I m.locals, cv, hv] → K (.agg [S m.name, pv, S m.result, .bool m.abs, I m.locals, cv, hv].toArray) w') : callF P F.hier_method [.agg cs.toArray] w K := r_hier_method (by
  obtain ⟨pv, cv, hv, rfl, g1, g2, g3, g4, g5, g6⟩ := hm
  obtain ⟨s1, s2, s3⟩ := hsm
  unfold g_hier_method
  refine x_boxm hs fun b w1 σ1 hb hk1 hm1 => ?_
  refine x_alcm hk1.sat fun b2 w2 σ2 hb2 hk2 hm2 => ?_
  have hlt := hm1.lt
  replace hm1 := hm1.step hk2
  have hs2 := hk2.sat
  have g1 := (g1.up hk1).up hk2
  have g2 := (g2.up hk1).up hk2
  have g3 := (g3.up hk1).up hk2
  have L : ∀ {w' : World} (i : Nat) (v : Value), [S m.name, pv, S m.result, .bool m.abs, I m.locals, cv, hv][i]? = some v → Hst w2 σ2 w' σ2 → w'.cell? ((⟨b, 0, none⟩ : Addr).add i) = some v := fun i v hv hh => (hm1.step hh.stp).cell hv
  refine dr_hst hs2 ?_
  refine dop_val (.pointer (some ((⟨b, 0, none⟩ : Addr).add 1))) (fun w hb => by rw [fa]; exact dk_same rfl) ?_
  refine dop_val (.pointer (some ((⟨b, 0, none⟩ : Addr).add 5))) (fun w hb => by rw [fa]; exact dk_same rfl) ?_
  refine dop_val (.pointer (some ((⟨b, 0, none⟩ : Addr).add 6))) (fun w hb => by rw [fa]; exact dk_same rfl) ?_
  refine dop_val pv (fun t w hb e => by rw [e]; exact ld_cell (L 1 pv rfl hb) (dk_same rfl)) ?_
  refine dop_f (Φ := fun σ' v => Sl 1 RStr σ' v m.params) (fun t w hb e => by rw [e]; exact c_Clone_string_string hb.sat g1 s1 fun v' w' σ' hk hv => dk_f hb hk hv) ?_
  refine dop_val cv (fun t w hb e => by rw [e]; exact ld_cell (L 5 cv rfl hb) (dk_same rfl)) ?_
  refine dop_f (Φ := fun σ' v => Sl 3 RIn σ' v m.code) (fun t w hb e => by rw [e]; exact c_Clone_api_Instr_api_Instr hb.sat g2 s2 fun v' w' σ' hk hv => dk_f hb hk hv) ?_
  refine dop_val hv (fun t w hb e => by rw [e]; exact ld_cell (L 6 hv rfl hb) (dk_same rfl)) ?_
  refine dop_val (.pointer (some ((⟨b, 0, none⟩ : Addr).add 1))) (fun w hb => by rw [fa]; exact dk_same rfl) ?_
  refine dop_f (Φ := fun σ' v => Sl 4 RCa σ' v m.catches) (fun t w hb e => by rw [e]; exact c_Clone_api_Catch_api_Catch hb.sat g3 s3 fun v' w' σ' hk hv => dk_f hb hk hv) ?_
  rintro t1 t2 t3 t4 t5 t6 t8 t9 t10 t11 w3 hb3 e1 e2 e3 e4 ⟨σ5, k5, f5⟩ e6 ⟨σ8, k8, f8⟩ e9 e10 ⟨σ11, k11, f11⟩
  subst e10
  obtain ⟨σa, ka, la1, la2⟩ := k5.join k8
  obtain ⟨σ3, k3, l1, l2⟩ := ka.join k11
  have f5 := (f5.lift la1).lift l1
  have f8 := (f8.lift la2).lift l1
  have f11 := f11.lift l2
  have hm1 := hm1.step k3
  have hm2 := hm2.step k3
  have hne : b2 ≠ b := by omega
  have hS := (hk1.trans hk2).trans k3
  refine st1 hm1 (by simp) (cells_sl f5) (one_sl f5) fun w4 u4 hm1 => ?_
  rw [fa]
  have hS := u4.stp hS hb hm1.1
  have hm2 := hm2.upd u4 hne
  refine st1 hm1 (by simp) (cells_sl f8) (one_sl f8) fun w5 u5 hm1 => ?_
  rw [fa]
  have hS := u5.stp hS hb hm1.1
  have hm2 := hm2.upd u5 hne
  refine st1 hm1 (by simp) (cells_sl f11) (one_sl f11) fun w6 u6 hm1 => ?_
  have hS := u6.stp hS hb hm1.1
  have hm2 := hm2.upd u6 hne
  refine ldma hm1 rfl ?_
  have hr := RMe.mk f5 f8 f11 g4 g5 g6
  have hb2' := own_le hb2 hk1
  refine sta hm2 rfl rfl (by rw [List.all_toArray]; exact List.all_eq_true.2 (Rep.one hr)) fun w7 u7 hm2 => ?_
  have hS := u7.stp hS hb2' hm2.1
  refine res_cells hm2 rfl ?_
  exact h t5 t8 t11 w7 σ3 hS hr)
theorem c_cloned {c : Cla} {cs : List Value} (hs : Sat w σ) (hc : RCl σ c cs) (hsm : SmC c)
    (h : ∀ lv fv mv w' σ', Stp w σ w' σ' → RCl σ' c [S c.name, S c.super, lv, .bool c.iface, .bool c.abs, .bool c.fin, fv, mv] → K (.agg [S c.name, S c.super, lv, .bool c.iface, .bool c.abs, .bool c.fin, fv, mv].toArray) w') : callF P F.hier_cloned [.agg cs.toArray] w K := r_hier_cloned (by
  obtain ⟨lv, fv, mv, rfl, g1, g2, g3, g4, g5⟩ := hc
  obtain ⟨s1, s2, s3, s4⟩ := hsm
  unfold g_hier_cloned
  refine x_boxm hs fun b w1 σ1 hb hk1 hm1 => ?_
  refine x_alcm hk1.sat fun b2 w2 σ2 hb2 hk2 hm2 => ?_
  have hlt := hm1.lt
  replace hm1 := hm1.step hk2
  have hs2 := hk2.sat
  have g1 := (g1.up hk1).up hk2
  have g2 := (g2.up hk1).up hk2
  have g3 := (g3.up hk1).up hk2
  have L : ∀ {w' : World} (i : Nat) (v : Value), [S c.name, S c.super, lv, .bool c.iface, .bool c.abs, .bool c.fin, fv, mv][i]? = some v → Hst w2 σ2 w' σ2 → w'.cell? ((⟨b, 0, none⟩ : Addr).add i) = some v := fun i v hv hh => (hm1.step hh.stp).cell hv
  refine dr_hst hs2 ?_
  refine dop_val (.pointer (some ((⟨b, 0, none⟩ : Addr).add 2))) (fun w hb => by rw [fa]; exact dk_same rfl) ?_
  refine dop_val (.pointer (some ((⟨b, 0, none⟩ : Addr).add 6))) (fun w hb => by rw [fa]; exact dk_same rfl) ?_
  refine dop_val lv (fun t w hb e => by rw [e]; exact ld_cell (L 2 lv rfl hb) (dk_same rfl)) ?_
  refine dop_f (Φ := fun σ' v => Sl 1 RStr σ' v c.like) (fun t w hb e => by rw [e]; exact c_Clone_string_string hb.sat g1 s1 fun v' w' σ' hk hv => dk_f hb hk hv) ?_
  refine dop_val fv (fun t w hb e => by rw [e]; exact ld_cell (L 6 fv rfl hb) (dk_same rfl)) ?_
  refine dop_val (.pointer (some ((⟨b, 0, none⟩ : Addr).add 2))) (fun w hb => by rw [fa]; exact dk_same rfl) ?_
  refine dop_f (Φ := fun σ' v => Sl 3 RFd σ' v c.fields) (fun t w hb e => by rw [e]; exact c_Clone_api_Field_api_Field hb.sat g2 s2 fun v' w' σ' hk hv => dk_f hb hk hv) ?_
  rintro t6 t9 t7 t8 t10 t12 t11 w3 hb3 e6 e9 e7 ⟨σ8, k8, f8⟩ e10 e12 ⟨σ11, k11, f11⟩
  subst e12
  obtain ⟨σ3, k3, l1, l2⟩ := k8.join k11
  have f8 := f8.lift l1
  have f11 := f11.lift l2
  have g3 := g3.up k3
  have hm1 := hm1.step k3
  have hm2 := hm2.step k3
  have hne : b2 ≠ b := by omega
  have hS := (hk1.trans hk2).trans k3
  refine st1 hm1 (by simp) (cells_sl f8) (one_sl f8) fun w4 u4 hm1 => ?_
  rw [fa]
  have hS := u4.stp hS hb hm1.1
  have hm2 := hm2.upd u4 hne
  refine st1 hm1 (by simp) (cells_sl f11) (one_sl f11) fun w5 u5 hm1 => ?_
  rw [fa]
  have hS := u5.stp hS hb hm1.1
  have hm2 := hm2.upd u5 hne
  refine ldm hm1 rfl ?_
  refine len_slK g3 ?_
  refine lp_up2 c.methods.length (fun n a w' => ∃ σ', Stp w σ w' σ' ∧ SLe σ3 σ' ∧ Acc w.heap.size T.api_Method 7 RMe σ' w' a (c.methods.take n) ∧ Mine σ' w' b [S c.name, S c.super, t8, .bool c.iface, .bool c.abs, .bool c.fin, t11, mv] ∧ Mine σ' w' b2 [S [], S [], .slice none 0 0, .bool false, .bool false, .bool false, .slice none 0 0, .slice none 0 0] ∧ ∀ k, a.ownBlock = some k → k ≠ b ∧ k ≠ b2)
    ⟨σ3, hS, SLe.refl _, Acc.nil, hm1, hm2, fun k hk => by cases hk⟩ fun n a w6 d hn hi => ?_
  obtain ⟨σ6, hS6, le6, ha, hm1, hm2, hne6⟩ := hi
  refine x_lss ?_
  refine cnd_split (fun hh => ?_) (fun hh => ?_)
  · have hn' : n < c.methods.length := by simpa using hh
    have hmax : c.methods.length ≤ 9223372036854775807 := by omega
    refine ix_slN (g3.lift le6) hn' fun p cs hl hlen hr => ?_
    refine lda hS6.sat hl hlen ?_
    refine alc_st hS6.sat (by rfl) hlen (Rep.one hr) fun q w7 σ7 hk7 hq => ?_
    refine lda hk7.sat hq hlen ?_
    refine c_hmethod hk7.sat (Rep.up hk7.le hr) (s4 _ (List.getElem_mem hn')) fun pv cv hv w8 σ8 hk8 hr8 => ?_
    have hn8 := (Nxt.of_stp (D := fun k => a.ownBlock = some k) hk7).trans (Nxt.of_stp hk8)
    have ha8 := (ha.up hk7).up hk8
    have hlt1 := (hm1.nx hn8 fun e => (hne6 _ e).1 rfl).lt
    have hlt2 := (hm2.nx hn8 fun e => (hne6 _ e).2 rfl).lt
    refine x_app1 ((hS6.trans hk7).trans hk8) ha8 hr8 rfl rfl rfl (by rw [List.length_take]; omega) (by rw [List.length_take]; omega) fun s v' w9 σ9 hnx hS9 ha9 hat => ?_
    refine x_add ?_
    have hnx := hn8.trans hnx
    refine up_next2 hmax hn' ⟨σ9, hS9, le6.more hnx.le, ?_, hm1.nx hnx fun e => (hne6 _ e).1 rfl, hm2.nx hnx fun e => (hne6 _ e).2 rfl, ?_⟩
    · rw [List.take_add_one, List.getElem?_eq_getElem hn']; exact ha9
    · intro k hk
      rcases hat with hat | hat
      · exact hne6 k (hat ▸ hk)
      · have := hat k hk
        constructor <;> omega
  · have hn' : ¬ n < c.methods.length := by simpa using hh
    rw [List.take_of_length_le (by omega)] at ha
    obtain ⟨σ7, hS7, ha7, le7, old7⟩ := ha.keep hS6
    have hm1 : Mine σ7 w6 b _ := ⟨(old7 b fun e => (hne6 b e.symm).1 rfl).trans hm1.1, hm1.2⟩
    have hm2 : Mine σ7 w6 b2 _ := ⟨(old7 b2 fun e => (hne6 b2 e.symm).2 rfl).trans hm2.1, hm2.2⟩
    rw [fa]
    refine st1 hm1 (by simp) (cells_sl ha7) (one_sl ha7) fun w7 u7 hm1 => ?_
    have hS7 := u7.stp hS7 hb hm1.1
    have hm2 := hm2.upd u7 hne
    refine ldma hm1 rfl ?_
    have hr := RCl.mk (f8.lift (le6.more ⟨le7⟩)) (f11.lift (le6.more ⟨le7⟩)) ha7 g4 g5
    have hb2' := own_le hb2 hk1
    refine sta hm2 rfl rfl (by rw [List.all_toArray]; exact List.all_eq_true.2 (Rep.one hr)) fun w8 u8 hm2 => ?_
    have hS8 := u8.stp hS7 hb2' hm2.1
    refine res_cells hm2 rfl ?_
    exact h t8 t11 a w8 σ7 hS8 hr)
end Go.Proofs.YtdnfaboigajkhaaGreatDoor

set_option autoImplicit false
set_option linter.unusedSimpArgs false
set_option linter.unusedVariables false
namespace Go.Emb
open Go.RowKit Go.Hm
structure Tab (σ : Store) (v : Value) (l : List Cla) : Prop where
  ex : ∃ a lv r m, v = .pointer (some a) ∧ Lies σ a [lv, .map (some r)] ∧ Sl 8 RCl σ lv l ∧ LiesM σ r m ∧ ∀ n, lookS m n = (findC l n).map (fun i : Nat => I (i : Int))
theorem Tab.lift {σ0 σ : Store} {v : Value} {l : List Cla} (h : Tab σ0 v l) (k : SLe σ0 σ) : Tab σ v l := by
  obtain ⟨a, lv, r, m, h0, h1, h2, h3, h4⟩ := h.ex
  exact ⟨a, lv, r, m, h0, h1.lift k, h2.lift k, h3.lift k, h4⟩
end Go.Emb
namespace Go.Proofs.YtdnfaboigajkhaaGreatDoor
open Go.Emb Go.RowKit Go.Kd Go.Hm
variable {w : World} {K : Value → World → Prop} {σ : Store} {v : Value} {l : List Cla}
theorem c_has {n : Str} (hs : Sat w σ) (ht : Tab σ v l) (h : K (.bool (hasM l n)) w) : callF P F.P_hier_Table_has [v, S n] w K := r_P_hier_Table_has (by
  obtain ⟨a, lv, r, m, rfl, t1, t2, t3, t4⟩ := ht.ex
  unfold g_P_hier_Table_has
  rw [nil_ck, fa]
  refine ld hs t1 rfl ?_
  rw [look_map u_string (t3.is hs) n, t4 n]
  unfold hasM at h
  cases hf : findC l n <;> rw [hf] at h <;> ((try simp only [Option.map_some, Option.map_none]); (try simp only [↓Mm, Mm, ↓Mr, Mr, Mb, reduceIte]); exact h))
theorem c_class {n : Str} {c : Cla} (hs : Sat w σ) (ht : Tab σ v l) (hc : lk l n = some c)
    (h : ∀ lv fv mv w' σ', Stp w σ w' σ' → Sl 1 RStr σ' lv c.like → Sl 3 RFd σ' fv c.fields → Sl 7 RMe σ' mv c.methods → c.name.length ≤ Big → c.super.length ≤ Big → RCl σ' c [S c.name, S c.super, lv, .bool c.iface, .bool c.abs, .bool c.fin, fv, mv] →
      K (.agg [S c.name, S c.super, lv, .bool c.iface, .bool c.abs, .bool c.fin, fv, mv].toArray) w') : callF P F.P_hier_Table_class [v, S n] w K := r_P_hier_Table_class (by
  obtain ⟨a, lv, r, m, rfl, t1, t2, t3, t4⟩ := ht.ex
  obtain ⟨_, _, i, hi, hli⟩ := lk_some hc
  obtain ⟨hil, rfl⟩ := List.getElem?_eq_some_iff.1 hli
  unfold g_P_hier_Table_class
  refine x_alcm hs fun b w1 σ1 hb hk1 hm1 => ?_
  refine dr_hst hk1.sat ?_
  refine dop_val (.pointer (some a)) (fun w hb => by rw [nil_ck]; exact dk_same rfl) ?_
  refine dop_val (.pointer (some (a.add 0))) (fun t w hb e => by rw [e, fa]; exact dk_same rfl) ?_
  refine dop_val (.pointer (some a)) (fun w hb => by rw [nil_ck]; exact dk_same rfl) ?_
  refine dop_val (.pointer (some (a.add 1))) (fun t w hb e => by rw [e, fa]; exact dk_same rfl) ?_
  refine dop_val lv (fun t w hb e => by rw [e]; exact ld hb.sat (t1.up hk1) rfl (dk_same rfl)) ?_
  refine dop_val (.map (some r)) (fun t w hb e => by rw [e]; exact ld hb.sat (t1.up hk1) rfl (dk_same rfl)) ?_
  refine dop_val (I i) (fun t w hb e => by rw [e, look_map1 u_string ((t3.up hk1).is hb.sat) n, t4 n, hi]; exact dk_same rfl) ?_
  rintro t6 t7 t10 t11 t8 t12 t14 w2 hb2 rfl rfl rfl rfl e8 rfl rfl
  subst e8
  have hm2 := hm1.step hb2.stp
  refine ix_slN (t2.up hk1) hil fun p cs hl hlen hr => ?_
  refine lda hb2.sat hl hlen ?_
  have hr0 := hr
  obtain ⟨lv', fv, mv, rfl, g1, g2, g3, g4, g5⟩ := hr
  refine x_sta hm2 (hk1.trans hb2.stp) hb rfl rfl (Rep.one hr0) fun w3 hS3 hm3 => ?_
  refine res_cells hm3 rfl ?_
  exact h _ _ _ w3 σ1 hS3.stp g1 g2 g3 g4 g5 hr0)
theorem c_has0 {n : Str} (hs : Sat w σ) (ht : Tab σ v l) (hd : lk l n = none) (h : K (.bool false) w) : callF P F.P_hier_Table_has [v, S n] w K := c_has hs ht (by rw [hasM_lk, hd]; exact h)
theorem c_has1 {n : Str} {d : Cla} (hs : Sat w σ) (ht : Tab σ v l) (hd : lk l n = some d) (h : K (.bool true) w) : callF P F.P_hier_Table_has [v, S n] w K := c_has hs ht (by rw [hasM_lk, hd]; exact h)
theorem c_uppers {c : Cla} {cs : List Value} (hs : Sat w σ) (ht : Tab σ v l) (hc : RCl σ c cs) (h : ∀ w' σ', Stp w σ w' σ' → K (I (uppersM l c)) w') : callF P F.P_hier_Table_uppers [v, .agg cs.toArray] w K := r_P_hier_Table_uppers (by
  obtain ⟨lv, fv, mv, rfl, g1, g2, g3, g4, g5⟩ := hc
  unfold g_P_hier_Table_uppers
  unfold uppersM at h
  cases hd : lk l c.super with
  | none =>
    simp only [superBad, hd, if_true] at h
    (repeat' (first | (with_reducible intro _) | (with_reducible refine jn_in ?_) | (simp only [↓Mm, Mm, ↓Mp, Mp, Mb, reduceIte]) | (with_reducible first | refine ld aS aL aR ?_ | refine ld0 aS aL aR ?_ | refine lda aS aL aR ?_ | refine len_slK aL ?_ | refine x_fld aR ?_ | refine x_box aS ?_ | refine x_slb aS aL ?_ | refine x_box1 aS aR ?_ | refine alc_st aS aR aR (Rep.one (by assumption)) ?_ | refine alc_st1 aS aR aR aR ?_ | refine c_has0 au au au ?_ | (refine gop_split (fun hh => ?_) (fun hh => ?_) <;> (try simp only [hh, Bool.not_true, Bool.not_false, ↓Mm, Mm, ↓Mp, Mp, Mb, reduceIte])) | (refine cnd_split (fun hh => ?_) (fun hh => ?_) <;> (try simp only [hh, Bool.not_true, Bool.not_false, ↓Mm, Mm, ↓Mp, Mp, Mb, reduceIte])))))
    all_goals (refine Eq.subst (motive := fun b => K b _) ?_ (h _ _ (by (repeat (first | exact Stp.refl (by (first | assumption | exact Stp.sat (by assumption) | exact Hst.sat (by assumption))) | assumption | refine Stp.trans ?_ (by first | assumption | exact Hst.stp (by assumption)))))); clear h; (try clear hA); (try clear hB); (try clear hC); first | rfl | ((try simp only [Bool.not_eq_true', Bool.not_eq_false', Bool.not_true, Bool.not_false, Bool.not_eq_true] at *); simp only [*, Mb, reduceIte]; done) | (simp [*]; done) | simp_all)
  | some d =>
    simp only [superBad, hd] at h
    obtain ⟨dn, ds, dl, di, da, df, dfs, dms⟩ := d
    cases di <;> cases df
    · simp only [Bool.or_self, Bool.false_eq_true, if_false] at h
      (repeat' (first | (with_reducible intro _) | (with_reducible refine jn_in ?_) | (simp only [↓Mm, Mm, ↓Mp, Mp, Mb, reduceIte]) | (with_reducible first | refine ld aS aL aR ?_ | refine ld0 aS aL aR ?_ | refine lda aS aL aR ?_ | refine len_slK aL ?_ | refine x_fld aR ?_ | refine x_box aS ?_ | refine x_slb aS aL ?_ | refine x_box1 aS aR ?_ | refine alc_st aS aR aR (Rep.one (by assumption)) ?_ | refine alc_st1 aS aR aR aR ?_ | refine c_has1 au au au ?_ | refine c_class au au au ?_ | (refine gop_split (fun hh => ?_) (fun hh => ?_) <;> (try simp only [hh, Bool.not_true, Bool.not_false, ↓Mm, Mm, ↓Mp, Mp, Mb, reduceIte])) | (refine cnd_split (fun hh => ?_) (fun hh => ?_) <;> (try simp only [hh, Bool.not_true, Bool.not_false, ↓Mm, Mm, ↓Mp, Mp, Mb, reduceIte])))))
      rename_i w3 σ3 hk3 _ _ _ _ _ _
      have hS : Stp w σ w3 σ3 := by (repeat (first | exact Stp.refl (by (first | assumption | exact Stp.sat (by assumption) | exact Hst.sat (by assumption))) | assumption | refine Stp.trans ?_ (by first | assumption | exact Hst.stp (by assumption))))
      refine lp_up c.like.length (fun n w' => ∃ σ', Stp w σ w' σ' ∧ SLe σ3 σ' ∧ ((c.like.take n).any (likeBad l)) = false) ⟨σ3, hS, SLe.refl _, by simp⟩ fun n w4 d hn hi => ?_
      obtain ⟨σ4, hS4, le4, hq⟩ := hi
      clear hk3
      refine x_lss ?_
      refine cnd_split (fun hh => ?_) (fun hh => ?_)
      · have hn' : n < c.like.length := by simpa using hh
        have hmax : c.like.length ≤ 9223372036854775807 := g1.max
        refine ix_Str (by (first | assumption | exact Sl.lift (by assumption) (by (repeat (first | exact SLe.refl _ | refine SLe.more ?_ (by assumption) | refine SLe.more ?_ (Nxt.le (by assumption)) | refine SLe.step ?_ (by assumption)))) | exact Lies.lift (by assumption) (by (repeat (first | exact SLe.refl _ | refine SLe.more ?_ (by assumption) | refine SLe.more ?_ (Nxt.le (by assumption)) | refine SLe.step ?_ (by assumption)))) | exact LiesM.lift (by assumption) (by (repeat (first | exact SLe.refl _ | refine SLe.more ?_ (by assumption) | refine SLe.more ?_ (Nxt.le (by assumption)) | refine SLe.step ?_ (by assumption)))) | exact RCl_lift (by assumption) (by (repeat (first | exact SLe.refl _ | refine SLe.more ?_ (by assumption) | refine SLe.more ?_ (Nxt.le (by assumption)) | refine SLe.step ?_ (by assumption)))) | exact RMe_lift (by assumption) (by (repeat (first | exact SLe.refl _ | refine SLe.more ?_ (by assumption) | refine SLe.more ?_ (Nxt.le (by assumption)) | refine SLe.step ?_ (by assumption)))) | exact Glb.lift (by assumption) (by (repeat (first | exact SLe.refl _ | refine SLe.more ?_ (by assumption) | refine SLe.more ?_ (Nxt.le (by assumption)) | refine SLe.step ?_ (by assumption)))) | exact Tab.lift (by assumption) (by (repeat (first | exact SLe.refl _ | refine SLe.more ?_ (by assumption) | refine SLe.more ?_ (Nxt.le (by assumption)) | refine SLe.step ?_ (by assumption)))) | exact RIn_any (by assumption) | exact RFd_any (by assumption) | exact RCa_any (by assumption))) hn' fun p hl hbig => ?_
        have hq' := any_take_succ (p := likeBad l) hn'
        rw [hq] at hq'
        cases hx : lk l c.like[n] with
        | none =>
          simp only [any_of_lt (p := likeBad l) hn' (by simp only [likeBad, hx]), if_true] at h
          (repeat' (first | (with_reducible intro _) | (with_reducible refine jn_in ?_) | (simp only [↓Mm, Mm, ↓Mp, Mp, Mb, reduceIte]) | (with_reducible first | refine ld aS aL aR ?_ | refine ld0 aS aL aR ?_ | refine lda aS aL aR ?_ | refine len_slK aL ?_ | refine x_fld aR ?_ | refine x_box aS ?_ | refine x_slb aS aL ?_ | refine x_box1 aS aR ?_ | refine alc_st aS aR aR (Rep.one (by assumption)) ?_ | refine alc_st1 aS aR aR aR ?_ | refine c_has0 au au au ?_ | (refine gop_split (fun hh => ?_) (fun hh => ?_) <;> (try simp only [hh, Bool.not_true, Bool.not_false, ↓Mm, Mm, ↓Mp, Mp, Mb, reduceIte])) | (refine cnd_split (fun hh => ?_) (fun hh => ?_) <;> (try simp only [hh, Bool.not_true, Bool.not_false, ↓Mm, Mm, ↓Mp, Mp, Mb, reduceIte])))))
          all_goals (refine Eq.subst (motive := fun b => K b _) ?_ (h _ _ (by (repeat (first | exact Stp.refl (by (first | assumption | exact Stp.sat (by assumption) | exact Hst.sat (by assumption))) | assumption | refine Stp.trans ?_ (by first | assumption | exact Hst.stp (by assumption)))))); clear h; (try clear hA); (try clear hB); (try clear hC); first | rfl | ((try simp only [Bool.not_eq_true', Bool.not_eq_false', Bool.not_true, Bool.not_false, Bool.not_eq_true] at *); simp only [*, Mb, reduceIte]; done) | (simp [*]; done) | simp_all)
        | some x =>
          obtain ⟨xn, xs, xl, xi, xa, xf, xfs, xms⟩ := x
          cases xi
          · simp only [any_of_lt (p := likeBad l) hn' (by simp only [likeBad, hx]; rfl), if_true] at h
            (repeat' (first | (with_reducible intro _) | (with_reducible refine jn_in ?_) | (simp only [↓Mm, Mm, ↓Mp, Mp, Mb, reduceIte]) | (with_reducible first | refine ld aS aL aR ?_ | refine ld0 aS aL aR ?_ | refine lda aS aL aR ?_ | refine len_slK aL ?_ | refine x_fld aR ?_ | refine x_box aS ?_ | refine x_slb aS aL ?_ | refine x_box1 aS aR ?_ | refine alc_st aS aR aR (Rep.one (by assumption)) ?_ | refine alc_st1 aS aR aR aR ?_ | refine c_has1 au au au ?_ | refine c_class au au au ?_ | (refine gop_split (fun hh => ?_) (fun hh => ?_) <;> (try simp only [hh, Bool.not_true, Bool.not_false, ↓Mm, Mm, ↓Mp, Mp, Mb, reduceIte])) | (refine cnd_split (fun hh => ?_) (fun hh => ?_) <;> (try simp only [hh, Bool.not_true, Bool.not_false, ↓Mm, Mm, ↓Mp, Mp, Mb, reduceIte])))))
            all_goals (refine Eq.subst (motive := fun b => K b _) ?_ (h _ _ (by (repeat (first | exact Stp.refl (by (first | assumption | exact Stp.sat (by assumption) | exact Hst.sat (by assumption))) | assumption | refine Stp.trans ?_ (by first | assumption | exact Hst.stp (by assumption)))))); clear h; (try clear hA); (try clear hB); (try clear hC); first | rfl | ((try simp only [Bool.not_eq_true', Bool.not_eq_false', Bool.not_true, Bool.not_false, Bool.not_eq_true] at *); simp only [*, Mb, reduceIte]; done) | (simp [*]; done) | simp_all)
          · (repeat' (first | (with_reducible intro _) | (with_reducible refine jn_in ?_) | (simp only [↓Mm, Mm, ↓Mp, Mp, Mb, reduceIte]) | (with_reducible first | refine ld aS aL aR ?_ | refine ld0 aS aL aR ?_ | refine lda aS aL aR ?_ | refine len_slK aL ?_ | refine x_fld aR ?_ | refine x_box aS ?_ | refine x_slb aS aL ?_ | refine x_box1 aS aR ?_ | refine alc_st aS aR aR (Rep.one (by assumption)) ?_ | refine alc_st1 aS aR aR aR ?_ | refine c_has1 au au au ?_ | refine c_class au au au ?_ | (refine gop_split (fun hh => ?_) (fun hh => ?_) <;> (try simp only [hh, Bool.not_true, Bool.not_false, ↓Mm, Mm, ↓Mp, Mp, Mb, reduceIte])) | (refine cnd_split (fun hh => ?_) (fun hh => ?_) <;> (try simp only [hh, Bool.not_true, Bool.not_false, ↓Mm, Mm, ↓Mp, Mp, Mb, reduceIte])))))
            refine up_next hmax hn' ⟨_, by (repeat (first | exact Stp.refl (by (first | assumption | exact Stp.sat (by assumption) | exact Hst.sat (by assumption))) | assumption | refine Stp.trans ?_ (by first | assumption | exact Hst.stp (by assumption)))), by (repeat (first | exact SLe.refl _ | refine SLe.more ?_ (by assumption) | refine SLe.more ?_ (Nxt.le (by assumption)) | refine SLe.step ?_ (by assumption))), by rw [hq']; simp only [likeBad, hx]; rfl⟩
      · have hn' : ¬ n < c.like.length := by simpa using hh
        rw [any_take_all hn'] at hq
        simp only [hq, Bool.false_eq_true, if_false] at h
        exact h _ _ hS4
    all_goals
      simp only [Bool.or_self, Bool.or_true, Bool.true_or, if_true] at h
      (repeat' (first | (with_reducible intro _) | (with_reducible refine jn_in ?_) | (simp only [↓Mm, Mm, ↓Mp, Mp, Mb, reduceIte]) | (with_reducible first | refine ld aS aL aR ?_ | refine ld0 aS aL aR ?_ | refine lda aS aL aR ?_ | refine len_slK aL ?_ | refine x_fld aR ?_ | refine x_box aS ?_ | refine x_slb aS aL ?_ | refine x_box1 aS aR ?_ | refine alc_st aS aR aR (Rep.one (by assumption)) ?_ | refine alc_st1 aS aR aR aR ?_ | refine c_has1 au au au ?_ | refine c_class au au au ?_ | (refine gop_split (fun hh => ?_) (fun hh => ?_) <;> (try simp only [hh, Bool.not_true, Bool.not_false, ↓Mm, Mm, ↓Mp, Mp, Mb, reduceIte])) | (refine cnd_split (fun hh => ?_) (fun hh => ?_) <;> (try simp only [hh, Bool.not_true, Bool.not_false, ↓Mm, Mm, ↓Mp, Mp, Mb, reduceIte])))))
      all_goals (refine Eq.subst (motive := fun b => K b _) ?_ (h _ _ (by (repeat (first | exact Stp.refl (by (first | assumption | exact Stp.sat (by assumption) | exact Hst.sat (by assumption))) | assumption | refine Stp.trans ?_ (by first | assumption | exact Hst.stp (by assumption)))))); clear h; (try clear hA); (try clear hB); (try clear hC); first | rfl | ((try simp only [Bool.not_eq_true', Bool.not_eq_false', Bool.not_true, Bool.not_false, Bool.not_eq_true] at *); simp only [*, Mb, reduceIte]; done) | (simp [*]; done) | simp_all))
end Go.Proofs.YtdnfaboigajkhaaGreatDoor

set_option autoImplicit false
set_option linter.unusedSimpArgs false
set_option linter.unusedVariables false
namespace Go.Hm
open Go.Kd
def swapN {α : Type} : Nat → List α → List α
  | 0, xs => xs
  | i + 1, xs => match (swapN i xs)[i]?, (swapN i xs)[xs.length - 1 - i]? with
    | some a, some b => ((swapN i xs).set i b).set (xs.length - 1 - i) a
    | _, _ => swapN i xs
theorem swapN_get {α : Type} (xs : List α) : ∀ i, 2 * i ≤ xs.length → (swapN i xs).length = xs.length ∧ ∀ k, k < xs.length → (swapN i xs)[k]? = if k < i ∨ xs.length - 1 - k < i then xs[xs.length - 1 - k]? else xs[k]?
  | 0, _ => ⟨rfl, fun k hk => by simp [swapN]⟩
  | i + 1, h => by
    obtain ⟨hl, hg⟩ := swapN_get xs i (by omega)
    have h1 := hg i (by omega)
    have h2 := hg (xs.length - 1 - i) (by omega)
    rw [if_neg (by omega)] at h1 h2
    have hi : i < xs.length := by omega
    have hi2 : xs.length - 1 - i < xs.length := by omega
    rw [List.getElem?_eq_getElem (l := xs) hi] at h1
    rw [List.getElem?_eq_getElem (l := xs) hi2] at h2
    simp only [swapN, h1, h2]
    refine ⟨by simp [hl], fun k hk => ?_⟩
    by_cases hk1 : k = xs.length - 1 - i
    · subst hk1
      rw [List.getElem?_set_self (by simp [hl]; omega), if_pos (by omega)]
      rw [show xs.length - 1 - (xs.length - 1 - i) = i by omega, List.getElem?_eq_getElem (by omega)]
    · rw [List.getElem?_set_ne (by omega)]
      by_cases hk2 : k = i
      · subst hk2
        rw [List.getElem?_set_self (by omega), if_pos (by omega), List.getElem?_eq_getElem (by omega)]
      · rw [List.getElem?_set_ne (by omega), hg k hk]
        by_cases hc : k < i ∨ xs.length - 1 - k < i
        · rw [if_pos hc, if_pos (by omega)]
        · rw [if_neg hc, if_neg (by omega)]
theorem swapN_rev {α : Type} (xs : List α) (i : Nat) (h1 : 2 * i ≤ xs.length) (h2 : xs.length ≤ 2 * i + 1) : swapN i xs = xs.reverse := by
  obtain ⟨hl, hg⟩ := swapN_get xs i h1
  apply List.ext_getElem?
  intro k
  by_cases hk : k < xs.length
  · rw [hg k hk, List.getElem?_reverse hk]
    by_cases hc : k < i ∨ xs.length - 1 - k < i
    · rw [if_pos hc]
    · rw [if_neg hc]; congr 1; omega
  · rw [List.getElem?_eq_none (by omega), List.getElem?_eq_none (by simp; omega)]
theorem chainN_len (L : Look) : ∀ (f : Nat) (n : Str), (chainN L f n).length ≤ f
  | 0, _ => by simp [chainN]
  | f + 1, n => by
    simp only [chainN]
    split
    · simp
    · have := chainN_len L f (by rename_i c _; exact c.super)
      simp only [List.length_cons]; rename_i c _ ; have := chainN_len L f c.super; omega
theorem chain_len (l : List Cla) (n : Str) : (chain l n).length ≤ l.length + 1 := chainN_len _ _ _
theorem chain_mem {l : List Cla} {n : Str} {c : Cla} (h : c ∈ chain l n) : c ∈ l := by
  have key : ∀ (f : Nat) (n : Str), c ∈ chainN (lk l) f n → c ∈ l := by
    intro f
    induction f with
    | zero => intro n h; simp [chainN] at h
    | succ f ih =>
      intro n h
      simp only [chainN] at h
      split at h
      · simp at h
      · rename_i d hd
        rcases List.mem_cons.1 h with rfl | h
        · exact (lk_some hd).2.1
        · exact ih _ h
  exact key _ _ h
theorem flatMap_len {α β : Type} (f : α → List β) (k : Nat) : ∀ (xs : List α), (∀ x ∈ xs, (f x).length ≤ k) → (xs.flatMap f).length ≤ xs.length * k
  | [], _ => by simp
  | x :: r, h => by
    have h1 := h x (by simp)
    have h2 := flatMap_len f k r fun y hy => h y (by simp [hy])
    simp only [List.flatMap_cons, List.length_append, List.length_cons, Nat.add_mul]; omega
end Go.Hm

set_option autoImplicit false
set_option linter.unusedSimpArgs false
set_option linter.unusedVariables false
namespace Go.Emb
open Go.RowKit Go.Hm
variable {P : Program} {w w0 w1 w' w'' : World} {K : Value → World → Prop} {σ σ0 σ1 σ' : Store}
theorem cell_below {a : Addr} {v : Value} (h : w.cell? a = some v) (hb : Below w.heap.size w w') : w'.cell? a = some v := by
  rw [← h]; exact World.cell?_of_block (hb.block a.block (World.block_lt_of_cell? _ _ h))
def Ptr {α : Type} (sz : Nat) (R : Store → α → List Value → Prop) (σ : Store) (x : α) (p : Value) (w : World) : Prop :=
  ∃ a cs, p = .pointer (some a) ∧ (∀ j u, cs[j]? = some u → w.cell? (a.add j) = some u) ∧ cs.length = sz ∧ R σ x cs
theorem Ptr.below {α : Type} {sz : Nat} {R : Store → α → List Value → Prop} {x : α} {p : Value} (h : Ptr sz R σ x p w) (hb : Below w.heap.size w w') : Ptr sz R σ x p w' := by
  obtain ⟨a, cs, h1, h2, h3⟩ := h
  exact ⟨a, cs, h1, fun j u hu => cell_below (h2 j u hu) hb, h3⟩
end Go.Emb
namespace Go.Proofs.YtdnfaboigajkhaaGreatDoor
open Go.Emb Go.RowKit Go.Kd Go.Hm
variable {w : World} {K : Value → World → Prop} {σ : Store} {v : Value} {l : List Cla}
theorem c_Reverse {w0 : World} {σ0 : Store} {xs : List Cla} (hS : Stp w0 σ0 w σ) (ha : Acq w0.heap.size T.api_Class 8 RCl σ w v xs)
    (h : ∀ w', Kpt (fun k => v.ownBlock = some k) w w' → Stp w0 σ0 w' σ → Acq w0.heap.size T.api_Class 8 RCl σ w' v xs.reverse → K (.tuple #[]) w') : callF P F.slices_Reverse_S_api_Class_api_Class [v] w K := r_slices_Reverse_S_api_Class_api_Class (by
  unfold g_slices_Reverse_S_api_Class_api_Class
  have hmax : xs.length ≤ 9223372036854775807 := by
    obtain ⟨a, cap, _, h1, h2, _⟩ := ha
    simp only [maxLen] at h2; omega
  refine q_len ha ?_
  refine x_sub64 ⟨by omega, by omega⟩ ?_
  refine lp_mk (fun x w' => ∃ i : Nat, x = (I i, I ((xs.length : Int) - 1 - i)) ∧ 2 * i ≤ xs.length ∧ Kpt (fun k => v.ownBlock = some k) w w' ∧ Stp w0 σ0 w' σ ∧ Acq w0.heap.size T.api_Class 8 RCl σ w' v (swapN i xs)) (fun x _ => match x.2 with | .int _ n => (n + 1).toNat | _ => 0) ⟨0, by simp, by omega, Kpt.refl, hS, ha⟩ ?_
  rintro _ d w1 ⟨i, rfl, hi, hk, hS1, ha1⟩
  obtain ⟨hlen, hget⟩ := swapN_get xs i hi
  refine x_lss ?_
  refine cnd_split (fun hh => ?_) (fun hh => ?_)
  · have hlt : (i : Int) < (xs.length : Int) - 1 - i := by simpa using hh
    have ej : ((xs.length : Int) - 1 - i) = ((xs.length - 1 - i : Nat) : Int) := by omega
    have hil : i < (swapN i xs).length := by omega
    have hjl : xs.length - 1 - i < (swapN i xs).length := by omega
    refine dr_hst hS1.sat ?_
    refine dop_mk (Ptr 8 RCl σ (swapN i xs)[xs.length - 1 - i]) (fun _ _ _ h hb => h.below hb) (fun w hb => ?_) ?_
    · simp only [ej]
      exact q_ix (ha1.step hb.stp) hjl fun a cs h1 h2 h3 => ⟨Below.refl _ _, a, cs, rfl, h1, h2, h3⟩
    refine dop_mk (Ptr 8 RCl σ (swapN i xs)[i]) (fun _ _ _ h hb => h.below hb) (fun w hb => ?_) ?_
    · exact q_ix (ha1.step hb.stp) hil fun a cs h1 h2 h3 => ⟨Below.refl _ _, a, cs, rfl, h1, h2, h3⟩
    refine dop_mk (fun v _ => ∃ cs : List Value, v = .agg cs.toArray ∧ cs.length = 8 ∧ RCl σ (swapN i xs)[xs.length - 1 - i] cs) (fun _ _ _ h _ => h) (fun t w hb e => ?_) ?_
    · obtain ⟨a, cs, rfl, h1, h2, h3⟩ := e
      exact ld_cells h2 h1 ⟨Below.refl _ _, cs, rfl, h2, h3⟩
    refine dop_mk (fun v _ => ∃ cs : List Value, v = .agg cs.toArray ∧ cs.length = 8 ∧ RCl σ (swapN i xs)[i] cs) (fun _ _ _ h _ => h) (fun t w hb e => ?_) ?_
    · obtain ⟨a, cs, rfl, h1, h2, h3⟩ := e
      exact ld_cells h2 h1 ⟨Below.refl _ _, cs, rfl, h2, h3⟩
    rintro t20 t24 t21 t25 w2 hb2 _ _ ⟨cs, rfl, hc1, hc2⟩ ⟨ds, rfl, hd1, hd2⟩
    refine q_set (hS1.trans hb2.stp) (ha1.step hb2.stp) hil hc1 hc2 (Rep.one hc2) fun p u w3 hk3 hS3 ha3 => ?_
    simp only [ej]
    refine q_set hS3.stp ha3 (by simpa using hjl) hd1 hd2 (Rep.one hd2) fun p u w4 hk4 hS4 ha4 => ?_
    refine x_add64 ⟨by omega, by omega⟩ ?_
    refine x_sub64 ⟨by omega, by omega⟩ ?_
    refine ⟨⟨i + 1, by congr 1 <;> congr 1 <;> omega, by omega, ?_, hS4.stp, ?_⟩, ?_⟩
    · exact ((hk.trans (Kpt.of_below hb2.stp.bel)).trans hk3).trans hk4
    · have e1 : (swapN i xs)[i]? = some (swapN i xs)[i] := List.getElem?_eq_getElem hil
      have e2 : (swapN i xs)[xs.length - 1 - i]? = some (swapN i xs)[xs.length - 1 - i] := List.getElem?_eq_getElem hjl
      have : swapN (i + 1) xs = ((swapN i xs).set i (swapN i xs)[xs.length - 1 - i]).set (xs.length - 1 - i) (swapN i xs)[i] := by
        simp only [swapN, e1, e2]
      rw [this]; exact ha4
    · simp only; omega
  · have hge : ¬ (i : Int) < (xs.length : Int) - 1 - i := by simpa using hh
    rw [swapN_rev xs i hi (by omega)] at ha1
    exact h w1 hk hS1 ha1)
def sOf : Value → Str | .string b => b.data.toList | _ => []
theorem c_line {n : Str} (hs : Sat w σ) (ht : Tab σ v l) (ha : Acy l) (hl : l.length ≤ 100000) (h : ∀ v' w' σ', Stp w σ w' σ' → Acq w.heap.size T.api_Class 8 RCl σ' w' v' (chain l n).reverse → K v' w') : callF P F.P_hier_Table_line [v, S n] w K := r_P_hier_Table_line (by
  unfold g_P_hier_Table_line
  refine lp_mk (fun x w' => ∃ (s : Str) (dn : List Cla) (σ' : Store), x.2 = S s ∧ chain l n = dn ++ chain l s ∧ Stp w σ w' σ' ∧ Acc w.heap.size T.api_Class 8 RCl σ' w' x.1 dn) (fun x _ => (chain l (sOf x.2)).length)
    ⟨n, [], σ, rfl, rfl, Stp.refl hs, Acc.nil⟩ ?_
  rintro ⟨x1, _⟩ d w1 ⟨s, dn, σ1, rfl, he, hS1, ha1⟩
  have ht1 := ht.lift ⟨hS1.le⟩
  have hlen := chain_len l n
  have hs1 : sOf (S s) = s := by simp [sOf]
  simp only [hs1]
  cases hd : lk l s with
  | none =>
    refine c_has0 hS1.sat ht1 hd ?_
    refine x_cndF ?_
    rw [chain_none hd, List.append_nil] at he
    rw [← he] at ha1
    refine c_Reverse hS1 (Acq.of_acc ha1) fun w2 hk2 hS2 ha2 => ?_
    exact h _ _ _ hS2 ha2
  | some c =>
    refine c_has1 hS1.sat ht1 hd ?_
    refine x_cndT ?_
    refine c_class hS1.sat ht1 hd fun lv fv mv w2 σ2 hk2 f1 f2 f3 f4 f5 hr => ?_
    have hch := chain_eq ha s
    rw [hd] at hch
    simp only at hch
    have hdl : dn.length + 1 ≤ l.length + 1 := by
      have := congrArg List.length he
      rw [List.length_append, hch, List.length_cons] at this; omega
    refine x_app1 (hS1.trans hk2) (ha1.up hk2) hr rfl rfl rfl (by omega) (by omega) fun u v' w3 σ3 hn3 hS3 ha3 _ => ?_
    refine c_class hS3.sat (ht.lift ⟨hS3.le⟩) hd fun lv fv mv w4 σ4 hk4 f1 f2 f3 f4 f5 hr => ?_
    refine x_fld (v := S c.super) rfl ?_
    refine ⟨⟨c.super, dn ++ [c], σ4, rfl, ?_, hS3.trans hk4, ha3.up hk4⟩, ?_⟩
    · rw [he, hch]; simp
    · have : sOf (S c.super) = c.super := by simp [sOf]
      simp only [this, hch, List.length_cons]; omega)
theorem c_Fields {n : Str} (hs : Sat w σ) (ht : Tab σ v l) (ha : Acy l) (hl : l.length ≤ 100000) (hsm : ∀ c ∈ l, SmC c) (h : ∀ v' w' σ', Stp w σ w' σ' → Sl 3 RFd σ' v' (fieldsM l n) → K v' w') : callF P F.P_hier_Table_Fields [v, S n] w K := r_P_hier_Table_Fields (by
  unfold g_P_hier_Table_Fields
  refine c_line hs ht ha hl fun v1 w1 σ1 hk1 ha1 => ?_
  obtain ⟨σ2, hS2, hv2, le2, _⟩ := ha1.keep hk1
  generalize hcs : (chain l n).reverse = cs at *
  have hlen : cs.length ≤ l.length + 1 := by rw [← hcs, List.length_reverse]; exact chain_len l n
  have hcf : ∀ c ∈ cs, c.fields.length ≤ 1000000 := fun c hc => (hsm c (chain_mem (by rw [← hcs] at hc; simpa using hc))).2.1
  refine len_slK hv2 ?_
  refine lp_up2 cs.length (fun i a w' => ∃ σ', Stp w σ w' σ' ∧ SLe σ2 σ' ∧ Acc w.heap.size T.api_Field 3 RFd σ' w' a ((cs.take i).flatMap (·.fields))) ⟨σ2, hS2, SLe.refl _, Acc.nil⟩ fun i a w3 d hi hinv => ?_
  obtain ⟨σ3, hS3, le3, ha3⟩ := hinv
  refine x_lss ?_
  refine cnd_split (fun hh => ?_) (fun hh => ?_)
  · have hi' : i < cs.length := by simpa using hh
    refine ix_slN (hv2.lift le3) hi' fun p cells hl1 hl2 hr => ?_
    refine lda hS3.sat hl1 hl2 ?_
    refine alc_st hS3.sat (by rfl) hl2 (Rep.one hr) fun q w4 σ4 hk4 hq => ?_
    obtain ⟨lv, fv, mv, rfl, f1, f2, f3, f4, f5⟩ := hr
    rw [fa]
    refine ld hk4.sat hq rfl ?_
    have hfl := flatMap_len (fun c : Cla => c.fields) 1000000 (cs.take i) fun c hc => hcf c (List.mem_of_mem_take hc)
    rw [List.length_take] at hfl
    have hci := hcf cs[i] (List.getElem_mem hi')
    have hmul : min i cs.length * 1000000 ≤ 100000 * 1000000 := Nat.mul_le_mul_right _ (by omega)
    refine x_app (hS3.trans hk4) (ha3.up hk4) (f2.up hk4) rfl (by omega) (by omega) fun v' w5 hn5 hS5 ha5 _ => ?_
    refine x_add ?_
    refine up_next2 (by omega) hi' ⟨σ4, hS5, le3.more ⟨hk4.le⟩, ?_⟩
    rw [List.take_add_one, List.getElem?_eq_getElem hi', List.flatMap_append]
    simpa using ha5
  · have hi' : ¬ i < cs.length := by simpa using hh
    rw [List.take_of_length_le (by omega)] at ha3
    obtain ⟨σ4, hS4, hv4, le4, _⟩ := ha3.keep hS3
    refine h _ _ _ hS4 ?_
    unfold fieldsM
    rw [hcs]; exact hv4)
theorem c_Place {n f : Str} (hs : Sat w σ) (ht : Tab σ v l) (ha : Acy l) (hl : l.length ≤ 100000) (hsm : ∀ c ∈ l, SmC c) (h : ∀ w' σ', Stp w σ w' σ' → K (I (idxI (placeM l n f))) w') : callF P F.P_hier_Table_Place [v, S n, S f] w K := r_P_hier_Table_Place (by
  unfold g_P_hier_Table_Place
  refine x_box1 hs rfl fun q w1 σ1 hk1 hq => ?_
  refine c_Fields hk1.sat (ht.lift ⟨hk1.le⟩) ha hl hsm fun v' w2 σ2 hk2 hv2 => ?_
  rw [mk_func]
  refine c_IndexFunc_api_Field (fun x => decide (x.name = f)) hk2.sat hv2 (fun x cs w3 K _ hs3 hr hl hK => callV_func (r_P_hier_Table_Place_1 ?_)) fun w3 hb => ?_
  · obtain ⟨rfl, _⟩ := hr
    unfold g_P_hier_Table_Place_1
    have hq2 := hq.up hk2
    refine x_box hs3 fun a w4 σ4 hk4 ha4 => ?_
    (repeat' (first | (with_reducible intro _) | (with_reducible refine jn_in ?_) | (simp only [↓Mm, Mm, ↓Mp, Mp, Mb, reduceIte]) | (with_reducible first | refine ld aS aL aR ?_ | refine ld0 aS aL aR ?_ | refine lda aS aL aR ?_ | refine len_slK aL ?_ | refine x_fld aR ?_ | refine x_box aS ?_ | refine x_slb aS aL ?_ | refine x_box1 aS aR ?_ | refine alc_st aS aR aR (Rep.one (by assumption)) ?_ | refine alc_st1 aS aR aR aR ?_ | (refine gop_split (fun hh => ?_) (fun hh => ?_) <;> (try simp only [hh, Bool.not_true, Bool.not_false, ↓Mm, Mm, ↓Mp, Mp, Mb, reduceIte])) | (refine cnd_split (fun hh => ?_) (fun hh => ?_) <;> (try simp only [hh, Bool.not_true, Bool.not_false, ↓Mm, Mm, ↓Mp, Mp, Mb, reduceIte])))))
    exact hK _ hk4.bel
  · exact h _ _ ((hk1.trans hk2).trans (Stp.of_below hk2.sat hb)))
end Go.Proofs.YtdnfaboigajkhaaGreatDoor

set_option autoImplicit false
set_option linter.unusedSimpArgs false
set_option linter.unusedVariables false
namespace Go.Hm
open Go.Kd
theorem find_idx {α : Type} (p : α → Bool) : ∀ xs : List α, xs.find? p = (xs.findIdx? p).bind (xs[·]?)
  | [] => rfl
  | x :: r => by
    rw [List.find?_cons, List.findIdx?_cons]
    cases p x with
    | true => rfl
    | false =>
      simp only [Bool.false_eq_true, if_false]
      rw [find_idx p r]
      cases r.findIdx? p <;> simp
def Full (l : List Cla) : Prop := ∀ c ∈ l, ∀ u ∈ c.like, ∃ d, lk l u = some d
def Nm (c : Cla) : Prop := c.name.length ≤ 100 ∧ (∀ f ∈ c.fields, f.name.length ≤ 100 ∧ f.kind.length ≤ 100) ∧ ∀ m ∈ c.methods, m.result.length ≤ 100 ∧ ∀ p ∈ m.params, p.length ≤ 100
structure Ok (l : List Cla) : Prop where
  acy : Acy l
  len : l.length ≤ 100000
  sm : ∀ c ∈ l, SmC c
  full : Full l
  nm : ∀ c ∈ l, Nm c
abbrev oM (o : Option Hm.Met) : Hm.Met := o.getD Hm.Met.zero
abbrev o1 (o : Option (Str × Hm.Met)) : Str := (o.map (·.1)).getD []
abbrev o2 (o : Option (Str × Hm.Met)) : Hm.Met := (o.map (·.2)).getD Hm.Met.zero
theorem find_take_succ {α β : Type} {xs : List α} {f : α → Option β} {n : Nat} (h : n < xs.length) (hn : (xs.take n).findSome? f = none) : (xs.take (n + 1)).findSome? f = f xs[n] := by
  rw [List.take_add_one, List.getElem?_eq_getElem h, List.findSome?_append, hn]; simp
theorem find_of_take {α β : Type} {xs : List α} {f : α → Option β} {n : Nat} {y : β} (h : n < xs.length) (hn : (xs.take n).findSome? f = none) (hy : f xs[n] = some y) : xs.findSome? f = some y := by
  have := find_take_succ h hn
  rw [hy] at this
  rw [← List.take_append_drop (n + 1) xs, List.findSome?_append, this]; rfl
end Go.Hm
namespace Go.Proofs.YtdnfaboigajkhaaGreatDoor
open Go.Emb Go.RowKit Go.Kd Go.Hm
variable {w : World} {K : Value → World → Prop} {σ : Store} {v : Value} {l : List Cla}
theorem rme_zero : RMe σ Hm.Met.zero [S [], .slice none 0 0, S [], .bool false, I 0, .slice none 0 0, .slice none 0 0] :=
  ⟨_, _, _, rfl, Sl.nil, Sl.nil, Sl.nil, by decide, by decide, by decide, by decide⟩
theorem bld_met (h : K (.agg [S [], .slice none 0 0, S [], .bool false, I 0, .slice none 0 0, .slice none 0 0].toArray) w) : bld P T.api_Method [] w K := bld_of (by kernel_rfl) h
theorem c_own {c : Cla} {cs : List Value} {n : Str} (hs : Sat w σ) (hc : RCl σ c cs) (hsm : SmC c)
    (h : ∀ pv cv hv w' σ', Stp w σ w' σ' → RMe σ' (oM (ownM c n)) [S (oM (ownM c n)).name, pv, S (oM (ownM c n)).result, .bool (oM (ownM c n)).abs, I (oM (ownM c n)).locals, cv, hv] →
      K (.tuple #[.agg [S (oM (ownM c n)).name, pv, S (oM (ownM c n)).result, .bool (oM (ownM c n)).abs, I (oM (ownM c n)).locals, cv, hv].toArray, .bool (ownM c n).isSome]) w') : callF P F.hier_own [.agg cs.toArray, S n] w K := r_hier_own (by
  obtain ⟨lv, fv, mv, rfl, g1, g2, g3, g4, g5⟩ := hc
  unfold g_hier_own
  refine x_box hs fun a w1 σ1 hk1 ha1 => ?_
  refine x_box1 hk1.sat rfl fun q w2 σ2 hk2 hq => ?_
  refine x_alcm hk2.sat fun b w3 σ3 hb hk3 hm => ?_
  rw [fa]
  have ha3 := (ha1.up hk2).up hk3
  have g3 := ((g3.up hk1).up hk2).up hk3
  have hq3 := hq.up hk3
  refine ld hk3.sat ha3 rfl ?_
  rw [mk_func]
  have hS3 := (hk1.trans hk2).trans hk3
  have hb0 : w.heap.size ≤ b := own_le hb (hk1.trans hk2)
  refine c_IndexFunc_api_Method (fun x => decide (x.name = n)) hk3.sat g3 (fun x cs w4 K _ hs4 hr hl hK => callV_func (r_hier_own_1 ?_)) fun w4 hb4 => ?_
  · obtain ⟨pv, cv, hv, rfl, _⟩ := hr
    unfold g_hier_own_1
    refine x_box hs4 fun a w5 σ5 hk5 ha5 => ?_
    (repeat' (first | (with_reducible intro _) | (with_reducible refine jn_in ?_) | (simp only [↓Mm, Mm, ↓Mp, Mp, Mb, reduceIte]) | (with_reducible first | refine ld aS aL aR ?_ | refine ld0 aS aL aR ?_ | refine lda aS aL aR ?_ | refine len_slK aL ?_ | refine x_fld aR ?_ | refine x_box aS ?_ | refine x_slb aS aL ?_ | refine x_box1 aS aR ?_ | refine alc_st aS aR aR (Rep.one (by assumption)) ?_ | refine alc_st1 aS aR aR aR ?_ | (refine gop_split (fun hh => ?_) (fun hh => ?_) <;> (try simp only [hh, Bool.not_true, Bool.not_false, ↓Mm, Mm, ↓Mp, Mp, Mb, reduceIte])) | (refine cnd_split (fun hh => ?_) (fun hh => ?_) <;> (try simp only [hh, Bool.not_true, Bool.not_false, ↓Mm, Mm, ↓Mp, Mp, Mb, reduceIte])))))
    exact hK _ hk5.bel
  have hk4 : Stp w3 σ3 w4 σ3 := Stp.of_below hk3.sat hb4
  have hm := hm.step hk4
  have hS4 := hS3.trans hk4
  unfold ownM at h
  rw [find_idx] at h
  refine x_lss ?_
  cases hf : c.methods.findIdx? fun x => decide (x.name = n) with
  | none =>
    rw [hf] at h
    simp only [idxI]
    refine x_cndT ?_
    refine bld_met ?_
    refine x_sta hm hS4 hb0 rfl rfl (Rep.one (rme_zero (σ := σ3))) fun w5 hS5 hm5 => ?_
    refine res_cells hm5 rfl ?_
    exact h _ _ _ w5 σ3 hS5.stp rme_zero
  | some i =>
    rw [hf] at h
    have hi : i < c.methods.length := (List.findIdx?_eq_some_iff_getElem.1 hf).1
    simp only [Option.bind_some, List.getElem?_eq_getElem hi] at h
    simp only [idxI]
    refine cnd_split (fun hh => absurd (of_decide_eq_true hh) (by omega)) (fun _ => ?_)
    rw [fa]
    refine ld hk4.sat ha3 rfl ?_
    refine ix_slN g3 hi fun p cells hl1 hl2 hr => ?_
    refine lda hk4.sat hl1 hl2 ?_
    refine c_hmethod hk4.sat hr (hsm.2.2.2 _ (List.getElem_mem hi)) fun pv cv hv w5 σ5 hk5 hr5 => ?_
    refine x_sta (hm.step hk5) (hS4.trans hk5) hb0 rfl rfl (Rep.one hr5) fun w6 hS6 hm6 => ?_
    refine res_cells hm6 rfl ?_
    exact h _ _ _ w6 σ5 hS6.stp hr5)
theorem c_like {n : Str} (ok : Ok l) : ∀ (k : Nat) {c : Cla} {cs : List Value} {w : World} {σ : Store} {K : Value → World → Prop}, rank l c.name < k → lk l c.name = some c → Sat w σ → Tab σ v l → RCl σ c cs →
    (∀ pv cv hv w' σ', Stp w σ w' σ' → RMe σ' (o2 (likedM l c n)) [S (o2 (likedM l c n)).name, pv, S (o2 (likedM l c n)).result, .bool (o2 (likedM l c n)).abs, I (o2 (likedM l c n)).locals, cv, hv] →
      K (.tuple #[S (o1 (likedM l c n)), .agg [S (o2 (likedM l c n)).name, pv, S (o2 (likedM l c n)).result, .bool (o2 (likedM l c n)).abs, I (o2 (likedM l c n)).locals, cv, hv].toArray, .bool (likedM l c n).isSome]) w') →
    callF P F.P_hier_Table_like [v, .agg cs.toArray, S n] w K := by
  intro k
  induction k with
  | zero =>
    intro c cs w σ K hk
    omega
  | succ k ih =>
    intro c cs w σ K hk hc hs ht hr h
    refine r_P_hier_Table_like ?_
    obtain ⟨lv, fv, mv, rfl, g1, g2, g3, g4, g5⟩ := hr
    have heq := likedM_eq ok.acy hc n
    generalize hf : (fun u => match lk l u with | none => none | some d => match ownM d n with | some m => some (u, m) | none => likedM l d n) = f at heq
    unfold g_P_hier_Table_like
    refine x_box hs fun a w1 σ1 hk1 ha1 => ?_
    refine x_alcm hk1.sat fun b w2 σ2 hb hk2 hm2 => ?_
    have hb0 : w.heap.size ≤ b := own_le hb hk1
    have ha2 := ha1.up hk2
    rw [fa]
    refine ld hk2.sat ha2 rfl ?_
    have g1 := (g1.up hk1).up hk2
    refine len_slK g1 ?_
    refine lp_up c.like.length (fun i w' => ∃ σ', Stp w σ w' σ' ∧ SLe σ2 σ' ∧ Mine σ' w' b [S [], .slice none 0 0, S [], .bool false, I 0, .slice none 0 0, .slice none 0 0] ∧ (c.like.take i).findSome? f = none) ⟨σ2, hk1.trans hk2, SLe.refl _, hm2, rfl⟩ fun i w3 d hi hinv => ?_
    obtain ⟨σ3, hS3, le3, hm3, hno⟩ := hinv
    have ht3 := ht.lift ⟨hS3.le⟩
    refine x_lss ?_
    refine cnd_split (fun hh => ?_) (fun hh => ?_)
    · have hi' : i < c.like.length := by simpa using hh
      refine ix_Str (g1.lift le3) hi' fun p hl1 hl2 => ?_
      refine ld0 hS3.sat hl1 rfl ?_
      obtain ⟨d, hd⟩ := ok.full c (lk_some hc).2.1 _ (List.getElem_mem hi')
      obtain ⟨hdn, hdm, _⟩ := lk_some hd
      have hfx : f c.like[i] = match ownM d n with | some m => some (c.like[i], m) | none => likedM l d n := by rw [← hf]; simp only [hd]
      refine c_class hS3.sat ht3 hd fun lv' fv' mv' w4 σ4 hk4 f1 f2 f3 f4 f5 hr4 => ?_
      refine c_own hk4.sat hr4 (ok.sm d hdm) fun pv cv hv w5 σ5 hk5 hr5 => ?_
      refine x_ext (vs := [_, _]) rfl ?_
      refine x_ext (vs := [_, _]) rfl ?_
      refine alc_st hk5.sat (by rfl) rfl (Rep.one hr5) fun q w6 σ6 hk6 hq6 => ?_
      have hS6 := ((hS3.trans hk4).trans hk5).trans hk6
      have hm6 := ((hm3.step hk4).step hk5).step hk6
      have hr6 := RMe_lift hr5 ⟨hk6.le⟩
      cases ho : ownM d n with
      | some m =>
        rw [ho] at hfx hr6 hq6
        (try simp only [ho])
        refine x_cndT ?_
        refine dr_hst hS6.sat ?_
        refine dop_mk (fun v _ => v = .agg [S m.name, pv, S m.result, .bool m.abs, I m.locals, cv, hv].toArray) (fun _ _ _ h _ => h) (fun w hb => lda hb.sat hq6 rfl ⟨Below.refl _ _, rfl⟩) ?_
        rintro _ w7 hb7 rfl
        refine x_sta (hm6.step hb7.stp) (hS6.trans hb7.stp) hb0 rfl rfl (Rep.one hr6) fun w8 hS8 hm8 => ?_
        refine res_cells hm8 rfl ?_
        have hl := heq.trans (find_of_take hi' hno hfx)
        rw [hl] at h
        exact h _ _ _ w8 σ6 hS8.stp hr6
      | none =>
        rw [ho] at hfx
        (try simp only [Option.isSome_none])
        refine x_cndF ?_
        refine c_class hS6.sat (ht.lift ⟨hS6.le⟩) hd fun lv' fv' mv' w7 σ7 hk7 f1 f2 f3 f4 f5 hr7 => ?_
        have hrk := rank_up ok.acy hc (by simp [ups, List.getElem_mem hi'] : c.like[i] ∈ ups c) hd
        refine ih (by rw [hdn]; omega) (by rw [hdn]; exact hd) hk7.sat (ht.lift ⟨(hS6.trans hk7).le⟩) hr7 fun pv cv hv w8 σ8 hk8 hr8 => ?_
        refine x_ext (vs := [_, _, _]) rfl ?_
        refine x_ext (vs := [_, _, _]) rfl ?_
        refine x_ext (vs := [_, _, _]) rfl ?_
        refine alc_st hk8.sat (by rfl) rfl (Rep.one hr8) fun q w9 σ9 hk9 hq9 => ?_
        have hS9 := ((hS6.trans hk7).trans hk8).trans hk9
        have hm9 := ((hm6.step hk7).step hk8).step hk9
        have hr9 := RMe_lift hr8 ⟨hk9.le⟩
        cases hl : likedM l d n with
        | some r =>
          obtain ⟨s, m⟩ := r
          rw [hl] at hfx hr9 hq9
          (try simp only [hl])
          refine x_cndT ?_
          refine dr_hst hS9.sat ?_
          refine dop_mk (fun v _ => v = .agg [S m.name, pv, S m.result, .bool m.abs, I m.locals, cv, hv].toArray) (fun _ _ _ h _ => h) (fun w hb => lda hb.sat hq9 rfl ⟨Below.refl _ _, rfl⟩) ?_
          rintro _ w10 hb10 rfl
          refine x_sta (hm9.step hb10.stp) (hS9.trans hb10.stp) hb0 rfl rfl (Rep.one hr9) fun w11 hS11 hm11 => ?_
          refine res_cells hm11 rfl ?_
          have hl2 := heq.trans (find_of_take hi' hno hfx)
          rw [hl2] at h
          exact h _ _ _ w11 σ9 hS11.stp hr9
        | none =>
          rw [hl] at hfx
          (try simp only [Option.isSome_none])
          refine x_cndF ?_
          refine x_add ?_
          refine up_next (by have := g1.max; omega) hi' ⟨σ9, hS9, ?_, hm9, ?_⟩
          · exact le3.more ⟨fun b o e => hk9.le _ _ (hk8.le _ _ (hk7.le _ _ (hk6.le _ _ (hk5.le _ _ (hk4.le _ _ e)))))⟩
          · rw [find_take_succ hi' hno]; exact hfx
    · have hi' : ¬ i < c.like.length := by simpa using hh
      rw [List.take_of_length_le (by omega)] at hno
      refine bld_met ?_
      refine x_sta hm3 hS3 hb0 rfl rfl (Rep.one (rme_zero (σ := σ3))) fun w5 hS5 hm5 => ?_
      refine res_cells hm5 rfl ?_
      have hl := heq.trans hno
      rw [hl] at h
      exact h _ _ _ w5 σ3 hS5.stp rme_zero
end Go.Proofs.YtdnfaboigajkhaaGreatDoor

set_option autoImplicit false
set_option linter.unusedSimpArgs false
set_option linter.unusedVariables false
namespace Go.Hm
open Go.Kd
theorem chain_lk {l : List Cla} {n : Str} {c : Cla} (h : c ∈ chain l n) : lk l c.name = some c := by
  have key : ∀ (f : Nat) (n : Str), c ∈ chainN (lk l) f n → lk l c.name = some c := by
    intro f
    induction f with
    | zero => intro n h; simp [chainN] at h
    | succ f ih =>
      intro n h
      simp only [chainN] at h
      split at h
      · simp at h
      · rename_i d hd
        rcases List.mem_cons.1 h with rfl | h
        · rw [(lk_some hd).1]; exact hd
        · exact ih _ h
  exact key _ _ h
theorem fldText_len {f : Fld} (h : f.name.length ≤ 100 ∧ f.kind.length ≤ 100) : (fldText f).length ≤ 202 := by
  unfold fldText
  split <;> simp; omega
theorem printN_len {l : List Cla} (hn : ∀ c ∈ l, Nm c) (hs : ∀ c ∈ l, SmC c) : ∀ (f : Nat) (n : Str), (printN (lk l) f n).length ≤ f * 300000000
  | 0, _ => by simp [printN]
  | f + 1, n => by
    simp only [printN]
    split
    · simp
    · rename_i c hc
      obtain ⟨e, hm, _⟩ := lk_some hc
      have h1 := hn c hm
      have h2 := hs c hm
      have h3 := printN_len hn hs f c.super
      have h4 := flatMap_len fldText 202 c.fields fun f hf => fldText_len (h1.2.1 f hf)
      have h5 : c.fields.length * 202 ≤ 1000000 * 202 := Nat.mul_le_mul_right _ h2.2.1
      have h6 := h1.1
      rw [e] at h6
      split
      · simp
      · simp only [List.length_append, List.length_cons, List.length_nil, Nat.add_mul]; omega
theorem printM_len {l : List Cla} (ok : Ok l) (n : Str) : (printM l n).length ≤ 30000300000000 := by
  have := printN_len ok.nm ok.sm (l.length + 1) n
  have h2 : (l.length + 1) * 300000000 ≤ 100001 * 300000000 := Nat.mul_le_mul_right _ (by have := ok.len; omega)
  unfold printM; omega
theorem flat_take_len {c : Cla} (h : Nm c) (h2 : SmC c) (i : Nat) : ((c.fields.take i).flatMap fldText).length ≤ 202000000 := by
  have h4 := flatMap_len fldText 202 (c.fields.take i) fun f hf => fldText_len (h.2.1 f (List.mem_of_mem_take hf))
  rw [List.length_take] at h4
  have h5 : min i c.fields.length * 202 ≤ 1000000 * 202 := Nat.mul_le_mul_right _ (by have := h2.2.1; omega)
  omega
end Go.Hm
namespace Go.Proofs.YtdnfaboigajkhaaGreatDoor
open Go.Emb Go.RowKit Go.Kd Go.Hm
variable {w : World} {K : Value → World → Prop} {σ : Store} {v : Value} {l : List Cla}
theorem c_Method {k n : Str} (hs : Sat w σ) (ht : Tab σ v l) (ok : Ok l)
    (h : ∀ pv cv hv w' σ', Stp w σ w' σ' → RMe σ' (o2 (methodM l k n)) [S (o2 (methodM l k n)).name, pv, S (o2 (methodM l k n)).result, .bool (o2 (methodM l k n)).abs, I (o2 (methodM l k n)).locals, cv, hv] →
      K (.tuple #[S (o1 (methodM l k n)), .agg [S (o2 (methodM l k n)).name, pv, S (o2 (methodM l k n)).result, .bool (o2 (methodM l k n)).abs, I (o2 (methodM l k n)).locals, cv, hv].toArray, .bool (methodM l k n).isSome]) w') :
    callF P F.P_hier_Table_Method [v, S k, S n] w K := r_P_hier_Table_Method (by
  unfold g_P_hier_Table_Method
  refine x_alcm hs fun b w1 σ1 hb hk1 hm1 => ?_
  refine c_line hk1.sat (ht.lift ⟨hk1.le⟩) ok.acy ok.len fun v1 w2 σ2 hk2 ha2 => ?_
  have hm2 := hm1.step hk2
  have hb1 := hm1.lt
  refine c_Reverse (hk1.trans hk2) (ha2.mono hk1.bel.size) fun w3 hk3 hS3 ha3 => ?_
  rw [List.reverse_reverse] at ha3
  obtain ⟨σ3, hS4, hv4, le4, old4⟩ := ha3.keep hS3
  have hcl := chain_len l k
  have hne : v1.ownBlock ≠ some b := fun e => by have := ha2.own e; omega
  have hm3 : Mine σ3 w3 b [S [], .slice none 0 0, S [], .bool false, I 0, .slice none 0 0, .slice none 0 0] := by
    have := hm2.kp hk3 hne
    exact ⟨(old4 b fun e => hne e.symm).trans this.1, this.2⟩
  refine len_slK hv4 ?_
  unfold methodM at h
  refine lp_up (chain l k).length (fun i w' => ∃ σ', Stp w σ w' σ' ∧ SLe σ3 σ' ∧ Mine σ' w' b [S [], .slice none 0 0, S [], .bool false, I 0, .slice none 0 0, .slice none 0 0] ∧ ((chain l k).take i).findSome? (fun c => (ownM c n).map (c.name, ·)) = none) ⟨σ3, hS4, SLe.refl _, hm3, rfl⟩ fun i w5 d hi hinv => ?_
  obtain ⟨σ5, hS5, le5, hm5, hno⟩ := hinv
  refine x_lss ?_
  refine cnd_split (fun hh => ?_) (fun hh => ?_)
  · have hi' : i < (chain l k).length := by simpa using hh
    refine ix_slN (hv4.lift le5) hi' fun p cells hl1 hl2 hr => ?_
    refine lda hS5.sat hl1 hl2 ?_
    refine alc_st hS5.sat (by rfl) hl2 (Rep.one hr) fun q w6 σ6 hk6 hq6 => ?_
    refine lda hk6.sat hq6 hl2 ?_
    have hmem := chain_mem (List.getElem_mem hi')
    refine c_own hk6.sat (Rep.up hk6.le hr) (ok.sm _ hmem) fun pv cv hv w7 σ7 hk7 hr7 => ?_
    refine x_ext (vs := [_, _]) rfl ?_
    refine x_ext (vs := [_, _]) rfl ?_
    refine alc_st hk7.sat (by rfl) rfl (Rep.one hr7) fun q8 w8 σ8 hk8 hq8 => ?_
    have hS8 := ((hS5.trans hk6).trans hk7).trans hk8
    have hm8 := ((hm5.step hk6).step hk7).step hk8
    have hr8 := RMe_lift hr7 ⟨hk8.le⟩
    cases ho : ownM (chain l k)[i] n with
    | some m =>
      rw [ho] at hr8 hq8
      (try simp only [ho])
      refine x_cndT ?_
      obtain ⟨lv, fv, mv, rfl, g⟩ := hr
      refine dr_hst hS8.sat ?_
      refine dop_val (.pointer (some (q.add 0))) (fun w hb => by rw [fa]; exact dk_same rfl) ?_
      refine dop_val (S (chain l k)[i].name) (fun t w hb e => by rw [e]; exact ld hb.sat ((hq6.up hk7).up hk8) rfl (dk_same rfl)) ?_
      refine dop_mk (fun v _ => v = .agg [S m.name, pv, S m.result, .bool m.abs, I m.locals, cv, hv].toArray) (fun _ _ _ h _ => h) (fun w hb => lda hb.sat hq8 rfl ⟨Below.refl _ _, rfl⟩) ?_
      rintro _ _ _ w9 hb9 rfl rfl rfl
      refine x_sta (hm8.step hb9.stp) (hS8.trans hb9.stp) hb rfl rfl (Rep.one hr8) fun w10 hS10 hm10 => ?_
      refine res_cells hm10 rfl ?_
      rw [find_of_take (f := fun c => (ownM c n).map (c.name, ·)) hi' hno (by simp only [ho]; rfl)] at h
      exact h _ _ _ w10 σ8 hS10.stp hr8
    | none =>
      (try simp only [ho])
      refine x_cndF ?_
      refine x_add ?_
      refine up_next (by have := ok.len; omega) hi' ⟨σ8, hS8, le5.more ⟨fun b o e => hk8.le _ _ (hk7.le _ _ (hk6.le _ _ e))⟩, hm8, ?_⟩
      rw [find_take_succ hi' hno]; simp only [ho]; rfl
  · have hi' : ¬ i < (chain l k).length := by simpa using hh
    rw [List.take_of_length_le (by omega)] at hno
    rw [hno] at h
    clear hm3 hS4 hh
    refine len_slK (hv4.lift le5) ?_
    refine lp_up (chain l k).length (fun i w' => ∃ σ', Stp w σ w' σ' ∧ SLe σ3 σ' ∧ Mine σ' w' b [S [], .slice none 0 0, S [], .bool false, I 0, .slice none 0 0, .slice none 0 0] ∧ ((chain l k).take i).findSome? (fun c => likedM l c n) = none) ⟨σ5, hS5, le5, hm5, rfl⟩ fun i w6 d hi hinv => ?_
    obtain ⟨σ6, hS6, le6, hm6, hno⟩ := hinv
    refine x_lss ?_
    refine cnd_split (fun hh => ?_) (fun hh => ?_)
    · have hi' : i < (chain l k).length := by simpa using hh
      refine ix_slN (hv4.lift le6) hi' fun p cells hl1 hl2 hr => ?_
      refine lda hS6.sat hl1 hl2 ?_
      refine alc_st hS6.sat (by rfl) hl2 (Rep.one hr) fun q w7 σ7 hk7 hq7 => ?_
      refine lda hk7.sat hq7 hl2 ?_
      have hS7 := hS6.trans hk7
      have hlk := chain_lk (List.getElem_mem hi')
      refine c_like ok _ (Nat.lt_succ_self _) hlk hk7.sat (ht.lift ⟨hS7.le⟩) (Rep.up hk7.le hr) fun pv cv hv w8 σ8 hk8 hr8 => ?_
      refine x_ext (vs := [_, _, _]) rfl ?_
      refine x_ext (vs := [_, _, _]) rfl ?_
      refine x_ext (vs := [_, _, _]) rfl ?_
      refine alc_st hk8.sat (by rfl) rfl (Rep.one hr8) fun q9 w9 σ9 hk9 hq9 => ?_
      have hS9 := (hS7.trans hk8).trans hk9
      have hm9 := ((hm6.step hk7).step hk8).step hk9
      have hr9 := RMe_lift hr8 ⟨hk9.le⟩
      cases ho : likedM l (chain l k)[i] n with
      | some r =>
        obtain ⟨s, m⟩ := r
        rw [ho] at hr9 hq9
        (try simp only [ho])
        refine x_cndT ?_
        refine dr_hst hS9.sat ?_
        refine dop_mk (fun v _ => v = .agg [S m.name, pv, S m.result, .bool m.abs, I m.locals, cv, hv].toArray) (fun _ _ _ h _ => h) (fun w hb => lda hb.sat hq9 rfl ⟨Below.refl _ _, rfl⟩) ?_
        rintro _ w10 hb10 rfl
        refine x_sta (hm9.step hb10.stp) (hS9.trans hb10.stp) hb rfl rfl (Rep.one hr9) fun w11 hS11 hm11 => ?_
        refine res_cells hm11 rfl ?_
        have := find_of_take (f := fun c => likedM l c n) hi' hno ho
        unfold likedM at this
        rw [this] at h
        exact h _ _ _ w11 σ9 hS11.stp hr9
      | none =>
        (try simp only [ho])
        refine x_cndF ?_
        refine x_add ?_
        refine up_next (by have := ok.len; omega) hi' ⟨σ9, hS9, le6.more ⟨fun b o e => hk9.le _ _ (hk8.le _ _ (hk7.le _ _ e))⟩, hm9, ?_⟩
        rw [find_take_succ hi' hno]; exact ho
    · have hi' : ¬ i < (chain l k).length := by simpa using hh
      rw [List.take_of_length_le (by omega)] at hno
      refine bld_met ?_
      refine x_sta hm6 hS6 hb rfl rfl (Rep.one (rme_zero (σ := σ6))) fun w7 hS7 hm7 => ?_
      refine res_cells hm7 rfl ?_
      unfold likedM at hno
      rw [hno] at h
      exact h _ _ _ w7 σ6 hS7.stp rme_zero)
theorem c_Objects {n : Str} (hs : Sat w σ) (ht : Tab σ v l) (h : ∀ w' σ', Stp w σ w' σ' → K (.bool (objectsM l n)) w') : callF P F.P_hier_Table_Objects [v, S n] w K := r_P_hier_Table_Objects (by
  unfold g_P_hier_Table_Objects
  unfold objectsM at h
  cases hd : lk l n with
  | none =>
    rw [hd] at h
    (repeat' (first | (with_reducible intro _) | (with_reducible refine jn_in ?_) | (simp only [↓Mm, Mm, ↓Mp, Mp, Mb, reduceIte]) | (with_reducible first | refine ld aS aL aR ?_ | refine ld0 aS aL aR ?_ | refine lda aS aL aR ?_ | refine len_slK aL ?_ | refine x_fld aR ?_ | refine x_box aS ?_ | refine x_slb aS aL ?_ | refine x_box1 aS aR ?_ | refine alc_st aS aR aR (Rep.one (by assumption)) ?_ | refine alc_st1 aS aR aR aR ?_ | refine c_has0 au au au ?_ | (refine gop_split (fun hh => ?_) (fun hh => ?_) <;> (try simp only [hh, Bool.not_true, Bool.not_false, ↓Mm, Mm, ↓Mp, Mp, Mb, reduceIte])) | (refine cnd_split (fun hh => ?_) (fun hh => ?_) <;> (try simp only [hh, Bool.not_true, Bool.not_false, ↓Mm, Mm, ↓Mp, Mp, Mb, reduceIte])))))
    all_goals (refine Eq.subst (motive := fun b => K b _) ?_ (h _ _ (by (repeat (first | exact Stp.refl (by (first | assumption | exact Stp.sat (by assumption) | exact Hst.sat (by assumption))) | assumption | refine Stp.trans ?_ (by first | assumption | exact Hst.stp (by assumption)))))); clear h; (try clear hA); (try clear hB); (try clear hC); first | rfl | ((try simp only [Bool.not_eq_true', Bool.not_eq_false', Bool.not_true, Bool.not_false, Bool.not_eq_true] at *); simp only [*, Mb, reduceIte]; done) | (simp [*]; done) | simp_all)
  | some d =>
    rw [hd] at h
    (repeat' (first | (with_reducible intro _) | (with_reducible refine jn_in ?_) | (simp only [↓Mm, Mm, ↓Mp, Mp, Mb, reduceIte]) | (with_reducible first | refine ld aS aL aR ?_ | refine ld0 aS aL aR ?_ | refine lda aS aL aR ?_ | refine len_slK aL ?_ | refine x_fld aR ?_ | refine x_box aS ?_ | refine x_slb aS aL ?_ | refine x_box1 aS aR ?_ | refine alc_st aS aR aR (Rep.one (by assumption)) ?_ | refine alc_st1 aS aR aR aR ?_ | refine c_has1 au au au ?_ | refine c_class au au au ?_ | (refine gop_split (fun hh => ?_) (fun hh => ?_) <;> (try simp only [hh, Bool.not_true, Bool.not_false, ↓Mm, Mm, ↓Mp, Mp, Mb, reduceIte])) | (refine cnd_split (fun hh => ?_) (fun hh => ?_) <;> (try simp only [hh, Bool.not_true, Bool.not_false, ↓Mm, Mm, ↓Mp, Mp, Mb, reduceIte])))))
    all_goals (refine Eq.subst (motive := fun b => K b _) ?_ (h _ _ (by (repeat (first | exact Stp.refl (by (first | assumption | exact Stp.sat (by assumption) | exact Hst.sat (by assumption))) | assumption | refine Stp.trans ?_ (by first | assumption | exact Hst.stp (by assumption)))))); clear h; (try clear hA); (try clear hB); (try clear hC); first | rfl | ((try simp only [Bool.not_eq_true', Bool.not_eq_false', Bool.not_true, Bool.not_false, Bool.not_eq_true] at *); simp only [*, Mb, reduceIte]; done) | (simp [*]; done) | simp_all))
end Go.Proofs.YtdnfaboigajkhaaGreatDoor
