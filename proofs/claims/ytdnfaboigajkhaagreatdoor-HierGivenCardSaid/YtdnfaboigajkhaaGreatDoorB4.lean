/- Parts of a proof about the given program: its functions as texts of their own, what each computes, plain laws of that. The conditions of each stand in its statement. -/
import Derived.Test.YtdnfaboigajkhaaGreatDoorB3
import Derived.Lib.AsciiSet
import Derived.Lib.Join
import Derived.Maps.RangeRun
import Derived.Test.YtdnfaboigajkhaaGreatDoorB2
import Derived.Laws.StructEq
import Derived.Laws.OwnMore
import Derived.Test.YtdnfaboigajkhaaGreatDoorRows
import Derived.WalkKit
import Derived.ProofKit
import Derived.OpenShut
import Derived.ShutString
import Derived.ChangeOld
import Derived.Below
import Derived.SizedLaws
import Derived.Lay
import Derived.Carry
import Derived.MakeChecks
import Derived.PinnedBridge
set_option linter.defProp false
set_option linter.unusedSectionVars false
set_option linter.unusedVariables false
set_option linter.unusedSimpArgs false
set_option autoImplicit false
set_option linter.unusedSimpArgs false
set_option linter.unusedVariables false
namespace Go.Kd
def brk (b : UInt8) : Bool := [(91 : UInt8), 93].contains b
def trimN : Nat → Str → Str
  | 0, s => s
  | n + 1, s => match s.getLast? with
    | some b => if brk b then trimN n (s.take (s.length - 1)) else s
    | none => s
def trim (s : Str) : Str := trimN s.length s
theorem trimN_more : ∀ (n m : Nat) (s : Str), s.length ≤ n → s.length ≤ m → trimN n s = trimN m s := by
  intro n
  induction n with
  | zero =>
    intro m s h _
    have : s = [] := List.eq_nil_of_length_eq_zero (by omega)
    subst this
    cases m <;> rfl
  | succ n ih =>
    intro m s h hm
    cases m with
    | zero =>
      have : s = [] := List.eq_nil_of_length_eq_zero (by omega)
      subst this; rfl
    | succ m =>
      simp only [trimN]
      cases hl : s.getLast? with
      | none => rfl
      | some b =>
        simp only
        split
        · exact ih m _ (by rw [List.length_take]; omega) (by rw [List.length_take]; omega)
        · rfl
theorem trim_eq (s : Str) : trim s = match s.getLast? with | some b => if brk b then trim (s.take (s.length - 1)) else s | none => s := by
  unfold trim
  cases hs : s with
  | nil => rfl
  | cons c r =>
    rw [← hs]
    obtain ⟨n, hn⟩ : ∃ n, s.length = n + 1 := ⟨r.length, by rw [hs]; rfl⟩
    have hn' : s.length - 1 = n := by omega
    rw [hn]
    simp only [trimN, hn']
    cases hl : s.getLast? with
    | none => rfl
    | some b =>
      simp only
      split
      · rw [show n + 1 - 1 = n by omega]; exact trimN_more n (s.take n).length _ (by rw [List.length_take]; omega) (Nat.le_refl _)
      · rfl
theorem last_name {s : Str} (h : name s = true) : ∃ b, s.getLast? = some b ∧ alnum b.toNat = true := by
  cases s with
  | nil => simp [name] at h
  | cons c r =>
    refine ⟨(c :: r).getLast (by simp), List.getLast?_eq_some_getLast (by simp), ?_⟩
    simp only [name, Bool.and_eq_true, List.all_eq_true] at h
    exact h.2 _ (List.getLast_mem _)
theorem alnum_brk {b : UInt8} (h : alnum b.toNat = true) : brk b = false := by
  have h1 : b ≠ 91 := by rintro rfl; revert h; decide
  have h2 : b ≠ 93 := by rintro rfl; revert h; decide
  simp [brk, h1, h2]
theorem name_of_base {s : Str} (h : (plain s || clas s) = true) : name s = true := by
  simp only [Bool.or_eq_true] at h
  rcases h with h | h
  · simp only [plain, Bool.or_eq_true, decide_eq_true_eq] at h
    rcases h with (h | h) | h <;> subst h <;> decide
  · cases s with
    | nil => simp [clas] at h
    | cons c r => simp only [clas, Bool.and_eq_true] at h; exact h.1
end Go.Kd
namespace Go.Proofs.YtdnfaboigajkhaaGreatDoor
open Go.Emb Go.RowKit Go.Kd Go.Hm
variable {w : World} {K : Value → World → Prop} {σ : Store} {v : Value} {l : List Cla}
theorem trim_arr {s : Str} (h : arr s = true) : trim s = trim (Kd.cutA s) := by
  have hl : 2 ≤ s.length ∧ s.drop (s.length - 2) = [91, 93] := by simpa [arr] using h
  obtain ⟨h1, h2⟩ := hl
  have h3 : s = Kd.cutA s ++ [91, 93] := by unfold Kd.cutA; rw [← h2, List.take_append_drop]
  have h4 : (Kd.cutA s).length + 2 = s.length := by unfold Kd.cutA; rw [List.length_take]; omega
  have e1 : s.getLast? = some 93 := by rw [h3]; simp
  have e2 : s.take (s.length - 1) = Kd.cutA s ++ [91] := by
    conv => lhs; rw [h3]
    rw [List.take_append, List.length_append]
    simp
    exact List.take_of_length_le (by omega)
  rw [trim_eq s, e1]
  simp only [show brk 93 = true from rfl, if_true, e2]
  rw [trim_eq]
  have e3 : (Kd.cutA s ++ [91]).getLast? = some 91 := by simp
  rw [e3]
  simp only [show brk 91 = true from rfl, if_true]
  congr 1
  simp
theorem trim_base {s : Str} : (plain (base s).1 || clas (base s).1) = true → trim s = (base s).1 := by
  have key : ∀ (n : Nat) (s : Str), s.length ≤ n → (plain (base s).1 || clas (base s).1) = true → trim s = (base s).1 := by
    intro n
    induction n with
    | zero =>
      intro s h hp
      have : s = [] := List.eq_nil_of_length_eq_zero (by omega)
      subst this; rfl
    | succ n ih =>
      intro s h hp
      by_cases ha : arr s = true
      · have hb : base s = ((base (Kd.cutA s)).1, (base (Kd.cutA s)).2 + 1) := by rw [base_eq s, ha]; simp
        rw [hb] at hp ⊢
        rw [trim_arr ha]
        exact ih _ (by have := cutA_length ha; omega) hp
      · have hb : base s = (s, 0) := by rw [base_eq s, eq_false_of_ne_true ha]; simp
        rw [hb] at hp ⊢
        obtain ⟨b, h1, h2⟩ := last_name (name_of_base hp)
        rw [trim_eq, h1]
        simp [alnum_brk h2]
  exact key _ s (Nat.le_refl _)
instance z_asciiSet : TZ P T.strings_asciiSet 256 256 (.agg (Array.replicate 256 (.bool false))) := ⟨by kernel_rfl⟩
theorem c_makeASCII (h : ∀ w', Below w.heap.size w w' → K (.tuple #[.agg (Lib.setCells [91, 93]), .bool true]) w') : callF P F.strings_makeASCIISet [S [91, 93]] w K := by
  refine callF_of (fn := Tryz.f94) Tryz.func94 (by kernel_rfl) (by kernel_rfl) (Calls.mono (Tryz.strings_makeASCIISet (fun w => run_zero_of z_asciiSet w) ⟨[91, 93].toArray⟩ w (by decide) (by
    intro j b hb
    have : b ∈ [(91 : UInt8), 93] := List.mem_of_getElem? hb
    simp at this; rcases this with rfl | rfl <;> decide)) ?_)
  rintro e w' ⟨rfl, rfl⟩
  exact h _ ((Below.refl _ _).alloc (Nat.le_refl _) _)
theorem c_asciiContains {q : Addr} {b : UInt8} (hs : Sat w σ) (hq : Lies σ q (Lib.setCells [91, 93]).toList) (h : K (.bool (brk b)) w) : callF P F.P_strings_asciiSet_contains [.pointer (some q), .int .u8 b.toNat] w K := r_P_strings_asciiSet_contains (by
  unfold g_P_strings_asciiSet_contains
  rw [nil_ck]
  have hb := b.toNat_lt
  rw [ix_arr (by omega) (by omega)]
  refine ld hs hq ?_ h
  have := Lib.setCells_at [91, 93] b
  rw [← Array.getElem?_toList] at this
  simpa [brk] using this)
theorem c_trimRightASCII {q : Addr} {s : Str} (hs : Sat w σ) (hl : s.length ≤ Big) (hq : Lies σ q (Lib.setCells [91, 93]).toList) (h : K (S (trim s)) w) : callF P F.strings_trimRightASCII [S s, .pointer (some q)] w K := r_strings_trimRightASCII (by
  unfold g_strings_trimRightASCII
  refine jn_in ?_
  refine lp_mk (fun x w' => w' = w ∧ ∃ u : Str, x = S u ∧ u.length ≤ Big ∧ trim u = trim s) (fun x _ => (sOf x).length) ⟨rfl, s, rfl, hl, rfl⟩ ?_
  rintro _ d _ ⟨rfl, u, rfl, hul, hu⟩
  have hsu : sOf (S u) = u := by simp [sOf]
  simp only [hsu]
  refine x_lens u_string ?_
  refine x_gtr ?_
  refine cnd_split (fun hh => ?_) (fun hh => ?_)
  · have h0 : 0 < u.length := by simpa using hh
    have hb : u.length ≤ 9223372036854775807 := Nat.le_trans hul (by decide)
    refine x_lens u_string ?_
    refine x_sub64 ⟨by omega, by omega⟩ ?_
    have e1 : ((u.length : Int) - 1).toNat = u.length - 1 := by omega
    rw [idx_str u_string (by omega) (by omega)]
    simp only [e1]
    have hlast : u.getLast? = some (u[u.length - 1]'(by omega)) := by rw [List.getLast?_eq_getElem?, List.getElem?_eq_getElem]
    have htr := trim_eq u
    rw [hlast] at htr
    simp only at htr
    refine c_asciiContains hs hq ?_
    cases hbr : brk (u[u.length - 1]'(by omega)) with
    | true =>
      rw [hbr] at htr
      simp only [↓Mm, Mm, ↓Mr, Mr, Mb, reduceIte]
      rw [w64 (by omega) (by omega), slc_str_hi u_string (by omega) (by omega)]
      simp only [e1]
      refine ⟨⟨trivial, _, rfl, by rw [List.length_take]; omega, ?_⟩, ?_⟩
      · rw [← hu, htr]; simp
      · have : sOf (S (u.take (u.length - 1))) = u.take (u.length - 1) := by simp [sOf]
        simp only [this, List.length_take]; omega
    | false =>
      rw [hbr] at htr
      simp only [↓Mm, Mm, ↓Mr, Mr, Mb, reduceIte]
      intro _
      rw [← hu, htr] at h
      simpa using h
  · have h0 : ¬ 0 < u.length := by simpa using hh
    have : u = [] := List.eq_nil_of_length_eq_zero (by omega)
    subst this
    intro _
    rw [← hu] at h
    exact h)
theorem c_TrimRight {s : Str} (hs : Sat w σ) (hl : s.length ≤ Big) (h : ∀ w' σ', Stp w σ w' σ' → K (S (trim s)) w') : callF P F.strings_TrimRight [S s, S [91, 93]] w K := r_strings_TrimRight (by
  unfold g_strings_TrimRight
  by_cases hs0 : s = []
  · subst hs0
    (repeat' (first | (with_reducible intro _) | (with_reducible refine jn_in ?_) | (simp only [↓Mm, Mm, ↓Mp, Mp, Mb, reduceIte]) | (with_reducible first | refine ld aS aL aR ?_ | refine ld0 aS aL aR ?_ | refine lda aS aL aR ?_ | refine len_slK aL ?_ | refine x_fld aR ?_ | refine x_box aS ?_ | refine x_slb aS aL ?_ | refine x_box1 aS aR ?_ | refine alc_st aS aR aR (Rep.one (by assumption)) ?_ | refine alc_st1 aS aR aR aR ?_ | (refine gop_split (fun hh => ?_) (fun hh => ?_) <;> (try simp only [hh, Bool.not_true, Bool.not_false, ↓Mm, Mm, ↓Mp, Mp, Mb, reduceIte])) | (refine cnd_split (fun hh => ?_) (fun hh => ?_) <;> (try simp only [hh, Bool.not_true, Bool.not_false, ↓Mm, Mm, ↓Mp, Mp, Mb, reduceIte])))))
    all_goals first | exact h _ _ (by (repeat (first | exact Stp.refl (by (first | assumption | exact Stp.sat (by assumption) | exact Hst.sat (by assumption))) | assumption | refine Stp.trans ?_ (by first | assumption | exact Hst.stp (by assumption))))) | (exfalso; simp_all)
  have d1 : decide (s = []) = false := decide_eq_false hs0
  simp only [d1, show decide (([91, 93] : Str) = []) = false from rfl, show decide ((([91, 93] : Str).length : Int) = 1) = false from rfl, ↓Mm, Mm, ↓Mr, Mr, Mb, reduceIte]
  refine c_makeASCII (below_k hs fun w1 σ1 hk1 => ?_)
  simp only [↓Mm, Mm, ↓Mr, Mr, Mb, reduceIte]
  have hsz : (Lib.setCells [91, 93]).toList.length = 256 := by rw [Array.length_toList]; exact Lib.setCells_size _
  have hone : ∀ u ∈ (Lib.setCells [91, 93]).toList, u.oneCell' = true := by
    have := Lib.setCells_one [91, 93]
    rw [Array.all_eq_true'] at this
    intro u hu; exact this u (by simpa using hu)
  have htr : ∀ {w : World} {σ : Store} {K : Value → World → Prop} {q : Addr}, Sat w σ → Lies σ q (Lib.setCells [91, 93]).toList → K (S (trim s)) w → callF P F.strings_trimRightASCII [S s, .pointer (some q)] w K := fun hs hq h => c_trimRightASCII hs hl hq h
  have hta : Lib.setCells [91, 93] = (Lib.setCells [91, 93]).toList.toArray := Array.toArray_toList.symm
  generalize (Lib.setCells [91, 93]).toList = cs at *
  rw [hta]
  refine alc_st hk1.sat (by show (Array.replicate 256 (Value.bool false)).size = 256; exact Array.size_replicate) hsz hone fun q w2 σ2 hk2 hq => ?_
  refine htr hk2.sat hq ?_
  exact h _ _ (hk1.trans hk2))
theorem c_Kind {s : Str} (hs : Sat w σ) (ht : Tab σ v l) (hl : s.length ≤ Big) (h : ∀ w' σ', Stp w σ w' σ' → K (.bool (kindM l s)) w') : callF P F.P_hier_Table_Kind [v, S s] w K := r_P_hier_Table_Kind (by
  unfold g_P_hier_Table_Kind
  unfold kindM at h
  refine x_eqs ?_
  refine cnd_split (fun hh => ?_) (fun hh => ?_)
  · have e : decide (s = sNull) = true := hh
    rw [e] at h
    exact h _ _ (Stp.refl hs)
  · have e : decide (s = sNull) = false := hh
    rw [e] at h
    refine c_TrimRight hs hl fun w1 σ1 hk1 => ?_
    refine k_Right s (Nat.le_trans hl (by decide)) (below_k hk1.sat fun w2 σ2 hk2 => ?_)
    cases hr : right s with
    | false =>
      rw [hr] at h
      (repeat' (first | (with_reducible intro _) | (with_reducible refine jn_in ?_) | (simp only [↓Mm, Mm, ↓Mp, Mp, Mb, reduceIte]) | (with_reducible first | refine ld aS aL aR ?_ | refine ld0 aS aL aR ?_ | refine lda aS aL aR ?_ | refine len_slK aL ?_ | refine x_fld aR ?_ | refine x_box aS ?_ | refine x_slb aS aL ?_ | refine x_box1 aS aR ?_ | refine alc_st aS aR aR (Rep.one (by assumption)) ?_ | refine alc_st1 aS aR aR aR ?_ | (refine gop_split (fun hh => ?_) (fun hh => ?_) <;> (try simp only [hh, Bool.not_true, Bool.not_false, ↓Mm, Mm, ↓Mp, Mp, Mb, reduceIte])) | (refine cnd_split (fun hh => ?_) (fun hh => ?_) <;> (try simp only [hh, Bool.not_true, Bool.not_false, ↓Mm, Mm, ↓Mp, Mp, Mb, reduceIte])))))
      all_goals (refine Eq.subst (motive := fun b => K b _) ?_ (h _ _ (by (repeat (first | exact Stp.refl (by (first | assumption | exact Stp.sat (by assumption) | exact Hst.sat (by assumption))) | assumption | refine Stp.trans ?_ (by first | assumption | exact Hst.stp (by assumption)))))); clear h; (try clear hA); (try clear hB); (try clear hC); first | rfl | ((try simp only [Bool.not_eq_true', Bool.not_eq_false', Bool.not_true, Bool.not_false, Bool.not_eq_true] at *); simp only [*, Mb, reduceIte]; done) | (simp [*]; done) | simp_all)
    | true =>
      rw [hr] at h
      have hr2 : (plain (base s).1 || clas (base s).1) = true := by
        simp only [right, Bool.and_eq_true] at hr; exact hr.2
      rw [trim_base hr2]
      (repeat' (first | (with_reducible intro _) | (with_reducible refine jn_in ?_) | (simp only [↓Mm, Mm, ↓Mp, Mp, Mb, reduceIte]) | (with_reducible first | refine ld aS aL aR ?_ | refine ld0 aS aL aR ?_ | refine lda aS aL aR ?_ | refine len_slK aL ?_ | refine x_fld aR ?_ | refine x_box aS ?_ | refine x_slb aS aL ?_ | refine x_box1 aS aR ?_ | refine alc_st aS aR aR (Rep.one (by assumption)) ?_ | refine alc_st1 aS aR aR aR ?_ | refine k_Plain _ ?_ | refine c_has au au ?_ | (refine gop_split (fun hh => ?_) (fun hh => ?_) <;> (try simp only [hh, Bool.not_true, Bool.not_false, ↓Mm, Mm, ↓Mp, Mp, Mb, reduceIte])) | (refine cnd_split (fun hh => ?_) (fun hh => ?_) <;> (try simp only [hh, Bool.not_true, Bool.not_false, ↓Mm, Mm, ↓Mp, Mp, Mb, reduceIte])))))
      all_goals (refine Eq.subst (motive := fun b => K b _) ?_ (h _ _ (by (repeat (first | exact Stp.refl (by (first | assumption | exact Stp.sat (by assumption) | exact Hst.sat (by assumption))) | assumption | refine Stp.trans ?_ (by first | assumption | exact Hst.stp (by assumption)))))); clear h; (try clear hA); (try clear hB); (try clear hC); first | rfl | ((try simp only [Bool.not_eq_true', Bool.not_eq_false', Bool.not_true, Bool.not_false, Bool.not_eq_true] at *); simp only [*, Mb, reduceIte]; done) | (simp [*]; done) | simp_all))
theorem c_Print (ok : Ok l) : ∀ (k : Nat) {n : Str} {w : World} {σ : Store} {K : Value → World → Prop}, (lk l n = none ∨ rank l n < k) → n.length ≤ Big → Sat w σ → Tab σ v l → (∀ w' σ', Stp w σ w' σ' → K (S (printM l n)) w') → callF P F.P_hier_Table_Print [v, S n] w K := by
  intro k
  induction k with
  | zero =>
    intro n w σ K hk hl hs ht h
    have hd : lk l n = none := hk.resolve_right (by omega)
    refine r_P_hier_Table_Print ?_
    unfold g_P_hier_Table_Print
    rw [printM_none hd] at h
    (repeat' (first | (with_reducible intro _) | (with_reducible refine jn_in ?_) | (simp only [↓Mm, Mm, ↓Mp, Mp, Mb, reduceIte]) | (with_reducible first | refine ld aS aL aR ?_ | refine ld0 aS aL aR ?_ | refine lda aS aL aR ?_ | refine len_slK aL ?_ | refine x_fld aR ?_ | refine x_box aS ?_ | refine x_slb aS aL ?_ | refine x_box1 aS aR ?_ | refine alc_st aS aR aR (Rep.one (by assumption)) ?_ | refine alc_st1 aS aR aR aR ?_ | refine c_has0 au au au ?_ | (refine gop_split (fun hh => ?_) (fun hh => ?_) <;> (try simp only [hh, Bool.not_true, Bool.not_false, ↓Mm, Mm, ↓Mp, Mp, Mb, reduceIte])) | (refine cnd_split (fun hh => ?_) (fun hh => ?_) <;> (try simp only [hh, Bool.not_true, Bool.not_false, ↓Mm, Mm, ↓Mp, Mp, Mb, reduceIte])))))
    all_goals exact h _ _ (by (repeat (first | exact Stp.refl (by (first | assumption | exact Stp.sat (by assumption) | exact Hst.sat (by assumption))) | assumption | refine Stp.trans ?_ (by first | assumption | exact Hst.stp (by assumption)))))
  | succ k ih =>
    intro n w σ K hk hl hs ht h
    refine r_P_hier_Table_Print ?_
    unfold g_P_hier_Table_Print
    cases hd : lk l n with
    | none =>
      rw [printM_none hd] at h
      (repeat' (first | (with_reducible intro _) | (with_reducible refine jn_in ?_) | (simp only [↓Mm, Mm, ↓Mp, Mp, Mb, reduceIte]) | (with_reducible first | refine ld aS aL aR ?_ | refine ld0 aS aL aR ?_ | refine lda aS aL aR ?_ | refine len_slK aL ?_ | refine x_fld aR ?_ | refine x_box aS ?_ | refine x_slb aS aL ?_ | refine x_box1 aS aR ?_ | refine alc_st aS aR aR (Rep.one (by assumption)) ?_ | refine alc_st1 aS aR aR aR ?_ | refine c_has0 au au au ?_ | (refine gop_split (fun hh => ?_) (fun hh => ?_) <;> (try simp only [hh, Bool.not_true, Bool.not_false, ↓Mm, Mm, ↓Mp, Mp, Mb, reduceIte])) | (refine cnd_split (fun hh => ?_) (fun hh => ?_) <;> (try simp only [hh, Bool.not_true, Bool.not_false, ↓Mm, Mm, ↓Mp, Mp, Mb, reduceIte])))))
      all_goals exact h _ _ (by (repeat (first | exact Stp.refl (by (first | assumption | exact Stp.sat (by assumption) | exact Hst.sat (by assumption))) | assumption | refine Stp.trans ?_ (by first | assumption | exact Hst.stp (by assumption)))))
    | some c =>
      have hp := printM_eq ok.acy n
      rw [hd] at hp
      simp only at hp
      obtain ⟨hcn, hmem, _⟩ := lk_some hd
      have hnm := ok.nm c hmem
      have hsm := ok.sm c hmem
      have hlen := printM_len ok c.super
      refine c_has1 hs ht hd ?_
      simp only [↓Mm, Mm, ↓Mr, Mr, Mb, reduceIte]
      refine cnd_split (fun hh => ?_) (fun hh => ?_)
      · have : n = sRoot := of_decide_eq_true hh
        rw [if_pos this] at hp
        rw [hp] at h
        exact h _ _ (Stp.refl hs)
      have : ¬ n = sRoot := of_decide_eq_false hh
      rw [if_neg this] at hp
      refine c_class hs ht hd fun lv fv mv w1 σ1 hk1 f1 f2 f3 f4 f5 hr => ?_
      refine alc_st hk1.sat (by rfl) rfl (Rep.one hr) fun q w2 σ2 hk2 hq => ?_
      have hn100 : n.length ≤ 100 := by rw [← hcn]; exact hnm.1
      refine x_cat (by simp only [List.length_cons, List.length_nil]; omega) ?_
      simp only [fa]
      refine ld hk2.sat hq rfl ?_
      have hk' : lk l c.super = none ∨ rank l c.super < k := by
        cases hd2 : lk l c.super with
        | none => exact .inl rfl
        | some e =>
          right
          have := rank_up ok.acy hd (by simp [ups]) hd2
          rcases hk with hk | hk
          · rw [hk] at hd; cases hd
          · omega
      refine ih hk' f5 hk2.sat (ht.lift ⟨(hk1.trans hk2).le⟩) fun w3 σ3 hk3 => ?_
      refine x_cat (by simp only [List.length_append, List.length_cons, List.length_nil]; omega) ?_
      refine x_cat (by simp only [List.length_append, List.length_cons, List.length_nil]; omega) ?_
      refine ld hk3.sat (hq.up hk3) rfl ?_
      have f2 := (f2.up hk2).up hk3
      have hS3 := (hk1.trans hk2).trans hk3
      refine len_slK f2 ?_
      refine lp_up2 c.fields.length (fun i a w' => ∃ σ', Stp w σ w' σ' ∧ SLe σ3 σ' ∧ a = S (n ++ [40] ++ printM l c.super ++ [41] ++ (c.fields.take i).flatMap fldText)) ⟨σ3, hS3, SLe.refl _, by simp⟩ fun i a w4 d hi hinv => ?_
      obtain ⟨σ4, hS4, le4, rfl⟩ := hinv
      have hfl := flat_take_len hnm hsm i
      refine x_lss ?_
      refine cnd_split (fun hh => ?_) (fun hh => ?_)
      · have hi' : i < c.fields.length := by simpa using hh
        have hff := hnm.2.1 _ (List.getElem_mem hi')
        have hmax : c.fields.length ≤ 9223372036854775807 := f2.max
        refine jn_in ?_
        refine ix_Fld (f2.lift le4) hi' fun p hl1 hr1 => ?_
        refine lda hS4.sat hl1 rfl ?_
        refine alc_st hS4.sat (by rfl) rfl (Rep.one hr1) fun q5 w5 σ5 hk5 hq5 => ?_
        rw [fa]
        refine ld hk5.sat hq5 rfl ?_
        have e5 : (c.fields.take (i + 1)).flatMap fldText = (c.fields.take i).flatMap fldText ++ fldText c.fields[i] := by
          rw [List.take_add_one, List.getElem?_eq_getElem hi', List.flatMap_append]; simp
        cases htr : c.fields[i].tr with
        | true =>
          simp only [↓Mm, Mm, ↓Mr, Mr, Mb, reduceIte]
          intro _
          refine up_next2 hmax hi' ⟨σ5, hS4.trans hk5, le4.more ⟨hk5.le⟩, ?_⟩
          rw [e5]; simp [fldText, htr]
        | false =>
          simp only [↓Mm, Mm, ↓Mr, Mr, Mb, reduceIte]
          refine ld hk5.sat hq5 rfl ?_
          refine x_cat (by simp only [List.length_append, List.length_cons, List.length_nil]; omega) ?_
          refine x_cat (by simp only [List.length_append, List.length_cons, List.length_nil]; omega) ?_
          refine ld hk5.sat hq5 rfl ?_
          refine x_cat (by simp only [List.length_append, List.length_cons, List.length_nil]; omega) ?_
          refine x_cat (by simp only [List.length_append, List.length_cons, List.length_nil]; omega) ?_
          intro _
          (try simp only [↓Mm, Mm, ↓Mr, Mr, Mb, reduceIte])
          refine up_next2 hmax hi' ⟨σ5, hS4.trans hk5, le4.more ⟨hk5.le⟩, ?_⟩
          rw [e5]; simp [fldText, htr]
      · have hi' : ¬ i < c.fields.length := by simpa using hh
        rw [List.take_of_length_le (by omega)] at hfl ⊢
        refine x_cat (by simp only [List.length_append, List.length_cons, List.length_nil]; omega) ?_
        rw [hp] at h
        exact h _ _ hS4
end Go.Proofs.YtdnfaboigajkhaaGreatDoor

set_option autoImplicit false
set_option linter.unusedSimpArgs false
set_option linter.unusedVariables false
namespace Go.Emb
open Go.RowKit Go.Hm
variable {P : Program} {w w0 w1 w' w'' : World} {K : Value → World → Prop} {σ σ0 σ1 σ' : Store}
theorem lookS_put (m : List (List UInt8 × Value)) (k n : List UInt8) (v : Value) : lookS (putS m k v) n = if k = n then some v else lookS m n := by
  induction m with
  | nil => simp [putS, lookS]
  | cons p r ih =>
    simp only [putS]
    by_cases h : p.1 = k
    · rw [if_pos h]
      simp only [lookS]
      by_cases h2 : k = n
      · simp [h2]
      · rw [if_neg h2, if_neg h2, if_neg (by rw [h]; exact h2)]
    · rw [if_neg h]
      simp only [lookS]
      by_cases h2 : p.1 = n
      · rw [if_pos h2, if_pos h2, if_neg (by intro e; exact h (h2.trans e.symm))]
      · rw [if_neg h2, if_neg h2]; exact ih
theorem Acq.shift {B sz : Nat} {e : TypeId} {v : Value} {xs : List (List UInt8)} (h : Acq B e sz RStr σ w v xs) (hk : ∀ k, v.ownBlock = some k → σ' k = none) : Acq B e sz RStr σ' w v xs := by
  obtain ⟨a, cap, rfl, h1, h2, hsp, h3⟩ := h
  refine ⟨a, cap, rfl, h1, h2, fun b hb => ⟨(hsp b hb).1, (hsp b hb).2.1, (hsp b hb).2.2.1, hk _ (by subst hb; rfl)⟩, fun hc => ?_⟩
  obtain ⟨g, off, cur, rfl, q1, q2, q3, q4, q5⟩ := h3 hc
  exact ⟨g, off, cur, rfl, q1, hk g rfl, q3, q4, q5⟩
theorem Kpt.sat {D : Nat → Prop} (hs : Sat w σ) (hk : Kpt D w w') (hd : ∀ k, D k → σ k = none) : Sat w' σ := fun b o e => by
  rw [hk.block b (hs.lt e) fun h => by rw [hd b h] at e; cases e]; exact hs b o e
theorem Nxt.kpt {D D' : Nat → Prop} (h : Nxt D w σ w' σ') (hk : Kpt D' w' w'') (hd : ∀ k, D' k → D k) (hn : ∀ k, D' k → σ' k = none) : Nxt D w σ w'' σ' :=
  ⟨h.kp.trans (hk.mono fun k _ h => hd k h), h.le, h.old, hk.sat h.sat hn⟩
theorem dk_app {t ty : TypeId} {e : TypeId} {by_ : Nat} {z : Value} {cs : List Bool} [ts : TS P t e] [tz : TZ P e 1 by_ z] {B : Nat} {wr : World} {σr σ' : Store} {x' u : Value} {xs : List (List UInt8)} {s : List UInt8}
    (hr : Acq B e 1 RStr σr wr x' xs) (hB : B ≤ wr.heap.size) (h1 : Acq B e 1 RStr σr w1 x' xs) (hn : Nxt (fun k => x'.ownBlock = some k) wr σr w1 σ') (hu : Sl 1 RStr σ' u [s]) (hz : (z.cells.size == 1 && decide (0 < 1)) = true)
    (hb : (xs.length + 1) * by_ ≤ 140737488355328) (hm : xs.length + 1 ≤ 1000000000000) :
    blt P .append [t, t] ty cs [x', u] w1 (dk (TQa B e 1 RStr σr x' xs s) (VQa wr.heap.size B e 1 RStr σr x' xs s) w1) := by
  have hown : ∀ k, x'.ownBlock = some k → σ' k = none := fun k hk => (hn.old k (hr.mem hk).2.1).trans (hr.mem hk).2.2
  refine q_app hn.sat (Nat.le_trans hB hn.kp.size) (h1.shift hown) hu hz (by simpa using hb) (by simpa using hm) fun v' w2 hk2 hs2 ha2 hat => ?_
  have ha2' : Acq B e 1 RStr σr w2 v' (xs ++ [s]) := ha2.shift fun k hk => by
    have := (ha2.mem hk).2.2
    cases hh : σr k with
    | none => rfl
    | some o => rw [hn.le.le _ _ hh] at this; cases this
  refine ⟨⟨hk2.mono fun k _ h => h.1, fun h => ?_, fun a cap he h => ?_⟩, ha2', ?_⟩
  · rcases hat with ⟨a, cap, e1, e2⟩ | ⟨hb, _⟩
    · rw [e2] at ha2'; rw [e1]; exact ha2'.pre rfl
    · exact h.below hb
  · rcases hat with ⟨a', cap', e1, e2⟩ | ⟨hb, _⟩
    · rw [e1] at he; injection he with q1 q2 q3
      subst q1 q3
      rw [e2] at ha2'; exact ha2'
    · exact h.below hb
  · rcases hat with ⟨a, cap, e1, e2⟩ | ⟨hb, h2⟩
    · exact .inl ⟨a, cap, e1, e2⟩
    · exact .inr ⟨fun k hk => Nat.le_trans hn.kp.size (h2 k hk), fun k hk => (hr.mem hk).2.1⟩
end Go.Emb
namespace Go.Hm
open Go.Kd
def clas_ (l : List Cla) (n : Str) : List Cla := (visits l n).filterMap (lk l)
theorem weigh_bound {l : List Cla} (h : ∀ c ∈ l, SmC c) (seen : List Str) : weigh l seen ≤ l.length * 1000001 := by
  unfold weigh
  induction l with
  | nil => simp
  | cons c r ih =>
    have h1 := ih fun c hc => h c (by simp [hc])
    have h2 := (h c (by simp)).1
    simp only [List.map_cons, List.sum_cons, List.length_cons, Nat.add_mul]
    have hu : (ups c).length = c.like.length + 1 := rfl
    split <;> omega
end Go.Hm
namespace Go.Proofs.YtdnfaboigajkhaaGreatDoor
open Go.Emb Go.RowKit Go.Kd Go.Hm
variable {w : World} {K : Value → World → Prop} {σ : Store} {v : Value} {l : List Cla}
theorem s_above {β : Type} {n : Str} {f : Value} (stp : β → Cla → Bool × β) (s0 : β) (Inv : β → World → Prop) (D : Nat → Prop) (hs : Sat w σ) (ht : Tab σ v l) (hl : l.length ≤ 100000) (hsm : ∀ c ∈ l, SmC c) (hn : n.length ≤ Big)
    (hD : ∀ k, D k → k < w.heap.size ∧ σ k = none) (hst : ∀ s w1 w2, Inv s w1 → (∀ k, D k → w2.heap[k]? = w1.heap[k]?) → Inv s w2) (h0 : Inv s0 w)
    (hf : ∀ s c cs (w1 : World) (σ1 : Store) (K : Value → World → Prop), SLe σ σ1 → Sat w1 σ1 → (∀ k, D k → σ1 k = none) → Inv s w1 → RCl σ1 c cs → lk l c.name = some c → (∀ w', Kpt D w1 w' → Inv (stp s c).2 w' → K (.bool (stp s c).1) w') → callV P f [.agg cs.toArray] w1 K)
    (h : ∀ w' σ', Nxt D w σ w' σ' → Inv (scan stp s0 (clas_ l n) 0).2 w' → K (.bool (scan stp s0 (clas_ l n) 0).1.isSome) w') : callF P F.P_hier_Table_above [v, S n, f] w K := r_P_hier_Table_above (by
  unfold g_P_hier_Table_above
  refine bs_acc (R := RStr) (sz := 1) (xs := [n]) (Stp.refl hs) [S n] rfl rfl (by simp; rfl) rfl ⟨⟨rfl, hn⟩, trivial⟩ fun x0 w1 hk1 ha1 _ => ?_
  refine mk_map hk1.sat fun r w2 hr hk2 hm2 => ?_
  have ha2 := Acq.of_acc (ha1.up hk2)
  have hS2 := hk1.trans hk2
  have hrw : w.heap.size ≤ r := Nat.le_trans hk1.bel.size hr
  have hwb : ∀ seen, weigh l seen ≤ 100001000000 := fun seen => by
    have := weigh_bound hsm seen
    have h2 : l.length * 1000001 ≤ 100000 * 1000001 := Nat.mul_le_mul_right _ hl
    omega
  refine lp_ix (fun d x w1 => ∃ (todo seen : List Str) (s : β) (σ1 : Store) (m : List (Str × Value)), d = todo.length + weigh l seen ∧ d ≤ 1 + weigh l [] ∧ Nxt D w σ w1 σ1 ∧ Acq w.heap.size T.string 1 RStr σ1 w1 x todo ∧ MineM σ1 w1 r m ∧ (∀ k, (lookS m k).isSome = decide (k ∈ seen)) ∧ x.ownBlock ≠ some r ∧ Inv s w1 ∧
      visits l n = bfs (lk l) d todo seen ∧ (∃ i, scan stp s0 (clas_ l n) 0 = scan stp s (((visits l n).drop seen.length).filterMap (lk l)) i)) (1 + weigh l []) ?_ ?_
  · refine ⟨[n], [], s0, σ, [], by simp, Nat.le_refl _, Nxt.of_stp hS2, ha2, hm2, by simp [lookS], ?_, hst _ _ _ h0 fun k hk => hS2.bel.block k (hD k hk).1, rfl, 0, by simp [clas_]⟩
    intro e
    have := ha1.mem r e
    omega
  rintro again d x dd w3 ⟨todo, seen, s, σ3, m, hd, hd0, hn3, ha3, hm3, hseen, hxr, hi3, hv, i, hsc⟩ hag
  have hwb0 := hwb []
  have hs3 := hn3.sat
  obtain ⟨pre, hpre⟩ := bfs_pre (lk l) d todo seen
  rw [← hv] at hpre
  have hdrop : (visits l n).drop seen.length = pre := by rw [hpre]; simp
  rw [hdrop] at hsc
  refine q_len ha3 ?_
  refine x_gtr ?_
  cases htodo : todo with
  | nil =>
    subst htodo
    refine cnd_split (fun hh => absurd (of_decide_eq_true hh) (by simp)) (fun _ => ?_)
    have : visits l n = seen := by rw [hv]; cases d <;> rfl
    have hp : pre = [] := by rw [this] at hpre; simpa using hpre
    rw [hp] at hsc
    rw [hsc] at h
    exact h _ _ hn3 hi3
  | cons t rest =>
    subst htodo
    refine cnd_split (fun _ => ?_) (fun hh => absurd (of_decide_eq_false hh) (by simp))
    simp only [List.length_cons] at hd
    refine q_ix (n := 0) ha3 (by simp) fun a cs h1 h2 h3 => ?_
    obtain ⟨rfl, htb⟩ := h3
    simp only [List.getElem_cons_zero] at h1 htb
    have hcell := h1 0 _ rfl
    rw [add_zero] at hcell
    refine ld_cell hcell ?_
    refine q_cut ha3 1 (by simp) fun x' ha3' hown => ?_
    simp only [List.drop_succ_cons, List.drop_zero] at ha3'
    have hxr' : x'.ownBlock ≠ some r := by
      rcases hown with e | e <;> rw [e]
      · exact hxr
      · simp
    rw [look_map u_string hm3.2 t]
    have hd' : d = (rest.length + weigh l seen) + 1 := by omega
    have hv2 := hv
    rw [hd'] at hv2
    simp only [bfs] at hv2
    have skip : (lk l t = none ∨ t ∈ seen) → visits l n = bfs (lk l) (rest.length + weigh l seen) rest seen := by
      rintro (e | e)
      · rw [e] at hv2; exact hv2
      · cases e2 : lk l t with
        | none => rw [e2] at hv2; exact hv2
        | some c => rw [e2] at hv2; simp only [if_pos e] at hv2; exact hv2
    have hskip : (lk l t = none ∨ t ∈ seen) → again x' w3 := fun hsk =>
      hag (rest.length + weigh l seen) x' w3 (by omega) ⟨rest, seen, s, σ3, m, rfl, by omega, hn3, ha3', hm3, hseen, hxr', hi3, skip hsk, i, by rw [hdrop]; exact hsc⟩
    have ht3 := ht.lift hn3.le
    have hsk0 := hseen t
    cases hlm : lookS m t with
    | some u =>
      rw [hlm] at hsk0
      have hin : t ∈ seen := by simpa using hsk0
      simp only [↓Mm, Mm, ↓Mp, Mp, Mb, reduceIte]
      exact hskip (.inr hin)
    | none =>
      rw [hlm] at hsk0
      have hin : t ∉ seen := by simpa using hsk0
      simp only [↓Mm, Mm, ↓Mp, Mp, Mb, reduceIte]
      cases hlt : lk l t with
      | none =>
        refine c_has0 hs3 ht3 hlt ?_
        simp only [↓Mm, Mm, ↓Mp, Mp, Mb, reduceIte]
        exact hskip (.inl hlt)
      | some c =>
        obtain ⟨hcn, hcm, _⟩ := lk_some hlt
        refine c_has1 hs3 ht3 hlt ?_
        simp only [↓Mm, Mm, ↓Mp, Mp, Mb, reduceIte]
        refine map_update u_string hm3 t (I 1) fun w4 hu4 hm4 => ?_
        have hk4 : Kpt (fun k => k = r) w3 w4 := Kpt.of_upd hu4 rfl
        have hs4 : Sat w4 σ3 := hk4.sat hs3 fun k hk => by rw [hk]; exact hm3.1
        have ha4 := ha3'.kp hk4 fun k hk e => hxr' (e ▸ hk)
        have hi4 := hst _ _ _ hi3 fun k hk => hu4.block k (by have := (hD k hk).1; omega)
        have hrl : r < w3.heap.size := hm3.lt
        refine c_class hs4 ht3 hlt fun lv fv mv w5 σ5 hk5 f1 f2 f3 f4 f5 hr5 => ?_
        refine alc_st hk5.sat (by rfl) rfl (Rep.one hr5) fun q w6 σ6 hk6 hq6 => ?_
        refine lda hk6.sat hq6 rfl ?_
        have hk46 := hk5.trans hk6
        have hD4 : ∀ k, D k → k < w4.heap.size := fun k hk => by
          have h1 := (hD k hk).1
          have h2 := hn3.kp.size
          have h3 := hk4.size
          omega
        have hi6 := hst _ _ _ hi4 fun k hk => hk46.bel.block k (hD4 k hk)
        have le6 : SLe σ σ6 := hn3.le.more ⟨hk46.le⟩
        have hD6 : ∀ k, D k → σ6 k = none := fun k hk => by
          rw [hk46.old k (hD4 k hk), hn3.old k (hD k hk).1]; exact (hD k hk).2
        refine hf s c _ w6 σ6 _ le6 hk6.sat hD6 hi6 (RCl_lift hr5 ⟨hk6.le⟩) (by rw [hcn]; exact hlt) fun w7 hk7 hi7 => ?_
        have hs7 : Sat w7 σ6 := hk7.sat hk6.sat hD6
        have hn7 : Nxt D w σ w7 σ6 := ⟨((hn3.kp.more hk4 fun j e => by rw [e]; exact hrw).trans (Kpt.of_below hk46.bel)).trans hk7, le6, fun k hk => by
          rw [hk46.old k (by have := hn3.kp.size; have := hk4.size; omega)]; exact hn3.old k hk, hs7⟩
        have hlow : ∀ k, w.heap.size ≤ k → ¬ D k := fun k hk e => by have := (hD k e).1; omega
        have ha7 := (ha4.up hk46).kp hk7 fun k hk => hlow k ((ha4.mem hk).1)
        have hm7 := (hm4.up hk46).kp hk7 (hlow r hrw)
        have hlm7 : ∀ k, (lookS (putS m t (I 1)) k).isSome = decide (k ∈ seen ++ [t]) := fun k => by
          rw [lookS_put]
          by_cases e : t = k
          · subst e; simp
          · rw [if_neg e, hseen k]; simp [Ne.symm e]
        rw [hlt] at hv2
        simp only [if_neg hin] at hv2
        obtain ⟨pre', hpre'⟩ := bfs_pre (lk l) (rest.length + weigh l seen) (rest ++ ups c) (seen ++ [t])
        have hpt : pre = t :: pre' := by
          have := hpre.symm.trans (hv2.trans hpre')
          simpa using this
        rw [hpt] at hsc
        simp only [List.filterMap_cons, hlt, scan] at hsc
        cases hb : (stp s c).1 with
        | true =>
          rw [hb] at hsc
          simp only [if_true] at hsc
          refine x_cndT ?_
          have := h w7 σ6 hn7
          rw [hsc] at this
          exact this hi7
        | false =>
          rw [hb] at hsc
          simp only [Bool.false_eq_true, if_false] at hsc
          refine x_cndF ?_
          have hsz7 : w.heap.size ≤ w7.heap.size := hn7.kp.size
          have hown7 : ∀ k, x'.ownBlock = some k → σ6 k = none := fun k hk => (ha7.mem hk).2.2
          have hw := weigh_step l seen c hcm (by rw [hcn]; exact hin)
          rw [hcn] at hw
          have hwl := hwb seen
          have hrest : rest.length ≤ 100001000001 := by omega
          have hlike := (hsm c hcm).1
          have hlt7 := hm7.lt
          refine dr_mk (TQa w.heap.size T.string 1 RStr σ6 x' rest c.super) (fun w1 => Kpt (fun k => x'.ownBlock = some k) w7 w1 ∧ Sat w1 σ6 ∧ Acq w.heap.size T.string 1 RStr σ6 w1 x' rest)
            ⟨.of_below (Below.refl _ _).drew, hs7.below (Below.refl _ _).drew, ha7.below (Below.refl _ _).drew⟩ (fun w1 w2 hb ht => ⟨hb.1.trans ht.1, ht.1.sat hb.2.1 hown7, ht.2.1 hb.2.2⟩) ?_
          refine dop_val (.pointer (some (q.add 1))) (fun w hb => by rw [fa]; exact ⟨TQa.refl, rfl⟩) ?_
          refine dop_val (.pointer (some (q.add 2))) (fun w hb => by rw [fa]; exact ⟨TQa.refl, rfl⟩) ?_
          refine dop_val (S c.super) (fun t w hb e => by rw [e]; exact ld hb.2.1 hq6 rfl ⟨TQa.refl, rfl⟩) ?_
          refine dop_mk (fun u w1 => ∃ σ', Nxt (fun k => x'.ownBlock = some k) w7 σ6 w1 σ' ∧ Sl 1 RStr σ' u [c.super]) (fun u w1 w2 e ht => by obtain ⟨σ', h1, h2⟩ := e; exact ⟨σ', h1.kpt ht.1 (fun _ hk => hk) (fun k hk => (h1.old k (ha7.mem hk).2.1).trans (hown7 k hk)), h2⟩) (fun t w1 hb e => ?_) ?_
          · rw [e]
            refine bs_sl (R := RStr) (sz := 1) hb.2.1 [S c.super] [c.super] rfl rfl (by simp; rfl) rfl ⟨⟨rfl, f5⟩, trivial⟩ fun u w2 σ2 hk2 hu => ?_
            have hn0 : Nxt (fun k => x'.ownBlock = some k) w7 σ6 w1 σ6 := ⟨hb.1, SLe.refl _, fun _ _ => rfl, hb.2.1⟩
            exact ⟨TQa.below hk2.bel, σ2, hn0.trans (Nxt.of_stp hk2), hu⟩
          refine dop_mk (VQa w7.heap.size w.heap.size T.string 1 RStr σ6 x' rest c.super) (fun _ _ _ h1 ht => h1.stable ht) (fun u w1 hb e => ?_) ?_
          · obtain ⟨σ', h1, h2⟩ := e
            exact dk_app ha7 hsz7 hb.2.2 h1 h2 rfl (by omega) (by omega)
          refine dop_val lv (fun t w hb e => by rw [e]; exact ld hb.2.1 hq6 rfl ⟨TQa.refl, rfl⟩) ?_
          rintro t46 t50 t47 t48 t49 t51 w8 hb8 _ _ _ _ ⟨ha8, hat8⟩ rfl
          have hr8 : t49.ownBlock ≠ some r := by
            rcases hat8 with ⟨a, cap, e1, e2⟩ | ⟨e1, _⟩
            · rw [e2]; rw [e1] at hxr'; cases a <;> exact hxr'
            · intro e; have := e1 r e; omega
          refine q_app hb8.2.1 (Nat.le_trans hsz7 hb8.1.size) ha8 (f1.up hk6) rfl (by rw [List.length_append, List.length_cons, List.length_nil]; omega) (by rw [List.length_append, List.length_cons, List.length_nil]; omega) fun x'' w9 hk9 hs9 ha9 hat9 => ?_
          have hx9 : x''.ownBlock ≠ some r := by
            rcases hat9 with ⟨a, cap, e1, e2⟩ | ⟨_, e1⟩
            · rw [e2]; rw [e1] at hr8; cases a <;> exact hr8
            · intro e; have := e1 r e; have := hb8.1.size; omega
          have hn9 : Nxt D w σ w9 σ6 := ⟨(hn7.kp.more hb8.1 fun j e => (ha7.mem e).1).more hk9 fun j e => e.2.1, le6, hn7.old, hs9⟩
          have hm9 := (hm7.kp hb8.1 hxr').kp hk9 fun e => hr8 e.1
          have hi9 := hst _ w7 w9 hi7 fun k hk => by
            have h1 := (hD k hk).1
            rw [hk9.block k (by have := hb8.1.size; omega) fun e => by have := e.2.1; omega, hb8.1.block k (by omega) fun e => by have := (ha7.mem e).1; omega]
          have eul : (rest ++ ups c).length = rest.length + 1 + c.like.length := by simp [ups]; omega
          have eul2 : (ups c).length = c.like.length + 1 := rfl
          have hfull : bfs (lk l) (rest.length + weigh l seen) (rest ++ ups c) (seen ++ [t]) = bfs (lk l) ((rest ++ ups c).length + weigh l (seen ++ [t])) (rest ++ ups c) (seen ++ [t]) := by
            have := bfs_more l ((rest ++ ups c).length + weigh l (seen ++ [t])) (rest ++ ups c) (seen ++ [t]) (Nat.le_refl _) (rest.length + weigh l seen - ((rest ++ ups c).length + weigh l (seen ++ [t])))
            rw [← this]; congr 1; omega
          refine hag ((rest ++ ups c).length + weigh l (seen ++ [t])) x'' w9 (by omega) ⟨rest ++ ups c, seen ++ [t], (stp s c).2, σ6, _, rfl, by omega, hn9, ?_, hm9, hlm7, hx9, hi9, hv2.trans hfull, i + 1, ?_⟩
          · have : rest ++ ups c = (rest ++ [c.super]) ++ c.like := by simp [ups]
            rw [this]; exact ha9
          · rw [hsc, hpre, hpt]; simp)
end Go.Proofs.YtdnfaboigajkhaaGreatDoor

set_option autoImplicit false
set_option linter.unusedSimpArgs false
set_option linter.unusedVariables false
namespace Go.Emb
open Go.RowKit Go.Hm
theorem Nxt.stp {w w' : World} {σ σ' : Store} (h : Nxt (fun _ => False) w σ w' σ') : Stp w σ w' σ' := ⟨h.kp.below fun _ => id, h.sat, h.le.le, h.old⟩
end Go.Emb
namespace Go.Hm
open Go.Kd Go.Emb
theorem scan_some {α : Type} (p : α → Bool) : ∀ (xs : List α) (i : Nat), (scan (fun (_ : Unit) x => (p x, ())) () xs i).1.isSome = xs.any p
  | [], _ => rfl
  | x :: r, i => by
    simp only [scan, List.any_cons]
    cases p x with
    | true => simp
    | false => simpa using scan_some p r (i + 1)
theorem clas_any {l : List Cla} (n b : Str) : ((clas_ l n).any fun c => decide (c.name = b)) = (visits l n).contains b := by
  have key : ∀ vs : List Str, (∀ x ∈ vs, ∃ c, lk l x = some c) → ((vs.filterMap (lk l)).any fun c => decide (c.name = b)) = vs.contains b := by
    intro vs
    induction vs with
    | nil => intro _; rfl
    | cons x r ih =>
      intro h
      obtain ⟨c, hc⟩ := h x (by simp)
      rw [List.filterMap_cons, hc]
      simp only [List.any_cons, List.contains_cons]
      rw [ih fun y hy => h y (by simp [hy]), (lk_some hc).1]
      congr 1
      rw [Bool.eq_iff_iff, beq_iff_eq, decide_eq_true_eq]; exact ⟨Eq.symm, Eq.symm⟩
  exact key _ fun x hx => (visits_iff.1 hx).right
end Go.Hm
namespace Go.Proofs.YtdnfaboigajkhaaGreatDoor
open Go.Emb Go.RowKit Go.Kd Go.Hm
variable {w : World} {K : Value → World → Prop} {σ : Store} {v : Value} {l : List Cla}
theorem c_above {n : Str} {f : Value} (p : Cla → Bool) (hs : Sat w σ) (ht : Tab σ v l) (hl : l.length ≤ 100000) (hsm : ∀ c ∈ l, SmC c) (hn : n.length ≤ Big)
    (hf : ∀ c cs (w1 : World) (σ1 : Store) (K : Value → World → Prop), SLe σ σ1 → Sat w1 σ1 → RCl σ1 c cs → (∀ w' σ', Stp w1 σ1 w' σ' → K (.bool (p c)) w') → callV P f [.agg cs.toArray] w1 K)
    (h : ∀ w' σ', Stp w σ w' σ' → K (.bool ((clas_ l n).any p)) w') : callF P F.P_hier_Table_above [v, S n, f] w K := by
  refine s_above (fun (_ : Unit) c => (p c, ())) () (fun _ _ => True) (fun _ => False) hs ht hl hsm hn (fun _ e => e.elim) (fun _ _ _ _ _ => trivial) trivial (fun s c cs w1 σ1 K le hs1 _ _ hr _ hK => hf c cs w1 σ1 K le hs1 hr fun w' σ' hk => hK w' (.of_below hk.bel) trivial) fun w' σ' hn _ => ?_
  rw [scan_some]
  exact h w' σ' hn.stp
theorem c_aboveN {n b : Str} {q : Addr} (hs : Sat w σ) (ht : Tab σ v l) (ok : Ok l) (hn : n.length ≤ Big) (hq : Lies σ q [S b]) (h : ∀ w' σ', Stp w σ w' σ' → K (.bool ((visits l n).contains b)) w') :
    callF P F.P_hier_Table_above [v, S n, .func (.func F.P_hier_Table_Sub_1) #[] #[.pointer (some q)]] w K := by
  refine c_above (fun c => decide (c.name = b)) hs ht ok.len ok.sm hn (fun c cs w1 σ1 K le hs1 hr hK => callV_func (r_P_hier_Table_Sub_1 ?_)) (by rw [clas_any]; exact h)
  obtain ⟨lv, fv, mv, rfl, _⟩ := hr
  unfold g_P_hier_Table_Sub_1
  have hq1 := hq.lift le
  refine x_box hs1 fun a w2 σ2 hk2 ha2 => ?_
  (repeat' (first | (with_reducible intro _) | (with_reducible refine jn_in ?_) | (simp only [↓Mm, Mm, ↓Mp, Mp, Mb, reduceIte]) | (with_reducible first | refine ld aS aL aR ?_ | refine ld0 aS aL aR ?_ | refine lda aS aL aR ?_ | refine len_slK aL ?_ | refine x_fld aR ?_ | refine x_box aS ?_ | refine x_slb aS aL ?_ | refine x_box1 aS aR ?_ | refine alc_st aS aR aR (Rep.one (by assumption)) ?_ | refine alc_st1 aS aR aR aR ?_ | (refine gop_split (fun hh => ?_) (fun hh => ?_) <;> (try simp only [hh, Bool.not_true, Bool.not_false, ↓Mm, Mm, ↓Mp, Mp, Mb, reduceIte])) | (refine cnd_split (fun hh => ?_) (fun hh => ?_) <;> (try simp only [hh, Bool.not_true, Bool.not_false, ↓Mm, Mm, ↓Mp, Mp, Mb, reduceIte])))))
  exact hK _ _ hk2
theorem c_Sub {a b : Str} (hs : Sat w σ) (ht : Tab σ v l) (ok : Ok l) (ha : a.length ≤ Big) (hb : b.length ≤ Big) (h : ∀ w' σ', Stp w σ w' σ' → K (.bool (subM l a b)) w') : callF P F.P_hier_Table_Sub [v, S a, S b] w K := r_P_hier_Table_Sub (by
  unfold g_P_hier_Table_Sub
  unfold subM at h
  refine x_box1 hs rfl fun q w1 σ1 hk1 hq => ?_
  refine c_Kind hk1.sat (ht.lift ⟨hk1.le⟩) ha fun w2 σ2 hk2 => ?_
  have hS2 := hk1.trans hk2
  cases e1 : kindM l a with
  | false =>
    simp only [e1, ↓Mm, Mm, ↓Mp, Mp, Mb, reduceIte, Bool.not_false, Bool.true_or, if_true] at h ⊢
    exact h _ _ hS2
  | true =>
    simp only [e1, ↓Mm, Mm, ↓Mp, Mp, Mb, reduceIte, Bool.not_true, Bool.false_or] at h ⊢
    refine ld0 hk2.sat (hq.up hk2) rfl ?_
    refine c_Kind hk2.sat (ht.lift ⟨hS2.le⟩) hb fun w3 σ3 hk3 => ?_
    have hS3 := hS2.trans hk3
    cases e2 : kindM l b with
    | false =>
      simp only [e2, ↓Mm, Mm, ↓Mp, Mp, Mb, reduceIte, Bool.not_false, if_true] at h ⊢
      exact h _ _ hS3
    | true =>
      simp only [e2, ↓Mm, Mm, ↓Mp, Mp, Mb, reduceIte, Bool.not_true, Bool.false_eq_true, if_false] at h ⊢
      have hq3 := (hq.up hk2).up hk3
      refine ld0 hk3.sat hq3 rfl ?_
      refine x_eqs ?_
      by_cases hab : a = b
      · rw [if_pos hab] at h
        simp only [decide_eq_true hab, ↓Mm, Mm, ↓Mp, Mp, Mb, reduceIte]
        exact h _ _ hS3
      rw [if_neg hab] at h
      simp only [decide_eq_false hab, ↓Mm, Mm, ↓Mp, Mp, Mb, reduceIte]
      refine k_Plain a ?_
      cases e3 : plain a with
      | true =>
        simp only [e3, ↓Mm, Mm, ↓Mp, Mp, Mb, reduceIte, Bool.true_or, if_true] at h ⊢
        exact h _ _ hS3
      | false =>
        simp only [e3, ↓Mm, Mm, ↓Mp, Mp, Mb, reduceIte, Bool.false_or] at h ⊢
        refine ld0 hk3.sat hq3 rfl ?_
        refine k_Plain b ?_
        cases e4 : plain b with
        | true =>
          simp only [e4, ↓Mm, Mm, ↓Mp, Mp, Mb, reduceIte, if_true] at h ⊢
          exact h _ _ hS3
        | false =>
          simp only [e4, ↓Mm, Mm, ↓Mp, Mp, Mb, reduceIte, Bool.false_eq_true, if_false] at h ⊢
          by_cases hn : a = sNull
          · rw [if_pos hn] at h
            have e5 : decide (a = [110, 117, 108, 108]) = true := decide_eq_true hn
            simp only [e5, ↓Mm, Mm, ↓Mp, Mp, Mb, reduceIte]
            exact h _ _ hS3
          rw [if_neg hn] at h
          have e5 : decide (a = [110, 117, 108, 108]) = false := decide_eq_false hn
          simp only [e5, ↓Mm, Mm, ↓Mp, Mp, Mb, reduceIte]
          refine k_Elem a (Nat.le_trans ha (by decide)) (below_k hk3.sat fun w4 σ4 hk4 => ?_)
          have hS4 := hS3.trans hk4
          have hq4 := hq3.up hk4
          refine x_nes ?_
          by_cases he : elem a = []
          · rw [if_neg (by simpa using he)] at h
            simp only [decide_eq_true he, ↓Mm, Mm, ↓Mp, Mp, Mb, reduceIte]
            exact c_aboveN hk4.sat (ht.lift ⟨hS4.le⟩) ok ha hq4 fun w5 σ5 hk5 => h _ _ (hS4.trans hk5)
          · rw [if_pos he] at h
            simp only [decide_eq_false he, ↓Mm, Mm, ↓Mp, Mp, Mb, reduceIte]
            refine ld0 hk4.sat hq4 rfl ?_
            refine x_eqs ?_
            exact h _ _ hS4)
theorem c_Join {a b : Str} (hs : Sat w σ) (ht : Tab σ v l) (ok : Ok l) (ha : a.length ≤ Big) (hb : b.length ≤ Big) (h : ∀ w' σ', Stp w σ w' σ' → K (S (joinM l a b)) w') : callF P F.P_hier_Table_Join [v, S a, S b] w K := r_P_hier_Table_Join (by
  unfold g_P_hier_Table_Join
  unfold joinM at h
  refine c_Sub hs ht ok ha hb fun w1 σ1 hk1 => ?_
  cases e1 : subM l a b with
  | true =>
    simp only [e1, ↓Mm, Mm, ↓Mp, Mp, Mb, reduceIte, if_true] at h ⊢
    exact h _ _ hk1
  | false =>
    simp only [e1, ↓Mm, Mm, ↓Mp, Mp, Mb, reduceIte, Bool.false_eq_true, if_false] at h ⊢
    refine c_Sub hk1.sat (ht.lift ⟨hk1.le⟩) ok hb ha fun w2 σ2 hk2 => ?_
    have hS2 := hk1.trans hk2
    cases e2 : subM l b a with
    | true =>
      simp only [e2, ↓Mm, Mm, ↓Mp, Mp, Mb, reduceIte, if_true] at h ⊢
      exact h _ _ hS2
    | false =>
      simp only [e2, ↓Mm, Mm, ↓Mp, Mp, Mb, reduceIte, Bool.false_eq_true, if_false] at h ⊢
      refine c_Kind hk2.sat (ht.lift ⟨hS2.le⟩) ha fun w3 σ3 hk3 => ?_
      have hS3 := hS2.trans hk3
      cases e3 : kindM l a with
      | false =>
        simp only [e3, ↓Mm, Mm, ↓Mp, Mp, Mb, reduceIte, Bool.not_false, Bool.true_or, if_true] at h ⊢
        exact h _ _ hS3
      | true =>
        simp only [e3, ↓Mm, Mm, ↓Mp, Mp, Mb, reduceIte, Bool.not_true, Bool.false_or] at h ⊢
        refine c_Kind hk3.sat (ht.lift ⟨hS3.le⟩) hb fun w4 σ4 hk4 => ?_
        have hS4 := hS3.trans hk4
        cases e4 : kindM l b with
        | false =>
          simp only [e4, ↓Mm, Mm, ↓Mp, Mp, Mb, reduceIte, Bool.not_false, Bool.true_or, if_true] at h ⊢
          exact h _ _ hS4
        | true =>
          simp only [e4, ↓Mm, Mm, ↓Mp, Mp, Mb, reduceIte, Bool.not_true, Bool.false_or] at h ⊢
          refine k_Plain a ?_
          cases e5 : plain a with
          | true =>
            simp only [e5, ↓Mm, Mm, ↓Mp, Mp, Mb, reduceIte, Bool.true_or, if_true] at h ⊢
            exact h _ _ hS4
          | false =>
            simp only [e5, ↓Mm, Mm, ↓Mp, Mp, Mb, reduceIte, Bool.false_or] at h ⊢
            refine k_Plain b ?_
            cases e6 : plain b with
            | true =>
              simp only [e6, ↓Mm, Mm, ↓Mp, Mp, Mb, reduceIte, if_true] at h ⊢
              exact h _ _ hS4
            | false =>
              simp only [e6, ↓Mm, Mm, ↓Mp, Mp, Mb, reduceIte, Bool.false_eq_true, if_false] at h ⊢
              refine lp_ix (fun d x w' => ∃ (s : Str) (σ' : Store), x = S s ∧ s.length ≤ Big ∧ Stp w σ w' σ' ∧ d = (chain l s).length ∧ (chain l a).find? (fun c => subM l b c.name) = (chain l s).find? fun c => subM l b c.name) _ ⟨a, σ4, rfl, ha, hS4, rfl, rfl⟩ ?_
              rintro again d x dd w5 ⟨s, σ5, rfl, hsl, hS5, rfl, hfs⟩ hag
              have ht5 := ht.lift ⟨hS5.le⟩
              cases hd : lk l s with
              | none =>
                refine c_has0 hS5.sat ht5 hd ?_
                refine x_cndF ?_
                rw [chain_none hd] at hfs
                rw [hfs] at h
                exact h _ _ hS5
              | some c =>
                have hcn := (lk_some hd).1
                have hch := chain_eq ok.acy s
                rw [hd] at hch
                simp only at hch
                rw [hch, List.find?_cons, hcn] at hfs
                refine c_has1 hS5.sat ht5 hd ?_
                refine x_cndT ?_
                refine c_Sub hS5.sat ht5 ok hb hsl fun w6 σ6 hk6 => ?_
                have hS6 := hS5.trans hk6
                cases e7 : subM l b s with
                | true =>
                  rw [e7] at hfs
                  simp only at hfs
                  refine x_cndT ?_
                  rw [hfs] at h
                  have := h _ _ hS6
                  simp only [hcn] at this
                  exact this
                | false =>
                  rw [e7] at hfs
                  simp only at hfs
                  refine x_cndF ?_
                  refine c_class hS6.sat (ht.lift ⟨hS6.le⟩) hd fun lv fv mv w7 σ7 hk7 f1 f2 f3 f4 f5 hr => ?_
                  refine x_fld (v := S c.super) rfl ?_
                  exact hag _ _ _ (by rw [hch]; simp) ⟨c.super, σ7, rfl, f5, hS6.trans hk7, rfl, hfs⟩)
theorem c_loops {c : Cla} {cs : List Value} (hs : Sat w σ) (ht : Tab σ v l) (hl : l.length ≤ 100000) (hsm : ∀ c ∈ l, SmC c) (hc : RCl σ c cs) (h : ∀ w' σ', Stp w σ w' σ' → K (.bool (loopsM l c)) w') : callF P F.P_hier_Table_loops [v, .agg cs.toArray] w K := r_P_hier_Table_loops (by
  obtain ⟨lv, fv, mv, rfl, g1, g2, g3, g4, g5⟩ := hc
  unfold g_P_hier_Table_loops
  obtain ⟨a, _, _, _, rfl, _⟩ := ht.ex
  refine x_box1 hs rfl fun q w1 σ1 hk1 hq => ?_
  refine x_box hk1.sat fun q2 w2 σ2 hk2 hq2 => ?_
  rw [mk_func, fa]
  have hS2 := hk1.trans hk2
  have back : ∀ {n : Str} {w3 : World} {σ3 : Store} {K : Value → World → Prop}, SLe σ2 σ3 → Sat w3 σ3 → n.length ≤ Big → (∀ w' σ', Stp w3 σ3 w' σ' → K (.bool ((visits l n).contains c.name)) w') →
      callV P (.func (.func F.P_hier_Table_loops_1) #[] #[.pointer (some q), .pointer (some q2)]) [S n] w3 K := by
    intro n w3 σ3 K le hs3 hn hK
    refine callV_func (r_P_hier_Table_loops_1 ?_)
    unfold g_P_hier_Table_loops_1
    refine ld0 hs3 ((hq.up hk2).lift le) rfl ?_
    rw [mk_func]
    have le3 : SLe σ σ3 := SLe.more ⟨hS2.le⟩ le
    refine c_above (fun d => decide (d.name = c.name)) hs3 (ht.lift le3) hl hsm hn (fun d ds w4 σ4 K le4 hs4 hr hK => callV_func (r_P_hier_Table_loops_1_1 ?_)) (by rw [clas_any]; exact hK)
    obtain ⟨lv, fv, mv, rfl, _⟩ := hr
    unfold g_P_hier_Table_loops_1_1
    have hq4 := (hq2.lift le).lift le4
    refine x_box hs4 fun a w5 σ5 hk5 ha5 => ?_
    (repeat' (first | (with_reducible intro _) | (with_reducible refine jn_in ?_) | (simp only [↓Mm, Mm, ↓Mp, Mp, Mb, reduceIte]) | (with_reducible first | refine ld aS aL aR ?_ | refine ld0 aS aL aR ?_ | refine lda aS aL aR ?_ | refine len_slK aL ?_ | refine x_fld aR ?_ | refine x_box aS ?_ | refine x_slb aS aL ?_ | refine x_box1 aS aR ?_ | refine alc_st aS aR aR (Rep.one (by assumption)) ?_ | refine alc_st1 aS aR aR aR ?_ | (refine gop_split (fun hh => ?_) (fun hh => ?_) <;> (try simp only [hh, Bool.not_true, Bool.not_false, ↓Mm, Mm, ↓Mp, Mp, Mb, reduceIte])) | (refine cnd_split (fun hh => ?_) (fun hh => ?_) <;> (try simp only [hh, Bool.not_true, Bool.not_false, ↓Mm, Mm, ↓Mp, Mp, Mb, reduceIte])))))
    exact hK _ _ hk5
  refine ld hk2.sat hq2 rfl ?_
  unfold loopsM at h
  simp only [ups, List.any_cons] at h
  refine back (SLe.refl _) hk2.sat g5 fun w3 σ3 hk3 => ?_
  cases e1 : (visits l c.super).contains c.name with
  | true =>
    rw [e1] at h
    simp only [↓Mm, Mm, ↓Mp, Mp, Mb, reduceIte]
    exact h _ _ (hS2.trans hk3)
  | false =>
    rw [e1, Bool.false_or] at h
    simp only [↓Mm, Mm, ↓Mp, Mp, Mb, reduceIte]
    refine ld hk3.sat (hq2.up hk3) rfl ?_
    refine c_ContainsFunc_string (fun n => (visits l n).contains c.name) hk3.sat (((g1.up hk1).up hk2).up hk3) (fun x w4 K _ hs4 hx hK => back ⟨hk3.le⟩ hs4 hx fun w' σ' hk => hK _ hk.bel) fun w4 hb => ?_
    (try simp only [↓Mm, Mm, ↓Mp, Mp, Mb, reduceIte])
    exact h _ _ ((hS2.trans hk3).trans (Stp.of_below hk3.sat hb)))
end Go.Proofs.YtdnfaboigajkhaaGreatDoor

set_option autoImplicit false
set_option linter.unusedSimpArgs false
set_option linter.unusedVariables false
namespace Go.Hm
open Go.Kd
def nameAt (l : List Cla) (i : Nat) : Str := (l.getD i Cla.zero).name
theorem nameAt_lk {l : List Cla} (ho : Own l) {i : Nat} (hi : i < l.length) : lk l (nameAt l i) = some (l.getD i Cla.zero) := by
  have e : l.getD i Cla.zero = l[i] := by rw [List.getD_eq_getElem?_getD, List.getElem?_eq_getElem hi]; rfl
  unfold nameAt
  rw [e]; exact ho.lk (List.getElem_mem hi)
theorem findC_at {l : List Cla} {u : Str} {j : Nat} (h : findC l u = some j) : j < l.length ∧ nameAt l j = u := by
  obtain ⟨hj, hp, _⟩ := List.findIdx?_eq_some_iff_getElem.1 h
  refine ⟨hj, ?_⟩
  unfold nameAt
  rw [List.getD_eq_getElem?_getD, List.getElem?_eq_getElem hj]
  simpa using hp
theorem up_rank {l : List Cla} (ha : Acy l) (ho : Own l) {i j : Nat} (hi : i < l.length) {u : Str} (hu : u ∈ ups (l.getD i Cla.zero)) (hj : findC l u = some j) : rank l (nameAt l j) < rank l (nameAt l i) := by
  obtain ⟨c, hc, _⟩ := lk_find hj
  rw [(findC_at hj).2]
  exact rank_up ha (nameAt_lk ho hi) hu hc
theorem foldl_congr {α β : Type} {f g : β → α → β} : ∀ (xs : List α) (b : β), (∀ b x, x ∈ xs → f b x = g b x) → xs.foldl f b = xs.foldl g b
  | [], _, _ => rfl
  | x :: r, b, h => by
    rw [List.foldl_cons, List.foldl_cons, h b x (by simp)]
    exact foldl_congr r _ fun b y hy => h b y (by simp [hy])
theorem putN_low {l : List Cla} {frm : Nat} (f : Nat) (out : List Nat) {i : Nat} (h : i < frm) : putN l frm f out i = out := by
  cases f <;> simp [putN, h]
theorem putN_more {l : List Cla} (ha : Acy l) (ho : Own l) {frm : Nat} (hf : 0 < frm) : ∀ (f g : Nat) (out : List Nat) (i : Nat), i < l.length → rank l (nameAt l i) < f → rank l (nameAt l i) < g → putN l frm f out i = putN l frm g out i := by
  intro f
  induction f with
  | zero => intro g out i _ h; omega
  | succ f ih =>
    intro g out i hi h1 h2
    obtain ⟨g, rfl⟩ : ∃ m, g = m + 1 := ⟨g - 1, by omega⟩
    simp only [putN]
    split
    · rfl
    · split
      · rfl
      · congr 1
        refine foldl_congr _ _ fun b u hu => ?_
        cases hj : findC l u with
        | none => simp only [Option.getD_none]; rw [putN_low f b hf, putN_low g b hf]
        | some j =>
          simp only [Option.getD_some]
          have := up_rank ha ho hi hu hj
          exact ih g b j (findC_at hj).1 (by omega) (by omega)
def putM (l : List Cla) (frm : Nat) (out : List Nat) (i : Nat) : List Nat := putN l frm (l.length + 1) out i
theorem putM_eq {l : List Cla} (ha : Acy l) (ho : Own l) {frm : Nat} (hf : 0 < frm) (out : List Nat) {i : Nat} (hi : i < l.length) : putM l frm out i = if i < frm then out else if i ∈ out then out else
    ((ups (l.getD i Cla.zero)).foldl (fun out n => putM l frm out ((findC l n).getD 0)) out) ++ [i] := by
  have hr := rank_le l (nameAt l i)
  unfold putM
  rw [putN]
  split
  · rfl
  · split
    · rfl
    · congr 1
      refine foldl_congr _ _ fun b u hu => ?_
      cases hj : findC l u with
      | none => simp only [Option.getD_none]; rw [putN_low _ b hf, putN_low _ b hf]
      | some j =>
        simp only [Option.getD_some]
        have := up_rank ha ho hi hu hj
        exact putN_more ha ho hf _ _ b j (findC_at hj).1 (by omega) (by omega)
theorem foldl_mem {α : Type} {p : Nat → Prop} {f : List Nat → α → List Nat} : ∀ (xs : List α) (b : List Nat), (∀ b x, x ∈ xs → ∀ y ∈ f b x, y ∈ b ∨ p y) → ∀ y ∈ xs.foldl f b, y ∈ b ∨ p y
  | [], b, _ => fun y hy => .inl hy
  | x :: r, b, h => fun y hy => by
    rw [List.foldl_cons] at hy
    rcases foldl_mem r _ (fun b z hz => h b z (by simp [hz])) y hy with h1 | h1
    · exact h b x (by simp) y h1
    · exact .inr h1
theorem putN_mem {l : List Cla} (ho : Own l) {frm : Nat} (hf : 0 < frm) : ∀ (f : Nat) (out : List Nat) (i : Nat), i < l.length → ∀ y ∈ putN l frm f out i, y ∈ out ∨ (y < l.length ∧ (y = i ∨ Over (lk l) (nameAt l i) (nameAt l y))) := by
  intro f
  induction f with
  | zero => intro out i _ y hy; exact .inl hy
  | succ f ih =>
    intro out i hi y hy
    simp only [putN] at hy
    split at hy
    · exact .inl hy
    · split at hy
      · exact .inl hy
      · rcases List.mem_append.1 hy with hy | hy
        · refine foldl_mem (p := fun y => y < l.length ∧ (y = i ∨ Over (lk l) (nameAt l i) (nameAt l y))) _ _ (fun b u hu y hy => ?_) y hy
          cases hj : findC l u with
          | none =>
            rw [hj] at hy
            simp only [Option.getD_none] at hy
            rw [putN_low f b hf] at hy
            exact .inl hy
          | some j =>
            rw [hj] at hy
            simp only [Option.getD_some] at hy
            obtain ⟨hjl, hjn⟩ := findC_at hj
            obtain ⟨c, hc, _⟩ := lk_find hj
            rcases ih b j hjl y hy with h | ⟨h1, rfl | h2⟩
            · exact .inl h
            · exact .inr ⟨h1, .inr ⟨_, nameAt_lk ho hi, u, hu, by rw [hjn]; exact .refl hc⟩⟩
            · exact .inr ⟨h1, .inr ⟨_, nameAt_lk ho hi, u, hu, by rw [← hjn]; exact h2.reach⟩⟩
        · simp at hy; subst hy; exact .inr ⟨hi, .inl rfl⟩
theorem foldl_keep {α : Type} {q : List Nat → Prop} {f : List Nat → α → List Nat} : ∀ (xs : List α) (b : List Nat), (∀ b x, x ∈ xs → q b → q (f b x)) → q b → q (xs.foldl f b)
  | [], b, _, h => h
  | x :: r, b, hs, h => by
    rw [List.foldl_cons]
    exact foldl_keep r _ (fun b z hz => hs b z (by simp [hz])) (hs b x (by simp) h)
def Few (l : List Cla) (out : List Nat) : Prop := out.Nodup ∧ ∀ y ∈ out, y < l.length
theorem Few.len {l : List Cla} {out : List Nat} (h : Few l out) : out.length ≤ l.length := by
  have key : ∀ (n : Nat) (out : List Nat), out.Nodup → (∀ y ∈ out, y < n) → out.length ≤ n := by
    intro n
    induction n with
    | zero =>
      intro out _ h
      cases out with
      | nil => simp
      | cons a r => have := h a (by simp); omega
    | succ n ih =>
      intro out hn h
      have h1 := ih (out.filter (fun y => !decide (y = n))) (hn.sublist List.filter_sublist) (fun y hy => by
        have := List.mem_filter.1 hy
        have h2 := h y this.1
        have h3 : y ≠ n := by simpa using this.2
        omega)
      have h2 : out.length ≤ (out.filter (fun y => !decide (y = n))).length + 1 := by
        clear h1 h
        induction out with
        | nil => simp
        | cons a r ih2 =>
          obtain ⟨ha, hr⟩ := List.nodup_cons.1 hn
          by_cases e : a = n
          · subst e
            have : r.filter (fun y => !decide (y = a)) = r := List.filter_eq_self.2 fun y hy => by simp; rintro rfl; exact ha hy
            simp [this]
          · have := ih2 hr
            simp [e]; exact this
      omega
  exact key _ _ h.1 h.2
theorem putN_few {l : List Cla} (ha : Acy l) (ho : Own l) {frm : Nat} (hf : 0 < frm) : ∀ (f : Nat) (out : List Nat) (i : Nat), i < l.length → Few l out → Few l (putN l frm f out i) := by
  intro f
  induction f with
  | zero => intro out i _ h; exact h
  | succ f ih =>
    intro out i hi h
    simp only [putN]
    split
    · exact h
    · split
      · exact h
      · rename_i hin
        have hk : Few l ((ups (l.getD i Cla.zero)).foldl (fun out n => putN l frm f out ((findC l n).getD 0)) out) := by
          refine foldl_keep _ _ (fun b u hu hb => ?_) h
          cases hj : findC l u with
          | none => simp only [Option.getD_none]; rw [putN_low f b hf]; exact hb
          | some j => exact ih b j (findC_at hj).1 hb
        have hni : i ∉ (ups (l.getD i Cla.zero)).foldl (fun out n => putN l frm f out ((findC l n).getD 0)) out := by
          intro hmem
          rcases foldl_mem (p := fun y => Over (lk l) (nameAt l i) (nameAt l y)) _ _ (fun b u hu y hy => by
            cases hj : findC l u with
            | none =>
              rw [hj] at hy
              simp only [Option.getD_none] at hy
              rw [putN_low f b hf] at hy
              exact .inl hy
            | some j =>
              rw [hj] at hy
              simp only [Option.getD_some] at hy
              obtain ⟨hjl, hjn⟩ := findC_at hj
              obtain ⟨c, hc, _⟩ := lk_find hj
              rcases putN_mem ho hf f b j hjl y hy with h | ⟨h1, rfl | h2⟩
              · exact .inl h
              · exact .inr ⟨_, nameAt_lk ho hi, u, hu, by rw [hjn]; exact .refl hc⟩
              · exact .inr ⟨_, nameAt_lk ho hi, u, hu, by rw [← hjn]; exact h2.reach⟩) i hmem with h1 | h1
          · exact hin h1
          · exact ha _ h1
        refine ⟨?_, fun y hy => ?_⟩
        · rw [List.nodup_append]
          exact ⟨hk.1, by simp, by rintro a ha b hb rfl; simp at hb; subst hb; exact hni ha⟩
        · rcases List.mem_append.1 hy with hy | hy
          · exact hk.2 y hy
          · simp at hy; omega
end Go.Hm

set_option autoImplicit false
set_option linter.unusedSimpArgs false
set_option linter.unusedVariables false
namespace Go.Emb
open Go.RowKit Go.Hm
variable {P : Program} {w w0 w1 w' w'' : World} {K : Value → World → Prop} {σ σ0 σ1 σ' : Store}
theorem Sl.at {α : Type} {R : Store → α → List Value → Prop} {sz : Nat} {v : Value} {xs : List α} (h : Sl sz R σ v xs) {i : Nat} (hi : i < xs.length) :
    ∃ p cs, Lies σ p cs ∧ cs.length = sz ∧ R σ xs[i] cs ∧ ∀ {P : Program} {t e : TypeId} {by_ : Nat} {z : Value} {w : World} {K : Value → World → Prop} [TS P t e] [TZ P e sz by_ z], K (.pointer (some p)) w → indexAddr P t v (I i) w K := by
  obtain ⟨a, cap, rfl, h2, h3, h4, h5⟩ := h
  cases a with
  | none => have := h4 rfl; omega
  | some b =>
    obtain ⟨cs, g1, g2, g3⟩ := (h5 b rfl).2 i xs[i] (by simp [hi])
    refine ⟨_, cs, g1, g2, g3, ?_⟩
    intro P t e by_ z w K _ _ hK
    rw [ix_raw (by omega) (by omega)]
    simpa using hK
abbrev ints (xs : List Nat) : List Int := xs.map fun n : Nat => (n : Int)
theorem Acc.grow {α : Type} {R : Store → α → List Value → Prop} [hr : Rep R] {B sz : Nat} {e : TypeId} {v : Value} {xs : List α} (h : Acc B e sz R σ w v xs) (le : SLe σ σ') (hk : ∀ k, v.ownBlock = some k → σ' k = none) : Acc B e sz R σ' w v xs := by
  obtain ⟨cells, h1, h2, h3⟩ := h
  exact ⟨cells, h1, hk, fun i x hx => hr.up le.le (h3 i x hx)⟩
end Go.Emb
namespace Go.Proofs.YtdnfaboigajkhaaGreatDoor
open Go.Emb Go.RowKit Go.Kd Go.Hm
variable {w : World} {K : Value → World → Prop} {σ : Store} {v : Value} {l : List Cla}
theorem c_ContainsI {B i : Nat} {xs : List Nat} {x : Value} (ha : Acq B T.int 1 RInt σ w x (ints xs)) (h : K (.bool (decide (i ∈ xs))) w) : callF P F.slices_Contains_S_int_int [x, I i] w K := r_slices_Contains_S_int_int (by
  unfold g_slices_Contains_S_int_int
  have hmax : xs.length ≤ 9223372036854775807 := by
    obtain ⟨a, cap, _, h1, h2, _⟩ := ha
    simp only [maxLen, ints, List.length_map] at h2 h1; omega
  refine r_slices_Index_S_int_int ?_
  unfold g_slices_Index_S_int_int
  refine q_len ha ?_
  have hlm : (ints xs).length = xs.length := by simp
  refine lp_up xs.length (fun n w' => w' = w ∧ i ∉ xs.take n) ⟨rfl, by simp⟩ fun n w' d hn hi => ?_
  obtain ⟨rfl, hi⟩ := hi
  rw [hlm]
  refine x_lss ?_
  refine cnd_split (fun hh => ?_) (fun hh => ?_)
  · have hn' : n < xs.length := by simpa using hh
    refine q_ix ha (by rw [hlm]; exact hn') fun a cs h1 h2 h3 => ?_
    obtain ⟨rfl, _⟩ := h3
    have hc := h1 0 _ rfl
    rw [add_zero] at hc
    refine ld_cell hc ?_
    simp only [List.getElem_map]
    refine x_eql ?_
    refine cnd_split (fun hh2 => ?_) (fun hh2 => ?_)
    · have e : (i : Int) = xs[n] := by simpa using hh2
      have : i = xs[n] := by omega
      have hmem : decide (i ∈ xs) = true := decide_eq_true (by rw [this]; exact List.getElem_mem hn')
      rw [hmem] at h
      refine x_geq ?_
      rw [decide_eq_true (by omega : (0 : Int) ≤ n)]
      exact h
    · have e : ¬ (i : Int) = xs[n] := by simpa using hh2
      refine x_add ?_
      refine up_next hmax hn' ⟨rfl, ?_⟩
      rw [List.take_add_one, List.getElem?_eq_getElem hn']
      simp only [Option.toList_some, List.mem_append, List.mem_singleton, not_or]
      exact ⟨hi, fun e2 => e (by rw [e2])⟩
  · have hn' : ¬ n < xs.length := by simpa using hh
    rw [List.take_of_length_le (by omega)] at hi
    rw [decide_eq_false hi] at h
    refine x_geq ?_
    exact h)
theorem c_walk {w0 : World} {σ0 σb : Store} {pf pt pw : Addr} {bo frm : Nat} (ha : Acy l) (ho : Own l) (hl : l.length ≤ 100000) (hsm : ∀ c ∈ l, SmC c) (hf : 0 < frm) (ht : Tab σb v l) (hpf : Lies σb pf [I frm]) (hpt : Lies σb pt [v])
    (hpw : Lies σb pw [.func (.func F.P_hier_Table_order_1) #[] #[.pointer (some pf), .pointer (some ⟨bo, 0, none⟩), .pointer (some pt), .pointer (some pw)]]) (hbo : w0.heap.size ≤ bo) :
    ∀ (k : Nat) {i : Nat} {out : List Nat} {x : Value} {w1 : World} {σ1 : Store} {K : Value → World → Prop}, i < l.length → (i < frm ∨ rank l (nameAt l i) < k) → SLe σb σ1 → Stp w0 σ0 w1 σ1 → Mine σ1 w1 bo [x] → Acc w0.heap.size T.int 1 RInt σ1 w1 x (ints out) → x.ownBlock ≠ some bo → Few l out →
      (∀ w2 σ2 x', SLe σ1 σ2 → Stp w0 σ0 w2 σ2 → Mine σ2 w2 bo [x'] → Acc w0.heap.size T.int 1 RInt σ2 w2 x' (ints (putM l frm out i)) → x'.ownBlock ≠ some bo → K (.tuple #[]) w2) →
      callV P (.func (.func F.P_hier_Table_order_1) #[] #[.pointer (some pf), .pointer (some ⟨bo, 0, none⟩), .pointer (some pt), .pointer (some pw)]) [I i] w1 K := by
  obtain ⟨a, lv, r, m, rfl, t1, t2, t3, t4⟩ := ht.ex
  intro k
  induction k with
  | zero =>
    intro i out x w1 σ1 K hi hk le hS hm hacc hx hfew h
    have hlow : i < frm := hk.resolve_right (by omega)
    refine callV_func (r_P_hier_Table_order_1 ?_)
    unfold g_P_hier_Table_order_1
    refine ld0 hS.sat (hpf.lift le) rfl ?_
    refine x_lss ?_
    rw [decide_eq_true (by omega : (i : Int) < frm)]
    simp only [↓Mm, Mm, ↓Mp, Mp, Mb, reduceIte]
    have : putM l frm out i = out := putN_low _ _ hlow
    rw [this] at h
    exact h _ _ _ (SLe.refl _) hS hm hacc hx
  | succ k ih =>
    intro i out x w1 σ1 K hi hk le hS hm hacc hx hfew h
    refine callV_func (r_P_hier_Table_order_1 ?_)
    unfold g_P_hier_Table_order_1
    refine ld0 hS.sat (hpf.lift le) rfl ?_
    refine x_lss ?_
    have heq := putM_eq ha ho hf out hi
    by_cases hlow : i < frm
    · rw [decide_eq_true (by omega : (i : Int) < frm)]
      simp only [↓Mm, Mm, ↓Mp, Mp, Mb, reduceIte]
      rw [if_pos hlow] at heq
      rw [heq] at h
      exact h _ _ _ (SLe.refl _) hS hm hacc hx
    rw [if_neg hlow] at heq
    rw [decide_eq_false (by omega : ¬ (i : Int) < frm)]
    simp only [↓Mm, Mm, ↓Mp, Mp, Mb, reduceIte]
    refine ldm0 hm rfl ?_
    refine c_ContainsI (Acq.of_acc hacc) ?_
    by_cases hin : i ∈ out
    · rw [if_pos hin] at heq
      rw [heq] at h
      simp only [decide_eq_true hin, ↓Mm, Mm, ↓Mp, Mp, Mb, reduceIte]
      exact h _ _ _ (SLe.refl _) hS hm hacc hx
    rw [if_neg hin] at heq
    simp only [decide_eq_false hin, ↓Mm, Mm, ↓Mp, Mp, Mb, reduceIte]
    have hrk : rank l (nameAt l i) < k + 1 := hk.resolve_left hlow
    have t1 := t1.lift le
    have t2 := t2.lift le
    have t3 := t3.lift le
    have hpt1 := hpt.lift le
    obtain ⟨p, cs, hp1, hp2, hp3, hp4⟩ := t2.at hi
    obtain ⟨lv', fv, mv, rfl, f1, f2, f3, f4, f5⟩ := hp3
    have eat : l.getD i Cla.zero = l[i] := by rw [List.getD_eq_getElem?_getD, List.getElem?_eq_getElem hi]; rfl
    have hbl := hm.lt
    refine dr_hst hS.sat ?_
    refine dop_val (.pointer (some a)) (fun w hb => ld0 hb.sat hpt1 rfl (dk_same rfl)) ?_
    refine dop_val (.pointer (some a)) (fun t w hb e => by rw [e, nil_ck]; exact dk_same rfl) ?_
    refine dop_val (.pointer (some (a.add 0))) (fun t w hb e => by rw [e, fa]; exact dk_same rfl) ?_
    refine dop_val lv (fun t w hb e => by rw [e]; exact ld hb.sat t1 rfl (dk_same rfl)) ?_
    refine dop_val (.pointer (some p)) (fun t w hb e => by rw [e]; exact hp4 (dk_same rfl)) ?_
    refine dop_val (.pointer (some (p.add 1))) (fun t w hb e => by rw [e, fa]; exact dk_same rfl) ?_
    refine dop_val (S l[i].super) (fun t w hb e => by rw [e]; exact ld hb.sat hp1 rfl (dk_same rfl)) ?_
    refine dop_mk (fun u w => Sat w σ1 ∧ Acc w0.heap.size T.string 1 RStr σ1 w u [l[i].super] ∧ ∀ k, u.ownBlock = some k → w1.heap.size ≤ k) (fun u w2 w3 h hb => ⟨h.1.below hb, h.2.1.up (Stp.of_below h.1 hb), h.2.2⟩) (fun t w hb e => ?_) ?_
    · rw [e]
      refine bs_acc (R := RStr) (sz := 1) (xs := [l[i].super]) (hS.trans hb.stp) [S l[i].super] rfl rfl (by simp; rfl) rfl ⟨⟨rfl, f5⟩, trivial⟩ fun u w2 hk2 hu hou => ?_
      exact ⟨hk2.bel, hk2.sat, hu, fun k hk => Nat.le_trans hb.stp.bel.size (hou k hk)⟩
    refine dop_val (.pointer (some a)) (fun w hb => ld0 hb.sat hpt1 rfl (dk_same rfl)) ?_
    refine dop_val (.pointer (some a)) (fun t w hb e => by rw [e, nil_ck]; exact dk_same rfl) ?_
    refine dop_val (.pointer (some (a.add 0))) (fun t w hb e => by rw [e, fa]; exact dk_same rfl) ?_
    refine dop_val lv (fun t w hb e => by rw [e]; exact ld hb.sat t1 rfl (dk_same rfl)) ?_
    refine dop_val (.pointer (some p)) (fun t w hb e => by rw [e]; exact hp4 (dk_same rfl)) ?_
    refine dop_val (.pointer (some (p.add 2))) (fun t w hb e => by rw [e, fa]; exact dk_same rfl) ?_
    refine dop_val lv' (fun t w hb e => by rw [e]; exact ld hb.sat hp1 rfl (dk_same rfl)) ?_
    rintro t16 t17 t18 t19 t21 t22 t23 t24 t25 t26 t27 t28 t30 t31 t32 w2 hb2 _ _ _ _ _ _ _ ⟨hs2, hu2, hou2⟩ _ _ _ _ _ _ e32
    subst e32
    have hS2 := hS.trans hb2.stp
    have hlike := (hsm _ (List.getElem_mem hi)).1
    have hxl : ∀ j, x.ownBlock = some j → j < w1.heap.size := fun j hj => (hacc.mem j hj).2.1
    have hm2 := hm.step hb2.stp
    have hacc2 := hacc.step hb2.stp
    refine x_app hS2 hu2 f1 rfl (by simp only [List.length_cons, List.length_nil]; omega) (by simp only [List.length_cons, List.length_nil]; omega) fun t33 w3 hn3 hS3 hu3 hat3 => ?_
    have hou3 : ∀ j, t33.ownBlock = some j → w1.heap.size ≤ j := fun j hj => by
      rcases hat3 with e | e
      · exact hou2 j (e ▸ hj)
      · exact Nat.le_trans hb2.stp.bel.size (e j hj)
    have hm3 := hm2.nx hn3 fun e => by have := hou2 _ e; omega
    have hacc3 := hacc2.nx hn3 fun j hj e => by have := hou2 _ e; have := hxl j hj; omega
    obtain ⟨σ4, hS4, hv4, le4, old4⟩ := hu3.keep hS3
    have hv4 : Sl 1 RStr σ4 t33 (ups l[i]) := hv4
    have hm4 : Mine σ4 w3 bo [x] := ⟨(old4 bo fun e => by have := hou3 bo e.symm; omega).trans hm3.1, hm3.2⟩
    have hacc4 : Acc w0.heap.size T.int 1 RInt σ4 w3 x (ints out) := hacc3.grow ⟨le4⟩ fun j hj => (old4 j fun e => by have := hou3 j e.symm; have := hxl j hj; omega).trans (hacc3.mem j hj).2.2
    have le14 : SLe σ1 σ4 := ⟨le4⟩
    refine len_slK hv4 ?_
    refine lp_up (ups l[i]).length (fun n w' => ∃ σ' x', SLe σ4 σ' ∧ Stp w0 σ0 w' σ' ∧ Mine σ' w' bo [x'] ∧ Acc w0.heap.size T.int 1 RInt σ' w' x' (ints (((ups l[i]).take n).foldl (fun out u => putM l frm out ((findC l u).getD 0)) out)) ∧ x'.ownBlock ≠ some bo ∧ Few l (((ups l[i]).take n).foldl (fun out u => putM l frm out ((findC l u).getD 0)) out))
      ⟨σ4, x, SLe.refl _, hS4, hm4, hacc4, hx, hfew⟩ fun n w5 d hn hinv => ?_
    obtain ⟨σ5, x5, le5, hS5, hm5, hacc5, hx5, hfew5⟩ := hinv
    refine x_lss ?_
    have le15 := le14.more le5
    refine cnd_split (fun hh => ?_) (fun hh => ?_)
    · have hn' : n < (ups l[i]).length := by simpa using hh
      refine ix_Str (hv4.lift le5) hn' fun q hq hqb => ?_
      refine ld0 hS5.sat hq rfl ?_
      have e1 : ((ups l[i]).take (n + 1)).foldl (fun out u => putM l frm out ((findC l u).getD 0)) out = putM l frm (((ups l[i]).take n).foldl (fun out u => putM l frm out ((findC l u).getD 0)) out) ((findC l (ups l[i])[n]).getD 0) := by
        rw [List.take_add_one, List.getElem?_eq_getElem hn', List.foldl_append]; rfl
      refine dr_hst hS5.sat ?_
      refine dop_val _ (fun w hb => ld0 hb.sat (hpw.lift (le.more le15)) rfl (dk_same rfl)) ?_
      refine dop_val (.pointer (some a)) (fun w hb => ld0 hb.sat (hpt1.lift le15) rfl (dk_same rfl)) ?_
      refine dop_val (.pointer (some a)) (fun t w hb e => by rw [e, nil_ck]; exact dk_same rfl) ?_
      refine dop_val (.pointer (some (a.add 1))) (fun t w hb e => by rw [e, fa]; exact dk_same rfl) ?_
      refine dop_val (.map (some r)) (fun t w hb e => by rw [e]; exact ld hb.sat (t1.lift le15) rfl (dk_same rfl)) ?_
      refine dop_val (I ((findC l (ups l[i])[n]).getD 0 : Nat)) (fun t w hb e => by
        rw [e, look_map1 u_string ((t3.lift le15).is hb.sat) _, t4]
        cases findC l (ups l[i])[n] <;> exact dk_same rfl) ?_
      rintro t39 t40 t41 t42 t43 t45 w6 hb6 rfl _ _ _ _ rfl
      have hn0 : l.length ≤ 9223372036854775807 := by omega
      refine ih ?_ ?_ (le.more le15) (hS5.trans hb6.stp) (hm5.step hb6.stp) (hacc5.step hb6.stp) hx5 hfew5 fun w7 σ7 x7 le7 hS7 hm7 hacc7 hx7 => ?_
      · cases hj : findC l (ups l[i])[n] with
        | none => simp only [Option.getD_none]; omega
        | some j => exact (findC_at hj).1
      · cases hj : findC l (ups l[i])[n] with
        | none => exact .inl hf
        | some j =>
          right
          have := up_rank ha ho hi (u := (ups l[i])[n]) (by rw [eat]; exact List.getElem_mem hn') hj
          simp only [Option.getD_some]; omega
      · refine x_add ?_
        refine up_next (by have : (ups l[i]).length = l[i].like.length + 1 := rfl; omega) hn' ⟨σ7, x7, le5.more le7, hS7, hm7, ?_, hx7, ?_⟩
        · rw [e1]; exact hacc7
        · rw [e1]
          cases hj : findC l (ups l[i])[n] with
          | none => simp only [Option.getD_none]; rw [show putM l frm _ 0 = _ from putN_low _ _ hf]; exact hfew5
          | some j => exact putN_few ha ho hf _ _ _ (findC_at hj).1 hfew5
    · have hn' : ¬ n < (ups l[i]).length := by simpa using hh
      rw [List.take_of_length_le (by omega)] at hacc5 hfew5
      rw [eat] at heq
      refine ldm0 hm5 rfl ?_
      have hfl := hfew5.len
      refine x_app1 (x := (i : Int)) hS5 hacc5 ⟨rfl, by omega, by omega⟩ rfl rfl rfl (by rw [List.length_map]; omega) (by rw [List.length_map]; omega) fun u x8 w8 σ8 hn8 hS8 hacc8 hat8 => ?_
      have hm8 := hm5.nx hn8 hx5
      have hx8 : x8.ownBlock ≠ some bo := fun e => by
        rcases hat8 with e2 | e2
        · exact hx5 (e2 ▸ e)
        · have := e2 bo e; have := hm5.lt; omega
      have hxc : x8.cells = #[x8] ∧ x8.oneCell' = true := by
        obtain ⟨cells, h1, _⟩ := hacc8
        rcases h1.2 with ⟨rfl, _⟩ | ⟨g, cap, cur, rfl, _⟩ <;> exact ⟨rfl, rfl⟩
      refine st0 hm8 (by simp) hxc.1 hxc.2 fun w9 hu9 hm9 => ?_
      have hS9 := hu9.stp hS8 hbo hm8.1
      have hacc9 : Acc w0.heap.size T.int 1 RInt σ8 w9 x8 (ints (putM l frm out i)) := by
        rw [heq]
        have := hacc8.kp (Kpt.of_upd (D := fun k => k = bo) hu9 rfl) fun k hk e => hx8 (e ▸ hk)
        simpa [ints] using this
      exact h w9 σ8 x8 (le15.more hn8.le) hS9 hm9 hacc9 hx8
theorem c_order {frm : Nat} (hs : Sat w σ) (ht : Tab σ v l) (ha : Acy l) (ho : Own l) (hl : l.length ≤ 100000) (hsm : ∀ c ∈ l, SmC c) (hf : 0 < frm) (hfl : frm ≤ l.length) (h : ∀ v' w' σ', Stp w σ w' σ' → Sl 1 RInt σ' v' (ints (orderM l frm)) → (orderM l frm).length ≤ l.length → (∀ y ∈ orderM l frm, y < l.length) → K v' w') : callF P F.P_hier_Table_order [v, I frm] w K := r_P_hier_Table_order (by
  unfold g_P_hier_Table_order
  have ht0 := ht
  obtain ⟨a, lv, r, m, rfl, t1, t2, t3, t4⟩ := ht.ex
  refine x_box1 hs rfl fun pt w1 σ1 hk1 hpt => ?_
  refine x_box1 hk1.sat rfl fun pf w2 σ2 hk2 hpf => ?_
  refine x_alcm hk2.sat fun bo w3 σ3 hbo hk3 hm3 => ?_
  refine x_alcm hk3.sat fun bw w4 σ4 hbw hk4 hm4 => ?_
  rw [mk_func]
  have hm3' := hm3.step hk4
  have hlt3 := hm3.lt
  have hS4 := ((hk1.trans hk2).trans hk3).trans hk4
  have hbo0 : w.heap.size ≤ bo := own_le hbo (hk1.trans hk2)
  have hbw0 : w.heap.size ≤ bw := own_le hbw ((hk1.trans hk2).trans hk3)
  refine st0 hm4 (by simp [Value.cells]) rfl rfl fun w5 hu5 hm5 => ?_
  have hS5 := hu5.stp hS4 hbw0 hm4.1
  have hm5o := hm3'.upd hu5 (by omega)
  obtain ⟨σ6, hS6, hw6, le6, old6⟩ := hm5.keep hS5 hbw0
  have hm6 : Mine σ6 w5 bo [.slice none 0 0] := ⟨(old6 bo (by omega)).trans hm5o.1, hm5o.2⟩
  have le6 : SLe σ4 σ6 := ⟨le6⟩
  have hpf6 := ((hpf.up hk3).up hk4).lift le6
  have hpt6 := (((hpt.up hk2).up hk3).up hk4).lift le6
  have leall : SLe σ σ6 := SLe.more ⟨hS4.le⟩ le6
  have t1 := t1.lift leall
  have t2 := t2.lift leall
  refine ld0 hS6.sat hpf6 rfl ?_
  have hll : (List.range l.length).length = l.length := List.length_range
  have hz : ([Value.nilFunc].set 0 (Value.func (Fn.func F.P_hier_Table_order_1) #[] #[.pointer (some pf), .pointer (some ⟨bo, 0, none⟩), .pointer (some pt), .pointer (some ⟨bw, 0, none⟩)])) = [Value.func (Fn.func F.P_hier_Table_order_1) #[] #[.pointer (some pf), .pointer (some ⟨bo, 0, none⟩), .pointer (some pt), .pointer (some ⟨bw, 0, none⟩)]] := rfl
  refine lp_ix (fun d x w' => ∃ (i : Nat) (σ' : Store) (x' : Value), x = I i ∧ frm ≤ i ∧ i ≤ l.length ∧ d = l.length - i ∧ SLe σ6 σ' ∧ Stp w σ w' σ' ∧ Mine σ' w' bo [x'] ∧ Acc w.heap.size T.int 1 RInt σ' w' x' (ints (((List.range i).drop frm).foldl (fun out i => putM l frm out i) [])) ∧ x'.ownBlock ≠ some bo ∧ Few l (((List.range i).drop frm).foldl (fun out i => putM l frm out i) [])) _
    ⟨frm, σ6, .slice none 0 0, rfl, Nat.le_refl _, hfl, rfl, SLe.refl _, hS6, hm6, by rw [List.drop_eq_nil_of_le (by simp)]; exact Acc.nil, by simp [Value.ownBlock], by rw [List.drop_eq_nil_of_le (by simp)]; exact ⟨by simp, by simp⟩⟩ ?_
  rintro again d x dd w7 ⟨i, σ7, x7, rfl, hfi, hil, rfl, le7, hS7, hm7, hacc7, hx7, hfew7⟩ hag
  refine ld0 hS7.sat (hpt6.lift le7) rfl ?_
  rw [nil_ck, fa]
  refine ld hS7.sat (t1.lift le7) rfl ?_
  refine len_slK (t2.lift le7) ?_
  refine x_lss ?_
  refine cnd_split (fun hh => ?_) (fun hh => ?_)
  · have hi' : i < l.length := by simpa using hh
    refine ld0 hS7.sat (hw6.lift le7) rfl ?_
    refine c_walk (w0 := w) (σ0 := σ) (σb := σ6) ha ho hl hsm hf (ht0.lift leall) hpf6 hpt6 hw6 hbo0 (rank l (nameAt l i) + 1) hi' (.inr (Nat.lt_succ_self _)) le7 hS7 hm7 hacc7 hx7 hfew7 fun w8 σ8 x8 le8 hS8 hm8 hacc8 hx8 => ?_
    refine x_add64 ⟨by omega, by omega⟩ ?_
    have e1 : ((List.range (i + 1)).drop frm).foldl (fun out i => putM l frm out i) [] = putM l frm (((List.range i).drop frm).foldl (fun out i => putM l frm out i) []) i := by
      rw [List.range_succ, List.drop_append_of_le_length (by simp; omega), List.foldl_append]; rfl
    refine hag _ _ _ (by omega : l.length - (i + 1) < l.length - i) ⟨i + 1, σ8, x8, by simp, by omega, by omega, rfl, le7.more le8, hS8, hm8, ?_, hx8, ?_⟩
    · rw [e1]; exact hacc8
    · rw [e1]; exact putN_few ha ho hf _ _ _ hi' hfew7
  · have hi' : i = l.length := by have : ¬ i < l.length := by simpa using hh
                                  omega
    subst hi'
    refine ldm0 hm7 rfl ?_
    obtain ⟨σ8, hS8, hv8, _, _⟩ := hacc7.keep hS7
    exact h _ _ _ hS8 hv8 hfew7.len hfew7.2)
end Go.Proofs.YtdnfaboigajkhaaGreatDoor

set_option autoImplicit false
set_option linter.unusedSimpArgs false
set_option linter.unusedVariables false
namespace Go.Hm
open Go.Kd
theorem commas_cons (x : Str) (r : List Str) : commas (x :: r) = x ++ Lib.joinTail [44] r := by
  induction r generalizing x with
  | nil => simp [commas, Lib.joinTail]
  | cons y r ih =>
    simp only [commas]
    rw [ih y]
    simp [Lib.joinTail]
theorem commas_join (xs : List Str) : Lib.join xs [44] = commas xs := by
  cases xs with
  | nil => rfl
  | cons x r => rw [Lib.join_cons, commas_cons]
theorem commas_len : ∀ xs : List Str, (∀ x ∈ xs, x.length ≤ 100) → (commas xs).length ≤ xs.length * 101
  | [], _ => by simp [commas]
  | [a], h => by have := h a (by simp); simp [commas]; omega
  | a :: b :: r, h => by
    have h1 := h a (by simp)
    have h2 := commas_len (b :: r) fun x hx => h x (by simp [hx])
    simp only [commas, List.length_append, List.length_cons, List.length_nil, Nat.add_mul] at *
    omega
def NmM (m : Hm.Met) : Prop := m.result.length ≤ 100 ∧ ∀ p ∈ m.params, p.length ≤ 100
end Go.Hm
namespace Go.Proofs.YtdnfaboigajkhaaGreatDoor
open Go.Emb Go.RowKit Go.Kd Go.Hm
variable {w : World} {K : Value → World → Prop} {σ : Store} {v : Value} {l : List Cla}
theorem c_JoinS {xs : List Str} {pv : Value} (hs : Sat w σ) (hv : Sl 1 RStr σ pv xs) (hl : xs.length ≤ 1000000) (hx : ∀ x ∈ xs, x.length ≤ 100) (h : ∀ w', Below w.heap.size w w' → K (S (commas xs)) w') : callF P F.strings_Join [pv, S [44]] w K := by
  obtain ⟨a, cap, rfl, h2, h3, h4, h5⟩ := hv
  have hclen := commas_len xs hx
  have hmul : xs.length * 101 ≤ 1000000 * 101 := Nat.mul_le_mul_right _ hl
  cases a with
  | none =>
    have h0 := h4 rfl
    have hx0 : xs = [] := List.eq_nil_of_length_eq_zero (by omega)
    subst hx0
    refine callF_of (fn := Tryz.f72) Tryz.func72 (by kernel_rfl) (by kernel_rfl) (Calls.mono (Tryz.strings_Join_none none cap ⟨[44].toArray⟩ w) ?_)
    rintro e w' ⟨rfl, rfl⟩
    exact h _ (Below.refl _ _)
  | some b =>
    obtain ⟨hsp, hel⟩ := h5 b rfl
    by_cases hx0 : xs = []
    · subst hx0
      refine callF_of (fn := Tryz.f72) Tryz.func72 (by kernel_rfl) (by kernel_rfl) (Calls.mono (Tryz.strings_Join_none (some b) cap ⟨[44].toArray⟩ w) ?_)
      rintro e w' ⟨rfl, rfl⟩
      exact h _ (Below.refl _ _)
    have hsp := hsp (List.length_pos_iff.2 hx0)
    obtain ⟨bk, o, sp⟩ := b
    simp only at hsp
    subst hsp
    have hcells : ∀ (j : Nat) (x : ByteArray), (xs.map fun s => (⟨s.toArray⟩ : ByteArray))[j]? = some x → w.cell? ⟨bk, o + j, none⟩ = some (.string x) := by
      intro j x hj
      rw [List.getElem?_map] at hj
      cases hxj : xs[j]? with
      | none => rw [hxj] at hj; cases hj
      | some s =>
        rw [hxj] at hj
        cases hj
        obtain ⟨cs, g1, g2, g3⟩ := hel j s hxj
        obtain ⟨rfl, _⟩ := g3
        have := g1.cell hs (i := 0) (v := S s) rfl
        rw [add_zero] at this
        have e : (⟨bk, o, none⟩ : Addr).add (j * 1) = ⟨bk, o + j, none⟩ := by unfold Addr.add; split <;> simp_all
        rw [e] at this; exact this
    have hbk : bk < w.heap.size := by
      obtain ⟨x, r, rfl⟩ : ∃ x r, xs = x :: r := by cases xs with | nil => exact absurd rfl hx0 | cons x r => exact ⟨x, r, rfl⟩
      have := hcells 0 ⟨x.toArray⟩ (by simp)
      exact World.block_lt_of_cell? _ _ this
    have hm : (xs.map fun s => (⟨s.toArray⟩ : ByteArray)).map (·.data.toList) = xs := by rw [List.map_map]; simp [Function.comp_def]
    have hc := Tryz.strings_Join bk o cap (xs.map fun s => (⟨s.toArray⟩ : ByteArray)) ⟨[44].toArray⟩ w hcells hbk (by rw [List.length_map]; omega) (by rw [List.length_map]; exact h2) (by rw [hm]; show (Lib.join xs [44]).length ≤ _; rw [commas_join]; omega)
    rw [hm, List.length_map] at hc
    refine callF_of (fn := Tryz.f72) Tryz.func72 (by kernel_rfl) (by kernel_rfl) (Calls.mono hc ?_)
    rintro e w' ⟨rfl, hb⟩
    have := h w' hb
    rw [← commas_join] at this
    exact this
theorem c_Sign {m : Hm.Met} {cs : List Value} (hs : Sat w σ) (hm : RMe σ m cs) (hsm : SmM m) (hn : NmM m) (h : ∀ w' σ', Stp w σ w' σ' → K (S (sign m)) w') : callF P F.class_Sign [.agg cs.toArray] w K := r_class_Sign (by
  obtain ⟨pv, cv, hv, rfl, g1, g2, g3, g4, g5, g6⟩ := hm
  unfold g_class_Sign
  refine x_box hs fun a w1 σ1 hk1 ha => ?_
  have hcl := commas_len m.params hn.2
  have hmul : m.params.length * 101 ≤ 1000000 * 101 := Nat.mul_le_mul_right _ hsm.1
  refine dr_hst hk1.sat ?_
  refine dop_val (.pointer (some (a.add 1))) (fun w hb => by rw [fa]; exact dk_same rfl) ?_
  refine dop_val (.pointer (some (a.add 2))) (fun w hb => by rw [fa]; exact dk_same rfl) ?_
  refine dop_val pv (fun t w hb e => by rw [e]; exact ld hb.sat ha rfl (dk_same rfl)) ?_
  refine dop_val (S (commas m.params)) (fun t w hb e => by rw [e]; exact c_JoinS hb.sat (g1.up hk1) hsm.1 hn.2 fun w' hb' => dk_val hb' rfl) ?_
  refine dop_val (S ([40] ++ commas m.params)) (fun t w hb e => by rw [e]; exact x_cat (by simp only [List.length_cons, List.length_nil]; omega) (dk_same rfl)) ?_
  refine dop_val (S ([40] ++ commas m.params ++ [41])) (fun t w hb e => by rw [e]; exact x_cat (by simp only [List.length_append, List.length_cons, List.length_nil]; omega) (dk_same rfl)) ?_
  refine dop_val (S m.result) (fun t w hb e => by rw [e]; exact ld hb.sat ha rfl (dk_same rfl)) ?_
  rintro t3 t8 t4 t5 t6 t7 t9 w2 hb2 _ _ _ _ _ rfl rfl
  have := hn.1
  refine x_cat (by simp only [List.length_append, List.length_cons, List.length_nil]; omega) ?_
  exact h _ _ (hk1.trans hb2.stp))
end Go.Proofs.YtdnfaboigajkhaaGreatDoor

set_option autoImplicit false
set_option linter.unusedSimpArgs false
set_option linter.unusedVariables false
namespace Go.Emb
open Go.RowKit Go.Hm
variable {P : Program} {w w0 w1 w' w'' : World} {K : Value → World → Prop} {σ σ0 σ1 σ' : Store}
theorem mod_last {α : Type} (f : α → α) (e : α) : ∀ l : List α, (l ++ [e]).modify l.length f = l ++ [f e]
  | [] => rfl
  | x :: r => by simp [mod_last f e r]
theorem findNow_push (k : List UInt8) (e : MapEntry) (he : e.key = S k) : ∀ (es : List MapEntry) (i : Nat), Instr.findNow .string (S k) es i = some none → Instr.findNow .string (S k) (es ++ [e]) i = some (some (i + es.length, e.val))
  | [], i, _ => by
    simp [Instr.findNow, he, Instr.sameNow, bytes_beq]
  | x :: r, i, h => by
    simp only [Instr.findNow, List.cons_append] at h ⊢
    split at h
    · cases h
    · rename_i hs
      rw [findNow_push k e he r (i + 1) h]
      simp; omega
    · cases h
theorem findNow_mod (k : List UInt8) (u : Value) : ∀ (es : List MapEntry) (i j : Nat) (v : Value), Instr.findNow .string (S k) es i = some (some (j, v)) → i ≤ j ∧ j - i < es.length ∧ Instr.findNow .string (S k) (es.modify (j - i) fun e => { e with val := u }) i = some (some (j, u))
  | [], i, j, v, h => by simp [Instr.findNow] at h
  | x :: r, i, j, v, h => by
    simp only [Instr.findNow] at h
    split at h
    · rename_i hs
      cases h
      refine ⟨Nat.le_refl _, by simp, ?_⟩
      simp only [Nat.sub_self, List.modify_zero_cons, Instr.findNow, hs]
    · rename_i hs
      obtain ⟨h1, h2, h3⟩ := findNow_mod k u r (i + 1) j v h
      refine ⟨by omega, by simp; omega, ?_⟩
      rw [show j - i = (j - (i + 1)) + 1 by omega]
      simp only [List.modify_succ_cons, Instr.findNow, hs]
      exact h3
    · cases h
theorem run_mapEntry_some {t kt et : TypeId} [tm : TM P t kt et] (hk : P.underlying kt = some .string) {r : Nat} {es : Array MapEntry} {clock : Nat} {k : List UInt8} {i : Nat} {v : Value} {e : MapEntry} (hw : w.heap[r]? = some (.map es clock))
    (hf : Instr.findNow .string (S k) es.toList 0 = some (some (i, v))) (he : es[i]? = some e) (hek : e.key = S k) :
    (Instr.mapEntry t (.map (some r)) (S k)).run P w = .ok (.tuple #[v, goInt e.born]) { w with heap := w.heap.setIfInBounds r (.map es clock) } := by
  have hg : (getObj r).run P w = .ok (.map es clock) w := by simp [getObj, Sem.run, hw]
  have hstay : (Instr.keyThatStays (S k) (S k)).run P w = .ok (S k) w := by
    simp [Instr.keyThatStays, Instr.sameBits, bytes_beq]
  have hmod : (es.modify i fun e => { e with key := S k }) = es := by
    apply Array.ext'
    apply List.ext_getElem?
    intro j
    simp only [Array.toList_modify, List.getElem?_modify]
    by_cases hij : i = j
    · subst hij
      rw [Array.getElem?_toList, he]
      simp [← hek]
    · cases es.toList[j]? <;> simp [hij]
  have hset : (setObj r (.map es clock)).run P w = .ok () { w with heap := w.heap.setIfInBounds r (.map es clock) } := by
    simp [setObj, Sem.run, hw]
  simp only [Instr.mapEntry, Sem.run_bind, run_underlying tm.h, Result.andThen_ok, Instr.findKey, run_underlying hk, hf, run_checkKey_S hk, hg, Sem.run_pure]
  simp only [he, Option.map_some, Option.getD_some, hek, hstay, Result.andThen_ok, hmod, hset]
theorem set_same {r : Nat} {o : Obj} (h : w.heap[r]? = some o) : ({ w with heap := w.heap.setIfInBounds r o } : World) = w := by
  have : w.heap.setIfInBounds r o = w.heap := by
    apply Array.ext'
    apply List.ext_getElem?
    intro j
    simp only [Array.toList_setIfInBounds, List.getElem?_set]
    by_cases hj : r = j
    · subst hj
      rw [if_pos rfl]
      have := h
      rw [← Array.getElem?_toList] at this
      rw [this, if_pos (by have := (Array.getElem?_eq_some_iff.1 h).1; simpa using this)]
    · rw [if_neg hj]
  rw [this]
theorem upd_set {r : Nat} {o o' : Obj} (h : w.heap[r]? = some o') : Upd w r { w with heap := w.heap.setIfInBounds r o } ∧ ({ w with heap := w.heap.setIfInBounds r o } : World).heap[r]? = some o := by
  have hl := (Array.getElem?_eq_some_iff.1 h).1
  exact ⟨⟨rfl, rfl, rfl, by simp, fun k hk => by simp only [Array.getElem?_setIfInBounds]; rw [if_neg (by omega)]⟩, by simp [Array.getElem?_setIfInBounds, hl]⟩
structure Ent3 (P : Program) (t : TypeId) (r : Nat) (k : List UInt8) (u : Value) (m : List (List UInt8 × Value)) (O0 O1 O2 : Obj) (stamp : Nat) : Prop where
  same : O0 = O2 → O1 = O0
  put : MapIs (some O2) (putS m k u)
  entry : ∀ {w : World} {K : Value → World → Prop}, (w.heap[r]? = some O0 ∨ w.heap[r]? = some O1 ∨ w.heap[r]? = some O2) → (∀ x w', Upd w r w' → (w.heap[r]? = some O0 → w'.heap[r]? = some O1) → (w.heap[r]? ≠ some O0 → w'.heap[r]? = w.heap[r]?) → K (.tuple #[x, I stamp]) w') → mapEntry P t (.map (some r)) (S k) w K
  store : ∀ {w : World} {K : Value → World → Prop}, (w.heap[r]? = some O1 ∨ w.heap[r]? = some O2) → (∀ w', Upd w r w' → w'.heap[r]? = some O2 → K undef w') → entryStore P t (.map (some r)) (I stamp) u w K
theorem ent3 {t kt et : TypeId} {by_ : Nat} {z : Value} [tm : TM P t kt et] [tz : TZ P et 1 by_ z] (hk : P.underlying kt = some .string) {r : Nat} {m : List (List UInt8 × Value)} (hm : MapIs (w.heap[r]?) m) (k : List UInt8) (u : Value) :
    ∃ O0 O1 O2 stamp, w.heap[r]? = some O0 ∧ Ent3 P t r k u m O0 O1 O2 stamp := by
  obtain ⟨es, clock, h1, h2, h3, h4⟩ := hm
  obtain ⟨r', q1, q2, q3, q4⟩ := findNow_S k es.toList m 0 h2
  -- the array behind it, the place, the stamp
  have fin : ∀ (es1 : Array MapEntry) (clock1 i : Nat) (e1 : MapEntry) (v1 : Value), Instr.findNow .string (S k) es1.toList 0 = some (some (i, v1)) → es1[i]? = some e1 → e1.key = S k → (es1.toList.map (·.born)).Pairwise (· < ·) →
      (Obj.map es clock = .map (es1.modify i fun e => { e with val := u }) clock1 → Obj.map es1 clock1 = Obj.map es clock) → MapIs (some (.map (es1.modify i fun e => { e with val := u }) clock1)) (putS m k u) →
      (∀ {w : World}, w.heap[r]? = some (.map es clock) → ∃ x, (Instr.mapEntry t (.map (some r)) (S k)).run P w = .ok (.tuple #[x, I e1.born]) { w with heap := w.heap.setIfInBounds r (.map es1 clock1) }) →
      ∃ O0 O1 O2 stamp, w.heap[r]? = some O0 ∧ Ent3 P t r k u m O0 O1 O2 stamp := by
    intro es1 clock1 i e1 v1 f1 f2 f3 f4 f5 f6 f7
    obtain ⟨_, hil, f8⟩ := findNow_mod k u es1.toList 0 i v1 f1
    simp only [Nat.sub_zero] at hil f8
    have hil1 : i < es1.size := by simpa using hil
    have f9 : (es1.modify i fun e => { e with val := u })[i]? = some { e1 with val := u } := by
      rw [Array.getElem?_modify, if_pos rfl, f2]; rfl
    have f8' : Instr.findNow .string (S k) (es1.modify i fun e => { e with val := u }).toList 0 = some (some (i, u)) := by
      rw [Array.toList_modify]; exact f8
    have hfind : ∀ (es' : Array MapEntry), es'.toList.map (·.born) = es1.toList.map (·.born) → es'.findIdx? (fun e => (e.born : Int) == e1.born) = some i := by
      intro es' hb
      obtain ⟨le⟩ := es'
      have e0 : (Array.mk le).findIdx? (fun e => (e.born : Int) == e1.born) = le.findIdx? (fun e => (e.born : Int) == e1.born) := List.findIdx?_toArray ..
      rw [e0, List.findIdx?_eq_some_iff_getElem]
      generalize hes' : (Array.mk le) = es' at *
      have hle : le = es'.toList := by rw [← hes']
      subst hle
      have hlen : es'.toList.length = es1.toList.length := by have := congrArg List.length hb; simpa using this
      have hbi : ∀ j (hj : j < es'.toList.length), (es'.toList[j]).born = (es1.toList[j]'(by omega)).born := fun j hj => by
        have h5 : (es'.toList.map (·.born))[j]? = (es1.toList.map (·.born))[j]? := by rw [hb]
        rw [List.getElem?_map, List.getElem?_map, List.getElem?_eq_getElem hj, List.getElem?_eq_getElem (by omega)] at h5
        simpa using h5
      have he1 : es1.toList[i] = e1 := by
        have := f2
        rw [← Array.getElem?_toList, List.getElem?_eq_getElem hil] at this
        simpa using this
      refine ⟨by omega, by rw [hbi i (by omega), he1]; simp, fun j hj => ?_⟩
      have hjl : j < es1.toList.length := by omega
      have := (List.pairwise_iff_getElem.1 f4) j i (by simpa using hjl) (by simpa using hil) hj
      simp only [List.getElem_map] at this
      rw [hbi j (by omega)]
      rw [he1] at this
      simp only [beq_iff_eq]; omega
    have hborn2 : (es1.modify i fun e => { e with val := u }).toList.map (·.born) = es1.toList.map (·.born) := by
      apply List.ext_getElem?
      intro j
      simp only [Array.toList_modify, List.getElem?_map, List.getElem?_modify]
      by_cases hij : i = j <;> cases es1.toList[j]? <;> simp [hij]
    have hmm : (es1.modify i fun e => { e with val := u }).modify i (fun e => { e with val := u }) = es1.modify i fun e => { e with val := u } := by
      apply Array.ext'
      apply List.ext_getElem?
      intro j
      simp only [Array.toList_modify, List.getElem?_modify]
      by_cases hij : i = j <;> cases es1.toList[j]? <;> simp [hij]
    have hstore : ∀ (es' : Array MapEntry) {w : World}, es'.toList.map (·.born) = es1.toList.map (·.born) → w.heap[r]? = some (.map es' clock1) → (Instr.entryStore t (.map (some r)) (I e1.born) u).run P w = .ok () { w with heap := w.heap.setIfInBounds r (.map (es'.modify i fun e => { e with val := u }) clock1) } := by
      intro es' w hb hw
      have hg : (getObj r).run P w = .ok (.map es' clock1) w := by simp [getObj, Sem.run, hw]
      have hset : ∀ o, (setObj r (.map o clock1)).run P w = .ok () { w with heap := w.heap.setIfInBounds r (.map o clock1) } := by
        intro o; simp [setObj, Sem.run, hw]
      simp only [Instr.entryStore, Sem.run_bind, hg, Result.andThen_ok, asInt, Sem.run_pure, asIntOf, hfind es' hb, hset]
    refine ⟨.map es clock, .map es1 clock1, .map (es1.modify i fun e => { e with val := u }) clock1, e1.born, h1, f5, f6, ?_, ?_⟩
    · intro w K hw hK
      unfold mapEntry
      rcases hw with hw | hw | hw
      · obtain ⟨x, hx⟩ := f7 hw
        rw [op_value hx]
        obtain ⟨u1, u2⟩ := upd_set (o := .map es1 clock1) hw
        exact hK x _ u1 (fun _ => u2) fun h => absurd hw h
      · have := run_mapEntry_some (P := P) (t := t) hk hw f1 f2 f3
        rw [set_same hw] at this
        rw [op_value this]
        refine hK _ w ⟨rfl, rfl, rfl, rfl, fun _ _ => rfl⟩ (fun h0 => ?_) fun _ => rfl
        exact hw
      · have := run_mapEntry_some (P := P) (t := t) hk hw f8' f9 f3
        rw [set_same hw] at this
        rw [op_value this]
        refine hK _ w ⟨rfl, rfl, rfl, rfl, fun _ _ => rfl⟩ (fun h0 => ?_) fun _ => rfl
        rw [h0] at hw
        cases hw
        rw [h0, f5 rfl]
    · intro w K hw hK
      unfold entryStore
      rcases hw with hw | hw
      · rw [op_unit (hstore es1 rfl hw)]
        obtain ⟨u1, u2⟩ := upd_set (o := .map (es1.modify i fun e => { e with val := u }) clock1) hw
        exact hK _ u1 u2
      · have := hstore _ hborn2 hw
        rw [hmm, set_same hw] at this
        rw [op_unit this]
        exact hK _ ⟨rfl, rfl, rfl, rfl, fun _ _ => rfl⟩ hw
  cases r' with
  | none =>
    obtain ⟨i, hi, hsz, hby, hzero⟩ := tz.info
    have hz : ∀ w : World, (zeroValue et).run P w = .ok z w := fun w => run_zero_of tz w
    refine fin (es.push { key := S k, val := z, born := clock }) (clock + 1) es.size { key := S k, val := z, born := clock } z ?_ (by simp) rfl ?_ ?_ ?_ ?_
    · have := findNow_push k { key := S k, val := z, born := clock } rfl es.toList 0 q1
      simpa using this
    · simp only [Array.toList_push, List.map_append, List.map_cons, List.map_nil]
      rw [List.pairwise_append]
      refine ⟨h3, by simp, ?_⟩
      intro a ha b hb
      simp at hb; subst hb
      obtain ⟨e, he, rfl⟩ := List.mem_map.1 ha
      exact h4 e he
    · intro e
      injection e with e1 e2
      omega
    · refine ⟨_, _, rfl, ?_, ?_, ?_⟩
      · rw [q4 rfl]
        simp only [Array.toList_modify, Array.toList_push]
        rw [← Array.length_toList, mod_last]
        simp [h2]
      · have : ((es.push { key := S k, val := z, born := clock }).modify es.size fun e => { e with val := u }).toList.map (·.born) = es.toList.map (·.born) ++ [clock] := by
          simp only [Array.toList_modify, Array.toList_push]
          rw [← Array.length_toList, mod_last]
          simp
        rw [this, List.pairwise_append]
        refine ⟨h3, by simp, ?_⟩
        intro a ha b hb
        simp at hb; subst hb
        obtain ⟨e, he, rfl⟩ := List.mem_map.1 ha
        exact h4 e he
      · intro e he
        simp only [Array.toList_modify, Array.toList_push] at he
        rw [← Array.length_toList, mod_last] at he
        rcases List.mem_append.1 he with he | he
        · have := h4 e he; omega
        · simp at he; subst he; simp
    · intro w hw
      have hg : (getObj r).run P w = .ok (.map es clock) w := by simp [getObj, Sem.run, hw]
      have hset : ∀ o c, (setObj r (.map o c)).run P w = .ok () { w with heap := w.heap.setIfInBounds r (.map o c) } := by
        intro o c; simp [setObj, Sem.run, hw]
      refine ⟨z, ?_⟩
      simp only [Instr.mapEntry, Sem.run_bind, run_underlying tm.h, Result.andThen_ok, Instr.findKey, run_underlying hk, q1, run_checkKey_S hk, hg, Sem.run_pure, hz, hset]
      rfl
  | some p =>
    obtain ⟨j, v⟩ := p
    obtain ⟨z1, z2, z3⟩ := q3 j v rfl
    obtain ⟨e, e1, e2⟩ := z2
    simp only [Nat.sub_zero] at e1 z3
    have e1' : es[j]? = some e := by rw [← Array.getElem?_toList]; exact e1
    refine fin es clock j e v q1 e1' e2 h3 (fun _ => rfl) ?_ fun hw => ⟨v, run_mapEntry_some hk hw q1 e1' e2⟩
    refine ⟨_, _, rfl, ?_, ?_, ?_⟩
    · have := z3 u
      rw [← this, Array.toList_modify]
      congr 1
      apply List.ext_getElem?
      intro n
      simp only [List.getElem?_modify]
      by_cases hjn : j = n
      · subst hjn; rw [e1]; simp [e2]
      · simp [hjn]
    · have : (es.modify j fun e => { e with val := u }).toList.map (·.born) = es.toList.map (·.born) := by
        apply List.ext_getElem?
        intro n
        simp only [Array.toList_modify, List.getElem?_map, List.getElem?_modify]
        by_cases hjn : j = n <;> cases es.toList[n]? <;> simp [hjn]
      rw [this]; exact h3
    · intro x hx
      have : x.born ∈ (es.modify j fun e => { e with val := u }).toList.map (·.born) := List.mem_map.2 ⟨x, hx, rfl⟩
      have hb : (es.modify j fun e => { e with val := u }).toList.map (·.born) = es.toList.map (·.born) := by
        apply List.ext_getElem?
        intro n
        simp only [Array.toList_modify, List.getElem?_map, List.getElem?_modify]
        by_cases hjn : j = n <;> cases es.toList[n]? <;> simp [hjn]
      rw [hb] at this
      obtain ⟨y, hy, e⟩ := List.mem_map.1 this
      rw [← e]; exact h4 y hy
end Go.Emb

set_option autoImplicit false
set_option linter.unusedSimpArgs false
set_option linter.unusedVariables false
namespace Go.Hm
open Go.Kd Go.Emb
abbrev Txts := List (Str × Str)
def lookP : Txts → Str → Option Str
  | [], _ => none
  | p :: r, k => if p.1 = k then some p.2 else lookP r k
def putP : Txts → Str → Str → Txts
  | [], k, v => [(k, v)]
  | p :: r, k, v => if p.1 = k then (k, v) :: r else p :: putP r k v
def vals (m : Txts) : List (List UInt8 × Value) := m.map fun p => (p.1, S p.2)
theorem look_vals (m : Txts) (k : Str) : lookS (vals m) k = (lookP m k).map S := by
  induction m with
  | nil => rfl
  | cons p r ih =>
    simp only [vals, List.map_cons, lookS, lookP]
    split
    · rfl
    · exact ih
theorem put_vals (m : Txts) (k v : Str) : putS (vals m) k (S v) = vals (putP m k v) := by
  induction m with
  | nil => rfl
  | cons p r ih =>
    simp only [vals, List.map_cons, putS, putP]
    split
    · rfl
    · rw [List.map_cons]; congr 1
theorem lookP_put (m : Txts) (k v n : Str) : lookP (putP m k v) n = if k = n then some v else lookP m n := by
  induction m with
  | nil => simp [putP, lookP]
  | cons p r ih =>
    simp only [putP]
    by_cases h : p.1 = k
    · rw [if_pos h]
      simp only [lookP]
      by_cases h2 : k = n
      · simp [h2]
      · rw [if_neg h2, if_neg h2, if_neg (by rw [h]; exact h2)]
    · rw [if_neg h]
      simp only [lookP]
      by_cases h2 : p.1 = n
      · rw [if_pos h2, if_pos h2, if_neg (by intro e; exact h (h2.trans e.symm))]
      · rw [if_neg h2, if_neg h2]; exact ih
def stpM (d : Str) (s : Txts × Txts) (m : Hm.Met) : Bool × (Txts × Txts) :=
  ((match lookP s.1 m.name with | some x => !decide (x = sign m) | none => false), (putP s.1 m.name (sign m), putP s.2 m.name d))
end Go.Hm
namespace Go.Emb
open Go.RowKit Go.Hm
theorem MapIs.of_below {w w' : World} {r : Nat} {m : List (List UInt8 × Value)} (h : MapIs (w.heap[r]?) m) (hb : Below w.heap.size w w') : MapIs (w'.heap[r]?) m := by
  obtain ⟨es, clock, h1, h2⟩ := h
  rw [hb.block r (Array.getElem?_eq_some_iff.1 h1).1]
  exact ⟨es, clock, h1, h2⟩
theorem x_look {P : Program} {w : World} {K : Value → World → Prop} {t kt et : TypeId} {sz by_ : Nat} {z : Value} [tm : TM P t kt et] [tz : TZ P et sz by_ z] (hk : P.underlying kt = some .string) {r : Nat} {m : List (List UInt8 × Value)} (hm : MapIs (w.heap[r]?) m) (k : List UInt8)
    (h : K (.tuple #[(lookS m k).getD z, .bool (lookS m k).isSome]) w) : lookup P t (.map (some r)) (S k) true w K := by
  rw [look_map hk hm k]; cases e : lookS m k <;> rw [e] at h <;> exact h
theorem MapIs.lt {w : World} {r : Nat} {m : List (List UInt8 × Value)} (h : MapIs (w.heap[r]?) m) : r < w.heap.size := by
  obtain ⟨es, clock, h1, h2⟩ := h
  exact (Array.getElem?_eq_some_iff.1 h1).1
end Go.Emb
namespace Go.Proofs.YtdnfaboigajkhaaGreatDoor
open Go.Emb Go.RowKit Go.Kd Go.Hm
variable {w : World} {K : Value → World → Prop} {σ : Store} {v : Value} {l : List Cla}
theorem s_3_1 {m : Hm.Met} {cs ds : List Value} {pa pb q : Addr} {r1 r2 : Nat} {s : Txts × Txts} {d : Str} (hs : Sat w σ) (hm : RMe σ m cs) (hsm : SmM m) (hn : NmM m) (hpa : Lies σ pa [.map (some r1)]) (hpb : Lies σ pb [.map (some r2)]) (hq : Lies σ q (S d :: ds))
    (hr1 : σ r1 = none) (hr2 : σ r2 = none) (hne : r1 ≠ r2) (hM1 : MapIs (w.heap[r1]?) (vals s.1)) (hM2 : MapIs (w.heap[r2]?) (vals s.2))
    (h : ∀ w', Kpt (fun k => k = r1 ∨ k = r2) w w' → MapIs (w'.heap[r1]?) (vals (stpM d s m).2.1) → MapIs (w'.heap[r2]?) (vals (stpM d s m).2.2) → K (.bool (stpM d s m).1) w') :
    callF P F.P_hier_Table_members_3_1 [.agg cs.toArray, .pointer (some pa), .pointer (some q), .pointer (some pb)] w K := r_P_hier_Table_members_3_1 (by
  have hm0 := hm
  obtain ⟨pv, cv, hv, rfl, g1, g2, g3, g4, g5, g6⟩ := hm
  unfold g_P_hier_Table_members_3_1
  refine x_box hs fun a w1 σ1 hk1 ha => ?_
  have hl1 := hM1.lt
  have hl2 := hM2.lt
  have hM1 := hM1.of_below hk1.bel
  have hM2 := hM2.of_below hk1.bel
  have hr1' : σ1 r1 = none := (hk1.old r1 hl1).trans hr1
  have hr2' : σ1 r2 = none := (hk1.old r2 hl2).trans hr2
  refine ld0 hk1.sat (hpa.up hk1) rfl ?_
  rw [fa]
  refine ld hk1.sat ha rfl ?_
  refine x_look u_string hM1 m.name ?_
  have hlk : (.tuple #[(lookS (vals s.1) m.name).getD (.string ⟨#[]⟩), .bool (lookS (vals s.1) m.name).isSome] : Value) = .tuple #[S ((lookP s.1 m.name).getD []), .bool (lookP s.1 m.name).isSome] := by
    rw [look_vals]; cases lookP s.1 m.name <;> rfl
  rw [hlk]
  refine x_ext (vs := [_, _]) rfl ?_
  refine x_ext (vs := [_, _]) rfl ?_
  obtain ⟨O0, O1, O2, stamp, hO0, E⟩ := ent3 (P := P) (t := T.M_string_string) u_string hM1 m.name (S (sign m))
  have hl11 := hM1.lt
  refine dr_mk (fun w2 w3 => Kpt (fun k => k = r1) w2 w3 ∧ (w3.heap[r1]? = w2.heap[r1]? ∨ (w2.heap[r1]? = some O0 ∧ O0 ≠ O2 ∧ w3.heap[r1]? = some O1) ∨ w3.heap[r1]? = some O2))
    (fun w2 => Kpt (fun k => k = r1) w1 w2 ∧ Sat w2 σ1 ∧ (w2.heap[r1]? = some O0 ∨ w2.heap[r1]? = some O1 ∨ w2.heap[r1]? = some O2))
    ⟨.of_below (Below.refl _ _).drew, hk1.sat.below (Below.refl _ _).drew, .inl hO0⟩ (fun w2 w3 hb ht => ⟨hb.1.trans ht.1, ht.1.sat hb.2.1 (fun k hk => hk ▸ hr1'), by
      rcases ht.2 with e | ⟨_, _, e⟩ | e
      · rw [e]; exact hb.2.2
      · exact .inr (.inl e)
      · exact .inr (.inr e)⟩) ?_
  refine dop_val (.pointer (some (a.add 0))) (fun w hb => by rw [fa]; exact ⟨⟨Kpt.refl, .inl rfl⟩, rfl⟩) ?_
  refine dop_val (.pointer (some (a.add 0))) (fun w hb => by rw [fa]; exact ⟨⟨Kpt.refl, .inl rfl⟩, rfl⟩) ?_
  refine dop_val (.pointer (some (q.add 0))) (fun w hb => by rw [fa]; exact ⟨⟨Kpt.refl, .inl rfl⟩, rfl⟩) ?_
  refine dop_val (.map (some r1)) (fun w hb => ld0 hb.2.1 (hpa.up hk1) rfl ⟨⟨Kpt.refl, .inl rfl⟩, rfl⟩) ?_
  refine dop_val (S m.name) (fun t w hb e => by rw [e]; exact ld hb.2.1 ha rfl ⟨⟨Kpt.refl, .inl rfl⟩, rfl⟩) ?_
  refine dop_val (.map (some r2)) (fun w hb => ld0 hb.2.1 (hpb.up hk1) rfl ⟨⟨Kpt.refl, .inl rfl⟩, rfl⟩) ?_
  refine dop_val (S m.name) (fun t w hb e => by rw [e]; exact ld hb.2.1 ha rfl ⟨⟨Kpt.refl, .inl rfl⟩, rfl⟩) ?_
  refine dop_val (.agg [S m.name, pv, S m.result, .bool m.abs, I m.locals, cv, hv].toArray) (fun w hb => lda hb.2.1 ha rfl ⟨⟨Kpt.refl, .inl rfl⟩, rfl⟩) ?_
  refine dop_val (S (sign m)) (fun t w2 hb e => by
    rw [e]
    exact c_Sign hb.2.1 (RMe_lift hm0 ⟨hk1.le⟩) hsm hn fun w3 σ3 hk3 => ⟨⟨.of_below hk3.bel, .inl (hk3.bel.block r1 (Nat.lt_of_lt_of_le hl11 hb.1.size))⟩, rfl⟩) ?_
  refine dop_val (S d) (fun t w hb e => by rw [e]; exact ld hb.2.1 (hq.up hk1) rfl ⟨⟨Kpt.refl, .inl rfl⟩, rfl⟩) ?_
  have st : ∀ {w2 w3 : World}, (w2.heap[r1]? = some O1 ∨ w2.heap[r1]? = some O2) → (w3.heap[r1]? = w2.heap[r1]? ∨ (w2.heap[r1]? = some O0 ∧ O0 ≠ O2 ∧ w3.heap[r1]? = some O1) ∨ w3.heap[r1]? = some O2) → (w3.heap[r1]? = some O1 ∨ w3.heap[r1]? = some O2) := by
    intro w2 w3 h1 h2
    rcases h2 with e | ⟨_, _, e⟩ | e
    · rw [e]; exact h1
    · exact .inl e
    · exact .inr e
  refine dop_mk (fun u w2 => (∃ x, u = .tuple #[x, I stamp]) ∧ (w2.heap[r1]? = some O1 ∨ w2.heap[r1]? = some O2)) (fun u w2 w3 h1 ht => ⟨h1.1, st h1.2 ht.2⟩) (fun t15 t17 w2 hb e1 e2 => ?_) ?_
  · rw [e1, e2]
    refine E.entry hb.2.2 fun x w3 hu3 he0 he1 => ?_
    by_cases h0 : w2.heap[r1]? = some O0
    · have h1 := he0 h0
      refine ⟨⟨Kpt.of_upd hu3 rfl, ?_⟩, ⟨x, rfl⟩, .inl h1⟩
      by_cases h02 : O0 = O2
      · left; rw [h1, h0, E.same h02]
      · exact .inr (.inl ⟨h0, h02, h1⟩)
    · have h1 := he1 h0
      refine ⟨⟨Kpt.of_upd hu3 rfl, .inl h1⟩, ⟨x, rfl⟩, ?_⟩
      rw [h1]; exact hb.2.2.resolve_left h0
  refine dop_mk (fun u w2 => u = I stamp ∧ (w2.heap[r1]? = some O1 ∨ w2.heap[r1]? = some O2)) (fun u w2 w3 h1 ht => ⟨h1.1, st h1.2 ht.2⟩) (fun t w2 hb e => ?_) ?_
  · obtain ⟨⟨x, rfl⟩, h1⟩ := e
    exact x_ext (vs := [_, _]) rfl ⟨⟨Kpt.refl, .inl rfl⟩, rfl, h1⟩
  refine dop_mk (fun _ w2 => w2.heap[r1]? = some O2) (fun u w2 w3 h1 ht => ?_) (fun t15 t26 t22 w2 hb e1 e2 e3 => ?_) ?_
  · rcases ht.2 with e | ⟨e, h02, _⟩ | e
    · exact e.trans h1
    · rw [h1] at e; cases e; exact absurd rfl h02
    · exact e
  · rw [e1, e3, e2.1]
    refine E.store e2.2 fun w3 hu3 h3 => ⟨⟨Kpt.of_upd hu3 rfl, .inr (.inr h3)⟩, h3⟩
  rintro t16 t19 t23 t15 t17 t18 t20 t21 t22 t24 t25 t26 u12 w2 hb2 _ _ _ _ _ rfl rfl _ _ rfl _ _ hO2
  have hP1 : MapIs (w2.heap[r1]?) (vals (putP s.1 m.name (sign m))) := by
    rw [hO2, ← put_vals]; exact E.put
  have hP2 : MapIs (w2.heap[r2]?) (vals s.2) := by
    rw [hb2.1.block r2 hM2.lt fun e => hne e.symm]; exact hM2
  refine map_update u_string ⟨hr2', hP2⟩ m.name (S d) fun w3 hu3 hm3 => ?_
  have hP3 : MapIs (w3.heap[r2]?) (vals (putP s.2 m.name d)) := by rw [← put_vals]; exact hm3.2
  have hP13 : MapIs (w3.heap[r1]?) (vals (putP s.1 m.name (sign m))) := by rw [hu3.block r1 hne]; exact hP1
  have hk3 : Kpt (fun k => k = r1 ∨ k = r2) w w3 := ((Kpt.of_below hk1.bel).trans (hb2.1.mono fun k _ h => .inl h)).trans (Kpt.of_upd hu3 (.inr rfl))
  have hs3 : Sat w3 σ1 := (Kpt.of_upd (D := fun k => k = r2) hu3 rfl).sat hb2.2.1 fun k hk => hk ▸ hr2'
  unfold stpM at h
  cases ho : lookP s.1 m.name with
  | none =>
    rw [ho] at h
    simp only [Option.isSome_none, ↓Mm, Mm, ↓Mp, Mp, Mb, reduceIte]
    exact h w3 hk3 hP13 hP3
  | some x =>
    rw [ho] at h
    simp only [Option.isSome_some, Option.getD_some, ↓Mm, Mm, ↓Mp, Mp, Mb, reduceIte]
    refine lda hs3 ha rfl ?_
    refine c_Sign hs3 (RMe_lift hm0 ⟨hk1.le⟩) hsm hn fun w4 σ4 hk4 => ?_
    simp only [↓Mm, Mm, ↓Mp, Mp, Mb, reduceIte]
    exact h w4 (hk3.trans (Kpt.of_below hk4.bel)) (hP13.of_below hk4.bel) (hP3.of_below hk4.bel))
end Go.Proofs.YtdnfaboigajkhaaGreatDoor

set_option autoImplicit false
set_option linter.unusedSimpArgs false
set_option linter.unusedVariables false
namespace Go.Hm
open Go.Kd Go.Emb
def stpC (s : Txts × Txts) (c : Cla) : Bool × (Txts × Txts) := ((scan (stpM c.name) s c.methods 0).1.isSome, (scan (stpM c.name) s c.methods 0).2)
def Clash (ms : List Hm.Met) : Prop := ∃ x ∈ ms, ∃ y ∈ ms, x.name = y.name ∧ sign x ≠ sign y
theorem overs_iff (ms : List Hm.Met) : overs ms = true ↔ Clash ms := by
  simp [overs, Clash]
structure Gd (pre : List Hm.Met) (s : Txts × Txts) : Prop where
  a : ∀ m ∈ pre, lookP s.1 m.name = some (sign m)
  b : ∀ k x, lookP s.1 k = some x → ∃ m ∈ pre, m.name = k ∧ sign m = x
  c : ∀ k, (lookP s.2 k).isSome = true ↔ ∃ m ∈ pre, m.name = k
theorem Gd.no {pre : List Hm.Met} {s : Txts × Txts} (h : Gd pre s) : ¬ Clash pre := by
  rintro ⟨x, hx, y, hy, e1, e2⟩
  have h1 := h.a x hx
  have h2 := h.a y hy
  rw [e1, h2] at h1
  exact e2 (Option.some.inj h1).symm
theorem Gd.step {pre : List Hm.Met} {s : Txts × Txts} (h : Gd pre s) (d : Str) (m : Hm.Met) : ((stpM d s m).1 = true → Clash (pre ++ [m])) ∧ ((stpM d s m).1 = false → Gd (pre ++ [m]) (stpM d s m).2) := by
  unfold stpM
  constructor
  · intro hf
    cases ho : lookP s.1 m.name with
    | none => rw [ho] at hf; cases hf
    | some x =>
      rw [ho] at hf
      obtain ⟨y, hy, e1, e2⟩ := h.b _ _ ho
      exact ⟨y, by simp [hy], m, by simp, e1, by rw [e2]; simpa using hf⟩
  · intro hf
    have hsame : ∀ x, lookP s.1 m.name = some x → x = sign m := fun x hx => by rw [hx] at hf; simpa using hf
    refine ⟨fun y hy => ?_, fun k x hx => ?_, fun k => ?_⟩
    · simp only [lookP_put]
      rcases List.mem_append.1 hy with hy | hy
      · have := h.a y hy
        by_cases e : m.name = y.name
        · rw [if_pos e]; congr 1; exact (hsame _ (by rw [e]; exact this)).symm
        · rw [if_neg e]; exact this
      · simp at hy; subst hy; simp
    · simp only [lookP_put] at hx
      by_cases e : m.name = k
      · rw [if_pos e] at hx; cases hx; exact ⟨m, by simp, e, rfl⟩
      · rw [if_neg e] at hx
        obtain ⟨y, hy, e1⟩ := h.b _ _ hx
        exact ⟨y, by simp [hy], e1⟩
    · simp only [lookP_put]
      by_cases e : m.name = k
      · rw [if_pos e]; exact ⟨fun _ => ⟨m, by simp, e⟩, fun _ => rfl⟩
      · rw [if_neg e, h.c k]
        constructor
        · rintro ⟨y, hy, e1⟩; exact ⟨y, by simp [hy], e1⟩
        · rintro ⟨y, hy, e1⟩
          rcases List.mem_append.1 hy with hy | hy
          · exact ⟨y, hy, e1⟩
          · simp at hy; subst hy; exact absurd e1 e
theorem Clash.mono {a b : List Hm.Met} (h : Clash a) (hs : ∀ x ∈ a, x ∈ b) : Clash b := by
  obtain ⟨x, hx, y, hy, e⟩ := h
  exact ⟨x, hs x hx, y, hs y hy, e⟩
theorem scanM_spec (d : Str) : ∀ (ms pre : List Hm.Met) (s : Txts × Txts) (i : Nat), Gd pre s → ((scan (stpM d) s ms i).1.isSome = true → Clash (pre ++ ms)) ∧ ((scan (stpM d) s ms i).1.isSome = false → Gd (pre ++ ms) (scan (stpM d) s ms i).2)
  | [], pre, s, i, h => by simpa [scan] using h
  | m :: r, pre, s, i, h => by
    obtain ⟨h1, h2⟩ := h.step d m
    simp only [scan]
    cases hf : (stpM d s m).1 with
    | true =>
      simp only [if_true, Option.isSome_some]
      exact ⟨fun _ => (h1 hf).mono fun x hx => by simp at hx ⊢; rcases hx with h | h <;> simp [h], fun e => by cases e⟩
    | false =>
      simp only [Bool.false_eq_true, if_false]
      have := scanM_spec d r (pre ++ [m]) (stpM d s m).2 (i + 1) (h2 hf)
      rw [show pre ++ m :: r = (pre ++ [m]) ++ r by simp]
      exact this
theorem scanC_spec : ∀ (cs : List Cla) (pre : List Hm.Met) (s : Txts × Txts) (i : Nat), Gd pre s → ((scan stpC s cs i).1.isSome = true → Clash (pre ++ cs.flatMap (·.methods))) ∧ ((scan stpC s cs i).1.isSome = false → Gd (pre ++ cs.flatMap (·.methods)) (scan stpC s cs i).2)
  | [], pre, s, i, h => by simpa [scan] using h
  | c :: r, pre, s, i, h => by
    obtain ⟨h1, h2⟩ := scanM_spec c.name c.methods pre s 0 h
    simp only [scan]
    cases hf : (stpC s c).1 with
    | true =>
      simp only [if_true, Option.isSome_some]
      exact ⟨fun _ => (h1 hf).mono (by simp; intro x hx; rcases hx with hx | hx; exact .inl hx; exact .inr (.inl hx)), fun e => by cases e⟩
    | false =>
      simp only [Bool.false_eq_true, if_false]
      have := scanC_spec r (pre ++ c.methods) (stpC s c).2 (i + 1) (h2 hf)
      rw [List.flatMap_cons, ← List.append_assoc]
      exact this
theorem gd_nil : Gd [] ([], []) := ⟨by simp, by simp [lookP], by simp [lookP]⟩
theorem allMets_eq (l : List Cla) (n : Str) : allMets l n = (clas_ l n).flatMap (·.methods) := by
  unfold allMets clas_
  induction visits l n with
  | nil => rfl
  | cons u r ih =>
    rw [List.flatMap_cons, List.filterMap_cons]
    cases hu : lk l u with
    | none => simpa [hu] using ih
    | some c => simp only [Option.map_some, Option.getD_some, List.flatMap_cons]; rw [ih]
end Go.Hm
namespace Go.Emb
open Go.RowKit Go.Hm
variable {P : Program} {w w0 w1 w' w'' : World} {K : Value → World → Prop} {σ σ0 σ1 σ' : Store}
def It (σ : Store) (w : World) (b r : Nat) (es : Array MapEntry) (clock : Nat) (seen : Array Nat) : Prop := σ b = none ∧ ∃ c0, clock ≤ c0 ∧ w.heap[b]? = some (.mapIter (some r) clock seen c0)
theorem It.step {b r : Nat} {es : Array MapEntry} {clock : Nat} {seen : Array Nat} (h : It σ w b r es clock seen) (k : Stp w σ w' σ') : It σ' w' b r es clock seen := by
  obtain ⟨h1, c0, h2, h3⟩ := h
  have hl := (Array.getElem?_eq_some_iff.1 h3).1
  exact ⟨(k.old b hl).trans h1, c0, h2, (k.bel.block b hl).trans h3⟩
theorem x_rng {t kt et : TypeId} [tm : TM P t kt et] {r : Nat} {es : Array MapEntry} {clock : Nat} (hs : Sat w σ) (hm : w.heap[r]? = some (.map es clock))
    (h : ∀ b w' σ', w.heap.size ≤ b → Stp w σ w' σ' → It σ' w' b r es clock #[] → K (.pointer (some ⟨b, 0, none⟩)) w') : rng P t (.map (some r)) w K := by
  unfold rng
  have hg : (getObj r).run P w = .ok (.map es clock) w := by simp [getObj, Sem.run, hm]
  rw [op_value (v := .pointer (some ⟨w.heap.size, 0, none⟩)) (w' := w.alloc (.mapIter (some r) clock #[] clock)) (by
    simp only [Instr.range, Sem.run_bind, run_underlying tm.h, Result.andThen_ok, hg, Sem.run_pure]
    simp)]
  exact h _ _ _ (Nat.le_refl _) (Stp.own hs _) ⟨hs.none (Nat.le_refl _), clock, Nat.le_refl _, heap_alloc_new w _⟩
theorem x_nxt {t : TypeId} {b r : Nat} {es : Array MapEntry} {clock : Nat} {seen : Array Nat} (hi : It σ w b r es clock seen) (hm : w.heap[r]? = some (.map es clock)) (hold : ∀ x ∈ es.toList, x.born < clock)
    (h0 : (∀ e ∈ es.toList, e.born ∈ seen) → K (.tuple #[.bool false]) w)
    (h1 : ∀ e w', e ∈ es.toList → e.born ∉ seen → Kpt (fun k => k = b) w w' → It σ w' b r es clock (seen.push e.born) → w'.heap[b]? = some (.mapIter (some r) clock (seen.push e.born) clock) → K (.tuple #[.bool true, e.key, e.val]) w') : nxt P (.pointer (some ⟨b, 0, none⟩)) false t w K := by
  obtain ⟨hb, c0, hc, hh⟩ := hi
  unfold nxt
  rcases run_next_at (P := P) w t b r clock c0 seen es clock hh hm hold hc with ⟨hz, hrun⟩ | ⟨e, he, w1, hw1, hrun⟩
  · rw [op_value hrun]
    refine h0 fun e he => Classical.byContradiction fun hn => ?_
    have : e ∈ (leftOf es seen).toList := by
      unfold leftOf
      simp only [Array.toList_filter, List.mem_filter]
      exact ⟨he, by simpa using hn⟩
    have hl : (leftOf es seen).toList.length = 0 := by simpa using hz
    rw [List.eq_nil_of_length_eq_zero hl] at this
    cases this
  · rw [op_value hrun]
    have he' : e ∈ es.toList ∧ e.born ∉ seen := by
      unfold leftOf at he
      simp only [Array.toList_filter, List.mem_filter] at he
      exact ⟨he.1, by simpa using he.2⟩
    have hh1 : w1.heap[b]? = some (.mapIter (some r) clock seen c0) := by rcases hw1 with rfl | rfl <;> exact hh
    obtain ⟨u1, u2⟩ := upd_set (w := w1) (o := .mapIter (some r) clock (seen.push e.born) clock) hh1
    refine h1 e _ he'.1 he'.2 ?_ ⟨hb, clock, Nat.le_refl _, u2⟩ u2
    have k1 : Kpt (fun k => k = b) w w1 := by
      rcases hw1 with rfl | rfl
      · exact Kpt.refl
      · exact .of_below (Below.refl _ _).drew
    exact k1.trans (Kpt.of_upd u1 rfl)
theorem x_entr {b r : Nat} {es : Array MapEntry} {clock : Nat} {seen : Array Nat} {e : MapEntry} (hh : w.heap[b]? = some (.mapIter (some r) clock (seen.push e.born) clock)) (hm : w.heap[r]? = some (.map es clock)) (he : e ∈ es.toList) (hn : (es.toList.map (·.born)).Nodup)
    (h : K (.tuple #[e.key, e.val]) w) : entr P (.pointer (some ⟨b, 0, none⟩)) w K := by
  unfold entr
  rw [op_value (run_entry_at w b r clock seen es clock e hh hm he hn)]
  exact h
end Go.Emb
namespace Go.Proofs.YtdnfaboigajkhaaGreatDoor
open Go.Emb Go.RowKit Go.Kd Go.Hm
variable {w : World} {K : Value → World → Prop} {σ : Store} {v : Value} {l : List Cla}
theorem idxI_ge (o : Option Nat) : decide ((0 : Int) ≤ idxI o) = o.isSome := by
  cases o with
  | none => rfl
  | some i => simp [idxI]
theorem c_there {q : Addr} {s : Str} (hs : Sat w σ) (ht : Tab σ v l) (hq : Lies σ q [v]) (hl : s.length ≤ Big) (h : ∀ w' σ', Stp w σ w' σ' → K (.bool (thereM l s)) w') : callV P (.func (.func F.P_hier_Table_members_1) #[] #[.pointer (some q)]) [S s] w K := callV_func (r_P_hier_Table_members_1 (by
  unfold g_P_hier_Table_members_1
  unfold thereM at h
  refine x_nes ?_
  by_cases hn : s = sNull
  · have e : decide (s = [110, 117, 108, 108]) = true := decide_eq_true hn
    simp only [e, decide_eq_true hn, ↓Mm, Mm, ↓Mp, Mp, Mb, reduceIte] at h ⊢
    exact h _ _ (Stp.refl hs)
  · have e : decide (s = [110, 117, 108, 108]) = false := decide_eq_false hn
    simp only [e, decide_eq_false hn, ↓Mm, Mm, ↓Mp, Mp, Mb, reduceIte] at h ⊢
    refine ld0 hs hq rfl ?_
    refine c_Kind hs ht hl fun w1 σ1 hk1 => ?_
    (try simp only [↓Mm, Mm, ↓Mp, Mp, Mb, reduceIte])
    exact h _ _ hk1))
theorem c_notThere {q p : Addr} {s : Str} (hs : Sat w σ) (ht : Tab σ v l) (hq : Lies σ q [v]) (hp : Lies σ p [.func (.func F.P_hier_Table_members_1) #[] #[.pointer (some q)]]) (hl : s.length ≤ Big) (h : ∀ w' σ', Stp w σ w' σ' → K (.bool (!thereM l s)) w') : callV P (.func (.func F.P_hier_Table_members_2) #[] #[.pointer (some p)]) [S s] w K := callV_func (r_P_hier_Table_members_2 (by
  unfold g_P_hier_Table_members_2
  refine ld0 hs hp rfl ?_
  refine c_there hs ht hq hl fun w1 σ1 hk1 => ?_
  refine x_not ?_
  exact h _ _ hk1))
theorem s_members_3 {c : Cla} {cs : List Value} {pa pb : Addr} {r1 r2 : Nat} {s : Txts × Txts} (hs : Sat w σ) (hc : RCl σ c cs) (hsm : SmC c) (hn : Nm c) (hpa : Lies σ pa [.map (some r1)]) (hpb : Lies σ pb [.map (some r2)])
    (hr1 : σ r1 = none) (hr2 : σ r2 = none) (hne : r1 ≠ r2) (hM1 : MapIs (w.heap[r1]?) (vals s.1)) (hM2 : MapIs (w.heap[r2]?) (vals s.2))
    (h : ∀ w', Kpt (fun k => k = r1 ∨ k = r2) w w' → MapIs (w'.heap[r1]?) (vals (stpC s c).2.1) ∧ MapIs (w'.heap[r2]?) (vals (stpC s c).2.2) → K (.bool (stpC s c).1) w') :
    callV P (.func (.func F.P_hier_Table_members_3) #[] #[.pointer (some pa), .pointer (some pb)]) [.agg cs.toArray] w K := callV_func (r_P_hier_Table_members_3 (by
  obtain ⟨lv, fv, mv, rfl, g1, g2, g3, g4, g5⟩ := hc
  unfold g_P_hier_Table_members_3
  refine x_box hs fun q w1 σ1 hk1 hq => ?_
  rw [fa]
  refine ld hk1.sat hq rfl ?_
  rw [mk_func]
  have hl1 := hM1.lt
  have hl2 := hM2.lt
  have hr1' : σ1 r1 = none := (hk1.old r1 hl1).trans hr1
  have hr2' : σ1 r2 = none := (hk1.old r2 hl2).trans hr2
  refine s_ContainsFunc_api_Method (stpM c.name) s (fun s w' => Sat w' σ1 ∧ MapIs (w'.heap[r1]?) (vals s.1) ∧ MapIs (w'.heap[r2]?) (vals s.2)) (fun k => k = r1 ∨ k = r2) (fun _ _ h => h.1) ⟨hk1.sat, hM1.of_below hk1.bel, hM2.of_below hk1.bel⟩ (g3.up hk1)
    (fun s x cs w2 K hx hk2 hi hr hlen hK => callV_func ?_) fun w2 hk2 hi => ?_
  · refine s_3_1 (s := s) (d := c.name) hi.1 hr (hsm.2.2.2 x hx) (hn.2.2 x hx) (hpa.up hk1) (hpb.up hk1) hq hr1' hr2' hne hi.2.1 hi.2.2 fun w3 hk3 h1 h2 => ?_
    exact hK w3 (hk2.trans hk3) ⟨hk3.sat hi.1 fun k hk => by rcases hk with rfl | rfl <;> assumption, h1, h2⟩
  · exact h w2 ((Kpt.of_below hk1.bel).trans hk2) hi.2))
end Go.Proofs.YtdnfaboigajkhaaGreatDoor

set_option autoImplicit false
set_option linter.unusedSimpArgs false
set_option linter.unusedVariables false
namespace Go.Emb
open Go.RowKit Go.Hm
theorem Stp.nx {D : Nat → Prop} {w w1 w2 : World} {σ σ1 σ2 : Store} (hS : Stp w σ w1 σ1) (hn : Nxt D w1 σ1 w2 σ2) (hD : ∀ k, D k → w.heap.size ≤ k) : Stp w σ w2 σ2 :=
  ⟨⟨hn.kp.os.trans hS.bel.os, hn.kp.tape.trans hS.bel.tape, hn.kp.output.trans hS.bel.output, Nat.le_trans hS.bel.size hn.kp.size, fun k hk => (hn.kp.block k (Nat.lt_of_lt_of_le hk hS.bel.size) fun e => by have := hD k e; omega).trans (hS.bel.block k hk)⟩,
    hn.sat, fun b o e => hn.le.le b o (hS.le b o e), fun k hk => (hn.old k (Nat.lt_of_lt_of_le hk hS.bel.size)).trans (hS.old k hk)⟩
end Go.Emb
namespace Go.Hm
open Go.Kd Go.Emb
theorem keys_of {es : Array MapEntry} {m : Txts} (h : es.toList.map (fun e => (e.key, e.val)) = (vals m).map (fun p => (S p.1, p.2))) :
    (∀ e ∈ es.toList, ∃ k, e.key = S k ∧ (lookP m k).isSome = true) ∧ ∀ k, (lookP m k).isSome = true → ∃ e ∈ es.toList, e.key = S k := by
  have mem : ∀ (m : Txts) k, (lookP m k).isSome = true ↔ k ∈ m.map (·.1) := by
    intro m
    induction m with
    | nil => intro k; simp [lookP]
    | cons p r ih =>
      intro k
      simp only [lookP, List.map_cons, List.mem_cons]
      by_cases e : p.1 = k
      · simp [e]
      · rw [if_neg e, ih k]
        constructor
        · exact .inr
        · rintro (h | h)
          · exact absurd h.symm e
          · exact h
  constructor
  · intro e he
    have h1 : (e.key, e.val) ∈ es.toList.map (fun e => (e.key, e.val)) := List.mem_map.2 ⟨e, he, rfl⟩
    rw [h] at h1
    obtain ⟨p, hp, e1⟩ := List.mem_map.1 h1
    obtain ⟨q, hq, rfl⟩ := List.mem_map.1 hp
    simp only [Prod.mk.injEq] at e1
    exact ⟨q.1, e1.1.symm, (mem m _).2 (List.mem_map.2 ⟨q, hq, rfl⟩)⟩
  · intro k hk
    obtain ⟨q, hq, rfl⟩ := List.mem_map.1 ((mem m k).1 hk)
    have h1 : (S q.1, S q.2) ∈ (vals m).map (fun p => (S p.1, p.2)) := List.mem_map.2 ⟨(q.1, S q.2), List.mem_map.2 ⟨q, hq, rfl⟩, rfl⟩
    rw [← h] at h1
    obtain ⟨e, he, e1⟩ := List.mem_map.1 h1
    simp only [Prod.mk.injEq] at e1
    exact ⟨e, he, e1.1⟩
def badMet (l : List Cla) (m : Hm.Met) : Bool := (!thereM l m.result && !decide (m.result = [])) || m.params.any fun s => !thereM l s
end Go.Hm
namespace Go.Proofs.YtdnfaboigajkhaaGreatDoor
open Go.Emb Go.RowKit Go.Kd Go.Hm
variable {w : World} {K : Value → World → Prop} {σ : Store} {v : Value} {l : List Cla}
set_option maxHeartbeats 1000000 in
theorem c_members {c : Cla} {cs : List Value} (hs : Sat w σ) (ht : Tab σ v l) (ok : Ok l) (hc : RCl σ c cs) (hsm : SmC c) (hn : Nm c) (h : ∀ w' σ', Stp w σ w' σ' → K (I (membersM l c)) w') : callF P F.P_hier_Table_members [v, .agg cs.toArray] w K := r_P_hier_Table_members (by
  obtain ⟨lv, fv, mv, rfl, g1, g2, g3, g4, g5⟩ := hc
  unfold g_P_hier_Table_members
  obtain ⟨a, _, _, _, hv, _⟩ := ht.ex
  unfold membersM at h
  refine x_box1 hs (by rw [hv]; rfl) fun q2 w1 σ1 hk1 hq2 => ?_
  refine x_box hk1.sat fun q3 w2 σ2 hk2 hq3 => ?_
  have hS2 := hk1.trans hk2
  have hq2 := hq2.up hk2
  have g1 := (g1.up hk1).up hk2
  have g2 := (g2.up hk1).up hk2
  have g3 := (g3.up hk1).up hk2
  have hmaxf := g2.max
  have hmaxm := g3.max
  rw [fa]
  refine ld hk2.sat hq3 rfl ?_
  refine len_slK g2 ?_
  refine lp_up c.fields.length (fun n w' => ∃ σ', Stp w σ w' σ' ∧ SLe σ2 σ' ∧ ((c.fields.take n).any fun f => (placeM l c.super f.name).isSome) = false) ⟨σ2, hS2, SLe.refl _, by simp⟩ fun n w3 d hn1 hinv => ?_
  obtain ⟨σ3, hS3, le3, hno⟩ := hinv
  refine x_lss ?_
  refine cnd_split (fun hh => ?_) (fun hh => ?_)
  · have hn' : n < c.fields.length := by simpa using hh
    refine ix_Fld (g2.lift le3) hn' fun p hl1 hr1 => ?_
    refine lda hS3.sat hl1 rfl ?_
    refine alc_st hS3.sat (by rfl) rfl (Rep.one hr1) fun q4 w4 σ4 hk4 hq4 => ?_
    have le4 : SLe σ2 σ4 := le3.more ⟨hk4.le⟩
    have hS4 := hS3.trans hk4
    refine ld0 hk4.sat (hq2.lift le4) rfl ?_
    rw [fa]
    refine ld hk4.sat (hq3.lift le4) rfl ?_
    rw [fa]
    refine ld hk4.sat hq4 rfl ?_
    refine c_Place hk4.sat (ht.lift ⟨hS4.le⟩) ok.acy ok.len ok.sm fun w5 σ5 hk5 => ?_
    refine x_geq ?_
    rw [idxI_ge]
    refine cnd_split (fun hh2 => ?_) (fun hh2 => ?_)
    · have : memField l c = true := any_of_lt hn' hh2
      rw [if_pos this] at h
      exact h _ _ (hS4.trans hk5)
    · refine x_add ?_
      refine up_next hmaxf hn' ⟨σ5, hS4.trans hk5, le4.more ⟨hk5.le⟩, ?_⟩
      rw [any_take_succ hn', hno, hh2]; rfl
  have hn' : ¬ n < c.fields.length := by simpa using hh
  rw [any_take_all hn'] at hno
  have hmf : memField l c = false := hno
  rw [if_neg (by rw [hmf]; simp)] at h
  rw [mk_func]
  clear hno hh hn' hn1
  refine alc_st1 hS3.sat (by rfl) rfl rfl fun q7 w4 σ4 hk4 hq7 => ?_
  have le4 : SLe σ2 σ4 := le3.more ⟨hk4.le⟩
  have hS4 := hS3.trans hk4
  have hq2 := hq2.lift le4
  have hq3 := hq3.lift le4
  have g1 := g1.lift le4
  have g2 := g2.lift le4
  have g3 := g3.lift le4
  rw [fa]
  refine ld hk4.sat hq3 rfl ?_
  refine len_slK g2 ?_
  refine lp_up c.fields.length (fun n w' => ∃ σ', Stp w σ w' σ' ∧ SLe σ4 σ' ∧ ((c.fields.take n).any fun f => !thereM l f.kind) = false) ⟨σ4, hS4, SLe.refl _, by simp⟩ fun n w5 d hn1 hinv => ?_
  obtain ⟨σ5, hS5, le5, hno⟩ := hinv
  refine x_lss ?_
  refine cnd_split (fun hh => ?_) (fun hh => ?_)
  · have hn' : n < c.fields.length := by simpa using hh
    refine ix_Fld (g2.lift le5) hn' fun p hl1 hr1 => ?_
    refine lda hS5.sat hl1 rfl ?_
    refine alc_st hS5.sat (by rfl) rfl (Rep.one hr1) fun q9 w6 σ6 hk6 hq9 => ?_
    have le6 : SLe σ4 σ6 := le5.more ⟨hk6.le⟩
    have hS6 := hS5.trans hk6
    refine ld0 hk6.sat (hq7.lift le6) rfl ?_
    rw [fa]
    refine ld hk6.sat hq9 rfl ?_
    refine c_there hk6.sat (ht.lift ⟨hS6.le⟩) (hq2.lift le6) hr1.2.2 fun w7 σ7 hk7 => ?_
    refine x_not ?_
    refine cnd_split (fun hh2 => ?_) (fun hh2 => ?_)
    · have : memKind l c = true := by
        unfold memKind
        rw [any_of_lt (p := fun f : Fld => !thereM l f.kind) hn' hh2]; rfl
      rw [if_pos this] at h
      exact h _ _ (hS6.trans hk7)
    · refine x_add ?_
      refine up_next hmaxf hn' ⟨σ7, hS6.trans hk7, le6.more ⟨hk7.le⟩, ?_⟩
      rw [any_take_succ hn', hno, hh2]; rfl
  have hn' : ¬ n < c.fields.length := by simpa using hh
  rw [any_take_all hn'] at hno
  have hkf := hno
  clear hno hh hn' hn1
  have hq2 := hq2.lift le5
  have hq3 := hq3.lift le5
  have hq7 := hq7.lift le5
  have g3 := g3.lift le5
  rw [fa]
  refine ld hS5.sat hq3 rfl ?_
  refine len_slK g3 ?_
  refine lp_up c.methods.length (fun n w' => ∃ σ', Stp w σ w' σ' ∧ SLe σ5 σ' ∧ ((c.methods.take n).any (badMet l)) = false) ⟨σ5, hS5, SLe.refl _, by simp⟩ fun n w6 d hn1 hinv => ?_
  obtain ⟨σ6, hS6, le6, hno⟩ := hinv
  refine x_lss ?_
  refine cnd_split (fun hh => ?_) (fun hh => ?_)
  · have hn' : n < c.methods.length := by simpa using hh
    refine ix_slN (g3.lift le6) hn' fun p cells hl1 hl2 hr1 => ?_
    refine lda hS6.sat hl1 hl2 ?_
    refine alc_st hS6.sat (by rfl) hl2 (Rep.one hr1) fun q11 w7 σ7 hk7 hq11 => ?_
    obtain ⟨pv, cv, hv', rfl, m1, m2, m3, m4, m5, m6⟩ := hr1
    have le7 : SLe σ5 σ7 := le6.more ⟨hk7.le⟩
    have hS7 := hS6.trans hk7
    have hbad : badMet l c.methods[n] = true → ∀ {w8 : World} {σ8 : Store}, Stp w σ w8 σ8 → K (.int .i64 65) w8 := fun hb w8 σ8 hS8 => by
      have : memKind l c = true := by
        unfold memKind
        have := any_of_lt (p := badMet l) hn' hb
        unfold badMet at this
        rw [this, Bool.or_true]
      rw [if_pos this] at h
      exact h _ _ hS8
    have hgood : badMet l c.methods[n] = false → ∀ {w8 : World} {σ8 : Store}, Stp w σ w8 σ8 → SLe σ5 σ8 → UpI c.methods.length (fun n w' => ∃ σ', Stp w σ w' σ' ∧ SLe σ5 σ' ∧ ((c.methods.take n).any (badMet l)) = false) (.int .i64 (IntKind.i64.wrap (n + 1))) w8 ∧ UpM c.methods.length (.int .i64 (IntKind.i64.wrap (n + 1))) < UpM c.methods.length (I n) := fun hb w8 σ8 hS8 le8 =>
      up_next hmaxm hn' ⟨σ8, hS8, le8, by rw [any_take_succ hn', hno, hb]; rfl⟩
    unfold badMet at hbad hgood
    refine ld0 hk7.sat (hq7.lift le7) rfl ?_
    rw [fa]
    refine ld hk7.sat hq11 rfl ?_
    refine c_there hk7.sat (ht.lift ⟨hS7.le⟩) (hq2.lift le7) m5 fun w8 σ8 hk8 => ?_
    have hS8 := hS7.trans hk8
    have le8 : SLe σ5 σ8 := le7.more ⟨hk8.le⟩
    have hq11 := hq11.up hk8
    have m1 := (m1.up hk7).up hk8
    -- what the parameters come to
    have hpar : ∀ {w8 : World} {σ8 : Store} {K : Value → World → Prop}, Stp w σ w8 σ8 → SLe σ5 σ8 → Sl 1 RStr σ8 pv c.methods[n].params → (∀ w' σ', Stp w8 σ8 w' σ' → K (.bool (c.methods[n].params.any fun s => !thereM l s)) w') → callF P F.slices_ContainsFunc_S_string_string [pv, .func (.func F.P_hier_Table_members_2) #[] #[.pointer (some q7)]] w8 K := by
      intro w8 σ8 K hS8 le8 m1 hK
      refine c_ContainsFunc_string (fun s => !thereM l s) hS8.sat m1 (fun x w9 K _ hs9 hx hK9 => c_notThere hs9 (ht.lift ⟨hS8.le⟩) (hq2.lift le8) (hq7.lift le8) hx fun w' σ' hk => hK9 w' hk.bel) fun w9 hb => hK w9 σ8 (Stp.of_below hS8.sat hb)
    cases e1 : thereM l c.methods[n].result with
    | true =>
      rw [e1] at hbad hgood
      simp only [↓Mm, Mm, ↓Mp, Mp, Mb, reduceIte]
      refine ld hk8.sat hq11 rfl ?_
      (try simp only [↓Mm, Mm, ↓Mp, Mp, Mb, reduceIte])
      refine hpar hS8 le8 m1 fun w9 σ9 hk9 => ?_
      cases e2 : c.methods[n].params.any fun s => !thereM l s with
      | true =>
        rw [e2] at hbad
        simp only [↓Mm, Mm, ↓Mp, Mp, Mb, reduceIte]
        exact hbad rfl (hS8.trans hk9)
      | false =>
        rw [e2] at hgood
        simp only [↓Mm, Mm, ↓Mp, Mp, Mb, reduceIte]
        exact hgood rfl (hS8.trans hk9) (le8.more ⟨hk9.le⟩)
    | false =>
      rw [e1] at hbad hgood
      simp only [↓Mm, Mm, ↓Mp, Mp, Mb, reduceIte]
      refine ld hk8.sat hq11 rfl ?_
      simp only [↓Mm, Mm, ↓Mp, Mp, Mb, reduceIte]
      by_cases e3 : c.methods[n].result = []
      · rw [decide_eq_true e3] at hbad hgood
        simp only [decide_eq_true e3, ↓Mm, Mm, ↓Mp, Mp, Mb, reduceIte]
        refine ld hk8.sat hq11 rfl ?_
        (try simp only [↓Mm, Mm, ↓Mp, Mp, Mb, reduceIte])
        refine hpar hS8 le8 m1 fun w9 σ9 hk9 => ?_
        cases e2 : c.methods[n].params.any fun s => !thereM l s with
        | true =>
          rw [e2] at hbad
          simp only [↓Mm, Mm, ↓Mp, Mp, Mb, reduceIte]
          exact hbad rfl (hS8.trans hk9)
        | false =>
          rw [e2] at hgood
          simp only [↓Mm, Mm, ↓Mp, Mp, Mb, reduceIte]
          exact hgood rfl (hS8.trans hk9) (le8.more ⟨hk9.le⟩)
      · rw [decide_eq_false e3] at hbad
        simp only [decide_eq_false e3, ↓Mm, Mm, ↓Mp, Mp, Mb, reduceIte]
        exact hbad rfl hS8
  have hn' : ¬ n < c.methods.length := by simpa using hh
  rw [any_take_all hn'] at hno
  have hmk : memKind l c = false := by
    unfold memKind
    unfold badMet at hno
    rw [hkf, hno]; rfl
  rw [if_neg (by rw [hmk]; simp)] at h
  clear hno hh hn' hn1
  have hq2 := hq2.lift le6
  have hq3 := hq3.lift le6
  refine mk_map hS6.sat fun r1 w7 hr1 hk7 hm1 => ?_
  refine mk_map hk7.sat fun r2 w8 hr2 hk8 hm2 => ?_
  have hl1 := hm1.lt
  have hm1 := hm1.up hk8
  have hne : r1 ≠ r2 := by omega
  have hS8 := (hS6.trans hk7).trans hk8
  have hr1w : w.heap.size ≤ r1 := Nat.le_trans hS6.bel.size hr1
  have hr2w : w.heap.size ≤ r2 := own_le hr2 (hS6.trans hk7)
  refine x_alcm hk8.sat fun b1 w9 σ9 hb1 hk9 hb1m => ?_
  refine x_alcm hk9.sat fun b2 w10 σ10 hb2 hk10 hb2m => ?_
  have hb1l := hb1m.lt
  have hm1l := hm1.lt
  have hm2l := hm2.lt
  have hm1 := (hm1.up hk9).up hk10
  have hm2 := (hm2.up hk9).up hk10
  have hb1m := hb1m.up hk10
  have hS10 := (hS8.trans hk9).trans hk10
  have hb1w : w.heap.size ≤ b1 := own_le hb1 hS8
  have hb2w : w.heap.size ≤ b2 := own_le hb2 (hS8.trans hk9)
  refine st0 hb1m (by simp [Value.cells]) rfl rfl fun w11 u11 hb1m => ?_
  have hS11 := u11.stp hS10 hb1w hb1m.1
  have hb2m := hb2m.upd u11 (by omega)
  have k11 : Kpt (fun k => k = b1) w10 w11 := Kpt.of_upd u11 rfl
  have hm1 := hm1.kp k11 (by omega)
  have hm2 := hm2.kp k11 (by omega)
  refine st0 hb2m (by simp [Value.cells]) rfl rfl fun w12 u12 hb2m => ?_
  have hS12 := u12.stp hS11 hb2w hb2m.1
  have hb1m := hb1m.upd u12 (by omega)
  have k12 : Kpt (fun k => k = b2) w11 w12 := Kpt.of_upd u12 rfl
  have hm1 := hm1.kp k12 (by omega)
  have hm2 := hm2.kp k12 (by omega)
  obtain ⟨σ13, hS13, ha1, le13, old13⟩ := hb1m.keep hS12 hb1w
  have hb2m : Mine σ13 w12 b2 _ := ⟨(old13 b2 (by omega)).trans hb2m.1, hb2m.2⟩
  have hm1 : MineM σ13 w12 r1 [] := ⟨(old13 r1 (by omega)).trans hm1.1, hm1.2⟩
  have hm2 : MineM σ13 w12 r2 [] := ⟨(old13 r2 (by omega)).trans hm2.1, hm2.2⟩
  obtain ⟨σ14, hS14, ha2, le14, old14⟩ := hb2m.keep hS13 hb2w
  have hm1 : MineM σ14 w12 r1 [] := ⟨(old14 r1 (by omega)).trans hm1.1, hm1.2⟩
  have hm2 : MineM σ14 w12 r2 [] := ⟨(old14 r2 (by omega)).trans hm2.1, hm2.2⟩
  have ha1 := ha1.le le14
  have ha1 : Lies σ14 ⟨b1, 0, none⟩ [.map (some r1)] := ha1
  have ha2 : Lies σ14 ⟨b2, 0, none⟩ [.map (some r2)] := ha2
  have lex : SLe σ6 σ14 := ⟨fun b o e => le14 b o (le13 b o (hk10.le b o (hk9.le b o (hk8.le b o (hk7.le b o e)))))⟩
  clear hb1m hb2m
  have hq2 := hq2.lift lex
  have hq3 := hq3.lift lex
  refine ld0 hS14.sat hq2 rfl ?_
  rw [fa]
  refine ld hS14.sat hq3 rfl ?_
  rw [mk_func]
  refine s_above stpC ([], []) (fun s w' => MapIs (w'.heap[r1]?) (vals s.1) ∧ MapIs (w'.heap[r2]?) (vals s.2)) (fun k => k = r1 ∨ k = r2) hS14.sat (ht.lift ⟨hS14.le⟩) ok.len ok.sm g4
    (fun k hk => by rcases hk with rfl | rfl; exact ⟨hm1.lt, hm1.1⟩; exact ⟨hm2.lt, hm2.1⟩) (fun s wa wb hi hk => by rw [hk r1 (.inl rfl), hk r2 (.inr rfl)]; exact hi) ⟨hm1.2, hm2.2⟩
    (fun s d ds wa σa K le hsa hna hi hr hdl hK => ?_) fun w15 σ15 hn15 hi15 => ?_
  · have hdm := (lk_some hdl).2.1
    exact s_members_3 hsa hr (ok.sm d hdm) (ok.nm d hdm) (ha1.lift le) (ha2.lift le) (hna r1 (.inl rfl)) (hna r2 (.inr rfl)) hne hi.1 hi.2 hK
  have hS15 := hS14.nx hn15 fun k hk => by rcases hk with rfl | rfl <;> assumption
  obtain ⟨sc1, sc2⟩ := scanC_spec (clas_ l c.name) [] ([], []) 0 gd_nil
  rw [List.nil_append, ← allMets_eq] at sc1 sc2
  cases hov : (scan stpC ([], []) (clas_ l c.name) 0).1.isSome with
  | true =>
    have : memOver l c = true := (overs_iff _).2 (sc1 hov)
    rw [if_pos this] at h
    refine x_cndT ?_
    exact h _ _ hS15
  | false =>
    have hgd := sc2 hov
    have : memOver l c = false := by
      cases e : memOver l c with
      | false => rfl
      | true => exact absurd ((overs_iff _).1 e) hgd.no
    rw [if_neg (by rw [this]; simp)] at h
    refine x_cndF ?_
    have hq2 := hq2.lift hn15.le
    have hq3 := hq3.lift hn15.le
    rw [fa]
    refine ld hS15.sat hq3 rfl ?_
    unfold memLacks at h
    cases hab : c.abs with
    | true =>
      rw [hab] at h
      refine x_cndT ?_
      exact h _ _ hS15
    | false =>
      rw [hab] at h
      simp only [Bool.not_false, Bool.true_and] at h
      refine x_cndF ?_
      refine ld0 hS15.sat (ha2.lift hn15.le) rfl ?_
      generalize hst : (scan stpC ([], []) (clas_ l c.name) 0).2 = st at hgd hi15
      obtain ⟨es, clock, e1, e2, e3, e4⟩ := hi15.2
      have hr2n : σ15 r2 = none := (hn15.old r2 hm2.lt).trans hm2.1
      obtain ⟨key1, key2⟩ := keys_of e2
      refine x_rng (tm := inferInstance) hS15.sat e1 fun ib w16 σ16 hib hk16 hit => ?_
      have hr2l := (Array.getElem?_eq_some_iff.1 e1).1
      refine lp_ix (fun d _ w' => ∃ (σ' : Store) (seen : Array Nat), d = es.toList.countP (fun e => !seen.contains e.born) ∧ Stp w σ w' σ' ∧ SLe σ15 σ' ∧ σ' r2 = none ∧ w'.heap[r2]? = some (.map es clock) ∧ It σ' w' ib r2 es clock seen ∧ ∀ e ∈ es.toList, e.born ∈ seen → ∀ k, e.key = S k → lacksM l c.name k = false) _
        ⟨σ16, #[], rfl, hS15.trans hk16, ⟨hk16.le⟩, (hk16.old r2 hr2l).trans hr2n, (hk16.bel.block r2 hr2l).trans e1, hit, by simp⟩ ?_
      rintro again d x dd w17 ⟨σ17, seen, rfl, hS17, le17, hr17, he17, hit17, hok17⟩ hag
      have hitb : w.heap.size ≤ ib := Nat.le_trans hS15.bel.size hib
      refine x_nxt hit17 he17 e4 (fun hall => ?_) fun e w18 hee hunseen hk18 hit18 hh18 => ?_
      · refine x_ext (vs := [_]) rfl ?_
        refine x_cndF ?_
        have : ((allMets l c.name).any fun m => lacksM l c.name m.name) = false := by
          rw [List.any_eq_false]
          intro m hm
          obtain ⟨e, he, hek⟩ := key2 m.name ((hgd.c m.name).2 ⟨m, hm, rfl⟩)
          rw [hok17 e he (hall e he) _ hek]; simp
        rw [this] at h
        exact h _ _ hS17
      · refine x_ext (vs := [_, _, _]) rfl ?_
        refine x_cndT ?_
        have he18 : w18.heap[r2]? = some (.map es clock) := by
          rw [hk18.block r2 (Array.getElem?_eq_some_iff.1 he17).1 (by omega)]; exact he17
        have hib17 := hit17.1
        have hS18 : Stp w σ w18 σ17 := hS17.kp hk18 fun k hk => by rw [hk]; exact ⟨hitb, hib17⟩
        refine x_entr hh18 he18 hee (e3.imp fun hlt => Nat.ne_of_lt hlt) ?_
        refine x_ext (vs := [_, _]) rfl ?_
        obtain ⟨k, hek, hkk⟩ := key1 e hee
        have le18 : SLe σ15 σ17 := le17
        refine ld0 hS18.sat (hq2.lift le17) rfl ?_
        rw [fa]
        refine ld hS18.sat (hq3.lift le17) rfl ?_
        rw [hek]
        refine c_Method hS18.sat (ht.lift ⟨hS18.le⟩) ok fun pv cv hv w19 σ19 hk19 hr19 => ?_
        refine x_ext (vs := [_, _, _]) rfl ?_
        refine x_ext (vs := [_, _, _]) rfl ?_
        refine x_ext (vs := [_, _, _]) rfl ?_
        refine alc_st hk19.sat (by rfl) rfl (Rep.one hr19) fun q20 w20 σ20 hk20 hq20 => ?_
        have hS20 := (hS18.trans hk19).trans hk20
        have hlack : lacksM l c.name k = true → ∀ {w8 : World} {σ8 : Store}, Stp w σ w8 σ8 → K (.int .i64 67) w8 := fun hb w8 σ8 hS8 => by
          obtain ⟨m, hm, hmk⟩ := (hgd.c k).1 hkk
          have : ((allMets l c.name).any fun m => lacksM l c.name m.name) = true := List.any_eq_true.2 ⟨m, hm, by rw [hmk]; exact hb⟩
          rw [this] at h
          exact h _ _ hS8
        have hgo : lacksM l c.name k = false → again () w20 := fun hb => by
          have hmem : ∀ e' : MapEntry, e'.born ∈ seen.push e.born ↔ e'.born ∈ seen ∨ e'.born = e.born := fun e' => by simp
          refine hag _ _ _ ?_ ⟨σ20, seen.push e.born, rfl, hS20, le17.more ⟨fun b o h => hk20.le _ _ (hk19.le _ _ h)⟩, ?_, ?_, (hit18.step hk19).step hk20, fun e' he' hs' k' hk' => ?_⟩
          · refine countP_lt (fun x _ hx => ?_) ⟨e, hee, ?_, ?_⟩
            · simp only [Bool.not_eq_true', Array.contains_push, Bool.or_eq_false_iff] at hx ⊢
              exact hx.1
            · simpa using hunseen
            · simp
          · have l18 := (Array.getElem?_eq_some_iff.1 he18).1
            rw [hk20.old r2 (Nat.lt_of_lt_of_le l18 hk19.bel.size), hk19.old r2 l18]; exact hr17
          · have l18 := (Array.getElem?_eq_some_iff.1 he18).1
            rw [hk20.bel.block r2 (Nat.lt_of_lt_of_le l18 hk19.bel.size), hk19.bel.block r2 l18]; exact he18
          · rcases (hmem e').1 hs' with h1 | h1
            · exact hok17 e' he' h1 k' hk'
            · have : e' = e := by
                have hnd : (es.toList.map (·.born)).Nodup := e3.imp fun hlt => Nat.ne_of_lt hlt
                obtain ⟨i, hi, rfl⟩ := List.getElem_of_mem he'
                obtain ⟨j, hj, rfl⟩ := List.getElem_of_mem hee
                have h5 : (es.toList.map (·.born))[i]'(by simpa using hi) = (es.toList.map (·.born))[j]'(by simpa using hj) := by simpa using h1
                have := (List.getElem_inj hnd).1 h5
                subst this; rfl
              subst this
              rw [hek] at hk'
              have : k = k' := by
                have := hk'
                simp at this
                exact this
              rw [← this]; exact hb
        unfold lacksM at hlack hgo
        cases hmm : methodM l c.name k with
        | none =>
          rw [hmm] at hlack
          simp only [↓Mm, Mm, ↓Mp, Mp, Mb, reduceIte, Option.isSome_none]
          exact hlack rfl hS20
        | some r =>
          rw [hmm] at hlack hgo hq20
          simp only [↓Mm, Mm, ↓Mp, Mp, Mb, reduceIte, Option.isSome_some]
          refine ld hk20.sat hq20 rfl ?_
          (try simp only [↓Mm, Mm, ↓Mp, Mp, Mb, reduceIte])
          cases hra : r.2.abs with
          | true =>
            exact cnd_split (fun _ => hlack hra hS20) (fun e => absurd (hra.symm.trans e) (by simp))
          | false =>
            exact cnd_split (fun e => absurd (hra.symm.trans e) (by simp)) (fun _ => hgo hra))
end Go.Proofs.YtdnfaboigajkhaaGreatDoor

set_option autoImplicit false
set_option linter.unusedSimpArgs false
set_option linter.unusedVariables false
namespace Go.Emb
open Go.RowKit Go.Hm
variable {P : Program} {w w0 w1 w' w'' : World} {K : Value → World → Prop} {σ σ0 σ1 σ' : Store}
theorem x_idx {t e : TypeId} {n by_ : Nat} {z : Value} [ta : TA P t n e] [tz : TZ P e 1 by_ z] [tg : TG P e false] {cs : List Value} {i : Nat} {v : Value} (hi : i < n) (hv : cs[i]? = some v) (h : K v w) : idx P t (.agg cs.toArray) (I i) w K := by
  unfold idx
  have h0 : (0 : Int) ≤ i ∧ (i : Int) < n := ⟨by omega, by omega⟩
  rw [op_value (v := v) (w' := w) (by
    simp only [Instr.index, asIntOf, Sem.run_bind, Sem.run_pure, Result.andThen_ok, run_underlying ta.h, h0, and_self, if_true, run_sizeOf_of tz, part, run_isAgg_of tg]
    simp [hv])]
  exact h
theorem a_len {α : Type} {R : Store → α → List Value → Prop} {B sz : Nat} {e : TypeId} {v : Value} {xs : List α} {t0 t : TypeId} {cs : List Bool} [ts : TS P t0 e] (h : Acc B e sz R σ w v xs) (hk : K (I xs.length) w) : blt P .len [t0] t cs [v] w K := q_len (Acq.of_acc h) hk
theorem acc_cells {α : Type} {R : Store → α → List Value → Prop} {B sz : Nat} {e : TypeId} {v : Value} {xs : List α} (h : Acc B e sz R σ w v xs) : v.cells = #[v] ∧ v.oneCell' = true := by
  obtain ⟨cells, h1, _⟩ := h
  rcases h1.2 with ⟨rfl, _⟩ | ⟨g, cap, cur, rfl, _⟩ <;> exact ⟨rfl, rfl⟩
end Go.Emb
namespace Go.Proofs.YtdnfaboigajkhaaGreatDoor
open Go.Emb Go.RowKit Go.Kd Go.Hm
variable {w : World} {K : Value → World → Prop} {σ : Store} {v : Value} {l : List Cla}
theorem c_Given (hs : Sat w σ) (hg : Glb σ) (h : ∀ v' w' σ', Stp w σ w' σ' → Acc w.heap.size T.api_Class 8 RCl σ' w' v' given → K v' w') : callF P F.hier_Given [] w K := r_hier_Given (by
  unfold g_hier_Given
  refine bld_of (cells := #[S sRoot, S [], .slice none 0 0, .bool false, .bool false, .bool false, .slice none 0 0, .slice none 0 0]) (by kernel_rfl) ?_
  refine bld_of (cells := #[S sWhat, S sText, .bool false]) (by kernel_rfl) ?_
  refine bs_sl (R := RFd) (sz := 3) hs [.agg #[S sWhat, S sText, .bool false]] [⟨sWhat, sText, false⟩] rfl rfl (by simp; rfl) rfl ⟨⟨rfl, by decide, by decide⟩, trivial⟩ fun v6 w1 σ1 hk1 hv6 => ?_
  have hv6' := hv6
  obtain ⟨a6, cap6, rfl, _⟩ := hv6'
  refine bld_of (cells := #[S sFault, S sRoot, .slice none 0 0, .bool false, .bool false, .bool false, .slice a6 1 cap6, .slice none 0 0]) (by kernel_rfl) ?_
  refine bs_acc (R := RCl) (sz := 8) hk1 [.agg #[S sRoot, S [], .slice none 0 0, .bool false, .bool false, .bool false, .slice none 0 0, .slice none 0 0], .agg #[S sFault, S sRoot, .slice none 0 0, .bool false, .bool false, .bool false, .slice a6 1 cap6, .slice none 0 0]]
    [⟨sRoot, [], [], false, false, false, [], []⟩, ⟨sFault, sRoot, [], false, false, false, [⟨sWhat, sText, false⟩], []⟩] rfl rfl (by simp; exact ⟨rfl, rfl⟩) rfl
    ⟨⟨_, _, _, rfl, Sl.nil, Sl.nil, Sl.nil, by decide, by decide⟩, ⟨_, _, _, rfl, Sl.nil, hv6, Sl.nil, by decide, by decide⟩, trivial⟩ fun v8 w2 hk2 hacc _ => ?_
  have hg2 := hg.lift ⟨hk1.le⟩
  refine lda (cs := faultNames.map S) hk2.sat hg2.flt rfl ?_
  refine lp_up2 6 (fun n a w' => ∃ σ', Stp w σ w' σ' ∧ Acc w.heap.size T.api_Class 8 RCl σ' w' a ([⟨sRoot, [], [], false, false, false, [], []⟩, ⟨sFault, sRoot, [], false, false, false, [⟨sWhat, sText, false⟩], []⟩] ++ (faultNames.take n).map fun n => ⟨n, sFault, [], false, false, true, [], []⟩)) ⟨σ1, hk1.trans hk2, hacc⟩ fun n a w3 d hn hinv => ?_
  obtain ⟨σ3, hS3, ha3⟩ := hinv
  have hfl : faultNames.length = 6 := rfl
  refine x_lss ?_
  refine cnd_split (fun hh => ?_) (fun hh => ?_)
  · have hn' : n < 6 := by have := of_decide_eq_true hh; omega
    refine x_idx (v := S (faultNames[n]'(by omega))) hn' (by rw [List.getElem?_map, List.getElem?_eq_getElem (by omega)]; rfl) ?_
    refine bld_of (cells := #[S (faultNames[n]'(by omega)), S sFault, .slice none 0 0, .bool false, .bool false, .bool true, .slice none 0 0, .slice none 0 0]) (by kernel_rfl) ?_
    have hlen : (faultNames[n]'(by omega)).length ≤ 10 := by
      have : ∀ x ∈ faultNames, x.length ≤ 10 := by decide
      exact this _ (List.getElem_mem _)
    refine x_app1 (x := ⟨faultNames[n]'(by omega), sFault, [], false, false, true, [], []⟩) hS3 ha3 ⟨_, _, _, rfl, Sl.nil, Sl.nil, Sl.nil, Nat.le_trans hlen (by decide), (by decide : sFault.length ≤ Big)⟩ rfl rfl rfl (by simp; omega) (by simp; omega) fun s v' w4 σ4 hn4 hS4 ha4 _ => ?_
    refine x_add ?_
    refine up_next2 (by omega) hn' ⟨σ4, hS4, ?_⟩
    rw [List.take_add_one, List.getElem?_eq_getElem (by omega), List.map_append, ← List.append_assoc]
    exact ha4
  · have hn' : ¬ n < 6 := by have := of_decide_eq_false hh; omega
    rw [List.take_of_length_le (by omega)] at ha3
    exact h _ _ _ hS3 ha3)
end Go.Proofs.YtdnfaboigajkhaaGreatDoor

set_option autoImplicit false
set_option linter.unusedSimpArgs false
set_option linter.unusedVariables false
namespace Go.Hm
open Go.Kd
def firstBad {α : Type} (f : α → Int) : List α → Nat → Option (Nat × Int)
  | [], _ => none
  | x :: r, i => if f x = 0 then firstBad f r (i + 1) else some (i, f x)
theorem firstBad_none {α : Type} {f : α → Int} : ∀ {l : List α} {i : Nat}, firstBad f l i = none → ∀ x ∈ l, f x = 0
  | [], _, _ => by simp
  | x :: r, i, h => by
    simp only [firstBad] at h
    split at h
    · rename_i h0
      intro y hy
      rcases List.mem_cons.1 hy with rfl | hy
      · exact h0
      · exact firstBad_none h y hy
    · cases h
def dupM (all : List Cla) : Option Nat := (List.range all.length).find? fun i => (findC (all.take i) (nameAt all i)).isSome
def allOf (l : List Cla) : List Cla := given ++ l
def newM (ck : Cla → Int) (l : List Cla) : Option (Int × Int) := match firstBad ck l 0 with
  | some (i, e) => some (i, e)
  | none => match dupM (allOf l) with
    | some i => some ((i : Int) - 8, 60)
    | none => match firstBad (fun c => (uppersM (allOf l) c : Int)) l 0 with
      | some (i, e) => some (i, e)
      | none => match l.findIdx? (loopsM (allOf l)) with
        | some i => some (i, 63)
        | none => match (orderM (allOf l) 8).find? fun j => !decide (membersM (allOf l) ((allOf l).getD j Cla.zero) = 0) with
          | some j => some ((j : Int) - 8, membersM (allOf l) ((allOf l).getD j Cla.zero))
          | none => none
theorem name_len {s : Str} (h : name s = true) : s.length ≤ 32 := by
  cases s with
  | nil => simp
  | cons c r => simp only [name, Bool.and_eq_true, decide_eq_true_eq] at h; exact h.1.1
theorem clas_len {s : Str} (h : clas s = true) : s.length ≤ 32 := name_len (name_of_base (by rw [h, Bool.or_true]))
theorem member_len {s : Str} (h : member s = true) : s.length ≤ 32 := by
  cases s with
  | nil => simp
  | cons c r => simp only [member, Bool.and_eq_true] at h; exact name_len h.1
theorem own_of_dup {all : List Cla} (h : dupM all = none) : Own all := by
  unfold dupM at h
  rw [List.find?_eq_none] at h
  unfold Own
  rw [List.nodup_iff_pairwise_ne, List.pairwise_iff_getElem]
  intro i j hi hj hij e
  simp only [List.length_map] at hi hj
  have := h j (by simp; exact hj)
  apply this
  simp only [List.getElem_map] at e
  cases hf : findC (all.take j) (nameAt all j) with
  | some _ => rfl
  | none =>
    have h1 := List.findIdx?_eq_none_iff.1 hf all[i] (List.mem_take_iff_getElem.2 ⟨i, by omega, rfl⟩)
    have h2 : nameAt all j = all[j].name := by unfold nameAt; rw [List.getD_eq_getElem?_getD, List.getElem?_eq_getElem hj]; rfl
    rw [h2] at h1
    simp [e] at h1
theorem given_all : ∀ c ∈ given, SmC c ∧ Nm c ∧ c.like = [] := by
  have h : ∀ c ∈ given, (c.like = [] ∧ c.methods = [] ∧ c.fields.length ≤ 1 ∧ c.name.length ≤ 100 ∧ ∀ f ∈ c.fields, f.name.length ≤ 100 ∧ f.kind.length ≤ 100) := by decide
  intro c hc
  obtain ⟨h1, h2, h3, h4, h5⟩ := h c hc
  refine ⟨⟨by rw [h1]; simp, by omega, by rw [h2]; simp, by rw [h2]; simp⟩, ⟨h4, h5, by rw [h2]; simp⟩, h1⟩
theorem given_up : ∀ c ∈ given, (c.name = sRoot ∧ ups c = [[]]) ∨ (c.name = sFault ∧ ups c = [sRoot]) ∨ (c.name ∈ faultNames ∧ ups c = [sFault]) := by decide
theorem acy_of {l : List Cla} (ho : Own (allOf l)) (hn : ∀ c ∈ l, c.name ≠ []) (hl : ∀ c ∈ l, loopsM (allOf l) c = false) : Acy (allOf l) := by
  have hnil : lk (allOf l) [] = none := by
    cases h : lk (allOf l) [] with
    | none => rfl
    | some c =>
      obtain ⟨e, hm, _⟩ := lk_some h
      rcases List.mem_append.1 hm with hm | hm
      · have : ∀ c ∈ given, c.name ≠ [] := by decide
        exact absurd e (this c hm)
      · exact absurd e (hn c hm)
  have hroot : lk (allOf l) sRoot = some ⟨sRoot, [], [], false, false, false, [], []⟩ := ho.lk (c := ⟨sRoot, [], [], false, false, false, [], []⟩) (List.mem_append_left _ (by decide))
  have hfault : lk (allOf l) sFault = some ⟨sFault, sRoot, [], false, false, false, [⟨sWhat, sText, false⟩], []⟩ := ho.lk (c := ⟨sFault, sRoot, [], false, false, false, [⟨sWhat, sText, false⟩], []⟩) (List.mem_append_left _ (by decide))
  have r0 : ∀ b, ¬ Reach (lk (allOf l)) [] b := fun b h => by obtain ⟨c, hc⟩ := h.left; rw [hnil] at hc; cases hc
  have r1 : ∀ b, Reach (lk (allOf l)) sRoot b → b = sRoot := by
    intro b h
    cases h with
    | refl => rfl
    | step hc hu hr =>
      rw [hroot] at hc; cases hc
      simp [ups] at hu; subst hu
      exact absurd hr (r0 b)
  have r2 : ∀ b, Reach (lk (allOf l)) sFault b → b = sFault ∨ b = sRoot := by
    intro b h
    cases h with
    | refl => exact .inl rfl
    | step hc hu hr =>
      rw [hfault] at hc; cases hc
      simp [ups] at hu; subst hu
      exact .inr (r1 b hr)
  rintro a ⟨c, hc, u, hu, hr⟩
  obtain ⟨e, hm, _⟩ := lk_some hc
  rcases List.mem_append.1 hm with hm | hm
  · rcases given_up c hm with ⟨e1, e2⟩ | ⟨e1, e2⟩ | ⟨e1, e2⟩ <;> rw [e2] at hu <;> simp at hu <;> subst hu
    · exact r0 _ hr
    · have := r1 _ hr
      rw [← e, e1] at this
      exact absurd this (by decide)
    · have h3 : ∀ x ∈ faultNames, x ≠ sFault ∧ x ≠ sRoot := by decide
      obtain ⟨h4, h5⟩ := h3 _ e1
      rw [← e] at hr
      rcases r2 _ hr with h | h
      · exact h4 h
      · exact h5 h
  · have := hl c hm
    unfold loopsM at this
    have h2 := List.any_eq_false.1 this u hu
    apply h2
    rw [List.contains_iff_mem, visits_iff, e]; exact hr
end Go.Hm
namespace Go.Proofs.YtdnfaboigajkhaaGreatDoor
open Go.Emb Go.RowKit Go.Kd Go.Hm
theorem right38 {s : Str} (h : right s = true) : s.length ≤ 38 := by
  simp only [right, Bool.and_eq_true, decide_eq_true_eq] at h
  have hb := base_le s
  have : (base s).1.length ≤ 32 := by
    have h2 := h.2
    have hn := name_of_base h2
    cases hb1 : (base s).1 with
    | nil => simp
    | cons c r =>
      rw [hb1] at hn
      simp only [name, Bool.and_eq_true, decide_eq_true_eq] at hn
      exact hn.1.1
  omega
theorem check_facts {c : Cla} (h : checkM c = 0) : SmC c ∧ Nm c ∧ c.name ≠ [] := by
  unfold checkM at h
  split at h
  · cases h
  · rename_i hm
    split at h
    · rename_i hr
      simp only [many, Bool.or_eq_true, decide_eq_true_eq, not_or, List.any_eq_true, not_exists, not_and] at hm
      obtain ⟨⟨⟨h1, h2⟩, h3⟩, h4⟩ := hm
      simp only [rightC, Bool.and_eq_true] at hr
      obtain ⟨⟨⟨⟨⟨⟨⟨⟨q1, q2⟩, q3⟩, q4⟩, q5⟩, q6⟩, q7⟩, q8⟩, q9⟩ := hr
      have hname : clas c.name = true := List.all_eq_true.1 q1 c.name (by simp)
      have hmm : ∀ m ∈ c.methods, m.params.length ≤ 32 ∧ m.catches.length ≤ 32 ∧ m.code.length ≤ 200 := fun m hm => by
        have := h1 m hm
        simp only [manyM, Bool.or_eq_true, decide_eq_true_eq, not_or] at this
        omega
      refine ⟨⟨by omega, by omega, by omega, fun m hm => by have := hmm m hm; unfold SmM; omega⟩, ⟨by have := clas_len hname; omega, fun f hf => ?_, fun m hm => ?_⟩, fun e => by rw [e] at hname; simp [clas] at hname⟩
      · have := List.all_eq_true.1 q8 f hf
        simp only [fieldC, Bool.and_eq_true] at this
        have a1 := member_len this.1
        have a2 := right38 this.2
        omega
      · have := List.all_eq_true.1 q9 m hm
        simp only [methodC, Bool.and_eq_true, Bool.or_eq_true, decide_eq_true_eq, List.all_eq_true] at this
        obtain ⟨⟨⟨_, a1⟩, a2⟩, _⟩ := this
        refine ⟨?_, fun p hp => by have := right38 (a1 p hp); omega⟩
        rcases a2 with e | e
        · rw [e]; simp
        · have := right38 e; omega
    · cases h
end Go.Proofs.YtdnfaboigajkhaaGreatDoor

set_option autoImplicit false
set_option linter.unusedSimpArgs false
set_option linter.unusedVariables false
namespace Go.Hm
open Go.Kd
theorem firstBad_take {α : Type} {f : α → Int} {xs : List α} {n : Nat} (h : n < xs.length) (hn : firstBad f xs 0 = firstBad f (xs.drop n) n) : firstBad f xs 0 = if f xs[n] = 0 then firstBad f (xs.drop (n + 1)) (n + 1) else some (n, f xs[n]) := by
  rw [hn, List.drop_eq_getElem_cons h]; rfl
theorem findC_take {all : List Cla} {n : Nat} (h : n < all.length) (k : Str) : findC (all.take (n + 1)) k = match findC (all.take n) k with
    | some i => some i
    | none => if all[n].name = k then some n else none := by
  unfold findC
  rw [List.take_add_one, List.getElem?_eq_getElem h]
  simp only [Option.toList_some, List.findIdx?_append]
  cases (all.take n).findIdx? fun c => decide (c.name = k) with
  | some i => rfl
  | none =>
    simp only [Option.none_or, List.findIdx?_cons, List.findIdx?_nil, List.length_take]
    by_cases e : all[n].name = k
    · simp [e]; omega
    · simp [e]
end Go.Hm
namespace Go.Proofs.YtdnfaboigajkhaaGreatDoor
open Go.Emb Go.RowKit Go.Kd Go.Hm
variable {w : World} {K : Value → World → Prop} {σ : Store} {v : Value} {l : List Cla}
theorem nameAt_get {all : List Cla} {n : Nat} (h : n < all.length) : nameAt all n = all[n].name := by unfold nameAt; rw [List.getD_eq_getElem?_getD, List.getElem?_eq_getElem h]; rfl
set_option maxHeartbeats 1000000 in
theorem c_New {lv : Value} (hs : Sat w σ) (hg : Glb σ) (hl : Sl 8 RCl σ lv l) (hlen : l.length ≤ 1000) (hsm : ∀ c ∈ l, SmC c)
    (h1 : ∀ i e w' σ', newM checkM l = some (i, e) → Stp w σ w' σ' → K (.tuple #[.pointer none, I i, I e]) w')
    (h0 : ∀ v w' σ', newM checkM l = none → Stp w σ w' σ' → Tab σ' v (allOf l) → Ok (allOf l) → Own (allOf l) → K (.tuple #[v, I 0, I 0]) w') : callF P F.hier_New [lv] w K := r_hier_New (by
  unfold g_hier_New
  have hgl : given.length = 8 := rfl
  have hal : (allOf l).length = 8 + l.length := by simp [allOf, hgl]
  refine c_Given hs hg fun x0 w1 σ1 hk1 ha1 => ?_
  refine mk_map hk1.sat fun r w2 hr hk2 hm2 => ?_
  have ha2 := ha1.up hk2
  have hx0 : x0.cells = #[x0] ∧ x0.oneCell' = true := acc_cells ha1
  have hx0s : ∃ a n c, x0 = .slice a n c := by
    obtain ⟨cells, q1, _⟩ := ha1
    rcases q1.2 with ⟨rfl, _⟩ | ⟨g, cap, cur, rfl, _⟩ <;> exact ⟨_, _, _, rfl⟩
  have hx0r : x0.ownBlock ≠ some r := fun e => by have := (ha1.mem r e).2.1; omega
  obtain ⟨a0, n0, c0, hx0e⟩ := hx0s
  rw [hx0e]
  refine bld_of (cells := #[.slice a0 n0 c0, .map (some r)]) (by kernel_rfl) ?_
  rw [← hx0e]
  refine x_boxm (cs := [x0, .map (some r)]) hk2.sat fun bt w3 σ3 hbt hk3 hbm => ?_
  have hS3 := (hk1.trans hk2).trans hk3
  have ha3 := ha2.up hk3
  have hm3 := hm2.up hk3
  have hrw : w.heap.size ≤ r := Nat.le_trans hk1.bel.size hr
  have hrl : r < w2.heap.size := hm2.lt
  have hbtw : w.heap.size ≤ bt := own_le hbt (hk1.trans hk2)
  have hrbt : r ≠ bt := by omega
  have hx0b : x0.ownBlock ≠ some bt := fun e => by have := (ha2.mem bt e).2.1; omega
  rw [nil_ck, fa]
  refine ldm hbm rfl ?_
  refine a_len ha3 ?_
  rw [hgl]
  have hl3 := hl.up hS3
  refine len_slK hl3 ?_
  -- classes, each by itself
  refine lp_up l.length (fun n w' => ∃ σ' x, Stp w σ w' σ' ∧ SLe σ3 σ' ∧ Mine σ' w' bt [x, .map (some r)] ∧ Acc w.heap.size T.api_Class 8 RCl σ' w' x (given ++ l.take n) ∧ MineM σ' w' r [] ∧ x.ownBlock ≠ some bt ∧ x.ownBlock ≠ some r ∧ firstBad checkM l 0 = firstBad checkM (l.drop n) n)
    ⟨σ3, x0, hS3, SLe.refl _, hbm, by simpa using ha3, hm3, hx0b, hx0r, rfl⟩ fun n w4 d hn hinv => ?_
  obtain ⟨σ4, x, hS4, le4, hb4, ha4, hm4, hxb, hxr, hfb⟩ := hinv
  refine x_lss ?_
  refine cnd_split (fun hh => ?_) (fun hh => ?_)
  · have hn' : n < l.length := by simpa using hh
    refine ix_slN (hl3.lift le4) hn' fun p cells hl1 hl2 hr1 => ?_
    refine lda hS4.sat hl1 hl2 ?_
    refine alc_st hS4.sat (by rfl) hl2 (Rep.one hr1) fun q w5 σ5 hk5 hq5 => ?_
    have hS5 := hS4.trans hk5
    have hr5 := RCl_lift hr1 ⟨hk5.le⟩
    refine lda hk5.sat hq5 hl2 ?_
    have hsmn := hsm _ (List.getElem_mem hn')
    refine c_Check hk5.sat (hg.lift ⟨hS5.le⟩) hr5 hsmn.1 fun w6 σ6 hk6 => ?_
    have hS6 := hS5.trans hk6
    have hfb2 := firstBad_take hn' hfb
    refine x_neq ?_
    refine cnd_split (fun hh2 => ?_) (fun hh2 => ?_)
    · have hne : ¬ checkM l[n] = 0 := by simpa using hh2
      rw [if_neg hne] at hfb2
      refine h1 _ _ _ _ ?_ hS6
      unfold newM
      rw [hfb2]
    · have hz : checkM l[n] = 0 := by simpa using hh2
      rw [if_pos hz] at hfb2
      have hk56 := hk5.trans hk6
      have hb6 := hb4.up hk56
      have ha6 := ha4.up hk56
      have hm6 := hm4.up hk56
      have hq6 := hq5.up hk6
      have hr6 := RCl_lift hr5 ⟨hk6.le⟩
      have hxs : ∀ k, x.ownBlock = some k → k < w6.heap.size := fun k hk => (ha6.mem k hk).2.1
      refine dr_hst hk6.sat ?_
      refine dop_val (.pointer (some ⟨bt, 0, none⟩)) (fun w hb => by rw [nil_ck]; exact dk_same rfl) ?_
      refine dop_val (.pointer (some ((⟨bt, 0, none⟩ : Addr).add 0))) (fun t w hb e => by rw [e, fa]; exact dk_same rfl) ?_
      refine dop_val x (fun t w hb e => by rw [e]; exact ldm (hb6.step hb.stp) rfl (dk_same rfl)) ?_
      refine dop_val (.agg cells.toArray) (fun w hb => lda hb.sat hq6 hl2 (dk_same rfl)) ?_
      refine dop_f (Φ := fun σ' v => ∃ ds : List Value, v = .agg ds.toArray ∧ ds.length = 8 ∧ RCl σ' l[n] ds) (fun t w hb e => by
        rw [e]; exact c_cloned hb.sat hr6 hsmn fun lv fv mv w' σ' hk hrc => dk_f hb hk ⟨_, rfl, rfl, hrc⟩) ?_
      refine dop_f (w := w6) (σ := σ6) (Φ := fun σ' v => Sl 8 RCl σ' v [l[n]]) (fun t w hb e => by
        obtain ⟨σ', hk, ds, rfl, hd1, hd2⟩ := e
        refine bs_sl (R := RCl) (sz := 8) hk.sat [.agg ds.toArray] [l[n]] rfl rfl (by simpa [Value.cells] using hd1) rfl ⟨by simpa [Value.cells] using hd2, trivial⟩ fun u w2 σ2 hk2 hu => ?_
        exact ⟨hk2.bel, σ2, hk.trans hk2, hu⟩) ?_
      rintro t43 t44 t45 t46 t47 t48 w7 hb7 _ _ e45 _ _ ⟨σ8, hk8, hu8⟩
      subst e45
      have hS8 := hS6.trans hk8
      have hb8 := hb6.up hk8
      have ha8 := ha6.up hk8
      have hm8 := hm6.up hk8
      have hbl := hb6.lt
      have hml := hm6.lt
      refine x_app hS8 ha8 hu8 rfl (by simp [hgl]; omega) (by simp [hgl]; omega) fun x' w9 hn9 hS9 ha9 hat9 => ?_
      have hb9 := hb8.nx hn9 hxb
      have hm9 := hm8.nx hn9 hxr
      have hxb' : x'.ownBlock ≠ some bt := fun e => by
        rcases hat9 with e2 | e2
        · exact hxb (e2 ▸ e)
        · have := e2 bt e; have := hk8.bel.size; omega
      have hxr' : x'.ownBlock ≠ some r := fun e => by
        rcases hat9 with e2 | e2
        · exact hxr (e2 ▸ e)
        · have := e2 r e; have := hk8.bel.size; omega
      obtain ⟨hxc1, hxc2⟩ := acc_cells ha9
      rw [nil_ck, fa]
      refine st1 hb9 (by simp) hxc1 hxc2 fun w10 u10 hb10 => ?_
      have hS10 := u10.stp hS9 hbtw hb9.1
      have k10 : Kpt (fun k => k = bt) w9 w10 := Kpt.of_upd u10 rfl
      refine x_add ?_
      refine up_next hl3.max hn' ⟨σ8, x', hS10, le4.more ⟨fun b o e => hk8.le _ _ (hk56.le _ _ e)⟩, hb10, ?_, hm9.kp k10 hrbt, hxb', hxr', hfb2⟩
      have := ha9.kp k10 fun k hk e => hxb' (e ▸ hk)
      rw [List.take_add_one, List.getElem?_eq_getElem hn', ← List.append_assoc]
      exact this
  have hn' : ¬ n < l.length := by simpa using hh
  rw [List.take_of_length_le (by omega)] at ha4
  rw [List.drop_eq_nil_of_le (by omega)] at hfb
  have hfb : firstBad checkM l 0 = none := hfb
  have hck := firstBad_none hfb
  have hcf : ∀ c ∈ l, SmC c ∧ Nm c ∧ c.name ≠ [] := fun c hc => check_facts (hck c hc)
  have hsmall : ∀ c ∈ allOf l, SmC c := fun c hc => by
    rcases List.mem_append.1 hc with hc | hc
    · exact (given_all c hc).1
    · exact (hcf c hc).1
  have hnmall : ∀ c ∈ allOf l, Nm c := fun c hc => by
    rcases List.mem_append.1 hc with hc | hc
    · exact (given_all c hc).2.1
    · exact (hcf c hc).2.1
  have hlenall : (allOf l).length ≤ 100000 := by omega
  unfold newM at h1 h0
  rw [hfb] at h1 h0
  simp only at h1 h0
  -- from now on the classes stay
  obtain ⟨σ5, hS5, hv5, le5, old5⟩ := ha4.keep hS4
  have hb5 : Mine σ5 w4 bt _ := ⟨(old5 bt fun e => hxb e.symm).trans hb4.1, hb4.2⟩
  have hm5 : MineM σ5 w4 r [] := ⟨(old5 r fun e => hxr e.symm).trans hm4.1, hm4.2⟩
  obtain ⟨σ6, hS6, hb6, le6, old6⟩ := hb5.keep hS5 hbtw
  have hm6 : MineM σ6 w4 r [] := ⟨(old6 r hrbt).trans hm5.1, hm5.2⟩
  have hv6 : Sl 8 RCl σ6 x (allOf l) := hv5.le le6
  clear hb5 hb4 ha4
  rw [nil_ck, fa]
  refine ld hS6.sat hb6 rfl ?_
  refine len_slK hv6 ?_
  refine lp_up (allOf l).length (fun n w' => ∃ σ' m, Stp w σ w' σ' ∧ SLe σ6 σ' ∧ MineM σ' w' r m ∧ (∀ k, lookS m k = (findC ((allOf l).take n) k).map (fun i : Nat => I (i : Int))) ∧ ∀ j, j < n → (findC ((allOf l).take j) (nameAt (allOf l) j)).isSome = false)
    ⟨σ6, [], hS6, SLe.refl _, hm6, by simp [lookS, findC], by intro j hj; omega⟩ fun n w5 d hn2 hinv => ?_
  obtain ⟨σ7, m, hS7, le7, hm7, hlm, hnd⟩ := hinv
  refine x_lss ?_
  refine cnd_split (fun hh2 => ?_) (fun hh2 => ?_)
  · have hn3 : n < (allOf l).length := by simpa using hh2
    refine ix_slN (hv6.lift le7) hn3 fun p cells hl1 hl2 hr1 => ?_
    refine lda hS7.sat hl1 hl2 ?_
    refine alc_st hS7.sat (by rfl) hl2 (Rep.one hr1) fun q w6 σ8 hk8 hq8 => ?_
    obtain ⟨lv', fv, mv, rfl, f1, f2, f3, f4, f5⟩ := hr1
    have hS8 := hS7.trans hk8
    have le8 : SLe σ6 σ8 := le7.more ⟨hk8.le⟩
    have hm8 := hm7.up hk8
    have hb8 := hb6.lift le8
    rw [fa]
    refine ld hk8.sat hq8 rfl ?_
    refine r_P_hier_Table_has ?_
    unfold g_P_hier_Table_has
    rw [nil_ck, fa]
    refine ld hk8.sat hb8 rfl ?_
    refine x_look u_string hm8.2 _ ?_
    refine x_ext (vs := [_, _]) rfl ?_
    refine x_ext (vs := [_, _]) rfl ?_
    have hna := nameAt_get hn3
    have hfd := hlm (allOf l)[n].name
    cases hfc : findC ((allOf l).take n) (allOf l)[n].name with
    | some i =>
      rw [hfc] at hfd
      rw [hfd]
      refine x_cndT ?_
      have hdup : dupM (allOf l) = some n := by
        unfold dupM
        rw [List.find?_range_eq_some]
        refine ⟨by rw [hna, hfc]; rfl, by simpa using hn3, fun j hj => by rw [hnd j hj]; rfl⟩
      refine x_sub64 ⟨by omega, by omega⟩ ?_
      refine h1 _ _ _ _ ?_ hS8
      rw [hdup]
      rfl
    | none =>
      rw [hfc] at hfd
      rw [hfd]
      refine x_cndF ?_
      refine dr_hst hk8.sat ?_
      refine dop_val (.pointer (some ⟨bt, 0, none⟩)) (fun w hb => by rw [nil_ck]; exact dk_same rfl) ?_
      refine dop_val (.pointer (some ((⟨bt, 0, none⟩ : Addr).add 1))) (fun t w hb e => by rw [e, fa]; exact dk_same rfl) ?_
      refine dop_val (.pointer (some (q.add 0))) (fun w hb => by rw [fa]; exact dk_same rfl) ?_
      refine dop_val (.map (some r)) (fun t w hb e => by rw [e]; exact ld hb.sat hb8 rfl (dk_same rfl)) ?_
      refine dop_val (S (allOf l)[n].name) (fun t w hb e => by rw [e]; exact ld hb.sat hq8 rfl (dk_same rfl)) ?_
      rintro t71 t72 t74 t73 t75 w9 hb9 _ _ _ rfl rfl
      refine map_update u_string (hm8.up hb9.stp) _ (I n) fun w10 u10 hm10 => ?_
      have hS9 := hS8.trans hb9.stp
      have hS10 := u10.stp hS9 hrw hm10.1
      refine x_add ?_
      refine up_next (by omega) hn3 ⟨σ8, _, hS10, le8, hm10, fun k => ?_, fun j hj => ?_⟩
      · rw [lookS_put, findC_take hn3 k]
        by_cases e : (allOf l)[n].name = k
        · subst e
          rw [if_pos rfl, hfc]; simp
        · rw [if_neg e, hlm k]
          cases findC ((allOf l).take n) k with
          | some i => rfl
          | none => simp [e]
      · by_cases e : j = n
        · subst e; rw [hna, hfc]; rfl
        · exact hnd j (by omega)
  have hn3 : ¬ n < (allOf l).length := by simpa using hh2
  have hne : n = (allOf l).length := by omega
  subst hne
  rw [List.take_of_length_le (Nat.le_refl _)] at hlm
  have hdup : dupM (allOf l) = none := by
    unfold dupM
    rw [List.find?_eq_none]
    intro j hj
    rw [hnd j (by simpa using hj)]; simp
  rw [hdup] at h1 h0
  simp only at h1 h0
  have hown := own_of_dup hdup
  obtain ⟨σ8, hS8, hm8, le8, _⟩ := hm7.keep hS7 hrw
  have le68 : SLe σ6 σ8 := le7.more ⟨le8⟩
  have ht8 : Tab σ8 (.pointer (some ⟨bt, 0, none⟩)) (allOf l) := ⟨⟨bt, 0, none⟩, x, r, m, rfl, hb6.lift le68, hv6.lift le68, hm8, hlm⟩
  have hb8 := hb6.lift le68
  have hv8 := hv6.lift le68
  clear hm7 hm8 hh2 hn3 hn2 hh hn' hn hnd
  have hdr : (allOf l).drop 8 = l := by simp [allOf, hgl]
  rw [nil_ck, fa]
  refine ld hS8.sat hb8 rfl ?_
  refine slc_sl hv8 (some (I (8 : Nat))) none 8 (allOf l).length (.inr rfl) (.inl ⟨rfl, rfl⟩) (by omega) (Nat.le_refl _) fun v9 hv9 => ?_
  rw [hdr, List.take_of_length_le (by omega)] at hv9
  refine len_slK hv9 ?_
  refine lp_up l.length (fun n w' => ∃ σ', Stp w σ w' σ' ∧ SLe σ8 σ' ∧ firstBad (fun c => (uppersM (allOf l) c : Int)) l 0 = firstBad (fun c => (uppersM (allOf l) c : Int)) (l.drop n) n) ⟨σ8, hS8, SLe.refl _, rfl⟩ fun n w6 d hn hinv => ?_
  obtain ⟨σ9, hS9, le9, hfu⟩ := hinv
  refine x_lss ?_
  refine cnd_split (fun hh => ?_) (fun hh => ?_)
  · have hn' : n < l.length := by simpa using hh
    refine ix_slN (hv9.lift le9) hn' fun p cells hl1 hl2 hr1 => ?_
    refine lda hS9.sat hl1 hl2 ?_
    refine alc_st hS9.sat (by rfl) hl2 (Rep.one hr1) fun q w7 σ10 hk10 hq10 => ?_
    have hS10 := hS9.trans hk10
    refine lda hk10.sat hq10 hl2 ?_
    have hfu2 := firstBad_take hn' hfu
    refine c_uppers hk10.sat (ht8.lift (le9.more ⟨hk10.le⟩)) (RCl_lift hr1 ⟨hk10.le⟩) fun w8 σ11 hk11 => ?_
    refine x_neq ?_
    refine cnd_split (fun hh2 => ?_) (fun hh2 => ?_)
    · have hne : ¬ (uppersM (allOf l) l[n] : Int) = 0 := by simpa using hh2
      rw [if_neg hne] at hfu2
      refine h1 _ _ _ _ ?_ (hS10.trans hk11)
      rw [hfu2]
    · have hz : (uppersM (allOf l) l[n] : Int) = 0 := by simpa using hh2
      rw [if_pos hz] at hfu2
      refine x_add ?_
      exact up_next hl3.max hn' ⟨σ11, hS10.trans hk11, le9.more ⟨fun b o e => hk11.le _ _ (hk10.le _ _ e)⟩, hfu2⟩
  have hn' : ¬ n < l.length := by simpa using hh
  rw [List.drop_eq_nil_of_le (by omega)] at hfu
  have hfu : firstBad (fun c => (uppersM (allOf l) c : Int)) l 0 = none := hfu
  rw [hfu] at h1 h0
  simp only at h1 h0
  have hup := firstBad_none hfu
  have ht9 := ht8.lift le9
  clear hh hn' hn
  rw [nil_ck, fa]
  refine ld hS9.sat (hb8.lift le9) rfl ?_
  refine slc_sl (hv8.lift le9) (some (I (8 : Nat))) none 8 (allOf l).length (.inr rfl) (.inl ⟨rfl, rfl⟩) (by omega) (Nat.le_refl _) fun v10 hv10 => ?_
  rw [hdr, List.take_of_length_le (by omega)] at hv10
  rw [mk_func]
  refine c_IndexFunc_api_Class (loopsM (allOf l)) hS9.sat hv10 (fun c cs w7 K hc hs7 hr hlen hK => callV_func (first := [.pointer (some ⟨bt, 0, none⟩)]) (caps := []) ?_) fun w7 hb7 => ?_
  · exact c_loops hs7 ht9 hlenall hsmall hr fun w' σ' hk => hK w' hk.bel
  have hS10 := hS9.trans (Stp.of_below hS9.sat hb7)
  refine x_geq ?_
  rw [idxI_ge]
  cases hlo : l.findIdx? (loopsM (allOf l)) with
  | some i =>
    refine x_cndT ?_
    refine h1 _ _ _ _ ?_ hS10
    rw [hlo]; rfl
  | none =>
    rw [hlo] at h1 h0
    simp only at h1 h0
    refine x_cndF ?_
    have hlo' : ∀ c ∈ l, loopsM (allOf l) c = false := fun c hc => List.findIdx?_eq_none_iff.1 hlo c hc
    have hacy := acy_of hown (fun c hc => (hcf c hc).2.2) hlo'
    have hfull : Full (allOf l) := fun c hc u hu => by
      rcases List.mem_append.1 hc with hc | hc
      · rw [(given_all c hc).2.2] at hu; simp at hu
      · have := hup c hc
        unfold uppersM at this
        split at this
        · simp at this
        · split at this
          · simp at this
          · rename_i hnb
            have hnb : c.like.any (likeBad (allOf l)) = false := eq_false_of_ne_true hnb
            have := List.any_eq_false.1 hnb u hu
            unfold likeBad at this
            cases hd : lk (allOf l) u with
            | none => rw [hd] at this; simp at this
            | some d => exact ⟨d, rfl⟩
    have hok : Ok (allOf l) := ⟨hacy, hlenall, hsmall, hfull, hnmall⟩
    refine c_order (frm := 8) hS10.sat (ht9.lift ⟨(Stp.of_below hS9.sat hb7).le⟩) hacy hown hlenall hsmall (by omega) (by omega) fun v11 w8 σ11 hk11 hv11 hol hoi => ?_
    have hS11 := hS10.trans hk11
    have ht11 := ht9.lift ⟨fun b o e => hk11.le _ _ e⟩
    refine len_slK hv11 ?_
    have hil : (ints (orderM (allOf l) 8)).length = (orderM (allOf l) 8).length := by simp
    rw [hil]
    refine lp_up (orderM (allOf l) 8).length (fun n w' => ∃ σ', Stp w σ w' σ' ∧ SLe σ11 σ' ∧ ∀ j ∈ (orderM (allOf l) 8).take n, membersM (allOf l) ((allOf l).getD j Cla.zero) = 0) ⟨σ11, hS11, SLe.refl _, by simp⟩ fun n w9 d hn hinv => ?_
    obtain ⟨σ12, hS12, le12, hno⟩ := hinv
    refine x_lss ?_
    refine cnd_split (fun hh => ?_) (fun hh => ?_)
    · have hn' : n < (orderM (allOf l) 8).length := by simpa using hh
      refine ix_slN (hv11.lift le12) (by rw [hil]; exact hn') fun p cells hl1 hl2 hr1 => ?_
      obtain ⟨rfl, _⟩ := hr1
      refine ld0 hS12.sat hl1 rfl ?_
      simp only [List.getElem_map]
      rw [nil_ck, fa]
      have le8x : SLe σ8 σ12 := le9.more (SLe.more ⟨hk11.le⟩ le12)
      refine ld hS12.sat (hb8.lift le8x) rfl ?_
      have hji := hoi _ (List.getElem_mem hn')
      refine ix_slN (hv8.lift le8x) hji fun p2 cells hl1 hl2 hr1 => ?_
      refine lda hS12.sat hl1 hl2 ?_
      have hat : (allOf l).getD (orderM (allOf l) 8)[n] Cla.zero = (allOf l)[(orderM (allOf l) 8)[n]] := by rw [List.getD_eq_getElem?_getD, List.getElem?_eq_getElem hji]; rfl
      have hmem := List.getElem_mem hji
      refine c_members hS12.sat (ht11.lift le12) hok hr1 (hsmall _ hmem) (hnmall _ hmem) fun w10 σ13 hk13 => ?_
      have hS13 := hS12.trans hk13
      refine x_neq ?_
      refine cnd_split (fun hh2 => ?_) (fun hh2 => ?_)
      · have hne : ¬ membersM (allOf l) (allOf l)[(orderM (allOf l) 8)[n]] = 0 := by simpa using hh2
        refine x_sub64 ⟨by omega, by omega⟩ ?_
        have hfind : (orderM (allOf l) 8).find? (fun j => !decide (membersM (allOf l) ((allOf l).getD j Cla.zero) = 0)) = some (orderM (allOf l) 8)[n] := by
          rw [List.find?_eq_some_iff_getElem]
          refine ⟨by rw [hat]; simpa using hne, n, hn', rfl, fun j hj => ?_⟩
          have := hno _ (List.mem_take_iff_getElem.2 ⟨j, by omega, rfl⟩)
          rw [this]; simp
        have := h1 (((orderM (allOf l) 8)[n] : Int) - 8) (membersM (allOf l) (allOf l)[(orderM (allOf l) 8)[n]]) w10 σ13 (by rw [hfind]; simp only [hat]) hS13
        exact this
      · have hz : membersM (allOf l) (allOf l)[(orderM (allOf l) 8)[n]] = 0 := by simpa using hh2
        refine x_add ?_
        refine up_next (by omega) hn' ⟨σ13, hS13, le12.more ⟨hk13.le⟩, fun j hj => ?_⟩
        rw [List.take_add_one, List.getElem?_eq_getElem hn'] at hj
        rcases List.mem_append.1 hj with hj | hj
        · exact hno j hj
        · simp at hj; subst hj; rw [hat]; exact hz
    · have hn' : ¬ n < (orderM (allOf l) 8).length := by simpa using hh
      rw [List.take_of_length_le (by omega)] at hno
      have hfind : (orderM (allOf l) 8).find? (fun j => !decide (membersM (allOf l) ((allOf l).getD j Cla.zero) = 0)) = none := by
        rw [List.find?_eq_none]
        intro j hj
        rw [hno j hj]; simp
      rw [hfind] at h0
      exact h0 _ _ _ rfl hS12 (ht11.lift le12) hok hown)
end Go.Proofs.YtdnfaboigajkhaaGreatDoor

set_option autoImplicit false
set_option linter.unusedSimpArgs false
set_option linter.unusedVariables false
namespace Go.Hm
open Go.Kd
def fewMet (m : Hm.Met) : Bool := !(decide (50 < m.code.length) || decide (8 < m.params.length) || decide (8 < m.catches.length))
def fewC (c : Cla) : Bool := !(decide (6 < c.like.length) || decide (6 < c.fields.length) || decide (6 < c.methods.length)) && c.methods.all fewMet
def fewM (l : List Cla) : Bool := !decide (12 < l.length) && l.all fewC
def sA : Str := [65]
def sB : Str := [66]
def sC : Str := [67]
def threeL : List Cla := [⟨sA, sRoot, [], false, false, false, [⟨[120], [105, 110, 116], false⟩, ⟨[116], sText, true⟩], []⟩, ⟨sB, sA, [], false, false, false, [], []⟩, ⟨sC, sA, [], false, false, false, [], []⟩]
theorem few_facts {l : List Cla} (h : fewM l = true) : l.length ≤ 12 ∧ ∀ c ∈ l, fewC c = true := by
  simp only [fewM, Bool.and_eq_true, Bool.not_eq_true', decide_eq_false_iff_not, List.all_eq_true] at h
  exact ⟨by omega, h.2⟩
theorem few_sm {l : List Cla} (h : fewM l = true) : ∀ c ∈ l, SmC c := by
  intro c hc
  have := (few_facts h).2 c hc
  simp only [fewC, fewMet, Bool.and_eq_true, Bool.not_eq_true', Bool.or_eq_false_iff, decide_eq_false_iff_not, List.all_eq_true] at this
  obtain ⟨⟨⟨a, b⟩, c'⟩, d⟩ := this
  refine ⟨by omega, by omega, by omega, fun m hm => ?_⟩
  obtain ⟨⟨p, q⟩, r⟩ := d m hm
  exact ⟨by omega, by omega, by omega⟩
end Go.Hm
namespace Go.Proofs.YtdnfaboigajkhaaGreatDoor
open Go.Emb Go.RowKit Go.Kd Go.Hm
variable {w : World} {K : Value → World → Prop} {σ : Store} {v : Value} {l : List Cla}
end Go.Proofs.YtdnfaboigajkhaaGreatDoor

set_option autoImplicit false
set_option linter.unusedSimpArgs false
set_option linter.unusedVariables false
namespace Go.Proofs.YtdnfaboigajkhaaGreatDoor
open Go.Emb Go.RowKit Go.Kd Go.Hm
variable {w : World} {K : Value → World → Prop} {σ : Store} {v : Value} {l : List Cla}
theorem u_tab : P.underlying T.P_hier_Table = some (.pointer T.hier_Table) := by kernel_rfl
theorem run_pnil (d : Nat) (o : Option Addr) : (Op.equalIn (d + 1) T.P_hier_Table (.pointer o) (.pointer none)).run P w = .ok o.isNone w := by
  cases o <;> simp [Op.equalIn, run_underlying u_tab]
theorem x_pnil {a : Addr} {ox oy : Operand} (h : K (.bool false) w) : bin P .eql T.P_hier_Table ox oy (.pointer (some a)) (.pointer none) w K := by
  have e : (Op.equal T.P_hier_Table (.pointer (some a)) (.pointer none)).run P w = .ok false w := run_pnil 9999 _
  unfold bin
  rw [op_value (v := .bool false) (w' := w) (by simp [eqGuard, Go.binOp, e])]
  exact h
theorem c_three (hs : Sat w σ) (h : ∀ v' w' σ', Stp w σ w' σ' → Sl 8 RCl σ' v' threeL → K v' w') : callF P F.squinchlaw06_three [] w K := r_squinchlaw06_three (by
  unfold g_squinchlaw06_three
  refine bld_of (cells := #[S [120], S [105, 110, 116], .bool false]) (by kernel_rfl) ?_
  refine bld_of (cells := #[S [116], S sText, .bool true]) (by kernel_rfl) ?_
  refine bs_sl (R := RFd) (sz := 3) hs [.agg #[S [120], S [105, 110, 116], .bool false], .agg #[S [116], S sText, .bool true]] [⟨[120], [105, 110, 116], false⟩, ⟨[116], sText, true⟩] rfl rfl (by simp; exact ⟨rfl, rfl⟩) rfl ⟨⟨rfl, by decide, by decide⟩, ⟨rfl, by decide, by decide⟩, trivial⟩ fun v3 w1 σ1 hk1 hv3 => ?_
  have hv3' := hv3
  obtain ⟨a3, cap3, rfl, _⟩ := hv3'
  refine bld_of (cells := #[S sA, S sRoot, .slice none 0 0, .bool false, .bool false, .bool false, .slice a3 2 cap3, .slice none 0 0]) (by kernel_rfl) ?_
  refine bld_of (cells := #[S sB, S sA, .slice none 0 0, .bool false, .bool false, .bool false, .slice none 0 0, .slice none 0 0]) (by kernel_rfl) ?_
  refine bld_of (cells := #[S sC, S sA, .slice none 0 0, .bool false, .bool false, .bool false, .slice none 0 0, .slice none 0 0]) (by kernel_rfl) ?_
  refine bs_sl (R := RCl) (sz := 8) hk1.sat [.agg #[S sA, S sRoot, .slice none 0 0, .bool false, .bool false, .bool false, .slice a3 2 cap3, .slice none 0 0], .agg #[S sB, S sA, .slice none 0 0, .bool false, .bool false, .bool false, .slice none 0 0, .slice none 0 0], .agg #[S sC, S sA, .slice none 0 0, .bool false, .bool false, .bool false, .slice none 0 0, .slice none 0 0]]
    threeL rfl rfl (by simp; exact ⟨rfl, rfl, rfl⟩) rfl
    ⟨⟨_, _, _, rfl, Sl.nil, hv3, Sl.nil, by decide, by decide⟩, ⟨_, _, _, rfl, Sl.nil, Sl.nil, Sl.nil, by decide, by decide⟩, ⟨_, _, _, rfl, Sl.nil, Sl.nil, Sl.nil, by decide, by decide⟩, trivial⟩ fun v7 w2 σ2 hk2 hv7 => ?_
  exact h _ _ _ (hk1.trans hk2) hv7)
theorem three_new : newM checkM threeL = none := by decide +kernel
theorem three_few : fewM threeL = true := by decide +kernel
theorem three_join1 : joinM (allOf threeL) [66] [67] = [65] := by decide +kernel
theorem three_join2 : joinM (allOf threeL) [66] [66, 91, 93] = sRoot := by decide +kernel
theorem three_join3 : joinM (allOf threeL) [105, 110, 116] [65] = [] := by decide +kernel
theorem three_print1 : printM (allOf threeL) [65] = [65, 40, 41, 32, 120, 58, 105, 110, 116, 46] := by decide +kernel
theorem three_print2 : printM (allOf threeL) [66] = [66, 40, 65, 40, 41, 32, 120, 58, 105, 110, 116, 46, 41, 46] := by decide +kernel
theorem three_sub : subM (allOf threeL) [66] [65] = true := by decide +kernel
theorem three_place : placeM (allOf threeL) [66] [116] = some 1 := by decide +kernel
theorem three_objects : objectsM (allOf threeL) [66] = true := by decide +kernel
theorem c_awake (hs : Sat w σ) (hg : Glb σ) (h : ∀ w' σ', Stp w σ w' σ' → K (.bool true) w') : callF P F.squinchlaw06_awake [] w K := r_squinchlaw06_awake (by
  unfold g_squinchlaw06_awake
  refine c_three hs fun v1 w1 σ1 hk1 hv1 => ?_
  refine c_New hk1.sat (hg.lift ⟨hk1.le⟩) hv1 (by decide) (few_sm three_few) (fun i e w' σ' hne => by rw [three_new] at hne; cases hne) fun tv w2 σ2 _ hk2 ht ok own => ?_
  have hS2 := hk1.trans hk2
  have hg2 := hg.lift ⟨hS2.le⟩
  obtain ⟨ta, _, _, _, rfl, _⟩ := ht.ex
  refine x_ext (vs := [_, _, _]) rfl ?_
  refine x_ext (vs := [_, _, _]) rfl ?_
  refine x_ext (vs := [_, _, _]) rfl ?_
  (try simp only [↓Mm, Mm, ↓Mr, Mr, Mb, reduceIte])
  refine x_pnil ?_
  simp only [decide_true, ↓Mm, Mm, ↓Mr, Mr, Mb, reduceIte]
  have hs2 := hS2.sat
  refine c_Join hs2 ht ok (by decide) (by decide) fun w3 σ3 hk3 => ?_
  simp only [three_join1, decide_true, ↓Mm, Mm, ↓Mr, Mr, Mb, reduceIte]
  have hS3 := hS2.trans hk3
  replace ht := ht.lift ⟨hk3.le⟩
  refine c_Join hk3.sat ht ok (by decide) (by decide) fun w4 σ4 hk4 => ?_
  simp only [three_join2, decide_true, sRoot, ↓Mm, Mm, ↓Mr, Mr, Mb, reduceIte]
  have hS4 := hS3.trans hk4
  replace ht := ht.lift ⟨hk4.le⟩
  refine c_Join hk4.sat ht ok (by decide) (by decide) fun w5 σ5 hk5 => ?_
  simp only [three_join3, decide_true, ↓Mm, Mm, ↓Mr, Mr, Mb, reduceIte]
  have hS5 := hS4.trans hk5
  replace ht := ht.lift ⟨hk5.le⟩
  refine c_Print ok _ (.inr (Nat.lt_succ_self _)) (by decide) hk5.sat ht fun w6 σ6 hk6 => ?_
  simp only [three_print1, decide_true, ↓Mm, Mm, ↓Mr, Mr, Mb, reduceIte]
  have hS6 := hS5.trans hk6
  replace ht := ht.lift ⟨hk6.le⟩
  refine c_Print ok _ (.inr (Nat.lt_succ_self _)) (by decide) hk6.sat ht fun w7 σ7 hk7 => ?_
  simp only [three_print2, decide_true, ↓Mm, Mm, ↓Mr, Mr, Mb, reduceIte]
  have hS7 := hS6.trans hk7
  replace ht := ht.lift ⟨hk7.le⟩
  refine c_Sub hk7.sat ht ok (by decide) (by decide) fun w8 σ8 hk8 => ?_
  simp only [three_sub, ↓Mm, Mm, ↓Mr, Mr, Mb, reduceIte]
  have hS8 := hS7.trans hk8
  replace ht := ht.lift ⟨hk8.le⟩
  refine c_Place hk8.sat ht ok.acy ok.len ok.sm fun w9 σ9 hk9 => ?_
  simp only [three_place, idxI, show ((1 : Nat) : Int) = 1 from rfl, decide_true, ↓Mm, Mm, ↓Mr, Mr, Mb, reduceIte]
  have hS9 := hS8.trans hk9
  replace ht := ht.lift ⟨hk9.le⟩
  refine c_Objects hk9.sat ht fun w10 σ10 hk10 => ?_
  simp only [three_objects, ↓Mm, Mm, ↓Mr, Mr, Mb, reduceIte]
  have hS10 := hS9.trans hk10
  refine c_Given hk10.sat (hg.lift ⟨hS10.le⟩) fun x w11 σ11 hk11 ha11 => ?_
  refine a_len ha11 ?_
  simp only [show given.length = 8 from rfl, show ((8 : Nat) : Int) = 8 from rfl, decide_true, ↓Mm, Mm, ↓Mr, Mr, Mb, reduceIte]
  exact h _ _ (hS10.trans hk11))
end Go.Proofs.YtdnfaboigajkhaaGreatDoor

set_option autoImplicit false
set_option linter.unusedSimpArgs false
set_option linter.unusedVariables false
namespace Go.Hm
open Go.Kd
theorem clas_name {s : Str} (h : clas s = true) : name s = true := name_of_base (by rw [h, Bool.or_true])
theorem name_arr {a : Str} (h : name a = true) : arr a = false := by
  cases he : arr a with
  | false => rfl
  | true =>
    exfalso
    have h2 : 2 ≤ a.length ∧ a.drop (a.length - 2) = [91, 93] := by simpa [arr] using he
    have h3 : (93 : UInt8) ∈ a := List.mem_of_mem_drop (i := a.length - 2) (by rw [h2.2]; simp)
    cases a with
    | nil => simp at h3
    | cons c r =>
      simp only [name, Bool.and_eq_true, List.all_eq_true] at h
      have := h.2 _ h3
      revert this; decide
end Go.Hm
namespace Go.Proofs.YtdnfaboigajkhaaGreatDoor
open Go.Emb Go.RowKit Go.Kd Go.Hm
theorem name_base {a : Str} (h : name a = true) : base a = (a, 0) := by rw [base_eq, name_arr h]; simp
theorem clas_facts {s : Str} (h : clas s = true) : arr s = false ∧ base s = (s, 0) ∧ right s = true ∧ plain s = false ∧ elem s = [] ∧ s ≠ sNull ∧ s ≠ [] := by
  have hn := Hm.clas_name h
  have ha := name_arr hn
  have hb := name_base hn
  refine ⟨ha, hb, ?_, ?_, by simp [elem, ha], ?_, ?_⟩
  · simp [right, hb, h]
  · cases hp : plain s with
    | false => rfl
    | true =>
      simp only [plain, Bool.or_eq_true, decide_eq_true_eq] at hp
      rcases hp with (e | e) | e <;> subst e <;> revert h <;> decide
  · rintro rfl; revert h; decide
  · rintro rfl; revert h; decide
structure Wf (l : List Cla) : Prop where
  ck : ∀ c ∈ l, checkM c = 0
  own : Own (allOf l)
  acy : Acy (allOf l)
  up : ∀ c ∈ l, uppersM (allOf l) c = 0
  mem : ∀ c ∈ l, membersM (allOf l) c = 0
section
variable {l : List Cla} (wf : Wf l)
include wf
theorem Wf.names {c : Cla} (hc : c ∈ allOf l) : clas c.name = true := by
  rcases List.mem_append.1 hc with hc | hc
  · have : ∀ c ∈ given, clas c.name = true := by decide +kernel
    exact this c hc
  · have := wf.ck c hc
    unfold checkM at this
    split at this
    · cases this
    · split at this
      · rename_i hr
        simp only [rightC, Bool.and_eq_true] at hr
        obtain ⟨⟨⟨⟨⟨⟨⟨⟨q1, _⟩, _⟩, _⟩, _⟩, _⟩, _⟩, _⟩, _⟩ := hr
        exact List.all_eq_true.1 q1 c.name (by simp)
      · cases this
theorem Wf.lkn {n : Str} {c : Cla} (h : lk (allOf l) n = some c) : clas n = true := by
  obtain ⟨e, hm, _⟩ := lk_some h
  rw [← e]; exact wf.names hm
theorem Wf.root : lk (allOf l) sRoot = some ⟨sRoot, [], [], false, false, false, [], []⟩ := wf.own.lk (c := ⟨sRoot, [], [], false, false, false, [], []⟩) (List.mem_append_left _ (by decide))
theorem Wf.fault : lk (allOf l) sFault = some ⟨sFault, sRoot, [], false, false, false, [⟨sWhat, sText, false⟩], []⟩ := wf.own.lk (c := ⟨sFault, sRoot, [], false, false, false, [⟨sWhat, sText, false⟩], []⟩) (List.mem_append_left _ (by decide))
theorem Wf.super {c : Cla} (hc : c ∈ allOf l) : c.name = sRoot ∨ ∃ d, lk (allOf l) c.super = some d := by
  rcases List.mem_append.1 hc with hc | hc
  · have : ∀ c ∈ given, c.name = sRoot ∨ c.super = sRoot ∨ c.super = sFault := by decide
    rcases this c hc with h | h | h
    · exact .inl h
    · exact .inr ⟨_, h ▸ wf.root⟩
    · exact .inr ⟨_, h ▸ wf.fault⟩
  · right
    have := wf.up c hc
    unfold uppersM at this
    split at this
    · cases this
    · rename_i h
      unfold superBad at h
      cases hd : lk (allOf l) c.super with
      | none => rw [hd] at h; simp at h
      | some d => exact ⟨d, rfl⟩
theorem Wf.kind {n : Str} {c : Cla} (h : lk (allOf l) n = some c) : kindM (allOf l) n = true := by
  obtain ⟨h1, h2, h3, h4, h5, h6, h7⟩ := clas_facts (wf.lkn h)
  have : hasM (allOf l) n = true := by rw [hasM_lk, h]; rfl
  simp [kindM, h3, h2, this]
end
end Go.Proofs.YtdnfaboigajkhaaGreatDoor

set_option autoImplicit false
set_option linter.unusedSimpArgs false
set_option linter.unusedVariables false
namespace Go.Proofs.YtdnfaboigajkhaaGreatDoor
open Go.Emb Go.RowKit Go.Kd Go.Hm
section
variable {l : List Cla} (wf : Wf l)
include wf
end
end Go.Proofs.YtdnfaboigajkhaaGreatDoor

set_option autoImplicit false
set_option linter.unusedSimpArgs false
set_option linter.unusedVariables false
namespace Go.Emb
open Go.RowKit Go.Hm
variable {P : Program} {w w0 w1 w' w'' : World} {K : Value → World → Prop} {σ σ0 σ1 σ' : Store}
def elA (sz : Nat) (v : Value) (i : Nat) : Addr := match v with
  | .slice (some b) _ _ => b.add (i * sz)
  | _ => ⟨0, 0, none⟩
section
variable {α : Type} {R : Store → α → List Value → Prop} {sz : Nat} {v : Value} {xs : List α}
theorem Sl.el (h : Sl sz R σ v xs) {i : Nat} (hi : i < xs.length) : ∃ cs, Lies σ (elA sz v i) cs ∧ cs.length = sz ∧ R σ xs[i] cs := by
  obtain ⟨a, cap, rfl, h2, h3, h4, h5⟩ := h
  cases a with
  | none => have := h4 rfl; omega
  | some b =>
    obtain ⟨cs, g1, g2, g3⟩ := (h5 b rfl).2 i xs[i] (by simp [hi])
    exact ⟨cs, g1, g2, g3⟩
theorem x_ixA {t e : TypeId} {by_ : Nat} {z : Value} [TS P t e] [TZ P e sz by_ z] (h : Sl sz R σ v xs) {i : Nat} (hi : i < xs.length) (hk : K (.pointer (some (elA sz v i))) w) : indexAddr P t v (I i) w K := by
  obtain ⟨a, cap, rfl, h2, h3, h4, h5⟩ := h
  cases a with
  | none => have := h4 rfl; omega
  | some b =>
    rw [ix_raw (by omega) (by omega)]
    simpa [elA] using hk
theorem Sl.elS {xs : List Kd.Str} (h : Sl 1 RStr σ v xs) {i : Nat} (hi : i < xs.length) : Lies σ (elA 1 v i) [S xs[i]] ∧ xs[i].length ≤ Big := by
  obtain ⟨cs, h1, h2, rfl, h4⟩ := h.el hi; exact ⟨h1, h4⟩
theorem Sl.elF {xs : List Fld} (h : Sl 3 RFd σ v xs) {i : Nat} (hi : i < xs.length) : Lies σ (elA 3 v i) [S xs[i].name, S xs[i].kind, .bool xs[i].tr] ∧ RFd σ xs[i] [S xs[i].name, S xs[i].kind, .bool xs[i].tr] := by
  obtain ⟨cs, h1, h2, rfl, h4⟩ := h.el hi; exact ⟨h1, rfl, h4⟩
theorem Sl.elI {xs : List Ins} (h : Sl 3 RIn σ v xs) {i : Nat} (hi : i < xs.length) : Lies σ (elA 3 v i) [S xs[i].op, I xs[i].n, S xs[i].s] ∧ RIn σ xs[i] [S xs[i].op, I xs[i].n, S xs[i].s] := by
  obtain ⟨cs, h1, h2, rfl, h4⟩ := h.el hi; exact ⟨h1, rfl, h4⟩
theorem Sl.elK {xs : List Cat} (h : Sl 4 RCa σ v xs) {i : Nat} (hi : i < xs.length) : Lies σ (elA 4 v i) [I xs[i].frm, I xs[i].to, I xs[i].at_, S xs[i].cls] ∧ RCa σ xs[i] [I xs[i].frm, I xs[i].to, I xs[i].at_, S xs[i].cls] := by
  obtain ⟨cs, h1, h2, rfl, h4⟩ := h.el hi; exact ⟨h1, rfl, h4⟩
theorem Sl.conv {α β : Type} {R : Store → α → List Value → Prop} {R' : Store → β → List Value → Prop} {sz : Nat} {v : Value} {xs : List α} {ys : List β} (h : Sl sz R σ v xs) (hl : ys.length = xs.length) (hc : ∀ i (hi : i < xs.length) (hj : i < ys.length) cs, R σ xs[i] cs → R' σ ys[i] cs) : Sl sz R' σ v ys := by
  obtain ⟨a, cap, rfl, h2, h3, h4, h5⟩ := h
  refine ⟨a, cap, by rw [hl], by rw [hl]; exact h2, h3, h4, fun b hb => ⟨fun hp => (h5 b hb).1 (by omega), fun i x hx => ?_⟩⟩
  obtain ⟨hi, rfl⟩ := List.getElem?_eq_some_iff.1 hx
  have hi' : i < xs.length := by omega
  obtain ⟨cs, g1, g2, g3⟩ := (h5 b hb).2 i xs[i] (List.getElem?_eq_getElem hi')
  exact ⟨cs, g1, g2, hc i hi' hi cs g3⟩
theorem Sl.elM {xs : List Hm.Met} (h : Sl 7 RMe σ v xs) {i : Nat} (hi : i < xs.length) : ∃ pv cv hv, Lies σ (elA 7 v i) [S xs[i].name, pv, S xs[i].result, .bool xs[i].abs, I xs[i].locals, cv, hv] ∧ RMe σ xs[i] [S xs[i].name, pv, S xs[i].result, .bool xs[i].abs, I xs[i].locals, cv, hv] := by
  obtain ⟨cs, h1, h2, pv, cv, hv, rfl, h4⟩ := h.el hi; exact ⟨pv, cv, hv, h1, pv, cv, hv, rfl, h4⟩
theorem Sl.elC {xs : List Cla} (h : Sl 8 RCl σ v xs) {i : Nat} (hi : i < xs.length) : ∃ lv fv mv, Lies σ (elA 8 v i) [S xs[i].name, S xs[i].super, lv, .bool xs[i].iface, .bool xs[i].abs, .bool xs[i].fin, fv, mv] ∧ RCl σ xs[i] [S xs[i].name, S xs[i].super, lv, .bool xs[i].iface, .bool xs[i].abs, .bool xs[i].fin, fv, mv] := by
  obtain ⟨cs, h1, h2, lv, fv, mv, rfl, h4⟩ := h.el hi; exact ⟨lv, fv, mv, h1, lv, fv, mv, rfl, h4⟩
end
theorem dop_w {Tr : World → World → Prop} {A rest : (Value → World → Prop) → Prop} {V : Value} (h : A (fun v _ => V = v)) (hr : rest (fun v _ => V = v)) : dop Tr A rest := dop_mk _ (fun _ _ _ h _ => h) h hr
theorem dkw_same {v V : Value} (h : V = v) : dk (fun w w' => Below w.heap.size w w') (fun v _ => V = v) w v w := ⟨Below.refl _ _, h⟩
theorem dkw_val {v V : Value} (hb : Below w.heap.size w w') (h : V = v) : dk (fun w w' => Below w.heap.size w w') (fun v _ => V = v) w v w' := ⟨hb, h⟩
theorem gop_dw {c b : Bool} {V : Value} {run : World → (Value → World → Prop) → Prop} (h : c = b → run w (dk (fun w w' => Below w.heap.size w w') (fun v _ => V = v) w)) : gop (.bool c) b w run (dk (fun w w' => Below w.heap.size w w') (fun v _ => (if c = b then V else undef) = v) w) := by
  by_cases e : c = b
  · simp only [e, if_true]
    subst e
    have := h rfl
    cases c
    · rw [gop_false]; exact this
    · rw [gop_true]; exact this
  · have e2 : c = !b := by cases c <;> cases b <;> simp_all
    rw [if_neg e]; subst e2
    cases b
    · rw [Bool.not_false, gop_tf]; exact ⟨Below.refl _ _, rfl⟩
    · rw [Bool.not_true, gop_ft]; exact ⟨Below.refl _ _, rfl⟩
end Go.Emb

set_option autoImplicit false
set_option linter.unusedSimpArgs false
set_option linter.unusedVariables false
namespace Go.Proofs.YtdnfaboigajkhaaGreatDoor
open Go.Emb Go.RowKit Go.Kd Go.Hm
variable {w : World} {K : Value → World → Prop} {σ : Store}
theorem take_same {α : Type} [DecidableEq α] {xs ys : List α} {n : Nat} (h1 : n < xs.length) (h2 : n < ys.length) (h : xs.take n = ys.take n) : xs.take (n + 1) = ys.take (n + 1) ↔ xs[n] = ys[n] := by
  rw [List.take_add_one (l := xs), List.take_add_one (l := ys), List.getElem?_eq_getElem h1, List.getElem?_eq_getElem h2, h, List.append_cancel_left_eq]; simp
theorem ref_sameTexts {xs ys : List Str} {v u : Value} (hs : Sat w σ) (hv : Sl 1 RStr σ v xs) (hu : Sl 1 RStr σ u ys) (h : ∀ w', Below w.heap.size w w' → K (.bool (decide (xs = ys))) w') : callF P F.squinchref05_sameTexts [v, u] w K := r_squinchref05_sameTexts (by
  unfold g_squinchref05_sameTexts
  refine len_slK hv ?_
  refine len_slK hu ?_
  (try simp only [↓Mm, Mm, ↓Mr, Mr, Mb, reduceIte])
  refine cnd_split (fun h1 => ?_) (fun h1 => ?_)
  · have : decide (xs = ys) = false := by
      rw [decide_eq_false_iff_not]; rintro rfl; simp at h1
    rw [this] at h; exact h _ (Below.refl _ _)
  have hl : xs.length = ys.length := by
    simp only [Bool.not_eq_false', decide_eq_true_eq] at h1; omega
  refine lp_up xs.length (fun n w' => Below w.heap.size w w' ∧ xs.take n = ys.take n) ⟨Below.refl _ _, rfl⟩ fun n w1 d hn hi => ?_
  obtain ⟨hb, hp⟩ := hi
  have hs1 := hs.below hb
  refine len_slK hv ?_
  refine x_lss ?_
  refine cnd_split (fun hc => ?_) (fun hc => ?_)
  · have hn' : n < xs.length := by simpa using hc
    have hn2 : n < ys.length := by omega
    obtain ⟨a1, a2⟩ := hv.elS hn'
    obtain ⟨b1, b2⟩ := hu.elS hn2
    refine dr_hst hs1 ?_
    (repeat (apply dop_w; (· intros; (repeat (rename_i hx; subst hx)); (repeat' (first | (with_reducible exact dkw_same rfl) | (with_reducible exact dkw_val (Stp.bel (by (repeat (first | exact Stp.refl (by (first | assumption | exact Stp.sat (by assumption) | exact Hst.sat (by assumption))) | assumption | refine Stp.trans ?_ (by first | assumption | exact Hst.stp (by assumption)))))) rfl) | (with_reducible intro _) | (simp only [↓Mm, Mm, ↓Mp, Mp, Mb, reduceIte])  | (with_reducible show ldv _ _ _ _ _; first | refine ld0 aS aL aR ?_ | refine lda aS aL aR ?_ | refine ld aS aL aR ?_) | (with_reducible show indexAddr _ _ _ _ _ _; refine x_ixA aL au ?_) | (with_reducible show blt _ _ _ _ _ _ _ _; refine len_slK aL ?_) | (with_reducible show fld _ _ _ _ _ _; refine x_fld aR ?_) | (with_reducible show pick _ _ _ _ _ _; refine x_pick ?_) | (apply gop_dw; intro hh; (try simp only [hh, reduceIte, ↓Mm, Mm, ↓Mp, Mp, Mb, reduceIte])))); done)))
    (intros; (repeat (rename_i hx; subst hx)); (try simp only [↓Mm, Mm, ↓Mp, Mp, Mb, reduceIte]))
    rename_i w2 hb2
    have hbb := hb.trans (hb2.stp.bel.mono hb.size)
    refine cnd_split (fun he => ?_) (fun he => ?_)
    · have : decide (xs = ys) = false := by
        rw [decide_eq_false_iff_not]; rintro rfl; simp at he
      rw [this] at h; exact h _ hbb
    · exact up_next hv.max hn' ⟨hbb, (take_same hn' hn2 hp).2 (by simpa using he)⟩
  · have hn' : ¬ n < xs.length := by simpa using hc
    rw [List.take_of_length_le (by omega), List.take_of_length_le (by omega)] at hp
    have : decide (xs = ys) = true := by rw [hp]; simp
    rw [this] at h; exact h _ hb)
end Go.Proofs.YtdnfaboigajkhaaGreatDoor

set_option autoImplicit false
set_option linter.unusedSimpArgs false
set_option linter.unusedVariables false
namespace Go.Proofs.YtdnfaboigajkhaaGreatDoor
open Go.Emb Go.RowKit Go.Kd Go.Hm
variable {w : World} {K : Value → World → Prop} {σ : Store} {l : List Cla} {v : Value}
end Go.Proofs.YtdnfaboigajkhaaGreatDoor

set_option autoImplicit false
set_option linter.unusedSimpArgs false
set_option linter.unusedVariables false
namespace Go.Proofs.YtdnfaboigajkhaaGreatDoor
open Go.Emb Go.RowKit Go.Kd Go.Hm
variable {w : World} {K : Value → World → Prop} {σ : Store} {l : List Cla} {v : Value}
end Go.Proofs.YtdnfaboigajkhaaGreatDoor

set_option autoImplicit false
set_option linter.unusedSimpArgs false
set_option linter.unusedVariables false
namespace Go.Proofs.YtdnfaboigajkhaaGreatDoor
open Go.Emb Go.RowKit Go.Kd Go.Hm
variable {w : World} {K : Value → World → Prop} {σ : Store} {l : List Cla} {v : Value}
end Go.Proofs.YtdnfaboigajkhaaGreatDoor

set_option autoImplicit false
set_option linter.unusedSimpArgs false
set_option linter.unusedVariables false
namespace Go.Proofs.YtdnfaboigajkhaaGreatDoor
open Go.Emb Go.RowKit Go.Kd Go.Hm
variable {w : World} {K : Value → World → Prop} {σ : Store} {l : List Cla} {v : Value}
end Go.Proofs.YtdnfaboigajkhaaGreatDoor

set_option autoImplicit false
set_option linter.unusedSimpArgs false
set_option linter.unusedVariables false
namespace Go.Proofs.YtdnfaboigajkhaaGreatDoor
open Go.Emb Go.RowKit Go.Kd Go.Hm
variable {w : World} {K : Value → World → Prop} {σ : Store} {l : List Cla} {v : Value}
end Go.Proofs.YtdnfaboigajkhaaGreatDoor

set_option autoImplicit false
set_option linter.unusedSimpArgs false
set_option linter.unusedVariables false
namespace Go.Emb
open Go.RowKit Go.Hm
variable {P : Program} {w w0 w1 w' w'' : World} {K : Value → World → Prop} {σ σ0 σ1 σ' : Store}
section
variable {α : Type} {R : Store → α → List Value → Prop} {B sz : Nat} {e : TypeId} {v u : Value} {xs ys : List α}
end
section
variable {α : Type} {R : Store → α → List Value → Prop} {sz : Nat} {e : TypeId} {v u : Value} {xs ys : List α} {A rest : (Value → World → Prop) → Prop}
end
theorem RCl.parts {c : Cla} {a b lv d e f fv mv : Value} (h : RCl σ c [a, b, lv, d, e, f, fv, mv]) : Sl 1 RStr σ lv c.like ∧ Sl 3 RFd σ fv c.fields ∧ Sl 7 RMe σ mv c.methods ∧ c.name.length ≤ Big ∧ c.super.length ≤ Big := by
  obtain ⟨_, _, _, he, h1⟩ := h
  simp only [List.cons.injEq, and_true] at he
  obtain ⟨_, _, rfl, _, _, _, rfl, rfl⟩ := he
  exact h1
theorem RMe.parts {m : Hm.Met} {a pv b d e cv hv : Value} (h : RMe σ m [a, pv, b, d, e, cv, hv]) : Sl 1 RStr σ pv m.params ∧ Sl 3 RIn σ cv m.code ∧ Sl 4 RCa σ hv m.catches ∧ m.name.length ≤ Big ∧ m.result.length ≤ Big ∧ In64 m.locals := by
  obtain ⟨_, _, _, he, h1⟩ := h
  simp only [List.cons.injEq, and_true] at he
  obtain ⟨_, rfl, _, _, _, rfl, rfl⟩ := he
  exact h1
end Go.Emb

set_option autoImplicit false
set_option linter.unusedSimpArgs false
set_option linter.unusedVariables false
namespace Go.Proofs.YtdnfaboigajkhaaGreatDoor
open Go.Emb Go.RowKit Go.Kd Go.Hm
variable {w : World} {K : Value → World → Prop} {σ : Store} {v : Value}
def gHead : List Cla := [⟨sRoot, [], [], false, false, false, [], []⟩, ⟨sFault, sRoot, [], false, false, false, [⟨sWhat, sText, false⟩], []⟩]
def gMk (n : Str) : Cla := ⟨n, sFault, [], false, false, true, [], []⟩
theorem given_parts : given = gHead ++ faultNames.map gMk := rfl
theorem ref_Given (hs : Sat w σ) (h : ∀ v' w' σ', Stp w σ w' σ' → Acc w.heap.size T.api_Class 8 RCl σ' w' v' given → K v' w') : callF P F.squinchref06_Given [] w K := r_squinchref06_Given (by
  unfold g_squinchref06_Given
  refine bld_of (cells := #[S sRoot, S [], .slice none 0 0, .bool false, .bool false, .bool false, .slice none 0 0, .slice none 0 0]) (by kernel_rfl) ?_
  refine bld_of (cells := #[S sWhat, S sText, .bool false]) (by kernel_rfl) ?_
  refine bs_sl (R := RFd) (sz := 3) hs [.agg #[S sWhat, S sText, .bool false]] [⟨sWhat, sText, false⟩] rfl rfl (by simp; rfl) rfl ⟨⟨rfl, by decide, by decide⟩, trivial⟩ fun v1 w1 σ1 hk1 hv1 => ?_
  have hv1' := hv1
  obtain ⟨a1, cap1, rfl, _⟩ := hv1'
  refine bld_of (cells := #[S sFault, S sRoot, .slice none 0 0, .bool false, .bool false, .bool false, .slice a1 1 cap1, .slice none 0 0]) (by kernel_rfl) ?_
  refine bs_acc (R := RCl) (sz := 8) hk1 [.agg #[S sRoot, S [], .slice none 0 0, .bool false, .bool false, .bool false, .slice none 0 0, .slice none 0 0], .agg #[S sFault, S sRoot, .slice none 0 0, .bool false, .bool false, .bool false, .slice a1 1 cap1, .slice none 0 0]]
    gHead rfl rfl (by simp; exact ⟨rfl, rfl⟩) rfl ⟨⟨_, _, _, rfl, Sl.nil, Sl.nil, Sl.nil, by decide, by decide⟩, ⟨_, _, _, rfl, Sl.nil, hv1, Sl.nil, by decide, by decide⟩, trivial⟩ fun v2 w2 hk2 ha2 _ => ?_
  refine bs_sl (R := RStr) (sz := 1) hk2.sat (faultNames.map S) faultNames rfl rfl (by decide) rfl ⟨⟨rfl, by decide⟩, ⟨rfl, by decide⟩, ⟨rfl, by decide⟩, ⟨rfl, by decide⟩, ⟨rfl, by decide⟩, ⟨rfl, by decide⟩, trivial⟩ fun v3 w3 σ3 hk3 hv3 => ?_
  have hS3 := (hk1.trans hk2).trans hk3
  have hlf : faultNames.length = 6 := rfl
  refine lp_up2 faultNames.length (fun n x w' => ∃ σ', Stp w σ w' σ' ∧ SLe σ3 σ' ∧ Acc w.heap.size T.api_Class 8 RCl σ' w' x (gHead ++ (faultNames.take n).map gMk)) ⟨σ3, hS3, SLe.refl _, ha2.up hk3⟩ fun n x w4 d hn hinv => ?_
  obtain ⟨σ4, hS4, le4, ha4⟩ := hinv
  refine len_slK (hv3.lift le4) ?_
  refine x_lss ?_
  refine cnd_split (fun hc => ?_) (fun hc => ?_)
  · have hn' : n < faultNames.length := by simpa using hc
    have hv4 := hv3.lift le4
    refine x_ixA hv4 hn' ?_
    obtain ⟨p1, p2⟩ := hv4.elS hn'
    refine ld0 hS4.sat p1 rfl ?_
    have hle : (gHead ++ (faultNames.take n).map gMk).length ≤ 8 := by
      rw [List.length_append, List.length_map, List.length_take, show gHead.length = 2 from rfl]; omega
    have htk : (faultNames.take (n + 1)).map gMk = (faultNames.take n).map gMk ++ [gMk faultNames[n]] := by
      rw [List.take_add_one, List.getElem?_eq_getElem hn', List.map_append]; rfl
    generalize faultNames[n] = nm at p2 htk
    refine bld_of (cells := #[S nm, S sFault, .slice none 0 0, .bool false, .bool false, .bool true, .slice none 0 0, .slice none 0 0]) (by kernel_rfl) ?_
    have hr : RCl σ4 (gMk nm) [S nm, S sFault, .slice none 0 0, .bool false, .bool false, .bool true, .slice none 0 0, .slice none 0 0] := ⟨_, _, _, rfl, Sl.nil, Sl.nil, Sl.nil, p2, (by decide : sFault.length ≤ Big)⟩
    refine x_app1 (x := gMk nm) hS4 ha4 hr rfl rfl rfl (by omega) (by omega) fun s v' w5 σ5 hn5 hS5 ha5 _ => ?_
    refine x_add ?_
    refine up_next2 (by omega) hn' ⟨σ5, hS5, le4.more hn5.le, ?_⟩
    rw [htk, ← List.append_assoc]; exact ha5
  · have hn' : ¬ n < faultNames.length := by simpa using hc
    rw [List.take_of_length_le (by omega), ← given_parts] at ha4
    exact h _ _ _ hS4 ha4)
end Go.Proofs.YtdnfaboigajkhaaGreatDoor

set_option autoImplicit false
set_option linter.unusedSimpArgs false
set_option linter.unusedVariables false
namespace Go.Emb
open Go.RowKit
variable {P : Program} {w : World} {K : Value → World → Prop}
theorem eqf_nil {d : Nat} {xs ys : Array Value} : (Op.eqFields d xs ys []).run P w = .ok true w := by simp [Op.eqFields]
theorem eqf_cons {d : Nat} {xs ys : Array Value} {f : Field} {fs : List Field} {u v : Value} {b c : Bool} (hn : f.name ≠ "_") [tg : TG P f.type false] (hu : xs[f.offset]? = some u) (hv : ys[f.offset]? = some v)
    (h1 : (Op.equalIn d f.type u v).run P w = .ok b w) (h2 : (Op.eqFields d xs ys fs).run P w = .ok c w) : (Op.eqFields d xs ys (f :: fs)).run P w = .ok (b && c) w := by
  simp only [Op.eqFields, if_pos hn]
  simp [part, run_isAgg_of tg, hu, hv, h1]
  cases b
  · simp
  · simp [h2]
theorem eqi_str {d : Nat} {t : TypeId} (ht : P.underlying t = some .string) (a b : List UInt8) : (Op.equalIn (d + 1) t (S a) (S b)).run P w = .ok (decide (a = b)) w := by
  simp [Op.equalIn, run_underlying ht, bytes_beq]
theorem eqi_bool {d : Nat} {t : TypeId} (ht : P.underlying t = some .bool) (a b : Bool) : (Op.equalIn (d + 1) t (.bool a) (.bool b)).run P w = .ok (decide (a = b)) w := by
  simp [Op.equalIn, run_underlying ht]
  cases a <;> cases b <;> rfl
theorem eqi_int {d : Nat} {t : TypeId} {k k' : IntKind} (ht : P.underlying t = some (.int k)) (a b : Int) : (Op.equalIn (d + 1) t (.int k' a) (.int k' b)).run P w = .ok (decide (a = b)) w := by
  simp [Op.equalIn, run_underlying ht]
  by_cases e : a = b <;> simp [e]
theorem neq_agg {t : TypeId} {ox oy : Operand} {xs ys : List Value} {b : Bool} (hu : P.underlying t = some (.struct (P.fieldsOf t))) (hp : P.stoodInHeld t = false) (hm : P.eqGuardType P.depth t = false)
    (he : (Op.eqFields 9999 xs.toArray ys.toArray (P.fieldsOf t).toList).run P w = .ok b w) (h : K (.bool (!b)) w) : bin P .neq t ox oy (.agg xs.toArray) (.agg ys.toArray) w K := by
  have e : bin P .neq t ox oy (.agg xs.toArray) (.agg ys.toArray) w K = K (.bool (!b)) w := op_value (by
    simp only [Sem.run_bind, run_eqGuard_agg w .neq t ox oy xs.toArray ys.toArray hm, Result.andThen_ok]
    rw [run_neq_struct, run_equalIn_struct w 9999 t _ _ hu hp, he]; rfl)
  rw [e]; exact h
end Go.Emb
namespace Go.Proofs.YtdnfaboigajkhaaGreatDoor
open Go.Emb Go.RowKit Go.Kd Go.Hm
variable {w : World} {K : Value → World → Prop} {σ : Store}
theorem fs_fld : (P.fieldsOf T.api_Field).toList = [⟨"Name", T.string, 0, false, "", "", 0⟩, ⟨"Kind", T.string, 1, false, "", "", 16⟩, ⟨"Transient", T.bool, 2, false, "", "", 32⟩] := by kernel_rfl
set_option maxRecDepth 100000 in
theorem x_neFld {ox oy : Operand} {f g : Fld} (h : K (.bool (!decide (f = g))) w) : bin P .neq T.api_Field ox oy (.agg [S f.name, S f.kind, .bool f.tr].toArray) (.agg [S g.name, S g.kind, .bool g.tr].toArray) w K := by
  refine neq_agg (b := decide (f = g)) (by kernel_rfl) (by kernel_rfl) (by kernel_rfl) ?_ h
  rw [fs_fld]
  have := eqf_cons (P := P) (w := w) (d := 9999) (xs := [S f.name, S f.kind, .bool f.tr].toArray) (ys := [S g.name, S g.kind, .bool g.tr].toArray) (f := ⟨"Name", T.string, 0, false, "", "", 0⟩) (by decide) rfl rfl (eqi_str u_string _ _)
    (eqf_cons (f := ⟨"Kind", T.string, 1, false, "", "", 16⟩) (by decide) rfl rfl (eqi_str u_string _ _) (eqf_cons (f := ⟨"Transient", T.bool, 2, false, "", "", 32⟩) (by decide) rfl rfl (eqi_bool u_bool _ _) eqf_nil))
  rw [this]
  congr 1
  obtain ⟨a1, a2, a3⟩ := f
  obtain ⟨b1, b2, b3⟩ := g
  simp [Bool.decide_and]
theorem fs_ins : (P.fieldsOf T.api_Instr).toList = [⟨"Op", T.string, 0, false, "", "", 0⟩, ⟨"N", T.int64, 1, false, "", "", 16⟩, ⟨"S", T.string, 2, false, "", "", 24⟩] := by kernel_rfl
set_option maxRecDepth 100000 in
theorem x_neIns {ox oy : Operand} {f g : Ins} (h : K (.bool (!decide (f = g))) w) : bin P .neq T.api_Instr ox oy (.agg [S f.op, I f.n, S f.s].toArray) (.agg [S g.op, I g.n, S g.s].toArray) w K := by
  refine neq_agg (b := decide (f = g)) (by kernel_rfl) (by kernel_rfl) (by kernel_rfl) ?_ h
  rw [fs_ins]
  have := eqf_cons (P := P) (w := w) (d := 9999) (xs := [S f.op, I f.n, S f.s].toArray) (ys := [S g.op, I g.n, S g.s].toArray) (f := ⟨"Op", T.string, 0, false, "", "", 0⟩) (by decide) rfl rfl (eqi_str u_string _ _)
    (eqf_cons (f := ⟨"N", T.int64, 1, false, "", "", 16⟩) (by decide) rfl rfl (eqi_int (k := .i64) (by kernel_rfl) _ _) (eqf_cons (f := ⟨"S", T.string, 2, false, "", "", 24⟩) (by decide) rfl rfl (eqi_str u_string _ _) eqf_nil))
  rw [this]
  congr 1
  obtain ⟨a1, a2, a3⟩ := f
  obtain ⟨b1, b2, b3⟩ := g
  simp [Bool.decide_and]
theorem fs_cat : (P.fieldsOf T.api_Catch).toList = [⟨"From", T.int, 0, false, "", "", 0⟩, ⟨"To", T.int, 1, false, "", "", 8⟩, ⟨"At", T.int, 2, false, "", "", 16⟩, ⟨"Class", T.string, 3, false, "", "", 24⟩] := by kernel_rfl
set_option maxRecDepth 100000 in
theorem x_neCat {ox oy : Operand} {f g : Cat} (h : K (.bool (!decide (f = g))) w) : bin P .neq T.api_Catch ox oy (.agg [I f.frm, I f.to, I f.at_, S f.cls].toArray) (.agg [I g.frm, I g.to, I g.at_, S g.cls].toArray) w K := by
  refine neq_agg (b := decide (f = g)) (by kernel_rfl) (by kernel_rfl) (by kernel_rfl) ?_ h
  rw [fs_cat]
  have := eqf_cons (P := P) (w := w) (d := 9999) (xs := [I f.frm, I f.to, I f.at_, S f.cls].toArray) (ys := [I g.frm, I g.to, I g.at_, S g.cls].toArray) (f := ⟨"From", T.int, 0, false, "", "", 0⟩) (by decide) rfl rfl (eqi_int (k := .i64) (by kernel_rfl) _ _)
    (eqf_cons (f := ⟨"To", T.int, 1, false, "", "", 8⟩) (by decide) rfl rfl (eqi_int (k := .i64) (by kernel_rfl) _ _) (eqf_cons (f := ⟨"At", T.int, 2, false, "", "", 16⟩) (by decide) rfl rfl (eqi_int (k := .i64) (by kernel_rfl) _ _) (eqf_cons (f := ⟨"Class", T.string, 3, false, "", "", 24⟩) (by decide) rfl rfl (eqi_str u_string _ _) eqf_nil)))
  rw [this]
  congr 1
  obtain ⟨a1, a2, a3, a4⟩ := f
  obtain ⟨b1, b2, b3, b4⟩ := g
  simp [Bool.decide_and]
end Go.Proofs.YtdnfaboigajkhaaGreatDoor

set_option autoImplicit false
set_option linter.unusedSimpArgs false
set_option linter.unusedVariables false
namespace Go.Proofs.YtdnfaboigajkhaaGreatDoor
open Go.Emb Go.RowKit Go.Kd Go.Hm
variable {w : World} {K : Value → World → Prop} {σ : Store}
theorem take_all2 {α : Type} {xs ys : List α} {n : Nat} (h : ¬ n < xs.length) (hl : xs.length = ys.length) (hp : xs.take n = ys.take n) : xs = ys := by
  rwa [List.take_of_length_le (by omega), List.take_of_length_le (by omega)] at hp
theorem ref_SameIns {xs ys : List Ins} {v u : Value} (hs : Sat w σ) (hv : Sl 3 RIn σ v xs) (hu : Sl 3 RIn σ u ys) (h : ∀ w', Below w.heap.size w w' → K (.bool (decide (xs = ys))) w') : callF P F.squinchref04_Same [v, u] w K := r_squinchref04_Same (by
  unfold g_squinchref04_Same
  refine len_slK hv ?_
  refine len_slK hu ?_
  (try simp only [↓Mm, Mm, ↓Mr, Mr, Mb, reduceIte])
  refine cnd_split (fun h1 => ?_) (fun h1 => ?_)
  · have : decide (xs = ys) = false := by
      rw [decide_eq_false_iff_not]; rintro rfl; simp at h1
    rw [this] at h; exact h _ (Below.refl _ _)
  have hl : xs.length = ys.length := by
    simp only [Bool.not_eq_false', decide_eq_true_eq] at h1; omega
  refine lp_up xs.length (fun n w' => Below w.heap.size w w' ∧ xs.take n = ys.take n) ⟨Below.refl _ _, rfl⟩ fun n w1 d hn hi => ?_
  obtain ⟨hb, hp⟩ := hi
  have hs1 := hs.below hb
  refine len_slK hv ?_
  refine x_lss ?_
  refine cnd_split (fun hc => ?_) (fun hc => ?_)
  · have hn' : n < xs.length := by simpa using hc
    have hn2 : n < ys.length := by omega
    obtain ⟨a1, a2⟩ := hv.elI hn'
    obtain ⟨b1, b2⟩ := hu.elI hn2
    refine dr_hst hs1 ?_
    (repeat (apply dop_w; (· intros; (repeat (rename_i hx; subst hx)); (repeat' (first | (with_reducible exact dkw_same rfl) | (with_reducible exact dkw_val (Stp.bel (by (repeat (first | exact Stp.refl (by (first | assumption | exact Stp.sat (by assumption) | exact Hst.sat (by assumption))) | assumption | refine Stp.trans ?_ (by first | assumption | exact Hst.stp (by assumption)))))) rfl) | (with_reducible intro _) | (simp only [↓Mm, Mm, ↓Mp, Mp, Mb, reduceIte])  | (with_reducible show ldv _ _ _ _ _; first | refine ld0 aS aL aR ?_ | refine lda aS aL aR ?_ | refine ld aS aL aR ?_) | (with_reducible show indexAddr _ _ _ _ _ _; refine x_ixA aL au ?_) | (with_reducible show blt _ _ _ _ _ _ _ _; refine len_slK aL ?_) | (with_reducible show fld _ _ _ _ _ _; refine x_fld aR ?_) | (with_reducible show pick _ _ _ _ _ _; refine x_pick ?_) | (apply gop_dw; intro hh; (try simp only [hh, reduceIte, ↓Mm, Mm, ↓Mp, Mp, Mb, reduceIte])))); done)))
    (intros; (repeat (rename_i hx; subst hx)); (try simp only [↓Mm, Mm, ↓Mp, Mp, Mb, reduceIte]))
    rename_i w2 hb2
    have hbb := hb.trans (hb2.stp.bel.mono hb.size)
    refine x_neIns ?_
    refine cnd_split (fun he => ?_) (fun he => ?_)
    · have : decide (xs = ys) = false := by
        rw [decide_eq_false_iff_not]; rintro rfl; simp at he
      rw [this] at h; exact h _ hbb
    · (try simp only [↓Mm, Mm, ↓Mr, Mr, Mb, reduceIte])
      exact up_next hv.max hn' ⟨hbb, (take_same hn' hn2 hp).2 (by simpa using he)⟩
  · have hn' : ¬ n < xs.length := by simpa using hc
    have : decide (xs = ys) = true := by rw [take_all2 hn' hl hp]; simp
    rw [this] at h; exact h _ hb)
set_option maxHeartbeats 1000000 in
theorem ref_sameMethod {m m' : Hm.Met} {cs ds : List Value} (hs : Sat w σ) (hm : RMe σ m cs) (hm' : RMe σ m' ds) (h : ∀ w' σ', Stp w σ w' σ' → K (.bool (decide (m = m'))) w') : callF P F.squinchref05_sameMethod [.agg cs.toArray, .agg ds.toArray] w K := r_squinchref05_sameMethod (by
  unfold g_squinchref05_sameMethod
  obtain ⟨pv, cv, hv, rfl, f1, f2, f3, f4, f5, f6⟩ := hm
  obtain ⟨pv', cv', hv', rfl, g1, g2, g3, g4, g5, g6⟩ := hm'
  refine x_box hs fun q w0 σ0 hk0 hq => ?_
  refine x_box hk0.sat fun q2 w1 σ1 hk1 hq2 => ?_
  have hq1 := hq.up hk1
  have hS1 := hk0.trans hk1
  have f1 := f1.up hS1
  have f2 := f2.up hS1
  have f3 := f3.up hS1
  have g1 := g1.up hS1
  have g2 := g2.up hS1
  have g3 := g3.up hS1
  have hs1 := hS1.sat
  clear hq hk0 hk1
  (repeat' (first | (with_reducible intro _) | (with_reducible refine jn_in ?_) | (simp only [↓Mm, Mm, ↓Mp, Mp, Mb, reduceIte]) | (with_reducible first | refine ld aS aL aR ?_ | refine ld0 aS aL aR ?_ | refine lda aS aL aR ?_ | refine len_slK aL ?_ | refine x_fld aR ?_ | refine x_box aS ?_ | refine x_slb aS aL ?_ | refine x_box1 aS aR ?_ | refine alc_st aS aR aR (Rep.one (by assumption)) ?_ | refine alc_st1 aS aR aR aR ?_ | refine ref_sameTexts au au au (below_k aS ?_) | refine ref_SameIns au au au (below_k aS ?_) | (refine gop_split (fun hh => ?_) (fun hh => ?_) <;> (try simp only [hh, Bool.not_true, Bool.not_false, ↓Mm, Mm, ↓Mp, Mp, Mb, reduceIte])) | (refine cnd_split (fun hh => ?_) (fun hh => ?_) <;> (try simp only [hh, Bool.not_true, Bool.not_false, ↓Mm, Mm, ↓Mp, Mp, Mb, reduceIte])))))
  all_goals try (exact Eq.subst (motive := fun b => K (.bool b) _) (by rw [decide_eq_false_iff_not]; intro e; subst e; simp_all) (h _ _ (by (repeat (first | exact Stp.refl (by (first | assumption | exact Stp.sat (by assumption) | exact Hst.sat (by assumption))) | assumption | refine Stp.trans ?_ (by first | assumption | exact Hst.stp (by assumption)))))))
  rename_i e1 e2 e3 e4 wA σA kA e5 wB σB kB e6
  have hl : m.catches.length = m'.catches.length := by simp only [Bool.not_eq_false', decide_eq_true_eq] at hh; omega
  refine lp_up m.catches.length (fun n w' => ∃ σ', Stp w1 σ1 w' σ' ∧ m.catches.take n = m'.catches.take n) ⟨σB, kA.trans kB, rfl⟩ fun n w4 d hn hi => ?_
  obtain ⟨σ4, k4, hp⟩ := hi
  have hq4 := hq1.up k4
  have hq5 := hq2.up k4
  have f34 := f3.up k4
  have g34 := g3.up k4
  have hs4 := k4.sat
  (try simp only [↓Mm, Mm, ↓Mr, Mr, Mb, reduceIte])
  refine ld hs4 hq4 rfl ?_
  refine len_slK f34 ?_
  refine x_lss ?_
  refine cnd_split (fun hc => ?_) (fun hc => ?_)
  · have hn' : n < m.catches.length := by simpa using hc
    have hn2 : n < m'.catches.length := by omega
    obtain ⟨a1, a2⟩ := f34.elK hn'
    obtain ⟨b1, b2⟩ := g34.elK hn2
    clear kA kB
    refine dr_hst hs4 ?_
    (repeat (apply dop_w; (· intros; (repeat (rename_i hx; subst hx)); (repeat' (first | (with_reducible exact dkw_same rfl) | (with_reducible exact dkw_val (Stp.bel (by (repeat (first | exact Stp.refl (by (first | assumption | exact Stp.sat (by assumption) | exact Hst.sat (by assumption))) | assumption | refine Stp.trans ?_ (by first | assumption | exact Hst.stp (by assumption)))))) rfl) | (with_reducible intro _) | (simp only [↓Mm, Mm, ↓Mp, Mp, Mb, reduceIte])  | (with_reducible show ldv _ _ _ _ _; first | refine ld0 aS aL aR ?_ | refine lda aS aL aR ?_ | refine ld aS aL aR ?_) | (with_reducible show indexAddr _ _ _ _ _ _; refine x_ixA aL au ?_) | (with_reducible show blt _ _ _ _ _ _ _ _; refine len_slK aL ?_) | (with_reducible show fld _ _ _ _ _ _; refine x_fld aR ?_) | (with_reducible show pick _ _ _ _ _ _; refine x_pick ?_) | (apply gop_dw; intro hh; (try simp only [hh, reduceIte, ↓Mm, Mm, ↓Mp, Mp, Mb, reduceIte])))); done)))
    (intros; (repeat (rename_i hx; subst hx)); (try simp only [↓Mm, Mm, ↓Mp, Mp, Mb, reduceIte]))
    rename_i w5 hb5
    refine x_neCat ?_
    refine cnd_split (fun he => ?_) (fun he => ?_)
    · have : decide (m = m') = false := by
        rw [decide_eq_false_iff_not]; rintro rfl; simp at he
      rw [this] at h; exact h _ _ (hS1.trans (k4.trans hb5.stp))
    · (try simp only [↓Mm, Mm, ↓Mr, Mr, Mb, reduceIte])
      exact up_next f34.max hn' ⟨σ4, k4.trans hb5.stp, (take_same hn' hn2 hp).2 (by simpa using he)⟩
  · have hn' : ¬ n < m.catches.length := by simpa using hc
    have e7 := take_all2 hn' hl hp
    have : decide (m = m') = true := by
      rw [decide_eq_true_eq]
      obtain ⟨x1, x2, x3, x4, x5, x6, x7⟩ := m
      obtain ⟨y1, y2, y3, y4, y5, y6, y7⟩ := m'
      simp_all
    rw [this] at h; exact h _ _ (hS1.trans k4))
set_option maxHeartbeats 4000000 in
theorem ref_Same {c c' : Cla} {cs ds : List Value} (hs : Sat w σ) (hc : RCl σ c cs) (hc' : RCl σ c' ds) (h : ∀ w' σ', Stp w σ w' σ' → K (.bool (decide (c = c'))) w') : callF P F.squinchref05_Same [.agg cs.toArray, .agg ds.toArray] w K := r_squinchref05_Same (by
  unfold g_squinchref05_Same
  obtain ⟨lv, fv, mv, rfl, f1, f2, f3, f4, f5⟩ := hc
  obtain ⟨lv', fv', mv', rfl, g1, g2, g3, g4, g5⟩ := hc'
  refine x_box hs fun q w0 σ0 hk0 hq => ?_
  refine x_box hk0.sat fun q2 w1 σ1 hk1 hq2 => ?_
  have hq1 := hq.up hk1
  have hS1 := hk0.trans hk1
  have f1 := f1.up hS1
  have f2 := f2.up hS1
  have f3 := f3.up hS1
  have g1 := g1.up hS1
  have g2 := g2.up hS1
  have g3 := g3.up hS1
  have hs1 := hS1.sat
  clear hq hk0 hk1
  (repeat' (first | (with_reducible intro _) | (with_reducible refine jn_in ?_) | (simp only [↓Mm, Mm, ↓Mp, Mp, Mb, reduceIte]) | (with_reducible first | refine ld aS aL aR ?_ | refine ld0 aS aL aR ?_ | refine lda aS aL aR ?_ | refine len_slK aL ?_ | refine x_fld aR ?_ | refine x_box aS ?_ | refine x_slb aS aL ?_ | refine x_box1 aS aR ?_ | refine alc_st aS aR aR (Rep.one (by assumption)) ?_ | refine alc_st1 aS aR aR aR ?_ | refine ref_sameTexts au au au (below_k aS ?_) | (refine gop_split (fun hh => ?_) (fun hh => ?_) <;> (try simp only [hh, Bool.not_true, Bool.not_false, ↓Mm, Mm, ↓Mp, Mp, Mb, reduceIte])) | (refine cnd_split (fun hh => ?_) (fun hh => ?_) <;> (try simp only [hh, Bool.not_true, Bool.not_false, ↓Mm, Mm, ↓Mp, Mp, Mb, reduceIte])))))
  all_goals try (exact Eq.subst (motive := fun b => K (.bool b) _) (by rw [decide_eq_false_iff_not]; intro e; subst e; simp_all) (h _ _ (by (repeat (first | exact Stp.refl (by (first | assumption | exact Stp.sat (by assumption) | exact Hst.sat (by assumption))) | assumption | refine Stp.trans ?_ (by first | assumption | exact Hst.stp (by assumption)))))))
  rename_i e1 e2 e3 e4 e5 wA σA kA e6 e7
  have hl : c.fields.length = c'.fields.length := by simp only [Bool.not_eq_false', decide_eq_true_eq] at e7; omega
  have hl2 : c.methods.length = c'.methods.length := by simp only [Bool.not_eq_false', decide_eq_true_eq] at hh; omega
  refine lp_up c.fields.length (fun n w' => ∃ σ', Stp w1 σ1 w' σ' ∧ c.fields.take n = c'.fields.take n) ⟨σA, kA, rfl⟩ fun n w4 d hn hi => ?_
  obtain ⟨σ4, k4, hp⟩ := hi
  have hq4 := hq1.up k4
  have hq5 := hq2.up k4
  have f24 := f2.up k4
  have g24 := g2.up k4
  have hs4 := k4.sat
  (try simp only [↓Mm, Mm, ↓Mr, Mr, Mb, reduceIte])
  refine ld hs4 hq4 rfl ?_
  refine len_slK f24 ?_
  refine x_lss ?_
  refine cnd_split (fun hc => ?_) (fun hc => ?_)
  · have hn' : n < c.fields.length := by simpa using hc
    have hn2 : n < c'.fields.length := by omega
    obtain ⟨a1, a2⟩ := f24.elF hn'
    obtain ⟨b1, b2⟩ := g24.elF hn2
    clear kA
    refine dr_hst hs4 ?_
    (repeat (apply dop_w; (· intros; (repeat (rename_i hx; subst hx)); (repeat' (first | (with_reducible exact dkw_same rfl) | (with_reducible exact dkw_val (Stp.bel (by (repeat (first | exact Stp.refl (by (first | assumption | exact Stp.sat (by assumption) | exact Hst.sat (by assumption))) | assumption | refine Stp.trans ?_ (by first | assumption | exact Hst.stp (by assumption)))))) rfl) | (with_reducible intro _) | (simp only [↓Mm, Mm, ↓Mp, Mp, Mb, reduceIte])  | (with_reducible show ldv _ _ _ _ _; first | refine ld0 aS aL aR ?_ | refine lda aS aL aR ?_ | refine ld aS aL aR ?_) | (with_reducible show indexAddr _ _ _ _ _ _; refine x_ixA aL au ?_) | (with_reducible show blt _ _ _ _ _ _ _ _; refine len_slK aL ?_) | (with_reducible show fld _ _ _ _ _ _; refine x_fld aR ?_) | (with_reducible show pick _ _ _ _ _ _; refine x_pick ?_) | (apply gop_dw; intro hh; (try simp only [hh, reduceIte, ↓Mm, Mm, ↓Mp, Mp, Mb, reduceIte])))); done)))
    (intros; (repeat (rename_i hx; subst hx)); (try simp only [↓Mm, Mm, ↓Mp, Mp, Mb, reduceIte]))
    rename_i w5 hb5
    refine x_neFld ?_
    refine cnd_split (fun he => ?_) (fun he => ?_)
    · have : decide (c = c') = false := by
        rw [decide_eq_false_iff_not]; rintro rfl; simp at he
      rw [this] at h; exact h _ _ (hS1.trans (k4.trans hb5.stp))
    · (try simp only [↓Mm, Mm, ↓Mr, Mr, Mb, reduceIte])
      exact up_next f24.max hn' ⟨σ4, k4.trans hb5.stp, (take_same hn' hn2 hp).2 (by simpa using he)⟩
  · have hn' : ¬ n < c.fields.length := by simpa using hc
    have e8 := take_all2 hn' hl hp
    refine lp_up c.methods.length (fun n w' => ∃ σ', Stp w1 σ1 w' σ' ∧ c.methods.take n = c'.methods.take n) ⟨σ4, k4, rfl⟩ fun n w6 d hn hi => ?_
    obtain ⟨σ6, k6, hp⟩ := hi
    have hq6 := hq1.up k6
    have hq7 := hq2.up k6
    have f36 := f3.up k6
    have g36 := g3.up k6
    have hs6 := k6.sat
    (try simp only [↓Mm, Mm, ↓Mr, Mr, Mb, reduceIte])
    refine ld hs6 hq6 rfl ?_
    refine len_slK f36 ?_
    refine x_lss ?_
    refine cnd_split (fun hc => ?_) (fun hc => ?_)
    · have hn' : n < c.methods.length := by simpa using hc
      have hn2 : n < c'.methods.length := by omega
      obtain ⟨pv, cv, hv, a1, a2⟩ := f36.elM hn'
      obtain ⟨pv2, cv2, hv2, b1, b2⟩ := g36.elM hn2
      clear kA k4
      refine dr_hst hs6 ?_
      (repeat (apply dop_w; (· intros; (repeat (rename_i hx; subst hx)); (repeat' (first | (with_reducible exact dkw_same rfl) | (with_reducible exact dkw_val (Stp.bel (by (repeat (first | exact Stp.refl (by (first | assumption | exact Stp.sat (by assumption) | exact Hst.sat (by assumption))) | assumption | refine Stp.trans ?_ (by first | assumption | exact Hst.stp (by assumption)))))) rfl) | (with_reducible intro _) | (simp only [↓Mm, Mm, ↓Mp, Mp, Mb, reduceIte])  | (with_reducible show ldv _ _ _ _ _; first | refine ld0 aS aL aR ?_ | refine lda aS aL aR ?_ | refine ld aS aL aR ?_) | (with_reducible show indexAddr _ _ _ _ _ _; refine x_ixA aL au ?_) | (with_reducible show blt _ _ _ _ _ _ _ _; refine len_slK aL ?_) | (with_reducible show fld _ _ _ _ _ _; refine x_fld aR ?_) | (with_reducible show pick _ _ _ _ _ _; refine x_pick ?_) | (apply gop_dw; intro hh; (try simp only [hh, reduceIte, ↓Mm, Mm, ↓Mp, Mp, Mb, reduceIte])))); done)))
      (intros; (repeat (rename_i hx; subst hx)); (try simp only [↓Mm, Mm, ↓Mp, Mp, Mb, reduceIte]))
      rename_i w7 hb7
      refine ref_sameMethod hb7.sat a2 b2 fun w8 σ8 k8 => ?_
      (try simp only [↓Mm, Mm, ↓Mr, Mr, Mb, reduceIte])
      refine cnd_split (fun he => ?_) (fun he => ?_)
      · have : decide (c = c') = false := by
          rw [decide_eq_false_iff_not]; rintro rfl; simp at he
        rw [this] at h; exact h _ _ (hS1.trans (k6.trans (hb7.stp.trans k8)))
      · (try simp only [↓Mm, Mm, ↓Mr, Mr, Mb, reduceIte])
        exact up_next f36.max hn' ⟨σ8, k6.trans (hb7.stp.trans k8), (take_same hn' hn2 hp).2 (by simpa using he)⟩
    · have hn' : ¬ n < c.methods.length := by simpa using hc
      have e9 := take_all2 hn' hl2 hp
      have : decide (c = c') = true := by
        rw [decide_eq_true_eq]
        obtain ⟨x1, x2, x3, x4, x5, x6, x7, x8⟩ := c
        obtain ⟨y1, y2, y3, y4, y5, y6, y7, y8⟩ := c'
        simp_all
      rw [this] at h; exact h _ _ (hS1.trans k6))
end Go.Proofs.YtdnfaboigajkhaaGreatDoor

set_option autoImplicit false
set_option linter.unusedSimpArgs false
set_option linter.unusedVariables false
namespace Go.Hm
open Go.Kd
def Edge (l : List Cla) (i j : Nat) : Prop := ∃ c, l[i]? = some c ∧ ∃ u ∈ ups c, findC l u = some j
inductive Thr (E : Nat → Nat → Prop) (n : Nat) : Nat → Nat → Prop
  | one {i j : Nat} : E i j → Thr E n i j
  | more {i m j : Nat} : E i m → m < n → Thr E n m j → Thr E n i j
theorem Thr.mono {E : Nat → Nat → Prop} {n m i j : Nat} (h : Thr E n i j) (hm : n ≤ m) : Thr E m i j := by
  induction h with
  | one h => exact .one h
  | more h1 h2 _ ih => exact .more h1 (by omega) ih
theorem Thr.cut {E : Nat → Nat → Prop} {n i j : Nat} (h : Thr E (n + 1) i j) : Thr E n i j ∨ (Thr E n i n ∧ Thr E n n j) := by
  induction h with
  | one h => exact .inl (.one h)
  | @more i m j h1 h2 _ ih =>
    by_cases hm : m < n
    · rcases ih with ih | ⟨a, b⟩
      · exact .inl (.more h1 hm ih)
      · exact .inr ⟨.more h1 hm a, b⟩
    · obtain rfl : m = n := by omega
      rcases ih with ih | ⟨a, b⟩
      · exact .inr ⟨.one h1, ih⟩
      · exact .inr ⟨.one h1, b⟩
theorem Thr.join {E : Nat → Nat → Prop} {n i k j : Nat} (h : Thr E n i k) (hk : k < n) (g : Thr E n k j) : Thr E n i j := by
  induction h with
  | one h => exact .more h hk g
  | more h1 h2 _ ih => exact .more h1 h2 (ih hk g)
theorem edge_over {l : List Cla} (ho : Own l) {i j : Nat} (hi : i < l.length) : Edge l i j ↔ j < l.length ∧ ∃ u ∈ ups l[i], u = nameAt l j ∧ findC l u = some j := by
  unfold Edge
  rw [List.getElem?_eq_getElem hi]
  constructor
  · rintro ⟨c, hc, u, hu, hf⟩
    cases hc
    exact ⟨(findC_at hf).1, u, hu, (findC_at hf).2.symm, hf⟩
  · rintro ⟨_, u, hu, _, hf⟩
    exact ⟨_, rfl, u, hu, hf⟩
theorem lkAt {l : List Cla} (ho : Own l) {i : Nat} (hi : i < l.length) : lk l (nameAt l i) = some l[i] := by
  have := nameAt_lk ho hi
  rwa [List.getD_eq_getElem?_getD, List.getElem?_eq_getElem hi] at this
theorem thr_over {l : List Cla} (ho : Own l) {i j : Nat} (hi : i < l.length) (h : Thr (Edge l) l.length i j) : j < l.length ∧ Over (lk l) (nameAt l i) (nameAt l j) := by
  induction h with
  | one h =>
    obtain ⟨h1, u, hu, he, hf⟩ := (edge_over ho hi).1 h
    obtain ⟨c, hc, _⟩ := lk_find hf
    refine ⟨h1, _, lkAt ho hi, u, hu, ?_⟩
    subst he; exact .refl hc
  | more h1 h2 _ ih =>
    obtain ⟨q1, q2⟩ := ih h2
    obtain ⟨_, u, hu, he, hf⟩ := (edge_over ho hi).1 h1
    refine ⟨q1, _, lkAt ho hi, u, hu, ?_⟩
    subst he; exact q2.reach
theorem reach_thr {l : List Cla} (ho : Own l) {a b : Str} (h : Hm.Reach (lk l) a b) : ∀ i j, findC l a = some i → findC l b = some j → i = j ∨ Thr (Edge l) l.length i j := by
  induction h with
  | refl _ =>
    intro i j h1 h2; rw [h1] at h2; cases h2; exact .inl rfl
  | step hc hu hr ih =>
    rename_i a u b c
    intro i j h1 h2
    obtain ⟨d, hd⟩ := hr.left
    obtain ⟨_, _, k, hk, hk2⟩ := lk_some hd
    obtain ⟨c', hc', hc2, _⟩ := lk_find h1
    rw [hc] at hc'; cases hc'
    have he : Edge l i k := ⟨c, hc2, u, hu, hk⟩
    rcases ih k j hk h2 with rfl | hT
    · exact .inr (.one he)
    · exact .inr (.more he (findC_at hk).1 hT)
theorem over_thr {l : List Cla} (ho : Own l) {i j : Nat} (hi : i < l.length) (hj : j < l.length) (h : Over (lk l) (nameAt l i) (nameAt l j)) : Thr (Edge l) l.length i j := by
  obtain ⟨c, hc, u, hu, hr⟩ := h
  rw [lkAt ho hi] at hc; cases hc
  obtain ⟨d, hd⟩ := hr.left
  obtain ⟨_, _, k, hk, hk2⟩ := lk_some hd
  have he : Edge l i k := ⟨_, List.getElem?_eq_getElem hi, u, hu, hk⟩
  have hfj : findC l (nameAt l j) = some j := by
    have := ho.find (List.getElem?_eq_getElem hj)
    unfold nameAt
    rw [List.getD_eq_getElem?_getD, List.getElem?_eq_getElem hj]; exact this
  rcases reach_thr ho hr k j hk hfj with rfl | hT
  · exact .one he
  · exact .more he (findC_at hk).1 hT
theorem thr_iff {l : List Cla} (ho : Own l) {i j : Nat} (hi : i < l.length) (hj : j < l.length) : Thr (Edge l) l.length i j ↔ overB l (nameAt l i) (nameAt l j) = true := by
  rw [overB_iff]
  exact ⟨fun h => (thr_over ho hi h).2, over_thr ho hi hj⟩
def upd2 (m : Nat → Nat → Bool) (i j : Nat) (b : Bool) : Nat → Nat → Bool := fun x y => if x = i ∧ y = j then b else m x y
structure Clos (E : Nat → Nat → Prop) (n k i j : Nat) (m : Nat → Nat → Bool) : Prop where
  sound : ∀ a b, m a b = true → Thr E n a b
  full : ∀ a b, a < n → b < n → Thr E k a b → m a b = true
  done : ∀ a b, a < n → b < n → (a < i ∨ (a = i ∧ b < j)) → Thr E (k + 1) a b → m a b = true
theorem Clos.next {E : Nat → Nat → Prop} {n k i j : Nat} {m : Nat → Nat → Bool} (h : Clos E n k i j m) (hk : k < n) (hi : i < n) (hj : j < n) : Clos E n k i (j + 1) (upd2 m i j (m i j || (m i k && m k j))) := by
  have mono : ∀ a b, m a b = true → upd2 m i j (m i j || (m i k && m k j)) a b = true := by
    intro a b hab
    unfold upd2
    split
    · rename_i e; rw [← e.1, ← e.2, hab]; rfl
    · exact hab
  refine ⟨fun a b hab => ?_, fun a b ha hb hT => mono a b (h.full a b ha hb hT), fun a b ha hb hlt hT => ?_⟩
  · unfold upd2 at hab
    split at hab
    · rename_i e
      obtain ⟨rfl, rfl⟩ := e
      simp only [Bool.or_eq_true, Bool.and_eq_true] at hab
      rcases hab with h1 | ⟨h1, h2⟩
      · exact h.sound _ _ h1
      · exact (h.sound _ _ h1).join hk (h.sound _ _ h2)
    · exact h.sound _ _ hab
  · by_cases e : a = i ∧ b = j
    · obtain ⟨rfl, rfl⟩ := e
      unfold upd2
      rw [if_pos ⟨rfl, rfl⟩]
      rcases hT.cut with h1 | ⟨h1, h2⟩
      · rw [h.full _ _ hi hj h1]; rfl
      · rw [h.full _ _ hi hk h1, h.full _ _ hk hj h2]; simp
    · refine mono a b (h.done a b ha hb ?_ hT)
      rcases hlt with h1 | ⟨h1, h2⟩
      · exact .inl h1
      · right; refine ⟨h1, ?_⟩
        have : b ≠ j := fun e' => e ⟨h1, e'⟩
        omega
theorem Clos.row {E : Nat → Nat → Prop} {n k i : Nat} {m : Nat → Nat → Bool} (h : Clos E n k i n m) : Clos E n k (i + 1) 0 m :=
  ⟨h.sound, h.full, fun a b ha hb hlt hT => h.done a b ha hb (by omega) hT⟩
theorem Clos.round {E : Nat → Nat → Prop} {n k : Nat} {m : Nat → Nat → Bool} (h : Clos E n k n 0 m) : Clos E n (k + 1) 0 0 m :=
  ⟨h.sound, fun a b ha hb hT => h.done a b ha hb (.inl ha) hT, fun a b ha hb hlt hT => by omega⟩
theorem Clos.start {E : Nat → Nat → Prop} {n : Nat} {m : Nat → Nat → Bool} (h : ∀ a b, a < n → (m a b = true ↔ E a b)) (h0 : ∀ a b, n ≤ a → m a b = false) : Clos E n 0 0 0 m := by
  refine ⟨fun a b hab => ?_, fun a b ha hb hT => ?_, fun a b ha hb hlt hT => by omega⟩
  · by_cases ha : a < n
    · exact .one ((h a b ha).1 hab)
    · rw [h0 a b (by omega)] at hab; cases hab
  · cases hT with
    | one e => exact (h a b ha).2 e
    | more _ h2 _ => omega
theorem Clos.all {l : List Cla} (ho : Own l) {m : Nat → Nat → Bool} (h : Clos (Edge l) l.length l.length 0 0 m) {i j : Nat} (hi : i < l.length) (hj : j < l.length) : m i j = overB l (nameAt l i) (nameAt l j) := by
  rw [Bool.eq_iff_iff, ← thr_iff ho hi hj]
  exact ⟨h.sound i j, h.full i j hi hj⟩
end Go.Hm

set_option autoImplicit false
set_option linter.unusedSimpArgs false
set_option linter.unusedVariables false
namespace Go.Emb
open Go.RowKit Go.Hm
variable {P : Program} {w w0 w1 w' w'' : World} {K : Value → World → Prop} {σ σ0 σ1 σ' : Store}
def RRow (n : Nat) (_ : Store) (b : Nat) (cs : List Value) : Prop := cs = [.slice (some ⟨b, 0, none⟩) n n]
instance (n : Nat) : Rep (RRow n) := ⟨fun _ h => h, fun h u hu => by rw [h] at hu; simp at hu; subst hu; rfl⟩
def RBools (σ : Store) (xs : List Bool) (cs : List Value) : Prop := ∃ v, cs = [v] ∧ Sl 1 RBool σ v xs
instance : Rep RBools := ⟨fun k h => by obtain ⟨v, h1, h2⟩ := h; exact ⟨v, h1, h2.le k⟩, fun h u hu => by
  obtain ⟨v, rfl, a, cap, rfl, _⟩ := h
  simp at hu; subst hu; rfl⟩
def bools (n : Nat) (f : Nat → Bool) : List Value := (List.range n).map fun j => .bool (f j)
theorem bools_get {n j : Nat} {f : Nat → Bool} (h : j < n) : (bools n f)[j]? = some (.bool (f j)) := by simp [bools, h]
theorem bools_set {n j : Nat} {f : Nat → Bool} {b : Bool} : (bools n f).set j (.bool b) = bools n (fun x => if x = j then b else f x) := by
  apply List.ext_getElem?
  intro k
  rw [List.getElem?_set]
  by_cases hk : k < n
  · by_cases e : j = k
    · subst e; simp [bools, hk]
    · have e' : ¬ k = j := fun h => e h.symm
      simp [bools, hk, e, e']
  · simp [bools, hk]
    intro e; omega
def Mat (σ : Store) (w : World) (bs : List Nat) (n : Nat) (m : Nat → Nat → Bool) : Prop := bs.Nodup ∧ ∀ i (h : i < bs.length), Mine σ w bs[i] (bools n (m i))
theorem Mat.up {bs : List Nat} {n : Nat} {m : Nat → Nat → Bool} (h : Mat σ w bs n m) (k : Stp w σ w' σ') : Mat σ' w' bs n m := ⟨h.1, fun i hi => (h.2 i hi).up k⟩
theorem Mat.kp {bs : List Nat} {n : Nat} {m : Nat → Nat → Bool} {D : Nat → Prop} (h : Mat σ w bs n m) (k : Kpt D w w') (hd : ∀ b ∈ bs, ¬ D b) : Mat σ w' bs n m := ⟨h.1, fun i hi => (h.2 i hi).kp k (hd _ (List.getElem_mem hi))⟩
theorem Mat.lt {bs : List Nat} {n : Nat} {m : Nat → Nat → Bool} (h : Mat σ w bs n m) {b : Nat} (hb : b ∈ bs) : b < w.heap.size ∧ σ b = none := by
  obtain ⟨i, hi, rfl⟩ := List.getElem_of_mem hb
  exact ⟨(h.2 i hi).lt, (h.2 i hi).1⟩
theorem Mat.congr {bs : List Nat} {n : Nat} {m m' : Nat → Nat → Bool} (h : Mat σ w bs n m) (he : ∀ i, i < bs.length → m i = m' i) : Mat σ w bs n m' := ⟨h.1, fun i hi => he i hi ▸ h.2 i hi⟩
theorem Mat.keep {bs : List Nat} {n : Nat} {m : Nat → Nat → Bool} (hn : 0 < n) (hmax : n ≤ 1000000) : ∀ {σ : Store}, Mat σ w bs n m → Stp w0 σ0 w σ → (∀ b ∈ bs, w0.heap.size ≤ b) → ∃ σ', Stp w0 σ0 w σ' ∧ SLe σ σ' ∧ ∀ i (h : i < bs.length), Sl 1 RBool σ' (.slice (some ⟨bs[i], 0, none⟩) n n) ((List.range n).map (m i)) := by
  intro σ h hS hb
  have key : ∀ k, k ≤ bs.length → ∃ σ', Stp w0 σ0 w σ' ∧ SLe σ σ' ∧ (∀ i (h : i < bs.length), i < k → Lies σ' ⟨bs[i], 0, none⟩ (bools n (m i))) ∧ ∀ i (h : i < bs.length), k ≤ i → σ' bs[i] = none := by
    intro k
    induction k with
    | zero => intro _; exact ⟨σ, hS, SLe.refl _, fun i _ h => by omega, fun i hi _ => (h.2 i hi).1⟩
    | succ k ih =>
      intro hk
      obtain ⟨σ1, h1, h2, h3, h4⟩ := ih (by omega)
      have hk' : k < bs.length := by omega
      have hm : Mine σ1 w bs[k] (bools n (m k)) := ⟨h4 k hk' (Nat.le_refl _), (h.2 k hk').2⟩
      obtain ⟨σ2, g1, g2, g3, g4⟩ := hm.keep h1 (hb _ (List.getElem_mem hk'))
      refine ⟨σ2, g1, h2.more ⟨g3⟩, fun i hi hik => ?_, fun i hi hki => ?_⟩
      · by_cases e : i = k
        · subst e; exact g2
        · exact (h3 i hi (by omega)).le g3
      · rw [g4]
        · exact h4 i hi (by omega)
        · intro e
          have := List.nodup_iff_pairwise_ne.1 h.1
          rw [List.pairwise_iff_getElem] at this
          exact this k i hk' hi (by omega) e.symm
  obtain ⟨σ1, h1, h2, h3, _⟩ := key bs.length (Nat.le_refl _)
  refine ⟨σ1, h1, h2, fun i hi => ⟨some ⟨bs[i], 0, none⟩, n, by simp, by simp, by simp only [maxLen]; omega, fun e => (by cases e), ?_⟩⟩
  intro b he
  obtain rfl := Option.some.inj he
  refine ⟨fun _ => rfl, fun j x hx => ?_⟩
  have hj : j < n := by have := (List.getElem?_eq_some_iff.1 hx).1; simpa using this
  obtain ⟨q0, arr, e, fr, q1, q2⟩ := h3 i hi hi
  have hx' : x = m i j := by simp [hj] at hx; exact hx.symm
  refine ⟨[.bool x], ⟨add_spot rfl _, arr, e, fr, by rw [add_block]; exact q1, fun k v hv => ?_⟩, rfl, rfl⟩
  obtain rfl : k = 0 := by cases k with
    | zero => rfl
    | succ k => simp at hv
  simp at hv
  rw [add_off, ← hv, hx']
  have := q2 j _ (bools_get hj)
  simpa using this
end Go.Emb

set_option autoImplicit false
set_option linter.unusedSimpArgs false
set_option linter.unusedVariables false
namespace Go.Emb
open Go.RowKit Go.Hm
variable {P : Program} {w w0 w1 w' w'' : World} {K : Value → World → Prop} {σ σ0 σ1 σ' : Store}
theorem x_ixR {t e : TypeId} {sz by_ : Nat} {z : Value} [ts : TS P t e] [tz : TZ P e sz by_ z] {a : Addr} {n cap i : Nat} (hi : i < n) (hk : K (.pointer (some (a.add (i * sz)))) w) : indexAddr P t (.slice (some a) n cap) (I i) w K := by
  rw [ix_raw (by omega) (by omega)]
  simpa using hk
theorem Mat.nx {D : Nat → Prop} {bs : List Nat} {n : Nat} {m : Nat → Nat → Bool} (h : Mat σ w bs n m) (k : Nxt D w σ w' σ') (hd : ∀ b ∈ bs, ¬ D b) : Mat σ' w' bs n m :=
  ⟨h.1, fun i hi => (h.2 i hi).nx k (hd _ (List.getElem_mem hi))⟩
theorem Mat.set {bs : List Nat} {n i j : Nat} {b : Bool} {m : Nat → Nat → Bool} (h : Mat σ w bs n m) (hi : i < bs.length) (hu : Upd w bs[i] w') (hm : Mine σ w' bs[i] ((bools n (m i)).set j (.bool b))) : Mat σ w' bs n (upd2 m i j b) := by
  refine ⟨h.1, fun k hk => ?_⟩
  by_cases e : k = i
  · subst e
    rw [bools_set] at hm
    have : upd2 m k j b k = fun x => if x = j then b else m k x := by funext x; simp [upd2]
    rw [this]; exact hm
  · have : upd2 m i j b k = m k := by funext x; simp [upd2, e]
    rw [this]
    refine (h.2 k hk).upd hu fun e' => e ?_
    rcases Nat.lt_trichotomy k i with hlt | hlt | hlt
    · have := List.nodup_iff_pairwise_ne.1 h.1
      rw [List.pairwise_iff_getElem] at this
      exact absurd e' (this k i hk hi hlt)
    · exact hlt
    · have := List.nodup_iff_pairwise_ne.1 h.1
      rw [List.pairwise_iff_getElem] at this
      exact absurd e'.symm (this i k hi hk hlt)
end Go.Emb
namespace Go.Proofs.YtdnfaboigajkhaaGreatDoor
open Go.Emb Go.RowKit Go.Kd Go.Hm
variable {w : World} {K : Value → World → Prop} {σ : Store} {l : List Cla} {v : Value}
end Go.Proofs.YtdnfaboigajkhaaGreatDoor

set_option autoImplicit false
set_option linter.unusedSimpArgs false
set_option linter.unusedVariables false
namespace Go.Emb
open Go.RowKit Go.Hm
end Go.Emb
namespace Go.Hm
end Go.Hm
namespace Go.Proofs.YtdnfaboigajkhaaGreatDoor
open Go.Emb Go.RowKit Go.Kd Go.Hm
variable {w : World} {K : Value → World → Prop} {σ : Store} {l : List Cla}
end Go.Proofs.YtdnfaboigajkhaaGreatDoor

set_option autoImplicit false
set_option linter.unusedSimpArgs false
set_option linter.unusedVariables false
namespace Go.Emb
open Go.RowKit Go.Hm
variable {w w0 w1 w' w'' : World} {σ σ0 σ1 σ2 σ' : Store}
theorem Stp.weak (h : Stp w σ1 w' σ2) (le : ∀ b o, σ b = some o → σ1 b = some o) : Stp w σ w' σ :=
  ⟨h.bel, fun b o e => h.sat b o (h.le b o (le b o e)), fun _ _ e => e, fun _ _ => rfl⟩
theorem Acc.mine {α : Type} {R : Store → α → List Value → Prop} {B sz : Nat} {e : TypeId} {v : Value} {xs : List α} (h : Acc B e sz R σ w v xs) (hp : 0 < xs.length) : ∃ g cap cs, v = .slice (some ⟨g, 0, none⟩) xs.length cap ∧ Mine σ w g cs ∧ xs.length * sz ≤ cs.length ∧ B ≤ g := by
  obtain ⟨cells, h1, h2, h3⟩ := h
  rcases h1.2 with ⟨rfl, h0⟩ | ⟨g, cap, cur, rfl, hb, hg, hle, hmax, hsz, htk⟩
  · omega
  · refine ⟨g, cap, cur.toList, rfl, ⟨h2 g rfl, e, by simpa using hg⟩, ?_, hb⟩
    have e : cur.toList.length = cap * sz := by rw [Array.length_toList, hsz]
    rw [e]; exact Nat.mul_le_mul_right _ hle
end Go.Emb
namespace Go.Proofs.YtdnfaboigajkhaaGreatDoor
open Go.Emb Go.RowKit Go.Kd Go.Hm
variable {w : World} {K : Value → World → Prop} {σ : Store}
set_option maxHeartbeats 4000000 in
theorem l_HierGiven {a : Int} (hs : Sat w σ) (hg : Glb σ) (hwf : (Lit.int .i64 a).wf = true)
    (h : ∀ w' σ', Stp w σ w' σ' → K (.bool true) w') : callF P F.squinchlaw06_HierGiven [.int .i64 a] w K := r_squinchlaw06_HierGiven (by
  unfold g_squinchlaw06_HierGiven
  refine c_Given hs hg fun va w1 σ1 hk1 ha1 => ?_
  refine ref_Given hk1.sat fun vb w2 σ2 hk2 hb2 => ?_
  obtain ⟨σ3, hk3, hvb, le3, _⟩ := hb2.keep hk2
  have ha3 := ha1.up hk3
  have hS3 := hk1.trans hk3
  refine c_awake hS3.sat (hg.lift ⟨hS3.le⟩) fun w4 σ4 hk4 => ?_
  have ha4 := ha3.up hk4
  have hS4 := hS3.trans hk4
  have hb4 := hvb.up hk4
  clear ha3 hvb hb2 ha1 hk2
  obtain ⟨σ5, hS5, hv5, le5, _⟩ := ha4.keep hS4
  (try simp only [↓Mm, Mm, ↓Mr, Mr, Mb, reduceIte])
  refine len_slK hv5 ?_
  (try simp only [↓Mm, Mm, ↓Mr, Mr, Mb, reduceIte])
  refine len_slK hb4 ?_
  refine x_neq ?_
  (try simp only [ne_eq, decide_true, Bool.not_true, ↓Mm, Mm, ↓Mr, Mr, Mb, reduceIte])
  refine lp_up given.length (fun n w' => Stp w σ w' σ4 ∧ Acc w.heap.size T.api_Class 8 RCl σ4 w' va given) ⟨hS4, ha4⟩ fun n w6 d hn hinv => ?_
  obtain ⟨hS6, ha6⟩ := hinv
  refine len_slK hb4 ?_
  refine x_lss ?_
  refine cnd_split (fun hc => ?_) (fun hc => ?_)
  · have hn' : n < given.length := by simpa using hc
    obtain ⟨σ7, hS7, hv7, le7, _⟩ := ha6.keep hS6
    have hb7 := hb4.lift ⟨le7⟩
    obtain ⟨lv1, fv1, mv1, p1, r1⟩ := hv7.elC hn'
    obtain ⟨lv2, fv2, mv2, p2, r2⟩ := hb7.elC hn'
    refine dr_hst hS7.sat ?_
    (repeat (apply dop_w; (· intros; (repeat (rename_i hx; subst hx)); (repeat' (first | (with_reducible exact dkw_same rfl) | (with_reducible exact dkw_val (Stp.bel (by (repeat (first | exact Stp.refl (by (first | assumption | exact Stp.sat (by assumption) | exact Hst.sat (by assumption))) | assumption | refine Stp.trans ?_ (by first | assumption | exact Hst.stp (by assumption)))))) rfl) | (with_reducible intro _) | (simp only [↓Mm, Mm, ↓Mp, Mp, Mb, reduceIte])  | (with_reducible show ldv _ _ _ _ _; first | refine ld0 aS aL aR ?_ | refine lda aS aL aR ?_ | refine ld aS aL aR ?_) | (with_reducible show indexAddr _ _ _ _ _ _; refine x_ixA aL au ?_) | (with_reducible show blt _ _ _ _ _ _ _ _; refine len_slK aL ?_) | (with_reducible show fld _ _ _ _ _ _; refine x_fld aR ?_) | (with_reducible show pick _ _ _ _ _ _; refine x_pick ?_) | (apply gop_dw; intro hh; (try simp only [hh, reduceIte, ↓Mm, Mm, ↓Mp, Mp, Mb, reduceIte])))); done)))
    (intros; (repeat (rename_i hx; subst hx)); (try simp only [↓Mm, Mm, ↓Mp, Mp, Mb, reduceIte]))
    rename_i w8 hb8
    refine ref_Same hb8.sat r1 r2 fun w9 σ9 hk9 => ?_
    simp only [decide_true, Bool.not_true, ↓Mm, Mm, ↓Mr, Mr, Mb, reduceIte]
    have hw := (hb8.stp.trans hk9).weak le7
    exact up_next (by decide) hn' ⟨hS6.trans hw, ha6.up hw⟩
  · obtain ⟨g, cap, cs, rfl, hm6, hcs, hgB⟩ := ha6.mine (by decide)
    obtain ⟨σ7, hS7, hv7, le7, _⟩ := ha6.keep hS6
    refine jn_mk (fun _ w' => Stp w σ w' σ4) ?_ (fun _ d w7 hS7 => ?_)
    · by_cases h0 : 0 ≤ a
      · simp only [h0, decide_true, ↓Mm, Mm, ↓Mr, Mr, Mb, reduceIte]
        refine len_slK hv7 ?_
        refine x_lss ?_
        (try simp only [↓Mm, Mm, ↓Mr, Mr, Mb, reduceIte])
        refine cnd_split (fun hc => ?_) (fun hc => ?_)
        · obtain ⟨n, rfl⟩ := Int.eq_ofNat_of_zero_le h0
          have hn' : n < given.length := by simpa using hc
          refine x_ixR hn' ?_
          refine x_fa ?_
          rw [add_zero]
          refine st1 hm6 (by omega) rfl rfl fun w8 u8 hm8 => ?_
          exact u8.stp hS6 hgB hm6.1
        · exact hS6
      · simp only [h0, decide_false, Bool.false_eq_true, ↓Mm, Mm, ↓Mr, Mr, Mb, reduceIte]
        exact hS6
    · refine c_Given hS7.sat (hg.lift ⟨hS7.le⟩) fun vc w8 σ8 hk8 ha8 => ?_
      obtain ⟨σ9, hk9, hv9, _, _⟩ := ha8.keep hk8
      have hb9 := hb4.up hk9
      have hs9 := hk9.sat
      have hS9 := hS7.trans hk9
      by_cases h0 : a < 0
      · refine dr_hst hs9 ?_
        (repeat (apply dop_w; (· intros; (repeat (rename_i hx; subst hx)); (repeat' (first | (with_reducible exact dkw_same rfl) | (with_reducible exact dkw_val (Stp.bel (by (repeat (first | exact Stp.refl (by (first | assumption | exact Stp.sat (by assumption) | exact Hst.sat (by assumption))) | assumption | refine Stp.trans ?_ (by first | assumption | exact Hst.stp (by assumption)))))) rfl) | (with_reducible intro _) | (simp only [↓Mm, Mm, ↓Mp, Mp, Mb, reduceIte])  | (with_reducible show ldv _ _ _ _ _; first | refine ld0 aS aL aR ?_ | refine lda aS aL aR ?_ | refine ld aS aL aR ?_) | (with_reducible show indexAddr _ _ _ _ _ _; refine x_ixA aL au ?_) | (with_reducible show blt _ _ _ _ _ _ _ _; refine len_slK aL ?_) | (with_reducible show fld _ _ _ _ _ _; refine x_fld aR ?_) | (with_reducible show pick _ _ _ _ _ _; refine x_pick ?_) | (apply gop_dw; intro hh; (try simp only [hh, reduceIte, ↓Mm, Mm, ↓Mp, Mp, Mb, reduceIte])))); done)))
        simp only [h0, decide_true, Bool.not_true, Bool.not_false, reduceIte]
        (repeat (apply dop_w; (· intros; (repeat (rename_i hx; subst hx)); (repeat' (first | (with_reducible exact dkw_same rfl) | (with_reducible exact dkw_val (Stp.bel (by (repeat (first | exact Stp.refl (by (first | assumption | exact Stp.sat (by assumption) | exact Hst.sat (by assumption))) | assumption | refine Stp.trans ?_ (by first | assumption | exact Hst.stp (by assumption)))))) rfl) | (with_reducible intro _) | (simp only [↓Mm, Mm, ↓Mp, Mp, Mb, reduceIte])  | (with_reducible show ldv _ _ _ _ _; first | refine ld0 aS aL aR ?_ | refine lda aS aL aR ?_ | refine ld aS aL aR ?_) | (with_reducible show indexAddr _ _ _ _ _ _; refine x_ixA aL au ?_) | (with_reducible show blt _ _ _ _ _ _ _ _; refine len_slK aL ?_) | (with_reducible show fld _ _ _ _ _ _; refine x_fld aR ?_) | (with_reducible show pick _ _ _ _ _ _; refine x_pick ?_) | (apply gop_dw; intro hh; (try simp only [hh, reduceIte, ↓Mm, Mm, ↓Mp, Mp, Mb, reduceIte])))); done)))
        (intros; (repeat (rename_i hx; subst hx)); (try simp only [↓Mm, Mm, ↓Mp, Mp, Mb, reduceIte]))
        rename_i w10 hb10
        first | exact h _ _ (hS9.trans hb10.stp) | (trace_state; sorry)
      · by_cases h1 : (given.length : Int) ≤ a
        · refine dr_hst hs9 ?_
          (repeat (apply dop_w; (· intros; (repeat (rename_i hx; subst hx)); (repeat' (first | (with_reducible exact dkw_same rfl) | (with_reducible exact dkw_val (Stp.bel (by (repeat (first | exact Stp.refl (by (first | assumption | exact Stp.sat (by assumption) | exact Hst.sat (by assumption))) | assumption | refine Stp.trans ?_ (by first | assumption | exact Hst.stp (by assumption)))))) rfl) | (with_reducible intro _) | (simp only [↓Mm, Mm, ↓Mp, Mp, Mb, reduceIte])  | (with_reducible show ldv _ _ _ _ _; first | refine ld0 aS aL aR ?_ | refine lda aS aL aR ?_ | refine ld aS aL aR ?_) | (with_reducible show indexAddr _ _ _ _ _ _; refine x_ixA aL au ?_) | (with_reducible show blt _ _ _ _ _ _ _ _; refine len_slK aL ?_) | (with_reducible show fld _ _ _ _ _ _; refine x_fld aR ?_) | (with_reducible show pick _ _ _ _ _ _; refine x_pick ?_) | (apply gop_dw; intro hh; (try simp only [hh, reduceIte, ↓Mm, Mm, ↓Mp, Mp, Mb, reduceIte])))); done)))
          simp only [h0, h1, decide_true, decide_false, Bool.not_true, Bool.not_false, Bool.true_eq_false, Bool.false_eq_true, reduceIte]
          (repeat (apply dop_w; (· intros; (repeat (rename_i hx; subst hx)); (repeat' (first | (with_reducible exact dkw_same rfl) | (with_reducible exact dkw_val (Stp.bel (by (repeat (first | exact Stp.refl (by (first | assumption | exact Stp.sat (by assumption) | exact Hst.sat (by assumption))) | assumption | refine Stp.trans ?_ (by first | assumption | exact Hst.stp (by assumption)))))) rfl) | (with_reducible intro _) | (simp only [↓Mm, Mm, ↓Mp, Mp, Mb, reduceIte])  | (with_reducible show ldv _ _ _ _ _; first | refine ld0 aS aL aR ?_ | refine lda aS aL aR ?_ | refine ld aS aL aR ?_) | (with_reducible show indexAddr _ _ _ _ _ _; refine x_ixA aL au ?_) | (with_reducible show blt _ _ _ _ _ _ _ _; refine len_slK aL ?_) | (with_reducible show fld _ _ _ _ _ _; refine x_fld aR ?_) | (with_reducible show pick _ _ _ _ _ _; refine x_pick ?_) | (apply gop_dw; intro hh; (try simp only [hh, reduceIte, ↓Mm, Mm, ↓Mp, Mp, Mb, reduceIte])))); done)))
          (intros; (repeat (rename_i hx; subst hx)); (try simp only [↓Mm, Mm, ↓Mp, Mp, Mb, reduceIte]))
          rename_i w10 hb10
          first | exact h _ _ (hS9.trans hb10.stp) | (trace_state; sorry)
        · obtain ⟨n, rfl⟩ := Int.eq_ofNat_of_zero_le (Int.not_lt.1 h0)
          have hn' : n < given.length := by omega
          obtain ⟨lv1, fv1, mv1, p1, r1⟩ := hv9.elC hn'
          obtain ⟨lv2, fv2, mv2, p2, r2⟩ := hb9.elC hn'
          refine dr_hst hs9 ?_
          (repeat (apply dop_w; (· intros; (repeat (rename_i hx; subst hx)); (repeat' (first | (with_reducible exact dkw_same rfl) | (with_reducible exact dkw_val (Stp.bel (by (repeat (first | exact Stp.refl (by (first | assumption | exact Stp.sat (by assumption) | exact Hst.sat (by assumption))) | assumption | refine Stp.trans ?_ (by first | assumption | exact Hst.stp (by assumption)))))) rfl) | (with_reducible intro _) | (simp only [↓Mm, Mm, ↓Mp, Mp, Mb, reduceIte])  | (with_reducible show ldv _ _ _ _ _; first | refine ld0 aS aL aR ?_ | refine lda aS aL aR ?_ | refine ld aS aL aR ?_) | (with_reducible show indexAddr _ _ _ _ _ _; refine x_ixA aL au ?_) | (with_reducible show blt _ _ _ _ _ _ _ _; refine len_slK aL ?_) | (with_reducible show fld _ _ _ _ _ _; refine x_fld aR ?_) | (with_reducible show pick _ _ _ _ _ _; refine x_pick ?_) | (apply gop_dw; intro hh; (try simp only [hh, reduceIte, ↓Mm, Mm, ↓Mp, Mp, Mb, reduceIte])))); done)))
          simp only [h0, h1, decide_true, decide_false, Bool.not_true, Bool.not_false, Bool.true_eq_false, Bool.false_eq_true, reduceIte]
          (repeat (apply dop_w; (· intros; (repeat (rename_i hx; subst hx)); (repeat' (first | (with_reducible exact dkw_same rfl) | (with_reducible exact dkw_val (Stp.bel (by (repeat (first | exact Stp.refl (by (first | assumption | exact Stp.sat (by assumption) | exact Hst.sat (by assumption))) | assumption | refine Stp.trans ?_ (by first | assumption | exact Hst.stp (by assumption)))))) rfl) | (with_reducible intro _) | (simp only [↓Mm, Mm, ↓Mp, Mp, Mb, reduceIte])  | (with_reducible show ldv _ _ _ _ _; first | refine ld0 aS aL aR ?_ | refine lda aS aL aR ?_ | refine ld aS aL aR ?_) | (with_reducible show indexAddr _ _ _ _ _ _; refine x_ixA aL au ?_) | (with_reducible show blt _ _ _ _ _ _ _ _; refine len_slK aL ?_) | (with_reducible show fld _ _ _ _ _ _; refine x_fld aR ?_) | (with_reducible show pick _ _ _ _ _ _; refine x_pick ?_) | (apply gop_dw; intro hh; (try simp only [hh, reduceIte, ↓Mm, Mm, ↓Mp, Mp, Mb, reduceIte])))); done)))
          (intros; (repeat (rename_i hx; subst hx)); (try simp only [↓Mm, Mm, ↓Mp, Mp, Mb, reduceIte]))
          rename_i w10 hb10
          refine ref_Same hb10.sat r1 r2 fun w11 σ11 hk11 => ?_
          simp only [decide_true, Bool.not_true, ↓Mm, Mm, ↓Mr, Mr, Mb, reduceIte]
          first | exact h _ _ (hS9.trans (hb10.stp.trans hk11)) | (trace_state; sorry))
end Go.Proofs.YtdnfaboigajkhaaGreatDoor

namespace Go.Proofs.YtdnfaboigajkhaaGreatDoor.hierGiven
open Go.ChangeShapes Go.WideShapes Go.ChangeAt Go.RowKit
open Go.Emb
set_option linter.unusedVariables false
set_option linter.unusedSimpArgs false
theorem own : ownKnob Tryz.prog.godebug = none := by kernel_rfl
theorem lay : laidOutB Tryz.prog = true := by kernel_rfl
set_option maxRecDepth 100000 in
theorem lifted (os : Os) (started : os.Started) (H : Type) (enc : TypeId × Value → H) :
    ReturnsInHanded {} Tryz.checked os 6 .any (fun w args => (Rows.hierGivenSpec.pre enc Tryz.prog Tryz.f6 [] false w args ∧ laidMetH Tryz.prog laidAll w) ∧ sizedMet enc Tryz.prog Tryz.f6 (OpenSpec.ofChange Rows.hierGivenSpec) false w args) (Rows.hierGivenSpec.post enc Tryz.prog Tryz.f6 false true false false) := by
  refine returnsInHanded_of_change_and (C := Tryz.checked) (X := fun w _ => laidMetH Tryz.prog laidAll w) (fun _ _ _ hh h => h.of_heap hh) own started (by kernel_rfl) Tryz.func6
    (ChangeSpec.witness_shaped (enc := enc) (C := Tryz.checked) (os := os) (X := fun w _ => laidMetH Tryz.prog laidAll w) false (World.laidAll Tryz.prog os laidAll) #[.int .i64 0] 8 (World.laidAll_os _ _ _)
      (World.shaped_of_ZipB (by kernel_rfl) (by kernel_rfl)) (by kernel_rfl) (by kernel_rfl) (by kernel_rfl) (by rw [MakeChecks.laidMetH_plain _ _ _ (by kernel_rfl)]; exact laidMet_laidAll _ (by kernel_rfl) (by kernel_rfl))) ?_
  intro W base args ds gs before hval0 hW _ hsz0 hL _
  have hsz : (DataW.weightsEach Tryz.prog (Tryz.f6.params.toList ++ Rows.hierGivenSpec.plain.varTypes Tryz.prog) (ds ++ gs)).all (· ≤ reachBytes) = true := hsz0
  have hval : ∀ (j : Nat) t v, Tryz.f6.params[j]? = some t → args[j]? = some v → Value.okWide Tryz.prog W .any base t v := hval0
  have hW' := hW
  obtain ⟨p, q, hA0, hV, rfl, hfz, hnd⟩ := hW
  have hA : DataW.TrodAll enc Tryz.prog W 0 (fun _ => true) true Tryz.f6.params.toList args.toList ds p := hA0
  have hlt := DataW.TrodAll.lt hA
  rw [Tryz.params6] at hA hval hsz
  obtain ⟨v0, vs0, d0, ds0, p0, q0, hargs, rfl, rfl, h0, r0⟩ := trodAll_cons hA
  obtain ⟨rfl, rfl, rfl⟩ := trodAll_nil r0
  obtain rfl : args = #[v0] := by cases args; simp_all
  obtain ⟨rfl, rfl⟩ := trodVars_none hV
  have g0 : ∀ x ∈ p0, x.block < W.heap.size := fun x hx => hlt x (by simp [hx])
  have k0 := fun (W' : World) (bel : Below W.heap.size W W') => Below.trod lay (by kernel_rfl) (of_decide_eq_true (by kernel_rfl)) h0 bel g0
  obtain ⟨a0, rfl, _, _, w0⟩ := open_int Tryz.underlying3 (hval 0 3 v0 rfl rfl) h0
  have hc : callF Tryz.prog 6 [.int .i64 a0] W (fun e w' => e = .bool true ∧ Below W.heap.size W w') := l_HierGiven sat_whole (glb_of hL) w0 (fun w' σ' hb => ⟨rfl, hb.bel⟩)
  refine (calls_of_callF Tryz.func6 (by kernel_rfl) (by kernel_rfl) hc).mono fun e W' he => ?_
  obtain ⟨v, rfl⟩ : ∃ v, e = .returned v := by cases e <;> first | exact ⟨_, rfl⟩ | exact he.elim
  obtain ⟨rfl, bel⟩ := he
  exact ⟨_, rfl, _, _, _, [], _, [], hW', trodAll_mk1 (shut_bool Tryz.underlying4 _), (trodAll_cons_mk (k0 W' bel) trodAll_mk0), rfl, bel.frame _, fun h => by cases h⟩
theorem over : Rows.hierGivenRow.holds Tryz.pinned (OpenSpec.ofChange Rows.hierGivenSpec) :=
  OpenClaim.holds_of_wide 6 Tryz.f6 rfl rfl rfl rfl rfl rfl rfl ⟨rfl, rfl, rfl, rfl, rfl⟩ rfl rfl rfl rfl rfl (by kernel_rfl) Tryz.func6 (by kernel_rfl)
    (of_decide_eq_true (by kernel_rfl)) (by unfold Func.isWrapper; first | (rw [if_pos (by decide +kernel)]; kernel_rfl) | (rw [if_neg (by decide +kernel)]; exact ⟨rfl, rfl⟩))
    (fun os started H enc _ => lifted os started H enc)
end Go.Proofs.YtdnfaboigajkhaaGreatDoor.hierGiven
namespace Go.Proofs.YtdnfaboigajkhaaGreatDoor
theorem hierGiven_holds : Rows.HierGivenSaid := hierGiven.over
end Go.Proofs.YtdnfaboigajkhaaGreatDoor
