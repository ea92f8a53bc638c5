import Derived.Test.YtcailbfhljoppaaG0
import Derived.Test.YtcailbfhljoppaaR0
import Derived.Test.YtcailbfhljoppaaKM
/-! kind: what the functions come to -/
set_option autoImplicit false
set_option linter.unusedSimpArgs false
set_option linter.unusedVariables false
namespace Go.Proofs.Ytcailbfhljoppaa
open Go.Emb Go.RowKit Go.Kd
variable {w : World} {K : Value → World → Prop}

theorem u_string : P.underlying T.string = some .string := by kernel_rfl
theorem u_int : P.underlying T.int = some (.int .i64) := by kernel_rfl
theorem u_bool : P.underlying T.bool = some .bool := by kernel_rfl
theorem u_uint8 : P.underlying T.uint8 = some (.int .u8) := by kernel_rfl
theorem u_int32 : P.underlying T.int32 = some (.int .i32) := by kernel_rfl

theorem k_great (c : Int) (h : K (.bool (great c)) w) : callF P F.kind_great [.int .i32 c] w K := r_kind_great (by
  unfold g_kind_great
  (try simp only [↓pick_true, ↓pick_false, pick_true, pick_false, ↓gop_undef, gop_undef, ↓bin_add, ↓bin_sub, ↓bin_mul, ↓bin_lss, ↓bin_leq, ↓bin_gtr, ↓bin_geq, ↓bin_eql, ↓bin_neq, ↓una_not, ↓bin_eql_str, ↓bin_neq_str, ↓ext0, ↓ext1, ↓ext0', ↓ext1', ↓ext2', ↓ext00, ↓pick_and, ↓pick_or, ↓gop_true, ↓gop_false, ↓gop_tf, ↓gop_ft, ↓gop_pure, ↓cnd_true, ↓cnd_false, bin_add, bin_sub, bin_mul, bin_lss, bin_leq, bin_gtr, bin_geq, bin_eql, bin_neq, una_not, bin_eql_str, bin_neq_str, ext0, ext1, ext0', ext1', ext2', ext00, pick_and, pick_or, gop_true, gop_false, gop_tf, gop_ft, gop_pure, cnd_true, cnd_false, reduceIte, Bool.true_eq_false, Bool.false_eq_true, Bool.not_true, Bool.not_false, Bool.and_true, Bool.true_and, Bool.and_false, Bool.false_and, Bool.or_true, Bool.true_or, Bool.or_false, Bool.false_or])
  cases h1 : decide (65 ≤ c) <;> simp only [h1, ↓pick_true, ↓pick_false, pick_true, pick_false, ↓gop_undef, gop_undef, ↓bin_add, ↓bin_sub, ↓bin_mul, ↓bin_lss, ↓bin_leq, ↓bin_gtr, ↓bin_geq, ↓bin_eql, ↓bin_neq, ↓una_not, ↓bin_eql_str, ↓bin_neq_str, ↓ext0, ↓ext1, ↓ext0', ↓ext1', ↓ext2', ↓ext00, ↓pick_and, ↓pick_or, ↓gop_true, ↓gop_false, ↓gop_tf, ↓gop_ft, ↓gop_pure, ↓cnd_true, ↓cnd_false, bin_add, bin_sub, bin_mul, bin_lss, bin_leq, bin_gtr, bin_geq, bin_eql, bin_neq, una_not, bin_eql_str, bin_neq_str, ext0, ext1, ext0', ext1', ext2', ext00, pick_and, pick_or, gop_true, gop_false, gop_tf, gop_ft, gop_pure, cnd_true, cnd_false, reduceIte, Bool.true_eq_false, Bool.false_eq_true, Bool.not_true, Bool.not_false, Bool.and_true, Bool.true_and, Bool.and_false, Bool.false_and, Bool.or_true, Bool.true_or, Bool.or_false, Bool.false_or] <;> simpa [great, h1] using h)
theorem k_small (c : Int) (h : K (.bool (small c)) w) : callF P F.kind_small [.int .i32 c] w K := r_kind_small (by
  unfold g_kind_small
  (try simp only [↓pick_true, ↓pick_false, pick_true, pick_false, ↓gop_undef, gop_undef, ↓bin_add, ↓bin_sub, ↓bin_mul, ↓bin_lss, ↓bin_leq, ↓bin_gtr, ↓bin_geq, ↓bin_eql, ↓bin_neq, ↓una_not, ↓bin_eql_str, ↓bin_neq_str, ↓ext0, ↓ext1, ↓ext0', ↓ext1', ↓ext2', ↓ext00, ↓pick_and, ↓pick_or, ↓gop_true, ↓gop_false, ↓gop_tf, ↓gop_ft, ↓gop_pure, ↓cnd_true, ↓cnd_false, bin_add, bin_sub, bin_mul, bin_lss, bin_leq, bin_gtr, bin_geq, bin_eql, bin_neq, una_not, bin_eql_str, bin_neq_str, ext0, ext1, ext0', ext1', ext2', ext00, pick_and, pick_or, gop_true, gop_false, gop_tf, gop_ft, gop_pure, cnd_true, cnd_false, reduceIte, Bool.true_eq_false, Bool.false_eq_true, Bool.not_true, Bool.not_false, Bool.and_true, Bool.true_and, Bool.and_false, Bool.false_and, Bool.or_true, Bool.true_or, Bool.or_false, Bool.false_or])
  cases h1 : decide (97 ≤ c) <;> simp only [h1, ↓pick_true, ↓pick_false, pick_true, pick_false, ↓gop_undef, gop_undef, ↓bin_add, ↓bin_sub, ↓bin_mul, ↓bin_lss, ↓bin_leq, ↓bin_gtr, ↓bin_geq, ↓bin_eql, ↓bin_neq, ↓una_not, ↓bin_eql_str, ↓bin_neq_str, ↓ext0, ↓ext1, ↓ext0', ↓ext1', ↓ext2', ↓ext00, ↓pick_and, ↓pick_or, ↓gop_true, ↓gop_false, ↓gop_tf, ↓gop_ft, ↓gop_pure, ↓cnd_true, ↓cnd_false, bin_add, bin_sub, bin_mul, bin_lss, bin_leq, bin_gtr, bin_geq, bin_eql, bin_neq, una_not, bin_eql_str, bin_neq_str, ext0, ext1, ext0', ext1', ext2', ext00, pick_and, pick_or, gop_true, gop_false, gop_tf, gop_ft, gop_pure, cnd_true, cnd_false, reduceIte, Bool.true_eq_false, Bool.false_eq_true, Bool.not_true, Bool.not_false, Bool.and_true, Bool.true_and, Bool.and_false, Bool.false_and, Bool.or_true, Bool.true_or, Bool.or_false, Bool.false_or] <;> simpa [small, h1] using h)
theorem k_alnum (c : Int) (h : K (.bool (alnum c)) w) : callF P F.kind_Name_1 [.int .i32 c] w K := r_kind_Name_1 (by
  unfold g_kind_Name_1
  refine k_great c ?_
  cases h1 : great c
  · (try simp only [↓pick_true, ↓pick_false, pick_true, pick_false, ↓gop_undef, gop_undef, ↓bin_add, ↓bin_sub, ↓bin_mul, ↓bin_lss, ↓bin_leq, ↓bin_gtr, ↓bin_geq, ↓bin_eql, ↓bin_neq, ↓una_not, ↓bin_eql_str, ↓bin_neq_str, ↓ext0, ↓ext1, ↓ext0', ↓ext1', ↓ext2', ↓ext00, ↓pick_and, ↓pick_or, ↓gop_true, ↓gop_false, ↓gop_tf, ↓gop_ft, ↓gop_pure, ↓cnd_true, ↓cnd_false, bin_add, bin_sub, bin_mul, bin_lss, bin_leq, bin_gtr, bin_geq, bin_eql, bin_neq, una_not, bin_eql_str, bin_neq_str, ext0, ext1, ext0', ext1', ext2', ext00, pick_and, pick_or, gop_true, gop_false, gop_tf, gop_ft, gop_pure, cnd_true, cnd_false, reduceIte, Bool.true_eq_false, Bool.false_eq_true, Bool.not_true, Bool.not_false, Bool.and_true, Bool.true_and, Bool.and_false, Bool.false_and, Bool.or_true, Bool.true_or, Bool.or_false, Bool.false_or])
    refine k_small c ?_
    cases h2 : small c
    · (try simp only [↓pick_true, ↓pick_false, pick_true, pick_false, ↓gop_undef, gop_undef, ↓bin_add, ↓bin_sub, ↓bin_mul, ↓bin_lss, ↓bin_leq, ↓bin_gtr, ↓bin_geq, ↓bin_eql, ↓bin_neq, ↓una_not, ↓bin_eql_str, ↓bin_neq_str, ↓ext0, ↓ext1, ↓ext0', ↓ext1', ↓ext2', ↓ext00, ↓pick_and, ↓pick_or, ↓gop_true, ↓gop_false, ↓gop_tf, ↓gop_ft, ↓gop_pure, ↓cnd_true, ↓cnd_false, bin_add, bin_sub, bin_mul, bin_lss, bin_leq, bin_gtr, bin_geq, bin_eql, bin_neq, una_not, bin_eql_str, bin_neq_str, ext0, ext1, ext0', ext1', ext2', ext00, pick_and, pick_or, gop_true, gop_false, gop_tf, gop_ft, gop_pure, cnd_true, cnd_false, reduceIte, Bool.true_eq_false, Bool.false_eq_true, Bool.not_true, Bool.not_false, Bool.and_true, Bool.true_and, Bool.and_false, Bool.false_and, Bool.or_true, Bool.true_or, Bool.or_false, Bool.false_or])
      cases h3 : decide (48 ≤ c)
      · (try simp only [↓pick_true, ↓pick_false, pick_true, pick_false, ↓gop_undef, gop_undef, ↓bin_add, ↓bin_sub, ↓bin_mul, ↓bin_lss, ↓bin_leq, ↓bin_gtr, ↓bin_geq, ↓bin_eql, ↓bin_neq, ↓una_not, ↓bin_eql_str, ↓bin_neq_str, ↓ext0, ↓ext1, ↓ext0', ↓ext1', ↓ext2', ↓ext00, ↓pick_and, ↓pick_or, ↓gop_true, ↓gop_false, ↓gop_tf, ↓gop_ft, ↓gop_pure, ↓cnd_true, ↓cnd_false, bin_add, bin_sub, bin_mul, bin_lss, bin_leq, bin_gtr, bin_geq, bin_eql, bin_neq, una_not, bin_eql_str, bin_neq_str, ext0, ext1, ext0', ext1', ext2', ext00, pick_and, pick_or, gop_true, gop_false, gop_tf, gop_ft, gop_pure, cnd_true, cnd_false, reduceIte, Bool.true_eq_false, Bool.false_eq_true, Bool.not_true, Bool.not_false, Bool.and_true, Bool.true_and, Bool.and_false, Bool.false_and, Bool.or_true, Bool.true_or, Bool.or_false, Bool.false_or])
        simpa [alnum, digit, h1, h2, h3] using h
      · (try simp only [↓pick_true, ↓pick_false, pick_true, pick_false, ↓gop_undef, gop_undef, ↓bin_add, ↓bin_sub, ↓bin_mul, ↓bin_lss, ↓bin_leq, ↓bin_gtr, ↓bin_geq, ↓bin_eql, ↓bin_neq, ↓una_not, ↓bin_eql_str, ↓bin_neq_str, ↓ext0, ↓ext1, ↓ext0', ↓ext1', ↓ext2', ↓ext00, ↓pick_and, ↓pick_or, ↓gop_true, ↓gop_false, ↓gop_tf, ↓gop_ft, ↓gop_pure, ↓cnd_true, ↓cnd_false, bin_add, bin_sub, bin_mul, bin_lss, bin_leq, bin_gtr, bin_geq, bin_eql, bin_neq, una_not, bin_eql_str, bin_neq_str, ext0, ext1, ext0', ext1', ext2', ext00, pick_and, pick_or, gop_true, gop_false, gop_tf, gop_ft, gop_pure, cnd_true, cnd_false, reduceIte, Bool.true_eq_false, Bool.false_eq_true, Bool.not_true, Bool.not_false, Bool.and_true, Bool.true_and, Bool.and_false, Bool.false_and, Bool.or_true, Bool.true_or, Bool.or_false, Bool.false_or])
        simpa [alnum, digit, h1, h2, h3] using h
    · (try simp only [↓pick_true, ↓pick_false, pick_true, pick_false, ↓gop_undef, gop_undef, ↓bin_add, ↓bin_sub, ↓bin_mul, ↓bin_lss, ↓bin_leq, ↓bin_gtr, ↓bin_geq, ↓bin_eql, ↓bin_neq, ↓una_not, ↓bin_eql_str, ↓bin_neq_str, ↓ext0, ↓ext1, ↓ext0', ↓ext1', ↓ext2', ↓ext00, ↓pick_and, ↓pick_or, ↓gop_true, ↓gop_false, ↓gop_tf, ↓gop_ft, ↓gop_pure, ↓cnd_true, ↓cnd_false, bin_add, bin_sub, bin_mul, bin_lss, bin_leq, bin_gtr, bin_geq, bin_eql, bin_neq, una_not, bin_eql_str, bin_neq_str, ext0, ext1, ext0', ext1', ext2', ext00, pick_and, pick_or, gop_true, gop_false, gop_tf, gop_ft, gop_pure, cnd_true, cnd_false, reduceIte, Bool.true_eq_false, Bool.false_eq_true, Bool.not_true, Bool.not_false, Bool.and_true, Bool.true_and, Bool.and_false, Bool.false_and, Bool.or_true, Bool.true_or, Bool.or_false, Bool.false_or])
      simpa [alnum, h1, h2] using h
  · (try simp only [↓pick_true, ↓pick_false, pick_true, pick_false, ↓gop_undef, gop_undef, ↓bin_add, ↓bin_sub, ↓bin_mul, ↓bin_lss, ↓bin_leq, ↓bin_gtr, ↓bin_geq, ↓bin_eql, ↓bin_neq, ↓una_not, ↓bin_eql_str, ↓bin_neq_str, ↓ext0, ↓ext1, ↓ext0', ↓ext1', ↓ext2', ↓ext00, ↓pick_and, ↓pick_or, ↓gop_true, ↓gop_false, ↓gop_tf, ↓gop_ft, ↓gop_pure, ↓cnd_true, ↓cnd_false, bin_add, bin_sub, bin_mul, bin_lss, bin_leq, bin_gtr, bin_geq, bin_eql, bin_neq, una_not, bin_eql_str, bin_neq_str, ext0, ext1, ext0', ext1', ext2', ext00, pick_and, pick_or, gop_true, gop_false, gop_tf, gop_ft, gop_pure, cnd_true, cnd_false, reduceIte, Bool.true_eq_false, Bool.false_eq_true, Bool.not_true, Bool.not_false, Bool.and_true, Bool.true_and, Bool.and_false, Bool.false_and, Bool.or_true, Bool.true_or, Bool.or_false, Bool.false_or])
    simpa [alnum, h1] using h)

theorem k_all (a : List UInt8) (f : Value) (p : Int → Bool) (hf : ∀ (c : Int) (w : World) (K : Value → World → Prop), K (.bool (p c)) w → callV P f [.int .i32 c] w K)
    (h : ∀ w', Below w.heap.size w w' → K (.bool (allR p ⟨a.toArray⟩ a.length 0)) w') : callF P F.kind_all [S a, f] w K := r_kind_all (by
  unfold g_kind_all
  rw [rng_str u_string]
  refine lp_mk (fun _ w' => ∃ pos n : Nat, a.length - pos ≤ n ∧ allR p ⟨a.toArray⟩ a.length 0 = allR p ⟨a.toArray⟩ n pos ∧ Below w.heap.size w w' ∧ w'.heap[w.heap.size]? = some (.stringIter ⟨a.toArray⟩ pos))
    (fun _ w' => match w'.heap[w.heap.size]? with | some (.stringIter _ pos) => a.length - pos | _ => 0) ⟨0, a.length, by omega, rfl, (Below.refl _ _).alloc (Nat.le_refl _) _, heap_alloc_new w _⟩ ?_
  rintro _ _ w1 ⟨pos, n, hn, he, hb, hi⟩
  by_cases hp : pos < a.length
  · rw [nxt_str hi (by rw [size_mk]; exact hp)]
    (try simp only [↓pick_true, ↓pick_false, pick_true, pick_false, ↓gop_undef, gop_undef, ↓bin_add, ↓bin_sub, ↓bin_mul, ↓bin_lss, ↓bin_leq, ↓bin_gtr, ↓bin_geq, ↓bin_eql, ↓bin_neq, ↓una_not, ↓bin_eql_str, ↓bin_neq_str, ↓ext0, ↓ext1, ↓ext0', ↓ext1', ↓ext2', ↓ext00, ↓pick_and, ↓pick_or, ↓gop_true, ↓gop_false, ↓gop_tf, ↓gop_ft, ↓gop_pure, ↓cnd_true, ↓cnd_false, bin_add, bin_sub, bin_mul, bin_lss, bin_leq, bin_gtr, bin_geq, bin_eql, bin_neq, una_not, bin_eql_str, bin_neq_str, ext0, ext1, ext0', ext1', ext2', ext00, pick_and, pick_or, gop_true, gop_false, gop_tf, gop_ft, gop_pure, cnd_true, cnd_false, reduceIte, Bool.true_eq_false, Bool.false_eq_true, Bool.not_true, Bool.not_false, Bool.and_true, Bool.true_and, Bool.and_false, Bool.false_and, Bool.or_true, Bool.true_or, Bool.or_false, Bool.false_or])
    refine hf _ _ _ ?_
    obtain ⟨n, rfl⟩ : ∃ m, n = m + 1 := ⟨n - 1, by omega⟩
    simp only [allR, size_mk, hp, if_true] at he
    have hw := decode_width (s := ⟨a.toArray⟩) (i := pos)
    have hsz : w.heap.size < w1.heap.size := (Array.getElem?_eq_some_iff.1 hi).1
    cases hc : p (Utf8.decode ⟨a.toArray⟩ pos).1
    · (try simp only [↓pick_true, ↓pick_false, pick_true, pick_false, ↓gop_undef, gop_undef, ↓bin_add, ↓bin_sub, ↓bin_mul, ↓bin_lss, ↓bin_leq, ↓bin_gtr, ↓bin_geq, ↓bin_eql, ↓bin_neq, ↓una_not, ↓bin_eql_str, ↓bin_neq_str, ↓ext0, ↓ext1, ↓ext0', ↓ext1', ↓ext2', ↓ext00, ↓pick_and, ↓pick_or, ↓gop_true, ↓gop_false, ↓gop_tf, ↓gop_ft, ↓gop_pure, ↓cnd_true, ↓cnd_false, bin_add, bin_sub, bin_mul, bin_lss, bin_leq, bin_gtr, bin_geq, bin_eql, bin_neq, una_not, bin_eql_str, bin_neq_str, ext0, ext1, ext0', ext1', ext2', ext00, pick_and, pick_or, gop_true, gop_false, gop_tf, gop_ft, gop_pure, cnd_true, cnd_false, reduceIte, Bool.true_eq_false, Bool.false_eq_true, Bool.not_true, Bool.not_false, Bool.and_true, Bool.true_and, Bool.and_false, Bool.false_and, Bool.or_true, Bool.true_or, Bool.or_false, Bool.false_or])
      rw [hc] at he
      have := h _ (below_put (o := .stringIter ⟨a.toArray⟩ (pos + (Utf8.decode ⟨a.toArray⟩ pos).2)) hb (Nat.le_refl _))
      rw [he] at this
      exact this
    · (try simp only [↓pick_true, ↓pick_false, pick_true, pick_false, ↓gop_undef, gop_undef, ↓bin_add, ↓bin_sub, ↓bin_mul, ↓bin_lss, ↓bin_leq, ↓bin_gtr, ↓bin_geq, ↓bin_eql, ↓bin_neq, ↓una_not, ↓bin_eql_str, ↓bin_neq_str, ↓ext0, ↓ext1, ↓ext0', ↓ext1', ↓ext2', ↓ext00, ↓pick_and, ↓pick_or, ↓gop_true, ↓gop_false, ↓gop_tf, ↓gop_ft, ↓gop_pure, ↓cnd_true, ↓cnd_false, bin_add, bin_sub, bin_mul, bin_lss, bin_leq, bin_gtr, bin_geq, bin_eql, bin_neq, una_not, bin_eql_str, bin_neq_str, ext0, ext1, ext0', ext1', ext2', ext00, pick_and, pick_or, gop_true, gop_false, gop_tf, gop_ft, gop_pure, cnd_true, cnd_false, reduceIte, Bool.true_eq_false, Bool.false_eq_true, Bool.not_true, Bool.not_false, Bool.and_true, Bool.true_and, Bool.and_false, Bool.false_and, Bool.or_true, Bool.true_or, Bool.or_false, Bool.false_or])
      rw [hc] at he
      refine ⟨⟨_, n, ?_, he, below_put hb (Nat.le_refl _), put_get hsz⟩, ?_⟩
      · omega
      · simp only [put_get hsz, hi]; omega
  · rw [nxt_str_end hi (by rw [size_mk]; exact hp)]
    (try simp only [↓pick_true, ↓pick_false, pick_true, pick_false, ↓gop_undef, gop_undef, ↓bin_add, ↓bin_sub, ↓bin_mul, ↓bin_lss, ↓bin_leq, ↓bin_gtr, ↓bin_geq, ↓bin_eql, ↓bin_neq, ↓una_not, ↓bin_eql_str, ↓bin_neq_str, ↓ext0, ↓ext1, ↓ext0', ↓ext1', ↓ext2', ↓ext00, ↓pick_and, ↓pick_or, ↓gop_true, ↓gop_false, ↓gop_tf, ↓gop_ft, ↓gop_pure, ↓cnd_true, ↓cnd_false, bin_add, bin_sub, bin_mul, bin_lss, bin_leq, bin_gtr, bin_geq, bin_eql, bin_neq, una_not, bin_eql_str, bin_neq_str, ext0, ext1, ext0', ext1', ext2', ext00, pick_and, pick_or, gop_true, gop_false, gop_tf, gop_ft, gop_pure, cnd_true, cnd_false, reduceIte, Bool.true_eq_false, Bool.false_eq_true, Bool.not_true, Bool.not_false, Bool.and_true, Bool.true_and, Bool.and_false, Bool.false_and, Bool.or_true, Bool.true_or, Bool.or_false, Bool.false_or])
    have : allR p ⟨a.toArray⟩ n pos = true := by
      cases n with
      | zero => rfl
      | succ n => simp only [allR, size_mk, hp, if_false]
    rw [← this, ← he]
    exact h _ hb)

theorem alnum_high (c : Int) (h : 128 ≤ c) : alnum c = false := by
  simp [alnum, great, small, digit]; omega
theorem k_Name (a : List UInt8) (ha : a.length ≤ 140737488355328) (h : ∀ w', Below w.heap.size w w' → K (.bool (name a)) w') : callF P F.kind_Name [S a] w K := r_kind_Name (by
  unfold g_kind_Name
  have fin : ∀ c r, a = c :: r → (decide (a.length ≤ 32) && !digit c.toNat) = true → callF P F.kind_all [S a, (.func (.func F.kind_Name_1) #[] #[])] w K := by
    intro c r hc h1
    refine k_all a _ alnum (fun c w K h => callV_func (first := []) (caps := []) (k_alnum c h)) fun w' hb => ?_
    rw [allR_ascii _ alnum_high a _ _ (by omega)]
    have := h w' hb
    rw [hc] at this h1 ⊢
    simp only [name] at this
    rw [h1, Bool.true_and] at this
    simpa using this
  cases a with
  | nil =>
    simp only [↓pick_true, ↓pick_false, pick_true, pick_false, ↓gop_undef, gop_undef, ↓bin_add, ↓bin_sub, ↓bin_mul, ↓bin_lss, ↓bin_leq, ↓bin_gtr, ↓bin_geq, ↓bin_eql, ↓bin_neq, ↓una_not, ↓bin_eql_str, ↓bin_neq_str, ↓ext0, ↓ext1, ↓ext0', ↓ext1', ↓ext2', ↓ext00, ↓pick_and, ↓pick_or, ↓gop_true, ↓gop_false, ↓gop_tf, ↓gop_ft, ↓gop_pure, ↓cnd_true, ↓cnd_false, bin_add, bin_sub, bin_mul, bin_lss, bin_leq, bin_gtr, bin_geq, bin_eql, bin_neq, una_not, bin_eql_str, bin_neq_str, ext0, ext1, ext0', ext1', ext2', ext00, pick_and, pick_or, gop_true, gop_false, gop_tf, gop_ft, gop_pure, cnd_true, cnd_false, reduceIte, Bool.true_eq_false, Bool.false_eq_true, Bool.not_true, Bool.not_false, Bool.and_true, Bool.true_and, Bool.and_false, Bool.false_and, Bool.or_true, Bool.true_or, Bool.or_false, Bool.false_or, decide_true]
    exact h w (Below.refl _ _)
  | cons c r =>
    have hne : decide (c :: r = []) = false := by simp
    simp only [↓pick_true, ↓pick_false, pick_true, pick_false, ↓gop_undef, gop_undef, ↓bin_add, ↓bin_sub, ↓bin_mul, ↓bin_lss, ↓bin_leq, ↓bin_gtr, ↓bin_geq, ↓bin_eql, ↓bin_neq, ↓una_not, ↓bin_eql_str, ↓bin_neq_str, ↓ext0, ↓ext1, ↓ext0', ↓ext1', ↓ext2', ↓ext00, ↓pick_and, ↓pick_or, ↓gop_true, ↓gop_false, ↓gop_tf, ↓gop_ft, ↓gop_pure, ↓cnd_true, ↓cnd_false, bin_add, bin_sub, bin_mul, bin_lss, bin_leq, bin_gtr, bin_geq, bin_eql, bin_neq, una_not, bin_eql_str, bin_neq_str, ext0, ext1, ext0', ext1', ext2', ext00, pick_and, pick_or, gop_true, gop_false, gop_tf, gop_ft, gop_pure, cnd_true, cnd_false, reduceIte, Bool.true_eq_false, Bool.false_eq_true, Bool.not_true, Bool.not_false, Bool.and_true, Bool.true_and, Bool.and_false, Bool.false_and, Bool.or_true, Bool.true_or, Bool.or_false, Bool.false_or, hne, len_str u_string]
    by_cases hl : (c :: r).length ≤ 32
    · have hl' : r.length ≤ 31 := by simpa using hl
      have h1 : decide ((32 : Int) < ((c :: r).length : Int)) = false := by simp only [decide_eq_false_iff_not]; omega
      simp only [↓pick_true, ↓pick_false, pick_true, pick_false, ↓gop_undef, gop_undef, ↓bin_add, ↓bin_sub, ↓bin_mul, ↓bin_lss, ↓bin_leq, ↓bin_gtr, ↓bin_geq, ↓bin_eql, ↓bin_neq, ↓una_not, ↓bin_eql_str, ↓bin_neq_str, ↓ext0, ↓ext1, ↓ext0', ↓ext1', ↓ext2', ↓ext00, ↓pick_and, ↓pick_or, ↓gop_true, ↓gop_false, ↓gop_tf, ↓gop_ft, ↓gop_pure, ↓cnd_true, ↓cnd_false, bin_add, bin_sub, bin_mul, bin_lss, bin_leq, bin_gtr, bin_geq, bin_eql, bin_neq, una_not, bin_eql_str, bin_neq_str, ext0, ext1, ext0', ext1', ext2', ext00, pick_and, pick_or, gop_true, gop_false, gop_tf, gop_ft, gop_pure, cnd_true, cnd_false, reduceIte, Bool.true_eq_false, Bool.false_eq_true, Bool.not_true, Bool.not_false, Bool.and_true, Bool.true_and, Bool.and_false, Bool.false_and, Bool.or_true, Bool.true_or, Bool.or_false, Bool.false_or, h1]
      rw [idx_str u_string (by omega) (by simp)]
      (try simp only [↓pick_true, ↓pick_false, pick_true, pick_false, ↓gop_undef, gop_undef, ↓bin_add, ↓bin_sub, ↓bin_mul, ↓bin_lss, ↓bin_leq, ↓bin_gtr, ↓bin_geq, ↓bin_eql, ↓bin_neq, ↓una_not, ↓bin_eql_str, ↓bin_neq_str, ↓ext0, ↓ext1, ↓ext0', ↓ext1', ↓ext2', ↓ext00, ↓pick_and, ↓pick_or, ↓gop_true, ↓gop_false, ↓gop_tf, ↓gop_ft, ↓gop_pure, ↓cnd_true, ↓cnd_false, bin_add, bin_sub, bin_mul, bin_lss, bin_leq, bin_gtr, bin_geq, bin_eql, bin_neq, una_not, bin_eql_str, bin_neq_str, ext0, ext1, ext0', ext1', ext2', ext00, pick_and, pick_or, gop_true, gop_false, gop_tf, gop_ft, gop_pure, cnd_true, cnd_false, reduceIte, Bool.true_eq_false, Bool.false_eq_true, Bool.not_true, Bool.not_false, Bool.and_true, Bool.true_and, Bool.and_false, Bool.false_and, Bool.or_true, Bool.true_or, Bool.or_false, Bool.false_or])
      have hi : (c :: r)[(0 : Int).toNat]'(by simp) = c := rfl
      simp only [hi]
      cases h2 : decide ((48 : Int) ≤ (c.toNat : Int))
      · (try simp only [↓pick_true, ↓pick_false, pick_true, pick_false, ↓gop_undef, gop_undef, ↓bin_add, ↓bin_sub, ↓bin_mul, ↓bin_lss, ↓bin_leq, ↓bin_gtr, ↓bin_geq, ↓bin_eql, ↓bin_neq, ↓una_not, ↓bin_eql_str, ↓bin_neq_str, ↓ext0, ↓ext1, ↓ext0', ↓ext1', ↓ext2', ↓ext00, ↓pick_and, ↓pick_or, ↓gop_true, ↓gop_false, ↓gop_tf, ↓gop_ft, ↓gop_pure, ↓cnd_true, ↓cnd_false, bin_add, bin_sub, bin_mul, bin_lss, bin_leq, bin_gtr, bin_geq, bin_eql, bin_neq, una_not, bin_eql_str, bin_neq_str, ext0, ext1, ext0', ext1', ext2', ext00, pick_and, pick_or, gop_true, gop_false, gop_tf, gop_ft, gop_pure, cnd_true, cnd_false, reduceIte, Bool.true_eq_false, Bool.false_eq_true, Bool.not_true, Bool.not_false, Bool.and_true, Bool.true_and, Bool.and_false, Bool.false_and, Bool.or_true, Bool.true_or, Bool.or_false, Bool.false_or])
        exact fin c r rfl (by simp [digit, hl', h2])
      · (try simp only [↓pick_true, ↓pick_false, pick_true, pick_false, ↓gop_undef, gop_undef, ↓bin_add, ↓bin_sub, ↓bin_mul, ↓bin_lss, ↓bin_leq, ↓bin_gtr, ↓bin_geq, ↓bin_eql, ↓bin_neq, ↓una_not, ↓bin_eql_str, ↓bin_neq_str, ↓ext0, ↓ext1, ↓ext0', ↓ext1', ↓ext2', ↓ext00, ↓pick_and, ↓pick_or, ↓gop_true, ↓gop_false, ↓gop_tf, ↓gop_ft, ↓gop_pure, ↓cnd_true, ↓cnd_false, bin_add, bin_sub, bin_mul, bin_lss, bin_leq, bin_gtr, bin_geq, bin_eql, bin_neq, una_not, bin_eql_str, bin_neq_str, ext0, ext1, ext0', ext1', ext2', ext00, pick_and, pick_or, gop_true, gop_false, gop_tf, gop_ft, gop_pure, cnd_true, cnd_false, reduceIte, Bool.true_eq_false, Bool.false_eq_true, Bool.not_true, Bool.not_false, Bool.and_true, Bool.true_and, Bool.and_false, Bool.false_and, Bool.or_true, Bool.true_or, Bool.or_false, Bool.false_or])
        rw [idx_str u_string (by omega) (by simp)]
        simp only [↓pick_true, ↓pick_false, pick_true, pick_false, ↓gop_undef, gop_undef, ↓bin_add, ↓bin_sub, ↓bin_mul, ↓bin_lss, ↓bin_leq, ↓bin_gtr, ↓bin_geq, ↓bin_eql, ↓bin_neq, ↓una_not, ↓bin_eql_str, ↓bin_neq_str, ↓ext0, ↓ext1, ↓ext0', ↓ext1', ↓ext2', ↓ext00, ↓pick_and, ↓pick_or, ↓gop_true, ↓gop_false, ↓gop_tf, ↓gop_ft, ↓gop_pure, ↓cnd_true, ↓cnd_false, bin_add, bin_sub, bin_mul, bin_lss, bin_leq, bin_gtr, bin_geq, bin_eql, bin_neq, una_not, bin_eql_str, bin_neq_str, ext0, ext1, ext0', ext1', ext2', ext00, pick_and, pick_or, gop_true, gop_false, gop_tf, gop_ft, gop_pure, cnd_true, cnd_false, reduceIte, Bool.true_eq_false, Bool.false_eq_true, Bool.not_true, Bool.not_false, Bool.and_true, Bool.true_and, Bool.and_false, Bool.false_and, Bool.or_true, Bool.true_or, Bool.or_false, Bool.false_or, hi]
        cases h3 : decide ((c.toNat : Int) ≤ 57)
        · (try simp only [↓pick_true, ↓pick_false, pick_true, pick_false, ↓gop_undef, gop_undef, ↓bin_add, ↓bin_sub, ↓bin_mul, ↓bin_lss, ↓bin_leq, ↓bin_gtr, ↓bin_geq, ↓bin_eql, ↓bin_neq, ↓una_not, ↓bin_eql_str, ↓bin_neq_str, ↓ext0, ↓ext1, ↓ext0', ↓ext1', ↓ext2', ↓ext00, ↓pick_and, ↓pick_or, ↓gop_true, ↓gop_false, ↓gop_tf, ↓gop_ft, ↓gop_pure, ↓cnd_true, ↓cnd_false, bin_add, bin_sub, bin_mul, bin_lss, bin_leq, bin_gtr, bin_geq, bin_eql, bin_neq, una_not, bin_eql_str, bin_neq_str, ext0, ext1, ext0', ext1', ext2', ext00, pick_and, pick_or, gop_true, gop_false, gop_tf, gop_ft, gop_pure, cnd_true, cnd_false, reduceIte, Bool.true_eq_false, Bool.false_eq_true, Bool.not_true, Bool.not_false, Bool.and_true, Bool.true_and, Bool.and_false, Bool.false_and, Bool.or_true, Bool.true_or, Bool.or_false, Bool.false_or])
          exact fin c r rfl (by simp only [digit, h2, h3]; simp [hl'])
        · (try simp only [↓pick_true, ↓pick_false, pick_true, pick_false, ↓gop_undef, gop_undef, ↓bin_add, ↓bin_sub, ↓bin_mul, ↓bin_lss, ↓bin_leq, ↓bin_gtr, ↓bin_geq, ↓bin_eql, ↓bin_neq, ↓una_not, ↓bin_eql_str, ↓bin_neq_str, ↓ext0, ↓ext1, ↓ext0', ↓ext1', ↓ext2', ↓ext00, ↓pick_and, ↓pick_or, ↓gop_true, ↓gop_false, ↓gop_tf, ↓gop_ft, ↓gop_pure, ↓cnd_true, ↓cnd_false, bin_add, bin_sub, bin_mul, bin_lss, bin_leq, bin_gtr, bin_geq, bin_eql, bin_neq, una_not, bin_eql_str, bin_neq_str, ext0, ext1, ext0', ext1', ext2', ext00, pick_and, pick_or, gop_true, gop_false, gop_tf, gop_ft, gop_pure, cnd_true, cnd_false, reduceIte, Bool.true_eq_false, Bool.false_eq_true, Bool.not_true, Bool.not_false, Bool.and_true, Bool.true_and, Bool.and_false, Bool.false_and, Bool.or_true, Bool.true_or, Bool.or_false, Bool.false_or])
          have : name (c :: r) = false := by simp only [name, digit, h2, h3]; simp
          rw [← this]; exact h w (Below.refl _ _)
    · have h1 : decide ((32 : Int) < ((c :: r).length : Int)) = true := by simp only [decide_eq_true_eq]; omega
      simp only [↓pick_true, ↓pick_false, pick_true, pick_false, ↓gop_undef, gop_undef, ↓bin_add, ↓bin_sub, ↓bin_mul, ↓bin_lss, ↓bin_leq, ↓bin_gtr, ↓bin_geq, ↓bin_eql, ↓bin_neq, ↓una_not, ↓bin_eql_str, ↓bin_neq_str, ↓ext0, ↓ext1, ↓ext0', ↓ext1', ↓ext2', ↓ext00, ↓pick_and, ↓pick_or, ↓gop_true, ↓gop_false, ↓gop_tf, ↓gop_ft, ↓gop_pure, ↓cnd_true, ↓cnd_false, bin_add, bin_sub, bin_mul, bin_lss, bin_leq, bin_gtr, bin_geq, bin_eql, bin_neq, una_not, bin_eql_str, bin_neq_str, ext0, ext1, ext0', ext1', ext2', ext00, pick_and, pick_or, gop_true, gop_false, gop_tf, gop_ft, gop_pure, cnd_true, cnd_false, reduceIte, Bool.true_eq_false, Bool.false_eq_true, Bool.not_true, Bool.not_false, Bool.and_true, Bool.true_and, Bool.and_false, Bool.false_and, Bool.or_true, Bool.true_or, Bool.or_false, Bool.false_or, h1]
      have : name (c :: r) = false := by simp only [name]; rw [decide_eq_false hl]; rfl
      rw [← this]; exact h w (Below.refl _ _))
theorem k_Class (a : List UInt8) (ha : a.length ≤ 140737488355328) (h : ∀ w', Below w.heap.size w w' → K (.bool (clas a)) w') : callF P F.kind_Class [S a] w K := r_kind_Class (by
  unfold g_kind_Class
  refine k_Name a ha fun w1 hb => ?_
  cases a with
  | nil =>
    simp only [name, ↓pick_true, ↓pick_false, pick_true, pick_false, ↓gop_undef, gop_undef, ↓bin_add, ↓bin_sub, ↓bin_mul, ↓bin_lss, ↓bin_leq, ↓bin_gtr, ↓bin_geq, ↓bin_eql, ↓bin_neq, ↓una_not, ↓bin_eql_str, ↓bin_neq_str, ↓ext0, ↓ext1, ↓ext0', ↓ext1', ↓ext2', ↓ext00, ↓pick_and, ↓pick_or, ↓gop_true, ↓gop_false, ↓gop_tf, ↓gop_ft, ↓gop_pure, ↓cnd_true, ↓cnd_false, bin_add, bin_sub, bin_mul, bin_lss, bin_leq, bin_gtr, bin_geq, bin_eql, bin_neq, una_not, bin_eql_str, bin_neq_str, ext0, ext1, ext0', ext1', ext2', ext00, pick_and, pick_or, gop_true, gop_false, gop_tf, gop_ft, gop_pure, cnd_true, cnd_false, reduceIte, Bool.true_eq_false, Bool.false_eq_true, Bool.not_true, Bool.not_false, Bool.and_true, Bool.true_and, Bool.and_false, Bool.false_and, Bool.or_true, Bool.true_or, Bool.or_false, Bool.false_or]
    exact h w1 hb
  | cons c r =>
    cases hn : name (c :: r)
    · (try simp only [↓pick_true, ↓pick_false, pick_true, pick_false, ↓gop_undef, gop_undef, ↓bin_add, ↓bin_sub, ↓bin_mul, ↓bin_lss, ↓bin_leq, ↓bin_gtr, ↓bin_geq, ↓bin_eql, ↓bin_neq, ↓una_not, ↓bin_eql_str, ↓bin_neq_str, ↓ext0, ↓ext1, ↓ext0', ↓ext1', ↓ext2', ↓ext00, ↓pick_and, ↓pick_or, ↓gop_true, ↓gop_false, ↓gop_tf, ↓gop_ft, ↓gop_pure, ↓cnd_true, ↓cnd_false, bin_add, bin_sub, bin_mul, bin_lss, bin_leq, bin_gtr, bin_geq, bin_eql, bin_neq, una_not, bin_eql_str, bin_neq_str, ext0, ext1, ext0', ext1', ext2', ext00, pick_and, pick_or, gop_true, gop_false, gop_tf, gop_ft, gop_pure, cnd_true, cnd_false, reduceIte, Bool.true_eq_false, Bool.false_eq_true, Bool.not_true, Bool.not_false, Bool.and_true, Bool.true_and, Bool.and_false, Bool.false_and, Bool.or_true, Bool.true_or, Bool.or_false, Bool.false_or])
      have := h w1 hb
      simp only [clas, hn] at this
      simpa using this
    · (try simp only [↓pick_true, ↓pick_false, pick_true, pick_false, ↓gop_undef, gop_undef, ↓bin_add, ↓bin_sub, ↓bin_mul, ↓bin_lss, ↓bin_leq, ↓bin_gtr, ↓bin_geq, ↓bin_eql, ↓bin_neq, ↓una_not, ↓bin_eql_str, ↓bin_neq_str, ↓ext0, ↓ext1, ↓ext0', ↓ext1', ↓ext2', ↓ext00, ↓pick_and, ↓pick_or, ↓gop_true, ↓gop_false, ↓gop_tf, ↓gop_ft, ↓gop_pure, ↓cnd_true, ↓cnd_false, bin_add, bin_sub, bin_mul, bin_lss, bin_leq, bin_gtr, bin_geq, bin_eql, bin_neq, una_not, bin_eql_str, bin_neq_str, ext0, ext1, ext0', ext1', ext2', ext00, pick_and, pick_or, gop_true, gop_false, gop_tf, gop_ft, gop_pure, cnd_true, cnd_false, reduceIte, Bool.true_eq_false, Bool.false_eq_true, Bool.not_true, Bool.not_false, Bool.and_true, Bool.true_and, Bool.and_false, Bool.false_and, Bool.or_true, Bool.true_or, Bool.or_false, Bool.false_or])
      rw [idx_str u_string (by omega) (by simp)]
      have hi : (c :: r)[(0 : Int).toNat]'(by simp) = c := rfl
      simp only [hi]
      rw [conv_int u_uint8 u_int32, w32 (by omega) (by have := c.toNat_lt; omega)]
      refine k_great _ ?_
      (try simp only [↓pick_true, ↓pick_false, pick_true, pick_false, ↓gop_undef, gop_undef, ↓bin_add, ↓bin_sub, ↓bin_mul, ↓bin_lss, ↓bin_leq, ↓bin_gtr, ↓bin_geq, ↓bin_eql, ↓bin_neq, ↓una_not, ↓bin_eql_str, ↓bin_neq_str, ↓ext0, ↓ext1, ↓ext0', ↓ext1', ↓ext2', ↓ext00, ↓pick_and, ↓pick_or, ↓gop_true, ↓gop_false, ↓gop_tf, ↓gop_ft, ↓gop_pure, ↓cnd_true, ↓cnd_false, bin_add, bin_sub, bin_mul, bin_lss, bin_leq, bin_gtr, bin_geq, bin_eql, bin_neq, una_not, bin_eql_str, bin_neq_str, ext0, ext1, ext0', ext1', ext2', ext00, pick_and, pick_or, gop_true, gop_false, gop_tf, gop_ft, gop_pure, cnd_true, cnd_false, reduceIte, Bool.true_eq_false, Bool.false_eq_true, Bool.not_true, Bool.not_false, Bool.and_true, Bool.true_and, Bool.and_false, Bool.false_and, Bool.or_true, Bool.true_or, Bool.or_false, Bool.false_or])
      have := h w1 hb
      simp only [clas, hn] at this
      simpa using this)
theorem k_Plain (a : List UInt8) (h : K (.bool (plain a)) w) : callF P F.kind_Plain [S a] w K := r_kind_Plain (by
  unfold g_kind_Plain
  (try simp only [↓pick_true, ↓pick_false, pick_true, pick_false, ↓gop_undef, gop_undef, ↓bin_add, ↓bin_sub, ↓bin_mul, ↓bin_lss, ↓bin_leq, ↓bin_gtr, ↓bin_geq, ↓bin_eql, ↓bin_neq, ↓una_not, ↓bin_eql_str, ↓bin_neq_str, ↓ext0, ↓ext1, ↓ext0', ↓ext1', ↓ext2', ↓ext00, ↓pick_and, ↓pick_or, ↓gop_true, ↓gop_false, ↓gop_tf, ↓gop_ft, ↓gop_pure, ↓cnd_true, ↓cnd_false, bin_add, bin_sub, bin_mul, bin_lss, bin_leq, bin_gtr, bin_geq, bin_eql, bin_neq, una_not, bin_eql_str, bin_neq_str, ext0, ext1, ext0', ext1', ext2', ext00, pick_and, pick_or, gop_true, gop_false, gop_tf, gop_ft, gop_pure, cnd_true, cnd_false, reduceIte, Bool.true_eq_false, Bool.false_eq_true, Bool.not_true, Bool.not_false, Bool.and_true, Bool.true_and, Bool.and_false, Bool.false_and, Bool.or_true, Bool.true_or, Bool.or_false, Bool.false_or])
  cases h1 : decide (a = [105, 110, 116]) <;> (try simp only [↓pick_true, ↓pick_false, pick_true, pick_false, ↓gop_undef, gop_undef, ↓bin_add, ↓bin_sub, ↓bin_mul, ↓bin_lss, ↓bin_leq, ↓bin_gtr, ↓bin_geq, ↓bin_eql, ↓bin_neq, ↓una_not, ↓bin_eql_str, ↓bin_neq_str, ↓ext0, ↓ext1, ↓ext0', ↓ext1', ↓ext2', ↓ext00, ↓pick_and, ↓pick_or, ↓gop_true, ↓gop_false, ↓gop_tf, ↓gop_ft, ↓gop_pure, ↓cnd_true, ↓cnd_false, bin_add, bin_sub, bin_mul, bin_lss, bin_leq, bin_gtr, bin_geq, bin_eql, bin_neq, una_not, bin_eql_str, bin_neq_str, ext0, ext1, ext0', ext1', ext2', ext00, pick_and, pick_or, gop_true, gop_false, gop_tf, gop_ft, gop_pure, cnd_true, cnd_false, reduceIte, Bool.true_eq_false, Bool.false_eq_true, Bool.not_true, Bool.not_false, Bool.and_true, Bool.true_and, Bool.and_false, Bool.false_and, Bool.or_true, Bool.true_or, Bool.or_false, Bool.false_or])
  · cases h2 : decide (a = [98, 111, 111, 108]) <;> (try simp only [↓pick_true, ↓pick_false, pick_true, pick_false, ↓gop_undef, gop_undef, ↓bin_add, ↓bin_sub, ↓bin_mul, ↓bin_lss, ↓bin_leq, ↓bin_gtr, ↓bin_geq, ↓bin_eql, ↓bin_neq, ↓una_not, ↓bin_eql_str, ↓bin_neq_str, ↓ext0, ↓ext1, ↓ext0', ↓ext1', ↓ext2', ↓ext00, ↓pick_and, ↓pick_or, ↓gop_true, ↓gop_false, ↓gop_tf, ↓gop_ft, ↓gop_pure, ↓cnd_true, ↓cnd_false, bin_add, bin_sub, bin_mul, bin_lss, bin_leq, bin_gtr, bin_geq, bin_eql, bin_neq, una_not, bin_eql_str, bin_neq_str, ext0, ext1, ext0', ext1', ext2', ext00, pick_and, pick_or, gop_true, gop_false, gop_tf, gop_ft, gop_pure, cnd_true, cnd_false, reduceIte, Bool.true_eq_false, Bool.false_eq_true, Bool.not_true, Bool.not_false, Bool.and_true, Bool.true_and, Bool.and_false, Bool.false_and, Bool.or_true, Bool.true_or, Bool.or_false, Bool.false_or]) <;> simpa [plain, h1, h2] using h
  · simpa [plain, h1] using h)

/-! the library's suffixes -/
def hasSuf (a b : List UInt8) : Bool := decide (b.length ≤ a.length) && decide (a.drop (a.length - b.length) = b)
theorem k_sl_HasSuffix (a b : List UInt8) (ha : a.length ≤ 140737488355328) (hb : b.length ≤ 140737488355328) (h : K (.bool (hasSuf a b)) w) : callF P F.stringslite_HasSuffix [S a, S b] w K := r_stringslite_HasSuffix (by
  unfold g_stringslite_HasSuffix
  rw [len_str u_string, len_str u_string]
  (try simp only [↓pick_true, ↓pick_false, pick_true, pick_false, ↓gop_undef, gop_undef, ↓bin_add, ↓bin_sub, ↓bin_mul, ↓bin_lss, ↓bin_leq, ↓bin_gtr, ↓bin_geq, ↓bin_eql, ↓bin_neq, ↓una_not, ↓bin_eql_str, ↓bin_neq_str, ↓ext0, ↓ext1, ↓ext0', ↓ext1', ↓ext2', ↓ext00, ↓pick_and, ↓pick_or, ↓gop_true, ↓gop_false, ↓gop_tf, ↓gop_ft, ↓gop_pure, ↓cnd_true, ↓cnd_false, bin_add, bin_sub, bin_mul, bin_lss, bin_leq, bin_gtr, bin_geq, bin_eql, bin_neq, una_not, bin_eql_str, bin_neq_str, ext0, ext1, ext0', ext1', ext2', ext00, pick_and, pick_or, gop_true, gop_false, gop_tf, gop_ft, gop_pure, cnd_true, cnd_false, reduceIte, Bool.true_eq_false, Bool.false_eq_true, Bool.not_true, Bool.not_false, Bool.and_true, Bool.true_and, Bool.and_false, Bool.false_and, Bool.or_true, Bool.true_or, Bool.or_false, Bool.false_or])
  by_cases hl : b.length ≤ a.length
  · have h1 : decide ((b.length : Int) ≤ a.length) = true := by simp only [decide_eq_true_eq]; omega
    simp only [↓pick_true, ↓pick_false, pick_true, pick_false, ↓gop_undef, gop_undef, ↓bin_add, ↓bin_sub, ↓bin_mul, ↓bin_lss, ↓bin_leq, ↓bin_gtr, ↓bin_geq, ↓bin_eql, ↓bin_neq, ↓una_not, ↓bin_eql_str, ↓bin_neq_str, ↓ext0, ↓ext1, ↓ext0', ↓ext1', ↓ext2', ↓ext00, ↓pick_and, ↓pick_or, ↓gop_true, ↓gop_false, ↓gop_tf, ↓gop_ft, ↓gop_pure, ↓cnd_true, ↓cnd_false, bin_add, bin_sub, bin_mul, bin_lss, bin_leq, bin_gtr, bin_geq, bin_eql, bin_neq, una_not, bin_eql_str, bin_neq_str, ext0, ext1, ext0', ext1', ext2', ext00, pick_and, pick_or, gop_true, gop_false, gop_tf, gop_ft, gop_pure, cnd_true, cnd_false, reduceIte, Bool.true_eq_false, Bool.false_eq_true, Bool.not_true, Bool.not_false, Bool.and_true, Bool.true_and, Bool.and_false, Bool.false_and, Bool.or_true, Bool.true_or, Bool.or_false, Bool.false_or, h1, len_str u_string]
    rw [w64 (by omega) (by omega), slc_str_lo u_string (by omega) (by omega)]
    (try simp only [↓pick_true, ↓pick_false, pick_true, pick_false, ↓gop_undef, gop_undef, ↓bin_add, ↓bin_sub, ↓bin_mul, ↓bin_lss, ↓bin_leq, ↓bin_gtr, ↓bin_geq, ↓bin_eql, ↓bin_neq, ↓una_not, ↓bin_eql_str, ↓bin_neq_str, ↓ext0, ↓ext1, ↓ext0', ↓ext1', ↓ext2', ↓ext00, ↓pick_and, ↓pick_or, ↓gop_true, ↓gop_false, ↓gop_tf, ↓gop_ft, ↓gop_pure, ↓cnd_true, ↓cnd_false, bin_add, bin_sub, bin_mul, bin_lss, bin_leq, bin_gtr, bin_geq, bin_eql, bin_neq, una_not, bin_eql_str, bin_neq_str, ext0, ext1, ext0', ext1', ext2', ext00, pick_and, pick_or, gop_true, gop_false, gop_tf, gop_ft, gop_pure, cnd_true, cnd_false, reduceIte, Bool.true_eq_false, Bool.false_eq_true, Bool.not_true, Bool.not_false, Bool.and_true, Bool.true_and, Bool.and_false, Bool.false_and, Bool.or_true, Bool.true_or, Bool.or_false, Bool.false_or])
    rw [show ((a.length : Int) - b.length).toNat = a.length - b.length from by omega]
    simpa [hasSuf, hl] using h
  · have h1 : decide ((b.length : Int) ≤ a.length) = false := by simp only [decide_eq_false_iff_not]; omega
    simp only [↓pick_true, ↓pick_false, pick_true, pick_false, ↓gop_undef, gop_undef, ↓bin_add, ↓bin_sub, ↓bin_mul, ↓bin_lss, ↓bin_leq, ↓bin_gtr, ↓bin_geq, ↓bin_eql, ↓bin_neq, ↓una_not, ↓bin_eql_str, ↓bin_neq_str, ↓ext0, ↓ext1, ↓ext0', ↓ext1', ↓ext2', ↓ext00, ↓pick_and, ↓pick_or, ↓gop_true, ↓gop_false, ↓gop_tf, ↓gop_ft, ↓gop_pure, ↓cnd_true, ↓cnd_false, bin_add, bin_sub, bin_mul, bin_lss, bin_leq, bin_gtr, bin_geq, bin_eql, bin_neq, una_not, bin_eql_str, bin_neq_str, ext0, ext1, ext0', ext1', ext2', ext00, pick_and, pick_or, gop_true, gop_false, gop_tf, gop_ft, gop_pure, cnd_true, cnd_false, reduceIte, Bool.true_eq_false, Bool.false_eq_true, Bool.not_true, Bool.not_false, Bool.and_true, Bool.true_and, Bool.and_false, Bool.false_and, Bool.or_true, Bool.true_or, Bool.or_false, Bool.false_or, h1]
    simpa [hasSuf, hl] using h)
theorem k_HasSuffix (a b : List UInt8) (ha : a.length ≤ 140737488355328) (hb : b.length ≤ 140737488355328) (h : K (.bool (hasSuf a b)) w) : callF P F.strings_HasSuffix [S a, S b] w K := r_strings_HasSuffix (by
  unfold g_strings_HasSuffix
  exact k_sl_HasSuffix a b ha hb h)
def trimSuf (a b : List UInt8) : List UInt8 := if hasSuf a b then a.take (a.length - b.length) else a
theorem hasSuf_le {a b : List UInt8} (h : hasSuf a b = true) : b.length ≤ a.length := by
  simp only [hasSuf, Bool.and_eq_true, decide_eq_true_eq] at h; exact h.1
theorem k_TrimSuffix (a b : List UInt8) (ha : a.length ≤ 140737488355328) (hb : b.length ≤ 140737488355328) (h : K (S (trimSuf a b)) w) : callF P F.strings_TrimSuffix [S a, S b] w K := r_strings_TrimSuffix (by
  unfold g_strings_TrimSuffix
  refine r_stringslite_TrimSuffix ?_
  unfold g_stringslite_TrimSuffix
  refine k_sl_HasSuffix a b ha hb ?_
  cases hs : hasSuf a b
  · (try simp only [↓pick_true, ↓pick_false, pick_true, pick_false, ↓gop_undef, gop_undef, ↓bin_add, ↓bin_sub, ↓bin_mul, ↓bin_lss, ↓bin_leq, ↓bin_gtr, ↓bin_geq, ↓bin_eql, ↓bin_neq, ↓una_not, ↓bin_eql_str, ↓bin_neq_str, ↓ext0, ↓ext1, ↓ext0', ↓ext1', ↓ext2', ↓ext00, ↓pick_and, ↓pick_or, ↓gop_true, ↓gop_false, ↓gop_tf, ↓gop_ft, ↓gop_pure, ↓cnd_true, ↓cnd_false, bin_add, bin_sub, bin_mul, bin_lss, bin_leq, bin_gtr, bin_geq, bin_eql, bin_neq, una_not, bin_eql_str, bin_neq_str, ext0, ext1, ext0', ext1', ext2', ext00, pick_and, pick_or, gop_true, gop_false, gop_tf, gop_ft, gop_pure, cnd_true, cnd_false, reduceIte, Bool.true_eq_false, Bool.false_eq_true, Bool.not_true, Bool.not_false, Bool.and_true, Bool.true_and, Bool.and_false, Bool.false_and, Bool.or_true, Bool.true_or, Bool.or_false, Bool.false_or])
    simpa [trimSuf, hs] using h
  · have hl := hasSuf_le hs
    simp only [↓pick_true, ↓pick_false, pick_true, pick_false, ↓gop_undef, gop_undef, ↓bin_add, ↓bin_sub, ↓bin_mul, ↓bin_lss, ↓bin_leq, ↓bin_gtr, ↓bin_geq, ↓bin_eql, ↓bin_neq, ↓una_not, ↓bin_eql_str, ↓bin_neq_str, ↓ext0, ↓ext1, ↓ext0', ↓ext1', ↓ext2', ↓ext00, ↓pick_and, ↓pick_or, ↓gop_true, ↓gop_false, ↓gop_tf, ↓gop_ft, ↓gop_pure, ↓cnd_true, ↓cnd_false, bin_add, bin_sub, bin_mul, bin_lss, bin_leq, bin_gtr, bin_geq, bin_eql, bin_neq, una_not, bin_eql_str, bin_neq_str, ext0, ext1, ext0', ext1', ext2', ext00, pick_and, pick_or, gop_true, gop_false, gop_tf, gop_ft, gop_pure, cnd_true, cnd_false, reduceIte, Bool.true_eq_false, Bool.false_eq_true, Bool.not_true, Bool.not_false, Bool.and_true, Bool.true_and, Bool.and_false, Bool.false_and, Bool.or_true, Bool.true_or, Bool.or_false, Bool.false_or, len_str u_string]
    rw [w64 (by omega) (by omega), slc_str_hi u_string (by omega) (by omega)]
    rw [show ((a.length : Int) - b.length).toNat = a.length - b.length from by omega]
    simpa [trimSuf, hs] using h)
theorem k_CutSuffix (a b : List UInt8) (ha : a.length ≤ 140737488355328) (hb : b.length ≤ 140737488355328) (h : K (.tuple #[S (trimSuf a b), .bool (hasSuf a b)]) w) : callF P F.strings_CutSuffix [S a, S b] w K := r_strings_CutSuffix (by
  unfold g_strings_CutSuffix
  refine r_stringslite_CutSuffix ?_
  unfold g_stringslite_CutSuffix
  refine k_sl_HasSuffix a b ha hb ?_
  cases hs : hasSuf a b
  · (try simp only [↓pick_true, ↓pick_false, pick_true, pick_false, ↓gop_undef, gop_undef, ↓bin_add, ↓bin_sub, ↓bin_mul, ↓bin_lss, ↓bin_leq, ↓bin_gtr, ↓bin_geq, ↓bin_eql, ↓bin_neq, ↓una_not, ↓bin_eql_str, ↓bin_neq_str, ↓ext0, ↓ext1, ↓ext0', ↓ext1', ↓ext2', ↓ext00, ↓pick_and, ↓pick_or, ↓gop_true, ↓gop_false, ↓gop_tf, ↓gop_ft, ↓gop_pure, ↓cnd_true, ↓cnd_false, bin_add, bin_sub, bin_mul, bin_lss, bin_leq, bin_gtr, bin_geq, bin_eql, bin_neq, una_not, bin_eql_str, bin_neq_str, ext0, ext1, ext0', ext1', ext2', ext00, pick_and, pick_or, gop_true, gop_false, gop_tf, gop_ft, gop_pure, cnd_true, cnd_false, reduceIte, Bool.true_eq_false, Bool.false_eq_true, Bool.not_true, Bool.not_false, Bool.and_true, Bool.true_and, Bool.and_false, Bool.false_and, Bool.or_true, Bool.true_or, Bool.or_false, Bool.false_or])
    simpa [trimSuf, hs] using h
  · have hl := hasSuf_le hs
    simp only [↓pick_true, ↓pick_false, pick_true, pick_false, ↓gop_undef, gop_undef, ↓bin_add, ↓bin_sub, ↓bin_mul, ↓bin_lss, ↓bin_leq, ↓bin_gtr, ↓bin_geq, ↓bin_eql, ↓bin_neq, ↓una_not, ↓bin_eql_str, ↓bin_neq_str, ↓ext0, ↓ext1, ↓ext0', ↓ext1', ↓ext2', ↓ext00, ↓pick_and, ↓pick_or, ↓gop_true, ↓gop_false, ↓gop_tf, ↓gop_ft, ↓gop_pure, ↓cnd_true, ↓cnd_false, bin_add, bin_sub, bin_mul, bin_lss, bin_leq, bin_gtr, bin_geq, bin_eql, bin_neq, una_not, bin_eql_str, bin_neq_str, ext0, ext1, ext0', ext1', ext2', ext00, pick_and, pick_or, gop_true, gop_false, gop_tf, gop_ft, gop_pure, cnd_true, cnd_false, reduceIte, Bool.true_eq_false, Bool.false_eq_true, Bool.not_true, Bool.not_false, Bool.and_true, Bool.true_and, Bool.and_false, Bool.false_and, Bool.or_true, Bool.true_or, Bool.or_false, Bool.false_or, len_str u_string]
    rw [w64 (by omega) (by omega), slc_str_hi u_string (by omega) (by omega)]
    rw [show ((a.length : Int) - b.length).toNat = a.length - b.length from by omega]
    (try simp only [↓pick_true, ↓pick_false, pick_true, pick_false, ↓gop_undef, gop_undef, ↓bin_add, ↓bin_sub, ↓bin_mul, ↓bin_lss, ↓bin_leq, ↓bin_gtr, ↓bin_geq, ↓bin_eql, ↓bin_neq, ↓una_not, ↓bin_eql_str, ↓bin_neq_str, ↓ext0, ↓ext1, ↓ext0', ↓ext1', ↓ext2', ↓ext00, ↓pick_and, ↓pick_or, ↓gop_true, ↓gop_false, ↓gop_tf, ↓gop_ft, ↓gop_pure, ↓cnd_true, ↓cnd_false, bin_add, bin_sub, bin_mul, bin_lss, bin_leq, bin_gtr, bin_geq, bin_eql, bin_neq, una_not, bin_eql_str, bin_neq_str, ext0, ext1, ext0', ext1', ext2', ext00, pick_and, pick_or, gop_true, gop_false, gop_tf, gop_ft, gop_pure, cnd_true, cnd_false, reduceIte, Bool.true_eq_false, Bool.false_eq_true, Bool.not_true, Bool.not_false, Bool.and_true, Bool.true_and, Bool.and_false, Bool.false_and, Bool.or_true, Bool.true_or, Bool.or_false, Bool.false_or])
    simpa [trimSuf, hs] using h)
theorem hasSuf_arr (a : List UInt8) : hasSuf a [91, 93] = arr a := rfl
theorem trimSuf_arr (a : List UInt8) : trimSuf a [91, 93] = if arr a then cutA a else a := rfl
theorem cutA_length {a : List UInt8} (h : arr a = true) : (cutA a).length + 2 = a.length := by
  simp only [arr, Bool.and_eq_true, decide_eq_true_eq] at h
  simp only [cutA, List.length_take]; omega
theorem baseN_fuel : ∀ (n m : Nat) (a : List UInt8), a.length ≤ n → a.length ≤ m → baseN n a = baseN m a
  | 0, 0, a, _, _ => rfl
  | 0, m + 1, a, h, _ => by
    have : a = [] := List.eq_nil_of_length_eq_zero (by omega)
    subst this; rfl
  | n + 1, 0, a, _, h => by
    have : a = [] := List.eq_nil_of_length_eq_zero (by omega)
    subst this; rfl
  | n + 1, m + 1, a, h1, h2 => by
    simp only [baseN]
    split
    · rename_i h
      have := cutA_length h
      rw [baseN_fuel n m (cutA a) (by omega) (by omega)]
    · rfl
theorem base_eq (a : List UInt8) : base a = if arr a then ((base (cutA a)).1, (base (cutA a)).2 + 1) else (a, 0) := by
  unfold base
  cases hl : a.length with
  | zero =>
    have : a = [] := List.eq_nil_of_length_eq_zero hl
    subst this; rfl
  | succ n =>
    simp only [baseN]
    split
    · rename_i h
      have := cutA_length h
      rw [baseN_fuel n (cutA a).length (cutA a) (by omega) (Nat.le_refl _)]
    · rfl
theorem base_le (a : List UInt8) : (base a).1.length + 2 * (base a).2 = a.length := by
  have key : ∀ n (a : List UInt8), (baseN n a).1.length + 2 * (baseN n a).2 = a.length := by
    intro n
    induction n with
    | zero => intro a; simp [baseN]
    | succ n ih =>
      intro a
      simp only [baseN]
      split
      · rename_i h
        have := cutA_length h
        have := ih (cutA a)
        simp only; omega
      · simp
  exact key _ a
theorem k_base (a : List UInt8) (ha : a.length ≤ 140737488355328) (h : K (.tuple #[S (base a).1, I (base a).2]) w) : callF P F.kind_base [S a] w K := r_kind_base (by
  unfold g_kind_base
  refine lp_mk (fun x w' => w' = w ∧ ∃ (b : List UInt8) (n : Nat), x = (S b, I n) ∧ b.length + 2 * n = a.length ∧ base a = ((base b).1, (base b).2 + n)) (fun x _ => match x.1 with | .string s => s.size | _ => 0)
    ⟨rfl, a, 0, rfl, by omega, rfl⟩ ?_
  rintro _ _ _ ⟨rfl, b, n, rfl, hl, he⟩
  refine k_HasSuffix b _ (by omega) (by simp) ?_
  rw [hasSuf_arr]
  cases hb : arr b
  · (try simp only [↓pick_true, ↓pick_false, pick_true, pick_false, ↓gop_undef, gop_undef, ↓bin_add, ↓bin_sub, ↓bin_mul, ↓bin_lss, ↓bin_leq, ↓bin_gtr, ↓bin_geq, ↓bin_eql, ↓bin_neq, ↓una_not, ↓bin_eql_str, ↓bin_neq_str, ↓ext0, ↓ext1, ↓ext0', ↓ext1', ↓ext2', ↓ext00, ↓pick_and, ↓pick_or, ↓gop_true, ↓gop_false, ↓gop_tf, ↓gop_ft, ↓gop_pure, ↓cnd_true, ↓cnd_false, bin_add, bin_sub, bin_mul, bin_lss, bin_leq, bin_gtr, bin_geq, bin_eql, bin_neq, una_not, bin_eql_str, bin_neq_str, ext0, ext1, ext0', ext1', ext2', ext00, pick_and, pick_or, gop_true, gop_false, gop_tf, gop_ft, gop_pure, cnd_true, cnd_false, reduceIte, Bool.true_eq_false, Bool.false_eq_true, Bool.not_true, Bool.not_false, Bool.and_true, Bool.true_and, Bool.and_false, Bool.false_and, Bool.or_true, Bool.true_or, Bool.or_false, Bool.false_or])
    rw [base_eq b, hb] at he
    simp only [Bool.false_eq_true, if_false, Nat.zero_add] at he
    rw [he] at h; exact h
  · (try simp only [↓pick_true, ↓pick_false, pick_true, pick_false, ↓gop_undef, gop_undef, ↓bin_add, ↓bin_sub, ↓bin_mul, ↓bin_lss, ↓bin_leq, ↓bin_gtr, ↓bin_geq, ↓bin_eql, ↓bin_neq, ↓una_not, ↓bin_eql_str, ↓bin_neq_str, ↓ext0, ↓ext1, ↓ext0', ↓ext1', ↓ext2', ↓ext00, ↓pick_and, ↓pick_or, ↓gop_true, ↓gop_false, ↓gop_tf, ↓gop_ft, ↓gop_pure, ↓cnd_true, ↓cnd_false, bin_add, bin_sub, bin_mul, bin_lss, bin_leq, bin_gtr, bin_geq, bin_eql, bin_neq, una_not, bin_eql_str, bin_neq_str, ext0, ext1, ext0', ext1', ext2', ext00, pick_and, pick_or, gop_true, gop_false, gop_tf, gop_ft, gop_pure, cnd_true, cnd_false, reduceIte, Bool.true_eq_false, Bool.false_eq_true, Bool.not_true, Bool.not_false, Bool.and_true, Bool.true_and, Bool.and_false, Bool.false_and, Bool.or_true, Bool.true_or, Bool.or_false, Bool.false_or])
    refine k_TrimSuffix b _ (by omega) (by simp) ?_
    rw [trimSuf_arr, hb]
    simp only [↓pick_true, ↓pick_false, pick_true, pick_false, ↓gop_undef, gop_undef, ↓bin_add, ↓bin_sub, ↓bin_mul, ↓bin_lss, ↓bin_leq, ↓bin_gtr, ↓bin_geq, ↓bin_eql, ↓bin_neq, ↓una_not, ↓bin_eql_str, ↓bin_neq_str, ↓ext0, ↓ext1, ↓ext0', ↓ext1', ↓ext2', ↓ext00, ↓pick_and, ↓pick_or, ↓gop_true, ↓gop_false, ↓gop_tf, ↓gop_ft, ↓gop_pure, ↓cnd_true, ↓cnd_false, bin_add, bin_sub, bin_mul, bin_lss, bin_leq, bin_gtr, bin_geq, bin_eql, bin_neq, una_not, bin_eql_str, bin_neq_str, ext0, ext1, ext0', ext1', ext2', ext00, pick_and, pick_or, gop_true, gop_false, gop_tf, gop_ft, gop_pure, cnd_true, cnd_false, reduceIte, Bool.true_eq_false, Bool.false_eq_true, Bool.not_true, Bool.not_false, Bool.and_true, Bool.true_and, Bool.and_false, Bool.false_and, Bool.or_true, Bool.true_or, Bool.or_false, Bool.false_or, if_true]
    have hc := cutA_length hb
    rw [w64 (by omega) (by omega)]
    refine ⟨⟨by first | rfl | trivial, cutA b, n + 1, by simp, by omega, ?_⟩, ?_⟩
    · rw [he, base_eq b, hb]; simp; omega
    · simp only [size_mk]; omega)
theorem k_Right (a : List UInt8) (ha : a.length ≤ 140737488355328) (h : ∀ w', Below w.heap.size w w' → K (.bool (right a)) w') : callF P F.kind_Right [S a] w K := r_kind_Right (by
  unfold g_kind_Right
  have hbl := base_le a
  refine k_base a ha ?_
  (try simp only [↓pick_true, ↓pick_false, pick_true, pick_false, ↓gop_undef, gop_undef, ↓bin_add, ↓bin_sub, ↓bin_mul, ↓bin_lss, ↓bin_leq, ↓bin_gtr, ↓bin_geq, ↓bin_eql, ↓bin_neq, ↓una_not, ↓bin_eql_str, ↓bin_neq_str, ↓ext0, ↓ext1, ↓ext0', ↓ext1', ↓ext2', ↓ext00, ↓pick_and, ↓pick_or, ↓gop_true, ↓gop_false, ↓gop_tf, ↓gop_ft, ↓gop_pure, ↓cnd_true, ↓cnd_false, bin_add, bin_sub, bin_mul, bin_lss, bin_leq, bin_gtr, bin_geq, bin_eql, bin_neq, una_not, bin_eql_str, bin_neq_str, ext0, ext1, ext0', ext1', ext2', ext00, pick_and, pick_or, gop_true, gop_false, gop_tf, gop_ft, gop_pure, cnd_true, cnd_false, reduceIte, Bool.true_eq_false, Bool.false_eq_true, Bool.not_true, Bool.not_false, Bool.and_true, Bool.true_and, Bool.and_false, Bool.false_and, Bool.or_true, Bool.true_or, Bool.or_false, Bool.false_or])
  by_cases hn : (base a).2 ≤ 3
  · have h1 : decide (((base a).2 : Int) ≤ 3) = true := by simp only [decide_eq_true_eq]; omega
    simp only [↓pick_true, ↓pick_false, pick_true, pick_false, ↓gop_undef, gop_undef, ↓bin_add, ↓bin_sub, ↓bin_mul, ↓bin_lss, ↓bin_leq, ↓bin_gtr, ↓bin_geq, ↓bin_eql, ↓bin_neq, ↓una_not, ↓bin_eql_str, ↓bin_neq_str, ↓ext0, ↓ext1, ↓ext0', ↓ext1', ↓ext2', ↓ext00, ↓pick_and, ↓pick_or, ↓gop_true, ↓gop_false, ↓gop_tf, ↓gop_ft, ↓gop_pure, ↓cnd_true, ↓cnd_false, bin_add, bin_sub, bin_mul, bin_lss, bin_leq, bin_gtr, bin_geq, bin_eql, bin_neq, una_not, bin_eql_str, bin_neq_str, ext0, ext1, ext0', ext1', ext2', ext00, pick_and, pick_or, gop_true, gop_false, gop_tf, gop_ft, gop_pure, cnd_true, cnd_false, reduceIte, Bool.true_eq_false, Bool.false_eq_true, Bool.not_true, Bool.not_false, Bool.and_true, Bool.true_and, Bool.and_false, Bool.false_and, Bool.or_true, Bool.true_or, Bool.or_false, Bool.false_or, h1]
    refine k_Plain _ ?_
    cases hp : plain (base a).1
    · (try simp only [↓pick_true, ↓pick_false, pick_true, pick_false, ↓gop_undef, gop_undef, ↓bin_add, ↓bin_sub, ↓bin_mul, ↓bin_lss, ↓bin_leq, ↓bin_gtr, ↓bin_geq, ↓bin_eql, ↓bin_neq, ↓una_not, ↓bin_eql_str, ↓bin_neq_str, ↓ext0, ↓ext1, ↓ext0', ↓ext1', ↓ext2', ↓ext00, ↓pick_and, ↓pick_or, ↓gop_true, ↓gop_false, ↓gop_tf, ↓gop_ft, ↓gop_pure, ↓cnd_true, ↓cnd_false, bin_add, bin_sub, bin_mul, bin_lss, bin_leq, bin_gtr, bin_geq, bin_eql, bin_neq, una_not, bin_eql_str, bin_neq_str, ext0, ext1, ext0', ext1', ext2', ext00, pick_and, pick_or, gop_true, gop_false, gop_tf, gop_ft, gop_pure, cnd_true, cnd_false, reduceIte, Bool.true_eq_false, Bool.false_eq_true, Bool.not_true, Bool.not_false, Bool.and_true, Bool.true_and, Bool.and_false, Bool.false_and, Bool.or_true, Bool.true_or, Bool.or_false, Bool.false_or])
      refine k_Class _ (by omega) fun w1 hb => ?_
      (try simp only [↓pick_true, ↓pick_false, pick_true, pick_false, ↓gop_undef, gop_undef, ↓bin_add, ↓bin_sub, ↓bin_mul, ↓bin_lss, ↓bin_leq, ↓bin_gtr, ↓bin_geq, ↓bin_eql, ↓bin_neq, ↓una_not, ↓bin_eql_str, ↓bin_neq_str, ↓ext0, ↓ext1, ↓ext0', ↓ext1', ↓ext2', ↓ext00, ↓pick_and, ↓pick_or, ↓gop_true, ↓gop_false, ↓gop_tf, ↓gop_ft, ↓gop_pure, ↓cnd_true, ↓cnd_false, bin_add, bin_sub, bin_mul, bin_lss, bin_leq, bin_gtr, bin_geq, bin_eql, bin_neq, una_not, bin_eql_str, bin_neq_str, ext0, ext1, ext0', ext1', ext2', ext00, pick_and, pick_or, gop_true, gop_false, gop_tf, gop_ft, gop_pure, cnd_true, cnd_false, reduceIte, Bool.true_eq_false, Bool.false_eq_true, Bool.not_true, Bool.not_false, Bool.and_true, Bool.true_and, Bool.and_false, Bool.false_and, Bool.or_true, Bool.true_or, Bool.or_false, Bool.false_or])
      have := h w1 hb
      simp only [right, hn, hp] at this
      simpa using this
    · (try simp only [↓pick_true, ↓pick_false, pick_true, pick_false, ↓gop_undef, gop_undef, ↓bin_add, ↓bin_sub, ↓bin_mul, ↓bin_lss, ↓bin_leq, ↓bin_gtr, ↓bin_geq, ↓bin_eql, ↓bin_neq, ↓una_not, ↓bin_eql_str, ↓bin_neq_str, ↓ext0, ↓ext1, ↓ext0', ↓ext1', ↓ext2', ↓ext00, ↓pick_and, ↓pick_or, ↓gop_true, ↓gop_false, ↓gop_tf, ↓gop_ft, ↓gop_pure, ↓cnd_true, ↓cnd_false, bin_add, bin_sub, bin_mul, bin_lss, bin_leq, bin_gtr, bin_geq, bin_eql, bin_neq, una_not, bin_eql_str, bin_neq_str, ext0, ext1, ext0', ext1', ext2', ext00, pick_and, pick_or, gop_true, gop_false, gop_tf, gop_ft, gop_pure, cnd_true, cnd_false, reduceIte, Bool.true_eq_false, Bool.false_eq_true, Bool.not_true, Bool.not_false, Bool.and_true, Bool.true_and, Bool.and_false, Bool.false_and, Bool.or_true, Bool.true_or, Bool.or_false, Bool.false_or])
      have := h w (Below.refl _ _)
      simp only [right, hn, hp] at this
      simpa using this
  · have h1 : decide (((base a).2 : Int) ≤ 3) = false := by simp only [decide_eq_false_iff_not]; omega
    simp only [↓pick_true, ↓pick_false, pick_true, pick_false, ↓gop_undef, gop_undef, ↓bin_add, ↓bin_sub, ↓bin_mul, ↓bin_lss, ↓bin_leq, ↓bin_gtr, ↓bin_geq, ↓bin_eql, ↓bin_neq, ↓una_not, ↓bin_eql_str, ↓bin_neq_str, ↓ext0, ↓ext1, ↓ext0', ↓ext1', ↓ext2', ↓ext00, ↓pick_and, ↓pick_or, ↓gop_true, ↓gop_false, ↓gop_tf, ↓gop_ft, ↓gop_pure, ↓cnd_true, ↓cnd_false, bin_add, bin_sub, bin_mul, bin_lss, bin_leq, bin_gtr, bin_geq, bin_eql, bin_neq, una_not, bin_eql_str, bin_neq_str, ext0, ext1, ext0', ext1', ext2', ext00, pick_and, pick_or, gop_true, gop_false, gop_tf, gop_ft, gop_pure, cnd_true, cnd_false, reduceIte, Bool.true_eq_false, Bool.false_eq_true, Bool.not_true, Bool.not_false, Bool.and_true, Bool.true_and, Bool.and_false, Bool.false_and, Bool.or_true, Bool.true_or, Bool.or_false, Bool.false_or, h1]
    have := h w (Below.refl _ _)
    simp only [right, hn] at this
    simpa using this)
theorem k_Elem (a : List UInt8) (ha : a.length ≤ 140737488355328) (h : ∀ w', Below w.heap.size w w' → K (S (elem a)) w') : callF P F.kind_Elem [S a] w K := r_kind_Elem (by
  unfold g_kind_Elem
  refine k_CutSuffix a _ ha (by simp) ?_
  rw [hasSuf_arr, trimSuf_arr]
  (try simp only [↓pick_true, ↓pick_false, pick_true, pick_false, ↓gop_undef, gop_undef, ↓bin_add, ↓bin_sub, ↓bin_mul, ↓bin_lss, ↓bin_leq, ↓bin_gtr, ↓bin_geq, ↓bin_eql, ↓bin_neq, ↓una_not, ↓bin_eql_str, ↓bin_neq_str, ↓ext0, ↓ext1, ↓ext0', ↓ext1', ↓ext2', ↓ext00, ↓pick_and, ↓pick_or, ↓gop_true, ↓gop_false, ↓gop_tf, ↓gop_ft, ↓gop_pure, ↓cnd_true, ↓cnd_false, bin_add, bin_sub, bin_mul, bin_lss, bin_leq, bin_gtr, bin_geq, bin_eql, bin_neq, una_not, bin_eql_str, bin_neq_str, ext0, ext1, ext0', ext1', ext2', ext00, pick_and, pick_or, gop_true, gop_false, gop_tf, gop_ft, gop_pure, cnd_true, cnd_false, reduceIte, Bool.true_eq_false, Bool.false_eq_true, Bool.not_true, Bool.not_false, Bool.and_true, Bool.true_and, Bool.and_false, Bool.false_and, Bool.or_true, Bool.true_or, Bool.or_false, Bool.false_or])
  cases hb : arr a
  · (try simp only [↓pick_true, ↓pick_false, pick_true, pick_false, ↓gop_undef, gop_undef, ↓bin_add, ↓bin_sub, ↓bin_mul, ↓bin_lss, ↓bin_leq, ↓bin_gtr, ↓bin_geq, ↓bin_eql, ↓bin_neq, ↓una_not, ↓bin_eql_str, ↓bin_neq_str, ↓ext0, ↓ext1, ↓ext0', ↓ext1', ↓ext2', ↓ext00, ↓pick_and, ↓pick_or, ↓gop_true, ↓gop_false, ↓gop_tf, ↓gop_ft, ↓gop_pure, ↓cnd_true, ↓cnd_false, bin_add, bin_sub, bin_mul, bin_lss, bin_leq, bin_gtr, bin_geq, bin_eql, bin_neq, una_not, bin_eql_str, bin_neq_str, ext0, ext1, ext0', ext1', ext2', ext00, pick_and, pick_or, gop_true, gop_false, gop_tf, gop_ft, gop_pure, cnd_true, cnd_false, reduceIte, Bool.true_eq_false, Bool.false_eq_true, Bool.not_true, Bool.not_false, Bool.and_true, Bool.true_and, Bool.and_false, Bool.false_and, Bool.or_true, Bool.true_or, Bool.or_false, Bool.false_or])
    have := h w (Below.refl _ _)
    simp only [elem, hb] at this
    exact this
  · (try simp only [↓pick_true, ↓pick_false, pick_true, pick_false, ↓gop_undef, gop_undef, ↓bin_add, ↓bin_sub, ↓bin_mul, ↓bin_lss, ↓bin_leq, ↓bin_gtr, ↓bin_geq, ↓bin_eql, ↓bin_neq, ↓una_not, ↓bin_eql_str, ↓bin_neq_str, ↓ext0, ↓ext1, ↓ext0', ↓ext1', ↓ext2', ↓ext00, ↓pick_and, ↓pick_or, ↓gop_true, ↓gop_false, ↓gop_tf, ↓gop_ft, ↓gop_pure, ↓cnd_true, ↓cnd_false, bin_add, bin_sub, bin_mul, bin_lss, bin_leq, bin_gtr, bin_geq, bin_eql, bin_neq, una_not, bin_eql_str, bin_neq_str, ext0, ext1, ext0', ext1', ext2', ext00, pick_and, pick_or, gop_true, gop_false, gop_tf, gop_ft, gop_pure, cnd_true, cnd_false, reduceIte, Bool.true_eq_false, Bool.false_eq_true, Bool.not_true, Bool.not_false, Bool.and_true, Bool.true_and, Bool.and_false, Bool.false_and, Bool.or_true, Bool.true_or, Bool.or_false, Bool.false_or])
    refine k_Right a ha fun w1 hw => ?_
    have := h w1 hw
    cases hr : right a
    · (try simp only [↓pick_true, ↓pick_false, pick_true, pick_false, ↓gop_undef, gop_undef, ↓bin_add, ↓bin_sub, ↓bin_mul, ↓bin_lss, ↓bin_leq, ↓bin_gtr, ↓bin_geq, ↓bin_eql, ↓bin_neq, ↓una_not, ↓bin_eql_str, ↓bin_neq_str, ↓ext0, ↓ext1, ↓ext0', ↓ext1', ↓ext2', ↓ext00, ↓pick_and, ↓pick_or, ↓gop_true, ↓gop_false, ↓gop_tf, ↓gop_ft, ↓gop_pure, ↓cnd_true, ↓cnd_false, bin_add, bin_sub, bin_mul, bin_lss, bin_leq, bin_gtr, bin_geq, bin_eql, bin_neq, una_not, bin_eql_str, bin_neq_str, ext0, ext1, ext0', ext1', ext2', ext00, pick_and, pick_or, gop_true, gop_false, gop_tf, gop_ft, gop_pure, cnd_true, cnd_false, reduceIte, Bool.true_eq_false, Bool.false_eq_true, Bool.not_true, Bool.not_false, Bool.and_true, Bool.true_and, Bool.and_false, Bool.false_and, Bool.or_true, Bool.true_or, Bool.or_false, Bool.false_or])
      simp only [elem, hb, hr] at this
      exact this
    · simp only [↓pick_true, ↓pick_false, pick_true, pick_false, ↓gop_undef, gop_undef, ↓bin_add, ↓bin_sub, ↓bin_mul, ↓bin_lss, ↓bin_leq, ↓bin_gtr, ↓bin_geq, ↓bin_eql, ↓bin_neq, ↓una_not, ↓bin_eql_str, ↓bin_neq_str, ↓ext0, ↓ext1, ↓ext0', ↓ext1', ↓ext2', ↓ext00, ↓pick_and, ↓pick_or, ↓gop_true, ↓gop_false, ↓gop_tf, ↓gop_ft, ↓gop_pure, ↓cnd_true, ↓cnd_false, bin_add, bin_sub, bin_mul, bin_lss, bin_leq, bin_gtr, bin_geq, bin_eql, bin_neq, una_not, bin_eql_str, bin_neq_str, ext0, ext1, ext0', ext1', ext2', ext00, pick_and, pick_or, gop_true, gop_false, gop_tf, gop_ft, gop_pure, cnd_true, cnd_false, reduceIte, Bool.true_eq_false, Bool.false_eq_true, Bool.not_true, Bool.not_false, Bool.and_true, Bool.true_and, Bool.and_false, Bool.false_and, Bool.or_true, Bool.true_or, Bool.or_false, Bool.false_or, if_true]
      simp only [elem, hb, hr] at this
      exact this)
theorem k_Deep (a : List UInt8) (ha : a.length ≤ 140737488355328) (h : ∀ w', Below w.heap.size w w' → K (I (deep a)) w') : callF P F.kind_Deep [S a] w K := r_kind_Deep (by
  unfold g_kind_Deep
  refine k_base a ha ?_
  (try simp only [↓pick_true, ↓pick_false, pick_true, pick_false, ↓gop_undef, gop_undef, ↓bin_add, ↓bin_sub, ↓bin_mul, ↓bin_lss, ↓bin_leq, ↓bin_gtr, ↓bin_geq, ↓bin_eql, ↓bin_neq, ↓una_not, ↓bin_eql_str, ↓bin_neq_str, ↓ext0, ↓ext1, ↓ext0', ↓ext1', ↓ext2', ↓ext00, ↓pick_and, ↓pick_or, ↓gop_true, ↓gop_false, ↓gop_tf, ↓gop_ft, ↓gop_pure, ↓cnd_true, ↓cnd_false, bin_add, bin_sub, bin_mul, bin_lss, bin_leq, bin_gtr, bin_geq, bin_eql, bin_neq, una_not, bin_eql_str, bin_neq_str, ext0, ext1, ext0', ext1', ext2', ext00, pick_and, pick_or, gop_true, gop_false, gop_tf, gop_ft, gop_pure, cnd_true, cnd_false, reduceIte, Bool.true_eq_false, Bool.false_eq_true, Bool.not_true, Bool.not_false, Bool.and_true, Bool.true_and, Bool.and_false, Bool.false_and, Bool.or_true, Bool.true_or, Bool.or_false, Bool.false_or])
  refine k_Right a ha fun w1 hw => ?_
  have := h w1 hw
  cases hr : right a <;> (try simp only [↓pick_true, ↓pick_false, pick_true, pick_false, ↓gop_undef, gop_undef, ↓bin_add, ↓bin_sub, ↓bin_mul, ↓bin_lss, ↓bin_leq, ↓bin_gtr, ↓bin_geq, ↓bin_eql, ↓bin_neq, ↓una_not, ↓bin_eql_str, ↓bin_neq_str, ↓ext0, ↓ext1, ↓ext0', ↓ext1', ↓ext2', ↓ext00, ↓pick_and, ↓pick_or, ↓gop_true, ↓gop_false, ↓gop_tf, ↓gop_ft, ↓gop_pure, ↓cnd_true, ↓cnd_false, bin_add, bin_sub, bin_mul, bin_lss, bin_leq, bin_gtr, bin_geq, bin_eql, bin_neq, una_not, bin_eql_str, bin_neq_str, ext0, ext1, ext0', ext1', ext2', ext00, pick_and, pick_or, gop_true, gop_false, gop_tf, gop_ft, gop_pure, cnd_true, cnd_false, reduceIte, Bool.true_eq_false, Bool.false_eq_true, Bool.not_true, Bool.not_false, Bool.and_true, Bool.true_and, Bool.and_false, Bool.false_and, Bool.or_true, Bool.true_or, Bool.or_false, Bool.false_or]) <;> simpa [deep, hr] using this)
theorem k_Of (a : List UInt8) (ha : a.length ≤ 140737488355320) (h : ∀ w', Below w.heap.size w w' → K (if right a && decide (deep a ≠ 3) then .tuple #[S (a ++ [91, 93]), I 0] else .tuple #[S [], I 30]) w') : callF P F.kind_Of [S a] w K := r_kind_Of (by
  unfold g_kind_Of
  refine k_Right a (by omega) fun w1 hw => ?_
  cases hr : right a
  · (try simp only [↓pick_true, ↓pick_false, pick_true, pick_false, ↓gop_undef, gop_undef, ↓bin_add, ↓bin_sub, ↓bin_mul, ↓bin_lss, ↓bin_leq, ↓bin_gtr, ↓bin_geq, ↓bin_eql, ↓bin_neq, ↓una_not, ↓bin_eql_str, ↓bin_neq_str, ↓ext0, ↓ext1, ↓ext0', ↓ext1', ↓ext2', ↓ext00, ↓pick_and, ↓pick_or, ↓gop_true, ↓gop_false, ↓gop_tf, ↓gop_ft, ↓gop_pure, ↓cnd_true, ↓cnd_false, bin_add, bin_sub, bin_mul, bin_lss, bin_leq, bin_gtr, bin_geq, bin_eql, bin_neq, una_not, bin_eql_str, bin_neq_str, ext0, ext1, ext0', ext1', ext2', ext00, pick_and, pick_or, gop_true, gop_false, gop_tf, gop_ft, gop_pure, cnd_true, cnd_false, reduceIte, Bool.true_eq_false, Bool.false_eq_true, Bool.not_true, Bool.not_false, Bool.and_true, Bool.true_and, Bool.and_false, Bool.false_and, Bool.or_true, Bool.true_or, Bool.or_false, Bool.false_or])
    have := h w1 hw
    simp only [hr] at this
    simpa using this
  · (try simp only [↓pick_true, ↓pick_false, pick_true, pick_false, ↓gop_undef, gop_undef, ↓bin_add, ↓bin_sub, ↓bin_mul, ↓bin_lss, ↓bin_leq, ↓bin_gtr, ↓bin_geq, ↓bin_eql, ↓bin_neq, ↓una_not, ↓bin_eql_str, ↓bin_neq_str, ↓ext0, ↓ext1, ↓ext0', ↓ext1', ↓ext2', ↓ext00, ↓pick_and, ↓pick_or, ↓gop_true, ↓gop_false, ↓gop_tf, ↓gop_ft, ↓gop_pure, ↓cnd_true, ↓cnd_false, bin_add, bin_sub, bin_mul, bin_lss, bin_leq, bin_gtr, bin_geq, bin_eql, bin_neq, una_not, bin_eql_str, bin_neq_str, ext0, ext1, ext0', ext1', ext2', ext00, pick_and, pick_or, gop_true, gop_false, gop_tf, gop_ft, gop_pure, cnd_true, cnd_false, reduceIte, Bool.true_eq_false, Bool.false_eq_true, Bool.not_true, Bool.not_false, Bool.and_true, Bool.true_and, Bool.and_false, Bool.false_and, Bool.or_true, Bool.true_or, Bool.or_false, Bool.false_or])
    refine k_Deep a (by omega) fun w2 hw2 => ?_
    have := h w2 (hw.trans (hw2.mono hw.size))
    by_cases hd : deep a = 3
    · have h1 : decide ((deep a : Int) = 3) = true := by simp only [decide_eq_true_eq]; omega
      simp only [↓pick_true, ↓pick_false, pick_true, pick_false, ↓gop_undef, gop_undef, ↓bin_add, ↓bin_sub, ↓bin_mul, ↓bin_lss, ↓bin_leq, ↓bin_gtr, ↓bin_geq, ↓bin_eql, ↓bin_neq, ↓una_not, ↓bin_eql_str, ↓bin_neq_str, ↓ext0, ↓ext1, ↓ext0', ↓ext1', ↓ext2', ↓ext00, ↓pick_and, ↓pick_or, ↓gop_true, ↓gop_false, ↓gop_tf, ↓gop_ft, ↓gop_pure, ↓cnd_true, ↓cnd_false, bin_add, bin_sub, bin_mul, bin_lss, bin_leq, bin_gtr, bin_geq, bin_eql, bin_neq, una_not, bin_eql_str, bin_neq_str, ext0, ext1, ext0', ext1', ext2', ext00, pick_and, pick_or, gop_true, gop_false, gop_tf, gop_ft, gop_pure, cnd_true, cnd_false, reduceIte, Bool.true_eq_false, Bool.false_eq_true, Bool.not_true, Bool.not_false, Bool.and_true, Bool.true_and, Bool.and_false, Bool.false_and, Bool.or_true, Bool.true_or, Bool.or_false, Bool.false_or, h1]
      simp only [hr, hd] at this
      simpa using this
    · have h1 : decide ((deep a : Int) = 3) = false := by simp only [decide_eq_false_iff_not]; omega
      simp only [↓pick_true, ↓pick_false, pick_true, pick_false, ↓gop_undef, gop_undef, ↓bin_add, ↓bin_sub, ↓bin_mul, ↓bin_lss, ↓bin_leq, ↓bin_gtr, ↓bin_geq, ↓bin_eql, ↓bin_neq, ↓una_not, ↓bin_eql_str, ↓bin_neq_str, ↓ext0, ↓ext1, ↓ext0', ↓ext1', ↓ext2', ↓ext00, ↓pick_and, ↓pick_or, ↓gop_true, ↓gop_false, ↓gop_tf, ↓gop_ft, ↓gop_pure, ↓cnd_true, ↓cnd_false, bin_add, bin_sub, bin_mul, bin_lss, bin_leq, bin_gtr, bin_geq, bin_eql, bin_neq, una_not, bin_eql_str, bin_neq_str, ext0, ext1, ext0', ext1', ext2', ext00, pick_and, pick_or, gop_true, gop_false, gop_tf, gop_ft, gop_pure, cnd_true, cnd_false, reduceIte, Bool.true_eq_false, Bool.false_eq_true, Bool.not_true, Bool.not_false, Bool.and_true, Bool.true_and, Bool.and_false, Bool.false_and, Bool.or_true, Bool.true_or, Bool.or_false, Bool.false_or, h1]
      rw [bin_add_str (by simp; omega)]
      simp only [hr] at this
      simpa [hd] using this)
end Go.Proofs.Ytcailbfhljoppaa
