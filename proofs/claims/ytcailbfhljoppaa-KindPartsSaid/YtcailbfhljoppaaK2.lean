import Derived.Test.YtcailbfhljoppaaK1
/-! kind: members; the references -/
set_option autoImplicit false
set_option linter.unusedSimpArgs false
set_option linter.unusedVariables false
namespace Go.Proofs.Ytcailbfhljoppaa
open Go.Emb Go.RowKit Go.Kd
variable {w : World} {K : Value → World → Prop}

theorem k_IndexByteString (a : List UInt8) (c : UInt8) (h : K (I (findB c a)) w) : callF P F.bytealg_IndexByteString [S a, .int .u8 c.toNat] w K := by
  refine extern_call (e := Extern.BytealgIndexByte.indexByte) Try.func44 (by decide) rfl (by kernel_rfl) (by kernel_rfl) ?_ h
  have e1 : ((List.range (ByteArray.mk a.toArray).size).find? fun i => (ByteArray.mk a.toArray)[i]! == c) = a.findIdx? (fun b => decide (b = c)) := by
    rw [size_mk]
    refine find_range _ _ a fun i hi => ?_
    have : (ByteArray.mk a.toArray)[i]! = a[i] := by
      rw [getElem!_pos _ _ (by rw [size_mk]; exact hi)]; rfl
    rw [this, Bool.eq_iff_iff]; simp
  have e2 : ((c.toNat : Int).toNat.toUInt8) = c := by simp
  have := run_indexByte_string (P := P) ⟨a.toArray⟩ c.toNat w
  rw [e2] at this
  refine this.trans ?_
  unfold firstIdx findB
  rw [e1]
  cases a.findIdx? (fun b => decide (b = c)) <;> rfl
theorem k_Index1 (a : List UInt8) (c : UInt8) (h : K (I (findB c a)) w) : callF P F.stringslite_Index [S a, S [c]] w K := r_stringslite_Index (by
  unfold g_stringslite_Index
  simp only [len_str u_string]
  have d0 : decide ((([c] : List UInt8).length : Int) = 0) = false := rfl
  have d1 : decide ((([c] : List UInt8).length : Int) = 1) = true := rfl
  simp only [bin_eql, d0, d1]
  simp only [↓pick_true, ↓pick_false, pick_true, pick_false, ↓gop_undef, gop_undef, ↓bin_add, ↓bin_sub, ↓bin_mul, ↓bin_lss, ↓bin_leq, ↓bin_gtr, ↓bin_geq, ↓bin_eql, ↓bin_neq, ↓una_not, ↓bin_eql_str, ↓bin_neq_str, ↓ext0, ↓ext1, ↓ext0', ↓ext1', ↓ext2', ↓ext00, ↓pick_and, ↓pick_or, ↓gop_true, ↓gop_false, ↓gop_tf, ↓gop_ft, ↓gop_pure, ↓cnd_true, ↓cnd_false, bin_add, bin_sub, bin_mul, bin_lss, bin_leq, bin_gtr, bin_geq, bin_eql, bin_neq, una_not, bin_eql_str, bin_neq_str, ext0, ext1, ext0', ext1', ext2', ext00, pick_and, pick_or, gop_true, gop_false, gop_tf, gop_ft, gop_pure, cnd_true, cnd_false, reduceIte, Bool.true_eq_false, Bool.false_eq_true, Bool.not_true, Bool.not_false, Bool.and_true, Bool.true_and, Bool.and_false, Bool.false_and, Bool.or_true, Bool.true_or, Bool.or_false, Bool.false_or]
  have fin : idx P T.string (S [c]) (I 0) w fun t29 w => callF P F.stringslite_IndexByte [S a, t29] w fun t30 w => K t30 w := by
    rw [idx_str u_string (by omega) (by simp)]
    refine r_stringslite_IndexByte ?_
    unfold g_stringslite_IndexByte
    exact k_IndexByteString a c h
  cases hd : decide ([c] = a)
  · (try simp only [↓pick_true, ↓pick_false, pick_true, pick_false, ↓gop_undef, gop_undef, ↓bin_add, ↓bin_sub, ↓bin_mul, ↓bin_lss, ↓bin_leq, ↓bin_gtr, ↓bin_geq, ↓bin_eql, ↓bin_neq, ↓una_not, ↓bin_eql_str, ↓bin_neq_str, ↓ext0, ↓ext1, ↓ext0', ↓ext1', ↓ext2', ↓ext00, ↓pick_and, ↓pick_or, ↓gop_true, ↓gop_false, ↓gop_tf, ↓gop_ft, ↓gop_pure, ↓cnd_true, ↓cnd_false, bin_add, bin_sub, bin_mul, bin_lss, bin_leq, bin_gtr, bin_geq, bin_eql, bin_neq, una_not, bin_eql_str, bin_neq_str, ext0, ext1, ext0', ext1', ext2', ext00, pick_and, pick_or, gop_true, gop_false, gop_tf, gop_ft, gop_pure, cnd_true, cnd_false, reduceIte, Bool.true_eq_false, Bool.false_eq_true, Bool.not_true, Bool.not_false, Bool.and_true, Bool.true_and, Bool.and_false, Bool.false_and, Bool.or_true, Bool.true_or, Bool.or_false, Bool.false_or])
    exact fin
  · (try simp only [↓pick_true, ↓pick_false, pick_true, pick_false, ↓gop_undef, gop_undef, ↓bin_add, ↓bin_sub, ↓bin_mul, ↓bin_lss, ↓bin_leq, ↓bin_gtr, ↓bin_geq, ↓bin_eql, ↓bin_neq, ↓una_not, ↓bin_eql_str, ↓bin_neq_str, ↓ext0, ↓ext1, ↓ext0', ↓ext1', ↓ext2', ↓ext00, ↓pick_and, ↓pick_or, ↓gop_true, ↓gop_false, ↓gop_tf, ↓gop_ft, ↓gop_pure, ↓cnd_true, ↓cnd_false, bin_add, bin_sub, bin_mul, bin_lss, bin_leq, bin_gtr, bin_geq, bin_eql, bin_neq, una_not, bin_eql_str, bin_neq_str, ext0, ext1, ext0', ext1', ext2', ext00, pick_and, pick_or, gop_true, gop_false, gop_tf, gop_ft, gop_pure, cnd_true, cnd_false, reduceIte, Bool.true_eq_false, Bool.false_eq_true, Bool.not_true, Bool.not_false, Bool.and_true, Bool.true_and, Bool.and_false, Bool.false_and, Bool.or_true, Bool.true_or, Bool.or_false, Bool.false_or])
    have he : [c] = a := by simpa using hd
    have : findB c a = 0 := by rw [← he]; simp [findB, List.findIdx?_cons]
    rw [this] at h; exact h)
theorem findB_lt {c : UInt8} {a : List UInt8} {i : Nat} (h : a.findIdx? (fun b => decide (b = c)) = some i) : i < a.length := by
  have := List.findIdx?_eq_some_iff_getElem.1 h
  exact this.1
theorem k_Cut (a : List UInt8) (ha : a.length ≤ 140737488355328) (h : ∀ w', Below w.heap.size w w' → K (.tuple #[S (dot a).1, S (dot a).2.1, .bool (dot a).2.2]) w') : callF P F.strings_Cut [S a, S [46]] w K := r_strings_Cut (by
  unfold g_strings_Cut
  refine r_stringslite_Cut ?_
  unfold g_stringslite_Cut
  refine k_Index1 a 46 ?_
  rw [dot_find] at h
  unfold findB
  cases hf : a.findIdx? (fun b => decide (b = 46)) with
  | none =>
    simp only [↓pick_true, ↓pick_false, pick_true, pick_false, ↓gop_undef, gop_undef, ↓bin_add, ↓bin_sub, ↓bin_mul, ↓bin_lss, ↓bin_leq, ↓bin_gtr, ↓bin_geq, ↓bin_eql, ↓bin_neq, ↓una_not, ↓bin_eql_str, ↓bin_neq_str, ↓ext0, ↓ext1, ↓ext0', ↓ext1', ↓ext2', ↓ext00, ↓pick_and, ↓pick_or, ↓gop_true, ↓gop_false, ↓gop_tf, ↓gop_ft, ↓gop_pure, ↓cnd_true, ↓cnd_false, bin_add, bin_sub, bin_mul, bin_lss, bin_leq, bin_gtr, bin_geq, bin_eql, bin_neq, una_not, bin_eql_str, bin_neq_str, ext0, ext1, ext0', ext1', ext2', ext00, pick_and, pick_or, gop_true, gop_false, gop_tf, gop_ft, gop_pure, cnd_true, cnd_false, reduceIte, Bool.true_eq_false, Bool.false_eq_true, Bool.not_true, Bool.not_false, Bool.and_true, Bool.true_and, Bool.and_false, Bool.false_and, Bool.or_true, Bool.true_or, Bool.or_false, Bool.false_or, show decide ((0 : Int) ≤ -1) = false from rfl]
    have := h w (Below.refl _ _)
    rw [hf] at this; exact this
  | some i =>
    have hi := findB_lt hf
    have h1 : decide ((0 : Int) ≤ (i : Int)) = true := by simp
    simp only [bin_geq, h1]
    simp only [↓pick_true, ↓pick_false, pick_true, pick_false, ↓gop_undef, gop_undef, ↓bin_add, ↓bin_sub, ↓bin_mul, ↓bin_lss, ↓bin_leq, ↓bin_gtr, ↓bin_geq, ↓bin_eql, ↓bin_neq, ↓una_not, ↓bin_eql_str, ↓bin_neq_str, ↓ext0, ↓ext1, ↓ext0', ↓ext1', ↓ext2', ↓ext00, ↓pick_and, ↓pick_or, ↓gop_true, ↓gop_false, ↓gop_tf, ↓gop_ft, ↓gop_pure, ↓cnd_true, ↓cnd_false, bin_add, bin_sub, bin_mul, bin_lss, bin_leq, bin_gtr, bin_geq, bin_eql, bin_neq, una_not, bin_eql_str, bin_neq_str, ext0, ext1, ext0', ext1', ext2', ext00, pick_and, pick_or, gop_true, gop_false, gop_tf, gop_ft, gop_pure, cnd_true, cnd_false, reduceIte, Bool.true_eq_false, Bool.false_eq_true, Bool.not_true, Bool.not_false, Bool.and_true, Bool.true_and, Bool.and_false, Bool.false_and, Bool.or_true, Bool.true_or, Bool.or_false, Bool.false_or]
    refine dr_below (Below.refl _ w) ?_
    refine dop_val (S (a.take i)) (fun w1 _ => ?_) ?_
    · rw [slc_str_hi u_string (by omega) (by omega)]; exact dk_same (by simp)
    refine dop_val (I 1) (fun w1 _ => ?_) ?_
    · rw [len_str u_string]; exact dk_same rfl
    refine dop_val (I (i + 1)) ?_ ?_
    · rintro _ w1 _ rfl
      rw [bin_add, w64 (by omega) (by omega)]; exact dk_same rfl
    refine dop_val (S (a.drop (i + 1))) ?_ ?_
    · rintro _ w1 _ rfl
      rw [slc_str_lo u_string (by omega) (by omega)]; exact dk_same (by simp)
    rintro _ _ _ _ w1 hb rfl rfl rfl rfl
    (try simp only [↓pick_true, ↓pick_false, pick_true, pick_false, ↓gop_undef, gop_undef, ↓bin_add, ↓bin_sub, ↓bin_mul, ↓bin_lss, ↓bin_leq, ↓bin_gtr, ↓bin_geq, ↓bin_eql, ↓bin_neq, ↓una_not, ↓bin_eql_str, ↓bin_neq_str, ↓ext0, ↓ext1, ↓ext0', ↓ext1', ↓ext2', ↓ext00, ↓pick_and, ↓pick_or, ↓gop_true, ↓gop_false, ↓gop_tf, ↓gop_ft, ↓gop_pure, ↓cnd_true, ↓cnd_false, bin_add, bin_sub, bin_mul, bin_lss, bin_leq, bin_gtr, bin_geq, bin_eql, bin_neq, una_not, bin_eql_str, bin_neq_str, ext0, ext1, ext0', ext1', ext2', ext00, pick_and, pick_or, gop_true, gop_false, gop_tf, gop_ft, gop_pure, cnd_true, cnd_false, reduceIte, Bool.true_eq_false, Bool.false_eq_true, Bool.not_true, Bool.not_false, Bool.and_true, Bool.true_and, Bool.and_false, Bool.false_and, Bool.or_true, Bool.true_or, Bool.or_false, Bool.false_or])
    have := h w1 hb
    rw [hf] at this; exact this)
theorem k_Parts (a : List UInt8) (ha : a.length ≤ 140737488355328) (h : ∀ w', Below w.heap.size w w' → K (if isParts a then .tuple #[S (dot a).1, S (dot a).2.1, I 0] else .tuple #[S [], S [], I 30]) w') : callF P F.kind_Parts [S a] w K := r_kind_Parts (by
  unfold g_kind_Parts
  refine k_Cut a ha fun w1 hb1 => ?_
  have hl : (dot a).1.length ≤ a.length ∧ (dot a).2.1.length ≤ a.length := by
    rw [dot_find]
    cases a.findIdx? (fun b => decide (b = 46)) <;> simp [dotAt]
    omega
  generalize hp : (dot a).1 = p at h hl
  generalize hq : (dot a).2.1 = q at h hl
  have hi : isParts a = ((dot a).2.2 && clas p && member q) := by rw [isParts, hp, hq]
  cases hd : (dot a).2.2
  · simp only [↓pick_true, ↓pick_false, pick_true, pick_false, ↓gop_undef, gop_undef, ↓bin_add, ↓bin_sub, ↓bin_mul, ↓bin_lss, ↓bin_leq, ↓bin_gtr, ↓bin_geq, ↓bin_eql, ↓bin_neq, ↓una_not, ↓bin_eql_str, ↓bin_neq_str, ↓ext0, ↓ext1, ↓ext0', ↓ext1', ↓ext2', ↓ext00, ↓pick_and, ↓pick_or, ↓gop_true, ↓gop_false, ↓gop_tf, ↓gop_ft, ↓gop_pure, ↓cnd_true, ↓cnd_false, bin_add, bin_sub, bin_mul, bin_lss, bin_leq, bin_gtr, bin_geq, bin_eql, bin_neq, una_not, bin_eql_str, bin_neq_str, ext0, ext1, ext0', ext1', ext2', ext00, pick_and, pick_or, gop_true, gop_false, gop_tf, gop_ft, gop_pure, cnd_true, cnd_false, reduceIte, Bool.true_eq_false, Bool.false_eq_true, Bool.not_true, Bool.not_false, Bool.and_true, Bool.true_and, Bool.and_false, Bool.false_and, Bool.or_true, Bool.true_or, Bool.or_false, Bool.false_or]
    have := h w1 hb1
    rw [hi, hd] at this; simpa using this
  · simp only [↓pick_true, ↓pick_false, pick_true, pick_false, ↓gop_undef, gop_undef, ↓bin_add, ↓bin_sub, ↓bin_mul, ↓bin_lss, ↓bin_leq, ↓bin_gtr, ↓bin_geq, ↓bin_eql, ↓bin_neq, ↓una_not, ↓bin_eql_str, ↓bin_neq_str, ↓ext0, ↓ext1, ↓ext0', ↓ext1', ↓ext2', ↓ext00, ↓pick_and, ↓pick_or, ↓gop_true, ↓gop_false, ↓gop_tf, ↓gop_ft, ↓gop_pure, ↓cnd_true, ↓cnd_false, bin_add, bin_sub, bin_mul, bin_lss, bin_leq, bin_gtr, bin_geq, bin_eql, bin_neq, una_not, bin_eql_str, bin_neq_str, ext0, ext1, ext0', ext1', ext2', ext00, pick_and, pick_or, gop_true, gop_false, gop_tf, gop_ft, gop_pure, cnd_true, cnd_false, reduceIte, Bool.true_eq_false, Bool.false_eq_true, Bool.not_true, Bool.not_false, Bool.and_true, Bool.true_and, Bool.and_false, Bool.false_and, Bool.or_true, Bool.true_or, Bool.or_false, Bool.false_or]
    refine k_Class p (by omega) fun w2 hb2 => ?_
    have hb12 := hb1.trans (hb2.mono hb1.size)
    cases hc : clas p
    · (try simp only [↓pick_true, ↓pick_false, pick_true, pick_false, ↓gop_undef, gop_undef, ↓bin_add, ↓bin_sub, ↓bin_mul, ↓bin_lss, ↓bin_leq, ↓bin_gtr, ↓bin_geq, ↓bin_eql, ↓bin_neq, ↓una_not, ↓bin_eql_str, ↓bin_neq_str, ↓ext0, ↓ext1, ↓ext0', ↓ext1', ↓ext2', ↓ext00, ↓pick_and, ↓pick_or, ↓gop_true, ↓gop_false, ↓gop_tf, ↓gop_ft, ↓gop_pure, ↓cnd_true, ↓cnd_false, bin_add, bin_sub, bin_mul, bin_lss, bin_leq, bin_gtr, bin_geq, bin_eql, bin_neq, una_not, bin_eql_str, bin_neq_str, ext0, ext1, ext0', ext1', ext2', ext00, pick_and, pick_or, gop_true, gop_false, gop_tf, gop_ft, gop_pure, cnd_true, cnd_false, reduceIte, Bool.true_eq_false, Bool.false_eq_true, Bool.not_true, Bool.not_false, Bool.and_true, Bool.true_and, Bool.and_false, Bool.false_and, Bool.or_true, Bool.true_or, Bool.or_false, Bool.false_or])
      have := h w2 hb12
      rw [hi, hd, hc] at this; simpa using this
    · (try simp only [↓pick_true, ↓pick_false, pick_true, pick_false, ↓gop_undef, gop_undef, ↓bin_add, ↓bin_sub, ↓bin_mul, ↓bin_lss, ↓bin_leq, ↓bin_gtr, ↓bin_geq, ↓bin_eql, ↓bin_neq, ↓una_not, ↓bin_eql_str, ↓bin_neq_str, ↓ext0, ↓ext1, ↓ext0', ↓ext1', ↓ext2', ↓ext00, ↓pick_and, ↓pick_or, ↓gop_true, ↓gop_false, ↓gop_tf, ↓gop_ft, ↓gop_pure, ↓cnd_true, ↓cnd_false, bin_add, bin_sub, bin_mul, bin_lss, bin_leq, bin_gtr, bin_geq, bin_eql, bin_neq, una_not, bin_eql_str, bin_neq_str, ext0, ext1, ext0', ext1', ext2', ext00, pick_and, pick_or, gop_true, gop_false, gop_tf, gop_ft, gop_pure, cnd_true, cnd_false, reduceIte, Bool.true_eq_false, Bool.false_eq_true, Bool.not_true, Bool.not_false, Bool.and_true, Bool.true_and, Bool.and_false, Bool.false_and, Bool.or_true, Bool.true_or, Bool.or_false, Bool.false_or])
      refine k_Name q (by omega) fun w3 hb3 => ?_
      have hb13 := hb12.trans (hb3.mono hb12.size)
      have := h w3 hb13
      rw [hi, hd, hc] at this
      cases hn : name q
      · (try simp only [↓pick_true, ↓pick_false, pick_true, pick_false, ↓gop_undef, gop_undef, ↓bin_add, ↓bin_sub, ↓bin_mul, ↓bin_lss, ↓bin_leq, ↓bin_gtr, ↓bin_geq, ↓bin_eql, ↓bin_neq, ↓una_not, ↓bin_eql_str, ↓bin_neq_str, ↓ext0, ↓ext1, ↓ext0', ↓ext1', ↓ext2', ↓ext00, ↓pick_and, ↓pick_or, ↓gop_true, ↓gop_false, ↓gop_tf, ↓gop_ft, ↓gop_pure, ↓cnd_true, ↓cnd_false, bin_add, bin_sub, bin_mul, bin_lss, bin_leq, bin_gtr, bin_geq, bin_eql, bin_neq, una_not, bin_eql_str, bin_neq_str, ext0, ext1, ext0', ext1', ext2', ext00, pick_and, pick_or, gop_true, gop_false, gop_tf, gop_ft, gop_pure, cnd_true, cnd_false, reduceIte, Bool.true_eq_false, Bool.false_eq_true, Bool.not_true, Bool.not_false, Bool.and_true, Bool.true_and, Bool.and_false, Bool.false_and, Bool.or_true, Bool.true_or, Bool.or_false, Bool.false_or])
        have hm : member q = false := by cases q with | nil => rfl | cons c r => simp [member, hn]
        rw [hm] at this; simpa using this
      · (try simp only [↓pick_true, ↓pick_false, pick_true, pick_false, ↓gop_undef, gop_undef, ↓bin_add, ↓bin_sub, ↓bin_mul, ↓bin_lss, ↓bin_leq, ↓bin_gtr, ↓bin_geq, ↓bin_eql, ↓bin_neq, ↓una_not, ↓bin_eql_str, ↓bin_neq_str, ↓ext0, ↓ext1, ↓ext0', ↓ext1', ↓ext2', ↓ext00, ↓pick_and, ↓pick_or, ↓gop_true, ↓gop_false, ↓gop_tf, ↓gop_ft, ↓gop_pure, ↓cnd_true, ↓cnd_false, bin_add, bin_sub, bin_mul, bin_lss, bin_leq, bin_gtr, bin_geq, bin_eql, bin_neq, una_not, bin_eql_str, bin_neq_str, ext0, ext1, ext0', ext1', ext2', ext00, pick_and, pick_or, gop_true, gop_false, gop_tf, gop_ft, gop_pure, cnd_true, cnd_false, reduceIte, Bool.true_eq_false, Bool.false_eq_true, Bool.not_true, Bool.not_false, Bool.and_true, Bool.true_and, Bool.and_false, Bool.false_and, Bool.or_true, Bool.true_or, Bool.or_false, Bool.false_or])
        cases q with
        | nil => simp [name] at hn
        | cons c r =>
          rw [idx_str u_string (by omega) (by simp)]
          have hi0 : (c :: r)[(0 : Int).toNat]'(by simp) = c := rfl
          (try simp only [↓pick_true, ↓pick_false, pick_true, pick_false, ↓gop_undef, gop_undef, ↓bin_add, ↓bin_sub, ↓bin_mul, ↓bin_lss, ↓bin_leq, ↓bin_gtr, ↓bin_geq, ↓bin_eql, ↓bin_neq, ↓una_not, ↓bin_eql_str, ↓bin_neq_str, ↓ext0, ↓ext1, ↓ext0', ↓ext1', ↓ext2', ↓ext00, ↓pick_and, ↓pick_or, ↓gop_true, ↓gop_false, ↓gop_tf, ↓gop_ft, ↓gop_pure, ↓cnd_true, ↓cnd_false, bin_add, bin_sub, bin_mul, bin_lss, bin_leq, bin_gtr, bin_geq, bin_eql, bin_neq, una_not, bin_eql_str, bin_neq_str, ext0, ext1, ext0', ext1', ext2', ext00, pick_and, pick_or, gop_true, gop_false, gop_tf, gop_ft, gop_pure, cnd_true, cnd_false, reduceIte, Bool.true_eq_false, Bool.false_eq_true, Bool.not_true, Bool.not_false, Bool.and_true, Bool.true_and, Bool.and_false, Bool.false_and, Bool.or_true, Bool.true_or, Bool.or_false, Bool.false_or])
          rw [hi0, conv_int u_uint8 u_int32, w32 (by omega) (by have := c.toNat_lt; omega)]
          refine k_small _ ?_
          have hm : member (c :: r) = small c.toNat := by simp [member, hn]
          rw [hm] at this
          cases hs : small c.toNat <;> (try simp only [↓pick_true, ↓pick_false, pick_true, pick_false, ↓gop_undef, gop_undef, ↓bin_add, ↓bin_sub, ↓bin_mul, ↓bin_lss, ↓bin_leq, ↓bin_gtr, ↓bin_geq, ↓bin_eql, ↓bin_neq, ↓una_not, ↓bin_eql_str, ↓bin_neq_str, ↓ext0, ↓ext1, ↓ext0', ↓ext1', ↓ext2', ↓ext00, ↓pick_and, ↓pick_or, ↓gop_true, ↓gop_false, ↓gop_tf, ↓gop_ft, ↓gop_pure, ↓cnd_true, ↓cnd_false, bin_add, bin_sub, bin_mul, bin_lss, bin_leq, bin_gtr, bin_geq, bin_eql, bin_neq, una_not, bin_eql_str, bin_neq_str, ext0, ext1, ext0', ext1', ext2', ext00, pick_and, pick_or, gop_true, gop_false, gop_tf, gop_ft, gop_pure, cnd_true, cnd_false, reduceIte, Bool.true_eq_false, Bool.false_eq_true, Bool.not_true, Bool.not_false, Bool.and_true, Bool.true_and, Bool.and_false, Bool.false_and, Bool.or_true, Bool.true_or, Bool.or_false, Bool.false_or]) <;> rw [hs] at this <;> simpa using this)

/-! the references -/
theorem ref_Plain (a : List UInt8) (h : K (.bool (plain a)) w) : callF P F.squinchref03_Plain [S a] w K := r_squinchref03_Plain (by
  unfold g_squinchref03_Plain
  refine jn_in ?_
  (try simp only [↓pick_true, ↓pick_false, pick_true, pick_false, ↓gop_undef, gop_undef, ↓bin_add, ↓bin_sub, ↓bin_mul, ↓bin_lss, ↓bin_leq, ↓bin_gtr, ↓bin_geq, ↓bin_eql, ↓bin_neq, ↓una_not, ↓bin_eql_str, ↓bin_neq_str, ↓ext0, ↓ext1, ↓ext0', ↓ext1', ↓ext2', ↓ext00, ↓pick_and, ↓pick_or, ↓gop_true, ↓gop_false, ↓gop_tf, ↓gop_ft, ↓gop_pure, ↓cnd_true, ↓cnd_false, bin_add, bin_sub, bin_mul, bin_lss, bin_leq, bin_gtr, bin_geq, bin_eql, bin_neq, una_not, bin_eql_str, bin_neq_str, ext0, ext1, ext0', ext1', ext2', ext00, pick_and, pick_or, gop_true, gop_false, gop_tf, gop_ft, gop_pure, cnd_true, cnd_false, reduceIte, Bool.true_eq_false, Bool.false_eq_true, Bool.not_true, Bool.not_false, Bool.and_true, Bool.true_and, Bool.and_false, Bool.false_and, Bool.or_true, Bool.true_or, Bool.or_false, Bool.false_or])
  cases h1 : decide (a = [105, 110, 116])
  · cases h2 : decide (a = [98, 111, 111, 108])
    · cases h3 : decide (a = [116, 101, 120, 116]) <;> (try simp only [↓pick_true, ↓pick_false, pick_true, pick_false, ↓gop_undef, gop_undef, ↓bin_add, ↓bin_sub, ↓bin_mul, ↓bin_lss, ↓bin_leq, ↓bin_gtr, ↓bin_geq, ↓bin_eql, ↓bin_neq, ↓una_not, ↓bin_eql_str, ↓bin_neq_str, ↓ext0, ↓ext1, ↓ext0', ↓ext1', ↓ext2', ↓ext00, ↓pick_and, ↓pick_or, ↓gop_true, ↓gop_false, ↓gop_tf, ↓gop_ft, ↓gop_pure, ↓cnd_true, ↓cnd_false, bin_add, bin_sub, bin_mul, bin_lss, bin_leq, bin_gtr, bin_geq, bin_eql, bin_neq, una_not, bin_eql_str, bin_neq_str, ext0, ext1, ext0', ext1', ext2', ext00, pick_and, pick_or, gop_true, gop_false, gop_tf, gop_ft, gop_pure, cnd_true, cnd_false, reduceIte, Bool.true_eq_false, Bool.false_eq_true, Bool.not_true, Bool.not_false, Bool.and_true, Bool.true_and, Bool.and_false, Bool.false_and, Bool.or_true, Bool.true_or, Bool.or_false, Bool.false_or]) <;> intro _ <;> (try simp only [↓pick_true, ↓pick_false, pick_true, pick_false, ↓gop_undef, gop_undef, ↓bin_add, ↓bin_sub, ↓bin_mul, ↓bin_lss, ↓bin_leq, ↓bin_gtr, ↓bin_geq, ↓bin_eql, ↓bin_neq, ↓una_not, ↓bin_eql_str, ↓bin_neq_str, ↓ext0, ↓ext1, ↓ext0', ↓ext1', ↓ext2', ↓ext00, ↓pick_and, ↓pick_or, ↓gop_true, ↓gop_false, ↓gop_tf, ↓gop_ft, ↓gop_pure, ↓cnd_true, ↓cnd_false, bin_add, bin_sub, bin_mul, bin_lss, bin_leq, bin_gtr, bin_geq, bin_eql, bin_neq, una_not, bin_eql_str, bin_neq_str, ext0, ext1, ext0', ext1', ext2', ext00, pick_and, pick_or, gop_true, gop_false, gop_tf, gop_ft, gop_pure, cnd_true, cnd_false, reduceIte, Bool.true_eq_false, Bool.false_eq_true, Bool.not_true, Bool.not_false, Bool.and_true, Bool.true_and, Bool.and_false, Bool.false_and, Bool.or_true, Bool.true_or, Bool.or_false, Bool.false_or]) <;> simpa [plain, h1, h2, h3] using h
    · (try simp only [↓pick_true, ↓pick_false, pick_true, pick_false, ↓gop_undef, gop_undef, ↓bin_add, ↓bin_sub, ↓bin_mul, ↓bin_lss, ↓bin_leq, ↓bin_gtr, ↓bin_geq, ↓bin_eql, ↓bin_neq, ↓una_not, ↓bin_eql_str, ↓bin_neq_str, ↓ext0, ↓ext1, ↓ext0', ↓ext1', ↓ext2', ↓ext00, ↓pick_and, ↓pick_or, ↓gop_true, ↓gop_false, ↓gop_tf, ↓gop_ft, ↓gop_pure, ↓cnd_true, ↓cnd_false, bin_add, bin_sub, bin_mul, bin_lss, bin_leq, bin_gtr, bin_geq, bin_eql, bin_neq, una_not, bin_eql_str, bin_neq_str, ext0, ext1, ext0', ext1', ext2', ext00, pick_and, pick_or, gop_true, gop_false, gop_tf, gop_ft, gop_pure, cnd_true, cnd_false, reduceIte, Bool.true_eq_false, Bool.false_eq_true, Bool.not_true, Bool.not_false, Bool.and_true, Bool.true_and, Bool.and_false, Bool.false_and, Bool.or_true, Bool.true_or, Bool.or_false, Bool.false_or])
      intro _
      (try simp only [↓pick_true, ↓pick_false, pick_true, pick_false, ↓gop_undef, gop_undef, ↓bin_add, ↓bin_sub, ↓bin_mul, ↓bin_lss, ↓bin_leq, ↓bin_gtr, ↓bin_geq, ↓bin_eql, ↓bin_neq, ↓una_not, ↓bin_eql_str, ↓bin_neq_str, ↓ext0, ↓ext1, ↓ext0', ↓ext1', ↓ext2', ↓ext00, ↓pick_and, ↓pick_or, ↓gop_true, ↓gop_false, ↓gop_tf, ↓gop_ft, ↓gop_pure, ↓cnd_true, ↓cnd_false, bin_add, bin_sub, bin_mul, bin_lss, bin_leq, bin_gtr, bin_geq, bin_eql, bin_neq, una_not, bin_eql_str, bin_neq_str, ext0, ext1, ext0', ext1', ext2', ext00, pick_and, pick_or, gop_true, gop_false, gop_tf, gop_ft, gop_pure, cnd_true, cnd_false, reduceIte, Bool.true_eq_false, Bool.false_eq_true, Bool.not_true, Bool.not_false, Bool.and_true, Bool.true_and, Bool.and_false, Bool.false_and, Bool.or_true, Bool.true_or, Bool.or_false, Bool.false_or])
      simpa [plain, h1, h2] using h
  · (try simp only [↓pick_true, ↓pick_false, pick_true, pick_false, ↓gop_undef, gop_undef, ↓bin_add, ↓bin_sub, ↓bin_mul, ↓bin_lss, ↓bin_leq, ↓bin_gtr, ↓bin_geq, ↓bin_eql, ↓bin_neq, ↓una_not, ↓bin_eql_str, ↓bin_neq_str, ↓ext0, ↓ext1, ↓ext0', ↓ext1', ↓ext2', ↓ext00, ↓pick_and, ↓pick_or, ↓gop_true, ↓gop_false, ↓gop_tf, ↓gop_ft, ↓gop_pure, ↓cnd_true, ↓cnd_false, bin_add, bin_sub, bin_mul, bin_lss, bin_leq, bin_gtr, bin_geq, bin_eql, bin_neq, una_not, bin_eql_str, bin_neq_str, ext0, ext1, ext0', ext1', ext2', ext00, pick_and, pick_or, gop_true, gop_false, gop_tf, gop_ft, gop_pure, cnd_true, cnd_false, reduceIte, Bool.true_eq_false, Bool.false_eq_true, Bool.not_true, Bool.not_false, Bool.and_true, Bool.true_and, Bool.and_false, Bool.false_and, Bool.or_true, Bool.true_or, Bool.or_false, Bool.false_or])
    intro _
    (try simp only [↓pick_true, ↓pick_false, pick_true, pick_false, ↓gop_undef, gop_undef, ↓bin_add, ↓bin_sub, ↓bin_mul, ↓bin_lss, ↓bin_leq, ↓bin_gtr, ↓bin_geq, ↓bin_eql, ↓bin_neq, ↓una_not, ↓bin_eql_str, ↓bin_neq_str, ↓ext0, ↓ext1, ↓ext0', ↓ext1', ↓ext2', ↓ext00, ↓pick_and, ↓pick_or, ↓gop_true, ↓gop_false, ↓gop_tf, ↓gop_ft, ↓gop_pure, ↓cnd_true, ↓cnd_false, bin_add, bin_sub, bin_mul, bin_lss, bin_leq, bin_gtr, bin_geq, bin_eql, bin_neq, una_not, bin_eql_str, bin_neq_str, ext0, ext1, ext0', ext1', ext2', ext00, pick_and, pick_or, gop_true, gop_false, gop_tf, gop_ft, gop_pure, cnd_true, cnd_false, reduceIte, Bool.true_eq_false, Bool.false_eq_true, Bool.not_true, Bool.not_false, Bool.and_true, Bool.true_and, Bool.and_false, Bool.false_and, Bool.or_true, Bool.true_or, Bool.or_false, Bool.false_or])
    simpa [plain, h1] using h)
def NameI (a : List UInt8) (w : World) (x : Value) (w' : World) : Prop :=
  w = w' ∧ ∃ i : Nat, x = I i ∧ i ≤ a.length ∧ (0 < i → (a.head?.map fun c => digit c.toNat) = some false) ∧ (a.take i).all (fun b => alnum b.toNat) = true
def NameM (a : List UInt8) (x : Value) : Nat := match x with | .int _ i => a.length - i.toNat | _ => 0
theorem ref_Name (a : List UInt8) (ha : a.length ≤ 140737488355328) (h : K (.bool (name a)) w) : callF P F.squinchref03_Name [S a] w K := r_squinchref03_Name (by
  unfold g_squinchref03_Name
  refine lp_mk (NameI a w) (fun x _ => NameM a x) ⟨rfl, 0, rfl, by omega, by omega, by simp⟩ ?_
  rintro _ _ _ ⟨rfl, i, rfl, hi, hd, hall⟩
  rw [len_str u_string]
  (try simp only [↓pick_true, ↓pick_false, pick_true, pick_false, ↓gop_undef, gop_undef, ↓bin_add, ↓bin_sub, ↓bin_mul, ↓bin_lss, ↓bin_leq, ↓bin_gtr, ↓bin_geq, ↓bin_eql, ↓bin_neq, ↓una_not, ↓bin_eql_str, ↓bin_neq_str, ↓ext0, ↓ext1, ↓ext0', ↓ext1', ↓ext2', ↓ext00, ↓pick_and, ↓pick_or, ↓gop_true, ↓gop_false, ↓gop_tf, ↓gop_ft, ↓gop_pure, ↓cnd_true, ↓cnd_false, bin_add, bin_sub, bin_mul, bin_lss, bin_leq, bin_gtr, bin_geq, bin_eql, bin_neq, una_not, bin_eql_str, bin_neq_str, ext0, ext1, ext0', ext1', ext2', ext00, pick_and, pick_or, gop_true, gop_false, gop_tf, gop_ft, gop_pure, cnd_true, cnd_false, reduceIte, Bool.true_eq_false, Bool.false_eq_true, Bool.not_true, Bool.not_false, Bool.and_true, Bool.true_and, Bool.and_false, Bool.false_and, Bool.or_true, Bool.true_or, Bool.or_false, Bool.false_or])
  by_cases hlt : i < a.length
  · have h1 : decide ((i : Int) < a.length) = true := by simp only [decide_eq_true_eq]; omega
    simp only [h1, ↓pick_true, ↓pick_false, pick_true, pick_false, ↓gop_undef, gop_undef, ↓bin_add, ↓bin_sub, ↓bin_mul, ↓bin_lss, ↓bin_leq, ↓bin_gtr, ↓bin_geq, ↓bin_eql, ↓bin_neq, ↓una_not, ↓bin_eql_str, ↓bin_neq_str, ↓ext0, ↓ext1, ↓ext0', ↓ext1', ↓ext2', ↓ext00, ↓pick_and, ↓pick_or, ↓gop_true, ↓gop_false, ↓gop_tf, ↓gop_ft, ↓gop_pure, ↓cnd_true, ↓cnd_false, bin_add, bin_sub, bin_mul, bin_lss, bin_leq, bin_gtr, bin_geq, bin_eql, bin_neq, una_not, bin_eql_str, bin_neq_str, ext0, ext1, ext0', ext1', ext2', ext00, pick_and, pick_or, gop_true, gop_false, gop_tf, gop_ft, gop_pure, cnd_true, cnd_false, reduceIte, Bool.true_eq_false, Bool.false_eq_true, Bool.not_true, Bool.not_false, Bool.and_true, Bool.true_and, Bool.and_false, Bool.false_and, Bool.or_true, Bool.true_or, Bool.or_false, Bool.false_or]
    have hidx : ∀ K' : Value → World → Prop, idx P T.string (S a) (I i) w K' = K' (.int .u8 (a[i]'hlt).toNat) w := fun K' => by
      rw [idx_str u_string (by omega) (by simpa using hlt)]; simp
    generalize hc : a[i] = c at hidx
    have hfalse : alnum c.toNat = false ∨ (i = 0 ∧ digit c.toNat = true) → name a = false := by
      intro ho
      cases a with
      | nil => rfl
      | cons c0 r =>
        simp only [name]
        rcases ho with ho | ⟨rfl, ho⟩
        · have : (c0 :: r).all (fun b => alnum b.toNat) = false := by
            rw [List.all_eq_false]
            exact ⟨c, by rw [← hc]; exact List.getElem_mem _, by simp [ho]⟩
          rw [this]; simp
        · simp only [List.getElem_cons_zero] at hc
          rw [hc, ho]; simp
    have hstep : alnum c.toNat = true → (i = 0 → digit c.toNat = false) → NameI a w (I (IntKind.i64.wrap ((i : Int) + 1))) w ∧ NameM a (I (IntKind.i64.wrap ((i : Int) + 1))) < NameM a (I i) := by
      intro ha1 hd1
      rw [w64 (by omega) (by omega)]
      refine ⟨⟨rfl, i + 1, by simp, by omega, fun _ => ?_, ?_⟩, by simp only [NameM]; omega⟩
      · by_cases h0 : 0 < i
        · exact hd h0
        · obtain rfl : i = 0 := by omega
          cases a with
          | nil => simp at hlt
          | cons c0 r => simp only [List.getElem_cons_zero] at hc; subst hc; simp [hd1 rfl]
      · rw [List.take_add_one, List.getElem?_eq_getElem hlt, hc]
        simp [hall, ha1]
    have hc256 := c.toNat_lt
    have d0 : decide ((i : Int) = 0) = decide (i = 0) := by rw [Bool.eq_iff_iff]; simp
    by_cases c1 : 97 ≤ (c.toNat : Int)
    · by_cases c2 : (c.toNat : Int) ≤ 122
      · simp only [hidx, decide_eq_true c1, decide_eq_true c2, ↓pick_true, ↓pick_false, pick_true, pick_false, ↓gop_undef, gop_undef, ↓bin_add, ↓bin_sub, ↓bin_mul, ↓bin_lss, ↓bin_leq, ↓bin_gtr, ↓bin_geq, ↓bin_eql, ↓bin_neq, ↓una_not, ↓bin_eql_str, ↓bin_neq_str, ↓ext0, ↓ext1, ↓ext0', ↓ext1', ↓ext2', ↓ext00, ↓pick_and, ↓pick_or, ↓gop_true, ↓gop_false, ↓gop_tf, ↓gop_ft, ↓gop_pure, ↓cnd_true, ↓cnd_false, bin_add, bin_sub, bin_mul, bin_lss, bin_leq, bin_gtr, bin_geq, bin_eql, bin_neq, una_not, bin_eql_str, bin_neq_str, ext0, ext1, ext0', ext1', ext2', ext00, pick_and, pick_or, gop_true, gop_false, gop_tf, gop_ft, gop_pure, cnd_true, cnd_false, reduceIte, Bool.true_eq_false, Bool.false_eq_true, Bool.not_true, Bool.not_false, Bool.and_true, Bool.true_and, Bool.and_false, Bool.false_and, Bool.or_true, Bool.true_or, Bool.or_false, Bool.false_or]
        exact hstep (by simp [alnum, small, c1, c2]) (fun _ => by simp [digit]; omega)
      · have c3 : (65 : Int) ≤ c.toNat := by omega
        have c4 : ¬ (c.toNat : Int) ≤ 90 := by omega
        have c5 : ¬ (c.toNat : Int) < 48 := by omega
        have c6 : (57 : Int) < c.toNat := by omega
        simp only [hidx, decide_eq_true c1, decide_eq_false c2, decide_eq_true c3, decide_eq_false c4, decide_eq_false c5, decide_eq_true c6, d0, ↓pick_true, ↓pick_false, pick_true, pick_false, ↓gop_undef, gop_undef, ↓bin_add, ↓bin_sub, ↓bin_mul, ↓bin_lss, ↓bin_leq, ↓bin_gtr, ↓bin_geq, ↓bin_eql, ↓bin_neq, ↓una_not, ↓bin_eql_str, ↓bin_neq_str, ↓ext0, ↓ext1, ↓ext0', ↓ext1', ↓ext2', ↓ext00, ↓pick_and, ↓pick_or, ↓gop_true, ↓gop_false, ↓gop_tf, ↓gop_ft, ↓gop_pure, ↓cnd_true, ↓cnd_false, bin_add, bin_sub, bin_mul, bin_lss, bin_leq, bin_gtr, bin_geq, bin_eql, bin_neq, una_not, bin_eql_str, bin_neq_str, ext0, ext1, ext0', ext1', ext2', ext00, pick_and, pick_or, gop_true, gop_false, gop_tf, gop_ft, gop_pure, cnd_true, cnd_false, reduceIte, Bool.true_eq_false, Bool.false_eq_true, Bool.not_true, Bool.not_false, Bool.and_true, Bool.true_and, Bool.and_false, Bool.false_and, Bool.or_true, Bool.true_or, Bool.or_false, Bool.false_or]
        have hn := hfalse (.inl (by simp [alnum, great, small, digit]; omega))
        rw [hn] at h
        cases decide (i = 0) <;> (try simp only [hidx, decide_eq_false c5, decide_eq_true c6, ↓pick_true, ↓pick_false, pick_true, pick_false, ↓gop_undef, gop_undef, ↓bin_add, ↓bin_sub, ↓bin_mul, ↓bin_lss, ↓bin_leq, ↓bin_gtr, ↓bin_geq, ↓bin_eql, ↓bin_neq, ↓una_not, ↓bin_eql_str, ↓bin_neq_str, ↓ext0, ↓ext1, ↓ext0', ↓ext1', ↓ext2', ↓ext00, ↓pick_and, ↓pick_or, ↓gop_true, ↓gop_false, ↓gop_tf, ↓gop_ft, ↓gop_pure, ↓cnd_true, ↓cnd_false, bin_add, bin_sub, bin_mul, bin_lss, bin_leq, bin_gtr, bin_geq, bin_eql, bin_neq, una_not, bin_eql_str, bin_neq_str, ext0, ext1, ext0', ext1', ext2', ext00, pick_and, pick_or, gop_true, gop_false, gop_tf, gop_ft, gop_pure, cnd_true, cnd_false, reduceIte, Bool.true_eq_false, Bool.false_eq_true, Bool.not_true, Bool.not_false, Bool.and_true, Bool.true_and, Bool.and_false, Bool.false_and, Bool.or_true, Bool.true_or, Bool.or_false, Bool.false_or]) <;> exact h
    · by_cases c3 : (65 : Int) ≤ c.toNat
      · by_cases c4 : (c.toNat : Int) ≤ 90
        · simp only [hidx, decide_eq_false c1, decide_eq_true c3, decide_eq_true c4, ↓pick_true, ↓pick_false, pick_true, pick_false, ↓gop_undef, gop_undef, ↓bin_add, ↓bin_sub, ↓bin_mul, ↓bin_lss, ↓bin_leq, ↓bin_gtr, ↓bin_geq, ↓bin_eql, ↓bin_neq, ↓una_not, ↓bin_eql_str, ↓bin_neq_str, ↓ext0, ↓ext1, ↓ext0', ↓ext1', ↓ext2', ↓ext00, ↓pick_and, ↓pick_or, ↓gop_true, ↓gop_false, ↓gop_tf, ↓gop_ft, ↓gop_pure, ↓cnd_true, ↓cnd_false, bin_add, bin_sub, bin_mul, bin_lss, bin_leq, bin_gtr, bin_geq, bin_eql, bin_neq, una_not, bin_eql_str, bin_neq_str, ext0, ext1, ext0', ext1', ext2', ext00, pick_and, pick_or, gop_true, gop_false, gop_tf, gop_ft, gop_pure, cnd_true, cnd_false, reduceIte, Bool.true_eq_false, Bool.false_eq_true, Bool.not_true, Bool.not_false, Bool.and_true, Bool.true_and, Bool.and_false, Bool.false_and, Bool.or_true, Bool.true_or, Bool.or_false, Bool.false_or]
          exact hstep (by simp [alnum, great, c3, c4]) (fun _ => by simp [digit]; omega)
        · have c5 : ¬ (c.toNat : Int) < 48 := by omega
          have c6 : (57 : Int) < c.toNat := by omega
          simp only [hidx, decide_eq_false c1, decide_eq_true c3, decide_eq_false c4, decide_eq_false c5, decide_eq_true c6, d0, ↓pick_true, ↓pick_false, pick_true, pick_false, ↓gop_undef, gop_undef, ↓bin_add, ↓bin_sub, ↓bin_mul, ↓bin_lss, ↓bin_leq, ↓bin_gtr, ↓bin_geq, ↓bin_eql, ↓bin_neq, ↓una_not, ↓bin_eql_str, ↓bin_neq_str, ↓ext0, ↓ext1, ↓ext0', ↓ext1', ↓ext2', ↓ext00, ↓pick_and, ↓pick_or, ↓gop_true, ↓gop_false, ↓gop_tf, ↓gop_ft, ↓gop_pure, ↓cnd_true, ↓cnd_false, bin_add, bin_sub, bin_mul, bin_lss, bin_leq, bin_gtr, bin_geq, bin_eql, bin_neq, una_not, bin_eql_str, bin_neq_str, ext0, ext1, ext0', ext1', ext2', ext00, pick_and, pick_or, gop_true, gop_false, gop_tf, gop_ft, gop_pure, cnd_true, cnd_false, reduceIte, Bool.true_eq_false, Bool.false_eq_true, Bool.not_true, Bool.not_false, Bool.and_true, Bool.true_and, Bool.and_false, Bool.false_and, Bool.or_true, Bool.true_or, Bool.or_false, Bool.false_or]
          have hn := hfalse (.inl (by simp [alnum, great, small, digit]; omega))
          rw [hn] at h
          cases decide (i = 0) <;> (try simp only [hidx, decide_eq_false c5, decide_eq_true c6, ↓pick_true, ↓pick_false, pick_true, pick_false, ↓gop_undef, gop_undef, ↓bin_add, ↓bin_sub, ↓bin_mul, ↓bin_lss, ↓bin_leq, ↓bin_gtr, ↓bin_geq, ↓bin_eql, ↓bin_neq, ↓una_not, ↓bin_eql_str, ↓bin_neq_str, ↓ext0, ↓ext1, ↓ext0', ↓ext1', ↓ext2', ↓ext00, ↓pick_and, ↓pick_or, ↓gop_true, ↓gop_false, ↓gop_tf, ↓gop_ft, ↓gop_pure, ↓cnd_true, ↓cnd_false, bin_add, bin_sub, bin_mul, bin_lss, bin_leq, bin_gtr, bin_geq, bin_eql, bin_neq, una_not, bin_eql_str, bin_neq_str, ext0, ext1, ext0', ext1', ext2', ext00, pick_and, pick_or, gop_true, gop_false, gop_tf, gop_ft, gop_pure, cnd_true, cnd_false, reduceIte, Bool.true_eq_false, Bool.false_eq_true, Bool.not_true, Bool.not_false, Bool.and_true, Bool.true_and, Bool.and_false, Bool.false_and, Bool.or_true, Bool.true_or, Bool.or_false, Bool.false_or]) <;> exact h
      · by_cases c5 : (c.toNat : Int) < 48
        · simp only [hidx, decide_eq_false c1, decide_eq_false c3, decide_eq_true c5, d0, ↓pick_true, ↓pick_false, pick_true, pick_false, ↓gop_undef, gop_undef, ↓bin_add, ↓bin_sub, ↓bin_mul, ↓bin_lss, ↓bin_leq, ↓bin_gtr, ↓bin_geq, ↓bin_eql, ↓bin_neq, ↓una_not, ↓bin_eql_str, ↓bin_neq_str, ↓ext0, ↓ext1, ↓ext0', ↓ext1', ↓ext2', ↓ext00, ↓pick_and, ↓pick_or, ↓gop_true, ↓gop_false, ↓gop_tf, ↓gop_ft, ↓gop_pure, ↓cnd_true, ↓cnd_false, bin_add, bin_sub, bin_mul, bin_lss, bin_leq, bin_gtr, bin_geq, bin_eql, bin_neq, una_not, bin_eql_str, bin_neq_str, ext0, ext1, ext0', ext1', ext2', ext00, pick_and, pick_or, gop_true, gop_false, gop_tf, gop_ft, gop_pure, cnd_true, cnd_false, reduceIte, Bool.true_eq_false, Bool.false_eq_true, Bool.not_true, Bool.not_false, Bool.and_true, Bool.true_and, Bool.and_false, Bool.false_and, Bool.or_true, Bool.true_or, Bool.or_false, Bool.false_or]
          have hn := hfalse (.inl (by simp [alnum, great, small, digit]; omega))
          rw [hn] at h
          cases decide (i = 0) <;> (try simp only [hidx, decide_eq_true c5, ↓pick_true, ↓pick_false, pick_true, pick_false, ↓gop_undef, gop_undef, ↓bin_add, ↓bin_sub, ↓bin_mul, ↓bin_lss, ↓bin_leq, ↓bin_gtr, ↓bin_geq, ↓bin_eql, ↓bin_neq, ↓una_not, ↓bin_eql_str, ↓bin_neq_str, ↓ext0, ↓ext1, ↓ext0', ↓ext1', ↓ext2', ↓ext00, ↓pick_and, ↓pick_or, ↓gop_true, ↓gop_false, ↓gop_tf, ↓gop_ft, ↓gop_pure, ↓cnd_true, ↓cnd_false, bin_add, bin_sub, bin_mul, bin_lss, bin_leq, bin_gtr, bin_geq, bin_eql, bin_neq, una_not, bin_eql_str, bin_neq_str, ext0, ext1, ext0', ext1', ext2', ext00, pick_and, pick_or, gop_true, gop_false, gop_tf, gop_ft, gop_pure, cnd_true, cnd_false, reduceIte, Bool.true_eq_false, Bool.false_eq_true, Bool.not_true, Bool.not_false, Bool.and_true, Bool.true_and, Bool.and_false, Bool.false_and, Bool.or_true, Bool.true_or, Bool.or_false, Bool.false_or]) <;> exact h
        · by_cases c6 : (57 : Int) < c.toNat
          · simp only [hidx, decide_eq_false c1, decide_eq_false c3, decide_eq_false c5, decide_eq_true c6, d0, ↓pick_true, ↓pick_false, pick_true, pick_false, ↓gop_undef, gop_undef, ↓bin_add, ↓bin_sub, ↓bin_mul, ↓bin_lss, ↓bin_leq, ↓bin_gtr, ↓bin_geq, ↓bin_eql, ↓bin_neq, ↓una_not, ↓bin_eql_str, ↓bin_neq_str, ↓ext0, ↓ext1, ↓ext0', ↓ext1', ↓ext2', ↓ext00, ↓pick_and, ↓pick_or, ↓gop_true, ↓gop_false, ↓gop_tf, ↓gop_ft, ↓gop_pure, ↓cnd_true, ↓cnd_false, bin_add, bin_sub, bin_mul, bin_lss, bin_leq, bin_gtr, bin_geq, bin_eql, bin_neq, una_not, bin_eql_str, bin_neq_str, ext0, ext1, ext0', ext1', ext2', ext00, pick_and, pick_or, gop_true, gop_false, gop_tf, gop_ft, gop_pure, cnd_true, cnd_false, reduceIte, Bool.true_eq_false, Bool.false_eq_true, Bool.not_true, Bool.not_false, Bool.and_true, Bool.true_and, Bool.and_false, Bool.false_and, Bool.or_true, Bool.true_or, Bool.or_false, Bool.false_or]
            have hn := hfalse (.inl (by simp [alnum, great, small, digit]; omega))
            rw [hn] at h
            cases decide (i = 0) <;> (try simp only [hidx, decide_eq_false c5, decide_eq_true c6, ↓pick_true, ↓pick_false, pick_true, pick_false, ↓gop_undef, gop_undef, ↓bin_add, ↓bin_sub, ↓bin_mul, ↓bin_lss, ↓bin_leq, ↓bin_gtr, ↓bin_geq, ↓bin_eql, ↓bin_neq, ↓una_not, ↓bin_eql_str, ↓bin_neq_str, ↓ext0, ↓ext1, ↓ext0', ↓ext1', ↓ext2', ↓ext00, ↓pick_and, ↓pick_or, ↓gop_true, ↓gop_false, ↓gop_tf, ↓gop_ft, ↓gop_pure, ↓cnd_true, ↓cnd_false, bin_add, bin_sub, bin_mul, bin_lss, bin_leq, bin_gtr, bin_geq, bin_eql, bin_neq, una_not, bin_eql_str, bin_neq_str, ext0, ext1, ext0', ext1', ext2', ext00, pick_and, pick_or, gop_true, gop_false, gop_tf, gop_ft, gop_pure, cnd_true, cnd_false, reduceIte, Bool.true_eq_false, Bool.false_eq_true, Bool.not_true, Bool.not_false, Bool.and_true, Bool.true_and, Bool.and_false, Bool.false_and, Bool.or_true, Bool.true_or, Bool.or_false, Bool.false_or]) <;> exact h
          · have hdg : digit c.toNat = true := by simp [digit]; omega
            simp only [hidx, decide_eq_false c1, decide_eq_false c3, decide_eq_false c5, decide_eq_false c6, d0, ↓pick_true, ↓pick_false, pick_true, pick_false, ↓gop_undef, gop_undef, ↓bin_add, ↓bin_sub, ↓bin_mul, ↓bin_lss, ↓bin_leq, ↓bin_gtr, ↓bin_geq, ↓bin_eql, ↓bin_neq, ↓una_not, ↓bin_eql_str, ↓bin_neq_str, ↓ext0, ↓ext1, ↓ext0', ↓ext1', ↓ext2', ↓ext00, ↓pick_and, ↓pick_or, ↓gop_true, ↓gop_false, ↓gop_tf, ↓gop_ft, ↓gop_pure, ↓cnd_true, ↓cnd_false, bin_add, bin_sub, bin_mul, bin_lss, bin_leq, bin_gtr, bin_geq, bin_eql, bin_neq, una_not, bin_eql_str, bin_neq_str, ext0, ext1, ext0', ext1', ext2', ext00, pick_and, pick_or, gop_true, gop_false, gop_tf, gop_ft, gop_pure, cnd_true, cnd_false, reduceIte, Bool.true_eq_false, Bool.false_eq_true, Bool.not_true, Bool.not_false, Bool.and_true, Bool.true_and, Bool.and_false, Bool.false_and, Bool.or_true, Bool.true_or, Bool.or_false, Bool.false_or]
            by_cases h0 : i = 0
            · have hn := hfalse (.inr ⟨h0, hdg⟩)
              rw [hn] at h
              simp only [decide_eq_true h0, hidx, decide_eq_false c5, decide_eq_false c6, ↓pick_true, ↓pick_false, pick_true, pick_false, ↓gop_undef, gop_undef, ↓bin_add, ↓bin_sub, ↓bin_mul, ↓bin_lss, ↓bin_leq, ↓bin_gtr, ↓bin_geq, ↓bin_eql, ↓bin_neq, ↓una_not, ↓bin_eql_str, ↓bin_neq_str, ↓ext0, ↓ext1, ↓ext0', ↓ext1', ↓ext2', ↓ext00, ↓pick_and, ↓pick_or, ↓gop_true, ↓gop_false, ↓gop_tf, ↓gop_ft, ↓gop_pure, ↓cnd_true, ↓cnd_false, bin_add, bin_sub, bin_mul, bin_lss, bin_leq, bin_gtr, bin_geq, bin_eql, bin_neq, una_not, bin_eql_str, bin_neq_str, ext0, ext1, ext0', ext1', ext2', ext00, pick_and, pick_or, gop_true, gop_false, gop_tf, gop_ft, gop_pure, cnd_true, cnd_false, reduceIte, Bool.true_eq_false, Bool.false_eq_true, Bool.not_true, Bool.not_false, Bool.and_true, Bool.true_and, Bool.and_false, Bool.false_and, Bool.or_true, Bool.true_or, Bool.or_false, Bool.false_or]
              exact h
            · simp only [decide_eq_false h0, hidx, decide_eq_false c5, decide_eq_false c6, ↓pick_true, ↓pick_false, pick_true, pick_false, ↓gop_undef, gop_undef, ↓bin_add, ↓bin_sub, ↓bin_mul, ↓bin_lss, ↓bin_leq, ↓bin_gtr, ↓bin_geq, ↓bin_eql, ↓bin_neq, ↓una_not, ↓bin_eql_str, ↓bin_neq_str, ↓ext0, ↓ext1, ↓ext0', ↓ext1', ↓ext2', ↓ext00, ↓pick_and, ↓pick_or, ↓gop_true, ↓gop_false, ↓gop_tf, ↓gop_ft, ↓gop_pure, ↓cnd_true, ↓cnd_false, bin_add, bin_sub, bin_mul, bin_lss, bin_leq, bin_gtr, bin_geq, bin_eql, bin_neq, una_not, bin_eql_str, bin_neq_str, ext0, ext1, ext0', ext1', ext2', ext00, pick_and, pick_or, gop_true, gop_false, gop_tf, gop_ft, gop_pure, cnd_true, cnd_false, reduceIte, Bool.true_eq_false, Bool.false_eq_true, Bool.not_true, Bool.not_false, Bool.and_true, Bool.true_and, Bool.and_false, Bool.false_and, Bool.or_true, Bool.true_or, Bool.or_false, Bool.false_or]
              exact hstep (by simp [alnum, hdg]) (fun h => absurd h h0)
  · have h1 : decide ((i : Int) < a.length) = false := by simp only [decide_eq_false_iff_not]; omega
    obtain rfl : i = a.length := by omega
    simp only [h1, ↓pick_true, ↓pick_false, pick_true, pick_false, ↓gop_undef, gop_undef, ↓bin_add, ↓bin_sub, ↓bin_mul, ↓bin_lss, ↓bin_leq, ↓bin_gtr, ↓bin_geq, ↓bin_eql, ↓bin_neq, ↓una_not, ↓bin_eql_str, ↓bin_neq_str, ↓ext0, ↓ext1, ↓ext0', ↓ext1', ↓ext2', ↓ext00, ↓pick_and, ↓pick_or, ↓gop_true, ↓gop_false, ↓gop_tf, ↓gop_ft, ↓gop_pure, ↓cnd_true, ↓cnd_false, bin_add, bin_sub, bin_mul, bin_lss, bin_leq, bin_gtr, bin_geq, bin_eql, bin_neq, una_not, bin_eql_str, bin_neq_str, ext0, ext1, ext0', ext1', ext2', ext00, pick_and, pick_or, gop_true, gop_false, gop_tf, gop_ft, gop_pure, cnd_true, cnd_false, reduceIte, Bool.true_eq_false, Bool.false_eq_true, Bool.not_true, Bool.not_false, Bool.and_true, Bool.true_and, Bool.and_false, Bool.false_and, Bool.or_true, Bool.true_or, Bool.or_false, Bool.false_or]
    rw [len_str u_string]
    cases a with
    | nil =>
      have h2 : decide ((1 : Int) ≤ (([] : List UInt8).length : Int)) = false := rfl
      simp only [h2, ↓pick_true, ↓pick_false, pick_true, pick_false, ↓gop_undef, gop_undef, ↓bin_add, ↓bin_sub, ↓bin_mul, ↓bin_lss, ↓bin_leq, ↓bin_gtr, ↓bin_geq, ↓bin_eql, ↓bin_neq, ↓una_not, ↓bin_eql_str, ↓bin_neq_str, ↓ext0, ↓ext1, ↓ext0', ↓ext1', ↓ext2', ↓ext00, ↓pick_and, ↓pick_or, ↓gop_true, ↓gop_false, ↓gop_tf, ↓gop_ft, ↓gop_pure, ↓cnd_true, ↓cnd_false, bin_add, bin_sub, bin_mul, bin_lss, bin_leq, bin_gtr, bin_geq, bin_eql, bin_neq, una_not, bin_eql_str, bin_neq_str, ext0, ext1, ext0', ext1', ext2', ext00, pick_and, pick_or, gop_true, gop_false, gop_tf, gop_ft, gop_pure, cnd_true, cnd_false, reduceIte, Bool.true_eq_false, Bool.false_eq_true, Bool.not_true, Bool.not_false, Bool.and_true, Bool.true_and, Bool.and_false, Bool.false_and, Bool.or_true, Bool.true_or, Bool.or_false, Bool.false_or]; exact h
    | cons c r =>
      have h2 : decide ((1 : Int) ≤ ((c :: r).length : Int)) = true := by simp only [decide_eq_true_eq, List.length_cons]; omega
      have hd' := hd (by simp)
      simp only [List.head?_cons, Option.map_some, Option.some.injEq] at hd'
      simp only [List.take_length] at hall
      have hnm : name (c :: r) = decide ((c :: r).length ≤ 32) := by simp only [name, hd', hall]; simp
      have h3 : decide (((c :: r).length : Int) ≤ 32) = decide ((c :: r).length ≤ 32) := by rw [Bool.eq_iff_iff]; simp only [decide_eq_true_eq]; omega
      simp only [h2, len_str u_string, h3, ↓pick_true, ↓pick_false, pick_true, pick_false, ↓gop_undef, gop_undef, ↓bin_add, ↓bin_sub, ↓bin_mul, ↓bin_lss, ↓bin_leq, ↓bin_gtr, ↓bin_geq, ↓bin_eql, ↓bin_neq, ↓una_not, ↓bin_eql_str, ↓bin_neq_str, ↓ext0, ↓ext1, ↓ext0', ↓ext1', ↓ext2', ↓ext00, ↓pick_and, ↓pick_or, ↓gop_true, ↓gop_false, ↓gop_tf, ↓gop_ft, ↓gop_pure, ↓cnd_true, ↓cnd_false, bin_add, bin_sub, bin_mul, bin_lss, bin_leq, bin_gtr, bin_geq, bin_eql, bin_neq, una_not, bin_eql_str, bin_neq_str, ext0, ext1, ext0', ext1', ext2', ext00, pick_and, pick_or, gop_true, gop_false, gop_tf, gop_ft, gop_pure, cnd_true, cnd_false, reduceIte, Bool.true_eq_false, Bool.false_eq_true, Bool.not_true, Bool.not_false, Bool.and_true, Bool.true_and, Bool.and_false, Bool.false_and, Bool.or_true, Bool.true_or, Bool.or_false, Bool.false_or]
      rw [← hnm]; exact h)

theorem head_alnum {c : UInt8} {r : List UInt8} (h : name (c :: r) = true) : alnum c.toNat = true ∧ digit c.toNat = false := by
  simp only [name, Bool.and_eq_true, List.all_cons, Bool.not_eq_true'] at h
  exact ⟨h.2.1, h.1.2⟩
theorem ref_Class (a : List UInt8) (ha : a.length ≤ 140737488355328) (h : K (.bool (clas a)) w) : callF P F.squinchref03_Class [S a] w K := r_squinchref03_Class (by
  unfold g_squinchref03_Class
  refine ref_Name a ha ?_
  cases a with
  | nil => simp only [name, ↓pick_true, ↓pick_false, pick_true, pick_false, ↓gop_undef, gop_undef, ↓bin_add, ↓bin_sub, ↓bin_mul, ↓bin_lss, ↓bin_leq, ↓bin_gtr, ↓bin_geq, ↓bin_eql, ↓bin_neq, ↓una_not, ↓bin_eql_str, ↓bin_neq_str, ↓ext0, ↓ext1, ↓ext0', ↓ext1', ↓ext2', ↓ext00, ↓pick_and, ↓pick_or, ↓gop_true, ↓gop_false, ↓gop_tf, ↓gop_ft, ↓gop_pure, ↓cnd_true, ↓cnd_false, bin_add, bin_sub, bin_mul, bin_lss, bin_leq, bin_gtr, bin_geq, bin_eql, bin_neq, una_not, bin_eql_str, bin_neq_str, ext0, ext1, ext0', ext1', ext2', ext00, pick_and, pick_or, gop_true, gop_false, gop_tf, gop_ft, gop_pure, cnd_true, cnd_false, reduceIte, Bool.true_eq_false, Bool.false_eq_true, Bool.not_true, Bool.not_false, Bool.and_true, Bool.true_and, Bool.and_false, Bool.false_and, Bool.or_true, Bool.true_or, Bool.or_false, Bool.false_or]; exact h
  | cons c r =>
    cases hn : name (c :: r)
    · (try simp only [↓pick_true, ↓pick_false, pick_true, pick_false, ↓gop_undef, gop_undef, ↓bin_add, ↓bin_sub, ↓bin_mul, ↓bin_lss, ↓bin_leq, ↓bin_gtr, ↓bin_geq, ↓bin_eql, ↓bin_neq, ↓una_not, ↓bin_eql_str, ↓bin_neq_str, ↓ext0, ↓ext1, ↓ext0', ↓ext1', ↓ext2', ↓ext00, ↓pick_and, ↓pick_or, ↓gop_true, ↓gop_false, ↓gop_tf, ↓gop_ft, ↓gop_pure, ↓cnd_true, ↓cnd_false, bin_add, bin_sub, bin_mul, bin_lss, bin_leq, bin_gtr, bin_geq, bin_eql, bin_neq, una_not, bin_eql_str, bin_neq_str, ext0, ext1, ext0', ext1', ext2', ext00, pick_and, pick_or, gop_true, gop_false, gop_tf, gop_ft, gop_pure, cnd_true, cnd_false, reduceIte, Bool.true_eq_false, Bool.false_eq_true, Bool.not_true, Bool.not_false, Bool.and_true, Bool.true_and, Bool.and_false, Bool.false_and, Bool.or_true, Bool.true_or, Bool.or_false, Bool.false_or])
      simpa [clas, hn] using h
    · (try simp only [↓pick_true, ↓pick_false, pick_true, pick_false, ↓gop_undef, gop_undef, ↓bin_add, ↓bin_sub, ↓bin_mul, ↓bin_lss, ↓bin_leq, ↓bin_gtr, ↓bin_geq, ↓bin_eql, ↓bin_neq, ↓una_not, ↓bin_eql_str, ↓bin_neq_str, ↓ext0, ↓ext1, ↓ext0', ↓ext1', ↓ext2', ↓ext00, ↓pick_and, ↓pick_or, ↓gop_true, ↓gop_false, ↓gop_tf, ↓gop_ft, ↓gop_pure, ↓cnd_true, ↓cnd_false, bin_add, bin_sub, bin_mul, bin_lss, bin_leq, bin_gtr, bin_geq, bin_eql, bin_neq, una_not, bin_eql_str, bin_neq_str, ext0, ext1, ext0', ext1', ext2', ext00, pick_and, pick_or, gop_true, gop_false, gop_tf, gop_ft, gop_pure, cnd_true, cnd_false, reduceIte, Bool.true_eq_false, Bool.false_eq_true, Bool.not_true, Bool.not_false, Bool.and_true, Bool.true_and, Bool.and_false, Bool.false_and, Bool.or_true, Bool.true_or, Bool.or_false, Bool.false_or])
      rw [idx_str u_string (by omega) (by simp)]
      have hi0 : (c :: r)[(0 : Int).toNat]'(by simp) = c := rfl
      (try simp only [↓pick_true, ↓pick_false, pick_true, pick_false, ↓gop_undef, gop_undef, ↓bin_add, ↓bin_sub, ↓bin_mul, ↓bin_lss, ↓bin_leq, ↓bin_gtr, ↓bin_geq, ↓bin_eql, ↓bin_neq, ↓una_not, ↓bin_eql_str, ↓bin_neq_str, ↓ext0, ↓ext1, ↓ext0', ↓ext1', ↓ext2', ↓ext00, ↓pick_and, ↓pick_or, ↓gop_true, ↓gop_false, ↓gop_tf, ↓gop_ft, ↓gop_pure, ↓cnd_true, ↓cnd_false, bin_add, bin_sub, bin_mul, bin_lss, bin_leq, bin_gtr, bin_geq, bin_eql, bin_neq, una_not, bin_eql_str, bin_neq_str, ext0, ext1, ext0', ext1', ext2', ext00, pick_and, pick_or, gop_true, gop_false, gop_tf, gop_ft, gop_pure, cnd_true, cnd_false, reduceIte, Bool.true_eq_false, Bool.false_eq_true, Bool.not_true, Bool.not_false, Bool.and_true, Bool.true_and, Bool.and_false, Bool.false_and, Bool.or_true, Bool.true_or, Bool.or_false, Bool.false_or])
      rw [hi0]
      obtain ⟨h1, h2⟩ := head_alnum hn
      have : decide ((c.toNat : Int) ≤ 90) = great c.toNat := by
        simp only [alnum, great, small, digit, Bool.or_eq_true, Bool.and_eq_true, Bool.and_eq_false_iff, decide_eq_true_eq, decide_eq_false_iff_not] at h1 h2 ⊢
        rw [Bool.eq_iff_iff]; simp only [Bool.and_eq_true, decide_eq_true_eq]; omega
      rw [this]
      simpa [clas, hn] using h)
theorem ref_Member (a : List UInt8) (ha : a.length ≤ 140737488355328) (h : K (.bool (member a)) w) : callF P F.squinchref03_Member [S a] w K := r_squinchref03_Member (by
  unfold g_squinchref03_Member
  refine ref_Name a ha ?_
  cases a with
  | nil => simp only [name, ↓pick_true, ↓pick_false, pick_true, pick_false, ↓gop_undef, gop_undef, ↓bin_add, ↓bin_sub, ↓bin_mul, ↓bin_lss, ↓bin_leq, ↓bin_gtr, ↓bin_geq, ↓bin_eql, ↓bin_neq, ↓una_not, ↓bin_eql_str, ↓bin_neq_str, ↓ext0, ↓ext1, ↓ext0', ↓ext1', ↓ext2', ↓ext00, ↓pick_and, ↓pick_or, ↓gop_true, ↓gop_false, ↓gop_tf, ↓gop_ft, ↓gop_pure, ↓cnd_true, ↓cnd_false, bin_add, bin_sub, bin_mul, bin_lss, bin_leq, bin_gtr, bin_geq, bin_eql, bin_neq, una_not, bin_eql_str, bin_neq_str, ext0, ext1, ext0', ext1', ext2', ext00, pick_and, pick_or, gop_true, gop_false, gop_tf, gop_ft, gop_pure, cnd_true, cnd_false, reduceIte, Bool.true_eq_false, Bool.false_eq_true, Bool.not_true, Bool.not_false, Bool.and_true, Bool.true_and, Bool.and_false, Bool.false_and, Bool.or_true, Bool.true_or, Bool.or_false, Bool.false_or]; exact h
  | cons c r =>
    cases hn : name (c :: r)
    · (try simp only [↓pick_true, ↓pick_false, pick_true, pick_false, ↓gop_undef, gop_undef, ↓bin_add, ↓bin_sub, ↓bin_mul, ↓bin_lss, ↓bin_leq, ↓bin_gtr, ↓bin_geq, ↓bin_eql, ↓bin_neq, ↓una_not, ↓bin_eql_str, ↓bin_neq_str, ↓ext0, ↓ext1, ↓ext0', ↓ext1', ↓ext2', ↓ext00, ↓pick_and, ↓pick_or, ↓gop_true, ↓gop_false, ↓gop_tf, ↓gop_ft, ↓gop_pure, ↓cnd_true, ↓cnd_false, bin_add, bin_sub, bin_mul, bin_lss, bin_leq, bin_gtr, bin_geq, bin_eql, bin_neq, una_not, bin_eql_str, bin_neq_str, ext0, ext1, ext0', ext1', ext2', ext00, pick_and, pick_or, gop_true, gop_false, gop_tf, gop_ft, gop_pure, cnd_true, cnd_false, reduceIte, Bool.true_eq_false, Bool.false_eq_true, Bool.not_true, Bool.not_false, Bool.and_true, Bool.true_and, Bool.and_false, Bool.false_and, Bool.or_true, Bool.true_or, Bool.or_false, Bool.false_or])
      simpa [member, hn] using h
    · (try simp only [↓pick_true, ↓pick_false, pick_true, pick_false, ↓gop_undef, gop_undef, ↓bin_add, ↓bin_sub, ↓bin_mul, ↓bin_lss, ↓bin_leq, ↓bin_gtr, ↓bin_geq, ↓bin_eql, ↓bin_neq, ↓una_not, ↓bin_eql_str, ↓bin_neq_str, ↓ext0, ↓ext1, ↓ext0', ↓ext1', ↓ext2', ↓ext00, ↓pick_and, ↓pick_or, ↓gop_true, ↓gop_false, ↓gop_tf, ↓gop_ft, ↓gop_pure, ↓cnd_true, ↓cnd_false, bin_add, bin_sub, bin_mul, bin_lss, bin_leq, bin_gtr, bin_geq, bin_eql, bin_neq, una_not, bin_eql_str, bin_neq_str, ext0, ext1, ext0', ext1', ext2', ext00, pick_and, pick_or, gop_true, gop_false, gop_tf, gop_ft, gop_pure, cnd_true, cnd_false, reduceIte, Bool.true_eq_false, Bool.false_eq_true, Bool.not_true, Bool.not_false, Bool.and_true, Bool.true_and, Bool.and_false, Bool.false_and, Bool.or_true, Bool.true_or, Bool.or_false, Bool.false_or])
      rw [idx_str u_string (by omega) (by simp)]
      have hi0 : (c :: r)[(0 : Int).toNat]'(by simp) = c := rfl
      (try simp only [↓pick_true, ↓pick_false, pick_true, pick_false, ↓gop_undef, gop_undef, ↓bin_add, ↓bin_sub, ↓bin_mul, ↓bin_lss, ↓bin_leq, ↓bin_gtr, ↓bin_geq, ↓bin_eql, ↓bin_neq, ↓una_not, ↓bin_eql_str, ↓bin_neq_str, ↓ext0, ↓ext1, ↓ext0', ↓ext1', ↓ext2', ↓ext00, ↓pick_and, ↓pick_or, ↓gop_true, ↓gop_false, ↓gop_tf, ↓gop_ft, ↓gop_pure, ↓cnd_true, ↓cnd_false, bin_add, bin_sub, bin_mul, bin_lss, bin_leq, bin_gtr, bin_geq, bin_eql, bin_neq, una_not, bin_eql_str, bin_neq_str, ext0, ext1, ext0', ext1', ext2', ext00, pick_and, pick_or, gop_true, gop_false, gop_tf, gop_ft, gop_pure, cnd_true, cnd_false, reduceIte, Bool.true_eq_false, Bool.false_eq_true, Bool.not_true, Bool.not_false, Bool.and_true, Bool.true_and, Bool.and_false, Bool.false_and, Bool.or_true, Bool.true_or, Bool.or_false, Bool.false_or])
      rw [hi0]
      obtain ⟨h1, h2⟩ := head_alnum hn
      have : decide ((97 : Int) ≤ c.toNat) = small c.toNat := by
        simp only [alnum, great, small, digit, Bool.or_eq_true, Bool.and_eq_true, Bool.and_eq_false_iff, decide_eq_true_eq, decide_eq_false_iff_not] at h1 h2 ⊢
        rw [Bool.eq_iff_iff]; simp only [Bool.and_eq_true, decide_eq_true_eq]; omega
      rw [this]
      simpa [member, hn] using h)
def DeepI (a : List UInt8) (w : World) (x : Value × Value) (w' : World) : Prop :=
  w = w' ∧ ∃ (b : List UInt8) (n : Nat), x = (S b, I n) ∧ b.length + 2 * n = a.length ∧ (base a).2 = (base b).2 + n
def DeepM (x : Value × Value) : Nat := match x.1 with | .string s => s.size | _ => 0
theorem ref_Deep (a : List UInt8) (ha : a.length ≤ 140737488355328) (h : K (I (base a).2) w) : callF P F.squinchref03_Deep [S a] w K := r_squinchref03_Deep (by
  unfold g_squinchref03_Deep
  refine lp_mk (DeepI a w) (fun x _ => DeepM x) ⟨rfl, a, 0, rfl, by omega, rfl⟩ ?_
  rintro _ _ _ ⟨rfl, b, n, rfl, hl, he⟩
  rw [len_str u_string]
  (try simp only [↓pick_true, ↓pick_false, pick_true, pick_false, ↓gop_undef, gop_undef, ↓bin_add, ↓bin_sub, ↓bin_mul, ↓bin_lss, ↓bin_leq, ↓bin_gtr, ↓bin_geq, ↓bin_eql, ↓bin_neq, ↓una_not, ↓bin_eql_str, ↓bin_neq_str, ↓ext0, ↓ext1, ↓ext0', ↓ext1', ↓ext2', ↓ext00, ↓pick_and, ↓pick_or, ↓gop_true, ↓gop_false, ↓gop_tf, ↓gop_ft, ↓gop_pure, ↓cnd_true, ↓cnd_false, bin_add, bin_sub, bin_mul, bin_lss, bin_leq, bin_gtr, bin_geq, bin_eql, bin_neq, una_not, bin_eql_str, bin_neq_str, ext0, ext1, ext0', ext1', ext2', ext00, pick_and, pick_or, gop_true, gop_false, gop_tf, gop_ft, gop_pure, cnd_true, cnd_false, reduceIte, Bool.true_eq_false, Bool.false_eq_true, Bool.not_true, Bool.not_false, Bool.and_true, Bool.true_and, Bool.and_false, Bool.false_and, Bool.or_true, Bool.true_or, Bool.or_false, Bool.false_or])
  by_cases h2 : 2 ≤ b.length
  · have h1 : decide ((2 : Int) ≤ b.length) = true := by simp only [decide_eq_true_eq]; omega
    simp only [h1, len_str u_string, ↓pick_true, ↓pick_false, pick_true, pick_false, ↓gop_undef, gop_undef, ↓bin_add, ↓bin_sub, ↓bin_mul, ↓bin_lss, ↓bin_leq, ↓bin_gtr, ↓bin_geq, ↓bin_eql, ↓bin_neq, ↓una_not, ↓bin_eql_str, ↓bin_neq_str, ↓ext0, ↓ext1, ↓ext0', ↓ext1', ↓ext2', ↓ext00, ↓pick_and, ↓pick_or, ↓gop_true, ↓gop_false, ↓gop_tf, ↓gop_ft, ↓gop_pure, ↓cnd_true, ↓cnd_false, bin_add, bin_sub, bin_mul, bin_lss, bin_leq, bin_gtr, bin_geq, bin_eql, bin_neq, una_not, bin_eql_str, bin_neq_str, ext0, ext1, ext0', ext1', ext2', ext00, pick_and, pick_or, gop_true, gop_false, gop_tf, gop_ft, gop_pure, cnd_true, cnd_false, reduceIte, Bool.true_eq_false, Bool.false_eq_true, Bool.not_true, Bool.not_false, Bool.and_true, Bool.true_and, Bool.and_false, Bool.false_and, Bool.or_true, Bool.true_or, Bool.or_false, Bool.false_or]
    rw [w64 (by omega) (by omega), slc_str_lo u_string (by omega) (by omega)]
    rw [show ((b.length : Int) - 2).toNat = b.length - 2 from by omega]
    have hb : decide (b.drop (b.length - 2) = [91, 93]) = arr b := by simp [arr, h2]
    simp only [hb, ↓pick_true, ↓pick_false, pick_true, pick_false, ↓gop_undef, gop_undef, ↓bin_add, ↓bin_sub, ↓bin_mul, ↓bin_lss, ↓bin_leq, ↓bin_gtr, ↓bin_geq, ↓bin_eql, ↓bin_neq, ↓una_not, ↓bin_eql_str, ↓bin_neq_str, ↓ext0, ↓ext1, ↓ext0', ↓ext1', ↓ext2', ↓ext00, ↓pick_and, ↓pick_or, ↓gop_true, ↓gop_false, ↓gop_tf, ↓gop_ft, ↓gop_pure, ↓cnd_true, ↓cnd_false, bin_add, bin_sub, bin_mul, bin_lss, bin_leq, bin_gtr, bin_geq, bin_eql, bin_neq, una_not, bin_eql_str, bin_neq_str, ext0, ext1, ext0', ext1', ext2', ext00, pick_and, pick_or, gop_true, gop_false, gop_tf, gop_ft, gop_pure, cnd_true, cnd_false, reduceIte, Bool.true_eq_false, Bool.false_eq_true, Bool.not_true, Bool.not_false, Bool.and_true, Bool.true_and, Bool.and_false, Bool.false_and, Bool.or_true, Bool.true_or, Bool.or_false, Bool.false_or]
    cases hc : arr b
    · (try simp only [↓pick_true, ↓pick_false, pick_true, pick_false, ↓gop_undef, gop_undef, ↓bin_add, ↓bin_sub, ↓bin_mul, ↓bin_lss, ↓bin_leq, ↓bin_gtr, ↓bin_geq, ↓bin_eql, ↓bin_neq, ↓una_not, ↓bin_eql_str, ↓bin_neq_str, ↓ext0, ↓ext1, ↓ext0', ↓ext1', ↓ext2', ↓ext00, ↓pick_and, ↓pick_or, ↓gop_true, ↓gop_false, ↓gop_tf, ↓gop_ft, ↓gop_pure, ↓cnd_true, ↓cnd_false, bin_add, bin_sub, bin_mul, bin_lss, bin_leq, bin_gtr, bin_geq, bin_eql, bin_neq, una_not, bin_eql_str, bin_neq_str, ext0, ext1, ext0', ext1', ext2', ext00, pick_and, pick_or, gop_true, gop_false, gop_tf, gop_ft, gop_pure, cnd_true, cnd_false, reduceIte, Bool.true_eq_false, Bool.false_eq_true, Bool.not_true, Bool.not_false, Bool.and_true, Bool.true_and, Bool.and_false, Bool.false_and, Bool.or_true, Bool.true_or, Bool.or_false, Bool.false_or])
      rw [base_eq b, hc] at he
      simp only [Bool.false_eq_true, if_false, Nat.zero_add] at he
      rw [he] at h; exact h
    · (try simp only [len_str u_string, ↓pick_true, ↓pick_false, pick_true, pick_false, ↓gop_undef, gop_undef, ↓bin_add, ↓bin_sub, ↓bin_mul, ↓bin_lss, ↓bin_leq, ↓bin_gtr, ↓bin_geq, ↓bin_eql, ↓bin_neq, ↓una_not, ↓bin_eql_str, ↓bin_neq_str, ↓ext0, ↓ext1, ↓ext0', ↓ext1', ↓ext2', ↓ext00, ↓pick_and, ↓pick_or, ↓gop_true, ↓gop_false, ↓gop_tf, ↓gop_ft, ↓gop_pure, ↓cnd_true, ↓cnd_false, bin_add, bin_sub, bin_mul, bin_lss, bin_leq, bin_gtr, bin_geq, bin_eql, bin_neq, una_not, bin_eql_str, bin_neq_str, ext0, ext1, ext0', ext1', ext2', ext00, pick_and, pick_or, gop_true, gop_false, gop_tf, gop_ft, gop_pure, cnd_true, cnd_false, reduceIte, Bool.true_eq_false, Bool.false_eq_true, Bool.not_true, Bool.not_false, Bool.and_true, Bool.true_and, Bool.and_false, Bool.false_and, Bool.or_true, Bool.true_or, Bool.or_false, Bool.false_or])
      rw [slc_str_hi u_string (by omega) (by omega)]
      rw [show ((b.length : Int) - 2).toNat = b.length - 2 from by omega]
      have hcl := cutA_length hc
      refine ⟨⟨rfl, cutA b, n + 1, ?_, by omega, ?_⟩, ?_⟩
      · simp only [cutA, Prod.mk.injEq, true_and]
        first | rfl | (rw [w64 (by omega) (by omega)]; rfl)
      · rw [he, base_eq b, hc]; simp; omega
      · simp only [DeepM, size_mk, List.length_take]; omega
  · have h1 : decide ((2 : Int) ≤ b.length) = false := by simp only [decide_eq_false_iff_not]; omega
    simp only [h1, ↓pick_true, ↓pick_false, pick_true, pick_false, ↓gop_undef, gop_undef, ↓bin_add, ↓bin_sub, ↓bin_mul, ↓bin_lss, ↓bin_leq, ↓bin_gtr, ↓bin_geq, ↓bin_eql, ↓bin_neq, ↓una_not, ↓bin_eql_str, ↓bin_neq_str, ↓ext0, ↓ext1, ↓ext0', ↓ext1', ↓ext2', ↓ext00, ↓pick_and, ↓pick_or, ↓gop_true, ↓gop_false, ↓gop_tf, ↓gop_ft, ↓gop_pure, ↓cnd_true, ↓cnd_false, bin_add, bin_sub, bin_mul, bin_lss, bin_leq, bin_gtr, bin_geq, bin_eql, bin_neq, una_not, bin_eql_str, bin_neq_str, ext0, ext1, ext0', ext1', ext2', ext00, pick_and, pick_or, gop_true, gop_false, gop_tf, gop_ft, gop_pure, cnd_true, cnd_false, reduceIte, Bool.true_eq_false, Bool.false_eq_true, Bool.not_true, Bool.not_false, Bool.and_true, Bool.true_and, Bool.and_false, Bool.false_and, Bool.or_true, Bool.true_or, Bool.or_false, Bool.false_or]
    have hc : arr b = false := by simp [arr, h2]
    rw [base_eq b, hc] at he
    simp only [Bool.false_eq_true, if_false, Nat.zero_add] at he
    rw [he] at h; exact h)
theorem base_take (a : List UInt8) : a.take (a.length - 2 * (base a).2) = (base a).1 := by
  have key : ∀ n (a : List UInt8), a.take (a.length - 2 * (baseN n a).2) = (baseN n a).1 := by
    intro n
    induction n with
    | zero => intro a; simp [baseN]
    | succ n ih =>
      intro a
      simp only [baseN]
      split
      · rename_i h
        have hc := cutA_length h
        simp only
        rw [← ih (cutA a)]
        rw [cutA, List.take_take, List.length_take]
        congr 1
        omega
      · simp
  exact key _ a
theorem ref_Right (a : List UInt8) (ha : a.length ≤ 140737488355328) (h : K (.bool (right a)) w) : callF P F.squinchref03_Right [S a] w K := r_squinchref03_Right (by
  unfold g_squinchref03_Right
  have hbl := base_le a
  refine ref_Deep a ha ?_
  rw [len_str u_string]
  (try simp only [↓pick_true, ↓pick_false, pick_true, pick_false, ↓gop_undef, gop_undef, ↓bin_add, ↓bin_sub, ↓bin_mul, ↓bin_lss, ↓bin_leq, ↓bin_gtr, ↓bin_geq, ↓bin_eql, ↓bin_neq, ↓una_not, ↓bin_eql_str, ↓bin_neq_str, ↓ext0, ↓ext1, ↓ext0', ↓ext1', ↓ext2', ↓ext00, ↓pick_and, ↓pick_or, ↓gop_true, ↓gop_false, ↓gop_tf, ↓gop_ft, ↓gop_pure, ↓cnd_true, ↓cnd_false, bin_add, bin_sub, bin_mul, bin_lss, bin_leq, bin_gtr, bin_geq, bin_eql, bin_neq, una_not, bin_eql_str, bin_neq_str, ext0, ext1, ext0', ext1', ext2', ext00, pick_and, pick_or, gop_true, gop_false, gop_tf, gop_ft, gop_pure, cnd_true, cnd_false, reduceIte, Bool.true_eq_false, Bool.false_eq_true, Bool.not_true, Bool.not_false, Bool.and_true, Bool.true_and, Bool.and_false, Bool.false_and, Bool.or_true, Bool.true_or, Bool.or_false, Bool.false_or])
  rw [w64 (n := 2 * ((base a).2 : Int)) (by omega) (by omega), w64 (by omega) (by omega), slc_str_hi u_string (by omega) (by omega)]
  rw [show ((a.length : Int) - 2 * ((base a).2 : Int)).toNat = a.length - 2 * (base a).2 from by omega, base_take]
  (try simp only [↓pick_true, ↓pick_false, pick_true, pick_false, ↓gop_undef, gop_undef, ↓bin_add, ↓bin_sub, ↓bin_mul, ↓bin_lss, ↓bin_leq, ↓bin_gtr, ↓bin_geq, ↓bin_eql, ↓bin_neq, ↓una_not, ↓bin_eql_str, ↓bin_neq_str, ↓ext0, ↓ext1, ↓ext0', ↓ext1', ↓ext2', ↓ext00, ↓pick_and, ↓pick_or, ↓gop_true, ↓gop_false, ↓gop_tf, ↓gop_ft, ↓gop_pure, ↓cnd_true, ↓cnd_false, bin_add, bin_sub, bin_mul, bin_lss, bin_leq, bin_gtr, bin_geq, bin_eql, bin_neq, una_not, bin_eql_str, bin_neq_str, ext0, ext1, ext0', ext1', ext2', ext00, pick_and, pick_or, gop_true, gop_false, gop_tf, gop_ft, gop_pure, cnd_true, cnd_false, reduceIte, Bool.true_eq_false, Bool.false_eq_true, Bool.not_true, Bool.not_false, Bool.and_true, Bool.true_and, Bool.and_false, Bool.false_and, Bool.or_true, Bool.true_or, Bool.or_false, Bool.false_or])
  by_cases hn : (base a).2 ≤ 3
  · have h1 : decide (((base a).2 : Int) ≤ 3) = true := by simp only [decide_eq_true_eq]; omega
    simp only [h1, ↓pick_true, ↓pick_false, pick_true, pick_false, ↓gop_undef, gop_undef, ↓bin_add, ↓bin_sub, ↓bin_mul, ↓bin_lss, ↓bin_leq, ↓bin_gtr, ↓bin_geq, ↓bin_eql, ↓bin_neq, ↓una_not, ↓bin_eql_str, ↓bin_neq_str, ↓ext0, ↓ext1, ↓ext0', ↓ext1', ↓ext2', ↓ext00, ↓pick_and, ↓pick_or, ↓gop_true, ↓gop_false, ↓gop_tf, ↓gop_ft, ↓gop_pure, ↓cnd_true, ↓cnd_false, bin_add, bin_sub, bin_mul, bin_lss, bin_leq, bin_gtr, bin_geq, bin_eql, bin_neq, una_not, bin_eql_str, bin_neq_str, ext0, ext1, ext0', ext1', ext2', ext00, pick_and, pick_or, gop_true, gop_false, gop_tf, gop_ft, gop_pure, cnd_true, cnd_false, reduceIte, Bool.true_eq_false, Bool.false_eq_true, Bool.not_true, Bool.not_false, Bool.and_true, Bool.true_and, Bool.and_false, Bool.false_and, Bool.or_true, Bool.true_or, Bool.or_false, Bool.false_or]
    refine ref_Plain _ ?_
    cases hp : plain (base a).1
    · (try simp only [↓pick_true, ↓pick_false, pick_true, pick_false, ↓gop_undef, gop_undef, ↓bin_add, ↓bin_sub, ↓bin_mul, ↓bin_lss, ↓bin_leq, ↓bin_gtr, ↓bin_geq, ↓bin_eql, ↓bin_neq, ↓una_not, ↓bin_eql_str, ↓bin_neq_str, ↓ext0, ↓ext1, ↓ext0', ↓ext1', ↓ext2', ↓ext00, ↓pick_and, ↓pick_or, ↓gop_true, ↓gop_false, ↓gop_tf, ↓gop_ft, ↓gop_pure, ↓cnd_true, ↓cnd_false, bin_add, bin_sub, bin_mul, bin_lss, bin_leq, bin_gtr, bin_geq, bin_eql, bin_neq, una_not, bin_eql_str, bin_neq_str, ext0, ext1, ext0', ext1', ext2', ext00, pick_and, pick_or, gop_true, gop_false, gop_tf, gop_ft, gop_pure, cnd_true, cnd_false, reduceIte, Bool.true_eq_false, Bool.false_eq_true, Bool.not_true, Bool.not_false, Bool.and_true, Bool.true_and, Bool.and_false, Bool.false_and, Bool.or_true, Bool.true_or, Bool.or_false, Bool.false_or])
      refine ref_Class _ (by omega) ?_
      (try simp only [↓pick_true, ↓pick_false, pick_true, pick_false, ↓gop_undef, gop_undef, ↓bin_add, ↓bin_sub, ↓bin_mul, ↓bin_lss, ↓bin_leq, ↓bin_gtr, ↓bin_geq, ↓bin_eql, ↓bin_neq, ↓una_not, ↓bin_eql_str, ↓bin_neq_str, ↓ext0, ↓ext1, ↓ext0', ↓ext1', ↓ext2', ↓ext00, ↓pick_and, ↓pick_or, ↓gop_true, ↓gop_false, ↓gop_tf, ↓gop_ft, ↓gop_pure, ↓cnd_true, ↓cnd_false, bin_add, bin_sub, bin_mul, bin_lss, bin_leq, bin_gtr, bin_geq, bin_eql, bin_neq, una_not, bin_eql_str, bin_neq_str, ext0, ext1, ext0', ext1', ext2', ext00, pick_and, pick_or, gop_true, gop_false, gop_tf, gop_ft, gop_pure, cnd_true, cnd_false, reduceIte, Bool.true_eq_false, Bool.false_eq_true, Bool.not_true, Bool.not_false, Bool.and_true, Bool.true_and, Bool.and_false, Bool.false_and, Bool.or_true, Bool.true_or, Bool.or_false, Bool.false_or])
      simpa [right, hn, hp] using h
    · (try simp only [↓pick_true, ↓pick_false, pick_true, pick_false, ↓gop_undef, gop_undef, ↓bin_add, ↓bin_sub, ↓bin_mul, ↓bin_lss, ↓bin_leq, ↓bin_gtr, ↓bin_geq, ↓bin_eql, ↓bin_neq, ↓una_not, ↓bin_eql_str, ↓bin_neq_str, ↓ext0, ↓ext1, ↓ext0', ↓ext1', ↓ext2', ↓ext00, ↓pick_and, ↓pick_or, ↓gop_true, ↓gop_false, ↓gop_tf, ↓gop_ft, ↓gop_pure, ↓cnd_true, ↓cnd_false, bin_add, bin_sub, bin_mul, bin_lss, bin_leq, bin_gtr, bin_geq, bin_eql, bin_neq, una_not, bin_eql_str, bin_neq_str, ext0, ext1, ext0', ext1', ext2', ext00, pick_and, pick_or, gop_true, gop_false, gop_tf, gop_ft, gop_pure, cnd_true, cnd_false, reduceIte, Bool.true_eq_false, Bool.false_eq_true, Bool.not_true, Bool.not_false, Bool.and_true, Bool.true_and, Bool.and_false, Bool.false_and, Bool.or_true, Bool.true_or, Bool.or_false, Bool.false_or])
      simpa [right, hn, hp] using h
  · have h1 : decide (((base a).2 : Int) ≤ 3) = false := by simp only [decide_eq_false_iff_not]; omega
    simp only [h1, ↓pick_true, ↓pick_false, pick_true, pick_false, ↓gop_undef, gop_undef, ↓bin_add, ↓bin_sub, ↓bin_mul, ↓bin_lss, ↓bin_leq, ↓bin_gtr, ↓bin_geq, ↓bin_eql, ↓bin_neq, ↓una_not, ↓bin_eql_str, ↓bin_neq_str, ↓ext0, ↓ext1, ↓ext0', ↓ext1', ↓ext2', ↓ext00, ↓pick_and, ↓pick_or, ↓gop_true, ↓gop_false, ↓gop_tf, ↓gop_ft, ↓gop_pure, ↓cnd_true, ↓cnd_false, bin_add, bin_sub, bin_mul, bin_lss, bin_leq, bin_gtr, bin_geq, bin_eql, bin_neq, una_not, bin_eql_str, bin_neq_str, ext0, ext1, ext0', ext1', ext2', ext00, pick_and, pick_or, gop_true, gop_false, gop_tf, gop_ft, gop_pure, cnd_true, cnd_false, reduceIte, Bool.true_eq_false, Bool.false_eq_true, Bool.not_true, Bool.not_false, Bool.and_true, Bool.true_and, Bool.and_false, Bool.false_and, Bool.or_true, Bool.true_or, Bool.or_false, Bool.false_or]
    simpa [right, hn] using h)
theorem arr_len {a : List UInt8} (h : arr a = true) : 2 ≤ a.length := by simp only [arr, Bool.and_eq_true, decide_eq_true_eq] at h; exact h.1
theorem right_len {a : List UInt8} (h : arr a = true) (hr : right a = true) : 3 ≤ a.length := by
  have h2 := arr_len h
  refine Nat.lt_of_le_of_ne h2 fun e => ?_
  have hc := cutA_length h
  have hcn : cutA a = [] := List.eq_nil_of_length_eq_zero (by omega)
  simp only [right, base_eq a, h, if_true, hcn] at hr
  revert hr; decide
theorem ref_Elem (a : List UInt8) (ha : a.length ≤ 140737488355328) (h : K (S (elem a)) w) : callF P F.squinchref03_Elem [S a] w K := r_squinchref03_Elem (by
  unfold g_squinchref03_Elem
  rw [len_str u_string]
  (try simp only [↓pick_true, ↓pick_false, pick_true, pick_false, ↓gop_undef, gop_undef, ↓bin_add, ↓bin_sub, ↓bin_mul, ↓bin_lss, ↓bin_leq, ↓bin_gtr, ↓bin_geq, ↓bin_eql, ↓bin_neq, ↓una_not, ↓bin_eql_str, ↓bin_neq_str, ↓ext0, ↓ext1, ↓ext0', ↓ext1', ↓ext2', ↓ext00, ↓pick_and, ↓pick_or, ↓gop_true, ↓gop_false, ↓gop_tf, ↓gop_ft, ↓gop_pure, ↓cnd_true, ↓cnd_false, bin_add, bin_sub, bin_mul, bin_lss, bin_leq, bin_gtr, bin_geq, bin_eql, bin_neq, una_not, bin_eql_str, bin_neq_str, ext0, ext1, ext0', ext1', ext2', ext00, pick_and, pick_or, gop_true, gop_false, gop_tf, gop_ft, gop_pure, cnd_true, cnd_false, reduceIte, Bool.true_eq_false, Bool.false_eq_true, Bool.not_true, Bool.not_false, Bool.and_true, Bool.true_and, Bool.and_false, Bool.false_and, Bool.or_true, Bool.true_or, Bool.or_false, Bool.false_or])
  by_cases h3 : a.length < 3
  · have h1 : decide ((a.length : Int) < 3) = true := by simp only [decide_eq_true_eq]; omega
    simp only [h1, ↓pick_true, ↓pick_false, pick_true, pick_false, ↓gop_undef, gop_undef, ↓bin_add, ↓bin_sub, ↓bin_mul, ↓bin_lss, ↓bin_leq, ↓bin_gtr, ↓bin_geq, ↓bin_eql, ↓bin_neq, ↓una_not, ↓bin_eql_str, ↓bin_neq_str, ↓ext0, ↓ext1, ↓ext0', ↓ext1', ↓ext2', ↓ext00, ↓pick_and, ↓pick_or, ↓gop_true, ↓gop_false, ↓gop_tf, ↓gop_ft, ↓gop_pure, ↓cnd_true, ↓cnd_false, bin_add, bin_sub, bin_mul, bin_lss, bin_leq, bin_gtr, bin_geq, bin_eql, bin_neq, una_not, bin_eql_str, bin_neq_str, ext0, ext1, ext0', ext1', ext2', ext00, pick_and, pick_or, gop_true, gop_false, gop_tf, gop_ft, gop_pure, cnd_true, cnd_false, reduceIte, Bool.true_eq_false, Bool.false_eq_true, Bool.not_true, Bool.not_false, Bool.and_true, Bool.true_and, Bool.and_false, Bool.false_and, Bool.or_true, Bool.true_or, Bool.or_false, Bool.false_or]
    have he : elem a = [] := by
      simp only [elem]
      split
      · rename_i hh
        simp only [Bool.and_eq_true] at hh
        have := right_len hh.1 hh.2
        omega
      · rfl
    rw [he] at h; exact h
  · have h1 : decide ((a.length : Int) < 3) = false := by simp only [decide_eq_false_iff_not]; omega
    simp only [h1, ↓pick_true, ↓pick_false, pick_true, pick_false, ↓gop_undef, gop_undef, ↓bin_add, ↓bin_sub, ↓bin_mul, ↓bin_lss, ↓bin_leq, ↓bin_gtr, ↓bin_geq, ↓bin_eql, ↓bin_neq, ↓una_not, ↓bin_eql_str, ↓bin_neq_str, ↓ext0, ↓ext1, ↓ext0', ↓ext1', ↓ext2', ↓ext00, ↓pick_and, ↓pick_or, ↓gop_true, ↓gop_false, ↓gop_tf, ↓gop_ft, ↓gop_pure, ↓cnd_true, ↓cnd_false, bin_add, bin_sub, bin_mul, bin_lss, bin_leq, bin_gtr, bin_geq, bin_eql, bin_neq, una_not, bin_eql_str, bin_neq_str, ext0, ext1, ext0', ext1', ext2', ext00, pick_and, pick_or, gop_true, gop_false, gop_tf, gop_ft, gop_pure, cnd_true, cnd_false, reduceIte, Bool.true_eq_false, Bool.false_eq_true, Bool.not_true, Bool.not_false, Bool.and_true, Bool.true_and, Bool.and_false, Bool.false_and, Bool.or_true, Bool.true_or, Bool.or_false, Bool.false_or]
    rw [w64 (by omega) (by omega), slc_str_lo u_string (by omega) (by omega)]
    rw [show ((a.length : Int) - 2).toNat = a.length - 2 from by omega]
    have hb : decide (a.drop (a.length - 2) = [91, 93]) = arr a := by simp [arr]; omega
    (try simp only [↓pick_true, ↓pick_false, pick_true, pick_false, ↓gop_undef, gop_undef, ↓bin_add, ↓bin_sub, ↓bin_mul, ↓bin_lss, ↓bin_leq, ↓bin_gtr, ↓bin_geq, ↓bin_eql, ↓bin_neq, ↓una_not, ↓bin_eql_str, ↓bin_neq_str, ↓ext0, ↓ext1, ↓ext0', ↓ext1', ↓ext2', ↓ext00, ↓pick_and, ↓pick_or, ↓gop_true, ↓gop_false, ↓gop_tf, ↓gop_ft, ↓gop_pure, ↓cnd_true, ↓cnd_false, bin_add, bin_sub, bin_mul, bin_lss, bin_leq, bin_gtr, bin_geq, bin_eql, bin_neq, una_not, bin_eql_str, bin_neq_str, ext0, ext1, ext0', ext1', ext2', ext00, pick_and, pick_or, gop_true, gop_false, gop_tf, gop_ft, gop_pure, cnd_true, cnd_false, reduceIte, Bool.true_eq_false, Bool.false_eq_true, Bool.not_true, Bool.not_false, Bool.and_true, Bool.true_and, Bool.and_false, Bool.false_and, Bool.or_true, Bool.true_or, Bool.or_false, Bool.false_or])
    (try simp only [hb, ↓pick_true, ↓pick_false, pick_true, pick_false, ↓gop_undef, gop_undef, ↓bin_add, ↓bin_sub, ↓bin_mul, ↓bin_lss, ↓bin_leq, ↓bin_gtr, ↓bin_geq, ↓bin_eql, ↓bin_neq, ↓una_not, ↓bin_eql_str, ↓bin_neq_str, ↓ext0, ↓ext1, ↓ext0', ↓ext1', ↓ext2', ↓ext00, ↓pick_and, ↓pick_or, ↓gop_true, ↓gop_false, ↓gop_tf, ↓gop_ft, ↓gop_pure, ↓cnd_true, ↓cnd_false, bin_add, bin_sub, bin_mul, bin_lss, bin_leq, bin_gtr, bin_geq, bin_eql, bin_neq, una_not, bin_eql_str, bin_neq_str, ext0, ext1, ext0', ext1', ext2', ext00, pick_and, pick_or, gop_true, gop_false, gop_tf, gop_ft, gop_pure, cnd_true, cnd_false, reduceIte, Bool.true_eq_false, Bool.false_eq_true, Bool.not_true, Bool.not_false, Bool.and_true, Bool.true_and, Bool.and_false, Bool.false_and, Bool.or_true, Bool.true_or, Bool.or_false, Bool.false_or])
    cases hc : arr a
    · (try simp only [↓pick_true, ↓pick_false, pick_true, pick_false, ↓gop_undef, gop_undef, ↓bin_add, ↓bin_sub, ↓bin_mul, ↓bin_lss, ↓bin_leq, ↓bin_gtr, ↓bin_geq, ↓bin_eql, ↓bin_neq, ↓una_not, ↓bin_eql_str, ↓bin_neq_str, ↓ext0, ↓ext1, ↓ext0', ↓ext1', ↓ext2', ↓ext00, ↓pick_and, ↓pick_or, ↓gop_true, ↓gop_false, ↓gop_tf, ↓gop_ft, ↓gop_pure, ↓cnd_true, ↓cnd_false, bin_add, bin_sub, bin_mul, bin_lss, bin_leq, bin_gtr, bin_geq, bin_eql, bin_neq, una_not, bin_eql_str, bin_neq_str, ext0, ext1, ext0', ext1', ext2', ext00, pick_and, pick_or, gop_true, gop_false, gop_tf, gop_ft, gop_pure, cnd_true, cnd_false, reduceIte, Bool.true_eq_false, Bool.false_eq_true, Bool.not_true, Bool.not_false, Bool.and_true, Bool.true_and, Bool.and_false, Bool.false_and, Bool.or_true, Bool.true_or, Bool.or_false, Bool.false_or])
      simpa [elem, hc] using h
    · (try simp only [↓pick_true, ↓pick_false, pick_true, pick_false, ↓gop_undef, gop_undef, ↓bin_add, ↓bin_sub, ↓bin_mul, ↓bin_lss, ↓bin_leq, ↓bin_gtr, ↓bin_geq, ↓bin_eql, ↓bin_neq, ↓una_not, ↓bin_eql_str, ↓bin_neq_str, ↓ext0, ↓ext1, ↓ext0', ↓ext1', ↓ext2', ↓ext00, ↓pick_and, ↓pick_or, ↓gop_true, ↓gop_false, ↓gop_tf, ↓gop_ft, ↓gop_pure, ↓cnd_true, ↓cnd_false, bin_add, bin_sub, bin_mul, bin_lss, bin_leq, bin_gtr, bin_geq, bin_eql, bin_neq, una_not, bin_eql_str, bin_neq_str, ext0, ext1, ext0', ext1', ext2', ext00, pick_and, pick_or, gop_true, gop_false, gop_tf, gop_ft, gop_pure, cnd_true, cnd_false, reduceIte, Bool.true_eq_false, Bool.false_eq_true, Bool.not_true, Bool.not_false, Bool.and_true, Bool.true_and, Bool.and_false, Bool.false_and, Bool.or_true, Bool.true_or, Bool.or_false, Bool.false_or])
      refine ref_Deep a ha ?_
      (try simp only [↓pick_true, ↓pick_false, pick_true, pick_false, ↓gop_undef, gop_undef, ↓bin_add, ↓bin_sub, ↓bin_mul, ↓bin_lss, ↓bin_leq, ↓bin_gtr, ↓bin_geq, ↓bin_eql, ↓bin_neq, ↓una_not, ↓bin_eql_str, ↓bin_neq_str, ↓ext0, ↓ext1, ↓ext0', ↓ext1', ↓ext2', ↓ext00, ↓pick_and, ↓pick_or, ↓gop_true, ↓gop_false, ↓gop_tf, ↓gop_ft, ↓gop_pure, ↓cnd_true, ↓cnd_false, bin_add, bin_sub, bin_mul, bin_lss, bin_leq, bin_gtr, bin_geq, bin_eql, bin_neq, una_not, bin_eql_str, bin_neq_str, ext0, ext1, ext0', ext1', ext2', ext00, pick_and, pick_or, gop_true, gop_false, gop_tf, gop_ft, gop_pure, cnd_true, cnd_false, reduceIte, Bool.true_eq_false, Bool.false_eq_true, Bool.not_true, Bool.not_false, Bool.and_true, Bool.true_and, Bool.and_false, Bool.false_and, Bool.or_true, Bool.true_or, Bool.or_false, Bool.false_or])
      by_cases hn : (base a).2 ≤ 3
      · have h1 : decide ((3 : Int) < ((base a).2 : Int)) = false := by simp only [decide_eq_false_iff_not]; omega
        simp only [h1, ↓pick_true, ↓pick_false, pick_true, pick_false, ↓gop_undef, gop_undef, ↓bin_add, ↓bin_sub, ↓bin_mul, ↓bin_lss, ↓bin_leq, ↓bin_gtr, ↓bin_geq, ↓bin_eql, ↓bin_neq, ↓una_not, ↓bin_eql_str, ↓bin_neq_str, ↓ext0, ↓ext1, ↓ext0', ↓ext1', ↓ext2', ↓ext00, ↓pick_and, ↓pick_or, ↓gop_true, ↓gop_false, ↓gop_tf, ↓gop_ft, ↓gop_pure, ↓cnd_true, ↓cnd_false, bin_add, bin_sub, bin_mul, bin_lss, bin_leq, bin_gtr, bin_geq, bin_eql, bin_neq, una_not, bin_eql_str, bin_neq_str, ext0, ext1, ext0', ext1', ext2', ext00, pick_and, pick_or, gop_true, gop_false, gop_tf, gop_ft, gop_pure, cnd_true, cnd_false, reduceIte, Bool.true_eq_false, Bool.false_eq_true, Bool.not_true, Bool.not_false, Bool.and_true, Bool.true_and, Bool.and_false, Bool.false_and, Bool.or_true, Bool.true_or, Bool.or_false, Bool.false_or]
        refine ref_Right a ha ?_
        cases hr : right a
        · (try simp only [↓pick_true, ↓pick_false, pick_true, pick_false, ↓gop_undef, gop_undef, ↓bin_add, ↓bin_sub, ↓bin_mul, ↓bin_lss, ↓bin_leq, ↓bin_gtr, ↓bin_geq, ↓bin_eql, ↓bin_neq, ↓una_not, ↓bin_eql_str, ↓bin_neq_str, ↓ext0, ↓ext1, ↓ext0', ↓ext1', ↓ext2', ↓ext00, ↓pick_and, ↓pick_or, ↓gop_true, ↓gop_false, ↓gop_tf, ↓gop_ft, ↓gop_pure, ↓cnd_true, ↓cnd_false, bin_add, bin_sub, bin_mul, bin_lss, bin_leq, bin_gtr, bin_geq, bin_eql, bin_neq, una_not, bin_eql_str, bin_neq_str, ext0, ext1, ext0', ext1', ext2', ext00, pick_and, pick_or, gop_true, gop_false, gop_tf, gop_ft, gop_pure, cnd_true, cnd_false, reduceIte, Bool.true_eq_false, Bool.false_eq_true, Bool.not_true, Bool.not_false, Bool.and_true, Bool.true_and, Bool.and_false, Bool.false_and, Bool.or_true, Bool.true_or, Bool.or_false, Bool.false_or])
          simpa [elem, hc, hr] using h
        · (try simp only [↓pick_true, ↓pick_false, pick_true, pick_false, ↓gop_undef, gop_undef, ↓bin_add, ↓bin_sub, ↓bin_mul, ↓bin_lss, ↓bin_leq, ↓bin_gtr, ↓bin_geq, ↓bin_eql, ↓bin_neq, ↓una_not, ↓bin_eql_str, ↓bin_neq_str, ↓ext0, ↓ext1, ↓ext0', ↓ext1', ↓ext2', ↓ext00, ↓pick_and, ↓pick_or, ↓gop_true, ↓gop_false, ↓gop_tf, ↓gop_ft, ↓gop_pure, ↓cnd_true, ↓cnd_false, bin_add, bin_sub, bin_mul, bin_lss, bin_leq, bin_gtr, bin_geq, bin_eql, bin_neq, una_not, bin_eql_str, bin_neq_str, ext0, ext1, ext0', ext1', ext2', ext00, pick_and, pick_or, gop_true, gop_false, gop_tf, gop_ft, gop_pure, cnd_true, cnd_false, reduceIte, Bool.true_eq_false, Bool.false_eq_true, Bool.not_true, Bool.not_false, Bool.and_true, Bool.true_and, Bool.and_false, Bool.false_and, Bool.or_true, Bool.true_or, Bool.or_false, Bool.false_or])
          try rw [w64 (by omega) (by omega)]
          rw [slc_str_hi u_string (by omega) (by omega)]
          rw [show ((a.length : Int) - 2).toNat = a.length - 2 from by omega]
          simpa [elem, hc, hr, cutA] using h
      · have h1 : decide ((3 : Int) < ((base a).2 : Int)) = true := by simp only [decide_eq_true_eq]; omega
        simp only [h1, ↓pick_true, ↓pick_false, pick_true, pick_false, ↓gop_undef, gop_undef, ↓bin_add, ↓bin_sub, ↓bin_mul, ↓bin_lss, ↓bin_leq, ↓bin_gtr, ↓bin_geq, ↓bin_eql, ↓bin_neq, ↓una_not, ↓bin_eql_str, ↓bin_neq_str, ↓ext0, ↓ext1, ↓ext0', ↓ext1', ↓ext2', ↓ext00, ↓pick_and, ↓pick_or, ↓gop_true, ↓gop_false, ↓gop_tf, ↓gop_ft, ↓gop_pure, ↓cnd_true, ↓cnd_false, bin_add, bin_sub, bin_mul, bin_lss, bin_leq, bin_gtr, bin_geq, bin_eql, bin_neq, una_not, bin_eql_str, bin_neq_str, ext0, ext1, ext0', ext1', ext2', ext00, pick_and, pick_or, gop_true, gop_false, gop_tf, gop_ft, gop_pure, cnd_true, cnd_false, reduceIte, Bool.true_eq_false, Bool.false_eq_true, Bool.not_true, Bool.not_false, Bool.and_true, Bool.true_and, Bool.and_false, Bool.false_and, Bool.or_true, Bool.true_or, Bool.or_false, Bool.false_or]
        have hr : right a = false := by simp [right, hn]
        simpa [elem, hc, hr] using h)
def PartsI (a : List UInt8) (w : World) (x : Value) (w' : World) : Prop :=
  w = w' ∧ ∃ n : Nat, x = I n ∧ n ≤ a.length ∧ (∀ i, (h : i < n) → (h' : i < a.length) → a[i] ≠ 46)
def PartsM (a : List UInt8) (x : Value) : Nat := match x with | .int _ n => (a.length - n).toNat | _ => 0
theorem ref_Parts (a : List UInt8) (ha : a.length ≤ 140737488355328) (h : ∀ w', Below w.heap.size w w' → K (if (dot a).2.2 then .tuple #[S (dot a).1, S (dot a).2.1, .bool (isParts a)] else .tuple #[S [], S [], .bool false]) w') : callF P F.squinchref03_Parts [S a] w K := r_squinchref03_Parts (by
  unfold g_squinchref03_Parts
  refine lp_mk (PartsI a w) (fun x _ => PartsM a x) ⟨rfl, 0, rfl, by omega, by omega⟩ ?_
  rintro _ _ _ ⟨rfl, n, rfl, hn, hb⟩
  rw [len_str u_string]
  (try simp only [↓pick_true, ↓pick_false, pick_true, pick_false, ↓gop_undef, gop_undef, ↓bin_add, ↓bin_sub, ↓bin_mul, ↓bin_lss, ↓bin_leq, ↓bin_gtr, ↓bin_geq, ↓bin_eql, ↓bin_neq, ↓una_not, ↓bin_eql_str, ↓bin_neq_str, ↓ext0, ↓ext1, ↓ext0', ↓ext1', ↓ext2', ↓ext00, ↓pick_and, ↓pick_or, ↓gop_true, ↓gop_false, ↓gop_tf, ↓gop_ft, ↓gop_pure, ↓cnd_true, ↓cnd_false, bin_add, bin_sub, bin_mul, bin_lss, bin_leq, bin_gtr, bin_geq, bin_eql, bin_neq, una_not, bin_eql_str, bin_neq_str, ext0, ext1, ext0', ext1', ext2', ext00, pick_and, pick_or, gop_true, gop_false, gop_tf, gop_ft, gop_pure, cnd_true, cnd_false, reduceIte, Bool.true_eq_false, Bool.false_eq_true, Bool.not_true, Bool.not_false, Bool.and_true, Bool.true_and, Bool.and_false, Bool.false_and, Bool.or_true, Bool.true_or, Bool.or_false, Bool.false_or])
  by_cases h2 : n < a.length
  · have h1 : decide ((n : Int) < a.length) = true := by simp only [decide_eq_true_eq]; omega
    simp only [h1, ↓pick_true, ↓pick_false, pick_true, pick_false, ↓gop_undef, gop_undef, ↓bin_add, ↓bin_sub, ↓bin_mul, ↓bin_lss, ↓bin_leq, ↓bin_gtr, ↓bin_geq, ↓bin_eql, ↓bin_neq, ↓una_not, ↓bin_eql_str, ↓bin_neq_str, ↓ext0, ↓ext1, ↓ext0', ↓ext1', ↓ext2', ↓ext00, ↓pick_and, ↓pick_or, ↓gop_true, ↓gop_false, ↓gop_tf, ↓gop_ft, ↓gop_pure, ↓cnd_true, ↓cnd_false, bin_add, bin_sub, bin_mul, bin_lss, bin_leq, bin_gtr, bin_geq, bin_eql, bin_neq, una_not, bin_eql_str, bin_neq_str, ext0, ext1, ext0', ext1', ext2', ext00, pick_and, pick_or, gop_true, gop_false, gop_tf, gop_ft, gop_pure, cnd_true, cnd_false, reduceIte, Bool.true_eq_false, Bool.false_eq_true, Bool.not_true, Bool.not_false, Bool.and_true, Bool.true_and, Bool.and_false, Bool.false_and, Bool.or_true, Bool.true_or, Bool.or_false, Bool.false_or]
    rw [idx_str u_string (by omega) (by omega)]
    (try simp only [↓pick_true, ↓pick_false, pick_true, pick_false, ↓gop_undef, gop_undef, ↓bin_add, ↓bin_sub, ↓bin_mul, ↓bin_lss, ↓bin_leq, ↓bin_gtr, ↓bin_geq, ↓bin_eql, ↓bin_neq, ↓una_not, ↓bin_eql_str, ↓bin_neq_str, ↓ext0, ↓ext1, ↓ext0', ↓ext1', ↓ext2', ↓ext00, ↓pick_and, ↓pick_or, ↓gop_true, ↓gop_false, ↓gop_tf, ↓gop_ft, ↓gop_pure, ↓cnd_true, ↓cnd_false, bin_add, bin_sub, bin_mul, bin_lss, bin_leq, bin_gtr, bin_geq, bin_eql, bin_neq, una_not, bin_eql_str, bin_neq_str, ext0, ext1, ext0', ext1', ext2', ext00, pick_and, pick_or, gop_true, gop_false, gop_tf, gop_ft, gop_pure, cnd_true, cnd_false, reduceIte, Bool.true_eq_false, Bool.false_eq_true, Bool.not_true, Bool.not_false, Bool.and_true, Bool.true_and, Bool.and_false, Bool.false_and, Bool.or_true, Bool.true_or, Bool.or_false, Bool.false_or])
    simp only [Int.toNat_natCast]
    have hc : decide (((a[n]).toNat : Int) = 46) = decide (a[n] = 46) := by
      rw [Bool.eq_iff_iff]; simp only [decide_eq_true_eq]
      constructor
      · intro e; exact UInt8.toNat_inj.1 (by have : (46 : UInt8).toNat = 46 := rfl; omega)
      · intro e; rw [e]; rfl
    rw [hc]
    by_cases he : a[n] = 46
    · simp only [he, decide_true, ↓pick_true, ↓pick_false, pick_true, pick_false, ↓gop_undef, gop_undef, ↓bin_add, ↓bin_sub, ↓bin_mul, ↓bin_lss, ↓bin_leq, ↓bin_gtr, ↓bin_geq, ↓bin_eql, ↓bin_neq, ↓una_not, ↓bin_eql_str, ↓bin_neq_str, ↓ext0, ↓ext1, ↓ext0', ↓ext1', ↓ext2', ↓ext00, ↓pick_and, ↓pick_or, ↓gop_true, ↓gop_false, ↓gop_tf, ↓gop_ft, ↓gop_pure, ↓cnd_true, ↓cnd_false, bin_add, bin_sub, bin_mul, bin_lss, bin_leq, bin_gtr, bin_geq, bin_eql, bin_neq, una_not, bin_eql_str, bin_neq_str, ext0, ext1, ext0', ext1', ext2', ext00, pick_and, pick_or, gop_true, gop_false, gop_tf, gop_ft, gop_pure, cnd_true, cnd_false, reduceIte, Bool.true_eq_false, Bool.false_eq_true, Bool.not_true, Bool.not_false, Bool.and_true, Bool.true_and, Bool.and_false, Bool.false_and, Bool.or_true, Bool.true_or, Bool.or_false, Bool.false_or]
      have hd : dot a = (a.take n, a.drop (n + 1), true) := by
        have : a.findIdx? (fun b => decide (b = 46)) = some n := by
          rw [List.findIdx?_eq_some_iff_getElem]
          exact ⟨h2, by simpa using he, fun j hj => by simpa using hb j hj (by omega)⟩
        rw [dot_find, this]; rfl
      have hip : isParts a = (clas (a.take n) && member (a.drop (n + 1))) := by simp [isParts, hd]
      rw [hd, hip] at h
      have hn1 : ((n : Int) + 1).toNat = n + 1 := by omega
      have hpl : (a.take n).length ≤ 140737488355328 := by simp only [List.length_take]; omega
      have hql : (a.drop (n + 1)).length ≤ 140737488355328 := by simp only [List.length_drop]; omega
      have A1 : ∀ {w : World} {K : Value → World → Prop}, K (S (a.take n)) w → slc P T.string (S a) none (some (I n)) none w K := by
        intro w K h
        rw [slc_str_hi u_string (by omega) (by omega), show ((n : Int)).toNat = n from by omega]; exact h
      have A2 : ∀ {w : World} {K : Value → World → Prop}, K (S (a.drop (n + 1))) w → slc P T.string (S a) (some (I (n + 1))) none none w K := by
        intro w K h
        rw [slc_str_lo u_string (by omega) (by omega), hn1]; exact h
      refine dr_below (Below.refl _ _) ?_
      refine dop_val (S (a.take n)) (fun w hw => A1 (dk_same rfl)) ?_
      refine dop_val (I (n + 1)) (fun w hw => dk_same (by rw [w64 (by omega) (by omega)])) ?_
      refine dop_val (S (a.drop (n + 1))) (fun t w hw e => by rw [e]; exact A2 (dk_same rfl)) ?_
      refine dop_val (S (a.take n)) (fun w hw => A1 (dk_same rfl)) ?_
      refine dop_val (.bool (clas (a.take n))) (fun t w hw e => by rw [e]; exact ref_Class _ hpl (dk_same rfl)) ?_
      cases hcl : clas (a.take n)
      · refine dop_val undef (fun t w hw e => by rw [e, gop_ft]; exact dk_same rfl) ?_
        refine dop_val undef (fun t w hw e => by rw [e, gop_ft]; exact dk_same rfl) ?_
        refine dop_val undef (fun t t' w hw e e' => by rw [e, gop_ft]; exact dk_same rfl) ?_
        refine dop_val undef (fun t t' t'' w hw e e' e'' => by rw [e, gop_ft]; exact dk_same rfl) ?_
        refine dop_val undef (fun t t' w hw e e' => by rw [e, gop_ft]; exact dk_same rfl) ?_
        refine dop_val (.bool false) (fun t t' w hw e e' => by rw [e, pick_false]; exact dk_same rfl) ?_
        rintro _ _ _ _ _ _ _ _ _ _ _ w1 hw rfl rfl rfl rfl rfl rfl rfl rfl rfl rfl rfl
        rw [hcl] at h
        exact h w1 (by simpa using hw)
      · refine dop_val (S a) (fun t w hw e => by rw [e, gop_true]; exact dk_same rfl) ?_
        refine dop_val (I n) (fun t w hw e => by rw [e, gop_true]; exact dk_same rfl) ?_
        refine dop_val (I (n + 1)) (fun t t' w hw e e' => by rw [e, e', gop_true]; simp only [↓pick_true, ↓pick_false, pick_true, pick_false, ↓gop_undef, gop_undef, ↓bin_add, ↓bin_sub, ↓bin_mul, ↓bin_lss, ↓bin_leq, ↓bin_gtr, ↓bin_geq, ↓bin_eql, ↓bin_neq, ↓una_not, ↓bin_eql_str, ↓bin_neq_str, ↓ext0, ↓ext1, ↓ext0', ↓ext1', ↓ext2', ↓ext00, ↓pick_and, ↓pick_or, ↓gop_true, ↓gop_false, ↓gop_tf, ↓gop_ft, ↓gop_pure, ↓cnd_true, ↓cnd_false, bin_add, bin_sub, bin_mul, bin_lss, bin_leq, bin_gtr, bin_geq, bin_eql, bin_neq, una_not, bin_eql_str, bin_neq_str, ext0, ext1, ext0', ext1', ext2', ext00, pick_and, pick_or, gop_true, gop_false, gop_tf, gop_ft, gop_pure, cnd_true, cnd_false, reduceIte, Bool.true_eq_false, Bool.false_eq_true, Bool.not_true, Bool.not_false, Bool.and_true, Bool.true_and, Bool.and_false, Bool.false_and, Bool.or_true, Bool.true_or, Bool.or_false, Bool.false_or]; exact dk_same (by rw [w64 (by omega) (by omega)])) ?_
        refine dop_val (S (a.drop (n + 1))) (fun t t' t'' w hw e e' e'' => by rw [e, e', e'', gop_true]; exact A2 (dk_same rfl)) ?_
        refine dop_val (.bool (member (a.drop (n + 1)))) (fun t t' w hw e e' => by rw [e, e', gop_true]; exact ref_Member _ hql (dk_same rfl)) ?_
        refine dop_val (.bool (member (a.drop (n + 1)))) (fun t t' w hw e e' => by rw [e, e', pick_true]; exact dk_same rfl) ?_
        rintro _ _ _ _ _ _ _ _ _ _ _ w1 hw rfl rfl rfl rfl rfl rfl rfl rfl rfl rfl rfl
        rw [hcl] at h
        exact h w1 (by simpa using hw)
    · simp only [he, decide_false, ↓pick_true, ↓pick_false, pick_true, pick_false, ↓gop_undef, gop_undef, ↓bin_add, ↓bin_sub, ↓bin_mul, ↓bin_lss, ↓bin_leq, ↓bin_gtr, ↓bin_geq, ↓bin_eql, ↓bin_neq, ↓una_not, ↓bin_eql_str, ↓bin_neq_str, ↓ext0, ↓ext1, ↓ext0', ↓ext1', ↓ext2', ↓ext00, ↓pick_and, ↓pick_or, ↓gop_true, ↓gop_false, ↓gop_tf, ↓gop_ft, ↓gop_pure, ↓cnd_true, ↓cnd_false, bin_add, bin_sub, bin_mul, bin_lss, bin_leq, bin_gtr, bin_geq, bin_eql, bin_neq, una_not, bin_eql_str, bin_neq_str, ext0, ext1, ext0', ext1', ext2', ext00, pick_and, pick_or, gop_true, gop_false, gop_tf, gop_ft, gop_pure, cnd_true, cnd_false, reduceIte, Bool.true_eq_false, Bool.false_eq_true, Bool.not_true, Bool.not_false, Bool.and_true, Bool.true_and, Bool.and_false, Bool.false_and, Bool.or_true, Bool.true_or, Bool.or_false, Bool.false_or]
      rw [w64 (by omega) (by omega)]
      refine ⟨⟨rfl, n + 1, rfl, by omega, fun i hi h' => ?_⟩, ?_⟩
      · by_cases hin : i = n
        · subst hin; exact he
        · exact hb i (by omega) h'
      · simp only [PartsM]; omega
  · have h1 : decide ((n : Int) < a.length) = false := by simp only [decide_eq_false_iff_not]; omega
    simp only [h1, ↓pick_true, ↓pick_false, pick_true, pick_false, ↓gop_undef, gop_undef, ↓bin_add, ↓bin_sub, ↓bin_mul, ↓bin_lss, ↓bin_leq, ↓bin_gtr, ↓bin_geq, ↓bin_eql, ↓bin_neq, ↓una_not, ↓bin_eql_str, ↓bin_neq_str, ↓ext0, ↓ext1, ↓ext0', ↓ext1', ↓ext2', ↓ext00, ↓pick_and, ↓pick_or, ↓gop_true, ↓gop_false, ↓gop_tf, ↓gop_ft, ↓gop_pure, ↓cnd_true, ↓cnd_false, bin_add, bin_sub, bin_mul, bin_lss, bin_leq, bin_gtr, bin_geq, bin_eql, bin_neq, una_not, bin_eql_str, bin_neq_str, ext0, ext1, ext0', ext1', ext2', ext00, pick_and, pick_or, gop_true, gop_false, gop_tf, gop_ft, gop_pure, cnd_true, cnd_false, reduceIte, Bool.true_eq_false, Bool.false_eq_true, Bool.not_true, Bool.not_false, Bool.and_true, Bool.true_and, Bool.and_false, Bool.false_and, Bool.or_true, Bool.true_or, Bool.or_false, Bool.false_or]
    have hd : (dot a).2.2 = false ∧ (dot a).1 = a ∧ (dot a).2.1 = [] := by
      have : a.findIdx? (fun b => decide (b = 46)) = none := by
        rw [List.findIdx?_eq_none_iff]
        intro x hx
        obtain ⟨i, hi, rfl⟩ := List.getElem_of_mem hx
        simpa using hb i (by omega) hi
      rw [dot_find, this]; exact ⟨rfl, rfl, rfl⟩
    rw [hd.1] at h
    exact h w (Below.refl _ _))
end Go.Proofs.Ytcailbfhljoppaa
