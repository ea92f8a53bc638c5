/- Parts of a proof about the given program: its functions as texts of their own, what each computes, plain laws of that. The conditions of each stand in its statement. -/
import Derived.Test.YtdnfaboigajkhaaGreatDoorB5
import Derived.Test.YtdnfaboigajkhaaGreatDoorB4
import Derived.Test.YtdnfaboigajkhaaGreatDoorRows
import Derived.Test.YtdnfaboigajkhaaGreatDoorB3
import Derived.WalkKit
import Derived.ProofKit
import Derived.OpenShut
import Derived.ShutString
import Derived.ChangeOld
import Derived.Below
import Derived.SizedLaws
import Derived.Lay
import Derived.Carry
import Derived.MakeChecks
import Derived.PinnedBridge
set_option linter.unnecessarySimpa false
set_option linter.defProp false
set_option linter.unusedSectionVars false
set_option linter.unusedVariables false
set_option linter.unusedSimpArgs false
namespace Go.Proofs.YtdnfaboigajkhaaGreatDoor
open Go.Emb Go.RowKit Go.Kd Go.Hm
variable {w : World} {K : Value → World → Prop} {σ : Q6} {l : List Cla} {v : Value}
theorem Q4H : (S1 l).length = l.length := by simp [S1]
theorem Q5U {i : Nat} (hi : i < (S1 l).length) : (S1 l)[i] = (List.range l.length).map fun j => P5 l (X9 l i) (X9 l j) := by simp [S1]
theorem Sl.elB {xs : List (List Bool)} {v : Value} (h : Sl 1 Q2c σ v xs) {i : Nat} (hi : i < xs.length) : ∃ u, J4 σ (Bg 1 v i) [u] ∧ Sl 1 Ay σ u xs[i] := by
  obtain ⟨cs, h1, h2, u, rfl, h4⟩ := h.el hi; exact ⟨u, h1, h4⟩
theorem Sl.elb {xs : List Bool} {v : Value} (h : Sl 1 Ay σ v xs) {i : Nat} (hi : i < xs.length) : J4 σ (Bg 1 v i) [.bool xs[i]] := by
  obtain ⟨cs, h1, h2, h3⟩ := h.el hi
  have h3 : cs = _ := h3
  subst h3; exact h1
theorem Pe {a b : X0} (hs : X6 w σ) (hv : Sl 8 V0 σ v (Q5 l)) (wf : Wf l) (ok : Ok (Q5 l)) (hlen : (Q5 l).length ≤ 1000) (ha : a.length ≤ V9) (hb : b.length ≤ V9) (h : ∀ w' σ', Stp w σ w' σ' → K (.bool (subM (Q5 l) a b)) w') : Q1 P F.aa [v, S a, S b] w K := Iz (by
  unfold Lp
  have h0 : ∀ r, subM (Q5 l) a b = r → K (.bool r) w := fun r e => by rw [← e]; exact h _ _ (Stp.refl hs)
  refine Yr hs hv ha ?_
  cases hka : kindM (Q5 l) a with
  | false =>
    have hf : subM (Q5 l) a b = false := by unfold subM; simp [hka]
    (try simp only [↓Mm, Mm, ↓Mr, Mr, Mb, reduceIte])
    by_cases e : a = b
    · have he : decide (a = b) = true := by simpa using e
      simp only [he, ↓Mm, Mm, ↓Mr, Mr, Mb, reduceIte]
      refine Yr hs hv ha ?_
      rw [hka]
      (try simp only [↓Mm, Mm, ↓Mr, Mr, Mb, reduceIte])
      exact h0 _ hf
    · have he : decide (a = b) = false := by simpa using e
      simp only [he, ↓Mm, Mm, ↓Mr, Mr, Mb, reduceIte]
      exact h0 _ hf
  | true =>
  (try simp only [↓Mm, Mm, ↓Mr, Mr, Mb, reduceIte])
  refine Yr hs hv hb ?_
  cases hkb : kindM (Q5 l) b with
  | false =>
    have hf : subM (Q5 l) a b = false := by unfold subM; simp [hkb]
    have he : decide (a = b) = false := by
      rw [decide_eq_false_iff_not]; rintro rfl; rw [hka] at hkb; cases hkb
    simp only [he, ↓Mm, Mm, ↓Mr, Mr, Mb, reduceIte]
    exact h0 _ hf
  | true =>
  (try simp only [↓Mm, Mm, ↓Mr, Mr, Mb, reduceIte])
  by_cases e : a = b
  · have he : decide (a = b) = true := by simpa using e
    simp only [he, ↓Mm, Mm, ↓Mr, Mr, Mb, reduceIte]
    refine Yr hs hv ha ?_
    rw [hka]
    (try simp only [↓Mm, Mm, ↓Mr, Mr, Mb, reduceIte])
    exact h0 _ (wf.sub_iff.2 ⟨hka, hkb, .inl e⟩)
  have he : decide (a = b) = false := by simpa using e
  simp only [he, ↓Mm, Mm, ↓Mr, Mr, Mb, reduceIte]
  refine Yc _ ?_
  have hfalse : (∀ (_ : plain a = false ∧ plain b = false ∧ (a = B6 ∨ (Jr a ≠ [] ∧ b = U1) ∨ (lk (Q5 l) a ≠ none ∧ Hm.Reach (lk (Q5 l)) a b))), False) → K (.bool false) w := fun hx => h0 _ (eq_false_of_ne_true fun ht => by
    obtain ⟨_, _, h3⟩ := wf.sub_iff.1 ht
    rcases h3 with h3 | h3
    · exact e h3
    · exact hx h3)
  cases hpa : plain a with
  | true => (try simp only [↓Mm, Mm, ↓Mr, Mr, Mb, reduceIte]); exact hfalse fun hx => by rw [hpa] at hx; cases hx.1
  | false =>
  (try simp only [↓Mm, Mm, ↓Mr, Mr, Mb, reduceIte])
  refine Yc _ ?_
  cases hpb : plain b with
  | true => (try simp only [↓Mm, Mm, ↓Mr, Mr, Mb, reduceIte]); exact hfalse fun hx => by rw [hpb] at hx; cases hx.2.1
  | false =>
  (try simp only [↓Mm, Mm, ↓Mr, Mr, Mb, reduceIte])
  by_cases hn : b = B6
  · have he : decide (b = [110, 117, 108, 108]) = true := by rw [decide_eq_true_eq]; exact hn
    simp only [he, ↓Mm, Mm, ↓Mr, Mr, Mb, reduceIte]
    refine hfalse fun ⟨_, _, hx⟩ => ?_
    rcases hx with hx | ⟨_, hx⟩ | ⟨_, hx⟩
    · exact e (hx.trans hn.symm)
    · rw [hn] at hx; exact absurd hx (by decide)
    · obtain ⟨d, hd⟩ := hx.right
      rw [hn, wf.none_null] at hd; cases hd
  have hen : decide (b = [110, 117, 108, 108]) = false := by rw [decide_eq_false_iff_not]; exact hn
  simp only [hen, ↓Mm, Mm, ↓Mr, Mr, Mb, reduceIte]
  by_cases hna : a = B6
  · have he : decide (a = [110, 117, 108, 108]) = true := by rw [decide_eq_true_eq]; exact hna
    simp only [he, ↓Mm, Mm, ↓Mr, Mr, Mb, reduceIte]
    exact h0 _ (wf.sub_iff.2 ⟨hka, hkb, .inr ⟨hpa, hpb, .inl hna⟩⟩)
  have hena : decide (a = [110, 117, 108, 108]) = false := by rw [decide_eq_false_iff_not]; exact hna
  simp only [hena, ↓Mm, Mm, ↓Mr, Mr, Mb, reduceIte]
  by_cases hr : b = U1
  · have he : decide (b = [79, 98, 106, 101, 99, 116]) = true := by rw [decide_eq_true_eq]; exact hr
    simp only [he, ↓Mm, Mm, ↓Mr, Mr, Mb, reduceIte]
    exact h0 _ (by rw [hr]; exact wf.sub_root hka hpa)
  have her : decide (b = [79, 98, 106, 101, 99, 116]) = false := by rw [decide_eq_false_iff_not]; exact hr
  simp only [her, ↓Mm, Mm, ↓Mr, Mr, Mb, reduceIte]
  refine H7 hs hv ?_
  refine H7 hs hv ?_
  refine Yz ?_
  rw [F2]
  cases hfa : Y3 (Q5 l) a with
  | none =>
    simp only [Option.isSome_none, ↓Mm, Mm, ↓Mr, Mr, Mb, reduceIte]
    refine hfalse fun ⟨_, _, hx⟩ => ?_
    rcases hx with hx | ⟨_, hx⟩ | ⟨hx, _⟩
    · exact hna hx
    · exact hr hx
    · exact hx (by unfold lk; rw [hfa]; rfl)
  | some i =>
  simp only [Option.isSome_some, ↓Mm, Mm, ↓Mr, Mr, Mb, reduceIte]
  cases hfb : Y3 (Q5 l) b with
  | none =>
    simp only [F2, Option.isSome_none, ↓Mm, Mm, ↓Mr, Mr, Mb, reduceIte]
    refine hfalse fun ⟨_, _, hx⟩ => ?_
    rcases hx with hx | ⟨_, hx⟩ | ⟨_, hx⟩
    · exact hna hx
    · exact hr hx
    · obtain ⟨d, hd⟩ := hx.right
      unfold lk at hd; rw [hfb] at hd; cases hd
  | some j =>
  obtain ⟨hi, hni⟩ := D6 hfa
  obtain ⟨hj, hnj⟩ := D6 hfb
  simp only [F2, Option.isSome_some, ↓Mm, Mm, ↓Mr, Mr, Mb, reduceIte]
  simp only [W8]
  refine Kn hs hv wf.own (by omega) hlen ok.sm fun v1 w1 σ1 hk1 hv1 => ?_
  have hi1 : i < (S1 (Q5 l)).length := by rw [Q4H]; exact hi
  refine Z1 hv1 hi1 ?_
  obtain ⟨u, p1, hu⟩ := Sl.elB hv1 hi1
  refine X7 hk1.sat p1 rfl ?_
  rw [Q5U hi1] at hu
  have hj1 : j < ((List.range (Q5 l).length).map fun j => P5 (Q5 l) (X9 (Q5 l) i) (X9 (Q5 l) j)).length := by simpa using hj
  refine Z1 hu hj1 ?_
  refine X7 hk1.sat (Sl.elb hu hj1) rfl ?_
  (try simp only [↓Mm, Mm, ↓Mr, Mr, Mb, reduceIte])
  simp only [List.getElem_map, List.getElem_range, hni, hnj]
  have hsub : subM (Q5 l) a b = P5 (Q5 l) a b := by
    obtain ⟨ca, hca, _⟩ := Xc hfa
    rw [Bool.eq_iff_iff, wf.sub_class hca, Yo, Iu]
    constructor
    · rintro (⟨hx, _⟩ | hx)
      · exact absurd hx e
      · exact hx
    · exact .inr
  rw [← hsub]
  exact h _ _ hk1)
end Go.Proofs.YtdnfaboigajkhaaGreatDoor

namespace Go.Proofs.YtdnfaboigajkhaaGreatDoor
open Go.Emb Go.RowKit Go.Kd Go.Hm
variable {w : World} {K : Value → World → Prop} {σ : Q6} {l : List Cla} {v : Value}
theorem Q6E {a b : X0} (hs : X6 w σ) (hv : Sl 8 V0 σ v (Q5 l)) (wf : Wf l) (ok : Ok (Q5 l)) (hlen : (Q5 l).length ≤ 1000) (ha : a.length ≤ V9) (hb : b.length ≤ V9) (h : ∀ w' σ', Stp w σ w' σ' → K (S (Cz (Q5 l) a b)) w') : Q1 P F.bd [v, S a, S b] w K := Bq (by
  unfold Wn
  unfold Cz at h
  refine Pe hs hv wf ok hlen ha hb fun w1 σ1 hk1 => ?_
  cases h1 : subM (Q5 l) a b with
  | true =>
    (try simp only [↓Mm, Mm, ↓Mr, Mr, Mb, reduceIte])
    simp only [h1, if_true] at h
    exact h _ _ hk1
  | false =>
  simp only [h1, Bool.false_eq_true, if_false] at h
  (try simp only [↓Mm, Mm, ↓Mr, Mr, Mb, reduceIte])
  have hv1 := hv.up hk1
  refine Pe hk1.sat hv1 wf ok hlen hb ha fun w2 σ2 hk2 => ?_
  have hS2 := hk1.trans hk2
  have hv2 := hv1.up hk2
  cases h2 : subM (Q5 l) b a with
  | true =>
    (try simp only [↓Mm, Mm, ↓Mr, Mr, Mb, reduceIte])
    simp only [h2, if_true] at h
    exact h _ _ hS2
  | false =>
  simp only [h2, Bool.false_eq_true, if_false] at h
  (try simp only [↓Mm, Mm, ↓Mr, Mr, Mb, reduceIte])
  have hs2 := hS2.sat
  have hK := fun r (e : _ = r) => (Eq.subst (motive := fun r => K (S r) w2) e (h _ _ hS2))
  refine Yr hs2 hv2 ha ?_
  cases h3 : kindM (Q5 l) a with
  | false => (try simp only [↓Mm, Mm, ↓Mr, Mr, Mb, reduceIte]); exact hK _ (by simp [h3])
  | true =>
  (try simp only [↓Mm, Mm, ↓Mr, Mr, Mb, reduceIte])
  refine Yr hs2 hv2 hb ?_
  cases h4 : kindM (Q5 l) b with
  | false => (try simp only [↓Mm, Mm, ↓Mr, Mr, Mb, reduceIte]); exact hK _ (by simp [h4])
  | true =>
  (try simp only [↓Mm, Mm, ↓Mr, Mr, Mb, reduceIte])
  refine Yc _ ?_
  cases h5 : plain a with
  | true => (try simp only [↓Mm, Mm, ↓Mr, Mr, Mb, reduceIte]); exact hK _ (by simp [h5])
  | false =>
  (try simp only [↓Mm, Mm, ↓Mr, Mr, Mb, reduceIte])
  refine Yc _ ?_
  cases h6 : plain b with
  | true => (try simp only [↓Mm, Mm, ↓Mr, Mr, Mb, reduceIte]); exact hK _ (by simp [h6])
  | false =>
  (try simp only [↓Mm, Mm, ↓Mr, Mr, Mb, reduceIte])
  clear hK
  simp only [h3, h4, h5, h6, Bool.not_true, Bool.or_false, Bool.false_eq_true, if_false] at h
  refine H7 hs2 hv2 ?_
  refine Dq (fun m x w' => ∃ s dn σ', m = (chain (Q5 l) s).length ∧ x = I (W8 (Y3 (Q5 l) s)) ∧ chain (Q5 l) a = dn ++ chain (Q5 l) s ∧ Stp w σ w' σ' ∧ dn.find? (fun c => subM (Q5 l) b c.name) = none)
    (chain (Q5 l) a).length ⟨a, [], σ2, rfl, rfl, rfl, hS2, rfl⟩ ?_
  rintro again m x d w3 ⟨s, dn, σ3, rfl, rfl, hch, hS3, hno⟩ hag
  have hv3 := hv.up hS3
  have hs3 := hS3.sat
  refine Yz ?_
  rw [F2]
  cases hd : lk (Q5 l) s with
  | some c =>
    obtain ⟨hcn, hcm, i, hfi, hli⟩ := V3 hd
    obtain ⟨hil, hid⟩ := List.getElem?_eq_some_iff.1 hli
    have hce : chain (Q5 l) s = c :: chain (Q5 l) c.super := by rw [C9 ok.acy s, hd]
    simp only [hfi, Option.isSome_some, W8, ↓Mm, Mm, ↓Mr, Mr, Mb, reduceIte]
    refine Z1 hv3 hil ?_
    obtain ⟨lv, fv, mv, p1, r1⟩ := hv3.elC hil
    rw [hid] at p1 r1
    obtain ⟨_, _, _, b4, b5⟩ := r1.parts
    (try simp only [↓Mm, Mm, ↓Mr, Mr, Mb, reduceIte])
    refine ld hs3 p1 rfl ?_
    refine Pe hs3 hv3 wf ok hlen hb b4 fun w4 σ4 hk4 => ?_
    have hv4 := hv3.up hk4
    have hs4 := hk4.sat
    replace p1 := p1.up hk4
    cases hsub : subM (Q5 l) b c.name with
    | true =>
      (try simp only [↓Mm, Mm, ↓Mr, Mr, Mb, reduceIte])
      refine Z1 hv4 hil ?_
      (try simp only [↓Mm, Mm, ↓Mr, Mr, Mb, reduceIte])
      refine ld hs4 p1 rfl ?_
      have : (chain (Q5 l) a).find? (fun c => subM (Q5 l) b c.name) = some c := by
        rw [hch, List.find?_append, hno, hce, List.find?_cons, hsub]; rfl
      rw [this] at h
      exact h _ _ (hS3.trans hk4)
    | false =>
      (try simp only [↓Mm, Mm, ↓Mr, Mr, Mb, reduceIte])
      refine Z1 hv4 hil ?_
      (try simp only [↓Mm, Mm, ↓Mr, Mr, Mb, reduceIte])
      refine ld hs4 p1 rfl ?_
      refine H7 hs4 hv4 ?_
      refine hag (chain (Q5 l) c.super).length _ _ (by rw [hce, List.length_cons]; omega) ⟨c.super, dn ++ [c], σ4, rfl, rfl, by rw [hch, hce]; simp, hS3.trans hk4, ?_⟩
      rw [List.find?_append, hno]
      simp [hsub]
  | none =>
    rw [Iq hd]
    simp only [Option.isSome_none, ↓Mm, Mm, ↓Mr, Mr, Mb, reduceIte]
    have : (chain (Q5 l) a).find? (fun c => subM (Q5 l) b c.name) = none := by rw [hch, I3 hd, List.append_nil]; exact hno
    rw [this] at h
    exact h _ _ hS3)
end Go.Proofs.YtdnfaboigajkhaaGreatDoor

namespace Go.Proofs.YtdnfaboigajkhaaGreatDoor
open Go.Emb Go.RowKit Go.Kd Go.Hm
variable {w : World} {K : Value → World → Prop} {σ : Q6} {l : List Cla}
theorem Q2o {l : List Cla} (hf : (!K7 l) = false) : l.length ≤ 12 := (Kh (by simpa using hf)).1
theorem Q7O {l : List Cla} (hf : (!K7 l) = false) : (Q5 l).length ≤ 1000 := by
  have := Q2o hf
  have hgl : R1.length = 8 := rfl
  simp only [Q5, List.length_append, hgl]; omega
theorem Q8A {lv : Value} (hs : X6 w σ) (hl : Sl 8 V0 σ lv l) (hf : (!K7 l) = false)
    (k1 : ∀ i e w' σ', Yj L2 l = some (i, e) → ¬ e = 0 → Stp w σ w' σ' → K (.tuple #[.slice none 0 0, I i, I e]) w')
    (k0 : ∀ v w' σ', Yj L2 l = none → Stp w σ w' σ' → Sl 8 V0 σ' v (Q5 l) → K (.tuple #[v, I 0, I 0]) w') : Q1 P F.aH [lv] w K :=
  Q82 hs hl (by have := Q2o hf; omega) (fun i e w' σ' hn hk => k1 i e w' σ' hn (Q2S hn) hk) fun v w' σ' hn hk hv _ _ => k0 v w' σ' hn hk hv
set_option maxHeartbeats 4000000 in
theorem Q4K {lv : Value} {a b : X0} (hs : X6 w σ) (hg : Glb σ) (hl : Sl 8 V0 σ lv l) (ha : a.length ≤ V9) (hb : b.length ≤ V9)
    (h : ∀ w' σ', Stp w σ w' σ' → K (.bool true) w') : Q1 P F.bC [lv, S a, S b] w K := Dj (by
  unfold Zf
  (repeat' (first | (with_reducible intro _) | (with_reducible refine V4 ?_) | (simp only [↓Mm, Mm, ↓Mp, Mp, Mb, reduceIte]) | (with_reducible first | refine ld aS aL aR ?_ | refine X7 aS aL aR ?_ | refine Z0 aS aL aR ?_ | refine Q7 aL ?_ | refine Z3 aR ?_ | refine Z8 aS ?_ | refine W5 aS aL ?_ | refine U4 aS aR ?_ | refine Y2 aS aR aR (Rep.one (by assumption)) ?_ | refine U2 aS aR aR aR ?_ | refine Q8S au au ?_ | refine Q42 au au ?_ | (refine Y1 (fun hh => ?_) (fun hh => ?_) <;> (try simp only [hh, Bool.not_true, Bool.not_false, ↓Mm, Mm, ↓Mp, Mp, Mb, reduceIte])) | (refine Q4 (fun hh => ?_) (fun hh => ?_) <;> (try simp only [hh, Bool.not_true, Bool.not_false, ↓Mm, Mm, ↓Mp, Mp, Mb, reduceIte])))))
  all_goals try exact h _ _ (by (repeat (first | exact Stp.refl (by (first | assumption | exact Stp.sat (by assumption) | exact Hst.sat (by assumption))) | assumption | refine Stp.trans ?_ (by first | assumption | exact Hst.stp (by assumption)))))
  (repeat' (first | (with_reducible intro _) | (with_reducible refine V4 ?_) | (simp only [↓Mm, Mm, ↓Mp, Mp, Mb, reduceIte]) | (with_reducible first | refine ld aS aL aR ?_ | refine X7 aS aL aR ?_ | refine Z0 aS aL aR ?_ | refine Q7 aL ?_ | refine Z3 aR ?_ | refine Z8 aS ?_ | refine W5 aS aL ?_ | refine U4 aS aR ?_ | refine Y2 aS aR aR (Rep.one (by assumption)) ?_ | refine U2 aS aR aR aR ?_ | refine Q8Z au au au au ?_ ?_ | refine Q8A au au au ?_ ?_ | refine Q42 au au ?_ | refine Q7G  ?_ | (refine Y1 (fun hh => ?_) (fun hh => ?_) <;> (try simp only [hh, Bool.not_true, Bool.not_false, ↓Mm, Mm, ↓Mp, Mp, Mb, reduceIte])) | (refine Q4 (fun hh => ?_) (fun hh => ?_) <;> (try simp only [hh, Bool.not_true, Bool.not_false, ↓Mm, Mm, ↓Mp, Mp, Mb, reduceIte])))))
  all_goals try exact h _ _ (by (repeat (first | exact Stp.refl (by (first | assumption | exact Stp.sat (by assumption) | exact Hst.sat (by assumption))) | assumption | refine Stp.trans ?_ (by first | assumption | exact Hst.stp (by assumption)))))
  all_goals try (exfalso; simp_all only [decide_true, Bool.not_true, Bool.not_false, Bool.false_eq_true, Bool.true_eq_false, decide_false, not_false_eq_true, reduceCtorEq]; done)
  have wf : Wf l := by assumption
  have ok : Ok (Q5 l) := by assumption
  have hlen : (Q5 l).length ≤ 1000 := Q7O (by assumption)
  (repeat' (first | (with_reducible intro _) | (with_reducible refine V4 ?_) | (simp only [↓Mm, Mm, ↓Mp, Mp, Mb, reduceIte]) | (with_reducible first | refine ld aS aL aR ?_ | refine X7 aS aL aR ?_ | refine Z0 aS aL aR ?_ | refine Q7 aL ?_ | refine Z3 aR ?_ | refine Z8 aS ?_ | refine W5 aS aL ?_ | refine U4 aS aR ?_ | refine Y2 aS aR aR (Rep.one (by assumption)) ?_ | refine U2 aS aR aR aR ?_ | refine Q5l  ?_ | refine Q0l au au au au au ?_ | refine Pe au au au au au au au ?_ | refine Hh au au au ?_ | refine Yr au au au ?_ | refine Q08 au au au au au ?_ | refine Q6E au au au au au au au ?_ | (refine Y1 (fun hh => ?_) (fun hh => ?_) <;> (try simp only [hh, Bool.not_true, Bool.not_false, ↓Mm, Mm, ↓Mp, Mp, Mb, reduceIte])) | (refine Q4 (fun hh => ?_) (fun hh => ?_) <;> (try simp only [hh, Bool.not_true, Bool.not_false, ↓Mm, Mm, ↓Mp, Mp, Mb, reduceIte])))))
  all_goals try exact h _ _ (by (repeat (first | exact Stp.refl (by (first | assumption | exact Stp.sat (by assumption) | exact Hst.sat (by assumption))) | assumption | refine Stp.trans ?_ (by first | assumption | exact Hst.stp (by assumption)))))
  all_goals (exfalso; simp_all; done))
end Go.Proofs.YtdnfaboigajkhaaGreatDoor

namespace Go.Proofs.YtdnfaboigajkhaaGreatDoor.hierSubs
open Go.ChangeShapes Go.WideShapes Go.ChangeAt Go.RowKit
open Go.Emb
theorem own : ownKnob Tryz.prog.godebug = none := by kernel_rfl
theorem lay : laidOutB Tryz.prog = true := by kernel_rfl
set_option maxRecDepth 100000 in
theorem Q8v (os : Os) (started : os.Started) (H : Type) (enc : TypeId × Value → H) :
    ReturnsInHanded {} Tryz.checked os 3 .any (fun w args => (Rows.hierSubsSpec.pre enc Tryz.prog Tryz.f3 [] false w args ∧ laidMetH Tryz.prog laidAll w) ∧ sizedMet enc Tryz.prog Tryz.f3 (OpenSpec.ofChange Rows.hierSubsSpec) false w args) (Rows.hierSubsSpec.post enc Tryz.prog Tryz.f3 false true false false) := by
  refine returnsInHanded_of_change_and (C := Tryz.checked) (X := fun w _ => laidMetH Tryz.prog laidAll w) (fun _ _ _ hh h => h.of_heap hh) own started (by kernel_rfl) Tryz.func3
    (ChangeSpec.witness_shaped (enc := enc) (C := Tryz.checked) (os := os) (X := fun w _ => laidMetH Tryz.prog laidAll w) false (World.laidAll Tryz.prog os laidAll) #[.slice none 0 0, .string ByteArray.empty, .string ByteArray.empty] 8 (World.laidAll_os _ _ _)
      (World.shaped_of_ZipB (by kernel_rfl) (by kernel_rfl)) (by kernel_rfl) (by kernel_rfl) (by kernel_rfl) (by rw [MakeChecks.laidMetH_plain _ _ _ (by kernel_rfl)]; exact laidMet_laidAll _ (by kernel_rfl) (by kernel_rfl))) ?_
  intro W V2 args ds gs before hval0 hW _ hsz0 hL _
  have hsz : (DataW.weightsEach Tryz.prog (Tryz.f3.params.toList ++ Rows.hierSubsSpec.plain.varTypes Tryz.prog) (ds ++ gs)).all (· ≤ reachBytes) = true := hsz0
  have hval : ∀ (j : Nat) t v, Tryz.f3.params[j]? = some t → args[j]? = some v → Value.okWide Tryz.prog W .any V2 t v := hval0
  have hW' := hW
  obtain ⟨p, q, hA0, hV, rfl, hfz, hnd⟩ := hW
  have hA : DataW.TrodAll enc Tryz.prog W 0 (fun _ => true) true Tryz.f3.params.toList args.toList ds p := hA0
  have hlt := DataW.TrodAll.lt hA
  rw [Tryz.params3] at hA hval hsz
  obtain ⟨v0, vs0, d0, ds0, p0, q0, hargs, rfl, rfl, h0, r0⟩ := trodAll_cons hA
  obtain ⟨v1, vs1, d1, ds1, p1, q1, rfl, rfl, rfl, h1, r1⟩ := trodAll_cons r0
  obtain ⟨v2, vs2, d2, ds2, p2, q2, rfl, rfl, rfl, h2, r2⟩ := trodAll_cons r1
  obtain ⟨rfl, rfl, rfl⟩ := trodAll_nil r2
  obtain rfl : args = #[v0, v1, v2] := by cases args; simp_all
  obtain ⟨rfl, rfl⟩ := trodVars_none hV
  have g0 : ∀ x ∈ p0, x.block < W.heap.size := fun x hx => hlt x (by simp [hx])
  have k0 := fun (W' : World) (bel : Below W.heap.size W W') => Below.trod lay (by kernel_rfl) (of_decide_eq_true (by kernel_rfl)) h0 bel g0
  obtain ⟨l0, e0⟩ := Q7F (hval 0 22 v0 rfl rfl) h0 (Q21 hsz (j := 0) (t := 22) rfl rfl)
  have g1 : ∀ x ∈ p1, x.block < W.heap.size := fun x hx => hlt x (by simp [hx])
  have k1 := fun (W' : World) (bel : Below W.heap.size W W') => Below.trod lay (by kernel_rfl) (of_decide_eq_true (by kernel_rfl)) h1 bel g1
  obtain ⟨a1, rfl, w1⟩ := Q5D (hval 1 9 v1 rfl rfl) h1 (Q21 hsz (j := 1) (t := 9) rfl rfl)
  have g2 : ∀ x ∈ p2, x.block < W.heap.size := fun x hx => hlt x (by simp [hx])
  have k2 := fun (W' : World) (bel : Below W.heap.size W W') => Below.trod lay (by kernel_rfl) (of_decide_eq_true (by kernel_rfl)) h2 bel g2
  obtain ⟨a2, rfl, w2⟩ := Q5D (hval 2 9 v2 rfl rfl) h2 (Q21 hsz (j := 2) (t := 9) rfl rfl)
  have hc : Q1 Tryz.prog 3 [v0, S a1, S a2] W (fun e w' => e = .bool true ∧ Below W.heap.size W w') := Q4K Q5R (Q8H hL) e0 w1 w2 (fun w' σ' hb => ⟨rfl, hb.bel⟩)
  refine (Q0B Tryz.func3 (by kernel_rfl) (by kernel_rfl) hc).mono fun e W' he => ?_
  obtain ⟨v, rfl⟩ : ∃ v, e = .returned v := by cases e <;> first | exact ⟨_, rfl⟩ | exact he.elim
  obtain ⟨rfl, bel⟩ := he
  exact ⟨_, rfl, _, _, _, [], _, [], hW', trodAll_mk1 (shut_bool Tryz.underlying4 _), (trodAll_cons_mk (k0 W' bel) (trodAll_cons_mk (k1 W' bel) (trodAll_cons_mk (k2 W' bel) trodAll_mk0))), rfl, bel.frame _, fun h => by cases h⟩
theorem over : Rows.hierSubsRow.holds Tryz.pinned (OpenSpec.ofChange Rows.hierSubsSpec) :=
  OpenClaim.holds_of_wide 3 Tryz.f3 rfl rfl rfl rfl rfl rfl rfl ⟨rfl, rfl, rfl, rfl, rfl⟩ rfl rfl rfl rfl rfl (by kernel_rfl) Tryz.func3 (by kernel_rfl)
    (of_decide_eq_true (by kernel_rfl)) (by unfold Func.isWrapper; first | (rw [if_pos (by decide +kernel)]; kernel_rfl) | (rw [if_neg (by decide +kernel)]; exact ⟨rfl, rfl⟩))
    (fun os started H enc _ => Q8v os started H enc)
end Go.Proofs.YtdnfaboigajkhaaGreatDoor.hierSubs
namespace Go.Proofs.YtdnfaboigajkhaaGreatDoor
theorem Q0t : Rows.HierSubsSaid := hierSubs.over
end Go.Proofs.YtdnfaboigajkhaaGreatDoor
