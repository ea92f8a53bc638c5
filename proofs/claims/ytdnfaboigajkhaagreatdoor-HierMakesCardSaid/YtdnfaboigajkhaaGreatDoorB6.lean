/- Parts of a proof about the given program: its functions as texts of their own, what each computes, plain laws of that. The conditions of each stand in its statement. -/
import Derived.Test.YtdnfaboigajkhaaGreatDoorB5
import Derived.Test.YtdnfaboigajkhaaGreatDoorB3
import Derived.Test.YtdnfaboigajkhaaGreatDoorB4
import Derived.Laws.OwnMore
import Derived.Lib.TrimUEq
set_option linter.unnecessarySimpa false
set_option linter.defProp false
set_option linter.unusedSectionVars false
set_option linter.unusedVariables false
set_option linter.unusedSimpArgs false
namespace Go.Hm
open Go.Kd
def Ux (m : Hm.Met) : Bool := !(decide (50 < m.code.length) || decide (8 < m.params.length) || decide (8 < m.catches.length))
def Ov (c : Cla) : Bool := !(decide (6 < c.like.length) || decide (6 < c.fields.length) || decide (6 < c.methods.length)) && c.methods.all Ux
def K5 (l : List Cla) : Bool := !decide (12 < l.length) && l.all Ov
def sA : X0 := [65]
def sB : X0 := [66]
def sC : X0 := [67]
def Qp : List Cla := [⟨sA, U4, [], false, false, false, [⟨[120], [105, 110, 116], false⟩, ⟨[116], C3, true⟩], []⟩, ⟨sB, sA, [], false, false, false, [], []⟩, ⟨sC, sA, [], false, false, false, [], []⟩]
theorem Fc {α : Type} {p : α → Bool} {xs : List α} {n : Nat} (h : n < xs.length) : (xs.take (n + 1)).all p = ((xs.take n).all p && p xs[n]) := by
  rw [List.take_add_one, List.getElem?_eq_getElem h, Option.toList_some, List.all_append, List.all_cons, List.all_nil, Bool.and_true]
theorem Pk {α : Type} {p : α → Bool} {xs : List α} {n : Nat} (h : ¬ n < xs.length) : (xs.take n).all p = xs.all p := by rw [List.take_of_length_le (by omega)]
theorem Q1N {α : Type} {p : α → Bool} {xs : List α} {n : Nat} (h : n < xs.length) (k : p xs[n] = false) : xs.all p = false := by
  rw [List.all_eq_false]; exact ⟨_, List.getElem_mem h, by simp [k]⟩
theorem Iy {l : List Cla} (h : K5 l = true) : l.length ≤ 12 ∧ ∀ c ∈ l, Ov c = true := by
  simp only [K5, Bool.and_eq_true, Bool.not_eq_true', decide_eq_false_iff_not, List.all_eq_true] at h
  exact ⟨by omega, h.2⟩
theorem Q65 {l : List Cla} (h : K5 l = true) : ∀ c ∈ l, G3 c := by
  intro c hc
  have := (Iy h).2 c hc
  simp only [Ov, Ux, Bool.and_eq_true, Bool.not_eq_true', Bool.or_eq_false_iff, decide_eq_false_iff_not, List.all_eq_true] at this
  obtain ⟨⟨⟨a, b⟩, c'⟩, d⟩ := this
  refine ⟨by omega, by omega, by omega, fun m hm => ?_⟩
  obtain ⟨⟨p, q⟩, r⟩ := d m hm
  exact ⟨by omega, by omega, by omega⟩
end Go.Hm
namespace Go.Proofs.YtdnfaboigajkhaaGreatDoor
open Go.Emb Go.RowKit Go.Kd Go.Hm
variable {w : World} {K : Value → World → Prop} {σ : Q5} {v : Value} {l : List Cla}
set_option maxHeartbeats 1000000 in
theorem Q9q {lv : Value} (hs : X6 w σ) (hl : Sl 8 U7 σ lv l) (h : ∀ w' σ', Stp w σ w' σ' → K (.bool (K5 l)) w') : Q1 P F.bo [lv] w K := Ic (by
  unfold Ly
  refine Q6 hl ?_
  (try simp only [↓Mm, Mm, ↓Mr, Mr, Mb, reduceIte])
  refine Q4 (fun h1 => ?_) (fun h1 => ?_)
  · have e : K5 l = false := by
      have : 12 < l.length := by have := of_decide_eq_true h1; omega
      simp [K5, this]
    rw [e] at h
    exact h _ _ (Stp.refl hs)
  have h1 : l.length ≤ 12 := by have := of_decide_eq_false h1; omega
  refine V2 l.length (fun n w' => ∃ σ', Stp w σ w' σ' ∧ (l.take n).all Ov = true) ⟨σ, Stp.refl hs, rfl⟩ fun n w2 d hn hi => ?_
  obtain ⟨σ2, hS2, hp⟩ := hi
  refine Q6 (hl.up hS2) ?_
  refine Z5 ?_
  refine Q4 (fun hc => ?_) (fun hc => ?_)
  · have hn' : n < l.length := by simpa using hc
    have hfalse : Ov l[n] = false → K5 l = false := fun e => by simp [K5, Q1N hn' e]
    refine L2 (hl.up hS2) hn' fun p cs hl1 hlen hr => ?_
    refine Y3 hS2.sat hl1 hlen ?_
    refine Y0 hS2.sat (by rfl) hlen (Rep.one hr) fun q w3 σ3 hk3 hq => ?_
    obtain ⟨lv', fv, mv, rfl, f1, f2, f3, f4, f5⟩ := hr
    have hS3 := hS2.trans hk3
    have hs3 := hk3.sat
    replace f1 := f1.up hk3
    replace f2 := f2.up hk3
    replace f3 := f3.up hk3
    have hne : ∀ b : Bool, (decide (6 < l[n].like.length) || decide (6 < l[n].fields.length) || decide (6 < l[n].methods.length)) = b → Ov l[n] = (!b && l[n].methods.all Ux) := fun b e => by rw [← e]; rfl
    ((try simp only [↓Mm, Mm, ↓Mr, Mr, Mb, reduceIte]); repeat ((first | refine ld (by assumption) (by assumption) rfl ?_ | refine X8 (by assumption) (by assumption) rfl ?_ | refine Q6 (by assumption) ?_); (try simp only [↓Mm, Mm, ↓Mr, Mr, Mb, reduceIte])))
    (repeat' ((first | refine Y2 (fun hh => ?_) (fun hh => ?_) | refine Q4 (fun hh => ?_) (fun hh => ?_)) <;> (try simp only [hh, Bool.not_true, Bool.not_false, ↓Mm, Mm, ↓Mr, Mr, Mb, reduceIte]) <;> ((try simp only [↓Mm, Mm, ↓Mr, Mr, Mb, reduceIte]); repeat ((first | refine ld (by assumption) (by assumption) rfl ?_ | refine X8 (by assumption) (by assumption) rfl ?_ | refine Q6 (by assumption) ?_); (try simp only [↓Mm, Mm, ↓Mr, Mr, Mb, reduceIte])))))
    all_goals try
      (have e : K5 l = false := hfalse (by simp only [Ov, Bool.and_eq_false_iff]; left; (first | (simp only [decide_eq_true_eq, decide_eq_false_iff_not, Bool.not_true, Bool.not_false, Bool.not_eq_true', Bool.not_eq_false', Bool.or_eq_true, Bool.and_eq_true, Bool.or_eq_false_iff, Bool.and_eq_false_iff, Bool.false_or, Bool.true_and, Bool.or_false, Bool.and_true] at *; first | omega | (and_intros <;> omega)) | (rw [Bool.eq_iff_iff]; (simp only [decide_eq_true_eq, decide_eq_false_iff_not, Bool.not_true, Bool.not_false, Bool.not_eq_true', Bool.not_eq_false', Bool.or_eq_true, Bool.and_eq_true, Bool.or_eq_false_iff, Bool.and_eq_false_iff, Bool.false_or, Bool.true_and, Bool.or_false, Bool.and_true] at *; first | omega | (and_intros <;> omega)))))
       rw [e] at h
       exact h _ _ hS3)
    refine V2 l[n].methods.length (fun k w' => ∃ σ', Stp w3 σ3 w' σ' ∧ (l[n].methods.take k).all Ux = true) ⟨σ3, Stp.refl hs3, rfl⟩ fun k w4 d4 hk4 hi4 => ?_
    obtain ⟨σ4, hS4, hp4⟩ := hi4
    have hs4 := hS4.sat
    have hq4 := hq.up hS4
    have f3' := f3.up hS4
    ((try simp only [↓Mm, Mm, ↓Mr, Mr, Mb, reduceIte]); repeat ((first | refine ld (by assumption) (by assumption) rfl ?_ | refine X8 (by assumption) (by assumption) rfl ?_ | refine Q6 (by assumption) ?_); (try simp only [↓Mm, Mm, ↓Mr, Mr, Mb, reduceIte])))
    refine Q4 (fun hc4 => ?_) (fun hc4 => ?_)
    · have hk' : k < l[n].methods.length := by simpa using hc4
      have hmfalse : Ux l[n].methods[k] = false → K5 l = false := fun e => hfalse (by simp [Ov, Q1N hk' e])
      ((try simp only [↓Mm, Mm, ↓Mr, Mr, Mb, reduceIte]); repeat ((first | refine ld (by assumption) (by assumption) rfl ?_ | refine X8 (by assumption) (by assumption) rfl ?_ | refine Q6 (by assumption) ?_); (try simp only [↓Mm, Mm, ↓Mr, Mr, Mb, reduceIte])))
      refine L2 f3' hk' fun p5 cs5 hl5 hlen5 hr5 => ?_
      obtain ⟨pv, cv, hv, rfl, g1, g2, g3, g4⟩ := hr5
      ((try simp only [↓Mm, Mm, ↓Mr, Mr, Mb, reduceIte]); repeat ((first | refine ld (by assumption) (by assumption) rfl ?_ | refine X8 (by assumption) (by assumption) rfl ?_ | refine Q6 (by assumption) ?_); (try simp only [↓Mm, Mm, ↓Mr, Mr, Mb, reduceIte])))
      (repeat' ((first | refine Y2 (fun hh => ?_) (fun hh => ?_) | refine Q4 (fun hh => ?_) (fun hh => ?_)) <;> (try simp only [hh, Bool.not_true, Bool.not_false, ↓Mm, Mm, ↓Mr, Mr, Mb, reduceIte]) <;> ((try simp only [↓Mm, Mm, ↓Mr, Mr, Mb, reduceIte]); repeat ((first | refine ld (by assumption) (by assumption) rfl ?_ | refine X8 (by assumption) (by assumption) rfl ?_ | refine Q6 (by assumption) ?_); (try simp only [↓Mm, Mm, ↓Mr, Mr, Mb, reduceIte])))))
      all_goals try
        (have e : K5 l = false := hmfalse (by simp only [Ux]; (first | (simp only [decide_eq_true_eq, decide_eq_false_iff_not, Bool.not_true, Bool.not_false, Bool.not_eq_true', Bool.not_eq_false', Bool.or_eq_true, Bool.and_eq_true, Bool.or_eq_false_iff, Bool.and_eq_false_iff, Bool.false_or, Bool.true_and, Bool.or_false, Bool.and_true] at *; first | omega | (and_intros <;> omega)) | (rw [Bool.eq_iff_iff]; (simp only [decide_eq_true_eq, decide_eq_false_iff_not, Bool.not_true, Bool.not_false, Bool.not_eq_true', Bool.not_eq_false', Bool.or_eq_true, Bool.and_eq_true, Bool.or_eq_false_iff, Bool.and_eq_false_iff, Bool.false_or, Bool.true_and, Bool.or_false, Bool.and_true] at *; first | omega | (and_intros <;> omega)))))
         rw [e] at h
         exact h _ _ (hS3.trans hS4))
      refine L2 f3' hk' fun p6 cs6 hl6 hlen6 hr6 => ?_
      obtain ⟨pv, cv, hv, rfl, g1, g2, g3, g4⟩ := hr6
      ((try simp only [↓Mm, Mm, ↓Mr, Mr, Mb, reduceIte]); repeat ((first | refine ld (by assumption) (by assumption) rfl ?_ | refine X8 (by assumption) (by assumption) rfl ?_ | refine Q6 (by assumption) ?_); (try simp only [↓Mm, Mm, ↓Mr, Mr, Mb, reduceIte])))
      (repeat' ((first | refine Y2 (fun hh => ?_) (fun hh => ?_) | refine Q4 (fun hh => ?_) (fun hh => ?_)) <;> (try simp only [hh, Bool.not_true, Bool.not_false, ↓Mm, Mm, ↓Mr, Mr, Mb, reduceIte]) <;> ((try simp only [↓Mm, Mm, ↓Mr, Mr, Mb, reduceIte]); repeat ((first | refine ld (by assumption) (by assumption) rfl ?_ | refine X8 (by assumption) (by assumption) rfl ?_ | refine Q6 (by assumption) ?_); (try simp only [↓Mm, Mm, ↓Mr, Mr, Mb, reduceIte])))))
      all_goals try
        (have e : K5 l = false := hmfalse (by simp only [Ux]; (first | (simp only [decide_eq_true_eq, decide_eq_false_iff_not, Bool.not_true, Bool.not_false, Bool.not_eq_true', Bool.not_eq_false', Bool.or_eq_true, Bool.and_eq_true, Bool.or_eq_false_iff, Bool.and_eq_false_iff, Bool.false_or, Bool.true_and, Bool.or_false, Bool.and_true] at *; first | omega | (and_intros <;> omega)) | (rw [Bool.eq_iff_iff]; (simp only [decide_eq_true_eq, decide_eq_false_iff_not, Bool.not_true, Bool.not_false, Bool.not_eq_true', Bool.not_eq_false', Bool.or_eq_true, Bool.and_eq_true, Bool.or_eq_false_iff, Bool.and_eq_false_iff, Bool.false_or, Bool.true_and, Bool.or_false, Bool.and_true] at *; first | omega | (and_intros <;> omega)))))
         rw [e] at h
         exact h _ _ (hS3.trans hS4))
      refine L2 f3' hk' fun p7 cs7 hl7 hlen7 hr7 => ?_
      obtain ⟨pv, cv, hv, rfl, g1, g2, g3, g4⟩ := hr7
      ((try simp only [↓Mm, Mm, ↓Mr, Mr, Mb, reduceIte]); repeat ((first | refine ld (by assumption) (by assumption) rfl ?_ | refine X8 (by assumption) (by assumption) rfl ?_ | refine Q6 (by assumption) ?_); (try simp only [↓Mm, Mm, ↓Mr, Mr, Mb, reduceIte])))
      (repeat' ((first | refine Y2 (fun hh => ?_) (fun hh => ?_) | refine Q4 (fun hh => ?_) (fun hh => ?_)) <;> (try simp only [hh, Bool.not_true, Bool.not_false, ↓Mm, Mm, ↓Mr, Mr, Mb, reduceIte]) <;> ((try simp only [↓Mm, Mm, ↓Mr, Mr, Mb, reduceIte]); repeat ((first | refine ld (by assumption) (by assumption) rfl ?_ | refine X8 (by assumption) (by assumption) rfl ?_ | refine Q6 (by assumption) ?_); (try simp only [↓Mm, Mm, ↓Mr, Mr, Mb, reduceIte])))))
      all_goals try
        (have e : K5 l = false := hmfalse (by simp only [Ux]; (first | (simp only [decide_eq_true_eq, decide_eq_false_iff_not, Bool.not_true, Bool.not_false, Bool.not_eq_true', Bool.not_eq_false', Bool.or_eq_true, Bool.and_eq_true, Bool.or_eq_false_iff, Bool.and_eq_false_iff, Bool.false_or, Bool.true_and, Bool.or_false, Bool.and_true] at *; first | omega | (and_intros <;> omega)) | (rw [Bool.eq_iff_iff]; (simp only [decide_eq_true_eq, decide_eq_false_iff_not, Bool.not_true, Bool.not_false, Bool.not_eq_true', Bool.not_eq_false', Bool.or_eq_true, Bool.and_eq_true, Bool.or_eq_false_iff, Bool.and_eq_false_iff, Bool.false_or, Bool.true_and, Bool.or_false, Bool.and_true] at *; first | omega | (and_intros <;> omega)))))
         rw [e] at h
         exact h _ _ (hS3.trans hS4))
      all_goals
        (try refine O5 ?_)
        refine Y5 f3'.max hk' ⟨σ4, hS4, ?_⟩
        rw [Fc hk', hp4, Bool.true_and]; simp only [Ux]; (first | (simp only [decide_eq_true_eq, decide_eq_false_iff_not, Bool.not_true, Bool.not_false, Bool.not_eq_true', Bool.not_eq_false', Bool.or_eq_true, Bool.and_eq_true, Bool.or_eq_false_iff, Bool.and_eq_false_iff, Bool.false_or, Bool.true_and, Bool.or_false, Bool.and_true] at *; first | omega | (and_intros <;> omega)) | (rw [Bool.eq_iff_iff]; (simp only [decide_eq_true_eq, decide_eq_false_iff_not, Bool.not_true, Bool.not_false, Bool.not_eq_true', Bool.not_eq_false', Bool.or_eq_true, Bool.and_eq_true, Bool.or_eq_false_iff, Bool.and_eq_false_iff, Bool.false_or, Bool.true_and, Bool.or_false, Bool.and_true] at *; first | omega | (and_intros <;> omega))))
    · have hk' : ¬ k < l[n].methods.length := by simpa using hc4
      rw [Pk hk'] at hp4
      (try simp only [↓Mm, Mm, ↓Mr, Mr, Mb, reduceIte])
      (try refine O5 ?_)
      have hi5 : (List.take (n + 1) l).all Ov = true := ?_
      · have hi6 : ∃ σ', Stp w σ w4 σ' ∧ (List.take (n + 1) l).all Ov = true := ⟨σ4, hS3.trans hS4, hi5⟩
        exact Y5 hl.max hn' hi6
      rw [Fc hn', hp, Bool.true_and]; simp only [Ov, hp4, Bool.and_true]; (first | (simp only [decide_eq_true_eq, decide_eq_false_iff_not, Bool.not_true, Bool.not_false, Bool.not_eq_true', Bool.not_eq_false', Bool.or_eq_true, Bool.and_eq_true, Bool.or_eq_false_iff, Bool.and_eq_false_iff, Bool.false_or, Bool.true_and, Bool.or_false, Bool.and_true] at *; first | omega | (and_intros <;> omega)) | (rw [Bool.eq_iff_iff]; (simp only [decide_eq_true_eq, decide_eq_false_iff_not, Bool.not_true, Bool.not_false, Bool.not_eq_true', Bool.not_eq_false', Bool.or_eq_true, Bool.and_eq_true, Bool.or_eq_false_iff, Bool.and_eq_false_iff, Bool.false_or, Bool.true_and, Bool.or_false, Bool.and_true] at *; first | omega | (and_intros <;> omega))))
  · have hn' : ¬ n < l.length := by simpa using hc
    rw [Pk hn'] at hp
    have e : K5 l = true := by simp [K5, hp]; omega
    rw [e] at h
    exact h _ _ hS2)
end Go.Proofs.YtdnfaboigajkhaaGreatDoor

namespace Go.Proofs.YtdnfaboigajkhaaGreatDoor
open Go.Emb Go.RowKit Go.Kd Go.Hm
variable {w : World} {K : Value → World → Prop} {σ : Q5} {v : Value} {l : List Cla}
theorem Q9o : P.underlying T.p = some (.pointer T.q) := by kernel_rfl
theorem Q32 (d : Nat) (o : Option Addr) : (Op.equalIn (d + 1) T.p (.pointer o) (.pointer none)).run P w = .ok o.isNone w := by
  cases o <;> simp [Op.equalIn, run_underlying Q9o]
theorem Q5C {a : Addr} {ox oy : Operand} (h : K (.bool false) w) : Q3 P .eql T.p ox oy (.pointer (some a)) (.pointer none) w K := by
  have e : (Op.equal T.p (.pointer (some a)) (.pointer none)).run P w = .ok false w := Q32 9999 _
  unfold Q3
  rw [X9 (v := .bool false) (w' := w) (by simp [eqGuard, Go.binOp, e])]
  exact h
theorem Q8s {ox oy : Operand} (h : K (.bool true) w) : Q3 P .eql T.p ox oy (.pointer none) (.pointer none) w K := by
  have e : (Op.equal T.p (.pointer none) (.pointer none)).run P w = .ok true w := Q32 9999 _
  unfold Q3
  rw [X9 (v := .bool true) (w' := w) (by simp [eqGuard, Go.binOp, e])]
  exact h
theorem Q8l (hs : X6 w σ) (h : ∀ v' w' σ', Stp w σ w' σ' → Sl 8 U7 σ' v' Qp → K v' w') : Q1 P F.b2 [] w K := Bm (by
  unfold Vx
  refine B1 (cells := #[S [120], S [105, 110, 116], .bool false]) (by kernel_rfl) ?_
  refine B1 (cells := #[S [116], S C3, .bool true]) (by kernel_rfl) ?_
  refine Nc (R := D7) (sz := 3) hs [.agg #[S [120], S [105, 110, 116], .bool false], .agg #[S [116], S C3, .bool true]] [⟨[120], [105, 110, 116], false⟩, ⟨[116], C3, true⟩] rfl rfl (by simp; exact ⟨rfl, rfl⟩) rfl ⟨⟨rfl, by decide, by decide⟩, ⟨rfl, by decide, by decide⟩, trivial⟩ fun v3 w1 σ1 hk1 hv3 => ?_
  have hv3' := hv3
  obtain ⟨a3, cap3, rfl, _⟩ := hv3'
  refine B1 (cells := #[S sA, S U4, .slice none 0 0, .bool false, .bool false, .bool false, .slice a3 2 cap3, .slice none 0 0]) (by kernel_rfl) ?_
  refine B1 (cells := #[S sB, S sA, .slice none 0 0, .bool false, .bool false, .bool false, .slice none 0 0, .slice none 0 0]) (by kernel_rfl) ?_
  refine B1 (cells := #[S sC, S sA, .slice none 0 0, .bool false, .bool false, .bool false, .slice none 0 0, .slice none 0 0]) (by kernel_rfl) ?_
  refine Nc (R := U7) (sz := 8) hk1.sat [.agg #[S sA, S U4, .slice none 0 0, .bool false, .bool false, .bool false, .slice a3 2 cap3, .slice none 0 0], .agg #[S sB, S sA, .slice none 0 0, .bool false, .bool false, .bool false, .slice none 0 0, .slice none 0 0], .agg #[S sC, S sA, .slice none 0 0, .bool false, .bool false, .bool false, .slice none 0 0, .slice none 0 0]]
    Qp rfl rfl (by simp; exact ⟨rfl, rfl, rfl⟩) rfl
    ⟨⟨_, _, _, rfl, Sl.nil, hv3, Sl.nil, by decide, by decide⟩, ⟨_, _, _, rfl, Sl.nil, Sl.nil, Sl.nil, by decide, by decide⟩, ⟨_, _, _, rfl, Sl.nil, Sl.nil, Sl.nil, by decide, by decide⟩, trivial⟩ fun v7 w2 σ2 hk2 hv7 => ?_
  exact h _ _ _ (hk1.trans hk2) hv7)
theorem Q6u : Yt L5 Qp = none := by decide +kernel
theorem Q5J : K5 Qp = true := by decide +kernel
theorem Q47 : Q0p (Q8 Qp) [66] [67] = [65] := by decide +kernel
theorem Q3Z : Q0p (Q8 Qp) [66] [66, 91, 93] = U4 := by decide +kernel
theorem Q49 : Q0p (Q8 Qp) [105, 110, 116] [65] = [] := by decide +kernel
theorem Q3r : printM (Q8 Qp) [65] = [65, 40, 41, 32, 120, 58, 105, 110, 116, 46] := by decide +kernel
theorem Q34 : printM (Q8 Qp) [66] = [66, 40, 65, 40, 41, 32, 120, 58, 105, 110, 116, 46, 41, 46] := by decide +kernel
theorem Q5F : subM (Q8 Qp) [66] [65] = true := by decide +kernel
theorem Q3C : placeM (Q8 Qp) [66] [116] = some 1 := by decide +kernel
theorem Q1Z : Dm (Q8 Qp) [66] = true := by decide +kernel
theorem Q4q (hs : X6 w σ) (hg : Glb σ) (h : ∀ w' σ', Stp w σ w' σ' → K (.bool true) w') : Q1 P F.aw [] w K := Bw (by
  unfold Vw
  refine Q8l hs fun v1 w1 σ1 hk1 hv1 => ?_
  refine Q7s hk1.sat (hg.lift ⟨hk1.le⟩) hv1 (by decide) (Q65 Q5J) (fun i e w' σ' hne => by rw [Q6u] at hne; cases hne) fun tv w2 σ2 _ hk2 ht ok own => ?_
  have hS2 := hk1.trans hk2
  have hg2 := hg.lift ⟨hS2.le⟩
  obtain ⟨ta, _, _, _, rfl, _⟩ := ht.ex
  refine M5 (vs := [_, _, _]) rfl ?_
  refine M5 (vs := [_, _, _]) rfl ?_
  refine M5 (vs := [_, _, _]) rfl ?_
  (try simp only [↓Mm, Mm, ↓Mr, Mr, Mb, reduceIte])
  refine Q5C ?_
  simp only [decide_true, ↓Mm, Mm, ↓Mr, Mr, Mb, reduceIte]
  have hs2 := hS2.sat
  refine Q39 hs2 ht ok (by decide) (by decide) fun w3 σ3 hk3 => ?_
  simp only [Q47, decide_true, ↓Mm, Mm, ↓Mr, Mr, Mb, reduceIte]
  have hS3 := hS2.trans hk3
  replace ht := ht.lift ⟨hk3.le⟩
  refine Q39 hk3.sat ht ok (by decide) (by decide) fun w4 σ4 hk4 => ?_
  simp only [Q3Z, decide_true, U4, ↓Mm, Mm, ↓Mr, Mr, Mb, reduceIte]
  have hS4 := hS3.trans hk4
  replace ht := ht.lift ⟨hk4.le⟩
  refine Q39 hk4.sat ht ok (by decide) (by decide) fun w5 σ5 hk5 => ?_
  simp only [Q49, decide_true, ↓Mm, Mm, ↓Mr, Mr, Mb, reduceIte]
  have hS5 := hS4.trans hk5
  replace ht := ht.lift ⟨hk5.le⟩
  refine Q1d ok _ (.inr (Nat.lt_succ_self _)) (by decide) hk5.sat ht fun w6 σ6 hk6 => ?_
  simp only [Q3r, decide_true, ↓Mm, Mm, ↓Mr, Mr, Mb, reduceIte]
  have hS6 := hS5.trans hk6
  replace ht := ht.lift ⟨hk6.le⟩
  refine Q1d ok _ (.inr (Nat.lt_succ_self _)) (by decide) hk6.sat ht fun w7 σ7 hk7 => ?_
  simp only [Q34, decide_true, ↓Mm, Mm, ↓Mr, Mr, Mb, reduceIte]
  have hS7 := hS6.trans hk7
  replace ht := ht.lift ⟨hk7.le⟩
  refine Q29 hk7.sat ht ok (by decide) (by decide) fun w8 σ8 hk8 => ?_
  simp only [Q5F, ↓Mm, Mm, ↓Mr, Mr, Mb, reduceIte]
  have hS8 := hS7.trans hk8
  replace ht := ht.lift ⟨hk8.le⟩
  refine Q4B hk8.sat ht ok.acy ok.len ok.sm fun w9 σ9 hk9 => ?_
  simp only [Q3C, L6, show ((1 : Nat) : Int) = 1 from rfl, decide_true, ↓Mm, Mm, ↓Mr, Mr, Mb, reduceIte]
  have hS9 := hS8.trans hk9
  replace ht := ht.lift ⟨hk9.le⟩
  refine Kn hk9.sat ht fun w10 σ10 hk10 => ?_
  simp only [Q1Z, ↓Mm, Mm, ↓Mr, Mr, Mb, reduceIte]
  have hS10 := hS9.trans hk10
  refine Q4h hk10.sat (hg.lift ⟨hS10.le⟩) fun x w11 σ11 hk11 ha11 => ?_
  refine Q2g ha11 ?_
  simp only [show R5.length = 8 from rfl, show ((8 : Nat) : Int) = 8 from rfl, decide_true, ↓Mm, Mm, ↓Mr, Mr, Mb, reduceIte]
  exact h _ _ (hS10.trans hk11))
end Go.Proofs.YtdnfaboigajkhaaGreatDoor

namespace Go.Hm
open Go.Kd
theorem Q2k {l : List Cla} {frm : Nat} : ∀ (f : Nat) (out : List Nat) (i : Nat), (∀ y ∈ out, y ∈ F4 l frm f out i) ∧ (0 < f → frm ≤ i → i ∈ F4 l frm f out i) := by
  intro f
  induction f with
  | zero => intro out i; exact ⟨fun y hy => hy, fun h => by omega⟩
  | succ f ih =>
    intro out i
    have fold : ∀ (us : List X0) (o : List Nat), ∀ y ∈ o, y ∈ us.foldl (fun out n => F4 l frm f out ((Y7 l n).getD 0)) o := by
      intro us
      induction us with
      | nil => intro o y hy; exact hy
      | cons u r ih2 => intro o y hy; exact ih2 _ y ((ih o _).1 y hy)
    simp only [F4]
    split
    · exact ⟨fun y hy => hy, fun _ h => by omega⟩
    · split
      · rename_i h; exact ⟨fun y hy => hy, fun _ _ => h⟩
      · exact ⟨fun y hy => List.mem_append_left _ (fold _ _ y hy), fun _ _ => by simp⟩
theorem Q6a {l : List Cla} {frm i : Nat} (h1 : frm ≤ i) (h2 : i < l.length) : i ∈ W0 l frm := by
  unfold W0
  have key : ∀ (is out : List Nat), (∀ y ∈ out, y ∈ is.foldl (fun out i => F4 l frm (l.length + 1) out i) out) ∧ (i ∈ is → i ∈ is.foldl (fun out i => F4 l frm (l.length + 1) out i) out) := by
    intro is
    induction is with
    | nil => intro out; exact ⟨fun y hy => hy, fun h => by simp at h⟩
    | cons a r ih =>
      intro out
      refine ⟨fun y hy => (ih _).1 y ((Q2k _ _ _).1 y hy), fun h => ?_⟩
      rcases List.mem_cons.1 h with rfl | h
      · exact (ih _).1 _ ((Q2k _ _ _).2 (by omega) h1)
      · exact (ih _).2 h
  refine (key _ _).2 ?_
  rw [List.mem_drop_iff_getElem]
  exact ⟨i - frm, by simp; omega, by simp; omega⟩
theorem Q1r {s : X0} (h : L4 s = true) : name s = true := Vy (by rw [h, Bool.or_true])
theorem Q2w {a : X0} (h : name a = true) : D6 a = false := by
  cases he : D6 a with
  | false => rfl
  | true =>
    exfalso
    have h2 : 2 ≤ a.length ∧ a.drop (a.length - 2) = [91, 93] := by simpa [D6] using he
    have h3 : (93 : UInt8) ∈ a := List.mem_of_mem_drop (i := a.length - 2) (by rw [h2.2]; simp)
    cases a with
    | nil => simp at h3
    | cons c r =>
      simp only [name, Bool.and_eq_true, List.all_eq_true] at h
      have := h.2 _ h3
      revert this; decide
end Go.Hm
namespace Go.Proofs.YtdnfaboigajkhaaGreatDoor
open Go.Emb Go.RowKit Go.Kd Go.Hm
theorem Q6m {a : X0} (h : name a = true) : V8 a = (a, 0) := by rw [Za, Q2w h]; simp
theorem Nb {s : X0} (h : L4 s = true) : D6 s = false ∧ V8 s = (s, 0) ∧ right s = true ∧ plain s = false ∧ Hb s = [] ∧ s ≠ Yw ∧ s ≠ [] := by
  have hn := Hm.Q1r h
  have ha := Q2w hn
  have hb := Q6m hn
  refine ⟨ha, hb, ?_, ?_, by simp [Hb, ha], ?_, ?_⟩
  · simp [right, hb, h]
  · cases hp : plain s with
    | false => rfl
    | true =>
      simp only [plain, Bool.or_eq_true, decide_eq_true_eq] at hp
      rcases hp with (e | e) | e <;> subst e <;> revert h <;> decide
  · rintro rfl; revert h; decide
  · rintro rfl; revert h; decide
structure Wf (l : List Cla) : Prop where
  ck : ∀ c ∈ l, L5 c = 0
  own : B5 (Q8 l)
  acy : Qv (Q8 l)
  up : ∀ c ∈ l, uppersM (Q8 l) c = 0
  mem : ∀ c ∈ l, membersM (Q8 l) c = 0
theorem Q9x {l : List Cla} (h : Yt L5 l = none) : Wf l := by
  unfold Yt at h
  split at h
  · cases h
  rename_i h1
  split at h
  · cases h
  rename_i h2
  split at h
  · cases h
  rename_i h3
  split at h
  · cases h
  rename_i h4
  split at h
  · cases h
  rename_i h5
  have hck := C8 h1
  have hown := Bt h2
  have hlo : ∀ c ∈ l, loopsM (Q8 l) c = false := fun c hc => List.findIdx?_eq_none_iff.1 h4 c hc
  refine ⟨hck, hown, Q2I hown (fun c hc => (Ha (hck c hc)).2.2) hlo, fun c hc => by have := C8 h3 c hc; omega, fun c hc => ?_⟩
  obtain ⟨i, hi, rfl⟩ := List.getElem_of_mem hc
  have hgl : R5.length = 8 := rfl
  have := List.find?_eq_none.1 h5 (8 + i) (Q6a (by omega) (by simp [Q8, hgl]; omega))
  have e : (Q8 l).getD (8 + i) Cla.zero = l[i] := by
    rw [List.getD_eq_getElem?_getD, Q8, List.getElem?_append_right (by omega), hgl, show 8 + i - 8 = i by omega, List.getElem?_eq_getElem hi]; rfl
  rw [e] at this
  simpa using this
section
variable {l : List Cla} (wf : Wf l)
include wf
theorem Wf.names {c : Cla} (hc : c ∈ Q8 l) : L4 c.name = true := by
  rcases List.mem_append.1 hc with hc | hc
  · have : ∀ c ∈ R5, L4 c.name = true := by decide +kernel
    exact this c hc
  · have := wf.ck c hc
    unfold L5 at this
    split at this
    · cases this
    · split at this
      · rename_i hr
        simp only [Vm, Bool.and_eq_true] at hr
        obtain ⟨⟨⟨⟨⟨⟨⟨⟨q1, _⟩, _⟩, _⟩, _⟩, _⟩, _⟩, _⟩, _⟩ := hr
        exact List.all_eq_true.1 q1 c.name (by simp)
      · cases this
theorem Wf.lkn {n : X0} {c : Cla} (h : lk (Q8 l) n = some c) : L4 n = true := by
  obtain ⟨e, hm, _⟩ := V6 h
  rw [← e]; exact wf.names hm
theorem Wf.root : lk (Q8 l) U4 = some ⟨U4, [], [], false, false, false, [], []⟩ := wf.own.lk (c := ⟨U4, [], [], false, false, false, [], []⟩) (List.mem_append_left _ (by decide))
theorem Wf.fault : lk (Q8 l) L3 = some ⟨L3, U4, [], false, false, false, [⟨I8, C3, false⟩], []⟩ := wf.own.lk (c := ⟨L3, U4, [], false, false, false, [⟨I8, C3, false⟩], []⟩) (List.mem_append_left _ (by decide))
theorem Wf.super {c : Cla} (hc : c ∈ Q8 l) : c.name = U4 ∨ ∃ d, lk (Q8 l) c.super = some d := by
  rcases List.mem_append.1 hc with hc | hc
  · have : ∀ c ∈ R5, c.name = U4 ∨ c.super = U4 ∨ c.super = L3 := by decide
    rcases this c hc with h | h | h
    · exact .inl h
    · exact .inr ⟨_, h ▸ wf.root⟩
    · exact .inr ⟨_, h ▸ wf.fault⟩
  · right
    have := wf.up c hc
    unfold uppersM at this
    split at this
    · cases this
    · rename_i h
      unfold F8 at h
      cases hd : lk (Q8 l) c.super with
      | none => rw [hd] at h; simp at h
      | some d => exact ⟨d, rfl⟩
theorem Wf.atRoot {b : X0} (h : Hm.Reach (lk (Q8 l)) U4 b) : b = U4 := by
  cases h with
  | refl => rfl
  | step hc hu hr =>
    rw [wf.root] at hc; cases hc
    simp [U9] at hu; subst hu
    obtain ⟨d, hd⟩ := hr.left
    exact absurd (wf.lkn hd) (by decide)
theorem Wf.kind {n : X0} {c : Cla} (h : lk (Q8 l) n = some c) : kindM (Q8 l) n = true := by
  obtain ⟨h1, h2, h3, h4, h5, h6, h7⟩ := Nb (wf.lkn h)
  have : hasM (Q8 l) n = true := by rw [Ro, h]; rfl
  simp [kindM, h3, h2, this]
theorem Wf.sub_iff {a b : X0} : subM (Q8 l) a b = true ↔ kindM (Q8 l) a = true ∧ kindM (Q8 l) b = true ∧ (a = b ∨ (plain a = false ∧ plain b = false ∧ (a = Yw ∨ (Hb a ≠ [] ∧ b = U4) ∨ (lk (Q8 l) a ≠ none ∧ Hm.Reach (lk (Q8 l)) a b)))) := by
  unfold subM
  cases ka : kindM (Q8 l) a <;> cases kb : kindM (Q8 l) b <;> simp
  by_cases e : a = b
  · simp [e]
  cases pa : plain a <;> cases pb : plain b <;> simp [e]
  by_cases hn : a = Yw
  · simp [hn]
  simp only [hn, false_or]
  by_cases he : Hb a = []
  · simp only [he, if_true, not_true_eq_false, false_and, false_or, Zd]
    constructor
    · intro h; obtain ⟨c, hc⟩ := h.left; exact ⟨by rw [hc]; simp, h⟩
    · intro h; exact h.2
  · simp only [he, if_false, not_false_eq_true, true_and]
    constructor
    · exact .inl
    · rintro (h | ⟨h, _⟩)
      · exact h
      · cases hl : lk (Q8 l) a with
        | none => exact absurd hl h
        | some c => exact absurd (Nb (wf.lkn hl)).2.2.2.2.1 he
theorem Wf.sub_class {a b : X0} {c : Cla} (ha : lk (Q8 l) a = some c) : subM (Q8 l) a b = true ↔ Hm.Reach (lk (Q8 l)) a b := by
  obtain ⟨h1, h2, h3, h4, h5, h6, h7⟩ := Nb (wf.lkn ha)
  rw [wf.sub_iff]
  constructor
  · rintro ⟨_, _, rfl | ⟨_, _, h | ⟨h, _⟩ | ⟨_, h⟩⟩⟩
    · exact .refl ha
    · exact absurd h h6
    · exact absurd h5 h
    · exact h
  · intro h
    obtain ⟨d, hd⟩ := h.right
    exact ⟨wf.kind ha, wf.kind hd, .inr ⟨h4, (Nb (wf.lkn hd)).2.2.2.1, .inr (.inr ⟨by rw [ha]; simp, h⟩)⟩⟩
end
end Go.Proofs.YtdnfaboigajkhaaGreatDoor

namespace Go.Proofs.YtdnfaboigajkhaaGreatDoor
open Go.Emb Go.RowKit Go.Kd Go.Hm
section
variable {l : List Cla} (wf : Wf l)
include wf
end
end Go.Proofs.YtdnfaboigajkhaaGreatDoor

namespace Go.Proofs.YtdnfaboigajkhaaGreatDoor
open Go.Emb Go.RowKit Go.Kd Go.Hm
variable {w : World} {K : Value → World → Prop} {σ : Q5}
theorem Mq {α : Type} [DecidableEq α] {xs ys : List α} {n : Nat} (h1 : n < xs.length) (h2 : n < ys.length) (h : xs.take n = ys.take n) : xs.take (n + 1) = ys.take (n + 1) ↔ xs[n] = ys[n] := by
  rw [List.take_add_one (l := xs), List.take_add_one (l := ys), List.getElem?_eq_getElem h1, List.getElem?_eq_getElem h2, h, List.append_cancel_left_eq]; simp
theorem Fi {xs ys : List X0} {v u : Value} (hs : X6 w σ) (hv : Sl 1 U5 σ v xs) (hu : Sl 1 U5 σ u ys) (h : ∀ w', Below w.heap.size w w' → K (.bool (decide (xs = ys))) w') : Q1 P F.ad [v, u] w K := Ou (by
  unfold Xz
  refine Q6 hv ?_
  refine Q6 hu ?_
  (try simp only [↓Mm, Mm, ↓Mr, Mr, Mb, reduceIte])
  refine Q4 (fun h1 => ?_) (fun h1 => ?_)
  · have : decide (xs = ys) = false := by
      rw [decide_eq_false_iff_not]; rintro rfl; simp at h1
    rw [this] at h; exact h _ (Below.refl _ _)
  have hl : xs.length = ys.length := by
    simp only [Bool.not_eq_false', decide_eq_true_eq] at h1; omega
  refine V2 xs.length (fun n w' => Below w.heap.size w w' ∧ xs.take n = ys.take n) ⟨Below.refl _ _, rfl⟩ fun n w1 d hn hi => ?_
  obtain ⟨hb, hp⟩ := hi
  have hs1 := hs.below hb
  refine Q6 hv ?_
  refine Z5 ?_
  refine Q4 (fun hc => ?_) (fun hc => ?_)
  · have hn' : n < xs.length := by simpa using hc
    have hn2 : n < ys.length := by omega
    obtain ⟨a1, a2⟩ := hv.elS hn'
    obtain ⟨b1, b2⟩ := hu.elS hn2
    refine W1 hs1 ?_
    (repeat (apply L9; (· intros; (repeat (rename_i hx; subst hx)); (repeat' (first | (with_reducible exact U8 rfl) | (with_reducible exact V9 (Stp.bel (by (repeat (first | exact Stp.refl (by (first | assumption | exact Stp.sat (by assumption) | exact Hst.sat (by assumption))) | assumption | refine Stp.trans ?_ (by first | assumption | exact Hst.stp (by assumption)))))) rfl) | (with_reducible intro _) | (simp only [↓Mm, Mm, ↓Mp, Mp, Mb, reduceIte])  | (with_reducible show Q2 _ _ _ _ _; first | refine X8 aS aL aR ?_ | refine Y3 aS aL aR ?_ | refine ld aS aL aR ?_) | (with_reducible show indexAddr _ _ _ _ _ _; refine Y4 aL au ?_) | (with_reducible show X4 _ _ _ _ _ _ _ _; refine Q6 aL ?_) | (with_reducible show D1 _ _ _ _ _ _; refine Y6 aR ?_) | (with_reducible show pick _ _ _ _ _ _; refine W8 ?_) | (apply W9; intro hh; (try simp only [hh, reduceIte, ↓Mm, Mm, ↓Mp, Mp, Mb, reduceIte])))); done)))
    (intros; (repeat (rename_i hx; subst hx)); (try simp only [↓Mm, Mm, ↓Mp, Mp, Mb, reduceIte]))
    rename_i w2 hb2
    have hbb := hb.trans (hb2.stp.bel.mono hb.size)
    refine Q4 (fun he => ?_) (fun he => ?_)
    · have : decide (xs = ys) = false := by
        rw [decide_eq_false_iff_not]; rintro rfl; simp at he
      rw [this] at h; exact h _ hbb
    · exact Y5 hv.max hn' ⟨hbb, (Mq hn' hn2 hp).2 (by simpa using he)⟩
  · have hn' : ¬ n < xs.length := by simpa using hc
    rw [List.take_of_length_le (by omega), List.take_of_length_le (by omega)] at hp
    have : decide (xs = ys) = true := by rw [hp]; simp
    rw [this] at h; exact h _ hb)
end Go.Proofs.YtdnfaboigajkhaaGreatDoor

namespace Go.Proofs.YtdnfaboigajkhaaGreatDoor
open Go.Emb Go.RowKit Go.Kd Go.Hm
variable {w : World} {K : Value → World → Prop} {σ : Q5} {l : List Cla} {v : Value}
theorem K3 {n : X0} (hs : X6 w σ) (hl : Sl 8 U7 σ v l) (h : K (I (L6 (Y7 l n))) w) : Q1 P F.b [v, S n] w K := Fk (by
  unfold Ws
  refine V2 l.length (fun k w' => w' = w ∧ ∀ j (hj : j < l.length), j < k → ¬ l[j].name = n) ⟨rfl, fun j _ h => by omega⟩ fun k w1 d hk hi => ?_
  obtain ⟨rfl, hno⟩ := hi
  refine Q6 hl ?_
  refine Z5 ?_
  refine Q4 (fun hc => ?_) (fun hc => ?_)
  · have hk' : k < l.length := by simpa using hc
    refine L2 hl hk' fun p cells hl1 hl2 hr => ?_
    obtain ⟨lv, fv, mv, rfl, f1, f2, f3, f4, f5⟩ := hr
    rw [fa]
    refine ld hs hl1 rfl ?_
    refine Nr ?_
    refine Q4 (fun he => ?_) (fun he => ?_)
    · have he : l[k].name = n := by simpa using he
      have : Y7 l n = some k := by
        unfold Y7
        rw [List.findIdx?_eq_some_iff_getElem]
        exact ⟨hk', by simpa using he, fun j hj => by simpa using hno j (by omega) hj⟩
      rw [this] at h
      exact h
    · have he : ¬ l[k].name = n := by simpa using he
      refine O5 ?_
      refine Y5 hl.max hk' ⟨rfl, fun j hj hjk => ?_⟩
      by_cases e : j = k
      · subst e; exact he
      · exact hno j hj (by omega)
  · have hk' : ¬ k < l.length := by simpa using hc
    have : Y7 l n = none := by
      unfold Y7
      rw [List.findIdx?_eq_none_iff]
      intro c hc
      obtain ⟨j, hj, rfl⟩ := List.getElem_of_mem hc
      simpa using hno j hj (by omega)
    rw [this] at h
    exact h)
end Go.Proofs.YtdnfaboigajkhaaGreatDoor

namespace Go.Proofs.YtdnfaboigajkhaaGreatDoor
open Go.Emb Go.RowKit Go.Kd Go.Hm
variable {w : World} {K : Value → World → Prop} {σ : Q5} {l : List Cla} {v : Value}
theorem Q2S {a : X0} (ha : a.length ≤ W3) (h : K (S (V8 a).1) w) : Q1 P F.aC [S a] w K := Gk (by
  unfold Wq
  have hbl := Py a
  have ha' : a.length ≤ 140737488355328 := by simp only [W3] at ha; omega
  rw [D3 X7]
  refine Q00 a ha' ?_
  (try simp only [↓Mr, Mr, Mb, reduceIte])
  rw [B6 (n := 2 * ((V8 a).2 : Int)) (by omega) (by omega), B6 (by omega) (by omega), I1 X7 (by omega) (by omega)]
  rw [show ((a.length : Int) - 2 * ((V8 a).2 : Int)).toNat = a.length - 2 * (V8 a).2 from by omega, Q1m]
  exact h)
theorem Q7e {s : X0} (hs : X6 w σ) (hl : Sl 8 U7 σ v l) (hb : s.length ≤ W3) (h : K (.bool (kindM l s)) w) : Q1 P F.bf [v, S s] w K := Gs (by
  unfold Lj
  have ha' : s.length ≤ 140737488355328 := by simp only [W3] at hb; omega
  unfold kindM at h
  refine Nr ?_
  by_cases h1 : s = Yw
  · have : decide (s = [110, 117, 108, 108]) = true := by rw [decide_eq_true_eq]; exact h1
    simp only [this, ↓Mm, Mm, ↓Mr, Mr, Mb, reduceIte]
    simp only [h1, decide_true, Bool.true_or] at h
    exact h
  · have : decide (s = [110, 117, 108, 108]) = false := by rw [decide_eq_false_iff_not]; exact h1
    simp only [this, ↓Mm, Mm, ↓Mr, Mr, Mb, reduceIte]
    simp only [h1, decide_false, Bool.false_or] at h
    refine Jt s ha' ?_
    cases hr : right s with
    | false => (try simp only [↓Mm, Mm, ↓Mr, Mr, Mb, reduceIte]); simpa [hr] using h
    | true =>
      (try simp only [↓Mm, Mm, ↓Mr, Mr, Mb, reduceIte])
      refine Q2S hb ?_
      (try simp only [↓Mm, Mm, ↓Mr, Mr, Mb, reduceIte])
      refine Gx _ ?_
      simp only [hr, Bool.true_and] at h
      cases hp : plain (V8 s).1 with
      | true => (try simp only [↓Mm, Mm, ↓Mr, Mr, Mb, reduceIte]); simpa [hp] using h
      | false =>
        (try simp only [↓Mm, Mm, ↓Mr, Mr, Mb, reduceIte])
        refine Q2S hb ?_
        (try simp only [↓Mm, Mm, ↓Mr, Mr, Mb, reduceIte])
        refine K3 hs hl ?_
        refine Vh ?_
        rw [Yv]
        (try simp only [↓Mm, Mm, ↓Mr, Mr, Mb, reduceIte])
        simpa [hp, hasM] using h)
end Go.Proofs.YtdnfaboigajkhaaGreatDoor

namespace Go.Proofs.YtdnfaboigajkhaaGreatDoor
open Go.Emb Go.RowKit Go.Kd Go.Hm
variable {w : World} {K : Value → World → Prop} {σ : Q5} {l : List Cla} {v : Value}
theorem Q6f {s : X0} (hs : X6 w σ) (hl : Sl 8 U7 σ v l) (hb : s.length ≤ W3) (h : K (.bool (thereM l s)) w) : Q1 P F.b8 [v, S s] w K := Sv (by
  unfold Vi
  unfold thereM at h
  refine Nd ?_
  have e : decide (s = [110, 117, 108, 108]) = decide (s = Yw) := rfl
  rw [e]
  cases hn : decide (s = Yw) with
  | true =>
    rw [hn] at h
    (try simp only [↓Mm, Mm, ↓Mr, Mr, Mb, reduceIte])
    exact h
  | false =>
    rw [hn] at h
    (try simp only [↓Mm, Mm, ↓Mr, Mr, Mb, reduceIte])
    refine Q7e hs hl hb ?_
    (try simp only [↓Mm, Mm, ↓Mr, Mr, Mb, reduceIte])
    simpa using h)
end Go.Proofs.YtdnfaboigajkhaaGreatDoor

namespace Go.Proofs.YtdnfaboigajkhaaGreatDoor
open Go.Emb Go.RowKit Go.Kd Go.Hm
variable {w : World} {K : Value → World → Prop} {σ : Q5} {l : List Cla} {v : Value}
def Dh (c : Cla) (n : X0) : Option Nat := c.methods.findIdx? fun m => decide (m.name = n)
theorem Q4i {c : Cla} {cs : List Value} {n : X0} (hs : X6 w σ) (hc : U7 σ c cs) (h : ∀ w' σ', Stp w σ w' σ' → K (I (L6 (Dh c n))) w') : Q1 P F.aL [.agg cs.toArray, S n] w K := Ka (by
  unfold Mo
  obtain ⟨lv, fv, mv, rfl, f1, f2, f3, f4, f5⟩ := hc
  refine Z4 hs fun q w0 σ0 hk0 hq => ?_
  have f3 := f3.up hk0
  refine V2 c.methods.length (fun k w' => w' = w0 ∧ ∀ j (hj : j < c.methods.length), j < k → ¬ c.methods[j].name = n) ⟨rfl, fun j _ h => by omega⟩ fun k w1 d hk hi => ?_
  obtain ⟨rfl, hno⟩ := hi
  rw [fa]
  refine ld hk0.sat hq rfl ?_
  refine Q6 f3 ?_
  refine Z5 ?_
  refine Q4 (fun hc => ?_) (fun hc => ?_)
  · have hk' : k < c.methods.length := by simpa using hc
    rw [fa]
    refine ld hk0.sat hq rfl ?_
    refine L2 f3 hk' fun p cells hl1 hl2 hr => ?_
    obtain ⟨pv, cv, hv, rfl, g1, g2, g3, g4, g5⟩ := hr
    rw [fa]
    refine ld hk0.sat hl1 rfl ?_
    refine Nr ?_
    refine Q4 (fun he => ?_) (fun he => ?_)
    · have he : c.methods[k].name = n := by simpa using he
      have : Dh c n = some k := by
        unfold Dh
        rw [List.findIdx?_eq_some_iff_getElem]
        exact ⟨hk', by simpa using he, fun j hj => by simpa using hno j (by omega) hj⟩
      rw [this] at h
      exact h _ _ hk0
    · have he : ¬ c.methods[k].name = n := by simpa using he
      refine O5 ?_
      refine Y5 f3.max hk' ⟨rfl, fun j hj hjk => ?_⟩
      by_cases e : j = k
      · subst e; exact he
      · exact hno j hj (by omega)
  · have hk' : ¬ k < c.methods.length := by simpa using hc
    have : Dh c n = none := by
      unfold Dh
      rw [List.findIdx?_eq_none_iff]
      intro m hm
      obtain ⟨j, hj, rfl⟩ := List.getElem_of_mem hm
      simpa using hno j hj (by omega)
    rw [this] at h
    exact h _ _ hk0)
end Go.Proofs.YtdnfaboigajkhaaGreatDoor

namespace Go.Proofs.YtdnfaboigajkhaaGreatDoor
open Go.Emb Go.RowKit Go.Kd Go.Hm
variable {w : World} {K : Value → World → Prop} {σ : Q5} {l : List Cla} {v : Value}
theorem Ma {n : X0} {d : Cla} (hs : X6 w σ) (hl : Sl 8 U7 σ v l) (hd : lk l n = some d) (h : ∀ i : Nat, l[i]? = some d → Y7 l n = some i → K (I i) w) : Q1 P F.b [v, S n] w K := by
  obtain ⟨_, _, i, h1, h2⟩ := V6 hd
  refine K3 hs hl ?_
  rw [h1]; exact h i h2 h1
theorem Eh {n : X0} (hs : X6 w σ) (hl : Sl 8 U7 σ v l) (hd : lk l n = none) (h : K (I (-1)) w) : Q1 P F.b [v, S n] w K := by
  refine K3 hs hl ?_
  cases hf : Y7 l n with
  | none => exact h
  | some i => obtain ⟨c, hc, _⟩ := Xc hf; rw [hd] at hc; cases hc
end Go.Proofs.YtdnfaboigajkhaaGreatDoor

namespace Go.Proofs.YtdnfaboigajkhaaGreatDoor
open Go.Emb Go.RowKit Go.Kd Go.Hm
variable {w : World} {K : Value → World → Prop} {σ : Q5} {l : List Cla} {v : Value}
theorem Q5k : decide ((-1 : Int) < 0) = true := by decide
theorem Q0E (i : Nat) : decide ((i : Int) < 0) = false := by rw [decide_eq_false_iff_not]; omega
theorem Q4R {c : Cla} {cs : List Value} (hs : X6 w σ) (hl : Sl 8 U7 σ v l) (hc : U7 σ c cs) (h : ∀ w' σ', Stp w σ w' σ' → K (I (uppersM l c)) w') : Q1 P F.aV [v, .agg cs.toArray] w K := Hx (by
  unfold Ub
  obtain ⟨lv, fv, mv, rfl, f1, f2, f3, f4, f5⟩ := hc
  refine Z4 hs fun q w0 σ0 hk0 hq => ?_
  have f1 := f1.up hk0
  have hl0 := hl.up hk0
  have hs0 := hk0.sat
  have hup : ∀ n : Nat, uppersM l c = n → K (I n) w0 := fun n e => by rw [← e]; exact h _ _ hk0
  clear h
  (try simp only [↓Mm, Mm, ↓Mr, Mr, Mb, reduceIte])
  refine ld hs0 hq rfl ?_
  have hbad : F8 l c.super = true → K (I (61 : Nat)) w0 := fun e => hup 61 (by unfold uppersM; rw [if_pos e])
  cases hd : lk l c.super with
  | none =>
    refine Eh hs0 hl0 hd ?_
    simp only [Q5k, ↓Mm, Mm, ↓Mr, Mr, Mb, reduceIte]
    exact hbad (by unfold F8; rw [hd])
  | some d =>
    refine Ma hs0 hl0 hd fun i hi hf => ?_
    obtain ⟨hil, hid⟩ := List.getElem?_eq_some_iff.1 hi
    simp only [Q0E, ↓Mm, Mm, ↓Mr, Mr, Mb, reduceIte]
    refine Y4 hl0 hil ?_
    obtain ⟨lv', fv', mv', p1, r1⟩ := hl0.elC hil
    rw [hid] at p1
    (try simp only [↓Mm, Mm, ↓Mr, Mr, Mb, reduceIte])
    refine ld hs0 p1 rfl ?_
    have hsb : F8 l c.super = (d.iface || d.fin) := by unfold F8; rw [hd]
    cases hif : d.iface with
    | true =>
      rw [hif] at hsb
      (try simp only [↓Mm, Mm, ↓Mr, Mr, Mb, reduceIte])
      exact hbad (by rw [hsb]; rfl)
    | false =>
      rw [hif] at hsb
      (try simp only [↓Mm, Mm, ↓Mr, Mr, Mb, reduceIte])
      refine Y4 hl0 hil ?_
      (try simp only [↓Mm, Mm, ↓Mr, Mr, Mb, reduceIte])
      refine ld hs0 p1 rfl ?_
      cases hfn : d.fin with
      | true =>
        rw [hfn] at hsb
        (try simp only [↓Mm, Mm, ↓Mr, Mr, Mb, reduceIte])
        exact hbad (by rw [hsb]; rfl)
      | false =>
        rw [hfn] at hsb
        have hok : F8 l c.super = false := hsb
        (try simp only [↓Mm, Mm, ↓Mr, Mr, Mb, reduceIte])
        refine V2 c.like.length (fun k w' => w' = w0 ∧ (c.like.take k).any (N0 l) = false) ⟨rfl, rfl⟩ fun k w1 d1 hk hi1 => ?_
        obtain ⟨hw, hno⟩ := hi1
        subst hw
        (try simp only [↓Mm, Mm, ↓Mr, Mr, Mb, reduceIte])
        refine ld hs0 hq rfl ?_
        refine Q6 f1 ?_
        refine Z5 ?_
        refine Q4 (fun hc => ?_) (fun hc => ?_)
        · have hk' : k < c.like.length := by simpa using hc
          have hyes : N0 l c.like[k] = true → K (I (62 : Nat)) w1 := fun e => hup 62 (by
            unfold uppersM; rw [hok, R6 hk' e]; rfl)
          have hnext : N0 l c.like[k] = false → (c.like.take (k + 1)).any (N0 l) = false := fun e => by rw [M8 hk', hno, e]; rfl
          (try simp only [↓Mm, Mm, ↓Mr, Mr, Mb, reduceIte])
          refine ld hs0 hq rfl ?_
          refine Y4 f1 hk' ?_
          obtain ⟨p2, _⟩ := f1.elS hk'
          refine X8 hs0 p2 rfl ?_
          cases hu : lk l c.like[k] with
          | none =>
            refine Eh hs0 hl0 hu ?_
            simp only [Q5k, ↓Mm, Mm, ↓Mr, Mr, Mb, reduceIte]
            exact hyes (by unfold N0; rw [hu])
          | some e =>
            refine Ma hs0 hl0 hu fun j hj hfj => ?_
            obtain ⟨hjl, hjd⟩ := List.getElem?_eq_some_iff.1 hj
            simp only [Q0E, ↓Mm, Mm, ↓Mr, Mr, Mb, reduceIte]
            refine Y4 hl0 hjl ?_
            obtain ⟨lv3, fv3, mv3, p3, r3⟩ := hl0.elC hjl
            rw [hjd] at p3
            (try simp only [↓Mm, Mm, ↓Mr, Mr, Mb, reduceIte])
            refine ld hs0 p3 rfl ?_
            have hlb : N0 l c.like[k] = !e.iface := by unfold N0; rw [hu]
            cases hie : e.iface with
            | true =>
              rw [hie] at hlb
              (try simp only [↓Mm, Mm, ↓Mr, Mr, Mb, reduceIte])
              exact Y5 f1.max hk' ⟨rfl, hnext hlb⟩
            | false =>
              rw [hie] at hlb
              (try simp only [↓Mm, Mm, ↓Mr, Mr, Mb, reduceIte])
              exact hyes hlb
        · have hk' : ¬ k < c.like.length := by simpa using hc
          rw [O9 hk'] at hno
          exact hup 0 (by unfold uppersM; rw [hok, hno]; rfl))
end Go.Proofs.YtdnfaboigajkhaaGreatDoor

namespace Go.Proofs.YtdnfaboigajkhaaGreatDoor
open Go.Emb Go.RowKit Go.Kd Go.Hm
variable {w : World} {K : Value → World → Prop} {σ : Q5} {l : List Cla} {v : Value}
theorem Q45 {n : X0} (h : lk l n = none) : fieldsM l n = [] := by unfold fieldsM; rw [Qk h]; rfl
theorem Q3S (ha : Qv l) {n : X0} {c : Cla} (h : lk l n = some c) : fieldsM l n = fieldsM l c.super ++ c.fields := by
  unfold fieldsM
  rw [F7 ha, h]
  simp
theorem Q4S (hsm : ∀ c ∈ l, G3 c) (n : X0) : (fieldsM l n).length ≤ (l.length + 1) * 1000000 := by
  unfold fieldsM
  have h1 := K0 (fun c : Cla => c.fields) 1000000 (chain l n).reverse fun c hc => (hsm c (Ir (by simpa using hc))).2.1
  have h2 := Eu l n
  rw [List.length_reverse] at h1
  exact Nat.le_trans h1 (Nat.mul_le_mul_right _ h2)
theorem Tv {n : X0} (hd : lk l n = none) (hs : X6 w σ) (hv : Sl 8 U7 σ v l) (h : ∀ v' w' σ', Stp w σ w' σ' → Sl 3 D7 σ' v' (fieldsM l n) → K v' w') : Q1 P F.w [v, S n] w K := Ua (by
  unfold T1
  refine Eh hs hv hd ?_
  simp only [Q5k, ↓Mm, Mm, ↓Mr, Mr, Mb, reduceIte]
  exact h _ _ _ (Stp.refl hs) (by rw [Q45 hd]; exact Sl.nil))
theorem Q3T (ha : Qv l) (hl : l.length ≤ 1000) (hsm : ∀ c ∈ l, G3 c) : ∀ (k : Nat) {n : X0} {w : World} {σ : Q5} {K : Value → World → Prop}, (lk l n = none ∨ H7 l n < k) → X6 w σ → Sl 8 U7 σ v l →
    (∀ v' w' σ', Stp w σ w' σ' → Sl 3 D7 σ' v' (fieldsM l n) → K v' w') → Q1 P F.w [v, S n] w K := by
  intro k
  induction k with
  | zero =>
    intro n w σ K hk hs hv h
    rcases hk with hk | hk
    · exact Tv hk hs hv h
    · omega
  | succ k ih =>
    intro n w σ K hk hs hv h
    cases hd : lk l n with
    | none => exact Tv hd hs hv h
    | some c =>
      have hk : H7 l n < k + 1 := by
        rcases hk with hk | hk
        · rw [hd] at hk; cases hk
        · exact hk
      refine Ua ?_
      unfold T1
      refine Ma hs hv hd fun i hi hf => ?_
      obtain ⟨hil, hid⟩ := List.getElem?_eq_some_iff.1 hi
      simp only [Q0E, ↓Mm, Mm, ↓Mr, Mr, Mb, reduceIte]
      obtain ⟨lv, fv, mv, p1, r1⟩ := hv.elC hil
      rw [hid] at p1 r1
      obtain ⟨_, g2, _, _, _⟩ := r1.parts
      have hup : lk l c.super = none ∨ H7 l c.super < k := by
        cases hu : lk l c.super with
        | none => exact .inl rfl
        | some d =>
          have := B8 ha hd (u := c.super) (by simp [U9]) hu
          right; omega
      have hfl := Q4S hsm c.super
      have hcl := (hsm c (V6 hd).2.1).2.1
      have hmul : (l.length + 1) * 1000000 ≤ 1001 * 1000000 := Nat.mul_le_mul_right _ (by omega)
      refine W1 hs ?_
      (repeat (apply L9; (· intros; (repeat (rename_i hx; subst hx)); (repeat' (first | (with_reducible exact U8 rfl) | (with_reducible exact V9 (Stp.bel (by (repeat (first | exact Stp.refl (by (first | assumption | exact Stp.sat (by assumption) | exact Hst.sat (by assumption))) | assumption | refine Stp.trans ?_ (by first | assumption | exact Hst.stp (by assumption)))))) rfl) | (with_reducible intro _) | (simp only [↓Mm, Mm, ↓Mp, Mp, Mb, reduceIte])  | (with_reducible show Q2 _ _ _ _ _; first | refine X8 aS aL aR ?_ | refine Y3 aS aL aR ?_ | refine ld aS aL aR ?_) | (with_reducible show indexAddr _ _ _ _ _ _; refine Y4 aL au ?_) | (with_reducible show X4 _ _ _ _ _ _ _ _; refine Q6 aL ?_) | (with_reducible show D1 _ _ _ _ _ _; refine Y6 aR ?_) | (with_reducible show pick _ _ _ _ _ _; refine W8 ?_) | (apply W9; intro hh; (try simp only [hh, reduceIte, ↓Mm, Mm, ↓Mp, Mp, Mb, reduceIte])))); done)))
      refine Q51 (R := D7) (by decide) ?_
      (repeat (apply L9; (· intros; (repeat (rename_i hx; subst hx)); (repeat' (first | (with_reducible exact U8 rfl) | (with_reducible exact V9 (Stp.bel (by (repeat (first | exact Stp.refl (by (first | assumption | exact Stp.sat (by assumption) | exact Hst.sat (by assumption))) | assumption | refine Stp.trans ?_ (by first | assumption | exact Hst.stp (by assumption)))))) rfl) | (with_reducible intro _) | (simp only [↓Mm, Mm, ↓Mp, Mp, Mb, reduceIte])  | (with_reducible show Q2 _ _ _ _ _; first | refine X8 aS aL aR ?_ | refine Y3 aS aL aR ?_ | refine ld aS aL aR ?_) | (with_reducible show indexAddr _ _ _ _ _ _; refine Y4 aL au ?_) | (with_reducible show X4 _ _ _ _ _ _ _ _; refine Q6 aL ?_) | (with_reducible show D1 _ _ _ _ _ _; refine Y6 aR ?_) | (with_reducible show pick _ _ _ _ _ _; refine W8 ?_) | (apply W9; intro hh; (try simp only [hh, reduceIte, ↓Mm, Mm, ↓Mp, Mp, Mb, reduceIte])))); done)))
      refine Ee (w := w) (σ := σ) (Φ := fun σ' v => Sl 3 D7 σ' v (fieldsM l c.super)) (fun t w hb e => ?_) ?_
      · subst e; exact ih hup hb.sat hv fun v' w' σ' hk hv' => Ax hb hk hv'
      refine Q17 (w := w) (σ := σ) (R := D7) (sz := 3) (e := T.i) (fieldsM l c.super) (fun t11 t18 w hb f11 f18 => ?_) ?_
      · obtain ⟨k1, a1, e1⟩ := f11
        obtain ⟨σ2, k2, s2⟩ := f18
        exact Q7K k1 a1 e1 k2.sat s2 (fun _ _ h => h) rfl (by omega) (by omega) fun v' w' hk ha => Q2i hb hk ha
      (repeat (apply L9; (· intros; (repeat (rename_i hx; subst hx)); (repeat' (first | (with_reducible exact U8 rfl) | (with_reducible exact V9 (Stp.bel (by (repeat (first | exact Stp.refl (by (first | assumption | exact Stp.sat (by assumption) | exact Hst.sat (by assumption))) | assumption | refine Stp.trans ?_ (by first | assumption | exact Hst.stp (by assumption)))))) rfl) | (with_reducible intro _) | (simp only [↓Mm, Mm, ↓Mp, Mp, Mb, reduceIte])  | (with_reducible show Q2 _ _ _ _ _; first | refine X8 aS aL aR ?_ | refine Y3 aS aL aR ?_ | refine ld aS aL aR ?_) | (with_reducible show indexAddr _ _ _ _ _ _; refine Y4 aL au ?_) | (with_reducible show X4 _ _ _ _ _ _ _ _; refine Q6 aL ?_) | (with_reducible show D1 _ _ _ _ _ _; refine Y6 aR ?_) | (with_reducible show pick _ _ _ _ _ _; refine W8 ?_) | (apply W9; intro hh; (try simp only [hh, reduceIte, ↓Mm, Mm, ↓Mp, Mp, Mb, reduceIte])))); done)))
      rintro t15 t16 t22 t23 t11 t17 t18 t19 t24 w2 hb2 rfl rfl rfl rfl _ rfl _ ⟨f19, a19⟩ rfl
      refine Nv f19 a19 g2 rfl (by omega) (by omega) fun v' w3 hn3 hS3 ha3 _ => ?_
      obtain ⟨σ4, hS4, hv4, _⟩ := ha3.keep hS3
      exact h _ _ _ hS4 (by rw [Q3S ha hd]; exact hv4)
theorem Q55 {n : X0} (hs : X6 w σ) (hv : Sl 8 U7 σ v l) (ha : Qv l) (hl : l.length ≤ 1000) (hsm : ∀ c ∈ l, G3 c) (h : ∀ v' w' σ', Stp w σ w' σ' → Sl 3 D7 σ' v' (fieldsM l n) → K v' w') : Q1 P F.w [v, S n] w K :=
  Q3T ha hl hsm _ (.inr (Nat.lt_succ_self _)) hs hv h
theorem Q63 {n f : X0} (hs : X6 w σ) (hv : Sl 8 U7 σ v l) (ha : Qv l) (hl : l.length ≤ 1000) (hsm : ∀ c ∈ l, G3 c) (h : ∀ w' σ', Stp w σ w' σ' → K (I (L6 (placeM l n f))) w') : Q1 P F.aZ [v, S n, S f] w K := Sx (by
  unfold Vz
  refine Q55 hs hv ha hl hsm fun v1 w1 σ1 hk1 hv1 => ?_
  have hp : ∀ o, placeM l n f = o → K (I (L6 o)) w1 := fun o e => by rw [← e]; exact h _ _ hk1
  unfold placeM at hp
  generalize fieldsM l n = fs at hv1 hp
  refine V2 fs.length (fun k w' => w' = w1 ∧ ∀ j (hj : j < fs.length), j < k → ¬ fs[j].name = f) ⟨rfl, fun j _ h => by omega⟩ fun k w2 d hk hi => ?_
  obtain ⟨hw, hno⟩ := hi
  subst hw
  refine Q6 hv1 ?_
  refine Z5 ?_
  refine Q4 (fun hc => ?_) (fun hc => ?_)
  · have hk' : k < fs.length := by simpa using hc
    refine Y4 hv1 hk' ?_
    obtain ⟨p1, _⟩ := hv1.elF hk'
    (try simp only [↓Mm, Mm, ↓Mr, Mr, Mb, reduceIte])
    refine ld hk1.sat p1 rfl ?_
    refine Nr ?_
    refine Q4 (fun he => ?_) (fun he => ?_)
    · have he : fs[k].name = f := by simpa using he
      exact hp (some k) (by
        rw [List.findIdx?_eq_some_iff_getElem]
        exact ⟨hk', by simpa using he, fun j hj => by simpa using hno j (by omega) hj⟩)
    · have he : ¬ fs[k].name = f := by simpa using he
      (try simp only [↓Mm, Mm, ↓Mr, Mr, Mb, reduceIte])
      refine Y5 hv1.max hk' ⟨rfl, fun j hj hjk => ?_⟩
      by_cases e : j = k
      · subst e; exact he
      · exact hno j hj (by omega)
  · have hk' : ¬ k < fs.length := by simpa using hc
    exact hp none (by
      rw [List.findIdx?_eq_none_iff]
      intro m hm
      obtain ⟨j, hj, rfl⟩ := List.getElem_of_mem hm
      simpa using hno j hj (by omega)))
end Go.Proofs.YtdnfaboigajkhaaGreatDoor

namespace Go.Proofs.YtdnfaboigajkhaaGreatDoor
open Go.Emb Go.RowKit Go.Kd Go.Hm
variable {w : World} {K : Value → World → Prop} {σ : Q5} {l : List Cla} {v : Value}
theorem Q1x {c : Cla} {n : X0} (h : Dh c n = none) : H8 c n = none := by
  unfold H8 Dh at *
  rw [List.findIdx?_eq_none_iff] at h
  rw [List.find?_eq_none]
  intro m hm
  have := h m hm
  simpa using this
theorem Q4k {c : Cla} {n : X0} {i : Nat} (h : Dh c n = some i) : ∃ hi : i < c.methods.length, H8 c n = some c.methods[i] := by
  unfold H8 Dh at *
  obtain ⟨hi, hp, hj⟩ := List.findIdx?_eq_some_iff_getElem.1 h
  refine ⟨hi, List.find?_eq_some_iff_getElem.2 ⟨hp, i, hi, rfl, fun j hjl => ?_⟩⟩
  have := hj j hjl
  simpa using this
theorem Q1u {n : X0} (h : lk l n = none) : Y7 l n = none := by
  cases hf : Y7 l n with
  | none => rfl
  | some i => obtain ⟨c, hc, _⟩ := Xc hf; rw [h] at hc; cases hc
set_option maxHeartbeats 1000000 in
theorem Q6l {n : X0} (ok : Ok l) : ∀ (k : Nat) {c : Cla} {cs : List Value} {w : World} {σ : Q5} {K : Value → World → Prop}, H7 l c.name < k → lk l c.name = some c → X6 w σ → Sl 8 U7 σ v l → U7 σ c cs →
    (∀ pv cv hv w' σ', Stp w σ w' σ' → M9 σ' (o2 (V7 l c n)) [S (o2 (V7 l c n)).name, pv, S (o2 (V7 l c n)).result, .bool (o2 (V7 l c n)).abs, I (o2 (V7 l c n)).locals, cv, hv] →
      K (.tuple #[S (o1 (V7 l c n)), .agg [S (o2 (V7 l c n)).name, pv, S (o2 (V7 l c n)).result, .bool (o2 (V7 l c n)).abs, I (o2 (V7 l c n)).locals, cv, hv].toArray, .bool (V7 l c n).isSome]) w') →
    Q1 P F.az [v, .agg cs.toArray, S n] w K := by
  intro k
  induction k with
  | zero =>
    intro c cs w σ K hk
    omega
  | succ k ih =>
    intro c cs w σ K hk hc hs hv hr h
    refine Bk ?_
    obtain ⟨lv, fv, mv, rfl, g1, g2, g3, g4, g5⟩ := hr
    have heq := Q1Q ok.acy hc n
    generalize hf : (fun u => match lk l u with | none => none | some d => match H8 d n with | some m => some (u, m) | none => V7 l d n) = f at heq
    unfold Vo
    refine Z4 hs fun a w1 σ1 hk1 ha1 => ?_
    refine T7 hk1.sat fun b w2 σ2 hb hk2 hm2 => ?_
    have hb0 : w.heap.size ≤ b := Yn hb hk1
    have ha2 := ha1.up hk2
    have g1 := (g1.up hk1).up hk2
    refine V2 c.like.length (fun i w' => ∃ σ', Stp w σ w' σ' ∧ SLe σ2 σ' ∧ V4 σ' w' b [S [], .slice none 0 0, S [], .bool false, I 0, .slice none 0 0, .slice none 0 0] ∧ (c.like.take i).findSome? f = none) ⟨σ2, hk1.trans hk2, SLe.refl _, hm2, rfl⟩ fun i w3 d hi hinv => ?_
    obtain ⟨σ3, hS3, le3, hm3, hno⟩ := hinv
    have hv3 := hv.up hS3
    have ha3 := ha2.lift le3
    have g13 := g1.lift le3
    (try simp only [↓Mm, Mm, ↓Mr, Mr, Mb, reduceIte])
    refine ld hS3.sat ha3 rfl ?_
    refine Q6 g13 ?_
    refine Z5 ?_
    refine Q4 (fun hh => ?_) (fun hh => ?_)
    · have hi' : i < c.like.length := by simpa using hh
      (try simp only [↓Mm, Mm, ↓Mr, Mr, Mb, reduceIte])
      refine ld hS3.sat ha3 rfl ?_
      refine Y4 g13 hi' ?_
      obtain ⟨p0, _⟩ := g13.elS hi'
      refine X8 hS3.sat p0 rfl ?_
      obtain ⟨d, hd⟩ := ok.full c (V6 hc).2.1 _ (List.getElem_mem hi')
      obtain ⟨hdn, hdm, _⟩ := V6 hd
      have hfx : f c.like[i] = match H8 d n with | some m => some (c.like[i], m) | none => V7 l d n := by rw [← hf]; simp only [hd]
      refine Ma hS3.sat hv3 hd fun j hj hfj => ?_
      obtain ⟨hjl, hjd⟩ := List.getElem?_eq_some_iff.1 hj
      refine Y4 hv3 hjl ?_
      obtain ⟨lv', fv', mv', p1, r1⟩ := hv3.elC hjl
      rw [hjd] at p1 r1
      refine Y3 hS3.sat p1 rfl ?_
      refine Y0 hS3.sat (by rfl) rfl (Rep.one r1) fun q w4 σ4 hk4 hq4 => ?_
      refine Y3 hk4.sat hq4 rfl ?_
      refine Q4i hk4.sat (H2 r1 ⟨hk4.le⟩) fun w5 σ5 hk5 => ?_
      refine Vh ?_
      rw [Yv]
      have hS5 := (hS3.trans hk4).trans hk5
      have hm5 := (hm3.step hk4).step hk5
      have hq5 := hq4.up hk5
      have r5 := H2 r1 ⟨(hk4.trans hk5).le⟩
      have hs5 := hk5.sat
      have le5 : SLe σ2 σ5 := le3.more ⟨(hk4.trans hk5).le⟩
      clear hq4 p1 r1 p0 ha3 g13 hk4 hk5
      cases ho : Dh d n with
      | some i2 =>
        obtain ⟨hi2, hom⟩ := Q4k ho
        rw [hom] at hfx
        simp only [Option.isSome_some, L6, ↓Mm, Mm, ↓Mr, Mr, Mb, reduceIte]
        obtain ⟨_, _, hmv, _, _⟩ := r5.parts
        obtain ⟨pv, cv, hv2, p2, r2⟩ := hmv.elM hi2
        refine W1 hs5 ?_
        (repeat (apply L9; (· intros; (repeat (rename_i hx; subst hx)); (repeat' (first | (with_reducible exact U8 rfl) | (with_reducible exact V9 (Stp.bel (by (repeat (first | exact Stp.refl (by (first | assumption | exact Stp.sat (by assumption) | exact Hst.sat (by assumption))) | assumption | refine Stp.trans ?_ (by first | assumption | exact Hst.stp (by assumption)))))) rfl) | (with_reducible intro _) | (simp only [↓Mm, Mm, ↓Mp, Mp, Mb, reduceIte])  | (with_reducible show Q2 _ _ _ _ _; first | refine X8 aS aL aR ?_ | refine Y3 aS aL aR ?_ | refine ld aS aL aR ?_) | (with_reducible show indexAddr _ _ _ _ _ _; refine Y4 aL au ?_) | (with_reducible show X4 _ _ _ _ _ _ _ _; refine Q6 aL ?_) | (with_reducible show D1 _ _ _ _ _ _; refine Y6 aR ?_) | (with_reducible show pick _ _ _ _ _ _; refine W8 ?_) | (apply W9; intro hh; (try simp only [hh, reduceIte, ↓Mm, Mm, ↓Mp, Mp, Mb, reduceIte])))); done)))
        (intros; (repeat (rename_i hx; subst hx)); (try simp only [↓Mm, Mm, ↓Mp, Mp, Mb, reduceIte]))
        rename_i w6 hb6
        refine I5 (hm5.step hb6.stp) (hS5.trans hb6.stp) hb0 rfl rfl (Rep.one r2) fun w8 hS8 hm8 => ?_
        refine M6 hm8 rfl ?_
        have hl := heq.trans (P8 hi' hno hfx)
        rw [hl] at h
        rw [hdn]
        exact h _ _ _ w8 σ5 hS8.stp r2
      | none =>
        rw [Q1x ho] at hfx
        simp only [Option.isSome_none, ↓Mm, Mm, ↓Mr, Mr, Mb, reduceIte]
        refine Y3 hs5 hq5 rfl ?_
        have hrk := B8 ok.acy hc (by simp [U9, List.getElem_mem hi'] : c.like[i] ∈ U9 c) hd
        refine ih (by rw [hdn]; omega) (by rw [hdn]; exact hd) hs5 (hv.up hS5) r5 fun pv cv hv8 w8 σ8 hk8 hr8 => ?_
        refine M5 (vs := [_, _, _]) rfl ?_
        refine M5 (vs := [_, _, _]) rfl ?_
        refine M5 (vs := [_, _, _]) rfl ?_
        refine Y0 hk8.sat (by rfl) rfl (Rep.one hr8) fun q w9 σ9 hk9 hq9 => ?_
        have hS9 := (hS5.trans hk8).trans hk9
        have hm9 := (hm5.step hk8).step hk9
        have hr9 := S6 hr8 ⟨hk9.le⟩
        have le9 : SLe σ2 σ9 := le5.more ⟨(hk8.trans hk9).le⟩
        have hs9 := hk9.sat
        cases hl : V7 l d n with
        | some r =>
          obtain ⟨s, m⟩ := r
          rw [hl] at hfx hr9 hq9
          clear hr8 hk8 hk9
          simp only [hl, Option.isSome_some, ↓Mm, Mm, ↓Mr, Mr, Mb, reduceIte]
          refine W1 hs9 ?_
          (repeat (apply L9; (· intros; (repeat (rename_i hx; subst hx)); (repeat' (first | (with_reducible exact U8 rfl) | (with_reducible exact V9 (Stp.bel (by (repeat (first | exact Stp.refl (by (first | assumption | exact Stp.sat (by assumption) | exact Hst.sat (by assumption))) | assumption | refine Stp.trans ?_ (by first | assumption | exact Hst.stp (by assumption)))))) rfl) | (with_reducible intro _) | (simp only [↓Mm, Mm, ↓Mp, Mp, Mb, reduceIte])  | (with_reducible show Q2 _ _ _ _ _; first | refine X8 aS aL aR ?_ | refine Y3 aS aL aR ?_ | refine ld aS aL aR ?_) | (with_reducible show indexAddr _ _ _ _ _ _; refine Y4 aL au ?_) | (with_reducible show X4 _ _ _ _ _ _ _ _; refine Q6 aL ?_) | (with_reducible show D1 _ _ _ _ _ _; refine Y6 aR ?_) | (with_reducible show pick _ _ _ _ _ _; refine W8 ?_) | (apply W9; intro hh; (try simp only [hh, reduceIte, ↓Mm, Mm, ↓Mp, Mp, Mb, reduceIte])))); done)))
          (intros; (repeat (rename_i hx; subst hx)); (try simp only [↓Mm, Mm, ↓Mp, Mp, Mb, reduceIte]))
          rename_i w10 hb10
          refine I5 (hm9.step hb10.stp) (hS9.trans hb10.stp) hb0 rfl rfl (Rep.one hr9) fun w11 hS11 hm11 => ?_
          refine M6 hm11 rfl ?_
          have hl2 := heq.trans (P8 hi' hno hfx)
          rw [hl2] at h
          exact h _ _ _ w11 σ9 hS11.stp hr9
        | none =>
          rw [hl] at hfx
          simp only [Option.isSome_none, ↓Mm, Mm, ↓Mr, Mr, Mb, reduceIte]
          refine Y5 (by have := g1.max; omega) hi' ⟨σ9, hS9, le9, hm9, ?_⟩
          rw [T6 hi' hno]; exact hfx
    · have hi' : ¬ i < c.like.length := by simpa using hh
      rw [List.take_of_length_le (by omega)] at hno
      refine Hu ?_
      refine I5 hm3 hS3 hb0 rfl rfl (Rep.one (K6 (σ := σ3))) fun w5 hS5 hm5 => ?_
      refine M6 hm5 rfl ?_
      have hl := heq.trans hno
      rw [hl] at h
      exact h _ _ _ w5 σ3 hS5.stp K6
set_option maxHeartbeats 1000000 in
theorem Q5s {k n : X0} (hs : X6 w σ) (hv : Sl 8 U7 σ v l) (ok : Ok l)
    (h : ∀ pv cv hv w' σ', Stp w σ w' σ' → M9 σ' (o2 (methodM l k n)) [S (o2 (methodM l k n)).name, pv, S (o2 (methodM l k n)).result, .bool (o2 (methodM l k n)).abs, I (o2 (methodM l k n)).locals, cv, hv] →
      K (.tuple #[S (o1 (methodM l k n)), .agg [S (o2 (methodM l k n)).name, pv, S (o2 (methodM l k n)).result, .bool (o2 (methodM l k n)).abs, I (o2 (methodM l k n)).locals, cv, hv].toArray, .bool (methodM l k n).isSome]) w') :
    Q1 P F.aT [v, S k, S n] w K := Hw (by
  unfold Uc
  refine T7 hs fun b w1 σ1 hb hk1 hm1 => ?_
  refine K3 hk1.sat (hv.up hk1) ?_
  unfold methodM at h
  generalize hF : (fun c : Cla => (H8 c n).map (c.name, ·)) = F1 at h
  have hF' : ∀ c, F1 c = (H8 c n).map (c.name, ·) := fun c => by rw [← hF]
  refine Ct (fun m x w' => ∃ s dn σ', m = (chain l s).length ∧ x = I (L6 (Y7 l s)) ∧ chain l k = dn ++ chain l s ∧ Stp w σ w' σ' ∧ V4 σ' w' b [S [], .slice none 0 0, S [], .bool false, I 0, .slice none 0 0, .slice none 0 0] ∧ dn.findSome? F1 = none)
    (chain l k).length ⟨k, [], σ1, rfl, rfl, rfl, hk1, hm1, rfl⟩ ?_
  rintro again m x d w2 ⟨s, dn, σ2, rfl, rfl, hch, hS2, hm2, hno⟩ hag
  have hv2 := hv.up hS2
  have hs2 := hS2.sat
  refine Vh ?_
  rw [Yv]
  cases hd : lk l s with
  | some c =>
    obtain ⟨hcn, hcm, i, hfi, hli⟩ := V6 hd
    obtain ⟨hil, hid⟩ := List.getElem?_eq_some_iff.1 hli
    simp only [hfi, Option.isSome_some, L6, ↓Mm, Mm, ↓Mr, Mr, Mb, reduceIte]
    refine Y4 hv2 hil ?_
    obtain ⟨lv, fv, mv, p1, r1⟩ := hv2.elC hil
    rw [hid] at p1 r1
    refine Y3 hs2 p1 rfl ?_
    refine Q4i hs2 r1 fun w3 σ3 hk3 => ?_
    refine Vh ?_
    rw [Yv]
    have hS3 := hS2.trans hk3
    have hv3 := hv2.up hk3
    have hm3 := hm2.step hk3
    have hs3 := hk3.sat
    replace p1 := p1.up hk3
    replace r1 := H2 r1 ⟨hk3.le⟩
    have hce : chain l s = c :: chain l c.super := by rw [F7 ok.acy s, hd]
    cases ho : Dh c n with
    | some i2 =>
      obtain ⟨hi2, hom⟩ := Q4k ho
      simp only [Option.isSome_some, L6, ↓Mm, Mm, ↓Mr, Mr, Mb, reduceIte]
      obtain ⟨_, _, hmv, _, _⟩ := r1.parts
      obtain ⟨pv, cv, hv5, p2, r2⟩ := hmv.elM hi2
      clear hk3
      refine W1 hs3 ?_
      (repeat (apply L9; (· intros; (repeat (rename_i hx; subst hx)); (repeat' (first | (with_reducible exact U8 rfl) | (with_reducible exact V9 (Stp.bel (by (repeat (first | exact Stp.refl (by (first | assumption | exact Stp.sat (by assumption) | exact Hst.sat (by assumption))) | assumption | refine Stp.trans ?_ (by first | assumption | exact Hst.stp (by assumption)))))) rfl) | (with_reducible intro _) | (simp only [↓Mm, Mm, ↓Mp, Mp, Mb, reduceIte])  | (with_reducible show Q2 _ _ _ _ _; first | refine X8 aS aL aR ?_ | refine Y3 aS aL aR ?_ | refine ld aS aL aR ?_) | (with_reducible show indexAddr _ _ _ _ _ _; refine Y4 aL au ?_) | (with_reducible show X4 _ _ _ _ _ _ _ _; refine Q6 aL ?_) | (with_reducible show D1 _ _ _ _ _ _; refine Y6 aR ?_) | (with_reducible show pick _ _ _ _ _ _; refine W8 ?_) | (apply W9; intro hh; (try simp only [hh, reduceIte, ↓Mm, Mm, ↓Mp, Mp, Mb, reduceIte])))); done)))
      (intros; (repeat (rename_i hx; subst hx)); (try simp only [↓Mm, Mm, ↓Mp, Mp, Mb, reduceIte]))
      rename_i w4 hb4
      refine I5 (hm3.step hb4.stp) (hS3.trans hb4.stp) hb rfl rfl (Rep.one r2) fun w8 hS8 hm8 => ?_
      refine M6 hm8 rfl ?_
      have hfs : (chain l k).findSome? F1 = some (c.name, c.methods[i2]) := by
        rw [hch, List.findSome?_append, hno, hce, List.findSome?_cons, hF', hom]; rfl
      rw [hfs] at h
      exact h _ _ _ w8 σ3 hS8.stp r2
    | none =>
      simp only [Option.isSome_none, ↓Mm, Mm, ↓Mr, Mr, Mb, reduceIte]
      refine Y4 hv3 hil ?_
      (try simp only [↓Mm, Mm, ↓Mr, Mr, Mb, reduceIte])
      refine ld hs3 p1 rfl ?_
      refine K3 hs3 hv3 ?_
      refine hag (chain l c.super).length _ _ (by rw [hce, List.length_cons]; omega) ⟨c.super, dn ++ [c], σ3, rfl, rfl, by rw [hch, hce]; simp, hS3, hm3, ?_⟩
      rw [List.findSome?_append, hno]
      simp [hF', Q1x ho]
  | none =>
    rw [Q1u hd]
    simp only [Option.isSome_none, ↓Mm, Mm, ↓Mr, Mr, Mb, reduceIte]
    have hno1 : (chain l k).findSome? F1 = none := by rw [hch, Qk hd, List.append_nil]; exact hno
    rw [hno1] at h
    clear hag hno hch
    refine K3 hs2 hv2 ?_
    refine Ct (fun m x w' => ∃ s dn σ', m = (chain l s).length ∧ x = I (L6 (Y7 l s)) ∧ chain l k = dn ++ chain l s ∧ Stp w σ w' σ' ∧ V4 σ' w' b [S [], .slice none 0 0, S [], .bool false, I 0, .slice none 0 0, .slice none 0 0] ∧ dn.findSome? (fun c => V7 l c n) = none)
      (chain l k).length ⟨k, [], σ2, rfl, rfl, rfl, hS2, hm2, rfl⟩ ?_
    rintro again m x d w3 ⟨s, dn, σ3, rfl, rfl, hch, hS3, hm3, hno⟩ hag
    have hv3 := hv.up hS3
    have hs3 := hS3.sat
    refine Vh ?_
    rw [Yv]
    cases hd : lk l s with
    | some c =>
      obtain ⟨hcn, hcm, i, hfi, hli⟩ := V6 hd
      obtain ⟨hil, hid⟩ := List.getElem?_eq_some_iff.1 hli
      simp only [hfi, Option.isSome_some, L6, ↓Mm, Mm, ↓Mr, Mr, Mb, reduceIte]
      refine Y4 hv3 hil ?_
      obtain ⟨lv, fv, mv, p1, r1⟩ := hv3.elC hil
      rw [hid] at p1 r1
      refine Y3 hs3 p1 rfl ?_
      have hce : chain l s = c :: chain l c.super := by rw [F7 ok.acy s, hd]
      refine Q6l ok _ (Nat.lt_succ_self _) (by rw [hcn]; exact hd) hs3 hv3 r1 fun pv cv hv8 w8 σ8 hk8 hr8 => ?_
      refine M5 (vs := [_, _, _]) rfl ?_
      refine M5 (vs := [_, _, _]) rfl ?_
      refine M5 (vs := [_, _, _]) rfl ?_
      refine Y0 hk8.sat (by rfl) rfl (Rep.one hr8) fun q w9 σ9 hk9 hq9 => ?_
      have hk89 := hk8.trans hk9
      have hS9 := hS3.trans hk89
      have hm9 := hm3.step hk89
      have hr9 := S6 hr8 ⟨hk9.le⟩
      have hs9 := hk9.sat
      have hv9 := hv3.up hk89
      replace p1 := p1.up hk89
      cases ho : V7 l c n with
      | some r =>
        obtain ⟨s, m⟩ := r
        rw [ho] at hr9 hq9
        clear hr8 hk8 hk9 hk89
        simp only [ho, Option.isSome_some, ↓Mm, Mm, ↓Mr, Mr, Mb, reduceIte]
        refine W1 hs9 ?_
        (repeat (apply L9; (· intros; (repeat (rename_i hx; subst hx)); (repeat' (first | (with_reducible exact U8 rfl) | (with_reducible exact V9 (Stp.bel (by (repeat (first | exact Stp.refl (by (first | assumption | exact Stp.sat (by assumption) | exact Hst.sat (by assumption))) | assumption | refine Stp.trans ?_ (by first | assumption | exact Hst.stp (by assumption)))))) rfl) | (with_reducible intro _) | (simp only [↓Mm, Mm, ↓Mp, Mp, Mb, reduceIte])  | (with_reducible show Q2 _ _ _ _ _; first | refine X8 aS aL aR ?_ | refine Y3 aS aL aR ?_ | refine ld aS aL aR ?_) | (with_reducible show indexAddr _ _ _ _ _ _; refine Y4 aL au ?_) | (with_reducible show X4 _ _ _ _ _ _ _ _; refine Q6 aL ?_) | (with_reducible show D1 _ _ _ _ _ _; refine Y6 aR ?_) | (with_reducible show pick _ _ _ _ _ _; refine W8 ?_) | (apply W9; intro hh; (try simp only [hh, reduceIte, ↓Mm, Mm, ↓Mp, Mp, Mb, reduceIte])))); done)))
        (intros; (repeat (rename_i hx; subst hx)); (try simp only [↓Mm, Mm, ↓Mp, Mp, Mb, reduceIte]))
        rename_i w10 hb10
        refine I5 (hm9.step hb10.stp) (hS9.trans hb10.stp) hb rfl rfl (Rep.one hr9) fun w11 hS11 hm11 => ?_
        refine M6 hm11 rfl ?_
        have hfs : (chain l k).findSome? (fun c => V7 l c n) = some (s, m) := by
          rw [hch, List.findSome?_append, hno, hce, List.findSome?_cons, ho]; rfl
        unfold V7 at hfs
        rw [hfs] at h
        exact h _ _ _ w11 σ9 hS11.stp hr9
      | none =>
        simp only [Option.isSome_none, ↓Mm, Mm, ↓Mr, Mr, Mb, reduceIte]
        refine Y4 hv9 hil ?_
        (try simp only [↓Mm, Mm, ↓Mr, Mr, Mb, reduceIte])
        refine ld hs9 p1 rfl ?_
        refine K3 hs9 hv9 ?_
        refine hag (chain l c.super).length _ _ (by rw [hce, List.length_cons]; omega) ⟨c.super, dn ++ [c], σ9, rfl, rfl, by rw [hch, hce]; simp, hS9, hm9, ?_⟩
        rw [List.findSome?_append, hno]
        simp [ho]
    | none =>
      rw [Q1u hd]
      simp only [Option.isSome_none, ↓Mm, Mm, ↓Mr, Mr, Mb, reduceIte]
      have hno2 : (chain l k).findSome? (fun c => V7 l c n) = none := by rw [hch, Qk hd, List.append_nil]; exact hno
      refine Hu ?_
      refine I5 hm3 hS3 hb rfl rfl (Rep.one (K6 (σ := σ3))) fun w7 hS7 hm7 => ?_
      refine M6 hm7 rfl ?_
      unfold V7 at hno2
      rw [hno2] at h
      exact h _ _ _ w7 σ3 hS7.stp K6)
end Go.Proofs.YtdnfaboigajkhaaGreatDoor

namespace Go.Hm
open Go.Kd
theorem Ac : ∀ (xs : List X0) (x : X0), xs ≠ [] → O3 (xs ++ [x]) = O3 xs ++ [44] ++ x
  | [], _, h => absurd rfl h
  | [a], x, _ => by simp [O3]
  | a :: b :: r, x, _ => by
    have := Ac (b :: r) x (by simp)
    simp only [List.cons_append] at this ⊢
    simp only [O3, this]
    simp
theorem Tz {xs : List X0} {n : Nat} (h : n < xs.length) : O3 (xs.take (n + 1)) = O3 (xs.take n) ++ (if 0 < n then [44] else []) ++ xs[n] := by
  rw [List.take_add_one, List.getElem?_eq_getElem h]
  simp only [Option.toList_some]
  cases n with
  | zero => simp [O3]
  | succ n =>
    rw [Ac _ _ (by intro e; have := congrArg List.length e; simp only [List.length_take, List.length_nil] at this; omega)]
    simp
end Go.Hm
namespace Go.Proofs.YtdnfaboigajkhaaGreatDoor
open Go.Emb Go.RowKit Go.Kd Go.Hm
variable {w : World} {K : Value → World → Prop} {σ : Q5} {l : List Cla} {v : Value}
theorem Q3l {m : Hm.Met} {cs : List Value} (hs : X6 w σ) (hm : M9 σ m cs) (hsm : SmM m) (hn : NmM m) (h : ∀ w' σ', Stp w σ w' σ' → K (S (K1 m)) w') : Q1 P F.aF [.agg cs.toArray] w K := Gu (by
  obtain ⟨pv, cv, hv, rfl, g1, g2, g3, g4, g5, g6⟩ := hm
  unfold Ww
  refine Z4 hs fun q w1 σ1 hk1 hq => ?_
  have g1 := g1.up hk1
  have hb : ∀ n, (O3 (m.params.take n)).length ≤ 101000000 := fun n => by
    have := Mz (m.params.take n) fun x hx => hn.2 x (List.mem_of_mem_take hx)
    have h2 : (m.params.take n).length ≤ 1000000 := by rw [List.length_take]; have := hsm.1; omega
    have h3 : (m.params.take n).length * 101 ≤ 1000000 * 101 := Nat.mul_le_mul_right _ h2
    omega
  have hs1 := hk1.sat
  refine N1 m.params.length (fun n a w' => w' = w1 ∧ a = S ([40] ++ O3 (m.params.take n))) ⟨rfl, by simp [O3]⟩ fun n a w2 d hn2 hinv => ?_
  obtain ⟨hw, rfl⟩ := hinv
  subst hw
  have hbn := hb n
  (try simp only [↓Mm, Mm, ↓Mr, Mr, Mb, reduceIte])
  refine ld hs1 hq rfl ?_
  refine Q6 g1 ?_
  refine Z5 ?_
  refine Q4 (fun hc => ?_) (fun hc => ?_)
  · have hn' : n < m.params.length := by simpa using hc
    have hx := hn.2 _ (List.getElem_mem hn')
    refine V3 ?_
    obtain ⟨p1, _⟩ := g1.elS hn'
    refine Q4 (fun h0 => ?_) (fun h0 => ?_)
    · have hpos : 0 < n := by have := of_decide_eq_true h0; omega
      refine H5 (by simp only [List.length_append, List.length_cons, List.length_nil]; omega) ?_
      intro d
      (try simp only [↓Mm, Mm, ↓Mr, Mr, Mb, reduceIte])
      refine ld hs1 hq rfl ?_
      refine Y4 g1 hn' ?_
      refine X8 hs1 p1 rfl ?_
      refine H5 (by simp only [List.length_append, List.length_cons, List.length_nil]; omega) ?_
      (try simp only [↓Mm, Mm, ↓Mr, Mr, Mb, reduceIte])
      refine Z6 g1.max hn' ⟨rfl, ?_⟩
      rw [Tz hn', if_pos hpos]; simp
    · have hpos : ¬ 0 < n := by have := of_decide_eq_false h0; omega
      intro d
      (try simp only [↓Mm, Mm, ↓Mr, Mr, Mb, reduceIte])
      refine ld hs1 hq rfl ?_
      refine Y4 g1 hn' ?_
      refine X8 hs1 p1 rfl ?_
      refine H5 (by simp only [List.length_append, List.length_cons, List.length_nil]; omega) ?_
      (try simp only [↓Mm, Mm, ↓Mr, Mr, Mb, reduceIte])
      refine Z6 g1.max hn' ⟨rfl, ?_⟩
      rw [Tz hn', if_neg hpos]; simp
  · have hn' : ¬ n < m.params.length := by simpa using hc
    rw [List.take_of_length_le (by omega)] at hbn ⊢
    refine H5 (by simp only [List.length_append, List.length_cons, List.length_nil]; omega) ?_
    (try simp only [↓Mm, Mm, ↓Mr, Mr, Mb, reduceIte])
    refine ld hs1 hq rfl ?_
    refine H5 (by simp only [List.length_append, List.length_cons, List.length_nil]; have := hn.1; omega) ?_
    exact h _ _ hk1)
end Go.Proofs.YtdnfaboigajkhaaGreatDoor

namespace Go.Hm
open Go.Kd
def Edge (l : List Cla) (i j : Nat) : Prop := ∃ c, l[i]? = some c ∧ ∃ u ∈ U9 c, Y7 l u = some j
inductive Thr (E : Nat → Nat → Prop) (n : Nat) : Nat → Nat → Prop
  | one {i j : Nat} : E i j → Thr E n i j
  | more {i m j : Nat} : E i m → m < n → Thr E n m j → Thr E n i j
theorem Thr.mono {E : Nat → Nat → Prop} {n m i j : Nat} (h : Thr E n i j) (hm : n ≤ m) : Thr E m i j := by
  induction h with
  | one h => exact .one h
  | more h1 h2 _ ih => exact .more h1 (by omega) ih
theorem Thr.cut {E : Nat → Nat → Prop} {n i j : Nat} (h : Thr E (n + 1) i j) : Thr E n i j ∨ (Thr E n i n ∧ Thr E n n j) := by
  induction h with
  | one h => exact .inl (.one h)
  | @more i m j h1 h2 _ ih =>
    by_cases hm : m < n
    · rcases ih with ih | ⟨a, b⟩
      · exact .inl (.more h1 hm ih)
      · exact .inr ⟨.more h1 hm a, b⟩
    · obtain rfl : m = n := by omega
      rcases ih with ih | ⟨a, b⟩
      · exact .inr ⟨.one h1, ih⟩
      · exact .inr ⟨.one h1, b⟩
theorem Thr.join {E : Nat → Nat → Prop} {n i k j : Nat} (h : Thr E n i k) (hk : k < n) (g : Thr E n k j) : Thr E n i j := by
  induction h with
  | one h => exact .more h hk g
  | more h1 h2 _ ih => exact .more h1 h2 (ih hk g)
theorem Q1G {l : List Cla} (ho : B5 l) {i j : Nat} (hi : i < l.length) : Edge l i j ↔ j < l.length ∧ ∃ u ∈ U9 l[i], u = Y1 l j ∧ Y7 l u = some j := by
  unfold Edge
  rw [List.getElem?_eq_getElem hi]
  constructor
  · rintro ⟨c, hc, u, hu, hf⟩
    cases hc
    exact ⟨(R4 hf).1, u, hu, (R4 hf).2.symm, hf⟩
  · rintro ⟨_, u, hu, _, hf⟩
    exact ⟨_, rfl, u, hu, hf⟩
theorem Q76 {l : List Cla} (ho : B5 l) {i : Nat} (hi : i < l.length) : lk l (Y1 l i) = some l[i] := by
  have := A6 ho hi
  rwa [List.getD_eq_getElem?_getD, List.getElem?_eq_getElem hi] at this
theorem Q6Q {l : List Cla} (ho : B5 l) {i j : Nat} (hi : i < l.length) (h : Thr (Edge l) l.length i j) : j < l.length ∧ Yl (lk l) (Y1 l i) (Y1 l j) := by
  induction h with
  | one h =>
    obtain ⟨h1, u, hu, he, hf⟩ := (Q1G ho hi).1 h
    obtain ⟨c, hc, _⟩ := Xc hf
    refine ⟨h1, _, Q76 ho hi, u, hu, ?_⟩
    subst he; exact .refl hc
  | more h1 h2 _ ih =>
    obtain ⟨q1, q2⟩ := ih h2
    obtain ⟨_, u, hu, he, hf⟩ := (Q1G ho hi).1 h1
    refine ⟨q1, _, Q76 ho hi, u, hu, ?_⟩
    subst he; exact q2.reach
theorem Q6y {l : List Cla} (ho : B5 l) {a b : X0} (h : Hm.Reach (lk l) a b) : ∀ i j, Y7 l a = some i → Y7 l b = some j → i = j ∨ Thr (Edge l) l.length i j := by
  induction h with
  | refl _ =>
    intro i j h1 h2; rw [h1] at h2; cases h2; exact .inl rfl
  | step hc hu hr ih =>
    rename_i a u b c
    intro i j h1 h2
    obtain ⟨d, hd⟩ := hr.left
    obtain ⟨_, _, k, hk, hk2⟩ := V6 hd
    obtain ⟨c', hc', hc2, _⟩ := Xc h1
    rw [hc] at hc'; cases hc'
    have he : Edge l i k := ⟨c, hc2, u, hu, hk⟩
    rcases ih k j hk h2 with rfl | hT
    · exact .inr (.one he)
    · exact .inr (.more he (R4 hk).1 hT)
theorem Q78 {l : List Cla} (ho : B5 l) {i j : Nat} (hi : i < l.length) (hj : j < l.length) (h : Yl (lk l) (Y1 l i) (Y1 l j)) : Thr (Edge l) l.length i j := by
  obtain ⟨c, hc, u, hu, hr⟩ := h
  rw [Q76 ho hi] at hc; cases hc
  obtain ⟨d, hd⟩ := hr.left
  obtain ⟨_, _, k, hk, hk2⟩ := V6 hd
  have he : Edge l i k := ⟨_, List.getElem?_eq_getElem hi, u, hu, hk⟩
  have hfj : Y7 l (Y1 l j) = some j := by
    have := ho.find (List.getElem?_eq_getElem hj)
    unfold Y1
    rw [List.getD_eq_getElem?_getD, List.getElem?_eq_getElem hj]; exact this
  rcases Q6y ho hr k j hk hfj with rfl | hT
  · exact .one he
  · exact .more he (R4 hk).1 hT
theorem Q8t {l : List Cla} (ho : B5 l) {i j : Nat} (hi : i < l.length) (hj : j < l.length) : Thr (Edge l) l.length i j ↔ Zf l (Y1 l i) (Y1 l j) = true := by
  rw [Jx]
  exact ⟨fun h => (Q6Q ho hi h).2, Q78 ho hi hj⟩
def Qm (l : List Cla) : List (List Bool) := (List.range l.length).map fun i => (List.range l.length).map fun j => Zf l (Y1 l i) (Y1 l j)
def Hc (m : Nat → Nat → Bool) (i j : Nat) (b : Bool) : Nat → Nat → Bool := fun x y => if x = i ∧ y = j then b else m x y
structure Clos (E : Nat → Nat → Prop) (n k i j : Nat) (m : Nat → Nat → Bool) : Prop where
  sound : ∀ a b, m a b = true → Thr E n a b
  full : ∀ a b, a < n → b < n → Thr E k a b → m a b = true
  done : ∀ a b, a < n → b < n → (a < i ∨ (a = i ∧ b < j)) → Thr E (k + 1) a b → m a b = true
theorem Clos.next {E : Nat → Nat → Prop} {n k i j : Nat} {m : Nat → Nat → Bool} (h : Clos E n k i j m) (hk : k < n) (hi : i < n) (hj : j < n) : Clos E n k i (j + 1) (Hc m i j (m i j || (m i k && m k j))) := by
  have mono : ∀ a b, m a b = true → Hc m i j (m i j || (m i k && m k j)) a b = true := by
    intro a b hab
    unfold Hc
    split
    · rename_i e; rw [← e.1, ← e.2, hab]; rfl
    · exact hab
  refine ⟨fun a b hab => ?_, fun a b ha hb hT => mono a b (h.full a b ha hb hT), fun a b ha hb hlt hT => ?_⟩
  · unfold Hc at hab
    split at hab
    · rename_i e
      obtain ⟨rfl, rfl⟩ := e
      simp only [Bool.or_eq_true, Bool.and_eq_true] at hab
      rcases hab with h1 | ⟨h1, h2⟩
      · exact h.sound _ _ h1
      · exact (h.sound _ _ h1).join hk (h.sound _ _ h2)
    · exact h.sound _ _ hab
  · by_cases e : a = i ∧ b = j
    · obtain ⟨rfl, rfl⟩ := e
      unfold Hc
      rw [if_pos ⟨rfl, rfl⟩]
      rcases hT.cut with h1 | ⟨h1, h2⟩
      · rw [h.full _ _ hi hj h1]; rfl
      · rw [h.full _ _ hi hk h1, h.full _ _ hk hj h2]; simp
    · refine mono a b (h.done a b ha hb ?_ hT)
      rcases hlt with h1 | ⟨h1, h2⟩
      · exact .inl h1
      · right; refine ⟨h1, ?_⟩
        have : b ≠ j := fun e' => e ⟨h1, e'⟩
        omega
theorem Clos.row {E : Nat → Nat → Prop} {n k i : Nat} {m : Nat → Nat → Bool} (h : Clos E n k i n m) : Clos E n k (i + 1) 0 m :=
  ⟨h.sound, h.full, fun a b ha hb hlt hT => h.done a b ha hb (by omega) hT⟩
theorem Clos.round {E : Nat → Nat → Prop} {n k : Nat} {m : Nat → Nat → Bool} (h : Clos E n k n 0 m) : Clos E n (k + 1) 0 0 m :=
  ⟨h.sound, fun a b ha hb hT => h.done a b ha hb (.inl ha) hT, fun a b ha hb hlt hT => by omega⟩
theorem Clos.start {E : Nat → Nat → Prop} {n : Nat} {m : Nat → Nat → Bool} (h : ∀ a b, a < n → (m a b = true ↔ E a b)) (h0 : ∀ a b, n ≤ a → m a b = false) : Clos E n 0 0 0 m := by
  refine ⟨fun a b hab => ?_, fun a b ha hb hT => ?_, fun a b ha hb hlt hT => by omega⟩
  · by_cases ha : a < n
    · exact .one ((h a b ha).1 hab)
    · rw [h0 a b (by omega)] at hab; cases hab
  · cases hT with
    | one e => exact (h a b ha).2 e
    | more _ h2 _ => omega
theorem Clos.all {l : List Cla} (ho : B5 l) {m : Nat → Nat → Bool} (h : Clos (Edge l) l.length l.length 0 0 m) {i j : Nat} (hi : i < l.length) (hj : j < l.length) : m i j = Zf l (Y1 l i) (Y1 l j) := by
  rw [Bool.eq_iff_iff, ← Q8t ho hi hj]
  exact ⟨h.sound i j, h.full i j hi hj⟩
end Go.Hm

namespace Go.Emb
open Go.RowKit Go.Hm
variable {P : Program} {w w0 w1 w' w'' : World} {K : Value → World → Prop} {σ σ0 σ1 σ' : Q5}
theorem Q8A {t e : TypeId} {by_ n : Nat} {z : Value} [ts : TS P t e] [tz : TZ P e 1 by_ z] (hs : X6 w σ) (hz : z.cells = #[z]) (hn : n ≤ 1000000) (hb : by_ * n ≤ 281474976710656)
    (h : ∀ b w', w.heap.size ≤ b → Stp w σ w' σ → V4 σ w' b (List.replicate n z) → K (.slice (some ⟨b, 0, none⟩) n n) w') : Po P t (I n) (I n) w K := by
  obtain ⟨i, hi, hsz, hby, hzero⟩ := tz.info
  have hbi : (i.bytes : Int) * (n : Int) ≤ 281474976710656 := by
    rw [hby]
    have : ((by_ * n : Nat) : Int) ≤ 281474976710656 := by omega
    rwa [Int.natCast_mul] at this
  have hr := run_makeSlice (P := P) w t e i z ts.h hi hzero .i64 .i64 (n : Int) (n : Int) (by omega) (Int.le_refl _) (by rw [hsz]; simp only [Int.toNat_natCast]; omega) hbi (by omega)
  unfold Po
  rw [X9 hr]
  simp only [Int.toNat_natCast, hsz, Nat.mul_one]
  refine h _ _ (Nat.le_refl _) (Stp.own hs _) ⟨hs.none (Nat.le_refl _), e, ?_⟩
  rw [heap_alloc_new, hz]
  have : madeCells #[z] n = (List.replicate n z).toArray := by rw [← toList_madeCells_one, Array.toArray_toList]
  rw [this]
def Q2V (n : Nat) (_ : Q5) (b : Nat) (cs : List Value) : Prop := cs = [.slice (some ⟨b, 0, none⟩) n n]
instance (n : Nat) : Rep (Q2V n) := ⟨fun _ h => h, fun h u hu => by rw [h] at hu; simp at hu; subst hu; rfl⟩
def Q5G (σ : Q5) (xs : List Bool) (cs : List Value) : Prop := ∃ v, cs = [v] ∧ Sl 1 Q53 σ v xs
instance : Rep Q5G := ⟨fun k h => by obtain ⟨v, h1, h2⟩ := h; exact ⟨v, h1, h2.le k⟩, fun h u hu => by
  obtain ⟨v, rfl, a, cap, rfl, _⟩ := h
  simp at hu; subst hu; rfl⟩
def B4 (n : Nat) (f : Nat → Bool) : List Value := (List.range n).map fun j => .bool (f j)
theorem Kl {n : Nat} {f : Nat → Bool} : (B4 n f).length = n := by simp [B4]
theorem Q1j {n j : Nat} {f : Nat → Bool} (h : j < n) : (B4 n f)[j]? = some (.bool (f j)) := by simp [B4, h]
theorem Q1s {n j : Nat} {f : Nat → Bool} {b : Bool} : (B4 n f).set j (.bool b) = B4 n (fun x => if x = j then b else f x) := by
  apply List.ext_getElem?
  intro k
  rw [List.getElem?_set]
  by_cases hk : k < n
  · by_cases e : j = k
    · subst e; simp [B4, hk]
    · have e' : ¬ k = j := fun h => e h.symm
      simp [B4, hk, e, e']
  · simp [B4, hk]
    intro e; omega
theorem Q3W {n : Nat} : List.replicate n (Value.bool false) = B4 n fun _ => false := by
  apply List.ext_getElem?
  intro k
  by_cases hk : k < n <;> simp [B4, hk]
def K8 (σ : Q5) (w : World) (bs : List Nat) (n : Nat) (m : Nat → Nat → Bool) : Prop := bs.Nodup ∧ ∀ i (h : i < bs.length), V4 σ w bs[i] (B4 n (m i))
theorem K8.up {bs : List Nat} {n : Nat} {m : Nat → Nat → Bool} (h : K8 σ w bs n m) (k : Stp w σ w' σ') : K8 σ' w' bs n m := ⟨h.1, fun i hi => (h.2 i hi).up k⟩
theorem K8.kp {bs : List Nat} {n : Nat} {m : Nat → Nat → Bool} {D : Nat → Prop} (h : K8 σ w bs n m) (k : Kpt D w w') (hd : ∀ b ∈ bs, ¬ D b) : K8 σ w' bs n m := ⟨h.1, fun i hi => (h.2 i hi).kp k (hd _ (List.getElem_mem hi))⟩
theorem K8.lt {bs : List Nat} {n : Nat} {m : Nat → Nat → Bool} (h : K8 σ w bs n m) {b : Nat} (hb : b ∈ bs) : b < w.heap.size ∧ σ b = none := by
  obtain ⟨i, hi, rfl⟩ := List.getElem_of_mem hb
  exact ⟨(h.2 i hi).lt, (h.2 i hi).1⟩
theorem K8.snoc {bs : List Nat} {n b : Nat} {m : Nat → Nat → Bool} {f : Nat → Bool} (h : K8 σ w bs n m) (hb : b ∉ bs) (hm : V4 σ w b (B4 n f)) : K8 σ w (bs ++ [b]) n (fun x => if x = bs.length then f else m x) := by
  refine ⟨by rw [List.nodup_append]; exact ⟨h.1, by simp, fun a ha c hc e => by simp at hc; subst hc; subst e; exact hb ha⟩, fun i hi => ?_⟩
  rw [List.length_append, List.length_singleton] at hi
  by_cases hl : i < bs.length
  · rw [List.getElem_append_left hl]
    simp only [if_neg (show ¬ i = bs.length by omega)]
    exact h.2 i hl
  · obtain rfl : i = bs.length := by omega
    simp only [List.getElem_concat_length, if_true]
    exact hm
theorem K8.congr {bs : List Nat} {n : Nat} {m m' : Nat → Nat → Bool} (h : K8 σ w bs n m) (he : ∀ i, i < bs.length → m i = m' i) : K8 σ w bs n m' := ⟨h.1, fun i hi => he i hi ▸ h.2 i hi⟩
theorem K8.keep {bs : List Nat} {n : Nat} {m : Nat → Nat → Bool} (hn : 0 < n) (hmax : n ≤ 1000000) : ∀ {σ : Q5}, K8 σ w bs n m → Stp w0 σ0 w σ → (∀ b ∈ bs, w0.heap.size ≤ b) → ∃ σ', Stp w0 σ0 w σ' ∧ SLe σ σ' ∧ ∀ i (h : i < bs.length), Sl 1 Q53 σ' (.slice (some ⟨bs[i], 0, none⟩) n n) ((List.range n).map (m i)) := by
  intro σ h hS hb
  have key : ∀ k, k ≤ bs.length → ∃ σ', Stp w0 σ0 w σ' ∧ SLe σ σ' ∧ (∀ i (h : i < bs.length), i < k → U0 σ' ⟨bs[i], 0, none⟩ (B4 n (m i))) ∧ ∀ i (h : i < bs.length), k ≤ i → σ' bs[i] = none := by
    intro k
    induction k with
    | zero => intro _; exact ⟨σ, hS, SLe.refl _, fun i _ h => by omega, fun i hi _ => (h.2 i hi).1⟩
    | succ k ih =>
      intro hk
      obtain ⟨σ1, h1, h2, h3, h4⟩ := ih (by omega)
      have hk' : k < bs.length := by omega
      have hm : V4 σ1 w bs[k] (B4 n (m k)) := ⟨h4 k hk' (Nat.le_refl _), (h.2 k hk').2⟩
      obtain ⟨σ2, g1, g2, g3, g4⟩ := hm.keep h1 (hb _ (List.getElem_mem hk'))
      refine ⟨σ2, g1, h2.more ⟨g3⟩, fun i hi hik => ?_, fun i hi hki => ?_⟩
      · by_cases e : i = k
        · subst e; exact g2
        · exact (h3 i hi (by omega)).le g3
      · rw [g4]
        · exact h4 i hi (by omega)
        · intro e
          have := List.nodup_iff_pairwise_ne.1 h.1
          rw [List.pairwise_iff_getElem] at this
          exact this k i hk' hi (by omega) e.symm
  obtain ⟨σ1, h1, h2, h3, _⟩ := key bs.length (Nat.le_refl _)
  refine ⟨σ1, h1, h2, fun i hi => ⟨some ⟨bs[i], 0, none⟩, n, by simp, by simp, by simp only [maxLen]; omega, fun e => (by cases e), ?_⟩⟩
  intro b he
  obtain rfl := Option.some.inj he
  refine ⟨fun _ => rfl, fun j x hx => ?_⟩
  have hj : j < n := by have := (List.getElem?_eq_some_iff.1 hx).1; simpa using this
  obtain ⟨q0, D6, e, fr, q1, q2⟩ := h3 i hi hi
  have hx' : x = m i j := by simp [hj] at hx; exact hx.symm
  refine ⟨[.bool x], ⟨F0 rfl _, D6, e, fr, by rw [R8]; exact q1, fun k v hv => ?_⟩, rfl, rfl⟩
  obtain rfl : k = 0 := by cases k with
    | zero => rfl
    | succ k => simp at hv
  simp at hv
  rw [Qy, ← hv, hx']
  have := q2 j _ (Q1j hj)
  simpa using this
end Go.Emb

namespace Go.Emb
open Go.RowKit Go.Hm
variable {P : Program} {w w0 w1 w' w'' : World} {K : Value → World → Prop} {σ σ0 σ1 σ' : Q5}
theorem Px {t e : TypeId} {sz by_ : Nat} {z : Value} [ts : TS P t e] [tz : TZ P e sz by_ z] {a : Addr} {n cap i : Nat} (hi : i < n) (hk : K (.pointer (some (a.add (i * sz)))) w) : indexAddr P t (.slice (some a) n cap) (I i) w K := by
  rw [Rh (by omega) (by omega)]
  simpa using hk
theorem K8.nx {D : Nat → Prop} {bs : List Nat} {n : Nat} {m : Nat → Nat → Bool} (h : K8 σ w bs n m) (k : Nxt D w σ w' σ') (hd : ∀ b ∈ bs, ¬ D b) : K8 σ' w' bs n m :=
  ⟨h.1, fun i hi => (h.2 i hi).nx k (hd _ (List.getElem_mem hi))⟩
theorem K8.set {bs : List Nat} {n i j : Nat} {b : Bool} {m : Nat → Nat → Bool} (h : K8 σ w bs n m) (hi : i < bs.length) (hu : Upd w bs[i] w') (hm : V4 σ w' bs[i] ((B4 n (m i)).set j (.bool b))) : K8 σ w' bs n (Hc m i j b) := by
  refine ⟨h.1, fun k hk => ?_⟩
  by_cases e : k = i
  · subst e
    rw [Q1s] at hm
    have : Hc m k j b k = fun x => if x = j then b else m k x := by funext x; simp [Hc]
    rw [this]; exact hm
  · have : Hc m i j b k = m k := by funext x; simp [Hc, e]
    rw [this]
    refine (h.2 k hk).upd hu fun e' => e ?_
    rcases Nat.lt_trichotomy k i with hlt | hlt | hlt
    · have := List.nodup_iff_pairwise_ne.1 h.1
      rw [List.pairwise_iff_getElem] at this
      exact absurd e' (this k i hk hi hlt)
    · exact hlt
    · have := List.nodup_iff_pairwise_ne.1 h.1
      rw [List.pairwise_iff_getElem] at this
      exact absurd e'.symm (this i k hi hk hlt)
end Go.Emb
namespace Go.Proofs.YtdnfaboigajkhaaGreatDoor
open Go.Emb Go.RowKit Go.Kd Go.Hm
variable {w : World} {K : Value → World → Prop} {σ : Q5} {l : List Cla} {v : Value}
def Wg (l : List Cla) (i j : Nat) : Bool := match l[i]? with
  | none => false
  | some c => (U9 c).any fun u => decide (Y7 l u = some j)
theorem Q66 (l : List Cla) (i j : Nat) : Wg l i j = true ↔ Hm.Edge l i j := by
  unfold Wg Hm.Edge
  cases h : l[i]? with
  | none => simp
  | some c => simp [List.any_eq_true]
theorem Q5P {l : List Cla} {i j : Nat} (h : l.length ≤ i) : Wg l i j = false := by
  unfold Wg
  rw [List.getElem?_eq_none h]
set_option maxHeartbeats 4000000 in
theorem Q1v (hs : X6 w σ) (hl : Sl 8 U7 σ v l) (ho : B5 l) (hpos : 0 < l.length) (hlen : l.length ≤ 1000) (hsm : ∀ c ∈ l, G3 c)
    (h : ∀ v' w' σ', Stp w σ w' σ' → Sl 1 Q5G σ' v' (Qm l) → K v' w') : Q1 P F.ay [v] w K := Si (by
  unfold Vr
  refine Ky (R := Q2V l.length) (e := T.w) (Stp.refl hs) (by decide) fun x0 w1 hk1 ha1 _ => ?_
  refine N1 l.length (fun n x w' => ∃ σ' bs, Stp w σ w' σ' ∧ W5 w.heap.size T.w 1 (Q2V l.length) σ' w' x bs ∧ K8 σ' w' bs l.length (Wg l) ∧ bs.length = n ∧ ∀ b ∈ bs, w.heap.size ≤ b ∧ x.ownBlock ≠ some b) ⟨σ, [], hk1, ha1, ⟨List.nodup_nil, by simp⟩, rfl, by simp⟩ fun n x w2 d hn hinv => ?_
  obtain ⟨σ2, bs, hS2, ha2, hM2, hbl, hb2⟩ := hinv
  refine Q6 (hl.up hS2) ?_
  refine Z5 ?_
  refine Q4 (fun hc => ?_) (fun hc => ?_)
  · have hn' : n < l.length := by simpa using hc
    have hl2 := hl.up hS2
    refine Q6 hl2 ?_
    refine Q8A hS2.sat rfl (by omega) (by omega) fun b w3 hb3 hk3 hm3 => ?_
    rw [Q3W] at hm3
    obtain ⟨lv, fv, mv, p1, r1⟩ := hl2.elC hn'
    obtain ⟨g1, _, _, g4, g5⟩ := r1.parts
    have hsmc := hsm _ (List.getElem_mem hn')
    have hs3 := hk3.sat
    refine W1 hs3 ?_
    (repeat (apply L9; (· intros; (repeat (rename_i hx; subst hx)); (repeat' (first | (with_reducible exact U8 rfl) | (with_reducible exact V9 (Stp.bel (by (repeat (first | exact Stp.refl (by (first | assumption | exact Stp.sat (by assumption) | exact Hst.sat (by assumption))) | assumption | refine Stp.trans ?_ (by first | assumption | exact Hst.stp (by assumption)))))) rfl) | (with_reducible intro _) | (simp only [↓Mm, Mm, ↓Mp, Mp, Mb, reduceIte])  | (with_reducible show Q2 _ _ _ _ _; first | refine X8 aS aL aR ?_ | refine Y3 aS aL aR ?_ | refine ld aS aL aR ?_) | (with_reducible show indexAddr _ _ _ _ _ _; refine Y4 aL au ?_) | (with_reducible show X4 _ _ _ _ _ _ _ _; refine Q6 aL ?_) | (with_reducible show D1 _ _ _ _ _ _; refine Y6 aR ?_) | (with_reducible show pick _ _ _ _ _ _; refine W8 ?_) | (apply W9; intro hh; (try simp only [hh, reduceIte, ↓Mm, Mm, ↓Mp, Mp, Mb, reduceIte])))); done)))
    refine Q17 (w := w3) (σ := σ2) (R := U5) (sz := 1) (e := T.b) [l[n].super] (fun t w hb e => ?_) ?_
    · subst e; exact Qq hb.stp [_] [l[n].super] rfl rfl (by simp; rfl) rfl ⟨⟨rfl, g5⟩, trivial⟩ fun v' w' hk ha _ => Q2i hb hk ha
    (repeat (apply L9; (· intros; (repeat (rename_i hx; subst hx)); (repeat' (first | (with_reducible exact U8 rfl) | (with_reducible exact V9 (Stp.bel (by (repeat (first | exact Stp.refl (by (first | assumption | exact Stp.sat (by assumption) | exact Hst.sat (by assumption))) | assumption | refine Stp.trans ?_ (by first | assumption | exact Hst.stp (by assumption)))))) rfl) | (with_reducible intro _) | (simp only [↓Mm, Mm, ↓Mp, Mp, Mb, reduceIte])  | (with_reducible show Q2 _ _ _ _ _; first | refine X8 aS aL aR ?_ | refine Y3 aS aL aR ?_ | refine ld aS aL aR ?_) | (with_reducible show indexAddr _ _ _ _ _ _; refine Y4 aL au ?_) | (with_reducible show X4 _ _ _ _ _ _ _ _; refine Q6 aL ?_) | (with_reducible show D1 _ _ _ _ _ _; refine Y6 aR ?_) | (with_reducible show pick _ _ _ _ _ _; refine W8 ?_) | (apply W9; intro hh; (try simp only [hh, reduceIte, ↓Mm, Mm, ↓Mp, Mp, Mb, reduceIte])))); done)))
    rintro t24 t25 t30 t31 t26 t27 t32 w4 hb4 rfl rfl rfl rfl rfl ⟨f27, a27⟩ rfl
    refine Nv f27 a27 g1 rfl (by simp; have := hsmc.1; omega) (by simp; have := hsmc.1; omega) fun v5 w5 hn5 hS5 ha5 hat5 => ?_
    obtain ⟨σ6, hS6, hv6, le6, _⟩ := ha5.keep hS5
    have hv6 : Sl 1 U5 σ6 v5 (U9 l[n]) := hv6
    have hb3w : w.heap.size ≤ b := Nat.le_trans hS2.bel.size hb3
    have hm6 := hm3.up hS6
    have ha6 := (ha2.up hk3).up hS6
    have hM6 := (hM2.up hk3).up hS6
    have hS26 := (hS2.trans hk3).trans hS6
    have hxb : ∀ k, x.ownBlock = some k → k ≠ b := fun k e => by have := (ha2.mem k e).2.1; omega
    have hbbs : b ∉ bs := fun e => by have := (hM2.lt e).1; omega
    clear hm3 ha2 hM2 hS6 hS5 ha5 a27 f27 hn5 hat5
    refine V2 (U9 l[n]).length (fun k w' => Stp w σ w' σ6 ∧ W5 w.heap.size T.w 1 (Q2V l.length) σ6 w' x bs ∧ K8 σ6 w' bs l.length (Wg l) ∧ V4 σ6 w' b (B4 l.length fun j => ((U9 l[n]).take k).any fun u => decide (Y7 l u = some j)))
      ⟨hS26, ha6, hM6, hm6⟩ fun k w7 d7 hk hinv => ?_
    obtain ⟨hS7, ha7, hM7, hm7⟩ := hinv
    refine Q6 hv6 ?_
    refine Z5 ?_
    refine Q4 (fun hc => ?_) (fun hc => ?_)
    · have hk' : k < (U9 l[n]).length := by simpa using hc
      refine V3 ?_
      refine Y4 hv6 hk' ?_
      obtain ⟨p2, p3⟩ := hv6.elS hk'
      refine X8 hS7.sat p2 rfl ?_
      refine K3 hS7.sat (hl.up hS7) ?_
      refine Vh ?_
      rw [Yv]
      have hnx : ∀ f : Nat → Bool, (∀ j, f j = (((U9 l[n]).take k).any (fun u => decide (Y7 l u = some j)) || decide (Y7 l (U9 l[n])[k] = some j))) → f = fun j => ((U9 l[n]).take (k + 1)).any fun u => decide (Y7 l u = some j) := by
        intro f hf; funext j; rw [hf, M8 hk']
      cases hfc : Y7 l (U9 l[n])[k] with
      | none =>
        simp only [Option.isSome_none, ↓Mm, Mm, ↓Mr, Mr, Mb, reduceIte]
        intro d
        refine Y5 hv6.max hk' ⟨hS7, ha7, hM7, ?_⟩
        rw [← hnx (fun j => ((U9 l[n]).take k).any fun u => decide (Y7 l u = some j)) (fun j => by rw [hfc]; simp)]
        exact hm7
      | some j =>
        have hj := (R4 hfc).1
        simp only [Option.isSome_some, L6, ↓Mm, Mm, ↓Mr, Mr, Mb, reduceIte]
        refine Px hj ?_
        rw [Nat.mul_one]
        refine Pb hm7 (by rw [Kl]; exact hj) (by rfl) (by rfl) fun w8 u8 hm8 => ?_
        intro d
        rw [Q1s] at hm8
        refine Y5 hv6.max hk' ⟨u8.stp hS7 hb3w hm7.1, ha7.kp (D := (· = b)) (.of_upd u8 rfl) hxb, hM7.kp (D := (· = b)) (.of_upd u8 rfl) (fun c hc e => hbbs (e ▸ hc)), ?_⟩
        rw [← hnx (fun x => if x = j then true else _) (fun i => ?_)]
        · exact hm8
        · rw [hfc]
          by_cases e : i = j
          · subst e; simp
          · have : ¬ j = i := fun e' => e e'.symm
            simp [e, this]
    · have hk' : ¬ k < (U9 l[n]).length := by simpa using hc
      have hk0 : k = (U9 l[n]).length := by omega
      subst hk0
      rw [List.take_of_length_le (Nat.le_refl _)] at hm7
      have hef : (fun j => (U9 l[n]).any fun u => decide (Y7 l u = some j)) = Wg l n := by
        funext j; unfold Wg; rw [List.getElem?_eq_getElem hn']
      rw [hef] at hm7
      have hM8 := (hM7.snoc hbbs hm7).congr (m' := Wg l) (fun i _ => by
        by_cases e : i = bs.length
        · rw [if_pos e, e, hbl]
        · rw [if_neg e])
      refine Ys (R := Q2V l.length) (x := b) hS7 ha7 rfl rfl rfl rfl (by omega) (by omega) fun s v' w9 σ9 hnx hS9 ha9 hat => ?_
      have hdis : ∀ c ∈ bs ++ [b], w.heap.size ≤ c ∧ x.ownBlock ≠ some c := by
        intro c hc
        rcases List.mem_append.1 hc with hc | hc
        · exact hb2 c hc
        · simp at hc; subst hc; exact ⟨hb3w, fun e => hxb _ e rfl⟩
      have hlt9 : ∀ c ∈ bs ++ [b], c < w7.heap.size := fun c hc => (hM8.lt hc).1
      refine O5 ?_
      refine Z6 (by omega) hn' ⟨σ9, bs ++ [b], hS9, ha9, hM8.nx hnx (fun c hc => (hdis c hc).2), by rw [List.length_append, hbl]; rfl, fun c hc => ⟨(hdis c hc).1, fun e => ?_⟩⟩
      rcases hat with hat | hat
      · exact (hdis c hc).2 (hat ▸ e)
      · have := hat c e; have := hlt9 c hc; omega
  · have hn0 : n = l.length := by have : ¬ n < l.length := by simpa using hc
                                  omega
    obtain ⟨σ8, hS8, hv8, le8, old8⟩ := ha2.keep hS2
    have hlb : bs.length = l.length := by omega
    have hM8 : K8 σ8 w2 bs l.length (Wg l) := ⟨hM2.1, fun i hi => ⟨(old8 _ (fun e => (hb2 _ (List.getElem_mem hi)).2 e.symm)).trans (hM2.2 i hi).1, (hM2.2 i hi).2⟩⟩
    have hpx : ∀ i (hi : i < bs.length), U0 σ8 (Aj 1 x i) [.slice (some ⟨bs[i], 0, none⟩) l.length l.length] := fun i hi => by
      obtain ⟨cs, h1, _, h2⟩ := hv8.el hi
      have h2 : cs = _ := h2
      subst h2; exact h1
    clear ha2 hM2 hS2 le8 old8
    refine V2 l.length (fun k w' => ∃ m, Stp w σ w' σ8 ∧ K8 σ8 w' bs l.length m ∧ Clos (Hm.Edge l) l.length k 0 0 m) ⟨Wg l, hS8, hM8, Clos.start (fun a b _ => Q66 l a b) (fun a b h => Q5P h)⟩ fun k w3 d3 hk3 hinv => ?_
    obtain ⟨m3, hS3, hM3, hC3⟩ := hinv
    refine Q6 (hl.up hS3) ?_
    refine Z5 ?_
    refine Q4 (fun hc => ?_) (fun hc => ?_)
    · have hk' : k < l.length := by simpa using hc
      refine V2 l.length (fun i w' => ∃ m, Stp w σ w' σ8 ∧ K8 σ8 w' bs l.length m ∧ Clos (Hm.Edge l) l.length k i 0 m) ⟨m3, hS3, hM3, hC3⟩ fun i w4 d4 hi4 hinv => ?_
      obtain ⟨m4, hS4, hM4, hC4⟩ := hinv
      refine Q6 (hl.up hS4) ?_
      refine Z5 ?_
      refine Q4 (fun hc => ?_) (fun hc => ?_)
      · have hi' : i < l.length := by simpa using hc
        refine V2 l.length (fun j w' => ∃ m, Stp w σ w' σ8 ∧ K8 σ8 w' bs l.length m ∧ Clos (Hm.Edge l) l.length k i j m) ⟨m4, hS4, hM4, hC4⟩ fun j w5 d5 hj5 hinv => ?_
        obtain ⟨m5, hS5, hM5, hC5⟩ := hinv
        refine Q6 (hl.up hS5) ?_
        refine Z5 ?_
        refine Q4 (fun hc => ?_) (fun hc => ?_)
        · have hj' : j < l.length := by simpa using hc
          have hi6 : i < bs.length := by omega
          have hk6 : k < bs.length := by omega
          have px_i := hpx i hi6
          have px_k := hpx k hk6
          have hrd : ∀ {w' : World} {K : Value → World → Prop} {a b : Nat} {ha : a < bs.length}, Hst w5 σ8 w' σ8 → b < l.length → K (.bool (m5 a b)) w' → Q2 P T.l (.pointer (some ((⟨bs[a], 0, none⟩ : Addr).add (b * 1)))) w' K := fun hst hb hK => by
            rw [Nat.mul_one]
            exact T8 (((hM5.up hst.stp).2 _ _).cell (Q1j hb)) hK
          refine W1 hS5.sat ?_
          (repeat (apply L9; (· intros; (repeat (rename_i hx; subst hx)); (repeat' (first | (with_reducible exact U8 rfl) | (with_reducible exact V9 (Stp.bel (by (repeat (first | exact Stp.refl (by (first | assumption | exact Stp.sat (by assumption) | exact Hst.sat (by assumption))) | assumption | refine Stp.trans ?_ (by first | assumption | exact Hst.stp (by assumption)))))) rfl) | (with_reducible intro _) | (simp only [↓Mm, Mm, ↓Mp, Mp, Mb, reduceIte]) | (with_reducible refine Px au ?_) | (with_reducible refine hrd au au ?_)  | (with_reducible show Q2 _ _ _ _ _; first | refine X8 aS aL aR ?_ | refine Y3 aS aL aR ?_ | refine ld aS aL aR ?_) | (with_reducible show indexAddr _ _ _ _ _ _; refine Y4 aL au ?_) | (with_reducible show X4 _ _ _ _ _ _ _ _; refine Q6 aL ?_) | (with_reducible show D1 _ _ _ _ _ _; refine Y6 aR ?_) | (with_reducible show pick _ _ _ _ _ _; refine W8 ?_) | (apply W9; intro hh; (try simp only [hh, reduceIte, ↓Mm, Mm, ↓Mp, Mp, Mb, reduceIte])))); done)))
          cases h1 : m5 i j
          · simp only [reduceIte]
            (repeat (apply L9; (· intros; (repeat (rename_i hx; subst hx)); (repeat' (first | (with_reducible exact U8 rfl) | (with_reducible exact V9 (Stp.bel (by (repeat (first | exact Stp.refl (by (first | assumption | exact Stp.sat (by assumption) | exact Hst.sat (by assumption))) | assumption | refine Stp.trans ?_ (by first | assumption | exact Hst.stp (by assumption)))))) rfl) | (with_reducible intro _) | (simp only [↓Mm, Mm, ↓Mp, Mp, Mb, reduceIte]) | (with_reducible refine Px au ?_) | (with_reducible refine hrd au au ?_)  | (with_reducible show Q2 _ _ _ _ _; first | refine X8 aS aL aR ?_ | refine Y3 aS aL aR ?_ | refine ld aS aL aR ?_) | (with_reducible show indexAddr _ _ _ _ _ _; refine Y4 aL au ?_) | (with_reducible show X4 _ _ _ _ _ _ _ _; refine Q6 aL ?_) | (with_reducible show D1 _ _ _ _ _ _; refine Y6 aR ?_) | (with_reducible show pick _ _ _ _ _ _; refine W8 ?_) | (apply W9; intro hh; (try simp only [hh, reduceIte, ↓Mm, Mm, ↓Mp, Mp, Mb, reduceIte])))); done)))
            (intros; (repeat (rename_i hx; subst hx)); (try simp only [↓Mm, Mm, ↓Mp, Mp, Mb, reduceIte]))
            rename_i w6 hb6
            refine Px hj' ?_
            rw [Nat.mul_one]
            refine Eq.subst (motive := fun V => V5 P T.l (.pointer (some ((⟨bs[i], 0, none⟩ : Addr).add j))) V w6 _) (show Value.bool (m5 i j || (m5 i k && m5 k j)) = _ from by cases h2 : m5 i k <;> simp [h1, h2]) ?_
            refine Pb ((hM5.up hb6.stp).2 i hi6) (by rw [Kl]; exact hj') (by rfl) (by rfl) fun w7 u7 hm7 => ?_
            (try simp only [↓Mm, Mm, ↓Mr, Mr, Mb, reduceIte])
            exact Y5 (by omega) hj' ⟨_, u7.stp (hS5.trans hb6.stp) (hb2 _ (List.getElem_mem hi6)).1 hm7.1, (hM5.up hb6.stp).set hi6 u7 hm7, hC5.next hk' hi' hj'⟩
          · simp only [Bool.true_eq_false, reduceIte]
            (repeat (apply L9; (· intros; (repeat (rename_i hx; subst hx)); (repeat' (first | (with_reducible exact U8 rfl) | (with_reducible exact V9 (Stp.bel (by (repeat (first | exact Stp.refl (by (first | assumption | exact Stp.sat (by assumption) | exact Hst.sat (by assumption))) | assumption | refine Stp.trans ?_ (by first | assumption | exact Hst.stp (by assumption)))))) rfl) | (with_reducible intro _) | (simp only [↓Mm, Mm, ↓Mp, Mp, Mb, reduceIte]) | (with_reducible refine Px au ?_) | (with_reducible refine hrd au au ?_)  | (with_reducible show Q2 _ _ _ _ _; first | refine X8 aS aL aR ?_ | refine Y3 aS aL aR ?_ | refine ld aS aL aR ?_) | (with_reducible show indexAddr _ _ _ _ _ _; refine Y4 aL au ?_) | (with_reducible show X4 _ _ _ _ _ _ _ _; refine Q6 aL ?_) | (with_reducible show D1 _ _ _ _ _ _; refine Y6 aR ?_) | (with_reducible show pick _ _ _ _ _ _; refine W8 ?_) | (apply W9; intro hh; (try simp only [hh, reduceIte, ↓Mm, Mm, ↓Mp, Mp, Mb, reduceIte])))); done)))
            (intros; (repeat (rename_i hx; subst hx)); (try simp only [↓Mm, Mm, ↓Mp, Mp, Mb, reduceIte]))
            rename_i w6 hb6
            refine Px hj' ?_
            rw [Nat.mul_one]
            refine Eq.subst (motive := fun V => V5 P T.l (.pointer (some ((⟨bs[i], 0, none⟩ : Addr).add j))) V w6 _) (show Value.bool (m5 i j || (m5 i k && m5 k j)) = _ from by simp [h1]) ?_
            refine Pb ((hM5.up hb6.stp).2 i hi6) (by rw [Kl]; exact hj') (by rfl) (by rfl) fun w7 u7 hm7 => ?_
            (try simp only [↓Mm, Mm, ↓Mr, Mr, Mb, reduceIte])
            exact Y5 (by omega) hj' ⟨_, u7.stp (hS5.trans hb6.stp) (hb2 _ (List.getElem_mem hi6)).1 hm7.1, (hM5.up hb6.stp).set hi6 u7 hm7, hC5.next hk' hi' hj'⟩
        · have hj0 : j = l.length := by have : ¬ j < l.length := by simpa using hc
                                        omega
          subst hj0
          refine O5 ?_
          exact Y5 (by omega) hi' ⟨m5, hS5, hM5, hC5.row⟩
      · have hi0 : i = l.length := by have : ¬ i < l.length := by simpa using hc
                                      omega
        subst hi0
        refine O5 ?_
        exact Y5 (by omega) hk' ⟨m4, hS4, hM4, hC4.round⟩
    · have hk0 : k = l.length := by have : ¬ k < l.length := by simpa using hc
                                    omega
      subst hk0
      obtain ⟨σ9, hS9, le9, hrows⟩ := hM3.keep hpos (by omega) hS3 (fun b hb => (hb2 b hb).1)
      refine h _ _ _ hS9 ((hv8.lift le9).conv (by simp [Qm, hlb]) fun i hi hj cs hcs => ?_)
      have hcs : cs = _ := hcs
      subst hcs
      refine ⟨_, rfl, ?_⟩
      have := hrows i hi
      have he : (Qm l)[i] = (List.range l.length).map (m3 i) := by
        have hi' : i < l.length := by omega
        simp only [Qm, List.getElem_map, List.getElem_range]
        apply List.map_congr_left
        intro j hj
        exact (Clos.all ho hC3 hi' (by simpa using hj)).symm
      rw [he]; exact this)
end Go.Proofs.YtdnfaboigajkhaaGreatDoor

namespace Go.Emb
open Go.RowKit Go.Hm
structure FinT (B : Nat) (F : Option Obj → Prop) (w w' : World) : Prop where
  os : w'.os = w.os
  tape : w'.tape = w.tape
  output : w'.output = w.output
  size : w.heap.size ≤ w'.heap.size
  old : ∀ k, k < w.heap.size → k < B → w'.heap[k]? = w.heap[k]?
  new : ∀ k, k < w.heap.size → w'.heap[k]? = w.heap[k]? ∨ F (w'.heap[k]?)
section
variable {P : Program} {B : Nat} {F : Option Obj → Prop} {w w' w0 : World} {σ : Q5} {v V : Value} {K : Value → World → Prop}
theorem FinT.of_below (h : Below w.heap.size w w') : FinT B F w w' := ⟨h.os, h.tape, h.output, h.size, fun k hk _ => h.block k hk, fun k hk => .inl (h.block k hk)⟩
theorem FinT.of_upd {b : Nat} (h : Upd w b w') (hb : B ≤ b) (hF : F (w'.heap[b]?)) : FinT B F w w' :=
  ⟨h.os, h.tape, h.output, by rw [h.size]; exact Nat.le_refl _, fun k hk hB => h.block k (by omega), fun k hk => by
    by_cases e : k = b
    · subst e; exact .inr hF
    · exact .inl (h.block k e)⟩
theorem FinT.hst (h : FinT w0.heap.size F w w') (hs : X6 w0 σ) (hb : Hst w0 σ w σ) : Hst w0 σ w' σ :=
  ⟨Stp.of_below hs ⟨h.os.trans hb.stp.bel.os, h.tape.trans hb.stp.bel.tape, h.output.trans hb.stp.bel.output, Nat.le_trans hb.stp.bel.size h.size, fun k hk => (h.old k (Nat.lt_of_lt_of_le hk hb.stp.bel.size) hk).trans (hb.stp.bel.block k hk)⟩⟩
theorem Q8Y {A : (World → World → Prop) → (World → Prop) → Prop} (F : Option Obj → Prop) (hs : X6 w σ) (h : A (FinT w.heap.size F) (fun w' => Hst w σ w' σ)) : dr w A :=
  Q0b _ _ ⟨Stp.of_below hs (Below.refl _ _).drew⟩ (fun _ _ h1 h2 => h2.hst hs h1) h
theorem Q2B (h : V = v) : dk (FinT B F) (fun v _ => V = v) w v w := ⟨.of_below (Below.refl _ _), h⟩
theorem Q8w (hb : Below w.heap.size w w') (h : V = v) : dk (FinT B F) (fun v _ => V = v) w v w' := ⟨.of_below hb, h⟩
def Q95 (B n : Nat) (F : Option Obj → Prop) (v : Value) (w : World) : Prop := ∃ g, v = .pointer (some ⟨g, 0, none⟩) ∧ B ≤ g ∧ ((∃ cs : List Value, ∃ e, cs.length = n ∧ w.heap[g]? = some (.cells cs.toArray e (0, 0))) ∨ F (w.heap[g]?))
def Q8C (B : Nat) (F : Option Obj → Prop) (v : Value) (w : World) : Prop := ∃ g, v = .pointer (some ⟨g, 0, none⟩) ∧ B ≤ g ∧ F (w.heap[g]?)
theorem Bd {w : World} {g : Nat} {o : Obj} (h : w.heap[g]? = some o) : g < w.heap.size := (Array.getElem?_eq_some_iff.1 h).1
theorem Q5g {n : Nat} (hF : ¬ F none) : Ds (FinT B F) (Q95 B n F) := by
  rintro v w w' ⟨g, rfl, hB, hd⟩ hT
  have hlt : g < w.heap.size := by
    rcases hd with ⟨cs, e, _, h⟩ | h
    · exact Bd h
    · cases hg : w.heap[g]? with
      | none => rw [hg] at h; exact absurd h hF
      | some o => exact Bd hg
  rcases hT.new g hlt with h | h
  · exact ⟨g, rfl, hB, by rw [h]; exact hd⟩
  · exact ⟨g, rfl, hB, .inr h⟩
theorem Q5b (hF : ¬ F none) : Ds (FinT B F) (Q8C B F) := by
  rintro v w w' ⟨g, rfl, hB, hd⟩ hT
  have hlt : g < w.heap.size := by
    cases hg : w.heap[g]? with
    | none => rw [hg] at hd; exact absurd hd hF
    | some o => exact Bd hg
  rcases hT.new g hlt with h | h
  · exact ⟨g, rfl, hB, by rw [h]; exact hd⟩
  · exact ⟨g, rfl, hB, h⟩
end
end Go.Emb
namespace Go.Hm
open Go.Kd
theorem Q3w {a b : List Hm.Met} (h : ∀ m, m ∈ a ↔ m ∈ b) : Uw a = Uw b := by
  rw [Bool.eq_iff_iff]
  simp only [Uw, List.any_eq_true]
  constructor
  · rintro ⟨x, hx, y, hy, h2⟩; exact ⟨x, (h x).1 hx, y, (h y).1 hy, h2⟩
  · rintro ⟨x, hx, y, hy, h2⟩; exact ⟨x, (h x).2 hx, y, (h y).2 hy, h2⟩
theorem Q7g {α : Type} {a b : List α} {p : α → Bool} (h : ∀ m, m ∈ a ↔ m ∈ b) : a.any p = b.any p := by
  rw [Bool.eq_iff_iff]
  simp only [List.any_eq_true]
  constructor
  · rintro ⟨x, hx, y⟩; exact ⟨x, (h x).1 hx, y⟩
  · rintro ⟨x, hx, y⟩; exact ⟨x, (h x).2 hx, y⟩
def Qw (m : Hm.Met) : List X0 := m.params ++ if m.result = [] then [] else [m.result]
def Ya (c : Cla) : List X0 := c.fields.map (·.kind) ++ c.methods.flatMap Qw
theorem Q5Z {l : List Cla} {c : Cla} : (Ya c).any (fun s => !thereM l s) = E0 l c := by
  unfold Ya E0 Qw
  rw [List.any_append, List.any_map, List.any_flatMap]
  congr 1
  congr 1
  funext m
  rw [List.any_append]
  by_cases e : m.result = []
  · simp [e]
  · simp [e, Bool.or_comm]
def Pd (l : List Cla) (i k : Nat) : Bool := decide (k = i) || Zf l (Y1 l i) (Y1 l k)
def P6 (l : List Cla) (i n : Nat) : List Hm.Met := (List.range n).flatMap fun k => if Pd l i k then (l.getD k Cla.zero).methods else []
theorem Q50 {l : List Cla} {i n : Nat} : P6 l i (n + 1) = P6 l i n ++ if Pd l i n then (l.getD n Cla.zero).methods else [] := by
  unfold P6
  rw [List.range_succ, List.flatMap_append]
  simp
theorem Q1J {l : List Cla} (ho : B5 l) {i : Nat} (hi : i < l.length) (m : Hm.Met) : m ∈ P6 l i l.length ↔ m ∈ allMets l (Y1 l i) := by
  unfold P6 allMets
  simp only [List.mem_flatMap, List.mem_range]
  have hlk : ∀ k, k < l.length → lk l (Y1 l k) = some (l.getD k Cla.zero) := fun k hk => A6 ho hk
  constructor
  · rintro ⟨k, hk, hm⟩
    split at hm
    · rename_i hu
      refine ⟨Y1 l k, ?_, by rw [hlk k hk]; exact hm⟩
      rw [Zd, Q1w]
      simp only [Pd, Bool.or_eq_true, decide_eq_true_eq, Jx] at hu
      rcases hu with rfl | hu
      · exact .inl ⟨rfl, _, hlk _ hk⟩
      · exact .inr hu
    · simp at hm
  · rintro ⟨u, hu, hm⟩
    rw [Zd] at hu
    obtain ⟨c, hc⟩ := hu.right
    obtain ⟨hn, hmem, j, hj, hlj⟩ := V6 hc
    obtain ⟨hjl, hje⟩ := List.getElem?_eq_some_iff.1 hlj
    have hnj : Y1 l j = u := by
      unfold Y1; rw [List.getD_eq_getElem?_getD, hlj]; exact hn
    refine ⟨j, hjl, ?_⟩
    rw [hc] at hm
    have : Pd l i j = true := by
      simp only [Pd, Bool.or_eq_true, decide_eq_true_eq, Jx]
      rw [Q1w] at hu
      rcases hu with ⟨e, _⟩ | hu
      · left
        have h1 := hlk i hi
        rw [e, ← hnj] at h1
        have h2 := B5.find ho (i := i) (c := l[i]) (List.getElem?_eq_getElem hi)
        have h3 : l[i].name = Y1 l i := by unfold Y1; rw [List.getD_eq_getElem?_getD, List.getElem?_eq_getElem hi]; rfl
        rw [h3, e, hj] at h2
        simpa using h2
      · right; rw [hnj]; exact hu
    rw [if_pos this, List.getD_eq_getElem?_getD, hlj]
    exact hm
theorem Q6w {l : List Cla} {i n : Nat} {m : Hm.Met} (h : m ∈ P6 l i n) (hn : n ≤ l.length) : ∃ c ∈ l, m ∈ c.methods := by
  unfold P6 at h
  simp only [List.mem_flatMap, List.mem_range] at h
  obtain ⟨k, hk, hm⟩ := h
  split at hm
  · have hk' : k < l.length := by omega
    rw [List.getD_eq_getElem?_getD, List.getElem?_eq_getElem hk'] at hm
    exact ⟨l[k], List.getElem_mem _, hm⟩
  · simp at hm
def G0 (ms : List Hm.Met) (x y : Nat) : Bool := decide ((ms.getD x Hm.Met.zero).name = (ms.getD y Hm.Met.zero).name) && !decide (K1 (ms.getD x Hm.Met.zero) = K1 (ms.getD y Hm.Met.zero))
theorem En {α : Type} {l : List α} {d : α} {n : Nat} (h : n < l.length) : l.getD n d = l[n] := by rw [List.getD_eq_getElem?_getD, List.getElem?_eq_getElem h]; rfl
theorem Q62 {ms : List Hm.Met} {x y : Nat} (hx : x < ms.length) (hy : y < ms.length) (h : G0 ms x y = true) : Uw ms = true := by
  unfold Uw
  rw [List.any_eq_true]
  refine ⟨ms[x], List.getElem_mem _, ?_⟩
  rw [List.any_eq_true]
  refine ⟨ms[y], List.getElem_mem _, ?_⟩
  unfold G0 at h
  rwa [En hx, En hy] at h
theorem Q6M {ms : List Hm.Met} (h : ∀ x y, x < ms.length → y < x → G0 ms x y = false) : Uw ms = false := by
  unfold Uw
  rw [List.any_eq_false]
  intro a ha
  rw [List.any_eq_true]
  rintro ⟨b, hb, hab⟩
  obtain ⟨x, hx, rfl⟩ := List.getElem_of_mem ha
  obtain ⟨y, hy, rfl⟩ := List.getElem_of_mem hb
  have sym : G0 ms y x = G0 ms x y := by
    unfold G0
    congr 1
    · rw [Bool.eq_iff_iff]; simp [eq_comm]
    · congr 1; rw [Bool.eq_iff_iff]; simp [eq_comm]
  have hov : G0 ms x y = true := by unfold G0; rw [En hx, En hy]; exact hab
  rcases Nat.lt_trichotomy x y with hlt | heq | hlt
  · rw [← sym, h y x hy hlt] at hov; cases hov
  · subst heq; simp [G0] at hov
  · rw [h x y hx hlt] at hov; cases hov
end Go.Hm
namespace Go.Proofs.YtdnfaboigajkhaaGreatDoor
open Go.Emb Go.RowKit Go.Kd Go.Hm
variable {w : World} {K : Value → World → Prop} {σ : Q5} {l : List Cla} {v : Value}
theorem Ch {c : Cla} (h : Xe c = false) : c.fields.length ≤ 32 ∧ c.methods.length ≤ 32 ∧ ∀ m ∈ c.methods, m.params.length ≤ 32 := by
  simp only [Xe, Bool.or_eq_false_iff, decide_eq_false_iff_not, List.any_eq_false] at h
  obtain ⟨⟨⟨h1, h2⟩, h3⟩, h4⟩ := h
  refine ⟨by omega, by omega, fun m hm => ?_⟩
  have := h1 m hm
  simp only [Jk, Bool.or_eq_true, decide_eq_true_eq, not_or] at this
  omega
set_option maxHeartbeats 8000000 in
theorem Q3L {i : Nat} (hs : X6 w σ) (hv : Sl 8 U7 σ v l) (ok : Ok l) (own : B5 l) (hlen : l.length ≤ 1000) (hmn : ∀ c ∈ l, Xe c = false) (hi : i < l.length)
    (h : ∀ w' σ', Stp w σ w' σ' → K (I (membersM l l[i])) w') : Q1 P F.aO [v, I i] w K := He (by
  unfold Jc
  obtain ⟨lv, fv, mv, p0, r0⟩ := hv.elC hi
  refine Y4 hv hi ?_
  refine Y3 hs p0 rfl ?_
  refine Y0 hs (by rfl) rfl (Rep.one r0) fun q w1 σ1 hk1 hq1 => ?_
  have r1 := H2 r0 ⟨hk1.le⟩
  obtain ⟨_, gf, gm, g4, _⟩ := r1.parts
  have hv1 := hv.up hk1
  have hnm := ok.nm _ (List.getElem_mem hi)
  have hcm := hmn _ (List.getElem_mem hi)
  have hname : Y1 l i = l[i].name := Bq hi
  generalize hcE : l[i] = c at *
  obtain ⟨mf, mm, mp⟩ := Ch hcm
  have e64 : C9 l c = true → membersM l c = 64 := fun e => by unfold membersM; simp [e]
  have e65 : C9 l c = false → E0 l c = true → membersM l c = 65 := fun e e2 => by unfold membersM; simp [e, e2]
  have e66 : C9 l c = false → E0 l c = false → B9 l c = true → membersM l c = 66 := fun e e2 e3 => by unfold membersM; simp [e, e2, e3]
  have e67 : C9 l c = false → E0 l c = false → B9 l c = false → Qf l c = true → membersM l c = 67 := fun e e2 e3 e4 => by unfold membersM; simp [e, e2, e3, e4]
  have e0 : C9 l c = false → E0 l c = false → B9 l c = false → Qf l c = false → membersM l c = 0 := fun e e2 e3 e4 => by unfold membersM; simp [e, e2, e3, e4]
  generalize membersM l c = R at *
  clear p0 r0 r1 hcm
  refine V2 c.fields.length (fun n w' => ∃ σ', Stp w σ w' σ' ∧ SLe σ1 σ' ∧ (c.fields.take n).any (fun f => (placeM l c.super f.name).isSome) = false) ⟨σ1, hk1, SLe.refl _, rfl⟩ fun n w2 d hn hinv => ?_
  obtain ⟨σ2, hS2, le2, hno⟩ := hinv
  have hq2 := hq1.lift le2
  have gf2 := gf.lift le2
  (try simp only [↓Mm, Mm, ↓Mr, Mr, Mb, reduceIte])
  refine ld hS2.sat hq2 rfl ?_
  refine Q6 gf2 ?_
  refine Z5 ?_
  refine Q4 (fun hc => ?_) (fun hc => ?_)
  · have hn' : n < c.fields.length := by simpa using hc
    obtain ⟨pf, _⟩ := gf2.elF hn'
    have hs2 := hS2.sat
    refine W1 hs2 ?_
    (repeat (apply L9; (· intros; (repeat (rename_i hx; subst hx)); (repeat' (first | (with_reducible exact U8 rfl) | (with_reducible exact V9 (Stp.bel (by (repeat (first | exact Stp.refl (by (first | assumption | exact Stp.sat (by assumption) | exact Hst.sat (by assumption))) | assumption | refine Stp.trans ?_ (by first | assumption | exact Hst.stp (by assumption)))))) rfl) | (with_reducible intro _) | (simp only [↓Mm, Mm, ↓Mp, Mp, Mb, reduceIte])  | (with_reducible show Q2 _ _ _ _ _; first | refine X8 aS aL aR ?_ | refine Y3 aS aL aR ?_ | refine ld aS aL aR ?_) | (with_reducible show indexAddr _ _ _ _ _ _; refine Y4 aL au ?_) | (with_reducible show X4 _ _ _ _ _ _ _ _; refine Q6 aL ?_) | (with_reducible show D1 _ _ _ _ _ _; refine Y6 aR ?_) | (with_reducible show pick _ _ _ _ _ _; refine W8 ?_) | (apply W9; intro hh; (try simp only [hh, reduceIte, ↓Mm, Mm, ↓Mp, Mp, Mb, reduceIte])))); done)))
    (intros; (repeat (rename_i hx; subst hx)); (try simp only [↓Mm, Mm, ↓Mp, Mp, Mb, reduceIte]))
    rename_i w3 hb3
    refine Q63 hb3.sat (hv.up (hS2.trans hb3.stp)) ok.acy hlen ok.sm fun w4 σ4 hk4 => ?_
    refine Vh ?_
    rw [Yv]
    have hnx := M8 (p := fun f : Fld => (placeM l c.super f.name).isSome) hn'
    cases hp : (placeM l c.super c.fields[n].name).isSome with
    | true =>
      (try simp only [↓Mm, Mm, ↓Mr, Mr, Mb, reduceIte])
      rw [hp, Bool.or_true] at hnx
      have : R = 64 := e64 (R6 hn' hp)
      subst this
      exact h _ _ ((hS2.trans hb3.stp).trans hk4)
    | false =>
      (try simp only [↓Mm, Mm, ↓Mr, Mr, Mb, reduceIte])
      exact Y5 gf.max hn' ⟨σ4, (hS2.trans hb3.stp).trans hk4, le2.more ⟨(hb3.stp.trans hk4).le⟩, by rw [hnx, hno, hp]; rfl⟩
  have hA : C9 l c = false := by
    have hn' : ¬ n < c.fields.length := by simpa using hc
    rw [O9 hn'] at hno; exact hno
  clear hno hc hn e64
  refine Ky (R := U5) (e := T.b) hS2 (by decide) fun x3 w3 hk3 ha3 _ => ?_
  have hS3 := hS2.trans hk3
  refine N1 c.fields.length (fun n x w' => ∃ σ', Stp w σ w' σ' ∧ SLe σ1 σ' ∧ W5 w.heap.size T.b 1 U5 σ' w' x ((c.fields.take n).map (·.kind))) ⟨σ2, hS3, le2, ha3⟩ fun n x w4 d hn hinv => ?_
  obtain ⟨σ4, hS4, le4, ha4⟩ := hinv
  have hq4 := hq1.lift le4
  have gf4 := gf.lift le4
  (try simp only [↓Mm, Mm, ↓Mr, Mr, Mb, reduceIte])
  refine ld hS4.sat hq4 rfl ?_
  refine Q6 gf4 ?_
  refine Z5 ?_
  refine Q4 (fun hc => ?_) (fun hc => ?_)
  · have hn' : n < c.fields.length := by simpa using hc
    obtain ⟨pf, rf⟩ := gf4.elF hn'
    have hkl := (hnm.2.1 _ (List.getElem_mem hn')).2
    (try simp only [↓Mm, Mm, ↓Mr, Mr, Mb, reduceIte])
    refine ld hS4.sat hq4 rfl ?_
    refine Y4 gf4 hn' ?_
    (try simp only [↓Mm, Mm, ↓Mr, Mr, Mb, reduceIte])
    refine ld hS4.sat pf rfl ?_
    refine Ys (R := U5) (x := c.fields[n].kind) hS4 ha4 ⟨rfl, Nat.le_trans hkl (by decide)⟩ rfl rfl rfl (by rw [List.length_map, List.length_take]; omega) (by rw [List.length_map, List.length_take]; omega) fun s v' w5 σ5 hnx hS5 ha5 _ => ?_
    (try simp only [↓Mm, Mm, ↓Mr, Mr, Mb, reduceIte])
    refine Z6 gf.max hn' ⟨σ5, hS5, le4.more hnx.le, ?_⟩
    rw [List.take_add_one, List.getElem?_eq_getElem hn', List.map_append]
    exact ha5
  rw [List.take_of_length_le (by have : ¬ n < c.fields.length := by simpa using hc
                                 omega)] at ha4
  clear hc hn hk3 ha3 hS3 hS2 le2 hq2 gf2 hq4 gf4
  have hkl : ∀ n, (c.fields.map (·.kind) ++ (c.methods.take n).flatMap Qw).length ≤ 2000 := fun n => by
    have h1 := K0 Qw 33 (c.methods.take n) fun m hm => by
      have := mp m (List.mem_of_mem_take hm)
      unfold Qw
      split <;> simp <;> omega
    have h2 : (c.methods.take n).length ≤ 32 := by rw [List.length_take]; omega
    have h3 : (c.methods.take n).length * 33 ≤ 32 * 33 := Nat.mul_le_mul_right _ h2
    rw [List.length_append, List.length_map]; omega
  refine N1 c.methods.length (fun n x w' => ∃ σ', Stp w σ w' σ' ∧ SLe σ1 σ' ∧ W5 w.heap.size T.b 1 U5 σ' w' x (c.fields.map (·.kind) ++ (c.methods.take n).flatMap Qw)) ⟨σ4, hS4, le4, by simpa using ha4⟩ fun n x w5 d hn hinv => ?_
  clear ha4 hS4 le4
  obtain ⟨σ5, hS5, le5, ha5⟩ := hinv
  have hq5 := hq1.lift le5
  have gm5 := gm.lift le5
  have hkn := hkl n
  (try simp only [↓Mm, Mm, ↓Mr, Mr, Mb, reduceIte])
  refine ld hS5.sat hq5 rfl ?_
  refine Q6 gm5 ?_
  refine Z5 ?_
  refine Q4 (fun hc => ?_) (fun hc => ?_)
  · have hn' : n < c.methods.length := by simpa using hc
    obtain ⟨pv, cv, hv', pm, rm⟩ := gm5.elM hn'
    obtain ⟨gp, _, _, _, gr, _⟩ := rm.parts
    have hpn := mp _ (List.getElem_mem hn')
    have hrl := (hnm.2.2 _ (List.getElem_mem hn')).1
    have hnx : (c.methods.take (n + 1)).flatMap Qw = (c.methods.take n).flatMap Qw ++ Qw c.methods[n] := by
      rw [List.take_add_one, List.getElem?_eq_getElem hn', List.flatMap_append]; simp
    refine V3 ?_
    (try simp only [↓Mm, Mm, ↓Mr, Mr, Mb, reduceIte])
    refine ld hS5.sat hq5 rfl ?_
    refine Y4 gm5 hn' ?_
    (try simp only [↓Mm, Mm, ↓Mr, Mr, Mb, reduceIte])
    refine ld hS5.sat pm rfl ?_
    refine Nv hS5 ha5 gp rfl (by omega) (by omega) fun v6 w6 hn6 hS6 ha6 _ => ?_
    (try simp only [↓Mm, Mm, ↓Mr, Mr, Mb, reduceIte])
    refine ld hS6.sat hq5 rfl ?_
    refine Y4 gm5 hn' ?_
    (try simp only [↓Mm, Mm, ↓Mr, Mr, Mb, reduceIte])
    refine ld hS6.sat pm rfl ?_
    refine Nd ?_
    by_cases he : c.methods[n].result = []
    · simp only [he, decide_true, Bool.not_true, ↓Mm, Mm, ↓Mr, Mr, Mb, reduceIte]
      intro d
      refine Z6 gm.max hn' ⟨σ5, hS6, le5, ?_⟩
      rw [hnx]
      unfold Qw
      rw [if_pos he, List.append_nil, ← List.append_assoc]
      exact ha6
    · simp only [he, decide_false, Bool.not_false, ↓Mm, Mm, ↓Mr, Mr, Mb, reduceIte]
      refine ld hS6.sat hq5 rfl ?_
      refine Y4 gm5 hn' ?_
      (try simp only [↓Mm, Mm, ↓Mr, Mr, Mb, reduceIte])
      refine ld hS6.sat pm rfl ?_
      refine Ys (R := U5) (x := c.methods[n].result) hS6 ha6 ⟨rfl, Nat.le_trans hrl (by decide)⟩ rfl rfl rfl (by rw [List.length_append]; omega) (by rw [List.length_append]; omega) fun s v' w7 σ7 hn7 hS7 ha7 _ => ?_
      intro d
      (try simp only [↓Mm, Mm, ↓Mr, Mr, Mb, reduceIte])
      refine Z6 gm.max hn' ⟨σ7, hS7, le5.more hn7.le, ?_⟩
      rw [hnx]
      unfold Qw at ha7 ⊢
      rw [if_neg he]
      simpa only [List.append_assoc] using ha7
  rw [List.take_of_length_le (by have : ¬ n < c.methods.length := by simpa using hc
                                 omega)] at ha5
  have hkn := hkl c.methods.length
  rw [List.take_of_length_le (Nat.le_refl _)] at hkn
  have hkE : E0 l c = (Ya c).any (fun s => !thereM l s) := Q5Z.symm
  have hkb : ∀ s ∈ Ya c, s.length ≤ W3 := fun s hs => by
    unfold Ya at hs
    rcases List.mem_append.1 hs with hs | hs
    · obtain ⟨f, hf, rfl⟩ := List.mem_map.1 hs
      exact Nat.le_trans (hnm.2.1 f hf).2 (by decide)
    · obtain ⟨m, hm, hs⟩ := List.mem_flatMap.1 hs
      unfold Qw at hs
      rcases List.mem_append.1 hs with hs | hs
      · exact Nat.le_trans ((hnm.2.2 m hm).2 s hs) (by decide)
      · split at hs
        · simp at hs
        · simp at hs; subst hs; exact Nat.le_trans (hnm.2.2 m hm).1 (by decide)
  obtain ⟨σ6, hS6, hv6, lee6, _⟩ := ha5.keep hS5
  have le6 := le5.more ⟨lee6⟩
  clear ha5 hq5 gm5 hc hn
  change Sl 1 U5 σ6 x (Ya c) at hv6
  refine V2 (Ya c).length (fun n w' => Stp w σ w' σ6 ∧ ((Ya c).take n).any (fun s => !thereM l s) = false) ⟨hS6, rfl⟩ fun n w7 d hn hinv => ?_
  obtain ⟨hS7, hno⟩ := hinv
  refine Q6 hv6 ?_
  refine Z5 ?_
  refine Q4 (fun hc => ?_) (fun hc => ?_)
  · have hn' : n < (Ya c).length := by simpa using hc
    refine Y4 hv6 hn' ?_
    obtain ⟨pk, _⟩ := hv6.elS hn'
    refine X8 hS7.sat pk rfl ?_
    refine Q6f hS7.sat (hv.up hS7) (hkb _ (List.getElem_mem hn')) ?_
    have hnx := M8 (p := fun s => !thereM l s) hn'
    cases hp : thereM l (Ya c)[n] with
    | false =>
      (try simp only [↓Mm, Mm, ↓Mr, Mr, Mb, reduceIte])
      have : R = 65 := e65 hA (by rw [hkE]; exact R6 hn' (by simp [hp]))
      subst this
      exact h _ _ hS7
    | true =>
      (try simp only [↓Mm, Mm, ↓Mr, Mr, Mb, reduceIte])
      exact Y5 hv6.max hn' ⟨hS7, by rw [hnx, hno, hp]; rfl⟩
  have hB : E0 l c = false := by
    have hn' : ¬ n < (Ya c).length := by simpa using hc
    rw [O9 hn'] at hno; rw [hkE]; exact hno
  clear hno hc hn e65 hkE hkb hkn hkl hS5 le5 lee6 hv6
  refine Q1v hS7.sat (hv.up hS7) own (by omega) hlen ok.sm fun vb w8 σ8 hk8 hb8 => ?_
  have hS8 := hS7.trans hk8
  refine Ky (R := M9) (e := T.c) hS8 (by decide) fun x9 w9 hk9 ha9 _ => ?_
  have hml : ∀ n, n ≤ l.length → (P6 l i n).length ≤ 32000 := fun n hn => by
    unfold P6
    have h1 := K0 (fun k => if Pd l i k then (l.getD k Cla.zero).methods else []) 32 (List.range n) fun k hk => by
      have hk' : k < l.length := by have := List.mem_range.1 hk; omega
      split
      · rw [En hk']; exact (Ch (hmn _ (List.getElem_mem _))).2.1
      · simp
    rw [List.length_range] at h1
    have h3 : n * 32 ≤ 1000 * 32 := Nat.mul_le_mul_right _ (by omega)
    omega
  have hbl : (Qm l).length = l.length := by simp [Qm]
  refine N1 l.length (fun n x w' => ∃ σ', Stp w σ w' σ' ∧ SLe σ1 σ' ∧ SLe σ8 σ' ∧ W5 w.heap.size T.c 7 M9 σ' w' x (P6 l i n)) ⟨σ8, hS8.trans hk9, le6.more ⟨hk8.le⟩, SLe.refl _, ha9⟩ fun n x w10 d hn hinv => ?_
  clear ha9 hk9 hS7 hS8 le6 hS6 hk8
  obtain ⟨σ10, hS10, le10, leb, ha10⟩ := hinv
  have hv10 := hv.up hS10
  refine Q6 hv10 ?_
  refine Z5 ?_
  refine Q4 (fun hc => ?_) (fun hc => ?_)
  · have hn' : n < l.length := by simpa using hc
    have hmn1 := hml n hn
    have hsuc := Q50 (l := l) (i := i) (n := n)
    rw [En hn'] at hsuc
    obtain ⟨lv2, fv2, mv2, p2, r2⟩ := hv10.elC hn'
    obtain ⟨_, _, g3, _, _⟩ := r2.parts
    have hmn2 := (Ch (hmn _ (List.getElem_mem hn'))).2.1
    refine Ve (fun z w' => Stp w σ w' σ10 ∧ W5 w.heap.size T.c 7 M9 σ10 w' z (P6 l i (n + 1))) ?_ (fun z d w' hz => ?_)
    · refine Q2c ?_
      have happ : ∀ {J : Value → World → Prop}, Pd l i n = true → (∀ z w', Stp w σ w' σ10 → W5 w.heap.size T.c 7 M9 σ10 w' z (P6 l i (n + 1)) → J z w') →
          X4 P .append [T.e, T.e] T.e [false, false] [x, mv2] w10 J := fun hu hJ =>
        Nv hS10 ha10 g3 rfl (by omega) (by omega) fun v' w' _ hS' ha' _ => hJ v' w' hS' (by rw [hsuc, if_pos hu]; exact ha')
      by_cases e : n = i
      · have e1 : decide ((n : Int) = (i : Int)) = true := by simp [e]
        rw [e1]
        (try simp only [↓Mm, Mm, ↓Mr, Mr, Mb, reduceIte])
        refine Y4 hv10 hn' ?_
        (try simp only [↓Mm, Mm, ↓Mr, Mr, Mb, reduceIte])
        refine ld hS10.sat p2 rfl ?_
        exact happ (by simp [Pd, e]) fun z w' h1 h2 => ⟨h1, h2⟩
      · have e1 : decide ((n : Int) = (i : Int)) = false := by rw [decide_eq_false_iff_not]; omega
        rw [e1]
        obtain ⟨cs1, pb, _, rv, rfl, rb⟩ := (hb8.lift leb).el (i := i) (by rw [hbl]; exact hi)
        have hrow : (Qm l)[i]'(by rw [hbl]; exact hi) = (List.range l.length).map fun j => Zf l (Y1 l i) (Y1 l j) := by simp [Qm]
        rw [hrow] at rb
        obtain ⟨cs2, pb2, _, hcs2⟩ := rb.el (i := n) (by simpa using hn')
        have hcs2 : cs2 = _ := hcs2
        subst hcs2
        simp only [List.getElem_map, List.getElem_range] at pb2
        (try simp only [↓Mm, Mm, ↓Mr, Mr, Mb, reduceIte])
        refine Y4 (hb8.lift leb) (by rw [hbl]; exact hi) ?_
        refine X8 hS10.sat pb rfl ?_
        refine Y4 rb (by simpa using hn') ?_
        refine X8 hS10.sat pb2 rfl ?_
        (try simp only [↓Mm, Mm, ↓Mr, Mr, Mb, reduceIte])
        cases ho : Zf l (Y1 l i) (Y1 l n) with
        | true =>
          (try simp only [↓Mm, Mm, ↓Mr, Mr, Mb, reduceIte])
          refine Y4 hv10 hn' ?_
          (try simp only [↓Mm, Mm, ↓Mr, Mr, Mb, reduceIte])
          refine ld hS10.sat p2 rfl ?_
          exact happ (by simp [Pd, ho]) fun z w' h1 h2 => ⟨h1, h2⟩
        | false =>
          (try simp only [↓Mm, Mm, ↓Mr, Mr, Mb, reduceIte])
          refine ⟨hS10, ?_⟩
          have : Pd l i n = false := by simp [Pd, ho, e]
          rw [hsuc, this]
          simpa using ha10
    · obtain ⟨hS', ha'⟩ := hz
      (try simp only [↓Mm, Mm, ↓Mr, Mr, Mb, reduceIte])
      exact Z6 (by omega) hn' ⟨σ10, hS', le10, leb, ha'⟩
  have hn0 : n = l.length := by have : ¬ n < l.length := by simpa using hc
                                omega
  subst hn0
  obtain ⟨σ11, hS11, hv11, lee11, _⟩ := ha10.keep hS10
  have le11 := le10.more ⟨lee11⟩
  have hml2 := hml _ (Nat.le_refl l.length)
  have hov : B9 l c = Uw (P6 l i l.length) := by
    unfold B9
    refine (Q3w fun m => ?_).symm
    rw [Q1J own hi, hname]
  have hlk : Qf l c = (!c.abs && (P6 l i l.length).any fun m => F9 l c.name m.name) := by
    unfold Qf
    congr 1
    refine (Q7g fun m => ?_).symm
    rw [Q1J own hi, hname]
  have hsn : ∀ m ∈ P6 l i l.length, SmM m ∧ NmM m := fun m hm => by
    obtain ⟨c2, hc2, hm2⟩ := Q6w hm (Nat.le_refl _)
    exact ⟨(ok.sm c2 hc2).2.2.2 m hm2, (ok.nm c2 hc2).2.2 m hm2⟩
  generalize P6 l i l.length = ms at hov hlk hsn hml2 hv11
  clear ha10 lee11 hS10 le10 leb hv10 hml hc hb8 hbl
  refine V2 ms.length (fun n w' => ∃ σ', Stp w σ w' σ' ∧ SLe σ11 σ' ∧ ∀ a b, a < n → b < a → G0 ms a b = false) ⟨σ11, hS11, SLe.refl _, fun a b h => by omega⟩ fun n w12 d hn hinv => ?_
  obtain ⟨σ12, hS12, le12, hno⟩ := hinv
  have hv12 := hv11.lift le12
  refine Q6 hv12 ?_
  refine Z5 ?_
  refine Q4 (fun hc => ?_) (fun hc => ?_)
  · have hn' : n < ms.length := by simpa using hc
    refine V2 n (fun m w' => ∃ σ', Stp w σ w' σ' ∧ SLe σ11 σ' ∧ ∀ b, b < m → G0 ms n b = false) ⟨σ12, hS12, le12, fun b h => by omega⟩ fun m w13 d hm hinv => ?_
    obtain ⟨σ13, hS13, le13, hno2⟩ := hinv
    have hv13 := hv11.lift le13
    refine Z5 ?_
    refine Q4 (fun hc => ?_) (fun hc => ?_)
    · have hm' : m < n := by simpa using hc
      have hm2 : m < ms.length := by omega
      obtain ⟨pv1, cv1, hv1', pn, rn⟩ := hv13.elM hn'
      obtain ⟨pv2, cv2, hv2', pm, rm⟩ := hv13.elM hm2
      obtain ⟨sn1, sn2⟩ := hsn _ (List.getElem_mem hn')
      obtain ⟨sm1, sm2⟩ := hsn _ (List.getElem_mem hm2)
      have hat : G0 ms n m = (decide (ms[n].name = ms[m].name) && !decide (K1 ms[n] = K1 ms[m])) := by
        unfold G0; rw [En hn', En hm2]
      have hs13 := hS13.sat
      have hnx : G0 ms n m = false → ∀ b, b < m + 1 → G0 ms n b = false := fun e b hb => by
        by_cases e2 : b = m
        · subst e2; exact e
        · exact hno2 b (by omega)
      refine W1 hs13 ?_
      (repeat (apply L9; (· intros; (repeat (rename_i hx; subst hx)); (repeat' (first | (with_reducible exact U8 rfl) | (with_reducible exact V9 (Stp.bel (by (repeat (first | exact Stp.refl (by (first | assumption | exact Stp.sat (by assumption) | exact Hst.sat (by assumption))) | assumption | refine Stp.trans ?_ (by first | assumption | exact Hst.stp (by assumption)))))) rfl) | (with_reducible intro _) | (simp only [↓Mm, Mm, ↓Mp, Mp, Mb, reduceIte])  | (with_reducible show Q2 _ _ _ _ _; first | refine X8 aS aL aR ?_ | refine Y3 aS aL aR ?_ | refine ld aS aL aR ?_) | (with_reducible show indexAddr _ _ _ _ _ _; refine Y4 aL au ?_) | (with_reducible show X4 _ _ _ _ _ _ _ _; refine Q6 aL ?_) | (with_reducible show D1 _ _ _ _ _ _; refine Y6 aR ?_) | (with_reducible show pick _ _ _ _ _ _; refine W8 ?_) | (apply W9; intro hh; (try simp only [hh, reduceIte, ↓Mm, Mm, ↓Mp, Mp, Mb, reduceIte])))); done)))
      by_cases he : ms[n].name = ms[m].name
      · have hd : decide (ms[n].name = ms[m].name) = true := by simp [he]
        simp only [hd, reduceIte]
        (repeat (apply L9; (· intros; (repeat (rename_i hx; subst hx)); (repeat' (first | (with_reducible exact U8 rfl) | (with_reducible exact V9 (Stp.bel (by (repeat (first | exact Stp.refl (by (first | assumption | exact Stp.sat (by assumption) | exact Hst.sat (by assumption))) | assumption | refine Stp.trans ?_ (by first | assumption | exact Hst.stp (by assumption)))))) rfl) | (with_reducible intro _) | (simp only [↓Mm, Mm, ↓Mp, Mp, Mb, reduceIte])  | (with_reducible show Q2 _ _ _ _ _; first | refine X8 aS aL aR ?_ | refine Y3 aS aL aR ?_ | refine ld aS aL aR ?_) | (with_reducible show indexAddr _ _ _ _ _ _; refine Y4 aL au ?_) | (with_reducible show X4 _ _ _ _ _ _ _ _; refine Q6 aL ?_) | (with_reducible show D1 _ _ _ _ _ _; refine Y6 aR ?_) | (with_reducible show pick _ _ _ _ _ _; refine W8 ?_) | (with_reducible show Q1 _ _ _ _ _; first | refine Q3l au au au au ?_) | (apply W9; intro hh; (try simp only [hh, reduceIte, ↓Mm, Mm, ↓Mp, Mp, Mb, reduceIte])))); done)))
        (intros; (repeat (rename_i hx; subst hx)); (try simp only [↓Mm, Mm, ↓Mp, Mp, Mb, reduceIte]))
        rename_i w14 hb14
        refine Q3l hb14.sat rm sm1 sm2 fun w15 σ15 hk15 => ?_
        refine Nd ?_
        (try simp only [↓Mm, Mm, ↓Mr, Mr, Mb, reduceIte])
        have hS15 := (hS13.trans hb14.stp).trans hk15
        by_cases hsg : K1 ms[n] = K1 ms[m]
        · simp only [hsg, decide_true, Bool.not_true, ↓Mm, Mm, ↓Mr, Mr, Mb, reduceIte]
          refine Y5 (by omega) hm' ⟨σ15, hS15, le13.more ⟨(hb14.stp.trans hk15).le⟩, hnx ?_⟩
          rw [hat, hsg]; simp
        · simp only [hsg, decide_false, Bool.not_false, ↓Mm, Mm, ↓Mr, Mr, Mb, reduceIte]
          have : R = 66 := e66 hA hB (by rw [hov]; exact Q62 hn' hm2 (by rw [hat]; simp [he, hsg]))
          subst this
          exact h _ _ hS15
      · have hd : decide (ms[n].name = ms[m].name) = false := by simp [he]
        simp only [hd, Bool.false_eq_true, reduceIte]
        (repeat (apply L9; (· intros; (repeat (rename_i hx; subst hx)); (repeat' (first | (with_reducible exact U8 rfl) | (with_reducible exact V9 (Stp.bel (by (repeat (first | exact Stp.refl (by (first | assumption | exact Stp.sat (by assumption) | exact Hst.sat (by assumption))) | assumption | refine Stp.trans ?_ (by first | assumption | exact Hst.stp (by assumption)))))) rfl) | (with_reducible intro _) | (simp only [↓Mm, Mm, ↓Mp, Mp, Mb, reduceIte])  | (with_reducible show Q2 _ _ _ _ _; first | refine X8 aS aL aR ?_ | refine Y3 aS aL aR ?_ | refine ld aS aL aR ?_) | (with_reducible show indexAddr _ _ _ _ _ _; refine Y4 aL au ?_) | (with_reducible show X4 _ _ _ _ _ _ _ _; refine Q6 aL ?_) | (with_reducible show D1 _ _ _ _ _ _; refine Y6 aR ?_) | (with_reducible show pick _ _ _ _ _ _; refine W8 ?_) | (apply W9; intro hh; (try simp only [hh, reduceIte, ↓Mm, Mm, ↓Mp, Mp, Mb, reduceIte])))); done)))
        (intros; (repeat (rename_i hx; subst hx)); (try simp only [↓Mm, Mm, ↓Mp, Mp, Mb, reduceIte]))
        rename_i w14 hb14
        (try simp only [↓Mm, Mm, ↓Mr, Mr, Mb, reduceIte])
        refine Y5 (by omega) hm' ⟨σ13, hS13.trans hb14.stp, le13, hnx ?_⟩
        rw [hat]; simp [he]
    · have hm0 : m = n := by have : ¬ m < n := by simpa using hc
                             omega
      subst hm0
      (try simp only [↓Mm, Mm, ↓Mr, Mr, Mb, reduceIte])
      refine Y5 hv11.max hn' ⟨σ13, hS13, le13, fun a b ha hb => ?_⟩
      by_cases e : a = m
      · subst e; exact hno2 b hb
      · exact hno a b (by omega) hb
  have hC : B9 l c = false := by
    rw [hov]
    have : ¬ n < ms.length := by simpa using hc
    exact Q6M fun x y hx hy => hno x y (by omega) hy
  clear hno hc hn hv12 hov e66
  refine V2 ms.length (fun n w' => ∃ σ', Stp w σ w' σ' ∧ SLe σ11 σ' ∧ (c.abs = true → n = 0) ∧ (ms.take n).any (fun m => F9 l c.name m.name) = false) ⟨σ12, hS12, le12, fun _ => rfl, rfl⟩ fun n w13 d hn hinv => ?_
  clear hS12 le12
  obtain ⟨σ13, hS13, le13, hab, hno⟩ := hinv
  have hv13 := hv11.lift le13
  have hq13 := hq1.lift (le11.more le13)
  refine Q6 hv13 ?_
  refine Z5 ?_
  by_cases hn' : n < ms.length
  · have e1 : decide ((n : Int) < (ms.length : Int)) = true := by simpa using hn'
    rw [e1]
    (try simp only [↓Mm, Mm, ↓Mr, Mr, Mb, reduceIte])
    refine ld hS13.sat hq13 rfl ?_
    refine U3 ?_
    (try simp only [↓Mm, Mm, ↓Mr, Mr, Mb, reduceIte])
    cases hca : c.abs with
    | true =>
      (try simp only [↓Mm, Mm, ↓Mr, Mr, Mb, reduceIte])
      have : R = 0 := e0 hA hB hC (by rw [hlk, hca]; rfl)
      subst this
      exact h _ _ hS13
    | false =>
      (try simp only [↓Mm, Mm, ↓Mr, Mr, Mb, reduceIte])
      obtain ⟨pvn, cvn, hvn, pn, rn⟩ := hv13.elM hn'
      have hs13 := hS13.sat
      have hnx := M8 (p := fun m : Hm.Met => F9 l c.name m.name) hn'
      have hla : F9 l c.name ms[n].name = (!(methodM l c.name ms[n].name).isSome || (o2 (methodM l c.name ms[n].name)).abs) := by
        unfold F9
        cases methodM l c.name ms[n].name <;> rfl
      generalize hF : (fun o : Option Obj => ∃ cs : List Value, ∃ e, o = some (.cells cs.toArray e (0, 0)) ∧ cs.length = 7 ∧ cs[3]? = some (.bool (o2 (methodM l c.name ms[n].name)).abs)) = F
      have hFn : ¬ F none := by rw [← hF]; rintro ⟨_, _, h, _⟩; cases h
      refine Q8Y F hs13 ?_
      (repeat (apply L9; (· intros; (repeat (rename_i hx; subst hx)); (repeat' (first | (with_reducible exact Q2B rfl) | (with_reducible exact Q8w (Stp.bel (by (repeat (first | exact Stp.refl (by (first | assumption | exact Stp.sat (by assumption) | exact Hst.sat (by assumption))) | assumption | refine Stp.trans ?_ (by first | assumption | exact Hst.stp (by assumption)))))) rfl) | (with_reducible intro _) | (simp only [↓Mm, Mm, ↓Mp, Mp, Mb, reduceIte]) | (with_reducible show Q2 _ _ _ _ _; first | refine X8 aS aL aR ?_ | refine Y3 aS aL aR ?_ | refine ld aS aL aR ?_) | (with_reducible show indexAddr _ _ _ _ _ _; refine Y4 aL au ?_) | (with_reducible show X4 _ _ _ _ _ _ _ _; refine Q6 aL ?_) | (with_reducible show D1 _ _ _ _ _ _; refine Y6 aR ?_) | (with_reducible show pick _ _ _ _ _ _; refine W8 ?_))); done)))
      refine O4 (fun v _ => ∃ s, ∃ ds : List Value, v = .tuple #[s, .agg ds.toArray, .bool (methodM l c.name ms[n].name).isSome] ∧ ds.length = 7 ∧ ds[3]? = some (.bool (o2 (methodM l c.name ms[n].name)).abs) ∧ ∀ u ∈ ds, u.oneCell' = true) (fun _ _ _ h _ => h) (fun t180 t185 w hb e1 e2 => ?_) ?_
      · subst e1; subst e2
        refine Q5s hb.sat (hv.up (hS13.trans hb.stp)) ok fun pv cv hv w' σ' hk hr => ⟨.of_below hk.bel, _, _, rfl, rfl, rfl, Rep.one hr⟩
      refine O4 (fun _ _ => True) (fun _ _ _ _ _ => trivial) (fun t186 w hb e => ?_) ?_
      · obtain ⟨s, ds, rfl, _⟩ := e
        exact M5 (vs := [_, _, _]) rfl ⟨.of_below (Below.refl _ _), trivial⟩
      refine O4 (fun v _ => ∃ ds : List Value, v = .agg ds.toArray ∧ ds.length = 7 ∧ ds[3]? = some (.bool (o2 (methodM l c.name ms[n].name)).abs) ∧ ∀ u ∈ ds, u.oneCell' = true) (fun _ _ _ h _ => h) (fun t186 w hb e => ?_) ?_
      · obtain ⟨s, ds, rfl, h7⟩ := e
        exact M5 (vs := [_, _, _]) rfl ⟨.of_below (Below.refl _ _), ds, rfl, h7⟩
      refine L9 (V := .bool (methodM l c.name ms[n].name).isSome) (fun t186 w hb e => ?_) ?_
      · obtain ⟨s, ds, rfl, h7⟩ := e
        exact M5 (vs := [_, _, _]) rfl (Q2B rfl)
      refine O4 (Q95 w13.heap.size 7 F) (Q5g hFn) (fun w hb => ?_) ?_
      · exact Su hb.sat fun b w' hb2 hk hm => ⟨.of_below hk.bel, b, rfl, Nat.le_trans hb.stp.bel.size hb2, .inl ⟨_, hm.2.choose, rfl, hm.2.choose_spec⟩⟩
      refine Q8o (fun xs _ w => Q8C w13.heap.size F (xs.headD undef) w) (fun xs _ w w' h hT => Q5b hFn _ w w' h hT) (fun t18 t188 w hb e1 e2 => ?_) ?_
      · obtain ⟨g, rfl, hg, hd⟩ := e1
        obtain ⟨ds, rfl, h7, h3, h1⟩ := e2
        obtain ⟨cs, e, hl7, hh⟩ : ∃ cs : List Value, ∃ e, cs.length = 7 ∧ w.heap[g]? = some (.cells cs.toArray e (0, 0)) := by
          rcases hd with h | h
          · exact h
          · rw [← hF] at h
            obtain ⟨cs, e, h4, h5, _⟩ := h
            exact ⟨cs, e, h5, h4⟩
        refine sta (σ := fun _ => none) (cs := cs) (ds := ds) ⟨rfl, e, hh⟩ hl7 h7 (by rw [List.all_toArray]; exact List.all_eq_true.2 h1) fun w' hu hm => ?_
        have hFg : F (w'.heap[g]?) := by
          obtain ⟨_, e', hm'⟩ := hm
          rw [hm', ← hF]
          exact ⟨ds, e', rfl, h7, h3⟩
        exact ⟨FinT.of_upd hu hg hFg, g, rfl, hg, hFg⟩
      rintro t179 t183 t184 t180 t185 t186 t187 t188 t189 t18 u15 w14 hb14 rfl rfl rfl rfl rfl _ _ _ rfl _ ⟨g, e, hg, hd⟩
      have e : t18 = _ := e
      subst e
      rw [← hF] at hd
      obtain ⟨cs, ty, hh, hl7, h3⟩ := hd
      have hS14 := hS13.trans hb14.stp
      refine U3 ?_
      cases hsm : (methodM l c.name ms[n].name).isSome with
      | false =>
        (try simp only [↓Mm, Mm, ↓Mr, Mr, Mb, reduceIte])
        have : R = 67 := e67 hA hB hC (by rw [hlk, hca]; exact R6 hn' (by rw [hla, hsm]; rfl))
        subst this
        exact h _ _ hS14
      | true =>
        (try simp only [↓Mm, Mm, ↓Mr, Mr, Mb, reduceIte])
        refine ldm (σ := fun _ => none) ⟨rfl, ty, hh⟩ h3 ?_
        (try simp only [↓Mm, Mm, ↓Mr, Mr, Mb, reduceIte])
        cases hma : (o2 (methodM l c.name ms[n].name)).abs with
        | true =>
          (try simp only [↓Mm, Mm, ↓Mr, Mr, Mb, reduceIte])
          have : R = 67 := e67 hA hB hC (by rw [hlk, hca]; exact R6 hn' (by rw [hla, hma, Bool.or_true]))
          subst this
          exact h _ _ hS14
        | false =>
          (try simp only [↓Mm, Mm, ↓Mr, Mr, Mb, reduceIte])
          refine Y5 hv11.max hn' ⟨σ13, hS14, le13, fun e => False.elim (by simpa using e), ?_⟩
          rw [hnx, hno, hla, hsm, hma]; rfl
  · have e1 : decide ((n : Int) < (ms.length : Int)) = false := by simpa using hn'
    rw [e1]
    (try simp only [↓Mm, Mm, ↓Mr, Mr, Mb, reduceIte])
    rw [O9 hn'] at hno
    have : R = 0 := e0 hA hB hC (by rw [hlk, hno, Bool.and_false])
    subst this
    exact h _ _ hS13)
end Go.Proofs.YtdnfaboigajkhaaGreatDoor

namespace Go.Proofs.YtdnfaboigajkhaaGreatDoor
open Go.Emb Go.RowKit Go.Kd Go.Hm
variable {w : World} {K : Value → World → Prop} {σ : Q5} {v : Value}
def Q0g : List Cla := [⟨U4, [], [], false, false, false, [], []⟩, ⟨L3, U4, [], false, false, false, [⟨I8, C3, false⟩], []⟩]
def gMk (n : X0) : Cla := ⟨n, L3, [], false, false, true, [], []⟩
theorem Q3M : R5 = Q0g ++ V1.map gMk := rfl
theorem Q6p (hs : X6 w σ) (h : ∀ v' w' σ', Stp w σ w' σ' → W5 w.heap.size T.a 8 U7 σ' w' v' R5 → K v' w') : Q1 P F.b0 [] w K := Ss (by
  unfold Ur
  refine B1 (cells := #[S U4, S [], .slice none 0 0, .bool false, .bool false, .bool false, .slice none 0 0, .slice none 0 0]) (by kernel_rfl) ?_
  refine B1 (cells := #[S I8, S C3, .bool false]) (by kernel_rfl) ?_
  refine Nc (R := D7) (sz := 3) hs [.agg #[S I8, S C3, .bool false]] [⟨I8, C3, false⟩] rfl rfl (by simp; rfl) rfl ⟨⟨rfl, by decide, by decide⟩, trivial⟩ fun v1 w1 σ1 hk1 hv1 => ?_
  have hv1' := hv1
  obtain ⟨a1, cap1, rfl, _⟩ := hv1'
  refine B1 (cells := #[S L3, S U4, .slice none 0 0, .bool false, .bool false, .bool false, .slice a1 1 cap1, .slice none 0 0]) (by kernel_rfl) ?_
  refine Qq (R := U7) (sz := 8) hk1 [.agg #[S U4, S [], .slice none 0 0, .bool false, .bool false, .bool false, .slice none 0 0, .slice none 0 0], .agg #[S L3, S U4, .slice none 0 0, .bool false, .bool false, .bool false, .slice a1 1 cap1, .slice none 0 0]]
    Q0g rfl rfl (by simp; exact ⟨rfl, rfl⟩) rfl ⟨⟨_, _, _, rfl, Sl.nil, Sl.nil, Sl.nil, by decide, by decide⟩, ⟨_, _, _, rfl, Sl.nil, hv1, Sl.nil, by decide, by decide⟩, trivial⟩ fun v2 w2 hk2 ha2 _ => ?_
  refine Nc (R := U5) (sz := 1) hk2.sat (V1.map S) V1 rfl rfl (by decide) rfl ⟨⟨rfl, by decide⟩, ⟨rfl, by decide⟩, ⟨rfl, by decide⟩, ⟨rfl, by decide⟩, ⟨rfl, by decide⟩, ⟨rfl, by decide⟩, trivial⟩ fun v3 w3 σ3 hk3 hv3 => ?_
  have hS3 := (hk1.trans hk2).trans hk3
  have hlf : V1.length = 6 := rfl
  refine N1 V1.length (fun n x w' => ∃ σ', Stp w σ w' σ' ∧ SLe σ3 σ' ∧ W5 w.heap.size T.a 8 U7 σ' w' x (Q0g ++ (V1.take n).map gMk)) ⟨σ3, hS3, SLe.refl _, ha2.up hk3⟩ fun n x w4 d hn hinv => ?_
  obtain ⟨σ4, hS4, le4, ha4⟩ := hinv
  refine Q6 (hv3.lift le4) ?_
  refine Z5 ?_
  refine Q4 (fun hc => ?_) (fun hc => ?_)
  · have hn' : n < V1.length := by simpa using hc
    have hv4 := hv3.lift le4
    refine Y4 hv4 hn' ?_
    obtain ⟨p1, p2⟩ := hv4.elS hn'
    refine X8 hS4.sat p1 rfl ?_
    have hle : (Q0g ++ (V1.take n).map gMk).length ≤ 8 := by
      rw [List.length_append, List.length_map, List.length_take, show Q0g.length = 2 from rfl]; omega
    have htk : (V1.take (n + 1)).map gMk = (V1.take n).map gMk ++ [gMk V1[n]] := by
      rw [List.take_add_one, List.getElem?_eq_getElem hn', List.map_append]; rfl
    generalize V1[n] = nm at p2 htk
    refine B1 (cells := #[S nm, S L3, .slice none 0 0, .bool false, .bool false, .bool true, .slice none 0 0, .slice none 0 0]) (by kernel_rfl) ?_
    have hr : U7 σ4 (gMk nm) [S nm, S L3, .slice none 0 0, .bool false, .bool false, .bool true, .slice none 0 0, .slice none 0 0] := ⟨_, _, _, rfl, Sl.nil, Sl.nil, Sl.nil, p2, (by decide : L3.length ≤ W3)⟩
    refine Ys (x := gMk nm) hS4 ha4 hr rfl rfl rfl (by omega) (by omega) fun s v' w5 σ5 hn5 hS5 ha5 _ => ?_
    refine O5 ?_
    refine Z6 (by omega) hn' ⟨σ5, hS5, le4.more hn5.le, ?_⟩
    rw [htk, ← List.append_assoc]; exact ha5
  · have hn' : ¬ n < V1.length := by simpa using hc
    rw [List.take_of_length_le (by omega), ← Q3M] at ha4
    exact h _ _ _ hS4 ha4)
end Go.Proofs.YtdnfaboigajkhaaGreatDoor

namespace Go.Proofs.YtdnfaboigajkhaaGreatDoor
open Go.Emb Go.RowKit Go.Kd Go.Hm
variable {w : World} {K : Value → World → Prop} {σ : Q5} {l : List Cla} {v : Value}
theorem Q8r {w0 : World} {σ0 : Q5} {frm : Nat} (ha : Qv l) (ho : B5 l) (hl : l.length ≤ 1000) (hsm : ∀ c ∈ l, G3 c) (hf : 0 < frm) (hup : ∀ i (hi : i < l.length), frm ≤ i → ∀ u ∈ U9 l[i], ∃ j, Y7 l u = some j) : ∀ (k : Nat) {i : Nat} {out : List Nat} {x : Value} {w : World} {σ : Q5} {K : Value → World → Prop}, i < l.length → H7 l (Y1 l i) < k → Ip l out → Stp w0 σ0 w σ → Sl 8 U7 σ v l → W5 w0.heap.size T.d 1 Jn σ w x (G5 out) →
    (∀ x' w' σ', Stp w0 σ0 w' σ' → SLe σ σ' → W5 w0.heap.size T.d 1 Jn σ' w' x' (G5 (T5 l frm out i)) → K x' w') → Q1 P F.aK [v, x, I frm, I i] w K := by
  intro k
  induction k with
  | zero => intro i out x w σ K hi hk; omega
  | succ k ih =>
    intro i out x w σ K hi hk hfew hS hv hx h
    refine Kf ?_
    unfold Mi
    rw [Q4o ha ho hf out hi] at h
    refine Z5 ?_
    refine Q4 (fun h1 => ?_) (fun h1 => ?_)
    · have h1 : i < frm := by have := of_decide_eq_true h1; omega
      rw [if_pos h1] at h
      exact h _ _ _ hS (SLe.refl _) hx
    have h1 : ¬ i < frm := by have := of_decide_eq_false h1; omega
    rw [if_neg h1] at h
    have hol := hfew.len
    refine V2 out.length (fun n w' => w' = w ∧ ∀ m (hm : m < out.length), m < n → out[m] ≠ i) ⟨rfl, fun m _ h => by omega⟩ fun n w2 d hn hinv => ?_
    obtain ⟨hw, hno⟩ := hinv
    subst hw
    refine Q2g hx ?_
    rw [show (G5 out).length = out.length from by simp]
    refine Z5 ?_
    refine Q4 (fun hc => ?_) (fun hc => ?_)
    · have hn' : n < out.length := by simpa using hc
      refine Q2y (L7.of_acc hx) (n := n) (by simpa using hn') fun a cs hcl hcs hr => ?_
      obtain ⟨rfl, _⟩ := hr
      refine T8 (by have := hcl 0 _ rfl; rwa [add_zero] at this) ?_
      simp only [List.getElem_map]
      refine Q2c ?_
      by_cases e : out[n] = i
      · have : decide ((out[n] : Int) = i) = true := by simp [e]
        rw [this]
        refine F6 ?_
        rw [if_pos (e ▸ List.getElem_mem hn')] at h
        exact h _ _ _ hS (SLe.refl _) hx
      · have : decide ((out[n] : Int) = i) = false := by rw [decide_eq_false_iff_not]; omega
        rw [this]
        refine I7 ?_
        refine O5 ?_
        refine Y5 (by omega) hn' ⟨rfl, fun m hm hmn => ?_⟩
        by_cases e2 : m = n
        · subst e2; exact e
        · exact hno m hm (by omega)
    · have hn' : ¬ n < out.length := by simpa using hc
      have hnin : i ∉ out := fun hin => by
        obtain ⟨m, hm, e⟩ := List.getElem_of_mem hin
        exact hno m hm (by omega) e
      rw [if_neg hnin] at h
      have eat : l.getD i Cla.zero = l[i] := by rw [List.getD_eq_getElem?_getD, List.getElem?_eq_getElem hi]; rfl
      rw [eat] at h
      have hui := hup i hi (by omega)
      obtain ⟨lv, fv, mv, p1, r1⟩ := hv.elC hi
      obtain ⟨g1, _, _, _, g5⟩ := r1.parts
      have hsmc := hsm _ (List.getElem_mem hi)
      clear hno hnin hc hn
      refine W1 hS.sat ?_
      (repeat (apply L9; (· intros; (repeat (rename_i hx; subst hx)); (repeat' (first | (with_reducible exact U8 rfl) | (with_reducible exact V9 (Stp.bel (by (repeat (first | exact Stp.refl (by (first | assumption | exact Stp.sat (by assumption) | exact Hst.sat (by assumption))) | assumption | refine Stp.trans ?_ (by first | assumption | exact Hst.stp (by assumption)))))) rfl) | (with_reducible intro _) | (simp only [↓Mm, Mm, ↓Mp, Mp, Mb, reduceIte])  | (with_reducible show Q2 _ _ _ _ _; first | refine X8 aS aL aR ?_ | refine Y3 aS aL aR ?_ | refine ld aS aL aR ?_) | (with_reducible show indexAddr _ _ _ _ _ _; refine Y4 aL au ?_) | (with_reducible show X4 _ _ _ _ _ _ _ _; refine Q6 aL ?_) | (with_reducible show D1 _ _ _ _ _ _; refine Y6 aR ?_) | (with_reducible show pick _ _ _ _ _ _; refine W8 ?_) | (apply W9; intro hh; (try simp only [hh, reduceIte, ↓Mm, Mm, ↓Mp, Mp, Mb, reduceIte])))); done)))
      refine Q17 (w := w2) (σ := σ) (R := U5) (sz := 1) (e := T.b) [l[i].super] (fun t w hb e => ?_) ?_
      · subst e; exact Qq hb.stp [_] [l[i].super] rfl rfl (by simp; rfl) rfl ⟨⟨rfl, g5⟩, trivial⟩ fun v' w' hk ha _ => Q2i hb hk ha
      (repeat (apply L9; (· intros; (repeat (rename_i hx; subst hx)); (repeat' (first | (with_reducible exact U8 rfl) | (with_reducible exact V9 (Stp.bel (by (repeat (first | exact Stp.refl (by (first | assumption | exact Stp.sat (by assumption) | exact Hst.sat (by assumption))) | assumption | refine Stp.trans ?_ (by first | assumption | exact Hst.stp (by assumption)))))) rfl) | (with_reducible intro _) | (simp only [↓Mm, Mm, ↓Mp, Mp, Mb, reduceIte])  | (with_reducible show Q2 _ _ _ _ _; first | refine X8 aS aL aR ?_ | refine Y3 aS aL aR ?_ | refine ld aS aL aR ?_) | (with_reducible show indexAddr _ _ _ _ _ _; refine Y4 aL au ?_) | (with_reducible show X4 _ _ _ _ _ _ _ _; refine Q6 aL ?_) | (with_reducible show D1 _ _ _ _ _ _; refine Y6 aR ?_) | (with_reducible show pick _ _ _ _ _ _; refine W8 ?_) | (apply W9; intro hh; (try simp only [hh, reduceIte, ↓Mm, Mm, ↓Mp, Mp, Mb, reduceIte])))); done)))
      rintro t31 t32 t37 t38 t33 t34 t39 w4 hb4 rfl rfl rfl rfl rfl ⟨f34, a34⟩ rfl
      refine Nv f34 a34 g1 rfl (by simp; have := hsmc.1; omega) (by simp; have := hsmc.1; omega) fun v5 w5 hn5 hS5 ha5 hat5 => ?_
      obtain ⟨σ6, hS6, hv6, le6, _⟩ := ha5.keep hS5
      have hv6 : Sl 1 U5 σ6 v5 (U9 l[i]) := hv6
      have hx6 := hx.up hS6
      have hv26 := hv.up hS6
      have hS06 := hS.trans hS6
      have le06 : SLe σ σ6 := ⟨hS6.le⟩
      clear hn5 hat5 ha5 a34 f34 hb4 hS5
      refine N1 (U9 l[i]).length (fun n x w' => ∃ σ' out', Stp w0 σ0 w' σ' ∧ SLe σ6 σ' ∧ W5 w0.heap.size T.d 1 Jn σ' w' x (G5 out') ∧ Ip l out' ∧ out' = ((U9 l[i]).take n).foldl (fun out n => T5 l frm out ((Y7 l n).getD 0)) out) ⟨σ6, out, hS06, SLe.refl _, hx6, hfew, rfl⟩ fun n x7 w7 d hn hinv => ?_
      obtain ⟨σ7, out7, hS7, le7, hx7, hfew7, ho7⟩ := hinv
      have hv7 := hv6.lift le7
      refine Q6 hv7 ?_
      refine Z5 ?_
      refine Q4 (fun hc => ?_) (fun hc => ?_)
      · have hn' : n < (U9 l[i]).length := by simpa using hc
        refine Y4 hv7 hn' ?_
        obtain ⟨p7, _⟩ := hv7.elS hn'
        refine X8 hS7.sat p7 rfl ?_
        have hv27 := hv26.lift le7
        refine K3 hS7.sat hv27 ?_
        obtain ⟨j, hj⟩ := hui _ (List.getElem_mem hn')
        have hrk := Td ha ho hi (by rw [eat]; exact List.getElem_mem hn') hj
        have hjl := (R4 hj).1
        simp only [hj, L6]
        refine ih hjl (by omega) hfew7 hS7 hv27 hx7 fun x8 w8 σ8 hS8 le8 hx8 => ?_
        refine O5 ?_
        refine Z6 hv7.max hn' ⟨σ8, _, hS8, le7.more le8, hx8, Bc ha ho hf _ _ _ hjl hfew7, ?_⟩
        rw [List.take_add_one, List.getElem?_eq_getElem hn', List.foldl_append, ← ho7]
        simp [hj]
      · have hn' : ¬ n < (U9 l[i]).length := by simpa using hc
        rw [List.take_of_length_le (by omega)] at ho7
        have hl7 := hfew7.len
        refine Ys (R := Jn) (x := (i : Int)) hS7 hx7 ⟨rfl, by omega, by omega⟩ rfl rfl rfl (by simp; omega) (by simp; omega) fun s x8 w8 σ8 hn8 hS8 hx8 _ => ?_
        refine h _ _ _ hS8 ((le06.more le7).more hn8.le) ?_
        rw [← ho7]
        simpa [G5] using hx8
end Go.Proofs.YtdnfaboigajkhaaGreatDoor

namespace Go.Hm
open Go.Kd
def E3 (n i b : Nat) : Bool := decide (i < n) && decide (128 ≤ b) && decide (b < 192)
def Xl (n b0 b1 b2 b3 : Nat) : Nat :=
  if b0 < 128 then 1
  else if (decide (194 ≤ b0) && decide (b0 < 224) && E3 n 1 b1) = true then 2
  else if (decide (224 ≤ b0) && decide (b0 < 240) && E3 n 1 b1 && E3 n 2 b2) = true then
    (if 2048 ≤ b0 % 16 * 4096 + b1 % 64 * 64 + b2 % 64 ∧ (b0 % 16 * 4096 + b1 % 64 * 64 + b2 % 64 < 55296 ∨ 57343 < b0 % 16 * 4096 + b1 % 64 * 64 + b2 % 64) then 3 else 0)
  else if (decide (240 ≤ b0) && decide (b0 < 245) && E3 n 1 b1 && E3 n 2 b2 && E3 n 3 b3) = true then
    (if 65536 ≤ b0 % 8 * 262144 + b1 % 64 * 4096 + b2 % 64 * 64 + b3 % 64 ∧ b0 % 8 * 262144 + b1 % 64 * 4096 + b2 % 64 * 64 + b3 % 64 ≤ 1114111 then 4 else 0)
  else 0
theorem Q77 (n b0 b1 b2 b3 : Nat) (h0 : b0 < 256) (h1 : b1 < 256) (h2 : b2 < 256) (h3 : b3 < 256) :
    Xl n b0 b1 b2 b3 = if (Lib.decodeN n b0 b1 b2 b3).1 = 65533 ∧ (Lib.decodeN n b0 b1 b2 b3).2 = 1 then 0 else (Lib.decodeN n b0 b1 b2 b3).2 := by
  have key : ∀ v k : Nat, Lib.decodeN n b0 b1 b2 b3 = (v, k) → ¬ k = 1 → Xl n b0 b1 b2 b3 = k → Xl n b0 b1 b2 b3 = if (Lib.decodeN n b0 b1 b2 b3).1 = 65533 ∧ (Lib.decodeN n b0 b1 b2 b3).2 = 1 then 0 else (Lib.decodeN n b0 b1 b2 b3).2 := by
    intro v k h hk hc
    rw [h, hc, if_neg (fun e => hk e.2)]
  have bad : Lib.decodeN n b0 b1 b2 b3 = (65533, 1) → Xl n b0 b1 b2 b3 = 0 → Xl n b0 b1 b2 b3 = if (Lib.decodeN n b0 b1 b2 b3).1 = 65533 ∧ (Lib.decodeN n b0 b1 b2 b3).2 = 1 then 0 else (Lib.decodeN n b0 b1 b2 b3).2 := by
    intro h hc
    rw [h, hc]; simp
  by_cases c0 : b0 < 128
  · have h : Lib.decodeN n b0 b1 b2 b3 = (b0, 1) := by unfold Lib.decodeN; rw [if_pos c0]
    rw [h, if_neg (by simp only; omega)]
    unfold Xl; rw [if_pos c0]
  by_cases c1 : b0 / 32 = 6 ∧ (1 < n ∧ b1 / 64 = 2)
  · by_cases d1 : b0 % 32 * 64 + b1 % 64 ≥ 128
    · refine key _ 2 (by unfold Lib.decodeN; rw [if_neg c0, if_pos c1, if_pos d1]) (by decide) ?_
      unfold Xl E3
      simp only [Bool.and_eq_true, decide_eq_true_eq]
      rw [if_neg c0, if_pos (by omega)]
    · refine bad (by unfold Lib.decodeN; rw [if_neg c0, if_pos c1, if_neg d1]) ?_
      unfold Xl E3
      simp only [Bool.and_eq_true, decide_eq_true_eq]
      rw [if_neg c0, if_neg (by omega), if_neg (by omega), if_neg (by omega)]
  by_cases c2 : b0 / 16 = 14 ∧ (1 < n ∧ b1 / 64 = 2) ∧ (2 < n ∧ b2 / 64 = 2)
  · by_cases d1 : 2048 ≤ b0 % 16 * 4096 + b1 % 64 * 64 + b2 % 64 ∧ (b0 % 16 * 4096 + b1 % 64 * 64 + b2 % 64 < 55296 ∨ 57343 < b0 % 16 * 4096 + b1 % 64 * 64 + b2 % 64)
    · refine key _ 3 (by unfold Lib.decodeN; rw [if_neg c0, if_neg c1, if_pos c2, if_pos (by omega)]) (by decide) ?_
      unfold Xl E3
      simp only [Bool.and_eq_true, decide_eq_true_eq]
      rw [if_neg c0, if_neg (by omega), if_pos (by omega), if_pos d1]
    · refine bad (by unfold Lib.decodeN; rw [if_neg c0, if_neg c1, if_pos c2, if_neg (by omega)]) ?_
      unfold Xl E3
      simp only [Bool.and_eq_true, decide_eq_true_eq]
      rw [if_neg c0, if_neg (by omega), if_pos (by omega), if_neg d1]
  by_cases c3 : b0 / 8 = 30 ∧ (1 < n ∧ b1 / 64 = 2) ∧ (2 < n ∧ b2 / 64 = 2) ∧ (3 < n ∧ b3 / 64 = 2)
  · by_cases d1 : 65536 ≤ b0 % 8 * 262144 + b1 % 64 * 4096 + b2 % 64 * 64 + b3 % 64 ∧ b0 % 8 * 262144 + b1 % 64 * 4096 + b2 % 64 * 64 + b3 % 64 ≤ 1114111
    · refine key _ 4 (by unfold Lib.decodeN; rw [if_neg c0, if_neg c1, if_neg c2, if_pos c3, if_pos (by omega)]) (by decide) ?_
      unfold Xl E3
      simp only [Bool.and_eq_true, decide_eq_true_eq]
      rw [if_neg c0, if_neg (by omega), if_neg (by omega), if_pos (by omega), if_pos d1]
    · refine bad (by unfold Lib.decodeN; rw [if_neg c0, if_neg c1, if_neg c2, if_pos c3, if_neg (by omega)]) ?_
      unfold Xl E3
      simp only [Bool.and_eq_true, decide_eq_true_eq]
      rw [if_neg c0, if_neg (by omega), if_neg (by omega)]
      by_cases d2 : b0 < 245
      · rw [if_pos (by omega), if_neg d1]
      · rw [if_neg (by omega)]
  · refine bad (by unfold Lib.decodeN; rw [if_neg c0, if_neg c1, if_neg c2, if_neg c3]) ?_
    unfold Xl E3
    simp only [Bool.and_eq_true, decide_eq_true_eq]
    rw [if_neg c0, if_neg (by omega), if_neg (by omega), if_neg (by omega)]
def X3 (l : X0) (i : Nat) : Nat := (l.getD i 0).toNat
theorem A4 (l : X0) (i : Nat) : X3 l i < 256 := (l.getD i 0).toNat_lt
def Xn (l : X0) : Nat := Xl l.length (X3 l 0) (X3 l 1) (X3 l 2) (X3 l 3)
theorem Q2t (l : X0) : Xn l = if (Lib.decodeL l).1 = 65533 ∧ (Lib.decodeL l).2 = 1 then 0 else (Lib.decodeL l).2 := by
  rw [Lib.decodeL_N]
  exact Q77 _ _ _ _ _ (A4 l 0) (A4 l 1) (A4 l 2) (A4 l 3)
theorem Q6t {l : X0} (hne : l ≠ []) (h : Xn l ≠ 0) : 1 ≤ Xn l ∧ Xn l ≤ l.length := by
  have h1 := Lib.decodeL_le l hne
  have h2 := Lib.decodeL_width l
  rw [Q2t] at h ⊢
  split at h
  · exact absurd rfl h
  · rw [if_neg (by assumption)]; omega
theorem Q4Z {f : Nat} {l : X0} (hne : l ≠ []) : Lib.validGoD (f + 1) l = if Xn l = 0 then false else Lib.validGoD f (l.drop (Xn l)) := by
  have h2 := Lib.decodeL_width l
  simp only [Lib.validGoD, if_neg hne]
  rw [Q2t]
  split
  · rw [if_pos rfl]
  · rw [if_neg (by omega)]
end Go.Hm
namespace Go.Emb
open Go.RowKit
theorem Q6h {P : Program} {w : World} {K : Value → World → Prop} {k : IntKind} {t : TypeId} {ox oy : Operand} {a c : Int} (hc : 0 < c ∧ 0 ≤ a) (h : K (.int k (a % c)) w) : Q3 P .rem t ox oy (.int k a) (.int k c) w K := by
  have e : Q3 P .rem t ox oy (.int k a) (.int k c) w K = K (.int k (a.tmod c)) w := X9 (by simp [eqGuard, Go.binOp, Op.intDiv]; intro e; omega)
  rw [e, Int.tmod_eq_emod_of_nonneg hc.2]; exact h
end Go.Emb
namespace Go.Proofs.YtdnfaboigajkhaaGreatDoor
open Go.Emb Go.RowKit Go.Kd Go.Hm
variable {w : World} {K : Value → World → Prop} {σ : Q5}
theorem Vg {a : X0} {i : Nat} (hi : i < a.length) (h : K (.int .u8 (X3 a i)) w) : E2 P T.b (S a) (I i) w K := by
  rw [T9 X7 (by omega) (by simpa using hi)]
  have : (a[(i : Int).toNat]'(by simpa using hi)).toNat = X3 a i := by
    unfold X3
    rw [List.getD_eq_getElem?_getD, List.getElem?_eq_getElem hi]; rfl
  rw [this]; exact h
theorem Q0S {n : Int} (hn : 0 ≤ n ∧ n < 256) (h : K (I n) w) : conv P T.s T.d (.int .u8 n) w K := by
  rw [Ar Q0X Q09, B6 (by omega) (by omega)]; exact h
theorem Un {a : X0} {i : Nat} (h : K (.bool (E3 a.length i (X3 a i))) w) : Q1 P F.o [S a, I i] w K := Bb (by
  unfold Wk
  unfold E3 at h
  simp only [↓Mm, Mm, ↓Mr, Mr, Mb, reduceIte]
  by_cases h1 : i < a.length
  · have e1 : decide ((i : Int) < a.length) = true := by rw [decide_eq_true_eq]; omega
    have e2 : decide (i < a.length) = true := by simpa using h1
    rw [e2] at h
    simp only [e1, ↓Mm, Mm, ↓Mr, Mr, Mb, reduceIte]
    refine Vg h1 ?_
    (try simp only [↓Mm, Mm, ↓Mr, Mr, Mb, reduceIte])
    have e3 : decide ((128 : Int) ≤ (X3 a i : Int)) = decide (128 ≤ X3 a i) := by rw [Bool.eq_iff_iff, decide_eq_true_eq, decide_eq_true_eq]; omega
    have e4 : decide ((X3 a i : Int) < 192) = decide (X3 a i < 192) := by rw [Bool.eq_iff_iff, decide_eq_true_eq, decide_eq_true_eq]; omega
    rw [e3]
    cases h3 : decide (128 ≤ X3 a i) with
    | true =>
      rw [h3] at h
      simp only [↓Mm, Mm, ↓Mr, Mr, Mb, reduceIte]
      refine Vg h1 ?_
      simp only [e4, ↓Mm, Mm, ↓Mr, Mr, Mb, reduceIte]
      simpa using h
    | false =>
      rw [h3] at h
      simp only [↓Mm, Mm, ↓Mr, Mr, Mb, reduceIte]
      simpa using h
  · have e1 : decide ((i : Int) < a.length) = false := by rw [decide_eq_false_iff_not]; omega
    have e2 : decide (i < a.length) = false := by simpa using h1
    rw [e2] at h
    simp only [e1, ↓Mm, Mm, ↓Mr, Mr, Mb, reduceIte]
    simpa using h)
def Yq (a : X0) : Nat := X3 a 0 % 16 * 4096 + X3 a 1 % 64 * 64 + X3 a 2 % 64
def Oj (a : X0) : Nat := X3 a 0 % 8 * 262144 + X3 a 1 % 64 * 4096 + X3 a 2 % 64 * 64 + X3 a 3 % 64
theorem Q5H (a : X0) : Xn a = if X3 a 0 < 128 then 1
  else if (decide (194 ≤ X3 a 0) && decide (X3 a 0 < 224) && E3 a.length 1 (X3 a 1)) = true then 2
  else if (decide (224 ≤ X3 a 0) && decide (X3 a 0 < 240) && E3 a.length 1 (X3 a 1) && E3 a.length 2 (X3 a 2)) = true then
    (if 2048 ≤ Yq a ∧ (Yq a < 55296 ∨ 57343 < Yq a) then 3 else 0)
  else if (decide (240 ≤ X3 a 0) && decide (X3 a 0 < 245) && E3 a.length 1 (X3 a 1) && E3 a.length 2 (X3 a 2) && E3 a.length 3 (X3 a 3)) = true then
    (if 65536 ≤ Oj a ∧ Oj a ≤ 1114111 then 4 else 0)
  else 0 := rfl
set_option maxHeartbeats 2000000 in
theorem Q79 {a : X0} (hne : a ≠ []) (hs : X6 w σ) (h : ∀ w', Below w.heap.size w w' → K (I (Xn a)) w') : Q1 P F.bm [S a] w K := Gb (by
  unfold Li
  have hl : 0 < a.length := List.length_pos_iff.2 hne
  have b0 := A4 a 0
  have b1 := A4 a 1
  have b2 := A4 a 2
  have b3 := A4 a 3
  refine Vg (i := 0) hl ?_
  refine Q0S (by omega) ?_
  refine Ve (fun _ w' => Below w.heap.size w w' ∧ Xn a = 0) ?_ (fun _ d w' hx => by
    have := h w' hx.1
    rw [hx.2] at this
    exact this)
  have hK : ∀ n w', Below w.heap.size w w' → Xn a = n → K (I n) w' := fun n w' hb e => by rw [← e]; exact h w' hb
  clear h
  have hcm := Q5H a
  simp only [↓Mm, Mm, ↓Mr, Mr, Mb, reduceIte]
  refine Q4 (fun h1 => ?_) (fun h1 => ?_)
  · have : X3 a 0 < 128 := by have := of_decide_eq_true h1; omega
    exact hK 1 _ (Below.refl _ _) (by rw [hcm, if_pos this])
  have c0 : ¬ X3 a 0 < 128 := by have := of_decide_eq_false h1; omega
  rw [if_neg c0] at hcm
  by_cases c1 : X3 a 0 < 194
  · have i1 : decide ((194 : Int) ≤ X3 a 0) = false := by rw [decide_eq_false_iff_not]; omega
    have n1 : decide (194 ≤ X3 a 0) = false := by rw [decide_eq_false_iff_not]; omega
    have i2 : decide ((X3 a 0 : Int) < 224) = true := by rw [decide_eq_true_eq]; omega
    have n2 : decide (X3 a 0 < 224) = true := by rw [decide_eq_true_eq]; omega
    have i3 : decide ((224 : Int) ≤ X3 a 0) = false := by rw [decide_eq_false_iff_not]; omega
    have n3 : decide (224 ≤ X3 a 0) = false := by rw [decide_eq_false_iff_not]; omega
    have i4 : decide ((X3 a 0 : Int) < 240) = true := by rw [decide_eq_true_eq]; omega
    have n4 : decide (X3 a 0 < 240) = true := by rw [decide_eq_true_eq]; omega
    have i5 : decide ((240 : Int) ≤ X3 a 0) = false := by rw [decide_eq_false_iff_not]; omega
    have n5 : decide (240 ≤ X3 a 0) = false := by rw [decide_eq_false_iff_not]; omega
    have i6 : decide ((X3 a 0 : Int) < 245) = true := by rw [decide_eq_true_eq]; omega
    have n6 : decide (X3 a 0 < 245) = true := by rw [decide_eq_true_eq]; omega
    simp only [i1, i2, i3, i4, i5, i6, ↓Mm, Mm, ↓Mr, Mr, Mb, reduceIte]
    exact ⟨Below.refl _ _, by rw [hcm]; simp only [n1, n2, n3, n4, n5, n6, Bool.and_true, Bool.true_and, Bool.false_and, Bool.and_false, Bool.false_eq_true, if_true, if_false, reduceIte]⟩
  by_cases c2 : X3 a 0 < 224
  · have i1 : decide ((194 : Int) ≤ X3 a 0) = true := by rw [decide_eq_true_eq]; omega
    have n1 : decide (194 ≤ X3 a 0) = true := by rw [decide_eq_true_eq]; omega
    have i2 : decide ((X3 a 0 : Int) < 224) = true := by rw [decide_eq_true_eq]; omega
    have n2 : decide (X3 a 0 < 224) = true := by rw [decide_eq_true_eq]; omega
    have i3 : decide ((224 : Int) ≤ X3 a 0) = false := by rw [decide_eq_false_iff_not]; omega
    have n3 : decide (224 ≤ X3 a 0) = false := by rw [decide_eq_false_iff_not]; omega
    have i4 : decide ((X3 a 0 : Int) < 240) = true := by rw [decide_eq_true_eq]; omega
    have n4 : decide (X3 a 0 < 240) = true := by rw [decide_eq_true_eq]; omega
    have i5 : decide ((240 : Int) ≤ X3 a 0) = false := by rw [decide_eq_false_iff_not]; omega
    have n5 : decide (240 ≤ X3 a 0) = false := by rw [decide_eq_false_iff_not]; omega
    have i6 : decide ((X3 a 0 : Int) < 245) = true := by rw [decide_eq_true_eq]; omega
    have n6 : decide (X3 a 0 < 245) = true := by rw [decide_eq_true_eq]; omega
    simp only [i1, i2, i3, i4, i5, i6, ↓Mm, Mm, ↓Mr, Mr, Mb, reduceIte]
    refine Un (i := 1) ?_
    cases A1 : E3 a.length 1 (X3 a 1) with
    | true => simp only [↓Mm, Mm, ↓Mr, Mr, Mb, reduceIte]; exact hK 2 _ (Below.refl _ _) (by rw [hcm]; simp only [A1, n1, n2, n3, n4, n5, n6, Bool.and_true, Bool.true_and, Bool.false_and, Bool.and_false, Bool.false_eq_true, if_true, if_false, reduceIte])
    | false => simp only [↓Mm, Mm, ↓Mr, Mr, Mb, reduceIte]; exact ⟨Below.refl _ _, by rw [hcm]; simp only [A1, n1, n2, n3, n4, n5, n6, Bool.and_true, Bool.true_and, Bool.false_and, Bool.and_false, Bool.false_eq_true, if_true, if_false, reduceIte]⟩
  by_cases c3 : X3 a 0 < 240
  · have i1 : decide ((194 : Int) ≤ X3 a 0) = true := by rw [decide_eq_true_eq]; omega
    have n1 : decide (194 ≤ X3 a 0) = true := by rw [decide_eq_true_eq]; omega
    have i2 : decide ((X3 a 0 : Int) < 224) = false := by rw [decide_eq_false_iff_not]; omega
    have n2 : decide (X3 a 0 < 224) = false := by rw [decide_eq_false_iff_not]; omega
    have i3 : decide ((224 : Int) ≤ X3 a 0) = true := by rw [decide_eq_true_eq]; omega
    have n3 : decide (224 ≤ X3 a 0) = true := by rw [decide_eq_true_eq]; omega
    have i4 : decide ((X3 a 0 : Int) < 240) = true := by rw [decide_eq_true_eq]; omega
    have n4 : decide (X3 a 0 < 240) = true := by rw [decide_eq_true_eq]; omega
    have i5 : decide ((240 : Int) ≤ X3 a 0) = false := by rw [decide_eq_false_iff_not]; omega
    have n5 : decide (240 ≤ X3 a 0) = false := by rw [decide_eq_false_iff_not]; omega
    have i6 : decide ((X3 a 0 : Int) < 245) = true := by rw [decide_eq_true_eq]; omega
    have n6 : decide (X3 a 0 < 245) = true := by rw [decide_eq_true_eq]; omega
    simp only [i1, i2, i3, i4, i5, i6, ↓Mm, Mm, ↓Mr, Mr, Mb, reduceIte]
    refine Un (i := 1) ?_
    cases A1 : E3 a.length 1 (X3 a 1) with
    | false => simp only [↓Mm, Mm, ↓Mr, Mr, Mb, reduceIte]; exact ⟨Below.refl _ _, by rw [hcm]; simp only [A1, n1, n2, n3, n4, n5, n6, Bool.and_true, Bool.true_and, Bool.false_and, Bool.and_false, Bool.false_eq_true, if_true, if_false, reduceIte]⟩
    | true =>
    simp only [↓Mm, Mm, ↓Mr, Mr, Mb, reduceIte]
    refine Un (i := 2) ?_
    cases A2 : E3 a.length 2 (X3 a 2) with
    | false => simp only [↓Mm, Mm, ↓Mr, Mr, Mb, reduceIte]; exact ⟨Below.refl _ _, by rw [hcm]; simp only [A1, A2, n1, n2, n3, n4, n5, n6, Bool.and_true, Bool.true_and, Bool.false_and, Bool.and_false, Bool.false_eq_true, if_true, if_false, reduceIte]⟩
    | true =>
    simp only [↓Mm, Mm, ↓Mr, Mr, Mb, reduceIte]
    simp only [A1, A2, n1, n2, n3, n4, n5, n6, Bool.and_true, Bool.true_and, Bool.false_and, Bool.and_false, Bool.false_eq_true, if_true, if_false, reduceIte] at hcm
    have hl1 : 1 < a.length := by unfold E3 at A1; simp only [Bool.and_eq_true, decide_eq_true_eq] at A1; exact A1.1.1
    have hl2 : 2 < a.length := by unfold E3 at A2; simp only [Bool.and_eq_true, decide_eq_true_eq] at A2; exact A2.1.1
    have hw : IntKind.i64.wrap (IntKind.i64.wrap (IntKind.i64.wrap ((X3 a 0 : Int) % 16 * 4096) + IntKind.i64.wrap ((X3 a 1 : Int) % 64 * 64)) + (X3 a 2 : Int) % 64) = ((Yq a : Nat) : Int) := by
      rw [B6 (n := (X3 a 0 : Int) % 16 * 4096) (by omega) (by omega), B6 (n := (X3 a 1 : Int) % 64 * 64) (by omega) (by omega), B6 (n := _ + (X3 a 1 : Int) % 64 * 64) (by omega) (by omega), B6 (by omega) (by omega)]
      unfold Yq; omega
    refine W1 hs ?_
    have hx1 : ∀ {w' : World} {K : Value → World → Prop}, K (.int .u8 (X3 a 1)) w' → E2 P T.b (S a) (.int .i64 1) w' K := fun hK => Vg (i := 1) hl1 hK
    have hx2 : ∀ {w' : World} {K : Value → World → Prop}, K (.int .u8 (X3 a 2)) w' → E2 P T.b (S a) (.int .i64 2) w' K := fun hK => Vg (i := 2) hl2 hK
    (repeat (apply L9; (· intros; (repeat (rename_i hx; subst hx)); (repeat' (first | (with_reducible exact U8 rfl) | (with_reducible exact V9 (Stp.bel (by (repeat (first | exact Stp.refl (by (first | assumption | exact Stp.sat (by assumption) | exact Hst.sat (by assumption))) | assumption | refine Stp.trans ?_ (by first | assumption | exact Hst.stp (by assumption)))))) rfl) | (with_reducible intro _) | (simp only [↓Mm, Mm, ↓Mp, Mp, Mb, reduceIte]) | (with_reducible refine Q6h au ?_) | (with_reducible refine Q0S au ?_) | (with_reducible refine hx1  ?_) | (with_reducible refine hx2  ?_)  | (with_reducible show Q2 _ _ _ _ _; first | refine X8 aS aL aR ?_ | refine Y3 aS aL aR ?_ | refine ld aS aL aR ?_) | (with_reducible show indexAddr _ _ _ _ _ _; refine Y4 aL au ?_) | (with_reducible show X4 _ _ _ _ _ _ _ _; refine Q6 aL ?_) | (with_reducible show D1 _ _ _ _ _ _; refine Y6 aR ?_) | (with_reducible show pick _ _ _ _ _ _; refine W8 ?_) | (apply W9; intro hh; (try simp only [hh, reduceIte, ↓Mm, Mm, ↓Mp, Mp, Mb, reduceIte])))); done)))
    (intros; (repeat (rename_i hx; subst hx)); (try simp only [↓Mm, Mm, ↓Mp, Mp, Mb, reduceIte]))
    rename_i w2 hb2
    simp only [hw]
    have hb := hb2.stp.bel
    by_cases e1 : 2048 ≤ Yq a
    · by_cases e2 : Yq a < 55296
      · simp only [(show decide ((2048 : Int) ≤ (Yq a : Int)) = true by rw [decide_eq_true_eq]; omega), (show decide ((Yq a : Int) < 55296) = true by rw [decide_eq_true_eq]; omega), ↓Mm, Mm, ↓Mr, Mr, Mb, reduceIte]
        exact hK 3 _ hb (by rw [hcm, if_pos ⟨e1, .inl e2⟩])
      · by_cases e3 : 57343 < Yq a
        · simp only [(show decide ((2048 : Int) ≤ (Yq a : Int)) = true by rw [decide_eq_true_eq]; omega), (show decide ((Yq a : Int) < 55296) = false by rw [decide_eq_false_iff_not]; omega), (show decide ((57343 : Int) < (Yq a : Int)) = true by rw [decide_eq_true_eq]; omega), ↓Mm, Mm, ↓Mr, Mr, Mb, reduceIte]
          exact hK 3 _ hb (by rw [hcm, if_pos ⟨e1, .inr e3⟩])
        · simp only [(show decide ((2048 : Int) ≤ (Yq a : Int)) = true by rw [decide_eq_true_eq]; omega), (show decide ((Yq a : Int) < 55296) = false by rw [decide_eq_false_iff_not]; omega), (show decide ((57343 : Int) < (Yq a : Int)) = false by rw [decide_eq_false_iff_not]; omega), ↓Mm, Mm, ↓Mr, Mr, Mb, reduceIte]
          exact ⟨hb, by rw [hcm, if_neg (by omega)]⟩
    · simp only [(show decide ((2048 : Int) ≤ (Yq a : Int)) = false by rw [decide_eq_false_iff_not]; omega), ↓Mm, Mm, ↓Mr, Mr, Mb, reduceIte]
      exact ⟨hb, by rw [hcm, if_neg (by omega)]⟩
  by_cases c4 : X3 a 0 < 245
  · have i1 : decide ((194 : Int) ≤ X3 a 0) = true := by rw [decide_eq_true_eq]; omega
    have n1 : decide (194 ≤ X3 a 0) = true := by rw [decide_eq_true_eq]; omega
    have i2 : decide ((X3 a 0 : Int) < 224) = false := by rw [decide_eq_false_iff_not]; omega
    have n2 : decide (X3 a 0 < 224) = false := by rw [decide_eq_false_iff_not]; omega
    have i3 : decide ((224 : Int) ≤ X3 a 0) = true := by rw [decide_eq_true_eq]; omega
    have n3 : decide (224 ≤ X3 a 0) = true := by rw [decide_eq_true_eq]; omega
    have i4 : decide ((X3 a 0 : Int) < 240) = false := by rw [decide_eq_false_iff_not]; omega
    have n4 : decide (X3 a 0 < 240) = false := by rw [decide_eq_false_iff_not]; omega
    have i5 : decide ((240 : Int) ≤ X3 a 0) = true := by rw [decide_eq_true_eq]; omega
    have n5 : decide (240 ≤ X3 a 0) = true := by rw [decide_eq_true_eq]; omega
    have i6 : decide ((X3 a 0 : Int) < 245) = true := by rw [decide_eq_true_eq]; omega
    have n6 : decide (X3 a 0 < 245) = true := by rw [decide_eq_true_eq]; omega
    simp only [i1, i2, i3, i4, i5, i6, ↓Mm, Mm, ↓Mr, Mr, Mb, reduceIte]
    refine Un (i := 1) ?_
    cases A1 : E3 a.length 1 (X3 a 1) with
    | false => simp only [↓Mm, Mm, ↓Mr, Mr, Mb, reduceIte]; exact ⟨Below.refl _ _, by rw [hcm]; simp only [A1, n1, n2, n3, n4, n5, n6, Bool.and_true, Bool.true_and, Bool.false_and, Bool.and_false, Bool.false_eq_true, if_true, if_false, reduceIte]⟩
    | true =>
    simp only [↓Mm, Mm, ↓Mr, Mr, Mb, reduceIte]
    refine Un (i := 2) ?_
    cases A2 : E3 a.length 2 (X3 a 2) with
    | false => simp only [↓Mm, Mm, ↓Mr, Mr, Mb, reduceIte]; exact ⟨Below.refl _ _, by rw [hcm]; simp only [A1, A2, n1, n2, n3, n4, n5, n6, Bool.and_true, Bool.true_and, Bool.false_and, Bool.and_false, Bool.false_eq_true, if_true, if_false, reduceIte]⟩
    | true =>
    simp only [↓Mm, Mm, ↓Mr, Mr, Mb, reduceIte]
    refine Un (i := 3) ?_
    cases A3 : E3 a.length 3 (X3 a 3) with
    | false => simp only [↓Mm, Mm, ↓Mr, Mr, Mb, reduceIte]; exact ⟨Below.refl _ _, by rw [hcm]; simp only [A1, A2, A3, n1, n2, n3, n4, n5, n6, Bool.and_true, Bool.true_and, Bool.false_and, Bool.and_false, Bool.false_eq_true, if_true, if_false, reduceIte]⟩
    | true =>
    simp only [↓Mm, Mm, ↓Mr, Mr, Mb, reduceIte]
    simp only [A1, A2, A3, n1, n2, n3, n4, n5, n6, Bool.and_true, Bool.true_and, Bool.false_and, Bool.and_false, Bool.false_eq_true, if_true, if_false, reduceIte] at hcm
    have hl1 : 1 < a.length := by unfold E3 at A1; simp only [Bool.and_eq_true, decide_eq_true_eq] at A1; exact A1.1.1
    have hl2 : 2 < a.length := by unfold E3 at A2; simp only [Bool.and_eq_true, decide_eq_true_eq] at A2; exact A2.1.1
    have hl3 : 3 < a.length := by unfold E3 at A3; simp only [Bool.and_eq_true, decide_eq_true_eq] at A3; exact A3.1.1
    have hw : IntKind.i64.wrap (IntKind.i64.wrap (IntKind.i64.wrap (IntKind.i64.wrap ((X3 a 0 : Int) % 8 * 262144) + IntKind.i64.wrap ((X3 a 1 : Int) % 64 * 4096)) + IntKind.i64.wrap ((X3 a 2 : Int) % 64 * 64)) + (X3 a 3 : Int) % 64) = ((Oj a : Nat) : Int) := by
      rw [B6 (n := (X3 a 0 : Int) % 8 * 262144) (by omega) (by omega), B6 (n := (X3 a 1 : Int) % 64 * 4096) (by omega) (by omega), B6 (n := (X3 a 2 : Int) % 64 * 64) (by omega) (by omega), B6 (n := _ + (X3 a 1 : Int) % 64 * 4096) (by omega) (by omega), B6 (n := _ + (X3 a 2 : Int) % 64 * 64) (by omega) (by omega), B6 (by omega) (by omega)]
      unfold Oj; omega
    refine W1 hs ?_
    have hx1 : ∀ {w' : World} {K : Value → World → Prop}, K (.int .u8 (X3 a 1)) w' → E2 P T.b (S a) (.int .i64 1) w' K := fun hK => Vg (i := 1) hl1 hK
    have hx2 : ∀ {w' : World} {K : Value → World → Prop}, K (.int .u8 (X3 a 2)) w' → E2 P T.b (S a) (.int .i64 2) w' K := fun hK => Vg (i := 2) hl2 hK
    have hx3 : ∀ {w' : World} {K : Value → World → Prop}, K (.int .u8 (X3 a 3)) w' → E2 P T.b (S a) (.int .i64 3) w' K := fun hK => Vg (i := 3) hl3 hK
    (repeat (apply L9; (· intros; (repeat (rename_i hx; subst hx)); (repeat' (first | (with_reducible exact U8 rfl) | (with_reducible exact V9 (Stp.bel (by (repeat (first | exact Stp.refl (by (first | assumption | exact Stp.sat (by assumption) | exact Hst.sat (by assumption))) | assumption | refine Stp.trans ?_ (by first | assumption | exact Hst.stp (by assumption)))))) rfl) | (with_reducible intro _) | (simp only [↓Mm, Mm, ↓Mp, Mp, Mb, reduceIte]) | (with_reducible refine Q6h au ?_) | (with_reducible refine Q0S au ?_) | (with_reducible refine hx1  ?_) | (with_reducible refine hx2  ?_) | (with_reducible refine hx3  ?_)  | (with_reducible show Q2 _ _ _ _ _; first | refine X8 aS aL aR ?_ | refine Y3 aS aL aR ?_ | refine ld aS aL aR ?_) | (with_reducible show indexAddr _ _ _ _ _ _; refine Y4 aL au ?_) | (with_reducible show X4 _ _ _ _ _ _ _ _; refine Q6 aL ?_) | (with_reducible show D1 _ _ _ _ _ _; refine Y6 aR ?_) | (with_reducible show pick _ _ _ _ _ _; refine W8 ?_) | (apply W9; intro hh; (try simp only [hh, reduceIte, ↓Mm, Mm, ↓Mp, Mp, Mb, reduceIte])))); done)))
    (intros; (repeat (rename_i hx; subst hx)); (try simp only [↓Mm, Mm, ↓Mp, Mp, Mb, reduceIte]))
    rename_i w2 hb2
    simp only [hw]
    have hb := hb2.stp.bel
    by_cases e1 : 65536 ≤ Oj a
    · by_cases e2 : Oj a ≤ 1114111
      · simp only [(show decide ((65536 : Int) ≤ (Oj a : Int)) = true by rw [decide_eq_true_eq]; omega), (show decide ((Oj a : Int) ≤ 1114111) = true by rw [decide_eq_true_eq]; omega), ↓Mm, Mm, ↓Mr, Mr, Mb, reduceIte]
        exact hK 4 _ hb (by rw [hcm, if_pos ⟨e1, e2⟩])
      · simp only [(show decide ((65536 : Int) ≤ (Oj a : Int)) = true by rw [decide_eq_true_eq]; omega), (show decide ((Oj a : Int) ≤ 1114111) = false by rw [decide_eq_false_iff_not]; omega), ↓Mm, Mm, ↓Mr, Mr, Mb, reduceIte]
        exact ⟨hb, by rw [hcm, if_neg (by omega)]⟩
    · simp only [(show decide ((65536 : Int) ≤ (Oj a : Int)) = false by rw [decide_eq_false_iff_not]; omega), ↓Mm, Mm, ↓Mr, Mr, Mb, reduceIte]
      exact ⟨hb, by rw [hcm, if_neg (by omega)]⟩
  have i1 : decide ((194 : Int) ≤ X3 a 0) = true := by rw [decide_eq_true_eq]; omega
  have n1 : decide (194 ≤ X3 a 0) = true := by rw [decide_eq_true_eq]; omega
  have i2 : decide ((X3 a 0 : Int) < 224) = false := by rw [decide_eq_false_iff_not]; omega
  have n2 : decide (X3 a 0 < 224) = false := by rw [decide_eq_false_iff_not]; omega
  have i3 : decide ((224 : Int) ≤ X3 a 0) = true := by rw [decide_eq_true_eq]; omega
  have n3 : decide (224 ≤ X3 a 0) = true := by rw [decide_eq_true_eq]; omega
  have i4 : decide ((X3 a 0 : Int) < 240) = false := by rw [decide_eq_false_iff_not]; omega
  have n4 : decide (X3 a 0 < 240) = false := by rw [decide_eq_false_iff_not]; omega
  have i5 : decide ((240 : Int) ≤ X3 a 0) = true := by rw [decide_eq_true_eq]; omega
  have n5 : decide (240 ≤ X3 a 0) = true := by rw [decide_eq_true_eq]; omega
  have i6 : decide ((X3 a 0 : Int) < 245) = false := by rw [decide_eq_false_iff_not]; omega
  have n6 : decide (X3 a 0 < 245) = false := by rw [decide_eq_false_iff_not]; omega
  simp only [i1, i2, i3, i4, i5, i6, ↓Mm, Mm, ↓Mr, Mr, Mb, reduceIte]
  exact ⟨Below.refl _ _, by rw [hcm]; simp only [n1, n2, n3, n4, n5, n6, Bool.and_true, Bool.true_and, Bool.false_and, Bool.and_false, Bool.false_eq_true, if_true, if_false, reduceIte]⟩)
theorem Q6D {s : X0} (hb : s.length ≤ W3) (hs : X6 w σ) (h : ∀ w', Below w.heap.size w w' → K (.bool (Lib.validD s)) w') : Q1 P F.bc [S s] w K := Sn (by
  unfold Vq
  refine Ct (fun f x w' => ∃ r, x = S r ∧ r.length ≤ f ∧ r.length ≤ W3 ∧ Below w.heap.size w w' ∧ Lib.validD s = Lib.validGoD f r) s.length ⟨s, rfl, Nat.le_refl _, hb, Below.refl _ _, rfl⟩ ?_
  rintro again f x d w1 ⟨r, rfl, hrf, hrb, hbl, hv⟩ hag
  refine Nd ?_
  by_cases hne : r = []
  · have e : decide (r = []) = true := by simpa using hne
    simp only [e, ↓Mm, Mm, ↓Mr, Mr, Mb, reduceIte]
    subst hne
    have : Lib.validGoD f [] = true := by cases f <;> simp [Lib.validGoD]
    rw [hv, this] at h
    exact h _ hbl
  · have e : decide (r = []) = false := by simpa using hne
    simp only [e, ↓Mm, Mm, ↓Mr, Mr, Mb, reduceIte]
    have hpos : 0 < r.length := List.length_pos_iff.2 hne
    obtain ⟨f, rfl⟩ : ∃ g, f = g + 1 := ⟨f - 1, by omega⟩
    rw [Q4Z hne] at hv
    refine Q79 hne (hs.below hbl) fun w2 hb2 => ?_
    have hbb := hbl.trans (hb2.mono hbl.size)
    refine Q2c ?_
    by_cases h0 : Xn r = 0
    · have e0 : decide ((Xn r : Int) = 0) = true := by rw [decide_eq_true_eq]; omega
      simp only [e0, ↓Mm, Mm, ↓Mr, Mr, Mb, reduceIte]
      rw [hv, if_pos h0] at h
      exact h _ hbb
    · have e0 : decide ((Xn r : Int) = 0) = false := by rw [decide_eq_false_iff_not]; omega
      simp only [e0, ↓Mm, Mm, ↓Mr, Mr, Mb, reduceIte]
      obtain ⟨p1, p2⟩ := Q6t hne h0
      rw [Vt X7 (by omega) (by omega)]
      rw [if_neg h0] at hv
      refine hag f _ _ (by omega) ⟨r.drop (Xn r), by simp, by rw [List.length_drop]; omega, by rw [List.length_drop]; omega, hbb, hv⟩)
end Go.Proofs.YtdnfaboigajkhaaGreatDoor

namespace Go.Proofs.YtdnfaboigajkhaaGreatDoor
open Go.Emb Go.RowKit Go.Kd Go.Hm
variable {w : World} {K : Value → World → Prop} {σ : Q5}
theorem Q2X {σ : Q5} : ∀ (xs : List X0), (∀ x ∈ xs, x.length ≤ W3) → Ig U5 σ (xs.map S) xs
  | [], _ => trivial
  | x :: r, h => ⟨⟨rfl, h x (by simp)⟩, Q2X r fun y hy => h y (by simp [hy])⟩
def Zb : List X0 := Yd.map (·.name)
set_option maxRecDepth 100000 in
theorem Q8x (hs : X6 w σ) (h : ∀ v w' σ', Stp w σ w' σ' → Sl 1 U5 σ' v Zb → K v w') : Q1 P F.bt [] w K := Is (by
  unfold Mc
  exact Nc (R := U5) (sz := 1) hs (Zb.map S) Zb rfl rfl (by intro v hv; obtain ⟨x, _, rfl⟩ := List.mem_map.1 hv; rfl) rfl (Q2X _ (by decide)) fun v w' σ' hk hv => h v w' σ' hk hv)
theorem Q4I {a : X0} (hs : X6 w σ) (h : ∀ w' σ', Stp w σ w' σ' → K (I (L6 (G7 a))) w') : Q1 P F.aW [S a] w K := Rl (by
  unfold Ue
  refine Q8x hs fun v w1 σ1 hk1 hv => ?_
  have hop : G7 a = Zb.findIdx? fun x => decide (x = a) := by
    unfold G7 Zb
    rw [List.findIdx?_map]; rfl
  have hp : ∀ o, G7 a = o → K (I (L6 o)) w1 := fun o e => by rw [← e]; exact h _ _ hk1
  rw [hop] at hp
  have hlen : Zb.length = 42 := rfl
  generalize Zb = ns at hv hp hlen
  refine V2 ns.length (fun k w' => w' = w1 ∧ ∀ j (hj : j < ns.length), j < k → ¬ ns[j] = a) ⟨rfl, fun j _ h => by omega⟩ fun k w2 d hk hi => ?_
  obtain ⟨hw, hno⟩ := hi
  subst hw
  refine Q6 hv ?_
  refine Z5 ?_
  refine Q4 (fun hc => ?_) (fun hc => ?_)
  · have hk' : k < ns.length := by simpa using hc
    refine Y4 hv hk' ?_
    obtain ⟨p1, _⟩ := hv.elS hk'
    refine X8 hk1.sat p1 rfl ?_
    refine Nr ?_
    refine Q4 (fun he => ?_) (fun he => ?_)
    · have he : ns[k] = a := by simpa using he
      exact hp (some k) (by
        rw [List.findIdx?_eq_some_iff_getElem]
        exact ⟨hk', by simpa using he, fun j hj => by simpa using hno j (by omega) hj⟩)
    · have he : ¬ ns[k] = a := by simpa using he
      (try simp only [↓Mm, Mm, ↓Mr, Mr, Mb, reduceIte])
      refine Y5 hv.max hk' ⟨rfl, fun j hj hjk => ?_⟩
      by_cases e : j = k
      · subst e; exact he
      · exact hno j hj (by omega)
  · have hk' : ¬ k < ns.length := by simpa using hc
    exact hp none (by
      rw [List.findIdx?_eq_none_iff]
      intro m hm
      obtain ⟨j, hj, rfl⟩ := List.getElem_of_mem hm
      simpa using hno j hj (by omega)))
theorem Q8a {o : Option Nat} : decide (L6 o < 0) = !o.isSome := by
  cases o with
  | none => rfl
  | some i =>
    have : ¬ (i : Int) < 0 := by omega
    exact decide_eq_false this
def Vf (a : X0) : Bool := decide (a = [105, 110, 116]) || decide (a = [108, 111, 97, 100]) || decide (a = [115, 116, 111, 114, 101]) || decide (a = [106, 117, 109, 112]) || decide (a = [98, 114, 97, 110, 99, 104])
def Ji (a : X0) : Bool := decide (a = [119, 111, 114, 100]) || decide (a = [110, 101, 119]) || decide (a = [103, 101, 116]) || decide (a = [112, 117, 116]) || decide (a = [99, 97, 108, 108]) || decide (a = [97, 114, 114, 97, 121]) || decide (a = [105, 115]) || decide (a = [99, 97, 115, 116])
theorem Q7b (a : X0) : D2 a = (Vf a, Ji a, (G7 a).isSome) := by
  unfold D2
  cases hf : G7 a with
  | none =>
    have hall := List.findIdx?_eq_none_iff.1 hf
    have hno : ∀ x ∈ Zb, ¬ x = a := by
      intro x hx
      obtain ⟨o, ho, rfl⟩ := List.mem_map.1 hx
      have := hall o ho
      simpa using this
    have hn : ∀ x ∈ Zb, decide (a = x) = false := fun x hx => by rw [decide_eq_false_iff_not]; exact fun e => hno x hx e.symm
    have e1 : Vf a = false := by
      unfold Vf
      rw [hn _ (by decide), hn _ (by decide), hn _ (by decide), hn _ (by decide), hn _ (by decide)]; rfl
    have e2 : Ji a = false := by
      unfold Ji
      rw [hn _ (by decide), hn _ (by decide), hn _ (by decide), hn _ (by decide), hn _ (by decide), hn _ (by decide), hn _ (by decide), hn _ (by decide)]; rfl
    simp [e1, e2]
  | some i =>
    obtain ⟨hi, hp, _⟩ := List.findIdx?_eq_some_iff_getElem.1 hf
    have ha : Yd[i].name = a := by simpa using hp
    have hg : Yd.getD i ⟨[], false, false⟩ = Yd[i] := by rw [List.getD_eq_getElem?_getD, List.getElem?_eq_getElem hi]; rfl
    have hall : ∀ o ∈ Yd, o.number = Vf o.name ∧ o.text = Ji o.name := by decide
    obtain ⟨h1, h2⟩ := hall _ (List.getElem_mem hi)
    simp only [hg, Option.isSome_some]
    rw [h1, h2, ha]
def Mn (a : X0) : Int := if Vf a then 1 else if Ji a then 2 else if (G7 a).isSome then 0 else -1
theorem Q6x {a : X0} (hs : X6 w σ) (h : ∀ w' σ', Stp w σ w' σ' → K (I (Mn a)) w') : Q1 P F.bb [S a] w K := Be (by
  unfold Vc
  refine Ve (fun x w' => w' = w ∧ x = .bool (Vf a)) ?_ (fun x d w' hx => ?_)
  · unfold Vf
    simp only [↓Mm, Mm, ↓Mr, Mr, Mb, reduceIte]
    repeat' (refine Q4 (fun hh => ?_) (fun hh => ?_))
    all_goals (refine ⟨by trivial, ?_⟩; congr 1; simp_all)
  · obtain ⟨rfl, rfl⟩ := hx
    cases hn : Vf a with
    | true =>
      (try simp only [↓Mm, Mm, ↓Mr, Mr, Mb, reduceIte])
      have := h _ _ (Stp.refl hs)
      unfold Mn at this
      simpa [hn] using this
    | false =>
      (try simp only [↓Mm, Mm, ↓Mr, Mr, Mb, reduceIte])
      refine Ve (fun x w'' => w'' = w' ∧ x = .bool (Ji a)) ?_ (fun x d w'' hx => ?_)
      · unfold Ji
        simp only [↓Mm, Mm, ↓Mr, Mr, Mb, reduceIte]
        repeat' (refine Q4 (fun hh => ?_) (fun hh => ?_))
        all_goals (refine ⟨by trivial, ?_⟩; congr 1; simp_all)
      · obtain ⟨rfl, rfl⟩ := hx
        cases ht : Ji a with
        | true =>
          (try simp only [↓Mm, Mm, ↓Mr, Mr, Mb, reduceIte])
          have := h _ _ (Stp.refl hs)
          unfold Mn at this
          simpa [hn, ht] using this
        | false =>
          (try simp only [↓Mm, Mm, ↓Mr, Mr, Mb, reduceIte])
          refine Q4I hs fun w1 σ1 hk1 => ?_
          have := h _ _ hk1
          unfold Mn at this
          simp only [hn, ht, Bool.false_eq_true, if_false] at this
          simp only [Q8a, ↓Mm, Mm, ↓Mr, Mr, Mb, reduceIte]
          cases hf : G7 a with
          | none => rw [hf] at this; simp only [Option.isSome_none, ↓Mm, Mm, ↓Mr, Mr, Mb, reduceIte]; simpa using this
          | some i => rw [hf] at this; simp only [Option.isSome_some, ↓Mm, Mm, ↓Mr, Mr, Mb, reduceIte]; simpa using this)
theorem Q2n (a : X0) : decide (Mn a < 0) = !(D2 a).2.2 ∧ decide (Mn a = 1) = (D2 a).1 ∧ decide (Mn a = 2) = (D2 a).2.1 := by
  rw [Q7b]
  have h1 : Vf a = true → Ji a = false ∧ (G7 a).isSome = true := by
    intro h
    unfold Vf at h
    simp only [Bool.or_eq_true, decide_eq_true_eq] at h
    rcases h with (((h | h) | h) | h) | h <;> (subst h; decide)
  have h2 : Ji a = true → (G7 a).isSome = true := by
    intro h
    unfold Ji at h
    simp only [Bool.or_eq_true, decide_eq_true_eq] at h
    rcases h with ((((((h | h) | h) | h) | h) | h) | h) | h <;> (subst h; decide)
  unfold Mn
  cases e1 : Vf a with
  | true => obtain ⟨h3, h4⟩ := h1 e1; rw [h3, h4]; decide
  | false =>
    cases e2 : Ji a with
    | true => rw [h2 e2]; decide
    | false => cases (G7 a).isSome <;> decide
theorem Q9R (s : X0) (c : UInt8) : decide (0 ≤ Lib.indexByte s c) = s.any fun b => decide (b = c) := by
  induction s with
  | nil => rfl
  | cons b r ih =>
    simp only [Lib.indexByte, List.any_cons, ← ih]
    by_cases e : b = c
    · simp [e]
    · have hne : (b == c) = false := by simpa using e
      have hge := Lib.indexByte_ge r c
      simp only [hne, e, decide_false, Bool.false_or, Bool.false_eq_true, if_false]
      by_cases h1 : Lib.indexByte r c = -1
      · simp [h1]
      · have : (Lib.indexByte r c == -1) = false := by simpa using h1
        simp only [this, Bool.false_eq_true, if_false]
        rw [Bool.eq_iff_iff, decide_eq_true_eq, decide_eq_true_eq]; omega
def JB (w : World) (σ : Q5) (b : Bool) (x : Value) (w' : World) : Prop := ∃ σ', Stp w σ w' σ' ∧ x = .bool b
theorem JB.mk {w w' : World} {σ σ' : Q5} {b : Bool} (h : Stp w σ w' σ') : JB w σ b (.bool b) w' := ⟨σ', h, rfl⟩
theorem JB.of {w w' : World} {σ σ' : Q5} {b c : Bool} (h : Stp w σ w' σ') (e : c = b) : JB w σ b (.bool c) w' := ⟨σ', h, by rw [e]⟩
theorem Q8J {s : X0} {n : Nat} (h : n < s.length) : decide ((X3 s n : Int) = 10) = decide (s[n] = 10) := by
  unfold X3
  rw [List.getD_eq_getElem?_getD, List.getElem?_eq_getElem h, Bool.eq_iff_iff, decide_eq_true_eq, decide_eq_true_eq]
  simp only [Option.getD_some]
  rw [← UInt8.toNat_inj]
  constructor
  · intro e; have : s[n].toNat = 10 := by omega
    rw [this]; rfl
  · intro e; rw [e]; rfl
theorem Yx {α : Type} {xs : List α} {p : α → Bool} {n : Nat} (h : n < xs.length) : (xs.take (n + 1)).all p = ((xs.take n).all p && p xs[n]) := by
  rw [List.take_add_one, List.getElem?_eq_getElem h, List.all_append]; simp
set_option maxHeartbeats 2000000 in
theorem Q5c {i : Ins} {cs : List Value} (hs : X6 w σ) (hi : F5 σ i cs) (h : ∀ w' σ', Stp w σ w' σ' → K (I (N9 i)) w') : Q1 P F.ba [.agg cs.toArray] w K := Bv (by
  obtain ⟨rfl, h1, h2, h3⟩ := hi
  unfold We
  refine Z4 hs fun q w1 σ1 hk1 hq => ?_
  have hs1 := hk1.sat
  (try simp only [↓Mm, Mm, ↓Mr, Mr, Mb, reduceIte])
  refine ld hs1 hq rfl ?_
  refine Q6x hs1 fun w2 σ2 hk2 => ?_
  obtain ⟨t1, t2, t3⟩ := Q2n i.op
  have hS2 := hk1.trans hk2
  have hq2 := hq.up hk2
  have hs2 := hS2.sat
  have h3' : i.s.length ≤ 140737488355328 := by simp only [W3] at h3; omega
  simp only [t1, ↓Mm, Mm, ↓Mr, Mr, Mb, reduceIte]
  unfold N9 at h
  cases e1 : (D2 i.op).2.2 with
  | false =>
    simp only [e1, Bool.not_false, if_true] at h
    (try simp only [↓Mm, Mm, ↓Mr, Mr, Mb, reduceIte])
    exact h _ _ hS2
  | true =>
  simp only [e1, Bool.not_true, Bool.false_eq_true, if_false] at h
  simp only [t2, t3, ↓Mm, Mm, ↓Mr, Mr, Mb, reduceIte]
  have fin : ∀ (b : Bool) (w' : World) (σ' : Q5), Stp w σ w' σ' → b = (!((!(D2 i.op).1 && decide (i.n ≠ 0)) || (!(D2 i.op).2.1 && decide (i.s ≠ [])) || ((D2 i.op).2.1 && !txt i.op i.s))) →
      X1 (.bool (!b)) (K (.int .i64 41) w') (K (.int .i64 0) w') := by
    intro b w' σ' hk hb
    subst hb
    rw [Bool.not_not]
    cases hb : ((!(D2 i.op).1 && decide (i.n ≠ 0)) || (!(D2 i.op).2.1 && decide (i.s ≠ [])) || ((D2 i.op).2.1 && !txt i.op i.s)) with
    | true => simp only [hb, if_true] at h; (try simp only [↓Mm, Mm, ↓Mr, Mr, Mb, reduceIte]); exact h _ _ hk
    | false => simp only [hb, Bool.false_eq_true, if_false] at h; (try simp only [↓Mm, Mm, ↓Mr, Mr, Mb, reduceIte]); exact h _ _ hk
  clear h
  have hnt : (D2 i.op).2.1 = true → (D2 i.op).1 = false := by
    intro hx
    rw [← t2, decide_eq_false_iff_not]
    rw [← t3, decide_eq_true_eq] at hx
    omega
  cases htx : (D2 i.op).2.1 with
  | false =>
    rw [htx] at fin t3
    cases hnu : (D2 i.op).1 with
    | true =>
      rw [hnu] at fin t2
      (try simp only [↓Mm, Mm, ↓Mr, Mr, Mb, reduceIte])
      simp only [t3, ↓Mm, Mm, ↓Mr, Mr, Mb, reduceIte]
      refine ld hs2 hq2 rfl ?_
      (try simp only [↓Mm, Mm, ↓Mr, Mr, Mb, reduceIte])
      refine V3 ?_
      intro d
      simp only [↓Mm, Mm, ↓Mr, Mr, Mb, reduceIte]
      exact fin _ _ _ hS2 (by simp)
    | false =>
      rw [hnu] at fin t2
      (try simp only [↓Mm, Mm, ↓Mr, Mr, Mb, reduceIte])
      refine ld hs2 hq2 rfl ?_
      (try simp only [↓Mm, Mm, ↓Mr, Mr, Mb, reduceIte])
      by_cases e0 : i.n = 0
      · have d0 : decide (i.n = 0) = true := by simpa using e0
        simp only [d0, t3, ↓Mm, Mm, ↓Mr, Mr, Mb, reduceIte]
        refine ld hs2 hq2 rfl ?_
        (try simp only [↓Mm, Mm, ↓Mr, Mr, Mb, reduceIte])
        refine V3 ?_
        intro d
        simp only [↓Mm, Mm, ↓Mr, Mr, Mb, reduceIte]
        exact fin _ _ _ hS2 (by simp [e0])
      · have d0 : decide (i.n = 0) = false := by simpa using e0
        simp only [d0, ↓Mm, Mm, ↓Mr, Mr, Mb, reduceIte]
        refine V3 ?_
        intro d
        have hf := fin false _ _ hS2 (by simp [e0])
        (try simp only [↓Mm, Mm, ↓Mr, Mr, Mb, reduceIte] at hf ⊢)
        exact hf
  | true =>
    have hnu := hnt htx
    rw [htx, hnu] at fin
    rw [htx] at t3
    rw [hnu] at t2 ⊢
    (try simp only [↓Mm, Mm, ↓Mr, Mr, Mb, reduceIte])
    refine ld hs2 hq2 rfl ?_
    (try simp only [↓Mm, Mm, ↓Mr, Mr, Mb, reduceIte])
    have fin2 : ∀ (b c : Bool) (w' : World) (σ' : Q5), decide (i.n = 0) = b → Stp w σ w' σ' → c = (b && txt i.op i.s) → X1 (.bool (!c)) (K (.int .i64 41) w') (K (.int .i64 0) w') := by
      intro b c w' σ' hb hk hc
      refine fin c w' σ' hk ?_
      rw [hc, ← hb]
      by_cases e0 : i.n = 0 <;> simp [e0]
    clear fin
    cases hb : decide (i.n = 0) with
    | false =>
      have fin3 := fun w' σ' hk => fin2 false false w' σ' hb hk rfl
      clear fin2
      simp only [t3, ↓Mm, Mm, ↓Mr, Mr, Mb, reduceIte]
      refine Ve (JB w σ false) ?_ (fun x d w' hx => ?_)
      · refine ld hs2 hq2 rfl ?_
        (try simp only [↓Mm, Mm, ↓Mr, Mr, Mb, reduceIte])
        refine Q4 (fun hh => ?_) (fun hh => ?_)
        · refine N1 (a := Value.bool false) i.s.length (fun n x w' => w' = w2 ∧ x = Value.bool false) ⟨rfl, rfl⟩ fun n x w3 d hn hinv => ?_
          obtain ⟨hw, rfl⟩ := hinv
          subst hw
          (try simp only [↓Mm, Mm, ↓Mr, Mr, Mb, reduceIte])
          refine ld hs2 hq2 rfl ?_
          (try simp only [↓Mm, Mm, ↓Mr, Mr, Mb, reduceIte])
          refine Q4 (fun hc => ?_) (fun hc => ?_)
          · have hn' : n < i.s.length := by simpa using hc
            (try simp only [↓Mm, Mm, ↓Mr, Mr, Mb, reduceIte])
            exact Z6 (by omega) hn' ⟨rfl, rfl⟩
          · exact .mk hS2
        refine Q4 (fun hh => ?_) (fun hh => ?_)
        · exact .mk hS2
        refine Ve (fun x w' => w' = w2 ∧ ∃ b : Bool, x = Value.bool b) ?_ (fun z d w' hz => ?_)
        · refine Q4 (fun hh => ?_) (fun hh => ?_)
          · exact ⟨rfl, _, rfl⟩
          · exact ⟨rfl, _, rfl⟩
        obtain ⟨hw, b, rfl⟩ := hz
        subst hw
        refine Q4 (fun hh => ?_) (fun hh => ?_)
        · exact .mk hS2
        refine Q4 (fun hh => ?_) (fun hh => ?_)
        · exact .mk hS2
        refine ld hs2 hq2 rfl ?_
        refine Q1F i.s h3' fun w4 hb4 => ?_
        by_cases hd : (K9 i.s).2.2 = true
        · simp only [hd, if_true, ↓Mm, Mm, ↓Mr, Mr, Mb, reduceIte]
          exact .mk (hS2.trans (Stp.of_below hs2 hb4))
        · simp only [hd, if_false, ↓Mm, Mm, ↓Mr, Mr, Mb, reduceIte]
          exact .mk (hS2.trans (Stp.of_below hs2 hb4))
      · obtain ⟨σ', hk, rfl⟩ := hx
        have hf := fin3 w' σ' hk
        (try simp only [↓Mm, Mm, ↓Mr, Mr, Mb, reduceIte] at hf ⊢)
        exact hf
    | true =>
      have fin3 := fun c w' σ' hk hc => fin2 true c w' σ' hb hk hc
      clear fin2
      simp only [t3, ↓Mm, Mm, ↓Mr, Mr, Mb, reduceIte]
      refine Ve (JB w σ (txt i.op i.s)) ?_ (fun x d w' hx => ?_)
      · refine ld hs2 hq2 rfl ?_
        (try simp only [↓Mm, Mm, ↓Mr, Mr, Mb, reduceIte])
        unfold txt
        by_cases o1 : i.op = [119, 111, 114, 100]
        · simp only [if_pos o1, decide_eq_true o1, ↓Mm, Mm, ↓Mr, Mr, Mb, reduceIte]
          refine ld hs2 hq2 rfl ?_
          (try simp only [↓Mm, Mm, ↓Mr, Mr, Mb, reduceIte])
          have e64 : decide ((i.s.length : Int) ≤ 64) = decide (i.s.length ≤ 64) := by rw [Bool.eq_iff_iff, decide_eq_true_eq, decide_eq_true_eq]; omega
          rw [e64, Q9R, List.not_any_eq_all_not]
          cases d64 : decide (i.s.length ≤ 64) with
          | false =>
            (try simp only [↓Mm, Mm, ↓Mr, Mr, Mb, reduceIte])
            refine N1 (a := Value.bool false) i.s.length (fun n x w' => w' = w2 ∧ x = Value.bool false) ⟨rfl, rfl⟩ fun n x w3 d hn hinv => ?_
            obtain ⟨hw, rfl⟩ := hinv
            subst hw
            (try simp only [↓Mm, Mm, ↓Mr, Mr, Mb, reduceIte])
            refine ld hs2 hq2 rfl ?_
            (try simp only [↓Mm, Mm, ↓Mr, Mr, Mb, reduceIte])
            refine Q4 (fun hc => ?_) (fun hc => ?_)
            · have hn' : n < i.s.length := by simpa using hc
              (try simp only [↓Mm, Mm, ↓Mr, Mr, Mb, reduceIte])
              exact Z6 (by omega) hn' ⟨rfl, rfl⟩
            · exact .of hS2 (by simp)
          | true =>
            (try simp only [↓Mm, Mm, ↓Mr, Mr, Mb, reduceIte])
            refine ld hs2 hq2 rfl ?_
            refine Q6D h3 hs2 fun w4 hb4 => ?_
            have hk4 := Stp.of_below hs2 hb4
            have hq4 := hq2.up hk4
            have hs4 := hk4.sat
            have hS4 := hS2.trans hk4
            (try simp only [↓Mm, Mm, ↓Mr, Mr, Mb, reduceIte])
            refine N1 (a := Value.bool (Lib.validD i.s)) i.s.length (fun n x w' => w' = w4 ∧ x = Value.bool (Lib.validD i.s && (i.s.take n).all fun c => !decide (c = 10))) ⟨rfl, by simp⟩ fun n x w3 d hn hinv => ?_
            obtain ⟨hw, rfl⟩ := hinv
            subst hw
            (try simp only [↓Mm, Mm, ↓Mr, Mr, Mb, reduceIte])
            refine ld hs4 hq4 rfl ?_
            (try simp only [↓Mm, Mm, ↓Mr, Mr, Mb, reduceIte])
            refine Q4 (fun hc => ?_) (fun hc => ?_)
            · have hn' : n < i.s.length := by simpa using hc
              have hnx : (Lib.validD i.s && (i.s.take (n + 1)).all fun c => !decide (c = 10)) = ((Lib.validD i.s && (i.s.take n).all fun c => !decide (c = 10)) && !decide (i.s[n] = 10)) := by rw [Yx hn', Bool.and_assoc]
              generalize hacc : (Lib.validD i.s && (i.s.take n).all fun c => !decide (c = 10)) = acc at hnx ⊢
              cases acc with
              | false => (try simp only [↓Mm, Mm, ↓Mr, Mr, Mb, reduceIte]); exact Z6 (by omega) hn' ⟨rfl, by rw [hnx]; rfl⟩
              | true =>
                (try simp only [↓Mm, Mm, ↓Mr, Mr, Mb, reduceIte])
                refine ld hs4 hq4 rfl ?_
                refine Vg hn' ?_
                simp only [Q8J hn', ↓Mm, Mm, ↓Mr, Mr, Mb, reduceIte]
                exact Z6 (by omega) hn' ⟨rfl, by rw [hnx]; rfl⟩
            · have hn' : ¬ n < i.s.length := by simpa using hc
              rw [List.take_of_length_le (by omega)]
              exact .of hS4 (by simp)
        · simp only [if_neg o1, decide_eq_false o1, ↓Mm, Mm, ↓Mr, Mr, Mb, reduceIte]
          by_cases o2 : i.op = [110, 101, 119]
          · simp only [if_pos o2, decide_eq_true o2, ↓Mm, Mm, ↓Mr, Mr, Mb, reduceIte]
            refine ld hs2 hq2 rfl ?_
            refine A5 i.s h3' ?_
            (try simp only [↓Mm, Mm, ↓Mr, Mr, Mb, reduceIte])
            exact .mk hS2
          · simp only [if_neg o2, decide_eq_false o2, ↓Mm, Mm, ↓Mr, Mr, Mb, reduceIte]
            refine Ve (fun x w' => w' = w2 ∧ x = Value.bool (decide (i.op = [105, 115] ∨ i.op = [99, 97, 115, 116]))) ?_ (fun z d w' hz => ?_)
            · refine Q4 (fun hh => ?_) (fun hh => ?_)
              · exact ⟨rfl, by simp_all⟩
              · exact ⟨rfl, by simp_all⟩
            obtain ⟨hw, rfl⟩ := hz
            subst hw
            by_cases o3 : i.op = [105, 115] ∨ i.op = [99, 97, 115, 116]
            · simp only [if_pos o3, decide_eq_true o3, ↓Mm, Mm, ↓Mr, Mr, Mb, reduceIte]
              refine ld hs2 hq2 rfl ?_
              refine Jt i.s h3' ?_
              cases hr : right i.s with
              | false => (try simp only [↓Mm, Mm, ↓Mr, Mr, Mb, reduceIte]); exact .mk hS2
              | true =>
                (try simp only [↓Mm, Mm, ↓Mr, Mr, Mb, reduceIte])
                refine ld hs2 hq2 rfl ?_
                refine Gx i.s ?_
                (try simp only [↓Mm, Mm, ↓Mr, Mr, Mb, reduceIte])
                exact .mk hS2
            · simp only [if_neg o3, decide_eq_false o3, ↓Mm, Mm, ↓Mr, Mr, Mb, reduceIte]
              by_cases o4 : i.op = [97, 114, 114, 97, 121]
              · simp only [if_pos o4, decide_eq_true o4, ↓Mm, Mm, ↓Mr, Mr, Mb, reduceIte]
                refine ld hs2 hq2 rfl ?_
                refine Jt i.s h3' ?_
                cases hr : right i.s with
                | false => (try simp only [↓Mm, Mm, ↓Mr, Mr, Mb, reduceIte]); exact .mk hS2
                | true =>
                  (try simp only [↓Mm, Mm, ↓Mr, Mr, Mb, reduceIte])
                  refine ld hs2 hq2 rfl ?_
                  refine Q00 i.s h3' ?_
                  (try simp only [↓Mm, Mm, ↓Mr, Mr, Mb, reduceIte])
                  have e3 : decide (((V8 i.s).2 : Int) < 3) = decide (Ay i.s < 3) := by
                    unfold Ay; rw [if_pos hr, Bool.eq_iff_iff, decide_eq_true_eq, decide_eq_true_eq]; omega
                  rw [e3]
                  exact .mk hS2
              · simp only [if_neg o4, decide_eq_false o4, ↓Mm, Mm, ↓Mr, Mr, Mb, reduceIte]
                refine ld hs2 hq2 rfl ?_
                refine Q1F i.s h3' fun w4 hb4 => ?_
                have hS4 := hS2.trans (Stp.of_below hs2 hb4)
                by_cases hd : (K9 i.s).2.2 = true
                · simp only [hd, if_true, ↓Mm, Mm, ↓Mr, Mr, Mb, reduceIte]
                  exact .mk hS4
                · have : Qz i.s = false := by unfold Qz; rw [eq_false_of_ne_true hd]; rfl
                  simp only [hd, if_false, ↓Mm, Mm, ↓Mr, Mr, Mb, reduceIte]
                  exact .of hS4 this.symm
      · obtain ⟨σ', hk, rfl⟩ := hx
        have hf := fin3 _ w' σ' hk rfl
        simp only [Bool.true_and] at hf
        (try simp only [↓Mm, Mm, ↓Mr, Mr, Mb, reduceIte])
        exact hf)
end Go.Proofs.YtdnfaboigajkhaaGreatDoor

namespace Go.Emb
theorem Z2 {w : World} {K : Value → World → Prop} {v : Value} (h : K v w) : Q0 (.bool true) true w (fun w J => J v w) K := by rw [F2]; exact h
theorem Z1 {w : World} {K : Value → World → Prop} {v : Value} (h : K v w) : Q0 (.bool false) false w (fun w J => J v w) K := by rw [Uj]; exact h
theorem Z9 {w : World} {K : Value → World → Prop} {b : Bool} {run : World → (Value → World → Prop) → Prop} (h : K undef w) : Q0 undef b w run K := by rw [Iw]; exact h
end Go.Emb
namespace Go.Proofs.YtdnfaboigajkhaaGreatDoor
open Go.Emb Go.RowKit Go.Kd Go.Hm
variable {w : World} {K : Value → World → Prop} {σ : Q5}
theorem Q8p {xs : List Ins} {v : Value} (hs : X6 w σ) (hv : Sl 3 F5 σ v xs) (h : ∀ e w' σ', Stp w σ w' σ' → decide (e = 0) = xs.all (fun i => decide (N9 i = 0)) → K (I e) w') : Q1 P F.aM [v] w K := Iz (by
  unfold Lx
  refine V2 xs.length (fun n w' => ∃ σ', Stp w σ w' σ' ∧ (xs.take n).all (fun i => decide (N9 i = 0)) = true) ⟨σ, Stp.refl hs, rfl⟩ fun n w1 d hn hinv => ?_
  obtain ⟨σ1, hk1, hall⟩ := hinv
  have hv1 := hv.up hk1
  refine Q6 hv1 ?_
  refine Z5 ?_
  refine Q4 (fun hc => ?_) (fun hc => ?_)
  · have hn' : n < xs.length := by simpa using hc
    refine Y4 hv1 hn' ?_
    obtain ⟨p1, r1⟩ := hv1.elI hn'
    refine Y3 hk1.sat p1 rfl ?_
    refine Q5c hk1.sat r1 fun w2 σ2 hk2 => ?_
    refine Na ?_
    by_cases e : N9 xs[n] = 0
    · have : decide (N9 xs[n] = 0) = true := by simpa using e
      simp only [this, ↓Mm, Mm, ↓Mr, Mr, Mb, reduceIte]
      exact Y5 hv.max hn' ⟨σ2, hk1.trans hk2, by rw [Yx hn', hall]; simpa using e⟩
    · have : decide (N9 xs[n] = 0) = false := by simpa using e
      simp only [this, ↓Mm, Mm, ↓Mr, Mr, Mb, reduceIte]
      refine h _ _ _ (hk1.trans hk2) ?_
      rw [this]
      symm
      rw [← Bool.not_eq_true, List.all_eq_true]
      intro hx
      have := hx _ (List.getElem_mem hn')
      simp at this
      exact e this
  · have hn' : ¬ n < xs.length := by simpa using hc
    rw [List.take_of_length_le (by omega)] at hall
    exact h 0 _ _ hk1 (by rw [hall]; rfl))
theorem Q6O {c : Cla} {cs : List Value} (hs : X6 w σ) (hc : U7 σ c cs) (h : ∀ w' σ', Stp w σ w' σ' → K (.bool (Xe c)) w') : Q1 P F.bi [.agg cs.toArray] w K := Fq (by
  unfold Lk
  obtain ⟨lv, fv, mv, rfl, f1, f2, f3, f4, f5⟩ := hc
  refine Z4 hs fun q w1 σ1 hk1 hq => ?_
  have f1 := f1.up hk1
  have f2 := f2.up hk1
  have f3 := f3.up hk1
  refine V2 c.methods.length (fun n w' => ∃ σ', Stp w1 σ1 w' σ' ∧ (c.methods.take n).any Jk = false) ⟨σ1, Stp.refl hk1.sat, rfl⟩ fun n w2 d hn hinv => ?_
  obtain ⟨σ2, hk2, hno⟩ := hinv
  have hq2 := hq.up hk2
  have f32 := f3.up hk2
  have f12 := f1.up hk2
  have f22 := f2.up hk2
  have hs2 := hk2.sat
  (try simp only [↓Mm, Mm, ↓Mr, Mr, Mb, reduceIte])
  refine ld hs2 hq2 rfl ?_
  refine Q6 f32 ?_
  refine Z5 ?_
  refine Q4 (fun hc => ?_) (fun hc => ?_)
  · have hn' : n < c.methods.length := by simpa using hc
    (try simp only [↓Mm, Mm, ↓Mr, Mr, Mb, reduceIte])
    refine ld hs2 hq2 rfl ?_
    refine Y4 f32 hn' ?_
    obtain ⟨pv, cv, hv, p1, r1⟩ := f32.elM hn'
    refine Y3 hs2 p1 rfl ?_
    refine Y0 hs2 (by rfl) rfl (Rep.one r1) fun q3 w3 σ3 hk3 hq3 => ?_
    obtain ⟨g1, g2, g3, _, _, _⟩ := (S6 r1 ⟨hk3.le⟩).parts
    have hS3 := hk1.trans (hk2.trans hk3)
    have hyes : Jk c.methods[n] = true → K (.bool true) w3 := fun e => by
      have := h _ _ hS3
      have hm : Xe c = true := by unfold Xe; rw [R6 hn' e]; rfl
      rwa [hm] at this
    have hk23 := hk2.trans hk3
    clear h hk2 hk3 hS3
    have hmax := f3.max
    (repeat' (first | (with_reducible intro _) | (with_reducible refine V3 ?_) | (simp only [↓Mm, Mm, ↓Mp, Mp, Mb, reduceIte]) | (with_reducible first | refine ld aS aL aR ?_ | refine X8 aS aL aR ?_ | refine Y3 aS aL aR ?_ | refine Q6 aL ?_ | refine Y6 aR ?_ | refine Z4 aS ?_ | refine L1 aS aL ?_ | refine U2 aS aR ?_ | refine Y0 aS aR aR (Rep.one (by assumption)) ?_ | refine U1 aS aR aR aR ?_ | (refine Y2 (fun hh => ?_) (fun hh => ?_) <;> (try simp only [hh, Bool.not_true, Bool.not_false, ↓Mm, Mm, ↓Mp, Mp, Mb, reduceIte])) | (refine Q4 (fun hh => ?_) (fun hh => ?_) <;> (try simp only [hh, Bool.not_true, Bool.not_false, ↓Mm, Mm, ↓Mp, Mp, Mb, reduceIte])))))
    all_goals clear hq hq2 f1 f2 f3 f32 f12 f22 hs hs2 p1 r1 g1 g2 g3 hk1 f4 f5 hq3
    all_goals first
      | (refine hyes ?_; clear hyes hk23; unfold Jk; simp only [Bool.not_false, Bool.not_true, Bool.or_eq_true, decide_eq_true_eq, decide_eq_false_iff_not] at *; omega)
      | (have hnx : (c.methods.take (n + 1)).any Jk = false := by
           rw [M8 hn', hno, Bool.false_or]; clear hyes hk23; unfold Jk; simp only [Bool.or_eq_false_iff, decide_eq_false_iff_not] at *; omega
         exact Y5 hmax hn' ⟨_, hk23, hnx⟩)
  · have hn' : ¬ n < c.methods.length := by simpa using hc
    rw [O9 hn'] at hno
    have hS2 := hk1.trans hk2
    have hm : Xe c = (decide (32 < c.like.length) || decide (32 < c.fields.length) || decide (32 < c.methods.length)) := by unfold Xe; rw [hno]; simp
    rw [hm] at h
    have hK := h _ _ hS2
    clear h hk2
    (try simp only [↓Mm, Mm, ↓Mr, Mr, Mb, reduceIte])
    refine ld hs2 hq2 rfl ?_
    refine Q6 f12 ?_
    have d32 : ∀ k : Nat, decide ((32 : Int) < (k : Int)) = decide (32 < k) := fun k => by rw [Bool.eq_iff_iff, decide_eq_true_eq, decide_eq_true_eq]; omega
    simp only [d32, ↓Mm, Mm, ↓Mr, Mr, Mb, reduceIte]
    cases e1 : decide (32 < c.like.length) with
    | true => rw [e1] at hK; (try simp only [↓Mm, Mm, ↓Mr, Mr, Mb, reduceIte]); simpa using hK
    | false =>
      rw [e1] at hK
      (try simp only [↓Mm, Mm, ↓Mr, Mr, Mb, reduceIte])
      refine ld hs2 hq2 rfl ?_
      refine Q6 f22 ?_
      simp only [d32, ↓Mm, Mm, ↓Mr, Mr, Mb, reduceIte]
      cases e2 : decide (32 < c.fields.length) with
      | true => rw [e2] at hK; (try simp only [↓Mm, Mm, ↓Mr, Mr, Mb, reduceIte]); simpa using hK
      | false =>
        rw [e2] at hK
        (try simp only [↓Mm, Mm, ↓Mr, Mr, Mb, reduceIte])
        refine ld hs2 hq2 rfl ?_
        refine Q6 f32 ?_
        simp only [d32, ↓Mm, Mm, ↓Mr, Mr, Mb, reduceIte]
        simpa using hK)
theorem Q4r {α : Type} {xs : List α} {p : α → Bool} {n : Nat} (h : ¬ n < xs.length) : (xs.take n).all p = xs.all p := by rw [List.take_of_length_le (by omega)]
set_option maxHeartbeats 4000000 in
theorem Pa {m : Hm.Met} {pv cv hv : Value} {w1 : World} {σ1 : Q5} {q : Addr} {ok0 : Bool} (hs : X6 w σ) (hk1 : Stp w σ w1 σ1) (hq : U0 σ1 q [S m.name, pv, S m.result, .bool m.abs, I m.locals, cv, hv]) (g1 : Sl 1 U5 σ1 pv m.params) (g2 : Sl 3 F5 σ1 cv m.code) (g3 : Sl 4 Qr σ1 hv m.catches)
    (h : ∀ w' σ', Stp w σ w' σ' → K (.bool ((ok0 && m.params.all right) && if m.abs then decide (m.locals = 0) && decide (m.code = []) && decide (m.catches = [])
      else decide (m.code ≠ []) && decide ((m.params.length : Int) < m.locals) && m.code.all (fun i => decide (N9 i = 0)) && m.catches.all (S1 m.code.length))) w') :
  lp (α := Value × Value) (Value.bool ok0, (.int .i64 0)) w1 fun again4 x4 d_ w =>
    fieldAddr P T.c (.pointer (some q)) 1 w fun t22 w =>
    Q2 P T.f t22 w fun t23 w =>
    X4 P .len [T.f] T.d [false] [t23] w fun t24 w =>
    Q3 P .lss T.d (.tmp 21) (.tmp 24) x4.2 t24 w fun t25 w =>
    X1 t25 (
      Q0 x4.1 true w (fieldAddr P T.c (.pointer (some q)) 1) fun t30 w =>
      Q0 x4.1 true w (Q2 P T.f t30) fun t31 w =>
      Q0 x4.1 true w (fun w J => J x4.2 w) fun t32 w =>
      Q0 x4.1 true w (indexAddr P T.f t31 t32) fun t33 w =>
      Q0 x4.1 true w (Q2 P T.b t33) fun t34 w =>
      Q0 x4.1 true w (Q1 P F.i [t34]) fun t35 w =>
      pick P x4.1 t35 (.bool false) w fun t36 w =>
      Q3 P .add T.d (.tmp 26) (.const (.int .i64 1)) x4.2 (.int .i64 1) w fun t27 w =>
      again4 (t36, t27) w) (
      fieldAddr P T.c (.pointer (some q)) 3 w fun t37 w =>
      Q2 P T.l t37 w fun t38 w =>
      X1 t38 (
        Q0 x4.1 true w (fieldAddr P T.c (.pointer (some q)) 4) fun t41 w =>
        Q0 x4.1 true w (Q2 P T.d t41) fun t42 w =>
        Q0 x4.1 true w (Q3 P .eql T.d (.tmp 42) (.const (.int .i64 0)) t42 (.int .i64 0)) fun t43 w =>
        pick P x4.1 t43 (.bool false) w fun t44 w =>
        Q0 t44 true w (fieldAddr P T.c (.pointer (some q)) 5) fun t46 w =>
        Q0 t44 true w (Q2 P T.k t46) fun t47 w =>
        Q0 t44 true w (X4 P .len [T.k] T.d [false] [t47]) fun t48 w =>
        Q0 t44 true w (Q3 P .eql T.d (.tmp 48) (.const (.int .i64 0)) t48 (.int .i64 0)) fun t49 w =>
        pick P t44 t49 (.bool false) w fun t50 w =>
        Q0 t50 true w (fieldAddr P T.c (.pointer (some q)) 6) fun t52 w =>
        Q0 t50 true w (Q2 P T.j t52) fun t53 w =>
        Q0 t50 true w (X4 P .len [T.j] T.d [false] [t53]) fun t54 w =>
        Q0 t50 true w (Q3 P .eql T.d (.tmp 54) (.const (.int .i64 0)) t54 (.int .i64 0)) fun t55 w =>
        pick P t50 t55 (.bool false) w fun t56 w =>
        K t56 w) (
        fieldAddr P T.c (.pointer (some q)) 5 w fun t57 w =>
        Q2 P T.k t57 w fun t58 w =>
        X4 P .len [T.k] T.d [false] [t58] w fun t59 w =>
        lp (α := Value × Value) (x4.1, (.int .i64 0)) w fun again14 x14 d_ w =>
          fieldAddr P T.c (.pointer (some q)) 6 w fun t61 w =>
          Q2 P T.j t61 w fun t62 w =>
          X4 P .len [T.j] T.d [false] [t62] w fun t63 w =>
          Q3 P .lss T.d (.tmp 60) (.tmp 63) x14.2 t63 w fun t64 w =>
          X1 t64 (
            fieldAddr P T.c (.pointer (some q)) 6 w fun t67 w =>
            Q2 P T.j t67 w fun t68 w =>
            indexAddr P T.j t68 x14.2 w fun t70 w =>
            Q2 P T.m t70 w fun t71 w =>
            M0 P T.m w fun t7 w =>
            V5 P T.m t7 t71 w fun _u w =>
            Q0 x14.1 true w (fieldAddr P T.m t7 0) fun t74 w =>
            Q0 x14.1 true w (Q2 P T.d t74) fun t75 w =>
            Q0 x14.1 true w (Q3 P .geq T.d (.tmp 75) (.const (.int .i64 0)) t75 (.int .i64 0)) fun t76 w =>
            pick P x14.1 t76 (.bool false) w fun t77 w =>
            Q0 t77 true w (fieldAddr P T.m t7 0) fun t79 w =>
            Q0 t77 true w (Q2 P T.d t79) fun t80 w =>
            Q0 t77 true w (fieldAddr P T.m t7 1) fun t81 w =>
            Q0 t77 true w (Q2 P T.d t81) fun t82 w =>
            Q0 t77 true w (Q3 P .lss T.d (.tmp 80) (.tmp 82) t80 t82) fun t83 w =>
            pick P t77 t83 (.bool false) w fun t84 w =>
            Q0 t84 true w (fieldAddr P T.m t7 1) fun t86 w =>
            Q0 t84 true w (Q2 P T.d t86) fun t87 w =>
            Q0 t84 true w (fun w J => J t59 w) fun t88 w =>
            Q0 t84 true w (Q3 P .leq T.d (.tmp 87) (.tmp 88) t87 t88) fun t89 w =>
            pick P t84 t89 (.bool false) w fun t90 w =>
            Q0 t90 true w (fieldAddr P T.m t7 2) fun t92 w =>
            Q0 t90 true w (Q2 P T.d t92) fun t93 w =>
            Q0 t90 true w (Q3 P .geq T.d (.tmp 93) (.const (.int .i64 0)) t93 (.int .i64 0)) fun t94 w =>
            pick P t90 t94 (.bool false) w fun t95 w =>
            Q0 t95 true w (fieldAddr P T.m t7 2) fun t97 w =>
            Q0 t95 true w (Q2 P T.d t97) fun t98 w =>
            Q0 t95 true w (fun w J => J t59 w) fun t99 w =>
            Q0 t95 true w (Q3 P .lss T.d (.tmp 98) (.tmp 99) t98 t99) fun t100 w =>
            pick P t95 t100 (.bool false) w fun t101 w =>
            Q0 t101 true w (fieldAddr P T.m t7 3) fun t103 w =>
            Q0 t101 true w (Q2 P T.b t103) fun t104 w =>
            Q0 t101 true w (Q1 P F.e [t104]) fun t105 w =>
            pick P t101 t105 (.bool false) w fun t106 w =>
            Q3 P .add T.d (.tmp 65) (.const (.int .i64 1)) x14.2 (.int .i64 1) w fun t66 w =>
            again14 (t106, t66) w) (
            Q0 x14.1 true w (fun w J => J t59 w) fun t109 w =>
            Q0 x14.1 true w (Q3 P .gtr T.d (.tmp 109) (.const (.int .i64 0)) t109 (.int .i64 0)) fun t110 w =>
            pick P x14.1 t110 (.bool false) w fun t111 w =>
            Q0 t111 true w (fieldAddr P T.c (.pointer (some q)) 4) fun t113 w =>
            Q0 t111 true w (Q2 P T.d t113) fun t114 w =>
            Q0 t111 true w (fieldAddr P T.c (.pointer (some q)) 1) fun t115 w =>
            Q0 t111 true w (Q2 P T.f t115) fun t116 w =>
            Q0 t111 true w (X4 P .len [T.f] T.d [false] [t116]) fun t117 w =>
            Q0 t111 true w (Q3 P .gtr T.d (.tmp 114) (.tmp 117) t114 t117) fun t118 w =>
            pick P t111 t118 (.bool false) w fun t119 w =>
            Q0 t119 true w (fieldAddr P T.c (.pointer (some q)) 5) fun t121 w =>
            Q0 t119 true w (Q2 P T.k t121) fun t122 w =>
            Q0 t119 true w (Q1 P F.aM [t122]) fun t123 w =>
            Q0 t119 true w (Q3 P .eql T.t (.tmp 123) (.const (.int .i64 0)) t123 (.int .i64 0)) fun t124 w =>
            pick P t119 t124 (.bool false) w fun t125 w =>
            K t125 w))) := by
  have hs1 := hk1.sat
  have c0 : decide ((m.code.length : Int) = 0) = decide (m.code = []) := by cases m.code <;> simp; omega
  have c1 : decide ((m.catches.length : Int) = 0) = decide (m.catches = []) := by cases m.catches <;> simp; omega
  have c2 : decide ((0 : Int) < m.code.length) = decide (m.code ≠ []) := by cases m.code <;> simp
  refine N1 (a := Value.bool ok0) m.params.length (fun n x w' => ∃ σ', Stp w1 σ1 w' σ' ∧ x = Value.bool (ok0 && (m.params.take n).all right)) ⟨σ1, Stp.refl hs1, by simp⟩ fun n x w2 d hn hinv => ?_
  obtain ⟨σ2, hk2, rfl⟩ := hinv
  have hq2 := hq.up hk2
  have g12 := g1.up hk2
  have hs2 := hk2.sat
  (try simp only [↓Mm, Mm, ↓Mr, Mr, Mb, reduceIte])
  refine ld hs2 hq2 rfl ?_
  refine Q6 g12 ?_
  refine Z5 ?_
  refine Q4 (fun hc => ?_) (fun hc => ?_)
  · have hn' : n < m.params.length := by simpa using hc
    have hnx : (ok0 && (m.params.take (n + 1)).all right) = ((ok0 && (m.params.take n).all right) && right m.params[n]) := by rw [Yx hn', Bool.and_assoc]
    generalize (ok0 && (m.params.take n).all right) = acc at hnx ⊢
    cases acc with
    | false => (try simp only [↓Mm, Mm, ↓Mr, Mr, Mb, reduceIte]); exact Z6 g1.max hn' ⟨σ2, hk2, by rw [hnx]; rfl⟩
    | true =>
      (try simp only [↓Mm, Mm, ↓Mr, Mr, Mb, reduceIte])
      refine ld hs2 hq2 rfl ?_
      (try simp only [↓Mm, Mm, ↓Mr, Mr, Mb, reduceIte])
      refine Y4 g12 hn' ?_
      obtain ⟨p1, p2⟩ := g12.elS hn'
      refine X8 hs2 p1 rfl ?_
      refine Jt _ (by simp only [W3] at p2; omega) ?_
      (try simp only [↓Mm, Mm, ↓Mr, Mr, Mb, reduceIte])
      exact Z6 g1.max hn' ⟨σ2, hk2, by rw [hnx]; rfl⟩
  · have hn' : ¬ n < m.params.length := by simpa using hc
    rw [Q4r hn']
    have hS2 := hk1.trans hk2
    have g22 := g2.up hk2
    have g32 := g3.up hk2
    clear hk1 hk2 hq g1 g2 g3 hn hc
    generalize (ok0 && m.params.all right) = acc at h ⊢
    refine ld hs2 hq2 rfl ?_
    cases hab : m.abs with
    | true =>
      simp only [hab, if_true] at h
      have hK := h _ _ hS2
      clear h
      (try simp only [↓Mm, Mm, ↓Mr, Mr, Mb, reduceIte])
      cases acc with
      | false => (try simp only [↓Mm, Mm, ↓Mr, Mr, Mb, reduceIte]); simpa using hK
      | true =>
        (try simp only [↓Mm, Mm, ↓Mr, Mr, Mb, reduceIte])
        refine ld hs2 hq2 rfl ?_
        (try simp only [↓Mm, Mm, ↓Mr, Mr, Mb, reduceIte])
        cases hl0 : decide (m.locals = 0) with
        | false => rw [hl0] at hK; (try simp only [↓Mm, Mm, ↓Mr, Mr, Mb, reduceIte]); simpa using hK
        | true =>
          rw [hl0] at hK
          (try simp only [↓Mm, Mm, ↓Mr, Mr, Mb, reduceIte])
          refine ld hs2 hq2 rfl ?_
          refine Q6 g22 ?_
          simp only [c0, ↓Mm, Mm, ↓Mr, Mr, Mb, reduceIte]
          cases hc0 : decide (m.code = []) with
          | false => rw [hc0] at hK; (try simp only [↓Mm, Mm, ↓Mr, Mr, Mb, reduceIte]); simpa using hK
          | true =>
            rw [hc0] at hK
            (try simp only [↓Mm, Mm, ↓Mr, Mr, Mb, reduceIte])
            refine ld hs2 hq2 rfl ?_
            refine Q6 g32 ?_
            simp only [c1, ↓Mm, Mm, ↓Mr, Mr, Mb, reduceIte]
            simpa using hK
    | false =>
      simp only [hab, Bool.false_eq_true, if_false] at h
      (try simp only [↓Mm, Mm, ↓Mr, Mr, Mb, reduceIte])
      refine ld hs2 hq2 rfl ?_
      refine Q6 g22 ?_
      refine N1 (a := Value.bool acc) m.catches.length (fun n x w' => ∃ σ', Stp w2 σ2 w' σ' ∧ x = Value.bool (acc && (m.catches.take n).all (S1 m.code.length))) ⟨σ2, Stp.refl hs2, by simp⟩ fun n x w4 d hn hinv => ?_
      obtain ⟨σ4, hk4, rfl⟩ := hinv
      have hq4 := hq2.up hk4
      have g34 := g32.up hk4
      have hs4 := hk4.sat
      (try simp only [↓Mm, Mm, ↓Mr, Mr, Mb, reduceIte])
      refine ld hs4 hq4 rfl ?_
      refine Q6 g34 ?_
      refine Z5 ?_
      refine Q4 (fun hc => ?_) (fun hc => ?_)
      · have hn' : n < m.catches.length := by simpa using hc
        have hnx : (acc && (m.catches.take (n + 1)).all (S1 m.code.length)) = ((acc && (m.catches.take n).all (S1 m.code.length)) && S1 m.code.length m.catches[n]) := by rw [Yx hn', Bool.and_assoc]
        generalize (acc && (m.catches.take n).all (S1 m.code.length)) = ac2 at hnx ⊢
        (try simp only [↓Mm, Mm, ↓Mr, Mr, Mb, reduceIte])
        refine ld hs4 hq4 rfl ?_
        refine Y4 g34 hn' ?_
        obtain ⟨p1, r1⟩ := g34.elK hn'
        have hcl : m.catches[n].cls.length ≤ 140737488355328 := by have := r1.2.2.2.2; simp only [W3] at this; omega
        refine Y3 hs4 p1 rfl ?_
        refine Y0 hs4 (by rfl) rfl (Rep.one r1) fun q5 w5 σ5 hk5 hq5 => ?_
        have hs5 := hk5.sat
        have hk45 := hk4.trans hk5
        cases ac2 with
        | false => (try simp only [↓Mm, Mm, ↓Mr, Mr, Mb, reduceIte]); exact Z6 g32.max hn' ⟨σ5, hk45, by rw [hnx]; rfl⟩
        | true =>
          have hcK : ∀ b, S1 m.code.length m.catches[n] = b → Hi m.catches.length (fun n x w' => ∃ σ', Stp w2 σ2 w' σ' ∧ x = Value.bool (acc && (m.catches.take n).all (S1 m.code.length))) (Value.bool b, .int .i64 (IntKind.i64.wrap (n + 1))) w5 ∧ Vu m.catches.length (Value.bool b, .int .i64 (IntKind.i64.wrap (n + 1))) < Vu m.catches.length (Value.bool true, I n) := fun b e => Z6 g32.max hn' ⟨σ5, hk45, by rw [hnx, e]; rfl⟩
          unfold S1 at hcK
          generalize m.catches[n] = x at hq5 hcK hcl
          clear hnx p1 r1 hq4 hq2 g34 h
          (try simp only [↓Mm, Mm, ↓Mr, Mr, Mb, reduceIte])
          refine ld hs5 hq5 rfl ?_
          (try simp only [↓Mm, Mm, ↓Mr, Mr, Mb, reduceIte])
          cases d1 : decide (0 ≤ x.frm) with
          | false => (try simp only [↓Mm, Mm, ↓Mr, Mr, Mb, reduceIte]); exact hcK _ (by simp [d1])
          | true =>
          (try simp only [↓Mm, Mm, ↓Mr, Mr, Mb, reduceIte])
          refine ld hs5 hq5 rfl ?_
          (try simp only [↓Mm, Mm, ↓Mr, Mr, Mb, reduceIte])
          refine ld hs5 hq5 rfl ?_
          (try simp only [↓Mm, Mm, ↓Mr, Mr, Mb, reduceIte])
          cases d2 : decide (x.frm < x.to) with
          | false => (try simp only [↓Mm, Mm, ↓Mr, Mr, Mb, reduceIte]); exact hcK _ (by simp [d1, d2])
          | true =>
          (try simp only [↓Mm, Mm, ↓Mr, Mr, Mb, reduceIte])
          refine ld hs5 hq5 rfl ?_
          (try simp only [↓Mm, Mm, ↓Mr, Mr, Mb, reduceIte])
          cases d3 : decide (x.to ≤ (m.code.length : Int)) with
          | false => (try simp only [↓Mm, Mm, ↓Mr, Mr, Mb, reduceIte]); exact hcK _ (by simp [d1, d2, d3])
          | true =>
          (try simp only [↓Mm, Mm, ↓Mr, Mr, Mb, reduceIte])
          refine ld hs5 hq5 rfl ?_
          (try simp only [↓Mm, Mm, ↓Mr, Mr, Mb, reduceIte])
          cases d4 : decide (0 ≤ x.at_) with
          | false => (try simp only [↓Mm, Mm, ↓Mr, Mr, Mb, reduceIte]); exact hcK _ (by simp [d1, d2, d3, d4])
          | true =>
          (try simp only [↓Mm, Mm, ↓Mr, Mr, Mb, reduceIte])
          refine ld hs5 hq5 rfl ?_
          (try simp only [↓Mm, Mm, ↓Mr, Mr, Mb, reduceIte])
          cases d5 : decide (x.at_ < (m.code.length : Int)) with
          | false => (try simp only [↓Mm, Mm, ↓Mr, Mr, Mb, reduceIte]); exact hcK _ (by simp [d1, d2, d3, d4, d5])
          | true =>
          (try simp only [↓Mm, Mm, ↓Mr, Mr, Mb, reduceIte])
          refine ld hs5 hq5 rfl ?_
          refine A5 x.cls hcl ?_
          (try simp only [↓Mm, Mm, ↓Mr, Mr, Mb, reduceIte])
          exact hcK _ (by simp [d1, d2, d3, d4, d5])
      · have hn' : ¬ n < m.catches.length := by simpa using hc
        rw [Q4r hn']
        have hS4 := hS2.trans hk4
        have g24 := g22.up hk4
        have g14 := g12.up hk4
        have hh : ∀ w' σ', Stp w σ w' σ' → K (.bool ((acc && m.catches.all (S1 m.code.length)) && (decide (m.code ≠ []) && decide ((m.params.length : Int) < m.locals) && m.code.all (fun i => decide (N9 i = 0))))) w' := by
          intro w' σ' hk
          have := h w' σ' hk
          refine Eq.subst (motive := fun b => K (.bool b) w') ?_ this
          cases acc <;> cases m.catches.all (S1 m.code.length) <;> simp
        clear h hk4
        generalize (acc && m.catches.all (S1 m.code.length)) = ac3 at hh ⊢
        cases ac3 with
        | false => (try simp only [↓Mm, Mm, ↓Mr, Mr, Mb, reduceIte]); simpa using hh _ _ hS4
        | true =>
          (try simp only [↓Mm, Mm, ↓Mr, Mr, Mb, reduceIte])
          simp only [c2, ↓Mm, Mm, ↓Mr, Mr, Mb, reduceIte]
          cases hcn : decide (m.code ≠ []) with
          | false => rw [hcn] at hh; (try simp only [↓Mm, Mm, ↓Mr, Mr, Mb, reduceIte]); simpa using hh _ _ hS4
          | true =>
            rw [hcn] at hh
            (try simp only [↓Mm, Mm, ↓Mr, Mr, Mb, reduceIte])
            refine ld hs4 hq4 rfl ?_
            (try simp only [↓Mm, Mm, ↓Mr, Mr, Mb, reduceIte])
            refine ld hs4 hq4 rfl ?_
            refine Q6 g14 ?_
            (try simp only [↓Mm, Mm, ↓Mr, Mr, Mb, reduceIte])
            cases hlp : decide ((m.params.length : Int) < m.locals) with
            | false => rw [hlp] at hh; (try simp only [↓Mm, Mm, ↓Mr, Mr, Mb, reduceIte]); simpa using hh _ _ hS4
            | true =>
              rw [hlp] at hh
              (try simp only [↓Mm, Mm, ↓Mr, Mr, Mb, reduceIte])
              refine ld hs4 hq4 rfl ?_
              refine Q8p hs4 g24 fun e w6 σ6 hk6 he => ?_
              simp only [he, ↓Mm, Mm, ↓Mr, Mr, Mb, reduceIte]
              simpa using hh _ _ (hS4.trans hk6)
set_option maxHeartbeats 2000000 in
theorem Q5n {m : Hm.Met} {cs : List Value} (hs : X6 w σ) (hm : M9 σ m cs) (h : ∀ w' σ', Stp w σ w' σ' → K (.bool (S3 m)) w') : Q1 P F.x [.agg cs.toArray] w K := Rw (by
  unfold Ul
  obtain ⟨pv, cv, hv, rfl, f1, f2, f3, f4, f5, f6⟩ := hm
  have f4' : m.name.length ≤ 140737488355328 := by simp only [W3] at f4; omega
  have f5' : m.result.length ≤ 140737488355328 := by simp only [W3] at f5; omega
  refine Z4 hs fun q w1 σ1 hk1 hq => ?_
  have g1 := f1.up hk1
  have g2 := f2.up hk1
  have g3 := f3.up hk1
  have hs1 := hk1.sat
  obtain ⟨ok0, hok0⟩ : ∃ b, b = (M7 m.name && (decide (m.result = []) || right m.result)) := ⟨_, rfl⟩
  have hmc : S3 m = ((ok0 && m.params.all right) && if m.abs then decide (m.locals = 0) && decide (m.code = []) && decide (m.catches = [])
      else decide (m.code ≠ []) && decide ((m.params.length : Int) < m.locals) && m.code.all (fun i => decide (N9 i = 0)) && m.catches.all (S1 m.code.length)) := by
    rw [hok0]; unfold S3
    cases M7 m.name <;> cases m.params.all right <;> cases decide (m.result = []) <;> cases right m.result <;> rfl
  rw [hmc] at h
  clear hmc
  (repeat (with_reducible first | refine Z2 ?_ | refine Z1 ?_ | refine Y8 ?_ | refine Z3 ?_ | refine Z8 ?_ | refine J0 ?_ | refine Y9 ?_ | refine Z0 ?_ | refine W4 ?_ | refine Z9 ?_ | refine U3 ?_))
  refine ld hs1 hq rfl ?_
  refine Sk m.name f4' ?_
  cases hme : M7 m.name with
  | false =>
    have e0 : ok0 = false := by rw [hok0, hme]; rfl
    (repeat (with_reducible first | refine Z2 ?_ | refine Z1 ?_ | refine Y8 ?_ | refine Z3 ?_ | refine Z8 ?_ | refine J0 ?_ | refine Y9 ?_ | refine Z0 ?_ | refine W4 ?_ | refine Z9 ?_ | refine U3 ?_))
    refine Eq.subst (motive := fun b => lp (α := Value × Value) (Value.bool b, .int .i64 0) w1 _) e0 ?_
    exact Pa hs hk1 hq g1 g2 g3 h
  | true =>
    (repeat (with_reducible first | refine Z2 ?_ | refine Z1 ?_ | refine Y8 ?_ | refine Z3 ?_ | refine Z8 ?_ | refine J0 ?_ | refine Y9 ?_ | refine Z0 ?_ | refine W4 ?_ | refine Z9 ?_ | refine U3 ?_))
    refine ld hs1 hq rfl ?_
    (repeat (with_reducible first | refine Z2 ?_ | refine Z1 ?_ | refine Y8 ?_ | refine Z3 ?_ | refine Z8 ?_ | refine J0 ?_ | refine Y9 ?_ | refine Z0 ?_ | refine W4 ?_ | refine Z9 ?_ | refine U3 ?_))
    refine Nr ?_
    cases hr0 : decide (m.result = []) with
    | true =>
      have e0 : ok0 = true := by rw [hok0, hme, hr0]; rfl
      (repeat (with_reducible first | refine Z2 ?_ | refine Z1 ?_ | refine Y8 ?_ | refine Z3 ?_ | refine Z8 ?_ | refine J0 ?_ | refine Y9 ?_ | refine Z0 ?_ | refine W4 ?_ | refine Z9 ?_ | refine U3 ?_))
      refine Eq.subst (motive := fun b => lp (α := Value × Value) (Value.bool b, .int .i64 0) w1 _) e0 ?_
      exact Pa hs hk1 hq g1 g2 g3 h
    | false =>
      (repeat (with_reducible first | refine Z2 ?_ | refine Z1 ?_ | refine Y8 ?_ | refine Z3 ?_ | refine Z8 ?_ | refine J0 ?_ | refine Y9 ?_ | refine Z0 ?_ | refine W4 ?_ | refine Z9 ?_ | refine U3 ?_))
      refine ld hs1 hq rfl ?_
      (repeat (with_reducible first | refine Z2 ?_ | refine Z1 ?_ | refine Y8 ?_ | refine Z3 ?_ | refine Z8 ?_ | refine J0 ?_ | refine Y9 ?_ | refine Z0 ?_ | refine W4 ?_ | refine Z9 ?_ | refine U3 ?_))
      refine Jt m.result f5' ?_
      have e0 : ok0 = right m.result := by rw [hok0, hme, hr0]; rfl
      (repeat (with_reducible first | refine Z2 ?_ | refine Z1 ?_ | refine Y8 ?_ | refine Z3 ?_ | refine Z8 ?_ | refine J0 ?_ | refine Y9 ?_ | refine Z0 ?_ | refine W4 ?_ | refine Z9 ?_ | refine U3 ?_))
      refine Eq.subst (motive := fun b => lp (α := Value × Value) (Value.bool b, .int .i64 0) w1 _) e0 ?_
      exact Pa hs hk1 hq g1 g2 g3 h)
end Go.Proofs.YtdnfaboigajkhaaGreatDoor
