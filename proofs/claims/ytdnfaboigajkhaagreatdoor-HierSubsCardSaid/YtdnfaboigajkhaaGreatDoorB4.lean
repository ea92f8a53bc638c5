/- Parts of a proof about the given program: its functions as texts of their own, what each computes, plain laws of that. The conditions of each stand in its statement. -/
import Derived.Test.YtdnfaboigajkhaaGreatDoorB3
import Derived.Lib.AsciiSet
import Derived.Lib.Join
import Derived.Maps.RangeRun
import Derived.Laws.StructEq
set_option linter.unnecessarySimpa false
set_option linter.defProp false
set_option linter.unusedSectionVars false
set_option linter.unusedVariables false
set_option linter.unusedSimpArgs false
namespace Go.Hm
open Go.Kd
theorem Q6h {l : List Cla} {n : X0} {c : Cla} (h : c ∈ chain l n) : lk l c.name = some c := by
  have key : ∀ (f : Nat) (n : X0), c ∈ R9 (lk l) f n → lk l c.name = some c := by
    intro f
    induction f with
    | zero => intro n h; simp [R9] at h
    | succ f ih =>
      intro n h
      simp only [R9] at h
      split at h
      · simp at h
      · rename_i d hd
        rcases List.mem_cons.1 h with rfl | h
        · rw [(V3 hd).1]; exact hd
        · exact ih _ h
  exact key _ _ h
theorem Pt {f : Fld} (h : f.name.length ≤ 100 ∧ f.kind.length ≤ 100) : (F4 f).length ≤ 202 := by
  unfold F4
  split <;> simp; omega
theorem Q03 {l : List Cla} (hn : ∀ c ∈ l, Nm c) (hs : ∀ c ∈ l, K2 c) : ∀ (f : Nat) (n : X0), (B2 (lk l) f n).length ≤ f * 300000000
  | 0, _ => by simp [B2]
  | f + 1, n => by
    simp only [B2]
    split
    · simp
    · rename_i c hc
      obtain ⟨e, hm, _⟩ := V3 hc
      have h1 := hn c hm
      have h2 := hs c hm
      have h3 := Q03 hn hs f c.super
      have h4 := K5 F4 202 c.fields fun f hf => Pt (h1.2.1 f hf)
      have h5 : c.fields.length * 202 ≤ 1000000 * 202 := Nat.mul_le_mul_right _ h2.2.1
      have h6 := h1.1
      rw [e] at h6
      split
      · simp
      · simp only [List.length_append, List.length_cons, List.length_nil, Nat.add_mul]; omega
theorem Q57 {l : List Cla} (ok : Ok l) (n : X0) : (printM l n).length ≤ 30000300000000 := by
  have := Q03 ok.nm ok.sm (l.length + 1) n
  have h2 : (l.length + 1) * 300000000 ≤ 100001 * 300000000 := Nat.mul_le_mul_right _ (by have := ok.len; omega)
  unfold printM; omega
theorem Q1C {c : Cla} (h : Nm c) (h2 : K2 c) (i : Nat) : ((c.fields.take i).flatMap F4).length ≤ 202000000 := by
  have h4 := K5 F4 202 (c.fields.take i) fun f hf => Pt (h.2.1 f (List.mem_of_mem_take hf))
  rw [List.length_take] at h4
  have h5 : min i c.fields.length * 202 ≤ 1000000 * 202 := Nat.mul_le_mul_right _ (by have := h2.2.1; omega)
  omega
end Go.Hm
namespace Go.Proofs.YtdnfaboigajkhaaGreatDoor
open Go.Emb Go.RowKit Go.Kd Go.Hm
variable {w : World} {K : Value → World → Prop} {σ : Q6} {v : Value} {l : List Cla}
theorem Q6H {k n : X0} (hs : X6 w σ) (ht : Tab σ v l) (ok : Ok l)
    (h : ∀ pv cv hv w' σ', Stp w σ w' σ' → M8 σ' (o2 (methodM l k n)) [S (o2 (methodM l k n)).name, pv, S (o2 (methodM l k n)).result, .bool (o2 (methodM l k n)).abs, I (o2 (methodM l k n)).locals, cv, hv] →
      K (.tuple #[S (o1 (methodM l k n)), .agg [S (o2 (methodM l k n)).name, pv, S (o2 (methodM l k n)).result, .bool (o2 (methodM l k n)).abs, I (o2 (methodM l k n)).locals, cv, hv].toArray, .bool (methodM l k n).isSome]) w') :
    Q1 P F.aR [v, S k, S n] w K := Hz (by
  unfold Jv
  refine Qu hs fun b w1 σ1 hb hk1 hm1 => ?_
  refine Q5f hk1.sat (ht.lift ⟨hk1.le⟩) ok.acy ok.len fun v1 w2 σ2 hk2 ha2 => ?_
  have hm2 := hm1.step hk2
  have hb1 := hm1.lt
  refine Q0W (hk1.trans hk2) (ha2.mono hk1.bel.size) fun w3 hk3 hS3 ha3 => ?_
  rw [List.reverse_reverse] at ha3
  obtain ⟨σ3, hS4, hv4, le4, old4⟩ := ha3.keep hS3
  have hcl := Dt l k
  have hne : v1.ownBlock ≠ some b := fun e => by have := ha2.own e; omega
  have hm3 : V1 σ3 w3 b [S [], .slice none 0 0, S [], .bool false, I 0, .slice none 0 0, .slice none 0 0] := by
    have := hm2.kp hk3 hne
    exact ⟨(old4 b fun e => hne e.symm).trans this.1, this.2⟩
  refine Q7 hv4 ?_
  unfold methodM at h
  refine V7 (chain l k).length (fun i w' => ∃ σ', Stp w σ w' σ' ∧ SLe σ3 σ' ∧ V1 σ' w' b [S [], .slice none 0 0, S [], .bool false, I 0, .slice none 0 0, .slice none 0 0] ∧ ((chain l k).take i).findSome? (fun c => (H3 c n).map (c.name, ·)) = none) ⟨σ3, hS4, SLe.refl _, hm3, rfl⟩ fun i w5 d hi hinv => ?_
  obtain ⟨σ5, hS5, le5, hm5, hno⟩ := hinv
  refine U0 ?_
  refine Q4 (fun hh => ?_) (fun hh => ?_)
  · have hi' : i < (chain l k).length := by simpa using hh
    refine L3 (hv4.lift le5) hi' fun p cells hl1 hl2 hr => ?_
    refine Z0 hS5.sat hl1 hl2 ?_
    refine Y2 hS5.sat (by rfl) hl2 (Rep.one hr) fun q w6 σ6 hk6 hq6 => ?_
    refine Z0 hk6.sat hq6 hl2 ?_
    have hmem := Gu (List.getElem_mem hi')
    refine Q7e hk6.sat (Rep.up hk6.le hr) (ok.sm _ hmem) fun pv cv hv w7 σ7 hk7 hr7 => ?_
    refine M4 (vs := [_, _]) rfl ?_
    refine M4 (vs := [_, _]) rfl ?_
    refine Y2 hk7.sat (by rfl) rfl (Rep.one hr7) fun q8 w8 σ8 hk8 hq8 => ?_
    have hS8 := ((hS5.trans hk6).trans hk7).trans hk8
    have hm8 := ((hm5.step hk6).step hk7).step hk8
    have hr8 := S3 hr7 ⟨hk8.le⟩
    cases ho : H3 (chain l k)[i] n with
    | some m =>
      rw [ho] at hr8 hq8
      (try simp only [ho])
      refine F9 ?_
      obtain ⟨lv, fv, mv, rfl, g⟩ := hr
      refine W9 hS8.sat ?_
      refine X2 (.pointer (some (q.add 0))) (fun w hb => by rw [fa]; exact X4 rfl) ?_
      refine X2 (S (chain l k)[i].name) (fun t w hb e => by rw [e]; exact ld hb.sat ((hq6.up hk7).up hk8) rfl (X4 rfl)) ?_
      refine N9 (fun v _ => v = .agg [S m.name, pv, S m.result, .bool m.abs, I m.locals, cv, hv].toArray) (fun _ _ _ h _ => h) (fun w hb => Z0 hb.sat hq8 rfl ⟨Below.refl _ _, rfl⟩) ?_
      rintro _ _ _ w9 hb9 rfl rfl rfl
      refine Qf (hm8.step hb9.stp) (hS8.trans hb9.stp) hb rfl rfl (Rep.one hr8) fun w10 hS10 hm10 => ?_
      refine M9 hm10 rfl ?_
      rw [T0 (f := fun c => (H3 c n).map (c.name, ·)) hi' hno (by simp only [ho]; rfl)] at h
      exact h _ _ _ w10 σ8 hS10.stp hr8
    | none =>
      (try simp only [ho])
      refine K1 ?_
      refine O8 ?_
      refine Z2 (by have := ok.len; omega) hi' ⟨σ8, hS8, le5.more ⟨fun b o e => hk8.le _ _ (hk7.le _ _ (hk6.le _ _ e))⟩, hm8, ?_⟩
      rw [T3 hi' hno]; simp only [ho]; rfl
  · have hi' : ¬ i < (chain l k).length := by simpa using hh
    rw [List.take_of_length_le (by omega)] at hno
    rw [hno] at h
    clear hm3 hS4 hh
    refine Q7 (hv4.lift le5) ?_
    refine V7 (chain l k).length (fun i w' => ∃ σ', Stp w σ w' σ' ∧ SLe σ3 σ' ∧ V1 σ' w' b [S [], .slice none 0 0, S [], .bool false, I 0, .slice none 0 0, .slice none 0 0] ∧ ((chain l k).take i).findSome? (fun c => V5 l c n) = none) ⟨σ5, hS5, le5, hm5, rfl⟩ fun i w6 d hi hinv => ?_
    obtain ⟨σ6, hS6, le6, hm6, hno⟩ := hinv
    refine U0 ?_
    refine Q4 (fun hh => ?_) (fun hh => ?_)
    · have hi' : i < (chain l k).length := by simpa using hh
      refine L3 (hv4.lift le6) hi' fun p cells hl1 hl2 hr => ?_
      refine Z0 hS6.sat hl1 hl2 ?_
      refine Y2 hS6.sat (by rfl) hl2 (Rep.one hr) fun q w7 σ7 hk7 hq7 => ?_
      refine Z0 hk7.sat hq7 hl2 ?_
      have hS7 := hS6.trans hk7
      have hlk := Q6h (List.getElem_mem hi')
      refine Q8c ok _ (Nat.lt_succ_self _) hlk hk7.sat (ht.lift ⟨hS7.le⟩) (Rep.up hk7.le hr) fun pv cv hv w8 σ8 hk8 hr8 => ?_
      refine M4 (vs := [_, _, _]) rfl ?_
      refine M4 (vs := [_, _, _]) rfl ?_
      refine M4 (vs := [_, _, _]) rfl ?_
      refine Y2 hk8.sat (by rfl) rfl (Rep.one hr8) fun q9 w9 σ9 hk9 hq9 => ?_
      have hS9 := (hS7.trans hk8).trans hk9
      have hm9 := ((hm6.step hk7).step hk8).step hk9
      have hr9 := S3 hr8 ⟨hk9.le⟩
      cases ho : V5 l (chain l k)[i] n with
      | some r =>
        obtain ⟨s, m⟩ := r
        rw [ho] at hr9 hq9
        (try simp only [ho])
        refine F9 ?_
        refine W9 hS9.sat ?_
        refine N9 (fun v _ => v = .agg [S m.name, pv, S m.result, .bool m.abs, I m.locals, cv, hv].toArray) (fun _ _ _ h _ => h) (fun w hb => Z0 hb.sat hq9 rfl ⟨Below.refl _ _, rfl⟩) ?_
        rintro _ w10 hb10 rfl
        refine Qf (hm9.step hb10.stp) (hS9.trans hb10.stp) hb rfl rfl (Rep.one hr9) fun w11 hS11 hm11 => ?_
        refine M9 hm11 rfl ?_
        have := T0 (f := fun c => V5 l c n) hi' hno ho
        unfold V5 at this
        rw [this] at h
        exact h _ _ _ w11 σ9 hS11.stp hr9
      | none =>
        (try simp only [ho])
        refine K1 ?_
        refine O8 ?_
        refine Z2 (by have := ok.len; omega) hi' ⟨σ9, hS9, le6.more ⟨fun b o e => hk9.le _ _ (hk8.le _ _ (hk7.le _ _ e))⟩, hm9, ?_⟩
        rw [T3 hi' hno]; exact ho
    · have hi' : ¬ i < (chain l k).length := by simpa using hh
      rw [List.take_of_length_le (by omega)] at hno
      refine Hv ?_
      refine Qf hm6 hS6 hb rfl rfl (Rep.one (K8 (σ := σ6))) fun w7 hS7 hm7 => ?_
      refine M9 hm7 rfl ?_
      unfold V5 at hno
      rw [hno] at h
      exact h _ _ _ w7 σ6 hS7.stp K8)
theorem Q66 {n : X0} (hs : X6 w σ) (ht : Tab σ v l) (h : ∀ w' σ', Stp w σ w' σ' → K (.bool (Aa l n)) w') : Q1 P F.aL [v, S n] w K := Ha (by
  unfold Zv
  unfold Aa at h
  cases hd : lk l n with
  | none =>
    rw [hd] at h
    (repeat' (first | (with_reducible intro _) | (with_reducible refine V4 ?_) | (simp only [↓Mm, Mm, ↓Mp, Mp, Mb, reduceIte]) | (with_reducible first | refine ld aS aL aR ?_ | refine X7 aS aL aR ?_ | refine Z0 aS aL aR ?_ | refine Q7 aL ?_ | refine Z3 aR ?_ | refine Z8 aS ?_ | refine W5 aS aL ?_ | refine U4 aS aR ?_ | refine Y2 aS aR aR (Rep.one (by assumption)) ?_ | refine U2 aS aR aR aR ?_ | refine Lx au au au ?_ | (refine Y1 (fun hh => ?_) (fun hh => ?_) <;> (try simp only [hh, Bool.not_true, Bool.not_false, ↓Mm, Mm, ↓Mp, Mp, Mb, reduceIte])) | (refine Q4 (fun hh => ?_) (fun hh => ?_) <;> (try simp only [hh, Bool.not_true, Bool.not_false, ↓Mm, Mm, ↓Mp, Mp, Mb, reduceIte])))))
    all_goals (refine Eq.subst (motive := fun b => K b _) ?_ (h _ _ (by (repeat (first | exact Stp.refl (by (first | assumption | exact Stp.sat (by assumption) | exact Hst.sat (by assumption))) | assumption | refine Stp.trans ?_ (by first | assumption | exact Hst.stp (by assumption)))))); clear h; (try clear hA); (try clear hB); (try clear hC); first | rfl | ((try simp only [Bool.not_eq_true', Bool.not_eq_false', Bool.not_true, Bool.not_false, Bool.not_eq_true] at *); simp only [*, Mb, reduceIte]; done) | (simp [*]; done) | simp_all)
  | some d =>
    rw [hd] at h
    (repeat' (first | (with_reducible intro _) | (with_reducible refine V4 ?_) | (simp only [↓Mm, Mm, ↓Mp, Mp, Mb, reduceIte]) | (with_reducible first | refine ld aS aL aR ?_ | refine X7 aS aL aR ?_ | refine Z0 aS aL aR ?_ | refine Q7 aL ?_ | refine Z3 aR ?_ | refine Z8 aS ?_ | refine W5 aS aL ?_ | refine U4 aS aR ?_ | refine Y2 aS aR aR (Rep.one (by assumption)) ?_ | refine U2 aS aR aR aR ?_ | refine Wa au au au ?_ | refine G8 au au au ?_ | (refine Y1 (fun hh => ?_) (fun hh => ?_) <;> (try simp only [hh, Bool.not_true, Bool.not_false, ↓Mm, Mm, ↓Mp, Mp, Mb, reduceIte])) | (refine Q4 (fun hh => ?_) (fun hh => ?_) <;> (try simp only [hh, Bool.not_true, Bool.not_false, ↓Mm, Mm, ↓Mp, Mp, Mb, reduceIte])))))
    all_goals (refine Eq.subst (motive := fun b => K b _) ?_ (h _ _ (by (repeat (first | exact Stp.refl (by (first | assumption | exact Stp.sat (by assumption) | exact Hst.sat (by assumption))) | assumption | refine Stp.trans ?_ (by first | assumption | exact Hst.stp (by assumption)))))); clear h; (try clear hA); (try clear hB); (try clear hC); first | rfl | ((try simp only [Bool.not_eq_true', Bool.not_eq_false', Bool.not_true, Bool.not_false, Bool.not_eq_true] at *); simp only [*, Mb, reduceIte]; done) | (simp [*]; done) | simp_all))
end Go.Proofs.YtdnfaboigajkhaaGreatDoor

namespace Go.Kd
def brk (b : UInt8) : Bool := [(91 : UInt8), 93].contains b
def Kz : Nat → X0 → X0
  | 0, s => s
  | n + 1, s => match s.getLast? with
    | some b => if brk b then Kz n (s.take (s.length - 1)) else s
    | none => s
def Mk (s : X0) : X0 := Kz s.length s
theorem Q4o : ∀ (n m : Nat) (s : X0), s.length ≤ n → s.length ≤ m → Kz n s = Kz m s := by
  intro n
  induction n with
  | zero =>
    intro m s h _
    have : s = [] := List.eq_nil_of_length_eq_zero (by omega)
    subst this
    cases m <;> rfl
  | succ n ih =>
    intro m s h hm
    cases m with
    | zero =>
      have : s = [] := List.eq_nil_of_length_eq_zero (by omega)
      subst this; rfl
    | succ m =>
      simp only [Kz]
      cases hl : s.getLast? with
      | none => rfl
      | some b =>
        simp only
        split
        · exact ih m _ (by rw [List.length_take]; omega) (by rw [List.length_take]; omega)
        · rfl
theorem Pg (s : X0) : Mk s = match s.getLast? with | some b => if brk b then Mk (s.take (s.length - 1)) else s | none => s := by
  unfold Mk
  cases hs : s with
  | nil => rfl
  | cons c r =>
    rw [← hs]
    obtain ⟨n, hn⟩ : ∃ n, s.length = n + 1 := ⟨r.length, by rw [hs]; rfl⟩
    have hn' : s.length - 1 = n := by omega
    rw [hn]
    simp only [Kz, hn']
    cases hl : s.getLast? with
    | none => rfl
    | some b =>
      simp only
      split
      · rw [show n + 1 - 1 = n by omega]; exact Q4o n (s.take n).length _ (by rw [List.length_take]; omega) (Nat.le_refl _)
      · rfl
theorem Q5B {s : X0} (h : name s = true) : ∃ b, s.getLast? = some b ∧ D7 b.toNat = true := by
  cases s with
  | nil => simp [name] at h
  | cons c r =>
    refine ⟨(c :: r).getLast (by simp), List.getLast?_eq_some_getLast (by simp), ?_⟩
    simp only [name, Bool.and_eq_true, List.all_eq_true] at h
    exact h.2 _ (List.getLast_mem _)
theorem Q5g {b : UInt8} (h : D7 b.toNat = true) : brk b = false := by
  have h1 : b ≠ 91 := by rintro rfl; revert h; decide
  have h2 : b ≠ 93 := by rintro rfl; revert h; decide
  simp [brk, h1, h2]
theorem Us {s : X0} (h : (plain s || W7 s) = true) : name s = true := by
  simp only [Bool.or_eq_true] at h
  rcases h with h | h
  · simp only [plain, Bool.or_eq_true, decide_eq_true_eq] at h
    rcases h with (h | h) | h <;> subst h <;> decide
  · cases s with
    | nil => simp [W7] at h
    | cons c r => simp only [W7, Bool.and_eq_true] at h; exact h.1
end Go.Kd
namespace Go.Proofs.YtdnfaboigajkhaaGreatDoor
open Go.Emb Go.RowKit Go.Kd Go.Hm
variable {w : World} {K : Value → World → Prop} {σ : Q6} {v : Value} {l : List Cla}
theorem Q6L {s : X0} (h : N7 s = true) : Mk s = Mk (Kd.N4 s) := by
  have hl : 2 ≤ s.length ∧ s.drop (s.length - 2) = [91, 93] := by simpa [N7] using h
  obtain ⟨h1, h2⟩ := hl
  have h3 : s = Kd.N4 s ++ [91, 93] := by unfold Kd.N4; rw [← h2, List.take_append_drop]
  have h4 : (Kd.N4 s).length + 2 = s.length := by unfold Kd.N4; rw [List.length_take]; omega
  have e1 : s.getLast? = some 93 := by rw [h3]; simp
  have e2 : s.take (s.length - 1) = Kd.N4 s ++ [91] := by
    conv => lhs; rw [h3]
    rw [List.take_append, List.length_append]
    simp
    exact List.take_of_length_le (by omega)
  rw [Pg s, e1]
  simp only [show brk 93 = true from rfl, if_true, e2]
  rw [Pg]
  have e3 : (Kd.N4 s ++ [91]).getLast? = some 91 := by simp
  rw [e3]
  simp only [show brk 91 = true from rfl, if_true]
  congr 1
  simp
theorem Q5H {s : X0} : (plain (V2 s).1 || W7 (V2 s).1) = true → Mk s = (V2 s).1 := by
  have key : ∀ (n : Nat) (s : X0), s.length ≤ n → (plain (V2 s).1 || W7 (V2 s).1) = true → Mk s = (V2 s).1 := by
    intro n
    induction n with
    | zero =>
      intro s h hp
      have : s = [] := List.eq_nil_of_length_eq_zero (by omega)
      subst this; rfl
    | succ n ih =>
      intro s h hp
      by_cases ha : N7 s = true
      · have hb : V2 s = ((V2 (Kd.N4 s)).1, (V2 (Kd.N4 s)).2 + 1) := by rw [A4 s, ha]; simp
        rw [hb] at hp ⊢
        rw [Q6L ha]
        exact ih _ (by have := S9 ha; omega) hp
      · have hb : V2 s = (s, 0) := by rw [A4 s, eq_false_of_ne_true ha]; simp
        rw [hb] at hp ⊢
        obtain ⟨b, h1, h2⟩ := Q5B (Us hp)
        rw [Pg, h1]
        simp [Q5g h2]
  exact key _ s (Nat.le_refl _)
instance z_asciiSet : TZ P T.a1 256 256 (.agg (Array.replicate 256 (.bool false))) := ⟨by kernel_rfl⟩
theorem Q3n (h : ∀ w', Below w.heap.size w w' → K (.tuple #[.agg (Lib.setCells [91, 93]), .bool true]) w') : Q1 P F.bI [S [91, 93]] w K := by
  refine Jm (fn := Tryz.f94) Tryz.func94 (by kernel_rfl) (by kernel_rfl) (Calls.mono (Tryz.strings_makeASCIISet (fun w => Qy z_asciiSet w) ⟨[91, 93].toArray⟩ w (by decide) (by
    intro j b hb
    have : b ∈ [(91 : UInt8), 93] := List.mem_of_getElem? hb
    simp at this; rcases this with rfl | rfl <;> decide)) ?_)
  rintro e w' ⟨rfl, rfl⟩
  exact h _ ((Below.refl _ _).alloc (Nat.le_refl _) _)
theorem Ax {q : Addr} {b : UInt8} (hs : X6 w σ) (hq : J4 σ q (Lib.setCells [91, 93]).toList) (h : K (.bool (brk b)) w) : Q1 P F.au [.pointer (some q), .int .u8 b.toNat] w K := Wk (by
  unfold P0
  rw [S2]
  have hb := b.toNat_lt
  rw [Q5u (by omega) (by omega)]
  refine ld hs hq ?_ h
  have := Lib.setCells_at [91, 93] b
  rw [← Array.getElem?_toList] at this
  simpa [brk] using this)
theorem Ak {q : Addr} {s : X0} (hs : X6 w σ) (hl : s.length ≤ V9) (hq : J4 σ q (Lib.setCells [91, 93]).toList) (h : K (S (Mk s)) w) : Q1 P F.aj [S s, .pointer (some q)] w K := Of (by
  unfold Yl
  refine V4 ?_
  refine Jk (fun x w' => w' = w ∧ ∃ u : X0, x = S u ∧ u.length ≤ V9 ∧ Mk u = Mk s) (fun x _ => (Px x).length) ⟨rfl, s, rfl, hl, rfl⟩ ?_
  rintro _ d _ ⟨rfl, u, rfl, hul, hu⟩
  have hsu : Px (S u) = u := by simp [Px]
  simp only [hsu]
  refine Q5a X8 ?_
  refine Q79 ?_
  refine Q4 (fun hh => ?_) (fun hh => ?_)
  · have h0 : 0 < u.length := by simpa using hh
    have hb : u.length ≤ 9223372036854775807 := Nat.le_trans hul (by decide)
    refine Q5a X8 ?_
    refine Nl ⟨by omega, by omega⟩ ?_
    have e1 : ((u.length : Int) - 1).toNat = u.length - 1 := by omega
    rw [A0 X8 (by omega) (by omega)]
    simp only [e1]
    have hlast : u.getLast? = some (u[u.length - 1]'(by omega)) := by rw [List.getLast?_eq_getElem?, List.getElem?_eq_getElem]
    have htr := Pg u
    rw [hlast] at htr
    simp only at htr
    refine Ax hs hq ?_
    cases hbr : brk (u[u.length - 1]'(by omega)) with
    | true =>
      rw [hbr] at htr
      simp only [↓Mm, Mm, ↓Mr, Mr, Mb, reduceIte]
      rw [B9 (by omega) (by omega), I0 X8 (by omega) (by omega)]
      simp only [e1]
      refine ⟨⟨trivial, _, rfl, by rw [List.length_take]; omega, ?_⟩, ?_⟩
      · rw [← hu, htr]; simp
      · have : Px (S (u.take (u.length - 1))) = u.take (u.length - 1) := by simp [Px]
        simp only [this, List.length_take]; omega
    | false =>
      rw [hbr] at htr
      simp only [↓Mm, Mm, ↓Mr, Mr, Mb, reduceIte]
      intro _
      rw [← hu, htr] at h
      simpa using h
  · have h0 : ¬ 0 < u.length := by simpa using hh
    have : u = [] := List.eq_nil_of_length_eq_zero (by omega)
    subst this
    intro _
    rw [← hu] at h
    exact h)
theorem Q3k {s : X0} (hs : X6 w σ) (hl : s.length ≤ V9) (h : ∀ w' σ', Stp w σ w' σ' → K (S (Mk s)) w') : Q1 P F.be [S s, S [91, 93]] w K := Fy (by
  unfold Wp
  by_cases hs0 : s = []
  · subst hs0
    (repeat' (first | (with_reducible intro _) | (with_reducible refine V4 ?_) | (simp only [↓Mm, Mm, ↓Mp, Mp, Mb, reduceIte]) | (with_reducible first | refine ld aS aL aR ?_ | refine X7 aS aL aR ?_ | refine Z0 aS aL aR ?_ | refine Q7 aL ?_ | refine Z3 aR ?_ | refine Z8 aS ?_ | refine W5 aS aL ?_ | refine U4 aS aR ?_ | refine Y2 aS aR aR (Rep.one (by assumption)) ?_ | refine U2 aS aR aR aR ?_ | (refine Y1 (fun hh => ?_) (fun hh => ?_) <;> (try simp only [hh, Bool.not_true, Bool.not_false, ↓Mm, Mm, ↓Mp, Mp, Mb, reduceIte])) | (refine Q4 (fun hh => ?_) (fun hh => ?_) <;> (try simp only [hh, Bool.not_true, Bool.not_false, ↓Mm, Mm, ↓Mp, Mp, Mb, reduceIte])))))
    all_goals first | exact h _ _ (by (repeat (first | exact Stp.refl (by (first | assumption | exact Stp.sat (by assumption) | exact Hst.sat (by assumption))) | assumption | refine Stp.trans ?_ (by first | assumption | exact Hst.stp (by assumption))))) | (exfalso; simp_all)
  have d1 : decide (s = []) = false := decide_eq_false hs0
  simp only [d1, show decide (([91, 93] : X0) = []) = false from rfl, show decide ((([91, 93] : X0).length : Int) = 1) = false from rfl, ↓Mm, Mm, ↓Mr, Mr, Mb, reduceIte]
  refine Q3n (L1 hs fun w1 σ1 hk1 => ?_)
  simp only [↓Mm, Mm, ↓Mr, Mr, Mb, reduceIte]
  have hsz : (Lib.setCells [91, 93]).toList.length = 256 := by rw [Array.length_toList]; exact Lib.setCells_size _
  have hone : ∀ u ∈ (Lib.setCells [91, 93]).toList, u.oneCell' = true := by
    have := Lib.setCells_one [91, 93]
    rw [Array.all_eq_true'] at this
    intro u hu; exact this u (by simpa using hu)
  have htr : ∀ {w : World} {σ : Q6} {K : Value → World → Prop} {q : Addr}, X6 w σ → J4 σ q (Lib.setCells [91, 93]).toList → K (S (Mk s)) w → Q1 P F.aj [S s, .pointer (some q)] w K := fun hs hq h => Ak hs hl hq h
  have hta : Lib.setCells [91, 93] = (Lib.setCells [91, 93]).toList.toArray := Array.toArray_toList.symm
  generalize (Lib.setCells [91, 93]).toList = cs at *
  rw [hta]
  refine Y2 hk1.sat (by show (Array.replicate 256 (Value.bool false)).size = 256; exact Array.size_replicate) hsz hone fun q w2 σ2 hk2 hq => ?_
  refine htr hk2.sat hq ?_
  exact h _ _ (hk1.trans hk2))
theorem Hh {s : X0} (hs : X6 w σ) (ht : Tab σ v l) (hl : s.length ≤ V9) (h : ∀ w' σ', Stp w σ w' σ' → K (.bool (kindM l s)) w') : Q1 P F.r [v, S s] w K := Fe (by
  unfold Ws
  unfold kindM at h
  refine Ng ?_
  refine Q4 (fun hh => ?_) (fun hh => ?_)
  · have e : decide (s = B6) = true := hh
    rw [e] at h
    exact h _ _ (Stp.refl hs)
  · have e : decide (s = B6) = false := hh
    rw [e] at h
    refine Q3k hs hl fun w1 σ1 hk1 => ?_
    refine Yy s (Nat.le_trans hl (by decide)) (L1 hk1.sat fun w2 σ2 hk2 => ?_)
    cases hr : right s with
    | false =>
      rw [hr] at h
      (repeat' (first | (with_reducible intro _) | (with_reducible refine V4 ?_) | (simp only [↓Mm, Mm, ↓Mp, Mp, Mb, reduceIte]) | (with_reducible first | refine ld aS aL aR ?_ | refine X7 aS aL aR ?_ | refine Z0 aS aL aR ?_ | refine Q7 aL ?_ | refine Z3 aR ?_ | refine Z8 aS ?_ | refine W5 aS aL ?_ | refine U4 aS aR ?_ | refine Y2 aS aR aR (Rep.one (by assumption)) ?_ | refine U2 aS aR aR aR ?_ | (refine Y1 (fun hh => ?_) (fun hh => ?_) <;> (try simp only [hh, Bool.not_true, Bool.not_false, ↓Mm, Mm, ↓Mp, Mp, Mb, reduceIte])) | (refine Q4 (fun hh => ?_) (fun hh => ?_) <;> (try simp only [hh, Bool.not_true, Bool.not_false, ↓Mm, Mm, ↓Mp, Mp, Mb, reduceIte])))))
      all_goals (refine Eq.subst (motive := fun b => K b _) ?_ (h _ _ (by (repeat (first | exact Stp.refl (by (first | assumption | exact Stp.sat (by assumption) | exact Hst.sat (by assumption))) | assumption | refine Stp.trans ?_ (by first | assumption | exact Hst.stp (by assumption)))))); clear h; (try clear hA); (try clear hB); (try clear hC); first | rfl | ((try simp only [Bool.not_eq_true', Bool.not_eq_false', Bool.not_true, Bool.not_false, Bool.not_eq_true] at *); simp only [*, Mb, reduceIte]; done) | (simp [*]; done) | simp_all)
    | true =>
      rw [hr] at h
      have hr2 : (plain (V2 s).1 || W7 (V2 s).1) = true := by
        simp only [right, Bool.and_eq_true] at hr; exact hr.2
      rw [Q5H hr2]
      (repeat' (first | (with_reducible intro _) | (with_reducible refine V4 ?_) | (simp only [↓Mm, Mm, ↓Mp, Mp, Mb, reduceIte]) | (with_reducible first | refine ld aS aL aR ?_ | refine X7 aS aL aR ?_ | refine Z0 aS aL aR ?_ | refine Q7 aL ?_ | refine Z3 aR ?_ | refine Z8 aS ?_ | refine W5 aS aL ?_ | refine U4 aS aR ?_ | refine Y2 aS aR aR (Rep.one (by assumption)) ?_ | refine U2 aS aR aR aR ?_ | refine Uk _ ?_ | refine Q4X au au ?_ | (refine Y1 (fun hh => ?_) (fun hh => ?_) <;> (try simp only [hh, Bool.not_true, Bool.not_false, ↓Mm, Mm, ↓Mp, Mp, Mb, reduceIte])) | (refine Q4 (fun hh => ?_) (fun hh => ?_) <;> (try simp only [hh, Bool.not_true, Bool.not_false, ↓Mm, Mm, ↓Mp, Mp, Mb, reduceIte])))))
      all_goals (refine Eq.subst (motive := fun b => K b _) ?_ (h _ _ (by (repeat (first | exact Stp.refl (by (first | assumption | exact Stp.sat (by assumption) | exact Hst.sat (by assumption))) | assumption | refine Stp.trans ?_ (by first | assumption | exact Hst.stp (by assumption)))))); clear h; (try clear hA); (try clear hB); (try clear hC); first | rfl | ((try simp only [Bool.not_eq_true', Bool.not_eq_false', Bool.not_true, Bool.not_false, Bool.not_eq_true] at *); simp only [*, Mb, reduceIte]; done) | (simp [*]; done) | simp_all))
theorem Q44 (ok : Ok l) : ∀ (k : Nat) {n : X0} {w : World} {σ : Q6} {K : Value → World → Prop}, (lk l n = none ∨ H9 l n < k) → n.length ≤ V9 → X6 w σ → Tab σ v l → (∀ w' σ', Stp w σ w' σ' → K (S (printM l n)) w') → Q1 P F.ad [v, S n] w K := by
  intro k
  induction k with
  | zero =>
    intro n w σ K hk hl hs ht h
    have hd : lk l n = none := hk.resolve_right (by omega)
    refine Vr ?_
    unfold Qi
    rw [Te hd] at h
    (repeat' (first | (with_reducible intro _) | (with_reducible refine V4 ?_) | (simp only [↓Mm, Mm, ↓Mp, Mp, Mb, reduceIte]) | (with_reducible first | refine ld aS aL aR ?_ | refine X7 aS aL aR ?_ | refine Z0 aS aL aR ?_ | refine Q7 aL ?_ | refine Z3 aR ?_ | refine Z8 aS ?_ | refine W5 aS aL ?_ | refine U4 aS aR ?_ | refine Y2 aS aR aR (Rep.one (by assumption)) ?_ | refine U2 aS aR aR aR ?_ | refine Lx au au au ?_ | (refine Y1 (fun hh => ?_) (fun hh => ?_) <;> (try simp only [hh, Bool.not_true, Bool.not_false, ↓Mm, Mm, ↓Mp, Mp, Mb, reduceIte])) | (refine Q4 (fun hh => ?_) (fun hh => ?_) <;> (try simp only [hh, Bool.not_true, Bool.not_false, ↓Mm, Mm, ↓Mp, Mp, Mb, reduceIte])))))
    all_goals exact h _ _ (by (repeat (first | exact Stp.refl (by (first | assumption | exact Stp.sat (by assumption) | exact Hst.sat (by assumption))) | assumption | refine Stp.trans ?_ (by first | assumption | exact Hst.stp (by assumption)))))
  | succ k ih =>
    intro n w σ K hk hl hs ht h
    refine Vr ?_
    unfold Qi
    cases hd : lk l n with
    | none =>
      rw [Te hd] at h
      (repeat' (first | (with_reducible intro _) | (with_reducible refine V4 ?_) | (simp only [↓Mm, Mm, ↓Mp, Mp, Mb, reduceIte]) | (with_reducible first | refine ld aS aL aR ?_ | refine X7 aS aL aR ?_ | refine Z0 aS aL aR ?_ | refine Q7 aL ?_ | refine Z3 aR ?_ | refine Z8 aS ?_ | refine W5 aS aL ?_ | refine U4 aS aR ?_ | refine Y2 aS aR aR (Rep.one (by assumption)) ?_ | refine U2 aS aR aR aR ?_ | refine Lx au au au ?_ | (refine Y1 (fun hh => ?_) (fun hh => ?_) <;> (try simp only [hh, Bool.not_true, Bool.not_false, ↓Mm, Mm, ↓Mp, Mp, Mb, reduceIte])) | (refine Q4 (fun hh => ?_) (fun hh => ?_) <;> (try simp only [hh, Bool.not_true, Bool.not_false, ↓Mm, Mm, ↓Mp, Mp, Mb, reduceIte])))))
      all_goals exact h _ _ (by (repeat (first | exact Stp.refl (by (first | assumption | exact Stp.sat (by assumption) | exact Hst.sat (by assumption))) | assumption | refine Stp.trans ?_ (by first | assumption | exact Hst.stp (by assumption)))))
    | some c =>
      have hp := Q5E ok.acy n
      rw [hd] at hp
      simp only at hp
      obtain ⟨hcn, hmem, _⟩ := V3 hd
      have hnm := ok.nm c hmem
      have hsm := ok.sm c hmem
      have hlen := Q57 ok c.super
      refine Wa hs ht hd ?_
      simp only [↓Mm, Mm, ↓Mr, Mr, Mb, reduceIte]
      refine Q4 (fun hh => ?_) (fun hh => ?_)
      · have : n = U1 := of_decide_eq_true hh
        rw [if_pos this] at hp
        rw [hp] at h
        exact h _ _ (Stp.refl hs)
      have : ¬ n = U1 := of_decide_eq_false hh
      rw [if_neg this] at hp
      refine G8 hs ht hd fun lv fv mv w1 σ1 hk1 f1 f2 f3 f4 f5 hr => ?_
      refine Y2 hk1.sat (by rfl) rfl (Rep.one hr) fun q w2 σ2 hk2 hq => ?_
      have hn100 : n.length ≤ 100 := by rw [← hcn]; exact hnm.1
      refine P8 (by simp only [List.length_cons, List.length_nil]; omega) ?_
      simp only [fa]
      refine ld hk2.sat hq rfl ?_
      have hk' : lk l c.super = none ∨ H9 l c.super < k := by
        cases hd2 : lk l c.super with
        | none => exact .inl rfl
        | some e =>
          right
          have := F3 ok.acy hd (by simp [U5]) hd2
          rcases hk with hk | hk
          · rw [hk] at hd; cases hd
          · omega
      refine ih hk' f5 hk2.sat (ht.lift ⟨(hk1.trans hk2).le⟩) fun w3 σ3 hk3 => ?_
      refine P8 (by simp only [List.length_append, List.length_cons, List.length_nil]; omega) ?_
      refine P8 (by simp only [List.length_append, List.length_cons, List.length_nil]; omega) ?_
      refine ld hk3.sat (hq.up hk3) rfl ?_
      have f2 := (f2.up hk2).up hk3
      have hS3 := (hk1.trans hk2).trans hk3
      refine Q7 f2 ?_
      refine O4 c.fields.length (fun i a w' => ∃ σ', Stp w σ w' σ' ∧ SLe σ3 σ' ∧ a = S (n ++ [40] ++ printM l c.super ++ [41] ++ (c.fields.take i).flatMap F4)) ⟨σ3, hS3, SLe.refl _, by simp⟩ fun i a w4 d hi hinv => ?_
      obtain ⟨σ4, hS4, le4, rfl⟩ := hinv
      have hfl := Q1C hnm hsm i
      refine U0 ?_
      refine Q4 (fun hh => ?_) (fun hh => ?_)
      · have hi' : i < c.fields.length := by simpa using hh
        have hff := hnm.2.1 _ (List.getElem_mem hi')
        have hmax : c.fields.length ≤ 9223372036854775807 := f2.max
        refine V4 ?_
        refine Q2l (f2.lift le4) hi' fun p hl1 hr1 => ?_
        refine Z0 hS4.sat hl1 rfl ?_
        refine Y2 hS4.sat (by rfl) rfl (Rep.one hr1) fun q5 w5 σ5 hk5 hq5 => ?_
        rw [fa]
        refine ld hk5.sat hq5 rfl ?_
        have e5 : (c.fields.take (i + 1)).flatMap F4 = (c.fields.take i).flatMap F4 ++ F4 c.fields[i] := by
          rw [List.take_add_one, List.getElem?_eq_getElem hi', List.flatMap_append]; simp
        cases htr : c.fields[i].tr with
        | true =>
          simp only [↓Mm, Mm, ↓Mr, Mr, Mb, reduceIte]
          intro _
          refine J0 hmax hi' ⟨σ5, hS4.trans hk5, le4.more ⟨hk5.le⟩, ?_⟩
          rw [e5]; simp [F4, htr]
        | false =>
          simp only [↓Mm, Mm, ↓Mr, Mr, Mb, reduceIte]
          refine ld hk5.sat hq5 rfl ?_
          refine P8 (by simp only [List.length_append, List.length_cons, List.length_nil]; omega) ?_
          refine P8 (by simp only [List.length_append, List.length_cons, List.length_nil]; omega) ?_
          refine ld hk5.sat hq5 rfl ?_
          refine P8 (by simp only [List.length_append, List.length_cons, List.length_nil]; omega) ?_
          refine P8 (by simp only [List.length_append, List.length_cons, List.length_nil]; omega) ?_
          intro _
          (try simp only [↓Mm, Mm, ↓Mr, Mr, Mb, reduceIte])
          refine J0 hmax hi' ⟨σ5, hS4.trans hk5, le4.more ⟨hk5.le⟩, ?_⟩
          rw [e5]; simp [F4, htr]
      · have hi' : ¬ i < c.fields.length := by simpa using hh
        rw [List.take_of_length_le (by omega)] at hfl ⊢
        refine P8 (by simp only [List.length_append, List.length_cons, List.length_nil]; omega) ?_
        rw [hp] at h
        exact h _ _ hS4
end Go.Proofs.YtdnfaboigajkhaaGreatDoor

namespace Go.Emb
open Go.RowKit Go.Hm
variable {P : Program} {w w0 w1 w' w'' : World} {K : Value → World → Prop} {σ σ0 σ1 σ' : Q6}
theorem Q1i (m : List (List UInt8 × Value)) (k n : List UInt8) (v : Value) : E5 (Jn m k v) n = if k = n then some v else E5 m n := by
  induction m with
  | nil => simp [Jn, E5]
  | cons p r ih =>
    simp only [Jn]
    by_cases h : p.1 = k
    · rw [if_pos h]
      simp only [E5]
      by_cases h2 : k = n
      · simp [h2]
      · rw [if_neg h2, if_neg h2, if_neg (by rw [h]; exact h2)]
    · rw [if_neg h]
      simp only [E5]
      by_cases h2 : p.1 = n
      · rw [if_pos h2, if_pos h2, if_neg (by intro e; exact h (h2.trans e.symm))]
      · rw [if_neg h2, if_neg h2]; exact ih
theorem L5.shift {B sz : Nat} {e : TypeId} {v : Value} {xs : List (List UInt8)} (h : L5 B e sz U9 σ w v xs) (hk : ∀ k, v.ownBlock = some k → σ' k = none) : L5 B e sz U9 σ' w v xs := by
  obtain ⟨a, cap, rfl, h1, h2, hsp, h3⟩ := h
  refine ⟨a, cap, rfl, h1, h2, fun b hb => ⟨(hsp b hb).1, (hsp b hb).2.1, (hsp b hb).2.2.1, hk _ (by subst hb; rfl)⟩, fun hc => ?_⟩
  obtain ⟨g, off, cur, rfl, q1, q2, q3, q4, q5⟩ := h3 hc
  exact ⟨g, off, cur, rfl, q1, hk g rfl, q3, q4, q5⟩
theorem Kpt.sat {D : Nat → Prop} (hs : X6 w σ) (hk : Kpt D w w') (hd : ∀ k, D k → σ k = none) : X6 w' σ := fun b o e => by
  rw [hk.block b (hs.lt e) fun h => by rw [hd b h] at e; cases e]; exact hs b o e
theorem Nxt.kpt {D D' : Nat → Prop} (h : Nxt D w σ w' σ') (hk : Kpt D' w' w'') (hd : ∀ k, D' k → D k) (hn : ∀ k, D' k → σ' k = none) : Nxt D w σ w'' σ' :=
  ⟨h.kp.trans (hk.mono fun k _ h => hd k h), h.le, h.old, hk.sat h.sat hn⟩
theorem Q8K {t ty : TypeId} {e : TypeId} {by_ : Nat} {z : Value} {cs : List Bool} [ts : TS P t e] [tz : TZ P e 1 by_ z] {B : Nat} {wr : World} {σr σ' : Q6} {x' u : Value} {xs : List (List UInt8)} {s : List UInt8}
    (hr : L5 B e 1 U9 σr wr x' xs) (hB : B ≤ wr.heap.size) (h1 : L5 B e 1 U9 σr w1 x' xs) (hn : Nxt (fun k => x'.ownBlock = some k) wr σr w1 σ') (hu : Sl 1 U9 σ' u [s]) (hz : (z.cells.size == 1 && decide (0 < 1)) = true)
    (hb : (xs.length + 1) * by_ ≤ 140737488355328) (hm : xs.length + 1 ≤ 1000000000000) :
    X5 P .append [t, t] ty cs [x', u] w1 (dk (Ht B e 1 U9 σr x' xs s) (VQa wr.heap.size B e 1 U9 σr x' xs s) w1) := by
  have hown : ∀ k, x'.ownBlock = some k → σ' k = none := fun k hk => (hn.old k (hr.mem hk).2.1).trans (hr.mem hk).2.2
  refine Q6Y hn.sat (Nat.le_trans hB hn.kp.size) (h1.shift hown) hu hz (by simpa using hb) (by simpa using hm) fun v' w2 hk2 hs2 ha2 hat => ?_
  have ha2' : L5 B e 1 U9 σr w2 v' (xs ++ [s]) := ha2.shift fun k hk => by
    have := (ha2.mem hk).2.2
    cases hh : σr k with
    | none => rfl
    | some o => rw [hn.le.le _ _ hh] at this; cases this
  refine ⟨⟨hk2.mono fun k _ h => h.1, fun h => ?_, fun a cap he h => ?_⟩, ha2', ?_⟩
  · rcases hat with ⟨a, cap, e1, e2⟩ | ⟨hb, _⟩
    · rw [e2] at ha2'; rw [e1]; exact ha2'.pre rfl
    · exact h.below hb
  · rcases hat with ⟨a', cap', e1, e2⟩ | ⟨hb, _⟩
    · rw [e1] at he; injection he with q1 q2 q3
      subst q1 q3
      rw [e2] at ha2'; exact ha2'
    · exact h.below hb
  · rcases hat with ⟨a, cap, e1, e2⟩ | ⟨hb, h2⟩
    · exact .inl ⟨a, cap, e1, e2⟩
    · exact .inr ⟨fun k hk => Nat.le_trans hn.kp.size (h2 k hk), fun k hk => (hr.mem hk).2.1⟩
end Go.Emb
namespace Go.Hm
open Go.Kd
def Ux (l : List Cla) (n : X0) : List Cla := (visits l n).filterMap (lk l)
theorem Q3G {l : List Cla} (h : ∀ c ∈ l, K2 c) (seen : List X0) : weigh l seen ≤ l.length * 1000001 := by
  unfold weigh
  induction l with
  | nil => simp
  | cons c r ih =>
    have h1 := ih fun c hc => h c (by simp [hc])
    have h2 := (h c (by simp)).1
    simp only [List.map_cons, List.sum_cons, List.length_cons, Nat.add_mul]
    have hu : (U5 c).length = c.like.length + 1 := rfl
    split <;> omega
end Go.Hm
namespace Go.Proofs.YtdnfaboigajkhaaGreatDoor
open Go.Emb Go.RowKit Go.Kd Go.Hm
variable {w : World} {K : Value → World → Prop} {σ : Q6} {v : Value} {l : List Cla}
theorem Q3R {β : Type} {n : X0} {f : Value} (stp : β → Cla → Bool × β) (s0 : β) (Inv : β → World → Prop) (D : Nat → Prop) (hs : X6 w σ) (ht : Tab σ v l) (hl : l.length ≤ 100000) (hsm : ∀ c ∈ l, K2 c) (hn : n.length ≤ V9)
    (hD : ∀ k, D k → k < w.heap.size ∧ σ k = none) (hst : ∀ s w1 w2, Inv s w1 → (∀ k, D k → w2.heap[k]? = w1.heap[k]?) → Inv s w2) (h0 : Inv s0 w)
    (hf : ∀ s c cs (w1 : World) (σ1 : Q6) (K : Value → World → Prop), SLe σ σ1 → X6 w1 σ1 → (∀ k, D k → σ1 k = none) → Inv s w1 → V0 σ1 c cs → lk l c.name = some c → (∀ w', Kpt D w1 w' → Inv (stp s c).2 w' → K (.bool (stp s c).1) w') → Z4 P f [.agg cs.toArray] w1 K)
    (h : ∀ w' σ', Nxt D w σ w' σ' → Inv (U6 stp s0 (Ux l n) 0).2 w' → K (.bool (U6 stp s0 (Ux l n) 0).1.isSome) w') : Q1 P F.v [v, S n, f] w K := Cv (by
  unfold Vk
  refine Qq (R := U9) (sz := 1) (xs := [n]) (Stp.refl hs) [S n] rfl rfl (by simp; rfl) rfl ⟨⟨rfl, hn⟩, trivial⟩ fun x0 w1 hk1 ha1 _ => ?_
  refine Q0o hk1.sat fun r w2 hr hk2 hm2 => ?_
  have ha2 := L5.of_acc (ha1.up hk2)
  have hS2 := hk1.trans hk2
  have hrw : w.heap.size ≤ r := Nat.le_trans hk1.bel.size hr
  have hwb : ∀ seen, weigh l seen ≤ 100001000000 := fun seen => by
    have := Q3G hsm seen
    have h2 : l.length * 1000001 ≤ 100000 * 1000001 := Nat.mul_le_mul_right _ hl
    omega
  refine Dq (fun d x w1 => ∃ (todo seen : List X0) (s : β) (σ1 : Q6) (m : List (X0 × Value)), d = todo.length + weigh l seen ∧ d ≤ 1 + weigh l [] ∧ Nxt D w σ w1 σ1 ∧ L5 w.heap.size T.b 1 U9 σ1 w1 x todo ∧ N1 σ1 w1 r m ∧ (∀ k, (E5 m k).isSome = decide (k ∈ seen)) ∧ x.ownBlock ≠ some r ∧ Inv s w1 ∧
      visits l n = Zh (lk l) d todo seen ∧ (∃ i, U6 stp s0 (Ux l n) 0 = U6 stp s (((visits l n).drop seen.length).filterMap (lk l)) i)) (1 + weigh l []) ?_ ?_
  · refine ⟨[n], [], s0, σ, [], by simp, Nat.le_refl _, Nxt.of_stp hS2, ha2, hm2, by simp [E5], ?_, hst _ _ _ h0 fun k hk => hS2.bel.block k (hD k hk).1, rfl, 0, by simp [Ux]⟩
    intro e
    have := ha1.mem r e
    omega
  rintro again d x dd w3 ⟨todo, seen, s, σ3, m, hd, hd0, hn3, ha3, hm3, hseen, hxr, hi3, hv, i, hsc⟩ hag
  have hwb0 := hwb []
  have hs3 := hn3.sat
  obtain ⟨pre, hpre⟩ := Pc (lk l) d todo seen
  rw [← hv] at hpre
  have hdrop : (visits l n).drop seen.length = pre := by rw [hpre]; simp
  rw [hdrop] at hsc
  refine Q1F ha3 ?_
  refine Q79 ?_
  cases htodo : todo with
  | nil =>
    subst htodo
    refine Q4 (fun hh => absurd (of_decide_eq_true hh) (by simp)) (fun _ => ?_)
    have : visits l n = seen := by rw [hv]; cases d <;> rfl
    have hp : pre = [] := by rw [this] at hpre; simpa using hpre
    rw [hp] at hsc
    rw [hsc] at h
    exact h _ _ hn3 hi3
  | cons t rest =>
    subst htodo
    refine Q4 (fun _ => ?_) (fun hh => absurd (of_decide_eq_false hh) (by simp))
    simp only [List.length_cons] at hd
    refine Q2g (n := 0) ha3 (by simp) fun a cs h1 h2 h3 => ?_
    obtain ⟨rfl, htb⟩ := h3
    simp only [List.getElem_cons_zero] at h1 htb
    have hcell := h1 0 _ rfl
    rw [add_zero] at hcell
    refine T8 hcell ?_
    refine Q9b ha3 1 (by simp) fun x' ha3' hown => ?_
    simp only [List.drop_succ_cons, List.drop_zero] at ha3'
    have hxr' : x'.ownBlock ≠ some r := by
      rcases hown with e | e <;> rw [e]
      · exact hxr
      · simp
    rw [Ac X8 hm3.2 t]
    have hd' : d = (rest.length + weigh l seen) + 1 := by omega
    have hv2 := hv
    rw [hd'] at hv2
    simp only [Zh] at hv2
    have skip : (lk l t = none ∨ t ∈ seen) → visits l n = Zh (lk l) (rest.length + weigh l seen) rest seen := by
      rintro (e | e)
      · rw [e] at hv2; exact hv2
      · cases e2 : lk l t with
        | none => rw [e2] at hv2; exact hv2
        | some c => rw [e2] at hv2; simp only [if_pos e] at hv2; exact hv2
    have hskip : (lk l t = none ∨ t ∈ seen) → again x' w3 := fun hsk =>
      hag (rest.length + weigh l seen) x' w3 (by omega) ⟨rest, seen, s, σ3, m, rfl, by omega, hn3, ha3', hm3, hseen, hxr', hi3, skip hsk, i, by rw [hdrop]; exact hsc⟩
    have ht3 := ht.lift hn3.le
    have hsk0 := hseen t
    cases hlm : E5 m t with
    | some u =>
      rw [hlm] at hsk0
      have hin : t ∈ seen := by simpa using hsk0
      simp only [↓Mm, Mm, ↓Mp, Mp, Mb, reduceIte]
      exact hskip (.inr hin)
    | none =>
      rw [hlm] at hsk0
      have hin : t ∉ seen := by simpa using hsk0
      simp only [↓Mm, Mm, ↓Mp, Mp, Mb, reduceIte]
      cases hlt : lk l t with
      | none =>
        refine Lx hs3 ht3 hlt ?_
        simp only [↓Mm, Mm, ↓Mp, Mp, Mb, reduceIte]
        exact hskip (.inl hlt)
      | some c =>
        obtain ⟨hcn, hcm, _⟩ := V3 hlt
        refine Wa hs3 ht3 hlt ?_
        simp only [↓Mm, Mm, ↓Mp, Mp, Mb, reduceIte]
        refine Cn X8 hm3 t (I 1) fun w4 hu4 hm4 => ?_
        have hk4 : Kpt (fun k => k = r) w3 w4 := Kpt.of_upd hu4 rfl
        have hs4 : X6 w4 σ3 := hk4.sat hs3 fun k hk => by rw [hk]; exact hm3.1
        have ha4 := ha3'.kp hk4 fun k hk e => hxr' (e ▸ hk)
        have hi4 := hst _ _ _ hi3 fun k hk => hu4.block k (by have := (hD k hk).1; omega)
        have hrl : r < w3.heap.size := hm3.lt
        refine G8 hs4 ht3 hlt fun lv fv mv w5 σ5 hk5 f1 f2 f3 f4 f5 hr5 => ?_
        refine Y2 hk5.sat (by rfl) rfl (Rep.one hr5) fun q w6 σ6 hk6 hq6 => ?_
        refine Z0 hk6.sat hq6 rfl ?_
        have hk46 := hk5.trans hk6
        have hD4 : ∀ k, D k → k < w4.heap.size := fun k hk => by
          have h1 := (hD k hk).1
          have h2 := hn3.kp.size
          have h3 := hk4.size
          omega
        have hi6 := hst _ _ _ hi4 fun k hk => hk46.bel.block k (hD4 k hk)
        have le6 : SLe σ σ6 := hn3.le.more ⟨hk46.le⟩
        have hD6 : ∀ k, D k → σ6 k = none := fun k hk => by
          rw [hk46.old k (hD4 k hk), hn3.old k (hD k hk).1]; exact (hD k hk).2
        refine hf s c _ w6 σ6 _ le6 hk6.sat hD6 hi6 (R2 hr5 ⟨hk6.le⟩) (by rw [hcn]; exact hlt) fun w7 hk7 hi7 => ?_
        have hs7 : X6 w7 σ6 := hk7.sat hk6.sat hD6
        have hn7 : Nxt D w σ w7 σ6 := ⟨((hn3.kp.more hk4 fun j e => by rw [e]; exact hrw).trans (Kpt.of_below hk46.bel)).trans hk7, le6, fun k hk => by
          rw [hk46.old k (by have := hn3.kp.size; have := hk4.size; omega)]; exact hn3.old k hk, hs7⟩
        have hlow : ∀ k, w.heap.size ≤ k → ¬ D k := fun k hk e => by have := (hD k e).1; omega
        have ha7 := (ha4.up hk46).kp hk7 fun k hk => hlow k ((ha4.mem hk).1)
        have hm7 := (hm4.up hk46).kp hk7 (hlow r hrw)
        have hlm7 : ∀ k, (E5 (Jn m t (I 1)) k).isSome = decide (k ∈ seen ++ [t]) := fun k => by
          rw [Q1i]
          by_cases e : t = k
          · subst e; simp
          · rw [if_neg e, hseen k]; simp [Ne.symm e]
        rw [hlt] at hv2
        simp only [if_neg hin] at hv2
        obtain ⟨pre', hpre'⟩ := Pc (lk l) (rest.length + weigh l seen) (rest ++ U5 c) (seen ++ [t])
        have hpt : pre = t :: pre' := by
          have := hpre.symm.trans (hv2.trans hpre')
          simpa using this
        rw [hpt] at hsc
        simp only [List.filterMap_cons, hlt, U6] at hsc
        cases hb : (stp s c).1 with
        | true =>
          rw [hb] at hsc
          simp only [if_true] at hsc
          refine F9 ?_
          have := h w7 σ6 hn7
          rw [hsc] at this
          exact this hi7
        | false =>
          rw [hb] at hsc
          simp only [Bool.false_eq_true, if_false] at hsc
          refine K1 ?_
          have hsz7 : w.heap.size ≤ w7.heap.size := hn7.kp.size
          have hown7 : ∀ k, x'.ownBlock = some k → σ6 k = none := fun k hk => (ha7.mem hk).2.2
          have hw := Sk l seen c hcm (by rw [hcn]; exact hin)
          rw [hcn] at hw
          have hwl := hwb seen
          have hrest : rest.length ≤ 100001000001 := by omega
          have hlike := (hsm c hcm).1
          have hlt7 := hm7.lt
          refine Q05 (Ht w.heap.size T.b 1 U9 σ6 x' rest c.super) (fun w1 => Kpt (fun k => x'.ownBlock = some k) w7 w1 ∧ X6 w1 σ6 ∧ L5 w.heap.size T.b 1 U9 σ6 w1 x' rest)
            ⟨.of_below (Below.refl _ _).drew, hs7.below (Below.refl _ _).drew, ha7.below (Below.refl _ _).drew⟩ (fun w1 w2 hb ht => ⟨hb.1.trans ht.1, ht.1.sat hb.2.1 hown7, ht.2.1 hb.2.2⟩) ?_
          refine X2 (.pointer (some (q.add 1))) (fun w hb => by rw [fa]; exact ⟨Ht.refl, rfl⟩) ?_
          refine X2 (.pointer (some (q.add 2))) (fun w hb => by rw [fa]; exact ⟨Ht.refl, rfl⟩) ?_
          refine X2 (S c.super) (fun t w hb e => by rw [e]; exact ld hb.2.1 hq6 rfl ⟨Ht.refl, rfl⟩) ?_
          refine N9 (fun u w1 => ∃ σ', Nxt (fun k => x'.ownBlock = some k) w7 σ6 w1 σ' ∧ Sl 1 U9 σ' u [c.super]) (fun u w1 w2 e ht => by obtain ⟨σ', h1, h2⟩ := e; exact ⟨σ', h1.kpt ht.1 (fun _ hk => hk) (fun k hk => (h1.old k (ha7.mem hk).2.1).trans (hown7 k hk)), h2⟩) (fun t w1 hb e => ?_) ?_
          · rw [e]
            refine Mw (R := U9) (sz := 1) hb.2.1 [S c.super] [c.super] rfl rfl (by simp; rfl) rfl ⟨⟨rfl, f5⟩, trivial⟩ fun u w2 σ2 hk2 hu => ?_
            have hn0 : Nxt (fun k => x'.ownBlock = some k) w7 σ6 w1 σ6 := ⟨hb.1, SLe.refl _, fun _ _ => rfl, hb.2.1⟩
            exact ⟨Ht.below hk2.bel, σ2, hn0.trans (Nxt.of_stp hk2), hu⟩
          refine N9 (VQa w7.heap.size w.heap.size T.b 1 U9 σ6 x' rest c.super) (fun _ _ _ h1 ht => h1.stable ht) (fun u w1 hb e => ?_) ?_
          · obtain ⟨σ', h1, h2⟩ := e
            exact Q8K ha7 hsz7 hb.2.2 h1 h2 rfl (by omega) (by omega)
          refine X2 lv (fun t w hb e => by rw [e]; exact ld hb.2.1 hq6 rfl ⟨Ht.refl, rfl⟩) ?_
          rintro t46 t50 t47 t48 t49 t51 w8 hb8 _ _ _ _ ⟨ha8, hat8⟩ rfl
          have hr8 : t49.ownBlock ≠ some r := by
            rcases hat8 with ⟨a, cap, e1, e2⟩ | ⟨e1, _⟩
            · rw [e2]; rw [e1] at hxr'; cases a <;> exact hxr'
            · intro e; have := e1 r e; omega
          refine Q6Y hb8.2.1 (Nat.le_trans hsz7 hb8.1.size) ha8 (f1.up hk6) rfl (by rw [List.length_append, List.length_cons, List.length_nil]; omega) (by rw [List.length_append, List.length_cons, List.length_nil]; omega) fun x'' w9 hk9 hs9 ha9 hat9 => ?_
          have hx9 : x''.ownBlock ≠ some r := by
            rcases hat9 with ⟨a, cap, e1, e2⟩ | ⟨_, e1⟩
            · rw [e2]; rw [e1] at hr8; cases a <;> exact hr8
            · intro e; have := e1 r e; have := hb8.1.size; omega
          have hn9 : Nxt D w σ w9 σ6 := ⟨(hn7.kp.more hb8.1 fun j e => (ha7.mem e).1).more hk9 fun j e => e.2.1, le6, hn7.old, hs9⟩
          have hm9 := (hm7.kp hb8.1 hxr').kp hk9 fun e => hr8 e.1
          have hi9 := hst _ w7 w9 hi7 fun k hk => by
            have h1 := (hD k hk).1
            rw [hk9.block k (by have := hb8.1.size; omega) fun e => by have := e.2.1; omega, hb8.1.block k (by omega) fun e => by have := (ha7.mem e).1; omega]
          have eul : (rest ++ U5 c).length = rest.length + 1 + c.like.length := by simp [U5]; omega
          have eul2 : (U5 c).length = c.like.length + 1 := rfl
          have hfull : Zh (lk l) (rest.length + weigh l seen) (rest ++ U5 c) (seen ++ [t]) = Zh (lk l) ((rest ++ U5 c).length + weigh l (seen ++ [t])) (rest ++ U5 c) (seen ++ [t]) := by
            have := Q6n l ((rest ++ U5 c).length + weigh l (seen ++ [t])) (rest ++ U5 c) (seen ++ [t]) (Nat.le_refl _) (rest.length + weigh l seen - ((rest ++ U5 c).length + weigh l (seen ++ [t])))
            rw [← this]; congr 1; omega
          refine hag ((rest ++ U5 c).length + weigh l (seen ++ [t])) x'' w9 (by omega) ⟨rest ++ U5 c, seen ++ [t], (stp s c).2, σ6, _, rfl, by omega, hn9, ?_, hm9, hlm7, hx9, hi9, hv2.trans hfull, i + 1, ?_⟩
          · have : rest ++ U5 c = (rest ++ [c.super]) ++ c.like := by simp [U5]
            rw [this]; exact ha9
          · rw [hsc, hpre, hpt]; simp)
end Go.Proofs.YtdnfaboigajkhaaGreatDoor

namespace Go.Emb
open Go.RowKit Go.Hm
theorem Nxt.stp {w w' : World} {σ σ' : Q6} (h : Nxt (fun _ => False) w σ w' σ') : Stp w σ w' σ' := ⟨h.kp.below fun _ => id, h.sat, h.le.le, h.old⟩
end Go.Emb
namespace Go.Hm
open Go.Kd Go.Emb
theorem Q1g {α : Type} (p : α → Bool) : ∀ (xs : List α) (i : Nat), (U6 (fun (_ : Unit) x => (p x, ())) () xs i).1.isSome = xs.any p
  | [], _ => rfl
  | x :: r, i => by
    simp only [U6, List.any_cons]
    cases p x with
    | true => simp
    | false => simpa using Q1g p r (i + 1)
theorem Q1R {l : List Cla} (n b : X0) : ((Ux l n).any fun c => decide (c.name = b)) = (visits l n).contains b := by
  have key : ∀ vs : List X0, (∀ x ∈ vs, ∃ c, lk l x = some c) → ((vs.filterMap (lk l)).any fun c => decide (c.name = b)) = vs.contains b := by
    intro vs
    induction vs with
    | nil => intro _; rfl
    | cons x r ih =>
      intro h
      obtain ⟨c, hc⟩ := h x (by simp)
      rw [List.filterMap_cons, hc]
      simp only [List.any_cons, List.contains_cons]
      rw [ih fun y hy => h y (by simp [hy]), (V3 hc).1]
      congr 1
      rw [Bool.eq_iff_iff, beq_iff_eq, decide_eq_true_eq]; exact ⟨Eq.symm, Eq.symm⟩
  exact key _ fun x hx => (Zc.1 hx).right
end Go.Hm
namespace Go.Proofs.YtdnfaboigajkhaaGreatDoor
open Go.Emb Go.RowKit Go.Kd Go.Hm
variable {w : World} {K : Value → World → Prop} {σ : Q6} {v : Value} {l : List Cla}
theorem Q3X {n : X0} {f : Value} (p : Cla → Bool) (hs : X6 w σ) (ht : Tab σ v l) (hl : l.length ≤ 100000) (hsm : ∀ c ∈ l, K2 c) (hn : n.length ≤ V9)
    (hf : ∀ c cs (w1 : World) (σ1 : Q6) (K : Value → World → Prop), SLe σ σ1 → X6 w1 σ1 → V0 σ1 c cs → (∀ w' σ', Stp w1 σ1 w' σ' → K (.bool (p c)) w') → Z4 P f [.agg cs.toArray] w1 K)
    (h : ∀ w' σ', Stp w σ w' σ' → K (.bool ((Ux l n).any p)) w') : Q1 P F.v [v, S n, f] w K := by
  refine Q3R (fun (_ : Unit) c => (p c, ())) () (fun _ _ => True) (fun _ => False) hs ht hl hsm hn (fun _ e => e.elim) (fun _ _ _ _ _ => trivial) trivial (fun s c cs w1 σ1 K le hs1 _ _ hr _ hK => hf c cs w1 σ1 K le hs1 hr fun w' σ' hk => hK w' (.of_below hk.bel) trivial) fun w' σ' hn _ => ?_
  rw [Q1g]
  exact h w' σ' hn.stp
theorem Q6N {n b : X0} {q : Addr} (hs : X6 w σ) (ht : Tab σ v l) (ok : Ok l) (hn : n.length ≤ V9) (hq : J4 σ q [S b]) (h : ∀ w' σ', Stp w σ w' σ' → K (.bool ((visits l n).contains b)) w') :
    Q1 P F.v [v, S n, .func (.func F.b4) #[] #[.pointer (some q)]] w K := by
  refine Q3X (fun c => decide (c.name = b)) hs ht ok.len ok.sm hn (fun c cs w1 σ1 K le hs1 hr hK => Z9 (Ca ?_)) (by rw [Q1R]; exact h)
  obtain ⟨lv, fv, mv, rfl, _⟩ := hr
  unfold Uv
  have hq1 := hq.lift le
  refine Z8 hs1 fun a w2 σ2 hk2 ha2 => ?_
  (repeat' (first | (with_reducible intro _) | (with_reducible refine V4 ?_) | (simp only [↓Mm, Mm, ↓Mp, Mp, Mb, reduceIte]) | (with_reducible first | refine ld aS aL aR ?_ | refine X7 aS aL aR ?_ | refine Z0 aS aL aR ?_ | refine Q7 aL ?_ | refine Z3 aR ?_ | refine Z8 aS ?_ | refine W5 aS aL ?_ | refine U4 aS aR ?_ | refine Y2 aS aR aR (Rep.one (by assumption)) ?_ | refine U2 aS aR aR aR ?_ | (refine Y1 (fun hh => ?_) (fun hh => ?_) <;> (try simp only [hh, Bool.not_true, Bool.not_false, ↓Mm, Mm, ↓Mp, Mp, Mb, reduceIte])) | (refine Q4 (fun hh => ?_) (fun hh => ?_) <;> (try simp only [hh, Bool.not_true, Bool.not_false, ↓Mm, Mm, ↓Mp, Mp, Mb, reduceIte])))))
  exact hK _ _ hk2
theorem Q0l {a b : X0} (hs : X6 w σ) (ht : Tab σ v l) (ok : Ok l) (ha : a.length ≤ V9) (hb : b.length ≤ V9) (h : ∀ w' σ', Stp w σ w' σ' → K (.bool (subM l a b)) w') : Q1 P F.a1 [v, S a, S b] w K := Ga (by
  unfold Ly
  unfold subM at h
  refine U4 hs rfl fun q w1 σ1 hk1 hq => ?_
  refine Hh hk1.sat (ht.lift ⟨hk1.le⟩) ha fun w2 σ2 hk2 => ?_
  have hS2 := hk1.trans hk2
  cases e1 : kindM l a with
  | false =>
    simp only [e1, ↓Mm, Mm, ↓Mp, Mp, Mb, reduceIte, Bool.not_false, Bool.true_or, if_true] at h ⊢
    exact h _ _ hS2
  | true =>
    simp only [e1, ↓Mm, Mm, ↓Mp, Mp, Mb, reduceIte, Bool.not_true, Bool.false_or] at h ⊢
    refine X7 hk2.sat (hq.up hk2) rfl ?_
    refine Hh hk2.sat (ht.lift ⟨hS2.le⟩) hb fun w3 σ3 hk3 => ?_
    have hS3 := hS2.trans hk3
    cases e2 : kindM l b with
    | false =>
      simp only [e2, ↓Mm, Mm, ↓Mp, Mp, Mb, reduceIte, Bool.not_false, if_true] at h ⊢
      exact h _ _ hS3
    | true =>
      simp only [e2, ↓Mm, Mm, ↓Mp, Mp, Mb, reduceIte, Bool.not_true, Bool.false_eq_true, if_false] at h ⊢
      have hq3 := (hq.up hk2).up hk3
      refine X7 hk3.sat hq3 rfl ?_
      refine Ng ?_
      by_cases hab : a = b
      · rw [if_pos hab] at h
        simp only [decide_eq_true hab, ↓Mm, Mm, ↓Mp, Mp, Mb, reduceIte]
        exact h _ _ hS3
      rw [if_neg hab] at h
      simp only [decide_eq_false hab, ↓Mm, Mm, ↓Mp, Mp, Mb, reduceIte]
      refine Uk a ?_
      cases e3 : plain a with
      | true =>
        simp only [e3, ↓Mm, Mm, ↓Mp, Mp, Mb, reduceIte, Bool.true_or, if_true] at h ⊢
        exact h _ _ hS3
      | false =>
        simp only [e3, ↓Mm, Mm, ↓Mp, Mp, Mb, reduceIte, Bool.false_or] at h ⊢
        refine X7 hk3.sat hq3 rfl ?_
        refine Uk b ?_
        cases e4 : plain b with
        | true =>
          simp only [e4, ↓Mm, Mm, ↓Mp, Mp, Mb, reduceIte, if_true] at h ⊢
          exact h _ _ hS3
        | false =>
          simp only [e4, ↓Mm, Mm, ↓Mp, Mp, Mb, reduceIte, Bool.false_eq_true, if_false] at h ⊢
          by_cases hn : a = B6
          · rw [if_pos hn] at h
            have e5 : decide (a = [110, 117, 108, 108]) = true := decide_eq_true hn
            simp only [e5, ↓Mm, Mm, ↓Mp, Mp, Mb, reduceIte]
            exact h _ _ hS3
          rw [if_neg hn] at h
          have e5 : decide (a = [110, 117, 108, 108]) = false := decide_eq_false hn
          simp only [e5, ↓Mm, Mm, ↓Mp, Mp, Mb, reduceIte]
          refine Q8F a (Nat.le_trans ha (by decide)) (L1 hk3.sat fun w4 σ4 hk4 => ?_)
          have hS4 := hS3.trans hk4
          have hq4 := hq3.up hk4
          refine Ek ?_
          by_cases he : Jr a = []
          · rw [if_neg (by simpa using he)] at h
            simp only [decide_eq_true he, ↓Mm, Mm, ↓Mp, Mp, Mb, reduceIte]
            exact Q6N hk4.sat (ht.lift ⟨hS4.le⟩) ok ha hq4 fun w5 σ5 hk5 => h _ _ (hS4.trans hk5)
          · rw [if_pos he] at h
            simp only [decide_eq_false he, ↓Mm, Mm, ↓Mp, Mp, Mb, reduceIte]
            refine X7 hk4.sat hq4 rfl ?_
            refine Ng ?_
            exact h _ _ hS4)
theorem Q08 {a b : X0} (hs : X6 w σ) (ht : Tab σ v l) (ok : Ok l) (ha : a.length ≤ V9) (hb : b.length ≤ V9) (h : ∀ w' σ', Stp w σ w' σ' → K (S (Cz l a b)) w') : Q1 P F.a6 [v, S a, S b] w K := Fm (by
  unfold La
  unfold Cz at h
  refine Q0l hs ht ok ha hb fun w1 σ1 hk1 => ?_
  cases e1 : subM l a b with
  | true =>
    simp only [e1, ↓Mm, Mm, ↓Mp, Mp, Mb, reduceIte, if_true] at h ⊢
    exact h _ _ hk1
  | false =>
    simp only [e1, ↓Mm, Mm, ↓Mp, Mp, Mb, reduceIte, Bool.false_eq_true, if_false] at h ⊢
    refine Q0l hk1.sat (ht.lift ⟨hk1.le⟩) ok hb ha fun w2 σ2 hk2 => ?_
    have hS2 := hk1.trans hk2
    cases e2 : subM l b a with
    | true =>
      simp only [e2, ↓Mm, Mm, ↓Mp, Mp, Mb, reduceIte, if_true] at h ⊢
      exact h _ _ hS2
    | false =>
      simp only [e2, ↓Mm, Mm, ↓Mp, Mp, Mb, reduceIte, Bool.false_eq_true, if_false] at h ⊢
      refine Hh hk2.sat (ht.lift ⟨hS2.le⟩) ha fun w3 σ3 hk3 => ?_
      have hS3 := hS2.trans hk3
      cases e3 : kindM l a with
      | false =>
        simp only [e3, ↓Mm, Mm, ↓Mp, Mp, Mb, reduceIte, Bool.not_false, Bool.true_or, if_true] at h ⊢
        exact h _ _ hS3
      | true =>
        simp only [e3, ↓Mm, Mm, ↓Mp, Mp, Mb, reduceIte, Bool.not_true, Bool.false_or] at h ⊢
        refine Hh hk3.sat (ht.lift ⟨hS3.le⟩) hb fun w4 σ4 hk4 => ?_
        have hS4 := hS3.trans hk4
        cases e4 : kindM l b with
        | false =>
          simp only [e4, ↓Mm, Mm, ↓Mp, Mp, Mb, reduceIte, Bool.not_false, Bool.true_or, if_true] at h ⊢
          exact h _ _ hS4
        | true =>
          simp only [e4, ↓Mm, Mm, ↓Mp, Mp, Mb, reduceIte, Bool.not_true, Bool.false_or] at h ⊢
          refine Uk a ?_
          cases e5 : plain a with
          | true =>
            simp only [e5, ↓Mm, Mm, ↓Mp, Mp, Mb, reduceIte, Bool.true_or, if_true] at h ⊢
            exact h _ _ hS4
          | false =>
            simp only [e5, ↓Mm, Mm, ↓Mp, Mp, Mb, reduceIte, Bool.false_or] at h ⊢
            refine Uk b ?_
            cases e6 : plain b with
            | true =>
              simp only [e6, ↓Mm, Mm, ↓Mp, Mp, Mb, reduceIte, if_true] at h ⊢
              exact h _ _ hS4
            | false =>
              simp only [e6, ↓Mm, Mm, ↓Mp, Mp, Mb, reduceIte, Bool.false_eq_true, if_false] at h ⊢
              refine Dq (fun d x w' => ∃ (s : X0) (σ' : Q6), x = S s ∧ s.length ≤ V9 ∧ Stp w σ w' σ' ∧ d = (chain l s).length ∧ (chain l a).find? (fun c => subM l b c.name) = (chain l s).find? fun c => subM l b c.name) _ ⟨a, σ4, rfl, ha, hS4, rfl, rfl⟩ ?_
              rintro again d x dd w5 ⟨s, σ5, rfl, hsl, hS5, rfl, hfs⟩ hag
              have ht5 := ht.lift ⟨hS5.le⟩
              cases hd : lk l s with
              | none =>
                refine Lx hS5.sat ht5 hd ?_
                refine K1 ?_
                rw [I3 hd] at hfs
                rw [hfs] at h
                exact h _ _ hS5
              | some c =>
                have hcn := (V3 hd).1
                have hch := C9 ok.acy s
                rw [hd] at hch
                simp only at hch
                rw [hch, List.find?_cons, hcn] at hfs
                refine Wa hS5.sat ht5 hd ?_
                refine F9 ?_
                refine Q0l hS5.sat ht5 ok hb hsl fun w6 σ6 hk6 => ?_
                have hS6 := hS5.trans hk6
                cases e7 : subM l b s with
                | true =>
                  rw [e7] at hfs
                  simp only at hfs
                  refine F9 ?_
                  rw [hfs] at h
                  have := h _ _ hS6
                  simp only [hcn] at this
                  exact this
                | false =>
                  rw [e7] at hfs
                  simp only at hfs
                  refine K1 ?_
                  refine G8 hS6.sat (ht.lift ⟨hS6.le⟩) hd fun lv fv mv w7 σ7 hk7 f1 f2 f3 f4 f5 hr => ?_
                  refine Z3 (v := S c.super) rfl ?_
                  exact hag _ _ _ (by rw [hch]; simp) ⟨c.super, σ7, rfl, f5, hS6.trans hk7, rfl, hfs⟩)
theorem Q7m {c : Cla} {cs : List Value} (hs : X6 w σ) (ht : Tab σ v l) (hl : l.length ≤ 100000) (hsm : ∀ c ∈ l, K2 c) (hc : V0 σ c cs) (h : ∀ w' σ', Stp w σ w' σ' → K (.bool (loopsM l c)) w') : Q1 P F.b1 [v, .agg cs.toArray] w K := Cl (by
  obtain ⟨lv, fv, mv, rfl, g1, g2, g3, g4, g5⟩ := hc
  unfold Vn
  obtain ⟨a, _, _, _, rfl, _⟩ := ht.ex
  refine U4 hs rfl fun q w1 σ1 hk1 hq => ?_
  refine Z8 hk1.sat fun q2 w2 σ2 hk2 hq2 => ?_
  rw [Qz, fa]
  have hS2 := hk1.trans hk2
  have back : ∀ {n : X0} {w3 : World} {σ3 : Q6} {K : Value → World → Prop}, SLe σ2 σ3 → X6 w3 σ3 → n.length ≤ V9 → (∀ w' σ', Stp w3 σ3 w' σ' → K (.bool ((visits l n).contains c.name)) w') →
      Z4 P (.func (.func F.aO) #[] #[.pointer (some q), .pointer (some q2)]) [S n] w3 K := by
    intro n w3 σ3 K le hs3 hn hK
    refine Z9 (Ey ?_)
    unfold Zw
    refine X7 hs3 ((hq.up hk2).lift le) rfl ?_
    rw [Qz]
    have le3 : SLe σ σ3 := SLe.more ⟨hS2.le⟩ le
    refine Q3X (fun d => decide (d.name = c.name)) hs3 (ht.lift le3) hl hsm hn (fun d ds w4 σ4 K le4 hs4 hr hK => Z9 (Nz ?_)) (by rw [Q1R]; exact hK)
    obtain ⟨lv, fv, mv, rfl, _⟩ := hr
    unfold Xv
    have hq4 := (hq2.lift le).lift le4
    refine Z8 hs4 fun a w5 σ5 hk5 ha5 => ?_
    (repeat' (first | (with_reducible intro _) | (with_reducible refine V4 ?_) | (simp only [↓Mm, Mm, ↓Mp, Mp, Mb, reduceIte]) | (with_reducible first | refine ld aS aL aR ?_ | refine X7 aS aL aR ?_ | refine Z0 aS aL aR ?_ | refine Q7 aL ?_ | refine Z3 aR ?_ | refine Z8 aS ?_ | refine W5 aS aL ?_ | refine U4 aS aR ?_ | refine Y2 aS aR aR (Rep.one (by assumption)) ?_ | refine U2 aS aR aR aR ?_ | (refine Y1 (fun hh => ?_) (fun hh => ?_) <;> (try simp only [hh, Bool.not_true, Bool.not_false, ↓Mm, Mm, ↓Mp, Mp, Mb, reduceIte])) | (refine Q4 (fun hh => ?_) (fun hh => ?_) <;> (try simp only [hh, Bool.not_true, Bool.not_false, ↓Mm, Mm, ↓Mp, Mp, Mb, reduceIte])))))
    exact hK _ _ hk5
  refine ld hk2.sat hq2 rfl ?_
  unfold loopsM at h
  simp only [U5, List.any_cons] at h
  refine back (SLe.refl _) hk2.sat g5 fun w3 σ3 hk3 => ?_
  cases e1 : (visits l c.super).contains c.name with
  | true =>
    rw [e1] at h
    simp only [↓Mm, Mm, ↓Mp, Mp, Mb, reduceIte]
    exact h _ _ (hS2.trans hk3)
  | false =>
    rw [e1, Bool.false_or] at h
    simp only [↓Mm, Mm, ↓Mp, Mp, Mb, reduceIte]
    refine ld hk3.sat (hq2.up hk3) rfl ?_
    refine C5 (fun n => (visits l n).contains c.name) hk3.sat (((g1.up hk1).up hk2).up hk3) (fun x w4 K _ hs4 hx hK => back ⟨hk3.le⟩ hs4 hx fun w' σ' hk => hK _ hk.bel) fun w4 hb => ?_
    (try simp only [↓Mm, Mm, ↓Mp, Mp, Mb, reduceIte])
    exact h _ _ ((hS2.trans hk3).trans (Stp.of_below hk3.sat hb)))
end Go.Proofs.YtdnfaboigajkhaaGreatDoor

namespace Go.Hm
open Go.Kd
def X9 (l : List Cla) (i : Nat) : X0 := (l.getD i Cla.zero).name
theorem A6 {l : List Cla} (ho : B8 l) {i : Nat} (hi : i < l.length) : lk l (X9 l i) = some (l.getD i Cla.zero) := by
  have e : l.getD i Cla.zero = l[i] := by rw [List.getD_eq_getElem?_getD, List.getElem?_eq_getElem hi]; rfl
  unfold X9
  rw [e]; exact ho.lk (List.getElem_mem hi)
theorem D6 {l : List Cla} {u : X0} {j : Nat} (h : Y3 l u = some j) : j < l.length ∧ X9 l j = u := by
  obtain ⟨hj, hp, _⟩ := List.findIdx?_eq_some_iff_getElem.1 h
  refine ⟨hj, ?_⟩
  unfold X9
  rw [List.getD_eq_getElem?_getD, List.getElem?_eq_getElem hj]
  simpa using hp
theorem Kx {l : List Cla} (ha : Qw l) (ho : B8 l) {i j : Nat} (hi : i < l.length) {u : X0} (hu : u ∈ U5 (l.getD i Cla.zero)) (hj : Y3 l u = some j) : H9 l (X9 l j) < H9 l (X9 l i) := by
  obtain ⟨c, hc, _⟩ := Xc hj
  rw [(D6 hj).2]
  exact F3 ha (A6 ho hi) hu hc
theorem Hc {α β : Type} {f g : β → α → β} : ∀ (xs : List α) (b : β), (∀ b x, x ∈ xs → f b x = g b x) → xs.foldl f b = xs.foldl g b
  | [], _, _ => rfl
  | x :: r, b, h => by
    rw [List.foldl_cons, List.foldl_cons, h b x (by simp)]
    exact Hc r _ fun b y hy => h b y (by simp [hy])
theorem Ql {l : List Cla} {frm : Nat} (f : Nat) (out : List Nat) {i : Nat} (h : i < frm) : G1 l frm f out i = out := by
  cases f <;> simp [G1, h]
theorem Q5m {l : List Cla} (ha : Qw l) (ho : B8 l) {frm : Nat} (hf : 0 < frm) : ∀ (f g : Nat) (out : List Nat) (i : Nat), i < l.length → H9 l (X9 l i) < f → H9 l (X9 l i) < g → G1 l frm f out i = G1 l frm g out i := by
  intro f
  induction f with
  | zero => intro g out i _ h; omega
  | succ f ih =>
    intro g out i hi h1 h2
    obtain ⟨g, rfl⟩ : ∃ m, g = m + 1 := ⟨g - 1, by omega⟩
    simp only [G1]
    split
    · rfl
    · split
      · rfl
      · congr 1
        refine Hc _ _ fun b u hu => ?_
        cases hj : Y3 l u with
        | none => simp only [Option.getD_none]; rw [Ql f b hf, Ql g b hf]
        | some j =>
          simp only [Option.getD_some]
          have := Kx ha ho hi hu hj
          exact ih g b j (D6 hj).1 (by omega) (by omega)
def T6 (l : List Cla) (frm : Nat) (out : List Nat) (i : Nat) : List Nat := G1 l frm (l.length + 1) out i
theorem Q4d {l : List Cla} (ha : Qw l) (ho : B8 l) {frm : Nat} (hf : 0 < frm) (out : List Nat) {i : Nat} (hi : i < l.length) : T6 l frm out i = if i < frm then out else if i ∈ out then out else
    ((U5 (l.getD i Cla.zero)).foldl (fun out n => T6 l frm out ((Y3 l n).getD 0)) out) ++ [i] := by
  have hr := Ra l (X9 l i)
  unfold T6
  rw [G1]
  split
  · rfl
  · split
    · rfl
    · congr 1
      refine Hc _ _ fun b u hu => ?_
      cases hj : Y3 l u with
      | none => simp only [Option.getD_none]; rw [Ql _ b hf, Ql _ b hf]
      | some j =>
        simp only [Option.getD_some]
        have := Kx ha ho hi hu hj
        exact Q5m ha ho hf _ _ b j (D6 hj).1 (by omega) (by omega)
theorem Jw {α : Type} {p : Nat → Prop} {f : List Nat → α → List Nat} : ∀ (xs : List α) (b : List Nat), (∀ b x, x ∈ xs → ∀ y ∈ f b x, y ∈ b ∨ p y) → ∀ y ∈ xs.foldl f b, y ∈ b ∨ p y
  | [], b, _ => fun y hy => .inl hy
  | x :: r, b, h => fun y hy => by
    rw [List.foldl_cons] at hy
    rcases Jw r _ (fun b z hz => h b z (by simp [hz])) y hy with h1 | h1
    · exact h b x (by simp) y h1
    · exact .inr h1
theorem Q2j {l : List Cla} (ho : B8 l) {frm : Nat} (hf : 0 < frm) : ∀ (f : Nat) (out : List Nat) (i : Nat), i < l.length → ∀ y ∈ G1 l frm f out i, y ∈ out ∨ (y < l.length ∧ (y = i ∨ Yf (lk l) (X9 l i) (X9 l y))) := by
  intro f
  induction f with
  | zero => intro out i _ y hy; exact .inl hy
  | succ f ih =>
    intro out i hi y hy
    simp only [G1] at hy
    split at hy
    · exact .inl hy
    · split at hy
      · exact .inl hy
      · rcases List.mem_append.1 hy with hy | hy
        · refine Jw (p := fun y => y < l.length ∧ (y = i ∨ Yf (lk l) (X9 l i) (X9 l y))) _ _ (fun b u hu y hy => ?_) y hy
          cases hj : Y3 l u with
          | none =>
            rw [hj] at hy
            simp only [Option.getD_none] at hy
            rw [Ql f b hf] at hy
            exact .inl hy
          | some j =>
            rw [hj] at hy
            simp only [Option.getD_some] at hy
            obtain ⟨hjl, hjn⟩ := D6 hj
            obtain ⟨c, hc, _⟩ := Xc hj
            rcases ih b j hjl y hy with h | ⟨h1, rfl | h2⟩
            · exact .inl h
            · exact .inr ⟨h1, .inr ⟨_, A6 ho hi, u, hu, by rw [hjn]; exact .refl hc⟩⟩
            · exact .inr ⟨h1, .inr ⟨_, A6 ho hi, u, hu, by rw [← hjn]; exact h2.reach⟩⟩
        · simp at hy; subst hy; exact .inr ⟨hi, .inl rfl⟩
theorem Q0h {α : Type} {q : List Nat → Prop} {f : List Nat → α → List Nat} : ∀ (xs : List α) (b : List Nat), (∀ b x, x ∈ xs → q b → q (f b x)) → q b → q (xs.foldl f b)
  | [], b, _, h => h
  | x :: r, b, hs, h => by
    rw [List.foldl_cons]
    exact Q0h r _ (fun b z hz => hs b z (by simp [hz])) (hs b x (by simp) h)
def Ko (l : List Cla) (out : List Nat) : Prop := out.Nodup ∧ ∀ y ∈ out, y < l.length
theorem Ko.len {l : List Cla} {out : List Nat} (h : Ko l out) : out.length ≤ l.length := by
  have key : ∀ (n : Nat) (out : List Nat), out.Nodup → (∀ y ∈ out, y < n) → out.length ≤ n := by
    intro n
    induction n with
    | zero =>
      intro out _ h
      cases out with
      | nil => simp
      | cons a r => have := h a (by simp); omega
    | succ n ih =>
      intro out hn h
      have h1 := ih (out.filter (fun y => !decide (y = n))) (hn.sublist List.filter_sublist) (fun y hy => by
        have := List.mem_filter.1 hy
        have h2 := h y this.1
        have h3 : y ≠ n := by simpa using this.2
        omega)
      have h2 : out.length ≤ (out.filter (fun y => !decide (y = n))).length + 1 := by
        clear h1 h
        induction out with
        | nil => simp
        | cons a r ih2 =>
          obtain ⟨ha, hr⟩ := List.nodup_cons.1 hn
          by_cases e : a = n
          · subst e
            have : r.filter (fun y => !decide (y = a)) = r := List.filter_eq_self.2 fun y hy => by simp; rintro rfl; exact ha hy
            simp [this]
          · have := ih2 hr
            simp [e]; exact this
      omega
  exact key _ _ h.1 h.2
theorem Sa {l : List Cla} (ha : Qw l) (ho : B8 l) {frm : Nat} (hf : 0 < frm) : ∀ (f : Nat) (out : List Nat) (i : Nat), i < l.length → Ko l out → Ko l (G1 l frm f out i) := by
  intro f
  induction f with
  | zero => intro out i _ h; exact h
  | succ f ih =>
    intro out i hi h
    simp only [G1]
    split
    · exact h
    · split
      · exact h
      · rename_i hin
        have hk : Ko l ((U5 (l.getD i Cla.zero)).foldl (fun out n => G1 l frm f out ((Y3 l n).getD 0)) out) := by
          refine Q0h _ _ (fun b u hu hb => ?_) h
          cases hj : Y3 l u with
          | none => simp only [Option.getD_none]; rw [Ql f b hf]; exact hb
          | some j => exact ih b j (D6 hj).1 hb
        have hni : i ∉ (U5 (l.getD i Cla.zero)).foldl (fun out n => G1 l frm f out ((Y3 l n).getD 0)) out := by
          intro hmem
          rcases Jw (p := fun y => Yf (lk l) (X9 l i) (X9 l y)) _ _ (fun b u hu y hy => by
            cases hj : Y3 l u with
            | none =>
              rw [hj] at hy
              simp only [Option.getD_none] at hy
              rw [Ql f b hf] at hy
              exact .inl hy
            | some j =>
              rw [hj] at hy
              simp only [Option.getD_some] at hy
              obtain ⟨hjl, hjn⟩ := D6 hj
              obtain ⟨c, hc, _⟩ := Xc hj
              rcases Q2j ho hf f b j hjl y hy with h | ⟨h1, rfl | h2⟩
              · exact .inl h
              · exact .inr ⟨_, A6 ho hi, u, hu, by rw [hjn]; exact .refl hc⟩
              · exact .inr ⟨_, A6 ho hi, u, hu, by rw [← hjn]; exact h2.reach⟩) i hmem with h1 | h1
          · exact hin h1
          · exact ha _ h1
        refine ⟨?_, fun y hy => ?_⟩
        · rw [List.nodup_append]
          exact ⟨hk.1, by simp, by rintro a ha b hb rfl; simp at hb; subst hb; exact hni ha⟩
        · rcases List.mem_append.1 hy with hy | hy
          · exact hk.2 y hy
          · simp at hy; omega
end Go.Hm

namespace Go.Emb
open Go.RowKit Go.Hm
variable {P : Program} {w w0 w1 w' w'' : World} {K : Value → World → Prop} {σ σ0 σ1 σ' : Q6}
theorem Sl.at {α : Type} {R : Q6 → α → List Value → Prop} {sz : Nat} {v : Value} {xs : List α} (h : Sl sz R σ v xs) {i : Nat} (hi : i < xs.length) :
    ∃ p cs, J4 σ p cs ∧ cs.length = sz ∧ R σ xs[i] cs ∧ ∀ {P : Program} {t e : TypeId} {by_ : Nat} {z : Value} {w : World} {K : Value → World → Prop} [TS P t e] [TZ P e sz by_ z], K (.pointer (some p)) w → indexAddr P t v (I i) w K := by
  obtain ⟨a, cap, rfl, h2, h3, h4, h5⟩ := h
  cases a with
  | none => have := h4 rfl; omega
  | some b =>
    obtain ⟨cs, g1, g2, g3⟩ := (h5 b rfl).2 i xs[i] (by simp [hi])
    refine ⟨_, cs, g1, g2, g3, ?_⟩
    intro P t e by_ z w K _ _ hK
    rw [Rf (by omega) (by omega)]
    simpa using hK
abbrev G7 (xs : List Nat) : List Int := xs.map fun n : Nat => (n : Int)
theorem W3.grow {α : Type} {R : Q6 → α → List Value → Prop} [hr : Rep R] {B sz : Nat} {e : TypeId} {v : Value} {xs : List α} (h : W3 B e sz R σ w v xs) (le : SLe σ σ') (hk : ∀ k, v.ownBlock = some k → σ' k = none) : W3 B e sz R σ' w v xs := by
  obtain ⟨cells, h1, h2, h3⟩ := h
  exact ⟨cells, h1, hk, fun i x hx => hr.up le.le (h3 i x hx)⟩
end Go.Emb
namespace Go.Proofs.YtdnfaboigajkhaaGreatDoor
open Go.Emb Go.RowKit Go.Kd Go.Hm
variable {w : World} {K : Value → World → Prop} {σ : Q6} {v : Value} {l : List Cla}
theorem Q36 {B i : Nat} {xs : List Nat} {x : Value} (ha : L5 B T.d 1 Js σ w x (G7 xs)) (h : K (.bool (decide (i ∈ xs))) w) : Q1 P F.aw [x, I i] w K := Lv (by
  unfold A7
  have hmax : xs.length ≤ 9223372036854775807 := by
    obtain ⟨a, cap, _, h1, h2, _⟩ := ha
    simp only [maxLen, G7, List.length_map] at h2 h1; omega
  refine Dc ?_
  unfold Xq
  refine Q1F ha ?_
  have hlm : (G7 xs).length = xs.length := by simp
  refine V7 xs.length (fun n w' => w' = w ∧ i ∉ xs.take n) ⟨rfl, by simp⟩ fun n w' d hn hi => ?_
  obtain ⟨rfl, hi⟩ := hi
  rw [hlm]
  refine U0 ?_
  refine Q4 (fun hh => ?_) (fun hh => ?_)
  · have hn' : n < xs.length := by simpa using hh
    refine Q2g ha (by rw [hlm]; exact hn') fun a cs h1 h2 h3 => ?_
    obtain ⟨rfl, _⟩ := h3
    have hc := h1 0 _ rfl
    rw [add_zero] at hc
    refine T8 hc ?_
    simp only [List.getElem_map]
    refine Q1P ?_
    refine Q4 (fun hh2 => ?_) (fun hh2 => ?_)
    · have e : (i : Int) = xs[n] := by simpa using hh2
      have : i = xs[n] := by omega
      have hmem : decide (i ∈ xs) = true := decide_eq_true (by rw [this]; exact List.getElem_mem hn')
      rw [hmem] at h
      refine Yz ?_
      rw [decide_eq_true (by omega : (0 : Int) ≤ n)]
      exact h
    · have e : ¬ (i : Int) = xs[n] := by simpa using hh2
      refine O8 ?_
      refine Z2 hmax hn' ⟨rfl, ?_⟩
      rw [List.take_add_one, List.getElem?_eq_getElem hn']
      simp only [Option.toList_some, List.mem_append, List.mem_singleton, not_or]
      exact ⟨hi, fun e2 => e (by rw [e2])⟩
  · have hn' : ¬ n < xs.length := by simpa using hh
    rw [List.take_of_length_le (by omega)] at hi
    rw [decide_eq_false hi] at h
    refine Yz ?_
    exact h)
theorem Q8t {w0 : World} {σ0 σb : Q6} {pf pt pw : Addr} {bo frm : Nat} (ha : Qw l) (ho : B8 l) (hl : l.length ≤ 100000) (hsm : ∀ c ∈ l, K2 c) (hf : 0 < frm) (ht : Tab σb v l) (hpf : J4 σb pf [I frm]) (hpt : J4 σb pt [v])
    (hpw : J4 σb pw [.func (.func F.w) #[] #[.pointer (some pf), .pointer (some ⟨bo, 0, none⟩), .pointer (some pt), .pointer (some pw)]]) (hbo : w0.heap.size ≤ bo) :
    ∀ (k : Nat) {i : Nat} {out : List Nat} {x : Value} {w1 : World} {σ1 : Q6} {K : Value → World → Prop}, i < l.length → (i < frm ∨ H9 l (X9 l i) < k) → SLe σb σ1 → Stp w0 σ0 w1 σ1 → V1 σ1 w1 bo [x] → W3 w0.heap.size T.d 1 Js σ1 w1 x (G7 out) → x.ownBlock ≠ some bo → Ko l out →
      (∀ w2 σ2 x', SLe σ1 σ2 → Stp w0 σ0 w2 σ2 → V1 σ2 w2 bo [x'] → W3 w0.heap.size T.d 1 Js σ2 w2 x' (G7 (T6 l frm out i)) → x'.ownBlock ≠ some bo → K (.tuple #[]) w2) →
      Z4 P (.func (.func F.w) #[] #[.pointer (some pf), .pointer (some ⟨bo, 0, none⟩), .pointer (some pt), .pointer (some pw)]) [I i] w1 K := by
  obtain ⟨a, lv, r, m, rfl, t1, t2, t3, t4⟩ := ht.ex
  intro k
  induction k with
  | zero =>
    intro i out x w1 σ1 K hi hk le hS hm hacc hx hfew h
    have hlow : i < frm := hk.resolve_right (by omega)
    refine Z9 (Ja ?_)
    unfold K6
    refine X7 hS.sat (hpf.lift le) rfl ?_
    refine U0 ?_
    rw [decide_eq_true (by omega : (i : Int) < frm)]
    simp only [↓Mm, Mm, ↓Mp, Mp, Mb, reduceIte]
    have : T6 l frm out i = out := Ql _ _ hlow
    rw [this] at h
    exact h _ _ _ (SLe.refl _) hS hm hacc hx
  | succ k ih =>
    intro i out x w1 σ1 K hi hk le hS hm hacc hx hfew h
    refine Z9 (Ja ?_)
    unfold K6
    refine X7 hS.sat (hpf.lift le) rfl ?_
    refine U0 ?_
    have heq := Q4d ha ho hf out hi
    by_cases hlow : i < frm
    · rw [decide_eq_true (by omega : (i : Int) < frm)]
      simp only [↓Mm, Mm, ↓Mp, Mp, Mb, reduceIte]
      rw [if_pos hlow] at heq
      rw [heq] at h
      exact h _ _ _ (SLe.refl _) hS hm hacc hx
    rw [if_neg hlow] at heq
    rw [decide_eq_false (by omega : ¬ (i : Int) < frm)]
    simp only [↓Mm, Mm, ↓Mp, Mp, Mb, reduceIte]
    refine Q6j hm rfl ?_
    refine Q36 (L5.of_acc hacc) ?_
    by_cases hin : i ∈ out
    · rw [if_pos hin] at heq
      rw [heq] at h
      simp only [decide_eq_true hin, ↓Mm, Mm, ↓Mp, Mp, Mb, reduceIte]
      exact h _ _ _ (SLe.refl _) hS hm hacc hx
    rw [if_neg hin] at heq
    simp only [decide_eq_false hin, ↓Mm, Mm, ↓Mp, Mp, Mb, reduceIte]
    have hrk : H9 l (X9 l i) < k + 1 := hk.resolve_left hlow
    have t1 := t1.lift le
    have t2 := t2.lift le
    have t3 := t3.lift le
    have hpt1 := hpt.lift le
    obtain ⟨p, cs, hp1, hp2, hp3, hp4⟩ := t2.at hi
    obtain ⟨lv', fv, mv, rfl, f1, f2, f3, f4, f5⟩ := hp3
    have eat : l.getD i Cla.zero = l[i] := by rw [List.getD_eq_getElem?_getD, List.getElem?_eq_getElem hi]; rfl
    have hbl := hm.lt
    refine W9 hS.sat ?_
    refine X2 (.pointer (some a)) (fun w hb => X7 hb.sat hpt1 rfl (X4 rfl)) ?_
    refine X2 (.pointer (some a)) (fun t w hb e => by rw [e, S2]; exact X4 rfl) ?_
    refine X2 (.pointer (some (a.add 0))) (fun t w hb e => by rw [e, fa]; exact X4 rfl) ?_
    refine X2 lv (fun t w hb e => by rw [e]; exact ld hb.sat t1 rfl (X4 rfl)) ?_
    refine X2 (.pointer (some p)) (fun t w hb e => by rw [e]; exact hp4 (X4 rfl)) ?_
    refine X2 (.pointer (some (p.add 1))) (fun t w hb e => by rw [e, fa]; exact X4 rfl) ?_
    refine X2 (S l[i].super) (fun t w hb e => by rw [e]; exact ld hb.sat hp1 rfl (X4 rfl)) ?_
    refine N9 (fun u w => X6 w σ1 ∧ W3 w0.heap.size T.b 1 U9 σ1 w u [l[i].super] ∧ ∀ k, u.ownBlock = some k → w1.heap.size ≤ k) (fun u w2 w3 h hb => ⟨h.1.below hb, h.2.1.up (Stp.of_below h.1 hb), h.2.2⟩) (fun t w hb e => ?_) ?_
    · rw [e]
      refine Qq (R := U9) (sz := 1) (xs := [l[i].super]) (hS.trans hb.stp) [S l[i].super] rfl rfl (by simp; rfl) rfl ⟨⟨rfl, f5⟩, trivial⟩ fun u w2 hk2 hu hou => ?_
      exact ⟨hk2.bel, hk2.sat, hu, fun k hk => Nat.le_trans hb.stp.bel.size (hou k hk)⟩
    refine X2 (.pointer (some a)) (fun w hb => X7 hb.sat hpt1 rfl (X4 rfl)) ?_
    refine X2 (.pointer (some a)) (fun t w hb e => by rw [e, S2]; exact X4 rfl) ?_
    refine X2 (.pointer (some (a.add 0))) (fun t w hb e => by rw [e, fa]; exact X4 rfl) ?_
    refine X2 lv (fun t w hb e => by rw [e]; exact ld hb.sat t1 rfl (X4 rfl)) ?_
    refine X2 (.pointer (some p)) (fun t w hb e => by rw [e]; exact hp4 (X4 rfl)) ?_
    refine X2 (.pointer (some (p.add 2))) (fun t w hb e => by rw [e, fa]; exact X4 rfl) ?_
    refine X2 lv' (fun t w hb e => by rw [e]; exact ld hb.sat hp1 rfl (X4 rfl)) ?_
    rintro t16 t17 t18 t19 t21 t22 t23 t24 t25 t26 t27 t28 t30 t31 t32 w2 hb2 _ _ _ _ _ _ _ ⟨hs2, hu2, hou2⟩ _ _ _ _ _ _ e32
    subst e32
    have hS2 := hS.trans hb2.stp
    have hlike := (hsm _ (List.getElem_mem hi)).1
    have hxl : ∀ j, x.ownBlock = some j → j < w1.heap.size := fun j hj => (hacc.mem j hj).2.1
    have hm2 := hm.step hb2.stp
    have hacc2 := hacc.step hb2.stp
    refine Nh hS2 hu2 f1 rfl (by simp only [List.length_cons, List.length_nil]; omega) (by simp only [List.length_cons, List.length_nil]; omega) fun t33 w3 hn3 hS3 hu3 hat3 => ?_
    have hou3 : ∀ j, t33.ownBlock = some j → w1.heap.size ≤ j := fun j hj => by
      rcases hat3 with e | e
      · exact hou2 j (e ▸ hj)
      · exact Nat.le_trans hb2.stp.bel.size (e j hj)
    have hm3 := hm2.nx hn3 fun e => by have := hou2 _ e; omega
    have hacc3 := hacc2.nx hn3 fun j hj e => by have := hou2 _ e; have := hxl j hj; omega
    obtain ⟨σ4, hS4, hv4, le4, old4⟩ := hu3.keep hS3
    have hv4 : Sl 1 U9 σ4 t33 (U5 l[i]) := hv4
    have hm4 : V1 σ4 w3 bo [x] := ⟨(old4 bo fun e => by have := hou3 bo e.symm; omega).trans hm3.1, hm3.2⟩
    have hacc4 : W3 w0.heap.size T.d 1 Js σ4 w3 x (G7 out) := hacc3.grow ⟨le4⟩ fun j hj => (old4 j fun e => by have := hou3 j e.symm; have := hxl j hj; omega).trans (hacc3.mem j hj).2.2
    have le14 : SLe σ1 σ4 := ⟨le4⟩
    refine Q7 hv4 ?_
    refine V7 (U5 l[i]).length (fun n w' => ∃ σ' x', SLe σ4 σ' ∧ Stp w0 σ0 w' σ' ∧ V1 σ' w' bo [x'] ∧ W3 w0.heap.size T.d 1 Js σ' w' x' (G7 (((U5 l[i]).take n).foldl (fun out u => T6 l frm out ((Y3 l u).getD 0)) out)) ∧ x'.ownBlock ≠ some bo ∧ Ko l (((U5 l[i]).take n).foldl (fun out u => T6 l frm out ((Y3 l u).getD 0)) out))
      ⟨σ4, x, SLe.refl _, hS4, hm4, hacc4, hx, hfew⟩ fun n w5 d hn hinv => ?_
    obtain ⟨σ5, x5, le5, hS5, hm5, hacc5, hx5, hfew5⟩ := hinv
    refine U0 ?_
    have le15 := le14.more le5
    refine Q4 (fun hh => ?_) (fun hh => ?_)
    · have hn' : n < (U5 l[i]).length := by simpa using hh
      refine Q2f (hv4.lift le5) hn' fun q hq hqb => ?_
      refine X7 hS5.sat hq rfl ?_
      have e1 : ((U5 l[i]).take (n + 1)).foldl (fun out u => T6 l frm out ((Y3 l u).getD 0)) out = T6 l frm (((U5 l[i]).take n).foldl (fun out u => T6 l frm out ((Y3 l u).getD 0)) out) ((Y3 l (U5 l[i])[n]).getD 0) := by
        rw [List.take_add_one, List.getElem?_eq_getElem hn', List.foldl_append]; rfl
      refine W9 hS5.sat ?_
      refine X2 _ (fun w hb => X7 hb.sat (hpw.lift (le.more le15)) rfl (X4 rfl)) ?_
      refine X2 (.pointer (some a)) (fun w hb => X7 hb.sat (hpt1.lift le15) rfl (X4 rfl)) ?_
      refine X2 (.pointer (some a)) (fun t w hb e => by rw [e, S2]; exact X4 rfl) ?_
      refine X2 (.pointer (some (a.add 1))) (fun t w hb e => by rw [e, fa]; exact X4 rfl) ?_
      refine X2 (.map (some r)) (fun t w hb e => by rw [e]; exact ld hb.sat (t1.lift le15) rfl (X4 rfl)) ?_
      refine X2 (I ((Y3 l (U5 l[i])[n]).getD 0 : Nat)) (fun t w hb e => by
        rw [e, Q1n X8 ((t3.lift le15).is hb.sat) _, t4]
        cases Y3 l (U5 l[i])[n] <;> exact X4 rfl) ?_
      rintro t39 t40 t41 t42 t43 t45 w6 hb6 rfl _ _ _ _ rfl
      have hn0 : l.length ≤ 9223372036854775807 := by omega
      refine ih ?_ ?_ (le.more le15) (hS5.trans hb6.stp) (hm5.step hb6.stp) (hacc5.step hb6.stp) hx5 hfew5 fun w7 σ7 x7 le7 hS7 hm7 hacc7 hx7 => ?_
      · cases hj : Y3 l (U5 l[i])[n] with
        | none => simp only [Option.getD_none]; omega
        | some j => exact (D6 hj).1
      · cases hj : Y3 l (U5 l[i])[n] with
        | none => exact .inl hf
        | some j =>
          right
          have := Kx ha ho hi (u := (U5 l[i])[n]) (by rw [eat]; exact List.getElem_mem hn') hj
          simp only [Option.getD_some]; omega
      · refine O8 ?_
        refine Z2 (by have : (U5 l[i]).length = l[i].like.length + 1 := rfl; omega) hn' ⟨σ7, x7, le5.more le7, hS7, hm7, ?_, hx7, ?_⟩
        · rw [e1]; exact hacc7
        · rw [e1]
          cases hj : Y3 l (U5 l[i])[n] with
          | none => simp only [Option.getD_none]; rw [show T6 l frm _ 0 = _ from Ql _ _ hf]; exact hfew5
          | some j => exact Sa ha ho hf _ _ _ (D6 hj).1 hfew5
    · have hn' : ¬ n < (U5 l[i]).length := by simpa using hh
      rw [List.take_of_length_le (by omega)] at hacc5 hfew5
      rw [eat] at heq
      refine Q6j hm5 rfl ?_
      have hfl := hfew5.len
      refine Jb (x := (i : Int)) hS5 hacc5 ⟨rfl, by omega, by omega⟩ rfl rfl rfl (by rw [List.length_map]; omega) (by rw [List.length_map]; omega) fun u x8 w8 σ8 hn8 hS8 hacc8 hat8 => ?_
      have hm8 := hm5.nx hn8 hx5
      have hx8 : x8.ownBlock ≠ some bo := fun e => by
        rcases hat8 with e2 | e2
        · exact hx5 (e2 ▸ e)
        · have := e2 bo e; have := hm5.lt; omega
      have hxc : x8.cells = #[x8] ∧ x8.oneCell' = true := by
        obtain ⟨cells, h1, _⟩ := hacc8
        rcases h1.2 with ⟨rfl, _⟩ | ⟨g, cap, cur, rfl, _⟩ <;> exact ⟨rfl, rfl⟩
      refine st0 hm8 (by simp) hxc.1 hxc.2 fun w9 hu9 hm9 => ?_
      have hS9 := hu9.stp hS8 hbo hm8.1
      have hacc9 : W3 w0.heap.size T.d 1 Js σ8 w9 x8 (G7 (T6 l frm out i)) := by
        rw [heq]
        have := hacc8.kp (Kpt.of_upd (D := fun k => k = bo) hu9 rfl) fun k hk e => hx8 (e ▸ hk)
        simpa [G7] using this
      exact h w9 σ8 x8 (le15.more hn8.le) hS9 hm9 hacc9 hx8
theorem Q7N {frm : Nat} (hs : X6 w σ) (ht : Tab σ v l) (ha : Qw l) (ho : B8 l) (hl : l.length ≤ 100000) (hsm : ∀ c ∈ l, K2 c) (hf : 0 < frm) (hfl : frm ≤ l.length) (h : ∀ v' w' σ', Stp w σ w' σ' → Sl 1 Js σ' v' (G7 (V8 l frm)) → (V8 l frm).length ≤ l.length → (∀ y ∈ V8 l frm, y < l.length) → K v' w') : Q1 P F.b2 [v, I frm] w K := Bf (by
  unfold Vy
  have ht0 := ht
  obtain ⟨a, lv, r, m, rfl, t1, t2, t3, t4⟩ := ht.ex
  refine U4 hs rfl fun pt w1 σ1 hk1 hpt => ?_
  refine U4 hk1.sat rfl fun pf w2 σ2 hk2 hpf => ?_
  refine Qu hk2.sat fun bo w3 σ3 hbo hk3 hm3 => ?_
  refine Qu hk3.sat fun bw w4 σ4 hbw hk4 hm4 => ?_
  rw [Qz]
  have hm3' := hm3.step hk4
  have hlt3 := hm3.lt
  have hS4 := ((hk1.trans hk2).trans hk3).trans hk4
  have hbo0 : w.heap.size ≤ bo := Xx hbo (hk1.trans hk2)
  have hbw0 : w.heap.size ≤ bw := Xx hbw ((hk1.trans hk2).trans hk3)
  refine st0 hm4 (by simp [Value.cells]) rfl rfl fun w5 hu5 hm5 => ?_
  have hS5 := hu5.stp hS4 hbw0 hm4.1
  have hm5o := hm3'.upd hu5 (by omega)
  obtain ⟨σ6, hS6, hw6, le6, old6⟩ := hm5.keep hS5 hbw0
  have hm6 : V1 σ6 w5 bo [.slice none 0 0] := ⟨(old6 bo (by omega)).trans hm5o.1, hm5o.2⟩
  have le6 : SLe σ4 σ6 := ⟨le6⟩
  have hpf6 := ((hpf.up hk3).up hk4).lift le6
  have hpt6 := (((hpt.up hk2).up hk3).up hk4).lift le6
  have leall : SLe σ σ6 := SLe.more ⟨hS4.le⟩ le6
  have t1 := t1.lift leall
  have t2 := t2.lift leall
  refine X7 hS6.sat hpf6 rfl ?_
  have hll : (List.range l.length).length = l.length := List.length_range
  have hz : ([Value.nilFunc].set 0 (Value.func (Fn.func F.w) #[] #[.pointer (some pf), .pointer (some ⟨bo, 0, none⟩), .pointer (some pt), .pointer (some ⟨bw, 0, none⟩)])) = [Value.func (Fn.func F.w) #[] #[.pointer (some pf), .pointer (some ⟨bo, 0, none⟩), .pointer (some pt), .pointer (some ⟨bw, 0, none⟩)]] := rfl
  refine Dq (fun d x w' => ∃ (i : Nat) (σ' : Q6) (x' : Value), x = I i ∧ frm ≤ i ∧ i ≤ l.length ∧ d = l.length - i ∧ SLe σ6 σ' ∧ Stp w σ w' σ' ∧ V1 σ' w' bo [x'] ∧ W3 w.heap.size T.d 1 Js σ' w' x' (G7 (((List.range i).drop frm).foldl (fun out i => T6 l frm out i) [])) ∧ x'.ownBlock ≠ some bo ∧ Ko l (((List.range i).drop frm).foldl (fun out i => T6 l frm out i) [])) _
    ⟨frm, σ6, .slice none 0 0, rfl, Nat.le_refl _, hfl, rfl, SLe.refl _, hS6, hm6, by rw [List.drop_eq_nil_of_le (by simp)]; exact W3.nil, by simp [Value.ownBlock], by rw [List.drop_eq_nil_of_le (by simp)]; exact ⟨by simp, by simp⟩⟩ ?_
  rintro again d x dd w7 ⟨i, σ7, x7, rfl, hfi, hil, rfl, le7, hS7, hm7, hacc7, hx7, hfew7⟩ hag
  refine X7 hS7.sat (hpt6.lift le7) rfl ?_
  rw [S2, fa]
  refine ld hS7.sat (t1.lift le7) rfl ?_
  refine Q7 (t2.lift le7) ?_
  refine U0 ?_
  refine Q4 (fun hh => ?_) (fun hh => ?_)
  · have hi' : i < l.length := by simpa using hh
    refine X7 hS7.sat (hw6.lift le7) rfl ?_
    refine Q8t (w0 := w) (σ0 := σ) (σb := σ6) ha ho hl hsm hf (ht0.lift leall) hpf6 hpt6 hw6 hbo0 (H9 l (X9 l i) + 1) hi' (.inr (Nat.lt_succ_self _)) le7 hS7 hm7 hacc7 hx7 hfew7 fun w8 σ8 x8 le8 hS8 hm8 hacc8 hx8 => ?_
    refine Ro ⟨by omega, by omega⟩ ?_
    have e1 : ((List.range (i + 1)).drop frm).foldl (fun out i => T6 l frm out i) [] = T6 l frm (((List.range i).drop frm).foldl (fun out i => T6 l frm out i) []) i := by
      rw [List.range_succ, List.drop_append_of_le_length (by simp; omega), List.foldl_append]; rfl
    refine hag _ _ _ (by omega : l.length - (i + 1) < l.length - i) ⟨i + 1, σ8, x8, by simp, by omega, by omega, rfl, le7.more le8, hS8, hm8, ?_, hx8, ?_⟩
    · rw [e1]; exact hacc8
    · rw [e1]; exact Sa ha ho hf _ _ _ hi' hfew7
  · have hi' : i = l.length := by have : ¬ i < l.length := by simpa using hh
                                  omega
    subst hi'
    refine Q6j hm7 rfl ?_
    obtain ⟨σ8, hS8, hv8, _, _⟩ := hacc7.keep hS7
    exact h _ _ _ hS8 hv8 hfew7.len hfew7.2)
end Go.Proofs.YtdnfaboigajkhaaGreatDoor

namespace Go.Hm
open Go.Kd
theorem Q3r (x : X0) (r : List X0) : O5 (x :: r) = x ++ Lib.joinTail [44] r := by
  induction r generalizing x with
  | nil => simp [O5, Lib.joinTail]
  | cons y r ih =>
    simp only [O5]
    rw [ih y]
    simp [Lib.joinTail]
theorem Pw (xs : List X0) : Lib.join xs [44] = O5 xs := by
  cases xs with
  | nil => rfl
  | cons x r => rw [Lib.join_cons, Q3r]
theorem Mx : ∀ xs : List X0, (∀ x ∈ xs, x.length ≤ 100) → (O5 xs).length ≤ xs.length * 101
  | [], _ => by simp [O5]
  | [a], h => by have := h a (by simp); simp [O5]; omega
  | a :: b :: r, h => by
    have h1 := h a (by simp)
    have h2 := Mx (b :: r) fun x hx => h x (by simp [hx])
    simp only [O5, List.length_append, List.length_cons, List.length_nil, Nat.add_mul] at *
    omega
def NmM (m : Hm.Met) : Prop := m.result.length ≤ 100 ∧ ∀ p ∈ m.params, p.length ≤ 100
end Go.Hm
namespace Go.Proofs.YtdnfaboigajkhaaGreatDoor
open Go.Emb Go.RowKit Go.Kd Go.Hm
variable {w : World} {K : Value → World → Prop} {σ : Q6} {v : Value} {l : List Cla}
theorem Q7R {xs : List X0} {pv : Value} (hs : X6 w σ) (hv : Sl 1 U9 σ pv xs) (hl : xs.length ≤ 1000000) (hx : ∀ x ∈ xs, x.length ≤ 100) (h : ∀ w', Below w.heap.size w w' → K (S (O5 xs)) w') : Q1 P F.cb [pv, S [44]] w K := by
  obtain ⟨a, cap, rfl, h2, h3, h4, h5⟩ := hv
  have hclen := Mx xs hx
  have hmul : xs.length * 101 ≤ 1000000 * 101 := Nat.mul_le_mul_right _ hl
  cases a with
  | none =>
    have h0 := h4 rfl
    have hx0 : xs = [] := List.eq_nil_of_length_eq_zero (by omega)
    subst hx0
    refine Jm (fn := Tryz.f72) Tryz.func72 (by kernel_rfl) (by kernel_rfl) (Calls.mono (Tryz.strings_Join_none none cap ⟨[44].toArray⟩ w) ?_)
    rintro e w' ⟨rfl, rfl⟩
    exact h _ (Below.refl _ _)
  | some b =>
    obtain ⟨hsp, hel⟩ := h5 b rfl
    by_cases hx0 : xs = []
    · subst hx0
      refine Jm (fn := Tryz.f72) Tryz.func72 (by kernel_rfl) (by kernel_rfl) (Calls.mono (Tryz.strings_Join_none (some b) cap ⟨[44].toArray⟩ w) ?_)
      rintro e w' ⟨rfl, rfl⟩
      exact h _ (Below.refl _ _)
    have hsp := hsp (List.length_pos_iff.2 hx0)
    obtain ⟨bk, o, sp⟩ := b
    simp only at hsp
    subst hsp
    have hcells : ∀ (j : Nat) (x : ByteArray), (xs.map fun s => (⟨s.toArray⟩ : ByteArray))[j]? = some x → w.cell? ⟨bk, o + j, none⟩ = some (.string x) := by
      intro j x hj
      rw [List.getElem?_map] at hj
      cases hxj : xs[j]? with
      | none => rw [hxj] at hj; cases hj
      | some s =>
        rw [hxj] at hj
        cases hj
        obtain ⟨cs, g1, g2, g3⟩ := hel j s hxj
        obtain ⟨rfl, _⟩ := g3
        have := g1.cell hs (i := 0) (v := S s) rfl
        rw [add_zero] at this
        have e : (⟨bk, o, none⟩ : Addr).add (j * 1) = ⟨bk, o + j, none⟩ := by unfold Addr.add; split <;> simp_all
        rw [e] at this; exact this
    have hbk : bk < w.heap.size := by
      obtain ⟨x, r, rfl⟩ : ∃ x r, xs = x :: r := by cases xs with | nil => exact absurd rfl hx0 | cons x r => exact ⟨x, r, rfl⟩
      have := hcells 0 ⟨x.toArray⟩ (by simp)
      exact World.block_lt_of_cell? _ _ this
    have hm : (xs.map fun s => (⟨s.toArray⟩ : ByteArray)).map (·.data.toList) = xs := by rw [List.map_map]; simp [Function.comp_def]
    have hc := Tryz.strings_Join bk o cap (xs.map fun s => (⟨s.toArray⟩ : ByteArray)) ⟨[44].toArray⟩ w hcells hbk (by rw [List.length_map]; omega) (by rw [List.length_map]; exact h2) (by rw [hm]; show (Lib.join xs [44]).length ≤ _; rw [Pw]; omega)
    rw [hm, List.length_map] at hc
    refine Jm (fn := Tryz.f72) Tryz.func72 (by kernel_rfl) (by kernel_rfl) (Calls.mono hc ?_)
    rintro e w' ⟨rfl, hb⟩
    have := h w' hb
    rw [← Pw] at this
    exact this
theorem Q5y {m : Hm.Met} {cs : List Value} (hs : X6 w σ) (hm : M8 σ m cs) (hsm : SmM m) (hn : NmM m) (h : ∀ w' σ', Stp w σ w' σ' → K (S (K4 m)) w') : Q1 P F.bG [.agg cs.toArray] w K := Q30 (by
  obtain ⟨pv, cv, hv, rfl, g1, g2, g3, g4, g5, g6⟩ := hm
  unfold Gg
  refine Z8 hs fun a w1 σ1 hk1 ha => ?_
  have hcl := Mx m.params hn.2
  have hmul : m.params.length * 101 ≤ 1000000 * 101 := Nat.mul_le_mul_right _ hsm.1
  refine W9 hk1.sat ?_
  refine X2 (.pointer (some (a.add 1))) (fun w hb => by rw [fa]; exact X4 rfl) ?_
  refine X2 (.pointer (some (a.add 2))) (fun w hb => by rw [fa]; exact X4 rfl) ?_
  refine X2 pv (fun t w hb e => by rw [e]; exact ld hb.sat ha rfl (X4 rfl)) ?_
  refine X2 (S (O5 m.params)) (fun t w hb e => by rw [e]; exact Q7R hb.sat (g1.up hk1) hsm.1 hn.2 fun w' hb' => Q0p hb' rfl) ?_
  refine X2 (S ([40] ++ O5 m.params)) (fun t w hb e => by rw [e]; exact P8 (by simp only [List.length_cons, List.length_nil]; omega) (X4 rfl)) ?_
  refine X2 (S ([40] ++ O5 m.params ++ [41])) (fun t w hb e => by rw [e]; exact P8 (by simp only [List.length_append, List.length_cons, List.length_nil]; omega) (X4 rfl)) ?_
  refine X2 (S m.result) (fun t w hb e => by rw [e]; exact ld hb.sat ha rfl (X4 rfl)) ?_
  rintro t3 t8 t4 t5 t6 t7 t9 w2 hb2 _ _ _ _ _ rfl rfl
  have := hn.1
  refine P8 (by simp only [List.length_append, List.length_cons, List.length_nil]; omega) ?_
  exact h _ _ (hk1.trans hb2.stp))
end Go.Proofs.YtdnfaboigajkhaaGreatDoor

namespace Go.Emb
open Go.RowKit Go.Hm
variable {P : Program} {w w0 w1 w' w'' : World} {K : Value → World → Prop} {σ σ0 σ1 σ' : Q6}
theorem Ck {α : Type} (f : α → α) (e : α) : ∀ l : List α, (l ++ [e]).modify l.length f = l ++ [f e]
  | [] => rfl
  | x :: r => by simp [Ck f e r]
theorem Gk (k : List UInt8) (e : MapEntry) (he : e.key = S k) : ∀ (es : List MapEntry) (i : Nat), Instr.findNow .string (S k) es i = some none → Instr.findNow .string (S k) (es ++ [e]) i = some (some (i + es.length, e.val))
  | [], i, _ => by
    simp [Instr.findNow, he, Instr.sameNow, Ed]
  | x :: r, i, h => by
    simp only [Instr.findNow, List.cons_append] at h ⊢
    split at h
    · cases h
    · rename_i hs
      rw [Gk k e he r (i + 1) h]
      simp; omega
    · cases h
theorem Tb (k : List UInt8) (u : Value) : ∀ (es : List MapEntry) (i j : Nat) (v : Value), Instr.findNow .string (S k) es i = some (some (j, v)) → i ≤ j ∧ j - i < es.length ∧ Instr.findNow .string (S k) (es.modify (j - i) fun e => { e with val := u }) i = some (some (j, u))
  | [], i, j, v, h => by simp [Instr.findNow] at h
  | x :: r, i, j, v, h => by
    simp only [Instr.findNow] at h
    split at h
    · rename_i hs
      cases h
      refine ⟨Nat.le_refl _, by simp, ?_⟩
      simp only [Nat.sub_self, List.modify_zero_cons, Instr.findNow, hs]
    · rename_i hs
      obtain ⟨h1, h2, h3⟩ := Tb k u r (i + 1) j v h
      refine ⟨by omega, by simp; omega, ?_⟩
      rw [show j - i = (j - (i + 1)) + 1 by omega]
      simp only [List.modify_succ_cons, Instr.findNow, hs]
      exact h3
    · cases h
theorem Zs {t kt et : TypeId} [tm : TM P t kt et] (hk : P.underlying kt = some .string) {r : Nat} {es : Array MapEntry} {clock : Nat} {k : List UInt8} {i : Nat} {v : Value} {e : MapEntry} (hw : w.heap[r]? = some (.map es clock))
    (hf : Instr.findNow .string (S k) es.toList 0 = some (some (i, v))) (he : es[i]? = some e) (hek : e.key = S k) :
    (Instr.mapEntry t (.map (some r)) (S k)).run P w = .ok (.tuple #[v, goInt e.born]) { w with heap := w.heap.setIfInBounds r (.map es clock) } := by
  have hg : (getObj r).run P w = .ok (.map es clock) w := by simp [getObj, Sem.run, hw]
  have hstay : (Instr.keyThatStays (S k) (S k)).run P w = .ok (S k) w := by
    simp [Instr.keyThatStays, Instr.sameBits, Ed]
  have hmod : (es.modify i fun e => { e with key := S k }) = es := by
    apply Array.ext'
    apply List.ext_getElem?
    intro j
    simp only [Array.toList_modify, List.getElem?_modify]
    by_cases hij : i = j
    · subst hij
      rw [Array.getElem?_toList, he]
      simp [← hek]
    · cases es.toList[j]? <;> simp [hij]
  have hset : (setObj r (.map es clock)).run P w = .ok () { w with heap := w.heap.setIfInBounds r (.map es clock) } := by
    simp [setObj, Sem.run, hw]
  simp only [Instr.mapEntry, Sem.run_bind, run_underlying tm.h, Result.andThen_ok, Instr.findKey, run_underlying hk, hf, S4 hk, hg, Sem.run_pure]
  simp only [he, Option.map_some, Option.getD_some, hek, hstay, Result.andThen_ok, hmod, hset]
theorem Ab {r : Nat} {o : Obj} (h : w.heap[r]? = some o) : ({ w with heap := w.heap.setIfInBounds r o } : World) = w := by
  have : w.heap.setIfInBounds r o = w.heap := by
    apply Array.ext'
    apply List.ext_getElem?
    intro j
    simp only [Array.toList_setIfInBounds, List.getElem?_set]
    by_cases hj : r = j
    · subst hj
      rw [if_pos rfl]
      have := h
      rw [← Array.getElem?_toList] at this
      rw [this, if_pos (by have := (Array.getElem?_eq_some_iff.1 h).1; simpa using this)]
    · rw [if_neg hj]
  rw [this]
theorem Q0E {r : Nat} {o o' : Obj} (h : w.heap[r]? = some o') : Upd w r { w with heap := w.heap.setIfInBounds r o } ∧ ({ w with heap := w.heap.setIfInBounds r o } : World).heap[r]? = some o := by
  have hl := (Array.getElem?_eq_some_iff.1 h).1
  exact ⟨⟨rfl, rfl, rfl, by simp, fun k hk => by simp only [Array.getElem?_setIfInBounds]; rw [if_neg (by omega)]⟩, by simp [Array.getElem?_setIfInBounds, hl]⟩
structure Ent3 (P : Program) (t : TypeId) (r : Nat) (k : List UInt8) (u : Value) (m : List (List UInt8 × Value)) (O0 O1 O2 : Obj) (stamp : Nat) : Prop where
  same : O0 = O2 → O1 = O0
  put : N5 (some O2) (Jn m k u)
  entry : ∀ {w : World} {K : Value → World → Prop}, (w.heap[r]? = some O0 ∨ w.heap[r]? = some O1 ∨ w.heap[r]? = some O2) → (∀ x w', Upd w r w' → (w.heap[r]? = some O0 → w'.heap[r]? = some O1) → (w.heap[r]? ≠ some O0 → w'.heap[r]? = w.heap[r]?) → K (.tuple #[x, I stamp]) w') → mapEntry P t (.map (some r)) (S k) w K
  store : ∀ {w : World} {K : Value → World → Prop}, (w.heap[r]? = some O1 ∨ w.heap[r]? = some O2) → (∀ w', Upd w r w' → w'.heap[r]? = some O2 → K undef w') → entryStore P t (.map (some r)) (I stamp) u w K
theorem Q9m {t kt et : TypeId} {by_ : Nat} {z : Value} [tm : TM P t kt et] [tz : TZ P et 1 by_ z] (hk : P.underlying kt = some .string) {r : Nat} {m : List (List UInt8 × Value)} (hm : N5 (w.heap[r]?) m) (k : List UInt8) (u : Value) :
    ∃ O0 O1 O2 stamp, w.heap[r]? = some O0 ∧ Ent3 P t r k u m O0 O1 O2 stamp := by
  obtain ⟨es, clock, h1, h2, h3, h4⟩ := hm
  obtain ⟨r', q1, q2, q3, q4⟩ := Dv k es.toList m 0 h2
  -- the array behind it, the place, the stamp
  have fin : ∀ (es1 : Array MapEntry) (clock1 i : Nat) (e1 : MapEntry) (v1 : Value), Instr.findNow .string (S k) es1.toList 0 = some (some (i, v1)) → es1[i]? = some e1 → e1.key = S k → (es1.toList.map (·.born)).Pairwise (· < ·) →
      (Obj.map es clock = .map (es1.modify i fun e => { e with val := u }) clock1 → Obj.map es1 clock1 = Obj.map es clock) → N5 (some (.map (es1.modify i fun e => { e with val := u }) clock1)) (Jn m k u) →
      (∀ {w : World}, w.heap[r]? = some (.map es clock) → ∃ x, (Instr.mapEntry t (.map (some r)) (S k)).run P w = .ok (.tuple #[x, I e1.born]) { w with heap := w.heap.setIfInBounds r (.map es1 clock1) }) →
      ∃ O0 O1 O2 stamp, w.heap[r]? = some O0 ∧ Ent3 P t r k u m O0 O1 O2 stamp := by
    intro es1 clock1 i e1 v1 f1 f2 f3 f4 f5 f6 f7
    obtain ⟨_, hil, f8⟩ := Tb k u es1.toList 0 i v1 f1
    simp only [Nat.sub_zero] at hil f8
    have hil1 : i < es1.size := by simpa using hil
    have f9 : (es1.modify i fun e => { e with val := u })[i]? = some { e1 with val := u } := by
      rw [Array.getElem?_modify, if_pos rfl, f2]; rfl
    have f8' : Instr.findNow .string (S k) (es1.modify i fun e => { e with val := u }).toList 0 = some (some (i, u)) := by
      rw [Array.toList_modify]; exact f8
    have hfind : ∀ (es' : Array MapEntry), es'.toList.map (·.born) = es1.toList.map (·.born) → es'.findIdx? (fun e => (e.born : Int) == e1.born) = some i := by
      intro es' hb
      obtain ⟨le⟩ := es'
      have e0 : (Array.mk le).findIdx? (fun e => (e.born : Int) == e1.born) = le.findIdx? (fun e => (e.born : Int) == e1.born) := List.findIdx?_toArray ..
      rw [e0, List.findIdx?_eq_some_iff_getElem]
      generalize hes' : (Array.mk le) = es' at *
      have hle : le = es'.toList := by rw [← hes']
      subst hle
      have hlen : es'.toList.length = es1.toList.length := by have := congrArg List.length hb; simpa using this
      have hbi : ∀ j (hj : j < es'.toList.length), (es'.toList[j]).born = (es1.toList[j]'(by omega)).born := fun j hj => by
        have h5 : (es'.toList.map (·.born))[j]? = (es1.toList.map (·.born))[j]? := by rw [hb]
        rw [List.getElem?_map, List.getElem?_map, List.getElem?_eq_getElem hj, List.getElem?_eq_getElem (by omega)] at h5
        simpa using h5
      have he1 : es1.toList[i] = e1 := by
        have := f2
        rw [← Array.getElem?_toList, List.getElem?_eq_getElem hil] at this
        simpa using this
      refine ⟨by omega, by rw [hbi i (by omega), he1]; simp, fun j hj => ?_⟩
      have hjl : j < es1.toList.length := by omega
      have := (List.pairwise_iff_getElem.1 f4) j i (by simpa using hjl) (by simpa using hil) hj
      simp only [List.getElem_map] at this
      rw [hbi j (by omega)]
      rw [he1] at this
      simp only [beq_iff_eq]; omega
    have hborn2 : (es1.modify i fun e => { e with val := u }).toList.map (·.born) = es1.toList.map (·.born) := by
      apply List.ext_getElem?
      intro j
      simp only [Array.toList_modify, List.getElem?_map, List.getElem?_modify]
      by_cases hij : i = j <;> cases es1.toList[j]? <;> simp [hij]
    have hmm : (es1.modify i fun e => { e with val := u }).modify i (fun e => { e with val := u }) = es1.modify i fun e => { e with val := u } := by
      apply Array.ext'
      apply List.ext_getElem?
      intro j
      simp only [Array.toList_modify, List.getElem?_modify]
      by_cases hij : i = j <;> cases es1.toList[j]? <;> simp [hij]
    have hstore : ∀ (es' : Array MapEntry) {w : World}, es'.toList.map (·.born) = es1.toList.map (·.born) → w.heap[r]? = some (.map es' clock1) → (Instr.entryStore t (.map (some r)) (I e1.born) u).run P w = .ok () { w with heap := w.heap.setIfInBounds r (.map (es'.modify i fun e => { e with val := u }) clock1) } := by
      intro es' w hb hw
      have hg : (getObj r).run P w = .ok (.map es' clock1) w := by simp [getObj, Sem.run, hw]
      have hset : ∀ o, (setObj r (.map o clock1)).run P w = .ok () { w with heap := w.heap.setIfInBounds r (.map o clock1) } := by
        intro o; simp [setObj, Sem.run, hw]
      simp only [Instr.entryStore, Sem.run_bind, hg, Result.andThen_ok, asInt, Sem.run_pure, asIntOf, hfind es' hb, hset]
    refine ⟨.map es clock, .map es1 clock1, .map (es1.modify i fun e => { e with val := u }) clock1, e1.born, h1, f5, f6, ?_, ?_⟩
    · intro w K hw hK
      unfold mapEntry
      rcases hw with hw | hw | hw
      · obtain ⟨x, hx⟩ := f7 hw
        rw [Y0 hx]
        obtain ⟨u1, u2⟩ := Q0E (o := .map es1 clock1) hw
        exact hK x _ u1 (fun _ => u2) fun h => absurd hw h
      · have := Zs (P := P) (t := t) hk hw f1 f2 f3
        rw [Ab hw] at this
        rw [Y0 this]
        refine hK _ w ⟨rfl, rfl, rfl, rfl, fun _ _ => rfl⟩ (fun h0 => ?_) fun _ => rfl
        exact hw
      · have := Zs (P := P) (t := t) hk hw f8' f9 f3
        rw [Ab hw] at this
        rw [Y0 this]
        refine hK _ w ⟨rfl, rfl, rfl, rfl, fun _ _ => rfl⟩ (fun h0 => ?_) fun _ => rfl
        rw [h0] at hw
        cases hw
        rw [h0, f5 rfl]
    · intro w K hw hK
      unfold entryStore
      rcases hw with hw | hw
      · rw [Ln (hstore es1 rfl hw)]
        obtain ⟨u1, u2⟩ := Q0E (o := .map (es1.modify i fun e => { e with val := u }) clock1) hw
        exact hK _ u1 u2
      · have := hstore _ hborn2 hw
        rw [hmm, Ab hw] at this
        rw [Ln this]
        exact hK _ ⟨rfl, rfl, rfl, rfl, fun _ _ => rfl⟩ hw
  cases r' with
  | none =>
    obtain ⟨i, hi, hsz, hby, hzero⟩ := tz.info
    have hz : ∀ w : World, (zeroValue et).run P w = .ok z w := fun w => Qy tz w
    refine fin (es.push { key := S k, val := z, born := clock }) (clock + 1) es.size { key := S k, val := z, born := clock } z ?_ (by simp) rfl ?_ ?_ ?_ ?_
    · have := Gk k { key := S k, val := z, born := clock } rfl es.toList 0 q1
      simpa using this
    · simp only [Array.toList_push, List.map_append, List.map_cons, List.map_nil]
      rw [List.pairwise_append]
      refine ⟨h3, by simp, ?_⟩
      intro a ha b hb
      simp at hb; subst hb
      obtain ⟨e, he, rfl⟩ := List.mem_map.1 ha
      exact h4 e he
    · intro e
      injection e with e1 e2
      omega
    · refine ⟨_, _, rfl, ?_, ?_, ?_⟩
      · rw [q4 rfl]
        simp only [Array.toList_modify, Array.toList_push]
        rw [← Array.length_toList, Ck]
        simp [h2]
      · have : ((es.push { key := S k, val := z, born := clock }).modify es.size fun e => { e with val := u }).toList.map (·.born) = es.toList.map (·.born) ++ [clock] := by
          simp only [Array.toList_modify, Array.toList_push]
          rw [← Array.length_toList, Ck]
          simp
        rw [this, List.pairwise_append]
        refine ⟨h3, by simp, ?_⟩
        intro a ha b hb
        simp at hb; subst hb
        obtain ⟨e, he, rfl⟩ := List.mem_map.1 ha
        exact h4 e he
      · intro e he
        simp only [Array.toList_modify, Array.toList_push] at he
        rw [← Array.length_toList, Ck] at he
        rcases List.mem_append.1 he with he | he
        · have := h4 e he; omega
        · simp at he; subst he; simp
    · intro w hw
      have hg : (getObj r).run P w = .ok (.map es clock) w := by simp [getObj, Sem.run, hw]
      have hset : ∀ o c, (setObj r (.map o c)).run P w = .ok () { w with heap := w.heap.setIfInBounds r (.map o c) } := by
        intro o c; simp [setObj, Sem.run, hw]
      refine ⟨z, ?_⟩
      simp only [Instr.mapEntry, Sem.run_bind, run_underlying tm.h, Result.andThen_ok, Instr.findKey, run_underlying hk, q1, S4 hk, hg, Sem.run_pure, hz, hset]
      rfl
  | some p =>
    obtain ⟨j, v⟩ := p
    obtain ⟨z1, z2, z3⟩ := q3 j v rfl
    obtain ⟨e, e1, e2⟩ := z2
    simp only [Nat.sub_zero] at e1 z3
    have e1' : es[j]? = some e := by rw [← Array.getElem?_toList]; exact e1
    refine fin es clock j e v q1 e1' e2 h3 (fun _ => rfl) ?_ fun hw => ⟨v, Zs hk hw q1 e1' e2⟩
    refine ⟨_, _, rfl, ?_, ?_, ?_⟩
    · have := z3 u
      rw [← this, Array.toList_modify]
      congr 1
      apply List.ext_getElem?
      intro n
      simp only [List.getElem?_modify]
      by_cases hjn : j = n
      · subst hjn; rw [e1]; simp [e2]
      · simp [hjn]
    · have : (es.modify j fun e => { e with val := u }).toList.map (·.born) = es.toList.map (·.born) := by
        apply List.ext_getElem?
        intro n
        simp only [Array.toList_modify, List.getElem?_map, List.getElem?_modify]
        by_cases hjn : j = n <;> cases es.toList[n]? <;> simp [hjn]
      rw [this]; exact h3
    · intro x hx
      have : x.born ∈ (es.modify j fun e => { e with val := u }).toList.map (·.born) := List.mem_map.2 ⟨x, hx, rfl⟩
      have hb : (es.modify j fun e => { e with val := u }).toList.map (·.born) = es.toList.map (·.born) := by
        apply List.ext_getElem?
        intro n
        simp only [Array.toList_modify, List.getElem?_map, List.getElem?_modify]
        by_cases hjn : j = n <;> cases es.toList[n]? <;> simp [hjn]
      rw [hb] at this
      obtain ⟨y, hy, e⟩ := List.mem_map.1 this
      rw [← e]; exact h4 y hy
end Go.Emb

namespace Go.Hm
open Go.Kd Go.Emb
abbrev H0 := List (X0 × X0)
def E6 : H0 → X0 → Option X0
  | [], _ => none
  | p :: r, k => if p.1 = k then some p.2 else E6 r k
def Ns : H0 → X0 → X0 → H0
  | [], k, v => [(k, v)]
  | p :: r, k, v => if p.1 = k then (k, v) :: r else p :: Ns r k v
def B1 (m : H0) : List (List UInt8 × Value) := m.map fun p => (p.1, S p.2)
theorem Q5i (m : H0) (k : X0) : E5 (B1 m) k = (E6 m k).map S := by
  induction m with
  | nil => rfl
  | cons p r ih =>
    simp only [B1, List.map_cons, E5, E6]
    split
    · rfl
    · exact ih
theorem Q1T (m : H0) (k v : X0) : Jn (B1 m) k (S v) = B1 (Ns m k v) := by
  induction m with
  | nil => rfl
  | cons p r ih =>
    simp only [B1, List.map_cons, Jn, Ns]
    split
    · rfl
    · rw [List.map_cons]; congr 1
theorem Ig (m : H0) (k v n : X0) : E6 (Ns m k v) n = if k = n then some v else E6 m n := by
  induction m with
  | nil => simp [Ns, E6]
  | cons p r ih =>
    simp only [Ns]
    by_cases h : p.1 = k
    · rw [if_pos h]
      simp only [E6]
      by_cases h2 : k = n
      · simp [h2]
      · rw [if_neg h2, if_neg h2, if_neg (by rw [h]; exact h2)]
    · rw [if_neg h]
      simp only [E6]
      by_cases h2 : p.1 = n
      · rw [if_pos h2, if_pos h2, if_neg (by intro e; exact h (h2.trans e.symm))]
      · rw [if_neg h2, if_neg h2]; exact ih
def Zp (d : X0) (s : H0 × H0) (m : Hm.Met) : Bool × (H0 × H0) :=
  ((match E6 s.1 m.name with | some x => !decide (x = K4 m) | none => false), (Ns s.1 m.name (K4 m), Ns s.2 m.name d))
end Go.Hm
namespace Go.Emb
open Go.RowKit Go.Hm
theorem N5.of_below {w w' : World} {r : Nat} {m : List (List UInt8 × Value)} (h : N5 (w.heap[r]?) m) (hb : Below w.heap.size w w') : N5 (w'.heap[r]?) m := by
  obtain ⟨es, clock, h1, h2⟩ := h
  rw [hb.block r (Array.getElem?_eq_some_iff.1 h1).1]
  exact ⟨es, clock, h1, h2⟩
theorem Q5h {P : Program} {w : World} {K : Value → World → Prop} {t kt et : TypeId} {sz by_ : Nat} {z : Value} [tm : TM P t kt et] [tz : TZ P et sz by_ z] (hk : P.underlying kt = some .string) {r : Nat} {m : List (List UInt8 × Value)} (hm : N5 (w.heap[r]?) m) (k : List UInt8)
    (h : K (.tuple #[(E5 m k).getD z, .bool (E5 m k).isSome]) w) : lookup P t (.map (some r)) (S k) true w K := by
  rw [Ac hk hm k]; cases e : E5 m k <;> rw [e] at h <;> exact h
theorem N5.lt {w : World} {r : Nat} {m : List (List UInt8 × Value)} (h : N5 (w.heap[r]?) m) : r < w.heap.size := by
  obtain ⟨es, clock, h1, h2⟩ := h
  exact (Array.getElem?_eq_some_iff.1 h1).1
end Go.Emb
namespace Go.Proofs.YtdnfaboigajkhaaGreatDoor
open Go.Emb Go.RowKit Go.Kd Go.Hm
variable {w : World} {K : Value → World → Prop} {σ : Q6} {v : Value} {l : List Cla}
theorem Q9a {m : Hm.Met} {cs ds : List Value} {pa pb q : Addr} {r1 r2 : Nat} {s : H0 × H0} {d : X0} (hs : X6 w σ) (hm : M8 σ m cs) (hsm : SmM m) (hn : NmM m) (hpa : J4 σ pa [.map (some r1)]) (hpb : J4 σ pb [.map (some r2)]) (hq : J4 σ q (S d :: ds))
    (hr1 : σ r1 = none) (hr2 : σ r2 = none) (hne : r1 ≠ r2) (hM1 : N5 (w.heap[r1]?) (B1 s.1)) (hM2 : N5 (w.heap[r2]?) (B1 s.2))
    (h : ∀ w', Kpt (fun k => k = r1 ∨ k = r2) w w' → N5 (w'.heap[r1]?) (B1 (Zp d s m).2.1) → N5 (w'.heap[r2]?) (B1 (Zp d s m).2.2) → K (.bool (Zp d s m).1) w') :
    Q1 P F.az [.agg cs.toArray, .pointer (some pa), .pointer (some q), .pointer (some pb)] w K := Mi (by
  have hm0 := hm
  obtain ⟨pv, cv, hv, rfl, g1, g2, g3, g4, g5, g6⟩ := hm
  unfold Qp
  refine Z8 hs fun a w1 σ1 hk1 ha => ?_
  have hl1 := hM1.lt
  have hl2 := hM2.lt
  have hM1 := hM1.of_below hk1.bel
  have hM2 := hM2.of_below hk1.bel
  have hr1' : σ1 r1 = none := (hk1.old r1 hl1).trans hr1
  have hr2' : σ1 r2 = none := (hk1.old r2 hl2).trans hr2
  refine X7 hk1.sat (hpa.up hk1) rfl ?_
  rw [fa]
  refine ld hk1.sat ha rfl ?_
  refine Q5h X8 hM1 m.name ?_
  have hlk : (.tuple #[(E5 (B1 s.1) m.name).getD (.string ⟨#[]⟩), .bool (E5 (B1 s.1) m.name).isSome] : Value) = .tuple #[S ((E6 s.1 m.name).getD []), .bool (E6 s.1 m.name).isSome] := by
    rw [Q5i]; cases E6 s.1 m.name <;> rfl
  rw [hlk]
  refine M4 (vs := [_, _]) rfl ?_
  refine M4 (vs := [_, _]) rfl ?_
  obtain ⟨O0, O1, O2, stamp, hO0, E⟩ := Q9m (P := P) (t := T.o) X8 hM1 m.name (S (K4 m))
  have hl11 := hM1.lt
  refine Q05 (fun w2 w3 => Kpt (fun k => k = r1) w2 w3 ∧ (w3.heap[r1]? = w2.heap[r1]? ∨ (w2.heap[r1]? = some O0 ∧ O0 ≠ O2 ∧ w3.heap[r1]? = some O1) ∨ w3.heap[r1]? = some O2))
    (fun w2 => Kpt (fun k => k = r1) w1 w2 ∧ X6 w2 σ1 ∧ (w2.heap[r1]? = some O0 ∨ w2.heap[r1]? = some O1 ∨ w2.heap[r1]? = some O2))
    ⟨.of_below (Below.refl _ _).drew, hk1.sat.below (Below.refl _ _).drew, .inl hO0⟩ (fun w2 w3 hb ht => ⟨hb.1.trans ht.1, ht.1.sat hb.2.1 (fun k hk => hk ▸ hr1'), by
      rcases ht.2 with e | ⟨_, _, e⟩ | e
      · rw [e]; exact hb.2.2
      · exact .inr (.inl e)
      · exact .inr (.inr e)⟩) ?_
  refine X2 (.pointer (some (a.add 0))) (fun w hb => by rw [fa]; exact ⟨⟨Kpt.refl, .inl rfl⟩, rfl⟩) ?_
  refine X2 (.pointer (some (a.add 0))) (fun w hb => by rw [fa]; exact ⟨⟨Kpt.refl, .inl rfl⟩, rfl⟩) ?_
  refine X2 (.pointer (some (q.add 0))) (fun w hb => by rw [fa]; exact ⟨⟨Kpt.refl, .inl rfl⟩, rfl⟩) ?_
  refine X2 (.map (some r1)) (fun w hb => X7 hb.2.1 (hpa.up hk1) rfl ⟨⟨Kpt.refl, .inl rfl⟩, rfl⟩) ?_
  refine X2 (S m.name) (fun t w hb e => by rw [e]; exact ld hb.2.1 ha rfl ⟨⟨Kpt.refl, .inl rfl⟩, rfl⟩) ?_
  refine X2 (.map (some r2)) (fun w hb => X7 hb.2.1 (hpb.up hk1) rfl ⟨⟨Kpt.refl, .inl rfl⟩, rfl⟩) ?_
  refine X2 (S m.name) (fun t w hb e => by rw [e]; exact ld hb.2.1 ha rfl ⟨⟨Kpt.refl, .inl rfl⟩, rfl⟩) ?_
  refine X2 (.agg [S m.name, pv, S m.result, .bool m.abs, I m.locals, cv, hv].toArray) (fun w hb => Z0 hb.2.1 ha rfl ⟨⟨Kpt.refl, .inl rfl⟩, rfl⟩) ?_
  refine X2 (S (K4 m)) (fun t w2 hb e => by
    rw [e]
    exact Q5y hb.2.1 (S3 hm0 ⟨hk1.le⟩) hsm hn fun w3 σ3 hk3 => ⟨⟨.of_below hk3.bel, .inl (hk3.bel.block r1 (Nat.lt_of_lt_of_le hl11 hb.1.size))⟩, rfl⟩) ?_
  refine X2 (S d) (fun t w hb e => by rw [e]; exact ld hb.2.1 (hq.up hk1) rfl ⟨⟨Kpt.refl, .inl rfl⟩, rfl⟩) ?_
  have st : ∀ {w2 w3 : World}, (w2.heap[r1]? = some O1 ∨ w2.heap[r1]? = some O2) → (w3.heap[r1]? = w2.heap[r1]? ∨ (w2.heap[r1]? = some O0 ∧ O0 ≠ O2 ∧ w3.heap[r1]? = some O1) ∨ w3.heap[r1]? = some O2) → (w3.heap[r1]? = some O1 ∨ w3.heap[r1]? = some O2) := by
    intro w2 w3 h1 h2
    rcases h2 with e | ⟨_, _, e⟩ | e
    · rw [e]; exact h1
    · exact .inl e
    · exact .inr e
  refine N9 (fun u w2 => (∃ x, u = .tuple #[x, I stamp]) ∧ (w2.heap[r1]? = some O1 ∨ w2.heap[r1]? = some O2)) (fun u w2 w3 h1 ht => ⟨h1.1, st h1.2 ht.2⟩) (fun t15 t17 w2 hb e1 e2 => ?_) ?_
  · rw [e1, e2]
    refine E.entry hb.2.2 fun x w3 hu3 he0 he1 => ?_
    by_cases h0 : w2.heap[r1]? = some O0
    · have h1 := he0 h0
      refine ⟨⟨Kpt.of_upd hu3 rfl, ?_⟩, ⟨x, rfl⟩, .inl h1⟩
      by_cases h02 : O0 = O2
      · left; rw [h1, h0, E.same h02]
      · exact .inr (.inl ⟨h0, h02, h1⟩)
    · have h1 := he1 h0
      refine ⟨⟨Kpt.of_upd hu3 rfl, .inl h1⟩, ⟨x, rfl⟩, ?_⟩
      rw [h1]; exact hb.2.2.resolve_left h0
  refine N9 (fun u w2 => u = I stamp ∧ (w2.heap[r1]? = some O1 ∨ w2.heap[r1]? = some O2)) (fun u w2 w3 h1 ht => ⟨h1.1, st h1.2 ht.2⟩) (fun t w2 hb e => ?_) ?_
  · obtain ⟨⟨x, rfl⟩, h1⟩ := e
    exact M4 (vs := [_, _]) rfl ⟨⟨Kpt.refl, .inl rfl⟩, rfl, h1⟩
  refine N9 (fun _ w2 => w2.heap[r1]? = some O2) (fun u w2 w3 h1 ht => ?_) (fun t15 t26 t22 w2 hb e1 e2 e3 => ?_) ?_
  · rcases ht.2 with e | ⟨e, h02, _⟩ | e
    · exact e.trans h1
    · rw [h1] at e; cases e; exact absurd rfl h02
    · exact e
  · rw [e1, e3, e2.1]
    refine E.store e2.2 fun w3 hu3 h3 => ⟨⟨Kpt.of_upd hu3 rfl, .inr (.inr h3)⟩, h3⟩
  rintro t16 t19 t23 t15 t17 t18 t20 t21 t22 t24 t25 t26 u12 w2 hb2 _ _ _ _ _ rfl rfl _ _ rfl _ _ hO2
  have hP1 : N5 (w2.heap[r1]?) (B1 (Ns s.1 m.name (K4 m))) := by
    rw [hO2, ← Q1T]; exact E.put
  have hP2 : N5 (w2.heap[r2]?) (B1 s.2) := by
    rw [hb2.1.block r2 hM2.lt fun e => hne e.symm]; exact hM2
  refine Cn X8 ⟨hr2', hP2⟩ m.name (S d) fun w3 hu3 hm3 => ?_
  have hP3 : N5 (w3.heap[r2]?) (B1 (Ns s.2 m.name d)) := by rw [← Q1T]; exact hm3.2
  have hP13 : N5 (w3.heap[r1]?) (B1 (Ns s.1 m.name (K4 m))) := by rw [hu3.block r1 hne]; exact hP1
  have hk3 : Kpt (fun k => k = r1 ∨ k = r2) w w3 := ((Kpt.of_below hk1.bel).trans (hb2.1.mono fun k _ h => .inl h)).trans (Kpt.of_upd hu3 (.inr rfl))
  have hs3 : X6 w3 σ1 := (Kpt.of_upd (D := fun k => k = r2) hu3 rfl).sat hb2.2.1 fun k hk => hk ▸ hr2'
  unfold Zp at h
  cases ho : E6 s.1 m.name with
  | none =>
    rw [ho] at h
    simp only [Option.isSome_none, ↓Mm, Mm, ↓Mp, Mp, Mb, reduceIte]
    exact h w3 hk3 hP13 hP3
  | some x =>
    rw [ho] at h
    simp only [Option.isSome_some, Option.getD_some, ↓Mm, Mm, ↓Mp, Mp, Mb, reduceIte]
    refine Z0 hs3 ha rfl ?_
    refine Q5y hs3 (S3 hm0 ⟨hk1.le⟩) hsm hn fun w4 σ4 hk4 => ?_
    simp only [↓Mm, Mm, ↓Mp, Mp, Mb, reduceIte]
    exact h w4 (hk3.trans (Kpt.of_below hk4.bel)) (hP13.of_below hk4.bel) (hP3.of_below hk4.bel))
end Go.Proofs.YtdnfaboigajkhaaGreatDoor

namespace Go.Hm
open Go.Kd Go.Emb
def Ow (s : H0 × H0) (c : Cla) : Bool × (H0 × H0) := ((U6 (Zp c.name) s c.methods 0).1.isSome, (U6 (Zp c.name) s c.methods 0).2)
def Nc (ms : List Hm.Met) : Prop := ∃ x ∈ ms, ∃ y ∈ ms, x.name = y.name ∧ K4 x ≠ K4 y
theorem Q1j (ms : List Hm.Met) : Wg ms = true ↔ Nc ms := by
  simp [Wg, Nc]
structure Gd (pre : List Hm.Met) (s : H0 × H0) : Prop where
  a : ∀ m ∈ pre, E6 s.1 m.name = some (K4 m)
  b : ∀ k x, E6 s.1 k = some x → ∃ m ∈ pre, m.name = k ∧ K4 m = x
  c : ∀ k, (E6 s.2 k).isSome = true ↔ ∃ m ∈ pre, m.name = k
theorem Gd.no {pre : List Hm.Met} {s : H0 × H0} (h : Gd pre s) : ¬ Nc pre := by
  rintro ⟨x, hx, y, hy, e1, e2⟩
  have h1 := h.a x hx
  have h2 := h.a y hy
  rw [e1, h2] at h1
  exact e2 (Option.some.inj h1).symm
theorem Gd.step {pre : List Hm.Met} {s : H0 × H0} (h : Gd pre s) (d : X0) (m : Hm.Met) : ((Zp d s m).1 = true → Nc (pre ++ [m])) ∧ ((Zp d s m).1 = false → Gd (pre ++ [m]) (Zp d s m).2) := by
  unfold Zp
  constructor
  · intro hf
    cases ho : E6 s.1 m.name with
    | none => rw [ho] at hf; cases hf
    | some x =>
      rw [ho] at hf
      obtain ⟨y, hy, e1, e2⟩ := h.b _ _ ho
      exact ⟨y, by simp [hy], m, by simp, e1, by rw [e2]; simpa using hf⟩
  · intro hf
    have hsame : ∀ x, E6 s.1 m.name = some x → x = K4 m := fun x hx => by rw [hx] at hf; simpa using hf
    refine ⟨fun y hy => ?_, fun k x hx => ?_, fun k => ?_⟩
    · simp only [Ig]
      rcases List.mem_append.1 hy with hy | hy
      · have := h.a y hy
        by_cases e : m.name = y.name
        · rw [if_pos e]; congr 1; exact (hsame _ (by rw [e]; exact this)).symm
        · rw [if_neg e]; exact this
      · simp at hy; subst hy; simp
    · simp only [Ig] at hx
      by_cases e : m.name = k
      · rw [if_pos e] at hx; cases hx; exact ⟨m, by simp, e, rfl⟩
      · rw [if_neg e] at hx
        obtain ⟨y, hy, e1⟩ := h.b _ _ hx
        exact ⟨y, by simp [hy], e1⟩
    · simp only [Ig]
      by_cases e : m.name = k
      · rw [if_pos e]; exact ⟨fun _ => ⟨m, by simp, e⟩, fun _ => rfl⟩
      · rw [if_neg e, h.c k]
        constructor
        · rintro ⟨y, hy, e1⟩; exact ⟨y, by simp [hy], e1⟩
        · rintro ⟨y, hy, e1⟩
          rcases List.mem_append.1 hy with hy | hy
          · exact ⟨y, hy, e1⟩
          · simp at hy; subst hy; exact absurd e1 e
theorem Nc.mono {a b : List Hm.Met} (h : Nc a) (hs : ∀ x ∈ a, x ∈ b) : Nc b := by
  obtain ⟨x, hx, y, hy, e⟩ := h
  exact ⟨x, hs x hx, y, hs y hy, e⟩
theorem Q0d (d : X0) : ∀ (ms pre : List Hm.Met) (s : H0 × H0) (i : Nat), Gd pre s → ((U6 (Zp d) s ms i).1.isSome = true → Nc (pre ++ ms)) ∧ ((U6 (Zp d) s ms i).1.isSome = false → Gd (pre ++ ms) (U6 (Zp d) s ms i).2)
  | [], pre, s, i, h => by simpa [U6] using h
  | m :: r, pre, s, i, h => by
    obtain ⟨h1, h2⟩ := h.step d m
    simp only [U6]
    cases hf : (Zp d s m).1 with
    | true =>
      simp only [if_true, Option.isSome_some]
      exact ⟨fun _ => (h1 hf).mono fun x hx => by simp at hx ⊢; rcases hx with h | h <;> simp [h], fun e => by cases e⟩
    | false =>
      simp only [Bool.false_eq_true, if_false]
      have := Q0d d r (pre ++ [m]) (Zp d s m).2 (i + 1) (h2 hf)
      rw [show pre ++ m :: r = (pre ++ [m]) ++ r by simp]
      exact this
theorem Q0a : ∀ (cs : List Cla) (pre : List Hm.Met) (s : H0 × H0) (i : Nat), Gd pre s → ((U6 Ow s cs i).1.isSome = true → Nc (pre ++ cs.flatMap (·.methods))) ∧ ((U6 Ow s cs i).1.isSome = false → Gd (pre ++ cs.flatMap (·.methods)) (U6 Ow s cs i).2)
  | [], pre, s, i, h => by simpa [U6] using h
  | c :: r, pre, s, i, h => by
    obtain ⟨h1, h2⟩ := Q0d c.name c.methods pre s 0 h
    simp only [U6]
    cases hf : (Ow s c).1 with
    | true =>
      simp only [if_true, Option.isSome_some]
      exact ⟨fun _ => (h1 hf).mono (by simp; intro x hx; rcases hx with hx | hx; exact .inl hx; exact .inr (.inl hx)), fun e => by cases e⟩
    | false =>
      simp only [Bool.false_eq_true, if_false]
      have := Q0a r (pre ++ c.methods) (Ow s c).2 (i + 1) (h2 hf)
      rw [List.flatMap_cons, ← List.append_assoc]
      exact this
theorem Q8M : Gd [] ([], []) := ⟨by simp, by simp [E6], by simp [E6]⟩
theorem Q51 (l : List Cla) (n : X0) : allMets l n = (Ux l n).flatMap (·.methods) := by
  unfold allMets Ux
  induction visits l n with
  | nil => rfl
  | cons u r ih =>
    rw [List.flatMap_cons, List.filterMap_cons]
    cases hu : lk l u with
    | none => simpa [hu] using ih
    | some c => simp only [Option.map_some, Option.getD_some, List.flatMap_cons]; rw [ih]
end Go.Hm
namespace Go.Emb
open Go.RowKit Go.Hm
variable {P : Program} {w w0 w1 w' w'' : World} {K : Value → World → Prop} {σ σ0 σ1 σ' : Q6}
def It (σ : Q6) (w : World) (b r : Nat) (es : Array MapEntry) (clock : Nat) (seen : Array Nat) : Prop := σ b = none ∧ ∃ c0, clock ≤ c0 ∧ w.heap[b]? = some (.mapIter (some r) clock seen c0)
theorem It.step {b r : Nat} {es : Array MapEntry} {clock : Nat} {seen : Array Nat} (h : It σ w b r es clock seen) (k : Stp w σ w' σ') : It σ' w' b r es clock seen := by
  obtain ⟨h1, c0, h2, h3⟩ := h
  have hl := (Array.getElem?_eq_some_iff.1 h3).1
  exact ⟨(k.old b hl).trans h1, c0, h2, (k.bel.block b hl).trans h3⟩
theorem Q8P {t kt et : TypeId} [tm : TM P t kt et] {r : Nat} {es : Array MapEntry} {clock : Nat} (hs : X6 w σ) (hm : w.heap[r]? = some (.map es clock))
    (h : ∀ b w' σ', w.heap.size ≤ b → Stp w σ w' σ' → It σ' w' b r es clock #[] → K (.pointer (some ⟨b, 0, none⟩)) w') : rng P t (.map (some r)) w K := by
  unfold rng
  have hg : (getObj r).run P w = .ok (.map es clock) w := by simp [getObj, Sem.run, hm]
  rw [Y0 (v := .pointer (some ⟨w.heap.size, 0, none⟩)) (w' := w.alloc (.mapIter (some r) clock #[] clock)) (by
    simp only [Instr.range, Sem.run_bind, run_underlying tm.h, Result.andThen_ok, hg, Sem.run_pure]
    simp)]
  exact h _ _ _ (Nat.le_refl _) (Stp.own hs _) ⟨hs.none (Nat.le_refl _), clock, Nat.le_refl _, heap_alloc_new w _⟩
theorem Q8W {t : TypeId} {b r : Nat} {es : Array MapEntry} {clock : Nat} {seen : Array Nat} (hi : It σ w b r es clock seen) (hm : w.heap[r]? = some (.map es clock)) (hold : ∀ x ∈ es.toList, x.born < clock)
    (h0 : (∀ e ∈ es.toList, e.born ∈ seen) → K (.tuple #[.bool false]) w)
    (h1 : ∀ e w', e ∈ es.toList → e.born ∉ seen → Kpt (fun k => k = b) w w' → It σ w' b r es clock (seen.push e.born) → w'.heap[b]? = some (.mapIter (some r) clock (seen.push e.born) clock) → K (.tuple #[.bool true, e.key, e.val]) w') : N3 P (.pointer (some ⟨b, 0, none⟩)) false t w K := by
  obtain ⟨hb, c0, hc, hh⟩ := hi
  unfold N3
  rcases run_next_at (P := P) w t b r clock c0 seen es clock hh hm hold hc with ⟨hz, hrun⟩ | ⟨e, he, w1, hw1, hrun⟩
  · rw [Y0 hrun]
    refine h0 fun e he => Classical.byContradiction fun hn => ?_
    have : e ∈ (leftOf es seen).toList := by
      unfold leftOf
      simp only [Array.toList_filter, List.mem_filter]
      exact ⟨he, by simpa using hn⟩
    have hl : (leftOf es seen).toList.length = 0 := by simpa using hz
    rw [List.eq_nil_of_length_eq_zero hl] at this
    cases this
  · rw [Y0 hrun]
    have he' : e ∈ es.toList ∧ e.born ∉ seen := by
      unfold leftOf at he
      simp only [Array.toList_filter, List.mem_filter] at he
      exact ⟨he.1, by simpa using he.2⟩
    have hh1 : w1.heap[b]? = some (.mapIter (some r) clock seen c0) := by rcases hw1 with rfl | rfl <;> exact hh
    obtain ⟨u1, u2⟩ := Q0E (w := w1) (o := .mapIter (some r) clock (seen.push e.born) clock) hh1
    refine h1 e _ he'.1 he'.2 ?_ ⟨hb, clock, Nat.le_refl _, u2⟩ u2
    have k1 : Kpt (fun k => k = b) w w1 := by
      rcases hw1 with rfl | rfl
      · exact Kpt.refl
      · exact .of_below (Below.refl _ _).drew
    exact k1.trans (Kpt.of_upd u1 rfl)
theorem Q8r {b r : Nat} {es : Array MapEntry} {clock : Nat} {seen : Array Nat} {e : MapEntry} (hh : w.heap[b]? = some (.mapIter (some r) clock (seen.push e.born) clock)) (hm : w.heap[r]? = some (.map es clock)) (he : e ∈ es.toList) (hn : (es.toList.map (·.born)).Nodup)
    (h : K (.tuple #[e.key, e.val]) w) : Q4w P (.pointer (some ⟨b, 0, none⟩)) w K := by
  unfold Q4w
  rw [Y0 (run_entry_at w b r clock seen es clock e hh hm he hn)]
  exact h
end Go.Emb
namespace Go.Proofs.YtdnfaboigajkhaaGreatDoor
open Go.Emb Go.RowKit Go.Kd Go.Hm
variable {w : World} {K : Value → World → Prop} {σ : Q6} {v : Value} {l : List Cla}
theorem F2 (o : Option Nat) : decide ((0 : Int) ≤ W8 o) = o.isSome := by
  cases o with
  | none => rfl
  | some i => simp [W8]
theorem Q0M {q : Addr} {s : X0} (hs : X6 w σ) (ht : Tab σ v l) (hq : J4 σ q [v]) (hl : s.length ≤ V9) (h : ∀ w' σ', Stp w σ w' σ' → K (.bool (thereM l s)) w') : Z4 P (.func (.func F.ah) #[] #[.pointer (some q)]) [S s] w K := Z9 (Oe (by
  unfold Ye
  unfold thereM at h
  refine Ek ?_
  by_cases hn : s = B6
  · have e : decide (s = [110, 117, 108, 108]) = true := decide_eq_true hn
    simp only [e, decide_eq_true hn, ↓Mm, Mm, ↓Mp, Mp, Mb, reduceIte] at h ⊢
    exact h _ _ (Stp.refl hs)
  · have e : decide (s = [110, 117, 108, 108]) = false := decide_eq_false hn
    simp only [e, decide_eq_false hn, ↓Mm, Mm, ↓Mp, Mp, Mb, reduceIte] at h ⊢
    refine X7 hs hq rfl ?_
    refine Hh hs ht hl fun w1 σ1 hk1 => ?_
    (try simp only [↓Mm, Mm, ↓Mp, Mp, Mb, reduceIte])
    exact h _ _ hk1))
theorem Q4N {q p : Addr} {s : X0} (hs : X6 w σ) (ht : Tab σ v l) (hq : J4 σ q [v]) (hp : J4 σ p [.func (.func F.ah) #[] #[.pointer (some q)]]) (hl : s.length ≤ V9) (h : ∀ w' σ', Stp w σ w' σ' → K (.bool (!thereM l s)) w') : Z4 P (.func (.func F.ai) #[] #[.pointer (some p)]) [S s] w K := Z9 (Nw (by
  unfold Xt
  refine X7 hs hp rfl ?_
  refine Q0M hs ht hq hl fun w1 σ1 hk1 => ?_
  refine U3 ?_
  exact h _ _ hk1))
theorem Q3h {c : Cla} {cs : List Value} {pa pb : Addr} {r1 r2 : Nat} {s : H0 × H0} (hs : X6 w σ) (hc : V0 σ c cs) (hsm : K2 c) (hn : Nm c) (hpa : J4 σ pa [.map (some r1)]) (hpb : J4 σ pb [.map (some r2)])
    (hr1 : σ r1 = none) (hr2 : σ r2 = none) (hne : r1 ≠ r2) (hM1 : N5 (w.heap[r1]?) (B1 s.1)) (hM2 : N5 (w.heap[r2]?) (B1 s.2))
    (h : ∀ w', Kpt (fun k => k = r1 ∨ k = r2) w w' → N5 (w'.heap[r1]?) (B1 (Ow s c).2.1) ∧ N5 (w'.heap[r2]?) (B1 (Ow s c).2.2) → K (.bool (Ow s c).1) w') :
    Z4 P (.func (.func F.aG) #[] #[.pointer (some pa), .pointer (some pb)]) [.agg cs.toArray] w K := Z9 (Nu (by
  obtain ⟨lv, fv, mv, rfl, g1, g2, g3, g4, g5⟩ := hc
  unfold Xs
  refine Z8 hs fun q w1 σ1 hk1 hq => ?_
  rw [fa]
  refine ld hk1.sat hq rfl ?_
  rw [Qz]
  have hl1 := hM1.lt
  have hl2 := hM2.lt
  have hr1' : σ1 r1 = none := (hk1.old r1 hl1).trans hr1
  have hr2' : σ1 r2 = none := (hk1.old r2 hl2).trans hr2
  refine Xn (Zp c.name) s (fun s w' => X6 w' σ1 ∧ N5 (w'.heap[r1]?) (B1 s.1) ∧ N5 (w'.heap[r2]?) (B1 s.2)) (fun k => k = r1 ∨ k = r2) (fun _ _ h => h.1) ⟨hk1.sat, hM1.of_below hk1.bel, hM2.of_below hk1.bel⟩ (g3.up hk1)
    (fun s x cs w2 K hx hk2 hi hr hlen hK => Z9 ?_) fun w2 hk2 hi => ?_
  · refine Q9a (s := s) (d := c.name) hi.1 hr (hsm.2.2.2 x hx) (hn.2.2 x hx) (hpa.up hk1) (hpb.up hk1) hq hr1' hr2' hne hi.2.1 hi.2.2 fun w3 hk3 h1 h2 => ?_
    exact hK w3 (hk2.trans hk3) ⟨hk3.sat hi.1 fun k hk => by rcases hk with rfl | rfl <;> assumption, h1, h2⟩
  · exact h w2 ((Kpt.of_below hk1.bel).trans hk2) hi.2))
end Go.Proofs.YtdnfaboigajkhaaGreatDoor

namespace Go.Emb
open Go.RowKit Go.Hm
theorem Stp.nx {D : Nat → Prop} {w w1 w2 : World} {σ σ1 σ2 : Q6} (hS : Stp w σ w1 σ1) (hn : Nxt D w1 σ1 w2 σ2) (hD : ∀ k, D k → w.heap.size ≤ k) : Stp w σ w2 σ2 :=
  ⟨⟨hn.kp.os.trans hS.bel.os, hn.kp.tape.trans hS.bel.tape, hn.kp.output.trans hS.bel.output, Nat.le_trans hS.bel.size hn.kp.size, fun k hk => (hn.kp.block k (Nat.lt_of_lt_of_le hk hS.bel.size) fun e => by have := hD k e; omega).trans (hS.bel.block k hk)⟩,
    hn.sat, fun b o e => hn.le.le b o (hS.le b o e), fun k hk => (hn.old k (Nat.lt_of_lt_of_le hk hS.bel.size)).trans (hS.old k hk)⟩
end Go.Emb
namespace Go.Hm
open Go.Kd Go.Emb
theorem Q7q {es : Array MapEntry} {m : H0} (h : es.toList.map (fun e => (e.key, e.val)) = (B1 m).map (fun p => (S p.1, p.2))) :
    (∀ e ∈ es.toList, ∃ k, e.key = S k ∧ (E6 m k).isSome = true) ∧ ∀ k, (E6 m k).isSome = true → ∃ e ∈ es.toList, e.key = S k := by
  have mem : ∀ (m : H0) k, (E6 m k).isSome = true ↔ k ∈ m.map (·.1) := by
    intro m
    induction m with
    | nil => intro k; simp [E6]
    | cons p r ih =>
      intro k
      simp only [E6, List.map_cons, List.mem_cons]
      by_cases e : p.1 = k
      · simp [e]
      · rw [if_neg e, ih k]
        constructor
        · exact .inr
        · rintro (h | h)
          · exact absurd h.symm e
          · exact h
  constructor
  · intro e he
    have h1 : (e.key, e.val) ∈ es.toList.map (fun e => (e.key, e.val)) := List.mem_map.2 ⟨e, he, rfl⟩
    rw [h] at h1
    obtain ⟨p, hp, e1⟩ := List.mem_map.1 h1
    obtain ⟨q, hq, rfl⟩ := List.mem_map.1 hp
    simp only [Prod.mk.injEq] at e1
    exact ⟨q.1, e1.1.symm, (mem m _).2 (List.mem_map.2 ⟨q, hq, rfl⟩)⟩
  · intro k hk
    obtain ⟨q, hq, rfl⟩ := List.mem_map.1 ((mem m k).1 hk)
    have h1 : (S q.1, S q.2) ∈ (B1 m).map (fun p => (S p.1, p.2)) := List.mem_map.2 ⟨(q.1, S q.2), List.mem_map.2 ⟨q, hq, rfl⟩, rfl⟩
    rw [← h] at h1
    obtain ⟨e, he, e1⟩ := List.mem_map.1 h1
    simp only [Prod.mk.injEq] at e1
    exact ⟨e, he, e1.1⟩
def Me (l : List Cla) (m : Hm.Met) : Bool := (!thereM l m.result && !decide (m.result = [])) || m.params.any fun s => !thereM l s
end Go.Hm
namespace Go.Proofs.YtdnfaboigajkhaaGreatDoor
open Go.Emb Go.RowKit Go.Kd Go.Hm
variable {w : World} {K : Value → World → Prop} {σ : Q6} {v : Value} {l : List Cla}
set_option maxHeartbeats 1000000 in
theorem Q5X {c : Cla} {cs : List Value} (hs : X6 w σ) (ht : Tab σ v l) (ok : Ok l) (hc : V0 σ c cs) (hsm : K2 c) (hn : Nm c) (h : ∀ w' σ', Stp w σ w' σ' → K (I (membersM l c)) w') : Q1 P F.aM [v, .agg cs.toArray] w K := Eo (by
  obtain ⟨lv, fv, mv, rfl, g1, g2, g3, g4, g5⟩ := hc
  unfold Jd
  obtain ⟨a, _, _, _, hv, _⟩ := ht.ex
  unfold membersM at h
  refine U4 hs (by rw [hv]; rfl) fun q2 w1 σ1 hk1 hq2 => ?_
  refine Z8 hk1.sat fun q3 w2 σ2 hk2 hq3 => ?_
  have hS2 := hk1.trans hk2
  have hq2 := hq2.up hk2
  have g1 := (g1.up hk1).up hk2
  have g2 := (g2.up hk1).up hk2
  have g3 := (g3.up hk1).up hk2
  have hmaxf := g2.max
  have hmaxm := g3.max
  rw [fa]
  refine ld hk2.sat hq3 rfl ?_
  refine Q7 g2 ?_
  refine V7 c.fields.length (fun n w' => ∃ σ', Stp w σ w' σ' ∧ SLe σ2 σ' ∧ ((c.fields.take n).any fun f => (placeM l c.super f.name).isSome) = false) ⟨σ2, hS2, SLe.refl _, by simp⟩ fun n w3 d hn1 hinv => ?_
  obtain ⟨σ3, hS3, le3, hno⟩ := hinv
  refine U0 ?_
  refine Q4 (fun hh => ?_) (fun hh => ?_)
  · have hn' : n < c.fields.length := by simpa using hh
    refine Q2l (g2.lift le3) hn' fun p hl1 hr1 => ?_
    refine Z0 hS3.sat hl1 rfl ?_
    refine Y2 hS3.sat (by rfl) rfl (Rep.one hr1) fun q4 w4 σ4 hk4 hq4 => ?_
    have le4 : SLe σ2 σ4 := le3.more ⟨hk4.le⟩
    have hS4 := hS3.trans hk4
    refine X7 hk4.sat (hq2.lift le4) rfl ?_
    rw [fa]
    refine ld hk4.sat (hq3.lift le4) rfl ?_
    rw [fa]
    refine ld hk4.sat hq4 rfl ?_
    refine Q3W hk4.sat (ht.lift ⟨hS4.le⟩) ok.acy ok.len ok.sm fun w5 σ5 hk5 => ?_
    refine Yz ?_
    rw [F2]
    refine Q4 (fun hh2 => ?_) (fun hh2 => ?_)
    · have : B0 l c = true := R5 hn' hh2
      rw [if_pos this] at h
      exact h _ _ (hS4.trans hk5)
    · refine O8 ?_
      refine Z2 hmaxf hn' ⟨σ5, hS4.trans hk5, le4.more ⟨hk5.le⟩, ?_⟩
      rw [M5 hn', hno, hh2]; rfl
  have hn' : ¬ n < c.fields.length := by simpa using hh
  rw [D0 hn'] at hno
  have hmf : B0 l c = false := hno
  rw [if_neg (by rw [hmf]; simp)] at h
  rw [Qz]
  clear hno hh hn' hn1
  refine U2 hS3.sat (by rfl) rfl rfl fun q7 w4 σ4 hk4 hq7 => ?_
  have le4 : SLe σ2 σ4 := le3.more ⟨hk4.le⟩
  have hS4 := hS3.trans hk4
  have hq2 := hq2.lift le4
  have hq3 := hq3.lift le4
  have g1 := g1.lift le4
  have g2 := g2.lift le4
  have g3 := g3.lift le4
  rw [fa]
  refine ld hk4.sat hq3 rfl ?_
  refine Q7 g2 ?_
  refine V7 c.fields.length (fun n w' => ∃ σ', Stp w σ w' σ' ∧ SLe σ4 σ' ∧ ((c.fields.take n).any fun f => !thereM l f.kind) = false) ⟨σ4, hS4, SLe.refl _, by simp⟩ fun n w5 d hn1 hinv => ?_
  obtain ⟨σ5, hS5, le5, hno⟩ := hinv
  refine U0 ?_
  refine Q4 (fun hh => ?_) (fun hh => ?_)
  · have hn' : n < c.fields.length := by simpa using hh
    refine Q2l (g2.lift le5) hn' fun p hl1 hr1 => ?_
    refine Z0 hS5.sat hl1 rfl ?_
    refine Y2 hS5.sat (by rfl) rfl (Rep.one hr1) fun q9 w6 σ6 hk6 hq9 => ?_
    have le6 : SLe σ4 σ6 := le5.more ⟨hk6.le⟩
    have hS6 := hS5.trans hk6
    refine X7 hk6.sat (hq7.lift le6) rfl ?_
    rw [fa]
    refine ld hk6.sat hq9 rfl ?_
    refine Q0M hk6.sat (ht.lift ⟨hS6.le⟩) (hq2.lift le6) hr1.2.2 fun w7 σ7 hk7 => ?_
    refine U3 ?_
    refine Q4 (fun hh2 => ?_) (fun hh2 => ?_)
    · have : D9 l c = true := by
        unfold D9
        rw [R5 (p := fun f : Fld => !thereM l f.kind) hn' hh2]; rfl
      rw [if_pos this] at h
      exact h _ _ (hS6.trans hk7)
    · refine O8 ?_
      refine Z2 hmaxf hn' ⟨σ7, hS6.trans hk7, le6.more ⟨hk7.le⟩, ?_⟩
      rw [M5 hn', hno, hh2]; rfl
  have hn' : ¬ n < c.fields.length := by simpa using hh
  rw [D0 hn'] at hno
  have hkf := hno
  clear hno hh hn' hn1
  have hq2 := hq2.lift le5
  have hq3 := hq3.lift le5
  have hq7 := hq7.lift le5
  have g3 := g3.lift le5
  rw [fa]
  refine ld hS5.sat hq3 rfl ?_
  refine Q7 g3 ?_
  refine V7 c.methods.length (fun n w' => ∃ σ', Stp w σ w' σ' ∧ SLe σ5 σ' ∧ ((c.methods.take n).any (Me l)) = false) ⟨σ5, hS5, SLe.refl _, by simp⟩ fun n w6 d hn1 hinv => ?_
  obtain ⟨σ6, hS6, le6, hno⟩ := hinv
  refine U0 ?_
  refine Q4 (fun hh => ?_) (fun hh => ?_)
  · have hn' : n < c.methods.length := by simpa using hh
    refine L3 (g3.lift le6) hn' fun p cells hl1 hl2 hr1 => ?_
    refine Z0 hS6.sat hl1 hl2 ?_
    refine Y2 hS6.sat (by rfl) hl2 (Rep.one hr1) fun q11 w7 σ7 hk7 hq11 => ?_
    obtain ⟨pv, cv, hv', rfl, m1, m2, m3, m4, m5, m6⟩ := hr1
    have le7 : SLe σ5 σ7 := le6.more ⟨hk7.le⟩
    have hS7 := hS6.trans hk7
    have hbad : Me l c.methods[n] = true → ∀ {w8 : World} {σ8 : Q6}, Stp w σ w8 σ8 → K (.int .i64 65) w8 := fun hb w8 σ8 hS8 => by
      have : D9 l c = true := by
        unfold D9
        have := R5 (p := Me l) hn' hb
        unfold Me at this
        rw [this, Bool.or_true]
      rw [if_pos this] at h
      exact h _ _ hS8
    have hgood : Me l c.methods[n] = false → ∀ {w8 : World} {σ8 : Q6}, Stp w σ w8 σ8 → SLe σ5 σ8 → UpI c.methods.length (fun n w' => ∃ σ', Stp w σ w' σ' ∧ SLe σ5 σ' ∧ ((c.methods.take n).any (Me l)) = false) (.int .i64 (IntKind.i64.wrap (n + 1))) w8 ∧ Td c.methods.length (.int .i64 (IntKind.i64.wrap (n + 1))) < Td c.methods.length (I n) := fun hb w8 σ8 hS8 le8 =>
      Z2 hmaxm hn' ⟨σ8, hS8, le8, by rw [M5 hn', hno, hb]; rfl⟩
    unfold Me at hbad hgood
    refine X7 hk7.sat (hq7.lift le7) rfl ?_
    rw [fa]
    refine ld hk7.sat hq11 rfl ?_
    refine Q0M hk7.sat (ht.lift ⟨hS7.le⟩) (hq2.lift le7) m5 fun w8 σ8 hk8 => ?_
    have hS8 := hS7.trans hk8
    have le8 : SLe σ5 σ8 := le7.more ⟨hk8.le⟩
    have hq11 := hq11.up hk8
    have m1 := (m1.up hk7).up hk8
    -- what the parameters come to
    have hpar : ∀ {w8 : World} {σ8 : Q6} {K : Value → World → Prop}, Stp w σ w8 σ8 → SLe σ5 σ8 → Sl 1 U9 σ8 pv c.methods[n].params → (∀ w' σ', Stp w8 σ8 w' σ' → K (.bool (c.methods[n].params.any fun s => !thereM l s)) w') → Q1 P F.c [pv, .func (.func F.ai) #[] #[.pointer (some q7)]] w8 K := by
      intro w8 σ8 K hS8 le8 m1 hK
      refine C5 (fun s => !thereM l s) hS8.sat m1 (fun x w9 K _ hs9 hx hK9 => Q4N hs9 (ht.lift ⟨hS8.le⟩) (hq2.lift le8) (hq7.lift le8) hx fun w' σ' hk => hK9 w' hk.bel) fun w9 hb => hK w9 σ8 (Stp.of_below hS8.sat hb)
    cases e1 : thereM l c.methods[n].result with
    | true =>
      rw [e1] at hbad hgood
      simp only [↓Mm, Mm, ↓Mp, Mp, Mb, reduceIte]
      refine ld hk8.sat hq11 rfl ?_
      (try simp only [↓Mm, Mm, ↓Mp, Mp, Mb, reduceIte])
      refine hpar hS8 le8 m1 fun w9 σ9 hk9 => ?_
      cases e2 : c.methods[n].params.any fun s => !thereM l s with
      | true =>
        rw [e2] at hbad
        simp only [↓Mm, Mm, ↓Mp, Mp, Mb, reduceIte]
        exact hbad rfl (hS8.trans hk9)
      | false =>
        rw [e2] at hgood
        simp only [↓Mm, Mm, ↓Mp, Mp, Mb, reduceIte]
        exact hgood rfl (hS8.trans hk9) (le8.more ⟨hk9.le⟩)
    | false =>
      rw [e1] at hbad hgood
      simp only [↓Mm, Mm, ↓Mp, Mp, Mb, reduceIte]
      refine ld hk8.sat hq11 rfl ?_
      simp only [↓Mm, Mm, ↓Mp, Mp, Mb, reduceIte]
      by_cases e3 : c.methods[n].result = []
      · rw [decide_eq_true e3] at hbad hgood
        simp only [decide_eq_true e3, ↓Mm, Mm, ↓Mp, Mp, Mb, reduceIte]
        refine ld hk8.sat hq11 rfl ?_
        (try simp only [↓Mm, Mm, ↓Mp, Mp, Mb, reduceIte])
        refine hpar hS8 le8 m1 fun w9 σ9 hk9 => ?_
        cases e2 : c.methods[n].params.any fun s => !thereM l s with
        | true =>
          rw [e2] at hbad
          simp only [↓Mm, Mm, ↓Mp, Mp, Mb, reduceIte]
          exact hbad rfl (hS8.trans hk9)
        | false =>
          rw [e2] at hgood
          simp only [↓Mm, Mm, ↓Mp, Mp, Mb, reduceIte]
          exact hgood rfl (hS8.trans hk9) (le8.more ⟨hk9.le⟩)
      · rw [decide_eq_false e3] at hbad
        simp only [decide_eq_false e3, ↓Mm, Mm, ↓Mp, Mp, Mb, reduceIte]
        exact hbad rfl hS8
  have hn' : ¬ n < c.methods.length := by simpa using hh
  rw [D0 hn'] at hno
  have hmk : D9 l c = false := by
    unfold D9
    unfold Me at hno
    rw [hkf, hno]; rfl
  rw [if_neg (by rw [hmk]; simp)] at h
  clear hno hh hn' hn1
  have hq2 := hq2.lift le6
  have hq3 := hq3.lift le6
  refine Q0o hS6.sat fun r1 w7 hr1 hk7 hm1 => ?_
  refine Q0o hk7.sat fun r2 w8 hr2 hk8 hm2 => ?_
  have hl1 := hm1.lt
  have hm1 := hm1.up hk8
  have hne : r1 ≠ r2 := by omega
  have hS8 := (hS6.trans hk7).trans hk8
  have hr1w : w.heap.size ≤ r1 := Nat.le_trans hS6.bel.size hr1
  have hr2w : w.heap.size ≤ r2 := Xx hr2 (hS6.trans hk7)
  refine Qu hk8.sat fun b1 w9 σ9 hb1 hk9 hb1m => ?_
  refine Qu hk9.sat fun b2 w10 σ10 hb2 hk10 hb2m => ?_
  have hb1l := hb1m.lt
  have hm1l := hm1.lt
  have hm2l := hm2.lt
  have hm1 := (hm1.up hk9).up hk10
  have hm2 := (hm2.up hk9).up hk10
  have hb1m := hb1m.up hk10
  have hS10 := (hS8.trans hk9).trans hk10
  have hb1w : w.heap.size ≤ b1 := Xx hb1 hS8
  have hb2w : w.heap.size ≤ b2 := Xx hb2 (hS8.trans hk9)
  refine st0 hb1m (by simp [Value.cells]) rfl rfl fun w11 u11 hb1m => ?_
  have hS11 := u11.stp hS10 hb1w hb1m.1
  have hb2m := hb2m.upd u11 (by omega)
  have k11 : Kpt (fun k => k = b1) w10 w11 := Kpt.of_upd u11 rfl
  have hm1 := hm1.kp k11 (by omega)
  have hm2 := hm2.kp k11 (by omega)
  refine st0 hb2m (by simp [Value.cells]) rfl rfl fun w12 u12 hb2m => ?_
  have hS12 := u12.stp hS11 hb2w hb2m.1
  have hb1m := hb1m.upd u12 (by omega)
  have k12 : Kpt (fun k => k = b2) w11 w12 := Kpt.of_upd u12 rfl
  have hm1 := hm1.kp k12 (by omega)
  have hm2 := hm2.kp k12 (by omega)
  obtain ⟨σ13, hS13, ha1, le13, old13⟩ := hb1m.keep hS12 hb1w
  have hb2m : V1 σ13 w12 b2 _ := ⟨(old13 b2 (by omega)).trans hb2m.1, hb2m.2⟩
  have hm1 : N1 σ13 w12 r1 [] := ⟨(old13 r1 (by omega)).trans hm1.1, hm1.2⟩
  have hm2 : N1 σ13 w12 r2 [] := ⟨(old13 r2 (by omega)).trans hm2.1, hm2.2⟩
  obtain ⟨σ14, hS14, ha2, le14, old14⟩ := hb2m.keep hS13 hb2w
  have hm1 : N1 σ14 w12 r1 [] := ⟨(old14 r1 (by omega)).trans hm1.1, hm1.2⟩
  have hm2 : N1 σ14 w12 r2 [] := ⟨(old14 r2 (by omega)).trans hm2.1, hm2.2⟩
  have ha1 := ha1.le le14
  have ha1 : J4 σ14 ⟨b1, 0, none⟩ [.map (some r1)] := ha1
  have ha2 : J4 σ14 ⟨b2, 0, none⟩ [.map (some r2)] := ha2
  have lex : SLe σ6 σ14 := ⟨fun b o e => le14 b o (le13 b o (hk10.le b o (hk9.le b o (hk8.le b o (hk7.le b o e)))))⟩
  clear hb1m hb2m
  have hq2 := hq2.lift lex
  have hq3 := hq3.lift lex
  refine X7 hS14.sat hq2 rfl ?_
  rw [fa]
  refine ld hS14.sat hq3 rfl ?_
  rw [Qz]
  refine Q3R Ow ([], []) (fun s w' => N5 (w'.heap[r1]?) (B1 s.1) ∧ N5 (w'.heap[r2]?) (B1 s.2)) (fun k => k = r1 ∨ k = r2) hS14.sat (ht.lift ⟨hS14.le⟩) ok.len ok.sm g4
    (fun k hk => by rcases hk with rfl | rfl; exact ⟨hm1.lt, hm1.1⟩; exact ⟨hm2.lt, hm2.1⟩) (fun s wa wb hi hk => by rw [hk r1 (.inl rfl), hk r2 (.inr rfl)]; exact hi) ⟨hm1.2, hm2.2⟩
    (fun s d ds wa σa K le hsa hna hi hr hdl hK => ?_) fun w15 σ15 hn15 hi15 => ?_
  · have hdm := (V3 hdl).2.1
    exact Q3h hsa hr (ok.sm d hdm) (ok.nm d hdm) (ha1.lift le) (ha2.lift le) (hna r1 (.inl rfl)) (hna r2 (.inr rfl)) hne hi.1 hi.2 hK
  have hS15 := hS14.nx hn15 fun k hk => by rcases hk with rfl | rfl <;> assumption
  obtain ⟨sc1, sc2⟩ := Q0a (Ux l c.name) [] ([], []) 0 Q8M
  rw [List.nil_append, ← Q51] at sc1 sc2
  cases hov : (U6 Ow ([], []) (Ux l c.name) 0).1.isSome with
  | true =>
    have : F0 l c = true := (Q1j _).2 (sc1 hov)
    rw [if_pos this] at h
    refine F9 ?_
    exact h _ _ hS15
  | false =>
    have hgd := sc2 hov
    have : F0 l c = false := by
      cases e : F0 l c with
      | false => rfl
      | true => exact absurd ((Q1j _).1 e) hgd.no
    rw [if_neg (by rw [this]; simp)] at h
    refine K1 ?_
    have hq2 := hq2.lift hn15.le
    have hq3 := hq3.lift hn15.le
    rw [fa]
    refine ld hS15.sat hq3 rfl ?_
    unfold Qc at h
    cases hab : c.abs with
    | true =>
      rw [hab] at h
      refine F9 ?_
      exact h _ _ hS15
    | false =>
      rw [hab] at h
      simp only [Bool.not_false, Bool.true_and] at h
      refine K1 ?_
      refine X7 hS15.sat (ha2.lift hn15.le) rfl ?_
      generalize hst : (U6 Ow ([], []) (Ux l c.name) 0).2 = st at hgd hi15
      obtain ⟨es, clock, e1, e2, e3, e4⟩ := hi15.2
      have hr2n : σ15 r2 = none := (hn15.old r2 hm2.lt).trans hm2.1
      obtain ⟨key1, key2⟩ := Q7q e2
      refine Q8P (tm := inferInstance) hS15.sat e1 fun ib w16 σ16 hib hk16 hit => ?_
      have hr2l := (Array.getElem?_eq_some_iff.1 e1).1
      refine Dq (fun d _ w' => ∃ (σ' : Q6) (seen : Array Nat), d = es.toList.countP (fun e => !seen.contains e.born) ∧ Stp w σ w' σ' ∧ SLe σ15 σ' ∧ σ' r2 = none ∧ w'.heap[r2]? = some (.map es clock) ∧ It σ' w' ib r2 es clock seen ∧ ∀ e ∈ es.toList, e.born ∈ seen → ∀ k, e.key = S k → G3 l c.name k = false) _
        ⟨σ16, #[], rfl, hS15.trans hk16, ⟨hk16.le⟩, (hk16.old r2 hr2l).trans hr2n, (hk16.bel.block r2 hr2l).trans e1, hit, by simp⟩ ?_
      rintro again d x dd w17 ⟨σ17, seen, rfl, hS17, le17, hr17, he17, hit17, hok17⟩ hag
      have hitb : w.heap.size ≤ ib := Nat.le_trans hS15.bel.size hib
      refine Q8W hit17 he17 e4 (fun hall => ?_) fun e w18 hee hunseen hk18 hit18 hh18 => ?_
      · refine M4 (vs := [_]) rfl ?_
        refine K1 ?_
        have : ((allMets l c.name).any fun m => G3 l c.name m.name) = false := by
          rw [List.any_eq_false]
          intro m hm
          obtain ⟨e, he, hek⟩ := key2 m.name ((hgd.c m.name).2 ⟨m, hm, rfl⟩)
          rw [hok17 e he (hall e he) _ hek]; simp
        rw [this] at h
        exact h _ _ hS17
      · refine M4 (vs := [_, _, _]) rfl ?_
        refine F9 ?_
        have he18 : w18.heap[r2]? = some (.map es clock) := by
          rw [hk18.block r2 (Array.getElem?_eq_some_iff.1 he17).1 (by omega)]; exact he17
        have hib17 := hit17.1
        have hS18 : Stp w σ w18 σ17 := hS17.kp hk18 fun k hk => by rw [hk]; exact ⟨hitb, hib17⟩
        refine Q8r hh18 he18 hee (e3.imp fun hlt => Nat.ne_of_lt hlt) ?_
        refine M4 (vs := [_, _]) rfl ?_
        obtain ⟨k, hek, hkk⟩ := key1 e hee
        have le18 : SLe σ15 σ17 := le17
        refine X7 hS18.sat (hq2.lift le17) rfl ?_
        rw [fa]
        refine ld hS18.sat (hq3.lift le17) rfl ?_
        rw [hek]
        refine Q6H hS18.sat (ht.lift ⟨hS18.le⟩) ok fun pv cv hv w19 σ19 hk19 hr19 => ?_
        refine M4 (vs := [_, _, _]) rfl ?_
        refine M4 (vs := [_, _, _]) rfl ?_
        refine M4 (vs := [_, _, _]) rfl ?_
        refine Y2 hk19.sat (by rfl) rfl (Rep.one hr19) fun q20 w20 σ20 hk20 hq20 => ?_
        have hS20 := (hS18.trans hk19).trans hk20
        have hlack : G3 l c.name k = true → ∀ {w8 : World} {σ8 : Q6}, Stp w σ w8 σ8 → K (.int .i64 67) w8 := fun hb w8 σ8 hS8 => by
          obtain ⟨m, hm, hmk⟩ := (hgd.c k).1 hkk
          have : ((allMets l c.name).any fun m => G3 l c.name m.name) = true := List.any_eq_true.2 ⟨m, hm, by rw [hmk]; exact hb⟩
          rw [this] at h
          exact h _ _ hS8
        have hgo : G3 l c.name k = false → again () w20 := fun hb => by
          have hmem : ∀ e' : MapEntry, e'.born ∈ seen.push e.born ↔ e'.born ∈ seen ∨ e'.born = e.born := fun e' => by simp
          refine hag _ _ _ ?_ ⟨σ20, seen.push e.born, rfl, hS20, le17.more ⟨fun b o h => hk20.le _ _ (hk19.le _ _ h)⟩, ?_, ?_, (hit18.step hk19).step hk20, fun e' he' hs' k' hk' => ?_⟩
          · refine Q17 (fun x _ hx => ?_) ⟨e, hee, ?_, ?_⟩
            · simp only [Bool.not_eq_true', Array.contains_push, Bool.or_eq_false_iff] at hx ⊢
              exact hx.1
            · simpa using hunseen
            · simp
          · have l18 := (Array.getElem?_eq_some_iff.1 he18).1
            rw [hk20.old r2 (Nat.lt_of_lt_of_le l18 hk19.bel.size), hk19.old r2 l18]; exact hr17
          · have l18 := (Array.getElem?_eq_some_iff.1 he18).1
            rw [hk20.bel.block r2 (Nat.lt_of_lt_of_le l18 hk19.bel.size), hk19.bel.block r2 l18]; exact he18
          · rcases (hmem e').1 hs' with h1 | h1
            · exact hok17 e' he' h1 k' hk'
            · have : e' = e := by
                have hnd : (es.toList.map (·.born)).Nodup := e3.imp fun hlt => Nat.ne_of_lt hlt
                obtain ⟨i, hi, rfl⟩ := List.getElem_of_mem he'
                obtain ⟨j, hj, rfl⟩ := List.getElem_of_mem hee
                have h5 : (es.toList.map (·.born))[i]'(by simpa using hi) = (es.toList.map (·.born))[j]'(by simpa using hj) := by simpa using h1
                have := (List.getElem_inj hnd).1 h5
                subst this; rfl
              subst this
              rw [hek] at hk'
              have : k = k' := by
                have := hk'
                simp at this
                exact this
              rw [← this]; exact hb
        unfold G3 at hlack hgo
        cases hmm : methodM l c.name k with
        | none =>
          rw [hmm] at hlack
          simp only [↓Mm, Mm, ↓Mp, Mp, Mb, reduceIte, Option.isSome_none]
          exact hlack rfl hS20
        | some r =>
          rw [hmm] at hlack hgo hq20
          simp only [↓Mm, Mm, ↓Mp, Mp, Mb, reduceIte, Option.isSome_some]
          refine ld hk20.sat hq20 rfl ?_
          (try simp only [↓Mm, Mm, ↓Mp, Mp, Mb, reduceIte])
          cases hra : r.2.abs with
          | true =>
            exact Q4 (fun _ => hlack hra hS20) (fun e => absurd (hra.symm.trans e) (by simp))
          | false =>
            exact Q4 (fun e => absurd (hra.symm.trans e) (by simp)) (fun _ => hgo hra))
end Go.Proofs.YtdnfaboigajkhaaGreatDoor

namespace Go.Emb
open Go.RowKit Go.Hm
variable {P : Program} {w w0 w1 w' w'' : World} {K : Value → World → Prop} {σ σ0 σ1 σ' : Q6}
theorem Q9d {t e : TypeId} {n by_ : Nat} {z : Value} [ta : TA P t n e] [tz : TZ P e 1 by_ z] [tg : TG P e false] {cs : List Value} {i : Nat} {v : Value} (hi : i < n) (hv : cs[i]? = some v) (h : K v w) : E2 P t (.agg cs.toArray) (I i) w K := by
  unfold E2
  have h0 : (0 : Int) ≤ i ∧ (i : Int) < n := ⟨by omega, by omega⟩
  rw [Y0 (v := v) (w' := w) (by
    simp only [Instr.index, asIntOf, Sem.run_bind, Sem.run_pure, Result.andThen_ok, run_underlying ta.h, h0, and_self, if_true, L9 tz, part, Yq tg]
    simp [hv])]
  exact h
theorem Q1I {α : Type} {R : Q6 → α → List Value → Prop} {B sz : Nat} {e : TypeId} {v : Value} {xs : List α} {t0 t : TypeId} {cs : List Bool} [ts : TS P t0 e] (h : W3 B e sz R σ w v xs) (hk : K (I xs.length) w) : X5 P .len [t0] t cs [v] w K := Q1F (L5.of_acc h) hk
theorem Q16 {α : Type} {R : Q6 → α → List Value → Prop} {B sz : Nat} {e : TypeId} {v : Value} {xs : List α} (h : W3 B e sz R σ w v xs) : v.cells = #[v] ∧ v.oneCell' = true := by
  obtain ⟨cells, h1, _⟩ := h
  rcases h1.2 with ⟨rfl, _⟩ | ⟨g, cap, cur, rfl, _⟩ <;> exact ⟨rfl, rfl⟩
end Go.Emb
namespace Go.Proofs.YtdnfaboigajkhaaGreatDoor
open Go.Emb Go.RowKit Go.Kd Go.Hm
variable {w : World} {K : Value → World → Prop} {σ : Q6} {v : Value} {l : List Cla}
theorem Q3T (hs : X6 w σ) (hg : Glb σ) (h : ∀ v' w' σ', Stp w σ w' σ' → W3 w.heap.size T.a 8 V0 σ' w' v' R1 → K v' w') : Q1 P F.bF [] w K := Q1S (by
  unfold Gt
  refine G0 (cells := #[S U1, S [], .slice none 0 0, .bool false, .bool false, .bool false, .slice none 0 0, .slice none 0 0]) (by kernel_rfl) ?_
  refine G0 (cells := #[S K3, S C6, .bool false]) (by kernel_rfl) ?_
  refine Mw (R := D5) (sz := 3) hs [.agg #[S K3, S C6, .bool false]] [⟨K3, C6, false⟩] rfl rfl (by simp; rfl) rfl ⟨⟨rfl, by decide, by decide⟩, trivial⟩ fun v6 w1 σ1 hk1 hv6 => ?_
  have hv6' := hv6
  obtain ⟨a6, cap6, rfl, _⟩ := hv6'
  refine G0 (cells := #[S W6, S U1, .slice none 0 0, .bool false, .bool false, .bool false, .slice a6 1 cap6, .slice none 0 0]) (by kernel_rfl) ?_
  refine Qq (R := V0) (sz := 8) hk1 [.agg #[S U1, S [], .slice none 0 0, .bool false, .bool false, .bool false, .slice none 0 0, .slice none 0 0], .agg #[S W6, S U1, .slice none 0 0, .bool false, .bool false, .bool false, .slice a6 1 cap6, .slice none 0 0]]
    [⟨U1, [], [], false, false, false, [], []⟩, ⟨W6, U1, [], false, false, false, [⟨K3, C6, false⟩], []⟩] rfl rfl (by simp; exact ⟨rfl, rfl⟩) rfl
    ⟨⟨_, _, _, rfl, Sl.nil, Sl.nil, Sl.nil, by decide, by decide⟩, ⟨_, _, _, rfl, Sl.nil, hv6, Sl.nil, by decide, by decide⟩, trivial⟩ fun v8 w2 hk2 hacc _ => ?_
  have hg2 := hg.lift ⟨hk1.le⟩
  refine Z0 (cs := U7.map S) hk2.sat hg2.flt rfl ?_
  refine O4 6 (fun n a w' => ∃ σ', Stp w σ w' σ' ∧ W3 w.heap.size T.a 8 V0 σ' w' a ([⟨U1, [], [], false, false, false, [], []⟩, ⟨W6, U1, [], false, false, false, [⟨K3, C6, false⟩], []⟩] ++ (U7.take n).map fun n => ⟨n, W6, [], false, false, true, [], []⟩)) ⟨σ1, hk1.trans hk2, hacc⟩ fun n a w3 d hn hinv => ?_
  obtain ⟨σ3, hS3, ha3⟩ := hinv
  have hfl : U7.length = 6 := rfl
  refine U0 ?_
  refine Q4 (fun hh => ?_) (fun hh => ?_)
  · have hn' : n < 6 := by have := of_decide_eq_true hh; omega
    refine Q9d (v := S (U7[n]'(by omega))) hn' (by rw [List.getElem?_map, List.getElem?_eq_getElem (by omega)]; rfl) ?_
    refine G0 (cells := #[S (U7[n]'(by omega)), S W6, .slice none 0 0, .bool false, .bool false, .bool true, .slice none 0 0, .slice none 0 0]) (by kernel_rfl) ?_
    have hlen : (U7[n]'(by omega)).length ≤ 10 := by
      have : ∀ x ∈ U7, x.length ≤ 10 := by decide
      exact this _ (List.getElem_mem _)
    refine Jb (x := ⟨U7[n]'(by omega), W6, [], false, false, true, [], []⟩) hS3 ha3 ⟨_, _, _, rfl, Sl.nil, Sl.nil, Sl.nil, Nat.le_trans hlen (by decide), (by decide : W6.length ≤ V9)⟩ rfl rfl rfl (by simp; omega) (by simp; omega) fun s v' w4 σ4 hn4 hS4 ha4 _ => ?_
    refine O8 ?_
    refine J0 (by omega) hn' ⟨σ4, hS4, ?_⟩
    rw [List.take_add_one, List.getElem?_eq_getElem (by omega), List.map_append, ← List.append_assoc]
    exact ha4
  · have hn' : ¬ n < 6 := by have := of_decide_eq_false hh; omega
    rw [List.take_of_length_le (by omega)] at ha3
    exact h _ _ _ hS3 ha3)
end Go.Proofs.YtdnfaboigajkhaaGreatDoor

namespace Go.Hm
open Go.Kd
def L6 {α : Type} (f : α → Int) : List α → Nat → Option (Nat × Int)
  | [], _ => none
  | x :: r, i => if f x = 0 then L6 f r (i + 1) else some (i, f x)
theorem C8 {α : Type} {f : α → Int} : ∀ {l : List α} {i : Nat}, L6 f l i = none → ∀ x ∈ l, f x = 0
  | [], _, _ => by simp
  | x :: r, i, h => by
    simp only [L6] at h
    split at h
    · rename_i h0
      intro y hy
      rcases List.mem_cons.1 hy with rfl | hy
      · exact h0
      · exact C8 h y hy
    · cases h
def Oz (all : List Cla) : Option Nat := (List.range all.length).find? fun i => (Y3 (all.take i) (X9 all i)).isSome
def Q5 (l : List Cla) : List Cla := R1 ++ l
def Yj (ck : Cla → Int) (l : List Cla) : Option (Int × Int) := match L6 ck l 0 with
  | some (i, e) => some (i, e)
  | none => match Oz (Q5 l) with
    | some i => some ((i : Int) - 8, 60)
    | none => match L6 (fun c => (uppersM (Q5 l) c : Int)) l 0 with
      | some (i, e) => some (i, e)
      | none => match l.findIdx? (loopsM (Q5 l)) with
        | some i => some (i, 63)
        | none => match (V8 (Q5 l) 8).find? fun j => !decide (membersM (Q5 l) ((Q5 l).getD j Cla.zero) = 0) with
          | some j => some ((j : Int) - 8, membersM (Q5 l) ((Q5 l).getD j Cla.zero))
          | none => none
theorem Q31 {s : X0} (h : name s = true) : s.length ≤ 32 := by
  cases s with
  | nil => simp
  | cons c r => simp only [name, Bool.and_eq_true, decide_eq_true_eq] at h; exact h.1.1
theorem Q6k {s : X0} (h : W7 s = true) : s.length ≤ 32 := Q31 (Us (by rw [h, Bool.or_true]))
theorem Q54 {s : X0} (h : M1 s = true) : s.length ≤ 32 := by
  cases s with
  | nil => simp
  | cons c r => simp only [M1, Bool.and_eq_true] at h; exact Q31 h.1
theorem Cg {all : List Cla} (h : Oz all = none) : B8 all := by
  unfold Oz at h
  rw [List.find?_eq_none] at h
  unfold B8
  rw [List.nodup_iff_pairwise_ne, List.pairwise_iff_getElem]
  intro i j hi hj hij e
  simp only [List.length_map] at hi hj
  have := h j (by simp; exact hj)
  apply this
  simp only [List.getElem_map] at e
  cases hf : Y3 (all.take j) (X9 all j) with
  | some _ => rfl
  | none =>
    have h1 := List.findIdx?_eq_none_iff.1 hf all[i] (List.mem_take_iff_getElem.2 ⟨i, by omega, rfl⟩)
    have h2 : X9 all j = all[j].name := by unfold X9; rw [List.getD_eq_getElem?_getD, List.getElem?_eq_getElem hj]; rfl
    rw [h2] at h1
    simp [e] at h1
theorem Yt : ∀ c ∈ R1, K2 c ∧ Nm c ∧ c.like = [] := by
  have h : ∀ c ∈ R1, (c.like = [] ∧ c.methods = [] ∧ c.fields.length ≤ 1 ∧ c.name.length ≤ 100 ∧ ∀ f ∈ c.fields, f.name.length ≤ 100 ∧ f.kind.length ≤ 100) := by decide
  intro c hc
  obtain ⟨h1, h2, h3, h4, h5⟩ := h c hc
  refine ⟨⟨by rw [h1]; simp, by omega, by rw [h2]; simp, by rw [h2]; simp⟩, ⟨h4, h5, by rw [h2]; simp⟩, h1⟩
theorem Q6F : ∀ c ∈ R1, (c.name = U1 ∧ U5 c = [[]]) ∨ (c.name = W6 ∧ U5 c = [U1]) ∨ (c.name ∈ U7 ∧ U5 c = [W6]) := by decide
theorem Q29 {l : List Cla} (ho : B8 (Q5 l)) (hn : ∀ c ∈ l, c.name ≠ []) (hl : ∀ c ∈ l, loopsM (Q5 l) c = false) : Qw (Q5 l) := by
  have hnil : lk (Q5 l) [] = none := by
    cases h : lk (Q5 l) [] with
    | none => rfl
    | some c =>
      obtain ⟨e, hm, _⟩ := V3 h
      rcases List.mem_append.1 hm with hm | hm
      · have : ∀ c ∈ R1, c.name ≠ [] := by decide
        exact absurd e (this c hm)
      · exact absurd e (hn c hm)
  have hroot : lk (Q5 l) U1 = some ⟨U1, [], [], false, false, false, [], []⟩ := ho.lk (c := ⟨U1, [], [], false, false, false, [], []⟩) (List.mem_append_left _ (by decide))
  have hfault : lk (Q5 l) W6 = some ⟨W6, U1, [], false, false, false, [⟨K3, C6, false⟩], []⟩ := ho.lk (c := ⟨W6, U1, [], false, false, false, [⟨K3, C6, false⟩], []⟩) (List.mem_append_left _ (by decide))
  have r0 : ∀ b, ¬ Reach (lk (Q5 l)) [] b := fun b h => by obtain ⟨c, hc⟩ := h.left; rw [hnil] at hc; cases hc
  have r1 : ∀ b, Reach (lk (Q5 l)) U1 b → b = U1 := by
    intro b h
    cases h with
    | refl => rfl
    | step hc hu hr =>
      rw [hroot] at hc; cases hc
      simp [U5] at hu; subst hu
      exact absurd hr (r0 b)
  have r2 : ∀ b, Reach (lk (Q5 l)) W6 b → b = W6 ∨ b = U1 := by
    intro b h
    cases h with
    | refl => exact .inl rfl
    | step hc hu hr =>
      rw [hfault] at hc; cases hc
      simp [U5] at hu; subst hu
      exact .inr (r1 b hr)
  rintro a ⟨c, hc, u, hu, hr⟩
  obtain ⟨e, hm, _⟩ := V3 hc
  rcases List.mem_append.1 hm with hm | hm
  · rcases Q6F c hm with ⟨e1, e2⟩ | ⟨e1, e2⟩ | ⟨e1, e2⟩ <;> rw [e2] at hu <;> simp at hu <;> subst hu
    · exact r0 _ hr
    · have := r1 _ hr
      rw [← e, e1] at this
      exact absurd this (by decide)
    · have h3 : ∀ x ∈ U7, x ≠ W6 ∧ x ≠ U1 := by decide
      obtain ⟨h4, h5⟩ := h3 _ e1
      rw [← e] at hr
      rcases r2 _ hr with h | h
      · exact h4 h
      · exact h5 h
  · have := hl c hm
    unfold loopsM at this
    have h2 := List.any_eq_false.1 this u hu
    apply h2
    rw [List.contains_iff_mem, Zc, e]; exact hr
end Go.Hm
namespace Go.Proofs.YtdnfaboigajkhaaGreatDoor
open Go.Emb Go.RowKit Go.Kd Go.Hm
theorem Q0C {s : X0} (h : right s = true) : s.length ≤ 38 := by
  simp only [right, Bool.and_eq_true, decide_eq_true_eq] at h
  have hb := Pk s
  have : (V2 s).1.length ≤ 32 := by
    have h2 := h.2
    have hn := Us h2
    cases hb1 : (V2 s).1 with
    | nil => simp
    | cons c r =>
      rw [hb1] at hn
      simp only [name, Bool.and_eq_true, decide_eq_true_eq] at hn
      exact hn.1.1
  omega
theorem Ev {c : Cla} (h : L2 c = 0) : K2 c ∧ Nm c ∧ c.name ≠ [] := by
  unfold L2 at h
  split at h
  · cases h
  · rename_i hm
    split at h
    · rename_i hr
      simp only [Xe, Bool.or_eq_true, decide_eq_true_eq, not_or, List.any_eq_true, not_exists, not_and] at hm
      obtain ⟨⟨⟨h1, h2⟩, h3⟩, h4⟩ := hm
      simp only [Uu, Bool.and_eq_true] at hr
      obtain ⟨⟨⟨⟨⟨⟨⟨⟨q1, q2⟩, q3⟩, q4⟩, q5⟩, q6⟩, q7⟩, q8⟩, q9⟩ := hr
      have hname : W7 c.name = true := List.all_eq_true.1 q1 c.name (by simp)
      have hmm : ∀ m ∈ c.methods, m.params.length ≤ 32 ∧ m.catches.length ≤ 32 ∧ m.code.length ≤ 200 := fun m hm => by
        have := h1 m hm
        simp only [Ji, Bool.or_eq_true, decide_eq_true_eq, not_or] at this
        omega
      refine ⟨⟨by omega, by omega, by omega, fun m hm => by have := hmm m hm; unfold SmM; omega⟩, ⟨by have := Q6k hname; omega, fun f hf => ?_, fun m hm => ?_⟩, fun e => by rw [e] at hname; simp [W7] at hname⟩
      · have := List.all_eq_true.1 q8 f hf
        simp only [Ls, Bool.and_eq_true] at this
        have a1 := Q54 this.1
        have a2 := Q0C this.2
        omega
      · have := List.all_eq_true.1 q9 m hm
        simp only [S7, Bool.and_eq_true, Bool.or_eq_true, decide_eq_true_eq, List.all_eq_true] at this
        obtain ⟨⟨⟨_, a1⟩, a2⟩, _⟩ := this
        refine ⟨?_, fun p hp => by have := Q0C (a1 p hp); omega⟩
        rcases a2 with e | e
        · rw [e]; simp
        · have := Q0C e; omega
    · cases h
end Go.Proofs.YtdnfaboigajkhaaGreatDoor

namespace Go.Hm
open Go.Kd
theorem Jh {α : Type} {f : α → Int} {xs : List α} {n : Nat} (h : n < xs.length) (hn : L6 f xs 0 = L6 f (xs.drop n) n) : L6 f xs 0 = if f xs[n] = 0 then L6 f (xs.drop (n + 1)) (n + 1) else some (n, f xs[n]) := by
  rw [hn, List.drop_eq_getElem_cons h]; rfl
theorem Q4R {all : List Cla} {n : Nat} (h : n < all.length) (k : X0) : Y3 (all.take (n + 1)) k = match Y3 (all.take n) k with
    | some i => some i
    | none => if all[n].name = k then some n else none := by
  unfold Y3
  rw [List.take_add_one, List.getElem?_eq_getElem h]
  simp only [Option.toList_some, List.findIdx?_append]
  cases (all.take n).findIdx? fun c => decide (c.name = k) with
  | some i => rfl
  | none =>
    simp only [Option.none_or, List.findIdx?_cons, List.findIdx?_nil, List.length_take]
    by_cases e : all[n].name = k
    · simp [e]; omega
    · simp [e]
end Go.Hm
namespace Go.Proofs.YtdnfaboigajkhaaGreatDoor
open Go.Emb Go.RowKit Go.Kd Go.Hm
variable {w : World} {K : Value → World → Prop} {σ : Q6} {v : Value} {l : List Cla}
theorem Be {all : List Cla} {n : Nat} (h : n < all.length) : X9 all n = all[n].name := by unfold X9; rw [List.getD_eq_getElem?_getD, List.getElem?_eq_getElem h]; rfl
set_option maxHeartbeats 1000000 in
theorem Q7a {lv : Value} (hs : X6 w σ) (hg : Glb σ) (hl : Sl 8 V0 σ lv l) (hlen : l.length ≤ 1000) (hsm : ∀ c ∈ l, K2 c)
    (h1 : ∀ i e w' σ', Yj L2 l = some (i, e) → Stp w σ w' σ' → K (.tuple #[.pointer none, I i, I e]) w')
    (h0 : ∀ v w' σ', Yj L2 l = none → Stp w σ w' σ' → Tab σ' v (Q5 l) → Ok (Q5 l) → B8 (Q5 l) → K (.tuple #[v, I 0, I 0]) w') : Q1 P F.bE [lv] w K := Q53 (by
  unfold Q0b
  have hgl : R1.length = 8 := rfl
  have hal : (Q5 l).length = 8 + l.length := by simp [Q5, hgl]
  refine Q3T hs hg fun x0 w1 σ1 hk1 ha1 => ?_
  refine Q0o hk1.sat fun r w2 hr hk2 hm2 => ?_
  have ha2 := ha1.up hk2
  have hx0 : x0.cells = #[x0] ∧ x0.oneCell' = true := Q16 ha1
  have hx0s : ∃ a n c, x0 = .slice a n c := by
    obtain ⟨cells, q1, _⟩ := ha1
    rcases q1.2 with ⟨rfl, _⟩ | ⟨g, cap, cur, rfl, _⟩ <;> exact ⟨_, _, _, rfl⟩
  have hx0r : x0.ownBlock ≠ some r := fun e => by have := (ha1.mem r e).2.1; omega
  obtain ⟨a0, n0, c0, hx0e⟩ := hx0s
  rw [hx0e]
  refine G0 (cells := #[.slice a0 n0 c0, .map (some r)]) (by kernel_rfl) ?_
  rw [← hx0e]
  refine Q2Q (cs := [x0, .map (some r)]) hk2.sat fun bt w3 σ3 hbt hk3 hbm => ?_
  have hS3 := (hk1.trans hk2).trans hk3
  have ha3 := ha2.up hk3
  have hm3 := hm2.up hk3
  have hrw : w.heap.size ≤ r := Nat.le_trans hk1.bel.size hr
  have hrl : r < w2.heap.size := hm2.lt
  have hbtw : w.heap.size ≤ bt := Xx hbt (hk1.trans hk2)
  have hrbt : r ≠ bt := by omega
  have hx0b : x0.ownBlock ≠ some bt := fun e => by have := (ha2.mem bt e).2.1; omega
  rw [S2, fa]
  refine ldm hbm rfl ?_
  refine Q1I ha3 ?_
  rw [hgl]
  have hl3 := hl.up hS3
  refine Q7 hl3 ?_
  -- classes, each by itself
  refine V7 l.length (fun n w' => ∃ σ' x, Stp w σ w' σ' ∧ SLe σ3 σ' ∧ V1 σ' w' bt [x, .map (some r)] ∧ W3 w.heap.size T.a 8 V0 σ' w' x (R1 ++ l.take n) ∧ N1 σ' w' r [] ∧ x.ownBlock ≠ some bt ∧ x.ownBlock ≠ some r ∧ L6 L2 l 0 = L6 L2 (l.drop n) n)
    ⟨σ3, x0, hS3, SLe.refl _, hbm, by simpa using ha3, hm3, hx0b, hx0r, rfl⟩ fun n w4 d hn hinv => ?_
  obtain ⟨σ4, x, hS4, le4, hb4, ha4, hm4, hxb, hxr, hfb⟩ := hinv
  refine U0 ?_
  refine Q4 (fun hh => ?_) (fun hh => ?_)
  · have hn' : n < l.length := by simpa using hh
    refine L3 (hl3.lift le4) hn' fun p cells hl1 hl2 hr1 => ?_
    refine Z0 hS4.sat hl1 hl2 ?_
    refine Y2 hS4.sat (by rfl) hl2 (Rep.one hr1) fun q w5 σ5 hk5 hq5 => ?_
    have hS5 := hS4.trans hk5
    have hr5 := R2 hr1 ⟨hk5.le⟩
    refine Z0 hk5.sat hq5 hl2 ?_
    have hsmn := hsm _ (List.getElem_mem hn')
    refine Q80 hk5.sat (hg.lift ⟨hS5.le⟩) hr5 hsmn.1 fun w6 σ6 hk6 => ?_
    have hS6 := hS5.trans hk6
    have hfb2 := Jh hn' hfb
    refine Ds ?_
    refine Q4 (fun hh2 => ?_) (fun hh2 => ?_)
    · have hne : ¬ L2 l[n] = 0 := by simpa using hh2
      rw [if_neg hne] at hfb2
      refine h1 _ _ _ _ ?_ hS6
      unfold Yj
      rw [hfb2]
    · have hz : L2 l[n] = 0 := by simpa using hh2
      rw [if_pos hz] at hfb2
      have hk56 := hk5.trans hk6
      have hb6 := hb4.up hk56
      have ha6 := ha4.up hk56
      have hm6 := hm4.up hk56
      have hq6 := hq5.up hk6
      have hr6 := R2 hr5 ⟨hk6.le⟩
      have hxs : ∀ k, x.ownBlock = some k → k < w6.heap.size := fun k hk => (ha6.mem k hk).2.1
      refine W9 hk6.sat ?_
      refine X2 (.pointer (some ⟨bt, 0, none⟩)) (fun w hb => by rw [S2]; exact X4 rfl) ?_
      refine X2 (.pointer (some ((⟨bt, 0, none⟩ : Addr).add 0))) (fun t w hb e => by rw [e, fa]; exact X4 rfl) ?_
      refine X2 x (fun t w hb e => by rw [e]; exact ldm (hb6.step hb.stp) rfl (X4 rfl)) ?_
      refine X2 (.agg cells.toArray) (fun w hb => Z0 hb.sat hq6 hl2 (X4 rfl)) ?_
      refine Dn (Φ := fun σ' v => ∃ ds : List Value, v = .agg ds.toArray ∧ ds.length = 8 ∧ V0 σ' l[n] ds) (fun t w hb e => by
        rw [e]; exact Q6V hb.sat hr6 hsmn fun lv fv mv w' σ' hk hrc => Tv hb hk ⟨_, rfl, rfl, hrc⟩) ?_
      refine Dn (w := w6) (σ := σ6) (Φ := fun σ' v => Sl 8 V0 σ' v [l[n]]) (fun t w hb e => by
        obtain ⟨σ', hk, ds, rfl, hd1, hd2⟩ := e
        refine Mw (R := V0) (sz := 8) hk.sat [.agg ds.toArray] [l[n]] rfl rfl (by simpa [Value.cells] using hd1) rfl ⟨by simpa [Value.cells] using hd2, trivial⟩ fun u w2 σ2 hk2 hu => ?_
        exact ⟨hk2.bel, σ2, hk.trans hk2, hu⟩) ?_
      rintro t43 t44 t45 t46 t47 t48 w7 hb7 _ _ e45 _ _ ⟨σ8, hk8, hu8⟩
      subst e45
      have hS8 := hS6.trans hk8
      have hb8 := hb6.up hk8
      have ha8 := ha6.up hk8
      have hm8 := hm6.up hk8
      have hbl := hb6.lt
      have hml := hm6.lt
      refine Nh hS8 ha8 hu8 rfl (by simp [hgl]; omega) (by simp [hgl]; omega) fun x' w9 hn9 hS9 ha9 hat9 => ?_
      have hb9 := hb8.nx hn9 hxb
      have hm9 := hm8.nx hn9 hxr
      have hxb' : x'.ownBlock ≠ some bt := fun e => by
        rcases hat9 with e2 | e2
        · exact hxb (e2 ▸ e)
        · have := e2 bt e; have := hk8.bel.size; omega
      have hxr' : x'.ownBlock ≠ some r := fun e => by
        rcases hat9 with e2 | e2
        · exact hxr (e2 ▸ e)
        · have := e2 r e; have := hk8.bel.size; omega
      obtain ⟨hxc1, hxc2⟩ := Q16 ha9
      rw [S2, fa]
      refine Gb hb9 (by simp) hxc1 hxc2 fun w10 u10 hb10 => ?_
      have hS10 := u10.stp hS9 hbtw hb9.1
      have k10 : Kpt (fun k => k = bt) w9 w10 := Kpt.of_upd u10 rfl
      refine O8 ?_
      refine Z2 hl3.max hn' ⟨σ8, x', hS10, le4.more ⟨fun b o e => hk8.le _ _ (hk56.le _ _ e)⟩, hb10, ?_, hm9.kp k10 hrbt, hxb', hxr', hfb2⟩
      have := ha9.kp k10 fun k hk e => hxb' (e ▸ hk)
      rw [List.take_add_one, List.getElem?_eq_getElem hn', ← List.append_assoc]
      exact this
  have hn' : ¬ n < l.length := by simpa using hh
  rw [List.take_of_length_le (by omega)] at ha4
  rw [List.drop_eq_nil_of_le (by omega)] at hfb
  have hfb : L6 L2 l 0 = none := hfb
  have hck := C8 hfb
  have hcf : ∀ c ∈ l, K2 c ∧ Nm c ∧ c.name ≠ [] := fun c hc => Ev (hck c hc)
  have hsmall : ∀ c ∈ Q5 l, K2 c := fun c hc => by
    rcases List.mem_append.1 hc with hc | hc
    · exact (Yt c hc).1
    · exact (hcf c hc).1
  have hnmall : ∀ c ∈ Q5 l, Nm c := fun c hc => by
    rcases List.mem_append.1 hc with hc | hc
    · exact (Yt c hc).2.1
    · exact (hcf c hc).2.1
  have hlenall : (Q5 l).length ≤ 100000 := by omega
  unfold Yj at h1 h0
  rw [hfb] at h1 h0
  simp only at h1 h0
  -- from now on the classes stay
  obtain ⟨σ5, hS5, hv5, le5, old5⟩ := ha4.keep hS4
  have hb5 : V1 σ5 w4 bt _ := ⟨(old5 bt fun e => hxb e.symm).trans hb4.1, hb4.2⟩
  have hm5 : N1 σ5 w4 r [] := ⟨(old5 r fun e => hxr e.symm).trans hm4.1, hm4.2⟩
  obtain ⟨σ6, hS6, hb6, le6, old6⟩ := hb5.keep hS5 hbtw
  have hm6 : N1 σ6 w4 r [] := ⟨(old6 r hrbt).trans hm5.1, hm5.2⟩
  have hv6 : Sl 8 V0 σ6 x (Q5 l) := hv5.le le6
  clear hb5 hb4 ha4
  rw [S2, fa]
  refine ld hS6.sat hb6 rfl ?_
  refine Q7 hv6 ?_
  refine V7 (Q5 l).length (fun n w' => ∃ σ' m, Stp w σ w' σ' ∧ SLe σ6 σ' ∧ N1 σ' w' r m ∧ (∀ k, E5 m k = (Y3 ((Q5 l).take n) k).map (fun i : Nat => I (i : Int))) ∧ ∀ j, j < n → (Y3 ((Q5 l).take j) (X9 (Q5 l) j)).isSome = false)
    ⟨σ6, [], hS6, SLe.refl _, hm6, by simp [E5, Y3], by intro j hj; omega⟩ fun n w5 d hn2 hinv => ?_
  obtain ⟨σ7, m, hS7, le7, hm7, hlm, hnd⟩ := hinv
  refine U0 ?_
  refine Q4 (fun hh2 => ?_) (fun hh2 => ?_)
  · have hn3 : n < (Q5 l).length := by simpa using hh2
    refine L3 (hv6.lift le7) hn3 fun p cells hl1 hl2 hr1 => ?_
    refine Z0 hS7.sat hl1 hl2 ?_
    refine Y2 hS7.sat (by rfl) hl2 (Rep.one hr1) fun q w6 σ8 hk8 hq8 => ?_
    obtain ⟨lv', fv, mv, rfl, f1, f2, f3, f4, f5⟩ := hr1
    have hS8 := hS7.trans hk8
    have le8 : SLe σ6 σ8 := le7.more ⟨hk8.le⟩
    have hm8 := hm7.up hk8
    have hb8 := hb6.lift le8
    rw [fa]
    refine ld hk8.sat hq8 rfl ?_
    refine Ma ?_
    unfold Yw
    rw [S2, fa]
    refine ld hk8.sat hb8 rfl ?_
    refine Q5h X8 hm8.2 _ ?_
    refine M4 (vs := [_, _]) rfl ?_
    refine M4 (vs := [_, _]) rfl ?_
    have hna := Be hn3
    have hfd := hlm (Q5 l)[n].name
    cases hfc : Y3 ((Q5 l).take n) (Q5 l)[n].name with
    | some i =>
      rw [hfc] at hfd
      rw [hfd]
      refine F9 ?_
      have hdup : Oz (Q5 l) = some n := by
        unfold Oz
        rw [List.find?_range_eq_some]
        refine ⟨by rw [hna, hfc]; rfl, by simpa using hn3, fun j hj => by rw [hnd j hj]; rfl⟩
      refine Nl ⟨by omega, by omega⟩ ?_
      refine h1 _ _ _ _ ?_ hS8
      rw [hdup]
      rfl
    | none =>
      rw [hfc] at hfd
      rw [hfd]
      refine K1 ?_
      refine W9 hk8.sat ?_
      refine X2 (.pointer (some ⟨bt, 0, none⟩)) (fun w hb => by rw [S2]; exact X4 rfl) ?_
      refine X2 (.pointer (some ((⟨bt, 0, none⟩ : Addr).add 1))) (fun t w hb e => by rw [e, fa]; exact X4 rfl) ?_
      refine X2 (.pointer (some (q.add 0))) (fun w hb => by rw [fa]; exact X4 rfl) ?_
      refine X2 (.map (some r)) (fun t w hb e => by rw [e]; exact ld hb.sat hb8 rfl (X4 rfl)) ?_
      refine X2 (S (Q5 l)[n].name) (fun t w hb e => by rw [e]; exact ld hb.sat hq8 rfl (X4 rfl)) ?_
      rintro t71 t72 t74 t73 t75 w9 hb9 _ _ _ rfl rfl
      refine Cn X8 (hm8.up hb9.stp) _ (I n) fun w10 u10 hm10 => ?_
      have hS9 := hS8.trans hb9.stp
      have hS10 := u10.stp hS9 hrw hm10.1
      refine O8 ?_
      refine Z2 (by omega) hn3 ⟨σ8, _, hS10, le8, hm10, fun k => ?_, fun j hj => ?_⟩
      · rw [Q1i, Q4R hn3 k]
        by_cases e : (Q5 l)[n].name = k
        · subst e
          rw [if_pos rfl, hfc]; simp
        · rw [if_neg e, hlm k]
          cases Y3 ((Q5 l).take n) k with
          | some i => rfl
          | none => simp [e]
      · by_cases e : j = n
        · subst e; rw [hna, hfc]; rfl
        · exact hnd j (by omega)
  have hn3 : ¬ n < (Q5 l).length := by simpa using hh2
  have hne : n = (Q5 l).length := by omega
  subst hne
  rw [List.take_of_length_le (Nat.le_refl _)] at hlm
  have hdup : Oz (Q5 l) = none := by
    unfold Oz
    rw [List.find?_eq_none]
    intro j hj
    rw [hnd j (by simpa using hj)]; simp
  rw [hdup] at h1 h0
  simp only at h1 h0
  have hown := Cg hdup
  obtain ⟨σ8, hS8, hm8, le8, _⟩ := hm7.keep hS7 hrw
  have le68 : SLe σ6 σ8 := le7.more ⟨le8⟩
  have ht8 : Tab σ8 (.pointer (some ⟨bt, 0, none⟩)) (Q5 l) := ⟨⟨bt, 0, none⟩, x, r, m, rfl, hb6.lift le68, hv6.lift le68, hm8, hlm⟩
  have hb8 := hb6.lift le68
  have hv8 := hv6.lift le68
  clear hm7 hm8 hh2 hn3 hn2 hh hn' hn hnd
  have hdr : (Q5 l).drop 8 = l := by simp [Q5, hgl]
  rw [S2, fa]
  refine ld hS8.sat hb8 rfl ?_
  refine Hw hv8 (some (I (8 : Nat))) none 8 (Q5 l).length (.inr rfl) (.inl ⟨rfl, rfl⟩) (by omega) (Nat.le_refl _) fun v9 hv9 => ?_
  rw [hdr, List.take_of_length_le (by omega)] at hv9
  refine Q7 hv9 ?_
  refine V7 l.length (fun n w' => ∃ σ', Stp w σ w' σ' ∧ SLe σ8 σ' ∧ L6 (fun c => (uppersM (Q5 l) c : Int)) l 0 = L6 (fun c => (uppersM (Q5 l) c : Int)) (l.drop n) n) ⟨σ8, hS8, SLe.refl _, rfl⟩ fun n w6 d hn hinv => ?_
  obtain ⟨σ9, hS9, le9, hfu⟩ := hinv
  refine U0 ?_
  refine Q4 (fun hh => ?_) (fun hh => ?_)
  · have hn' : n < l.length := by simpa using hh
    refine L3 (hv9.lift le9) hn' fun p cells hl1 hl2 hr1 => ?_
    refine Z0 hS9.sat hl1 hl2 ?_
    refine Y2 hS9.sat (by rfl) hl2 (Rep.one hr1) fun q w7 σ10 hk10 hq10 => ?_
    have hS10 := hS9.trans hk10
    refine Z0 hk10.sat hq10 hl2 ?_
    have hfu2 := Jh hn' hfu
    refine Q6W hk10.sat (ht8.lift (le9.more ⟨hk10.le⟩)) (R2 hr1 ⟨hk10.le⟩) fun w8 σ11 hk11 => ?_
    refine Ds ?_
    refine Q4 (fun hh2 => ?_) (fun hh2 => ?_)
    · have hne : ¬ (uppersM (Q5 l) l[n] : Int) = 0 := by simpa using hh2
      rw [if_neg hne] at hfu2
      refine h1 _ _ _ _ ?_ (hS10.trans hk11)
      rw [hfu2]
    · have hz : (uppersM (Q5 l) l[n] : Int) = 0 := by simpa using hh2
      rw [if_pos hz] at hfu2
      refine O8 ?_
      exact Z2 hl3.max hn' ⟨σ11, hS10.trans hk11, le9.more ⟨fun b o e => hk11.le _ _ (hk10.le _ _ e)⟩, hfu2⟩
  have hn' : ¬ n < l.length := by simpa using hh
  rw [List.drop_eq_nil_of_le (by omega)] at hfu
  have hfu : L6 (fun c => (uppersM (Q5 l) c : Int)) l 0 = none := hfu
  rw [hfu] at h1 h0
  simp only at h1 h0
  have hup := C8 hfu
  have ht9 := ht8.lift le9
  clear hh hn' hn
  rw [S2, fa]
  refine ld hS9.sat (hb8.lift le9) rfl ?_
  refine Hw (hv8.lift le9) (some (I (8 : Nat))) none 8 (Q5 l).length (.inr rfl) (.inl ⟨rfl, rfl⟩) (by omega) (Nat.le_refl _) fun v10 hv10 => ?_
  rw [hdr, List.take_of_length_le (by omega)] at hv10
  rw [Qz]
  refine Hq (loopsM (Q5 l)) hS9.sat hv10 (fun c cs w7 K hc hs7 hr hlen hK => Z9 (first := [.pointer (some ⟨bt, 0, none⟩)]) (caps := []) ?_) fun w7 hb7 => ?_
  · exact Q7m hs7 ht9 hlenall hsmall hr fun w' σ' hk => hK w' hk.bel
  have hS10 := hS9.trans (Stp.of_below hS9.sat hb7)
  refine Yz ?_
  rw [F2]
  cases hlo : l.findIdx? (loopsM (Q5 l)) with
  | some i =>
    refine F9 ?_
    refine h1 _ _ _ _ ?_ hS10
    rw [hlo]; rfl
  | none =>
    rw [hlo] at h1 h0
    simp only at h1 h0
    refine K1 ?_
    have hlo' : ∀ c ∈ l, loopsM (Q5 l) c = false := fun c hc => List.findIdx?_eq_none_iff.1 hlo c hc
    have hacy := Q29 hown (fun c hc => (hcf c hc).2.2) hlo'
    have hfull : Q6m (Q5 l) := fun c hc u hu => by
      rcases List.mem_append.1 hc with hc | hc
      · rw [(Yt c hc).2.2] at hu; simp at hu
      · have := hup c hc
        unfold uppersM at this
        split at this
        · simp at this
        · split at this
          · simp at this
          · rename_i hnb
            have hnb : c.like.any (M7 (Q5 l)) = false := eq_false_of_ne_true hnb
            have := List.any_eq_false.1 hnb u hu
            unfold M7 at this
            cases hd : lk (Q5 l) u with
            | none => rw [hd] at this; simp at this
            | some d => exact ⟨d, rfl⟩
    have hok : Ok (Q5 l) := ⟨hacy, hlenall, hsmall, hfull, hnmall⟩
    refine Q7N (frm := 8) hS10.sat (ht9.lift ⟨(Stp.of_below hS9.sat hb7).le⟩) hacy hown hlenall hsmall (by omega) (by omega) fun v11 w8 σ11 hk11 hv11 hol hoi => ?_
    have hS11 := hS10.trans hk11
    have ht11 := ht9.lift ⟨fun b o e => hk11.le _ _ e⟩
    refine Q7 hv11 ?_
    have hil : (G7 (V8 (Q5 l) 8)).length = (V8 (Q5 l) 8).length := by simp
    rw [hil]
    refine V7 (V8 (Q5 l) 8).length (fun n w' => ∃ σ', Stp w σ w' σ' ∧ SLe σ11 σ' ∧ ∀ j ∈ (V8 (Q5 l) 8).take n, membersM (Q5 l) ((Q5 l).getD j Cla.zero) = 0) ⟨σ11, hS11, SLe.refl _, by simp⟩ fun n w9 d hn hinv => ?_
    obtain ⟨σ12, hS12, le12, hno⟩ := hinv
    refine U0 ?_
    refine Q4 (fun hh => ?_) (fun hh => ?_)
    · have hn' : n < (V8 (Q5 l) 8).length := by simpa using hh
      refine L3 (hv11.lift le12) (by rw [hil]; exact hn') fun p cells hl1 hl2 hr1 => ?_
      obtain ⟨rfl, _⟩ := hr1
      refine X7 hS12.sat hl1 rfl ?_
      simp only [List.getElem_map]
      rw [S2, fa]
      have le8x : SLe σ8 σ12 := le9.more (SLe.more ⟨hk11.le⟩ le12)
      refine ld hS12.sat (hb8.lift le8x) rfl ?_
      have hji := hoi _ (List.getElem_mem hn')
      refine L3 (hv8.lift le8x) hji fun p2 cells hl1 hl2 hr1 => ?_
      refine Z0 hS12.sat hl1 hl2 ?_
      have hat : (Q5 l).getD (V8 (Q5 l) 8)[n] Cla.zero = (Q5 l)[(V8 (Q5 l) 8)[n]] := by rw [List.getD_eq_getElem?_getD, List.getElem?_eq_getElem hji]; rfl
      have hmem := List.getElem_mem hji
      refine Q5X hS12.sat (ht11.lift le12) hok hr1 (hsmall _ hmem) (hnmall _ hmem) fun w10 σ13 hk13 => ?_
      have hS13 := hS12.trans hk13
      refine Ds ?_
      refine Q4 (fun hh2 => ?_) (fun hh2 => ?_)
      · have hne : ¬ membersM (Q5 l) (Q5 l)[(V8 (Q5 l) 8)[n]] = 0 := by simpa using hh2
        refine Nl ⟨by omega, by omega⟩ ?_
        have hfind : (V8 (Q5 l) 8).find? (fun j => !decide (membersM (Q5 l) ((Q5 l).getD j Cla.zero) = 0)) = some (V8 (Q5 l) 8)[n] := by
          rw [List.find?_eq_some_iff_getElem]
          refine ⟨by rw [hat]; simpa using hne, n, hn', rfl, fun j hj => ?_⟩
          have := hno _ (List.mem_take_iff_getElem.2 ⟨j, by omega, rfl⟩)
          rw [this]; simp
        have := h1 (((V8 (Q5 l) 8)[n] : Int) - 8) (membersM (Q5 l) (Q5 l)[(V8 (Q5 l) 8)[n]]) w10 σ13 (by rw [hfind]; simp only [hat]) hS13
        exact this
      · have hz : membersM (Q5 l) (Q5 l)[(V8 (Q5 l) 8)[n]] = 0 := by simpa using hh2
        refine O8 ?_
        refine Z2 (by omega) hn' ⟨σ13, hS13, le12.more ⟨hk13.le⟩, fun j hj => ?_⟩
        rw [List.take_add_one, List.getElem?_eq_getElem hn'] at hj
        rcases List.mem_append.1 hj with hj | hj
        · exact hno j hj
        · simp at hj; subst hj; rw [hat]; exact hz
    · have hn' : ¬ n < (V8 (Q5 l) 8).length := by simpa using hh
      rw [List.take_of_length_le (by omega)] at hno
      have hfind : (V8 (Q5 l) 8).find? (fun j => !decide (membersM (Q5 l) ((Q5 l).getD j Cla.zero) = 0)) = none := by
        rw [List.find?_eq_none]
        intro j hj
        rw [hno j hj]; simp
      rw [hfind] at h0
      exact h0 _ _ _ rfl hS12 (ht11.lift le12) hok hown)
end Go.Proofs.YtdnfaboigajkhaaGreatDoor

namespace Go.Hm
open Go.Kd
def Wh (m : Hm.Met) : Bool := !(decide (50 < m.code.length) || decide (8 < m.params.length) || decide (8 < m.catches.length))
def Ov (c : Cla) : Bool := !(decide (6 < c.like.length) || decide (6 < c.fields.length) || decide (6 < c.methods.length)) && c.methods.all Wh
def K7 (l : List Cla) : Bool := !decide (12 < l.length) && l.all Ov
def sA : X0 := [65]
def sB : X0 := [66]
def sC : X0 := [67]
def Qn : List Cla := [⟨sA, U1, [], false, false, false, [⟨[120], [105, 110, 116], false⟩, ⟨[116], C6, true⟩], []⟩, ⟨sB, sA, [], false, false, false, [], []⟩, ⟨sC, sA, [], false, false, false, [], []⟩]
theorem Bh {α : Type} {p : α → Bool} {xs : List α} {n : Nat} (h : n < xs.length) : (xs.take (n + 1)).all p = ((xs.take n).all p && p xs[n]) := by
  rw [List.take_add_one, List.getElem?_eq_getElem h, Option.toList_some, List.all_append, List.all_cons, List.all_nil, Bool.and_true]
theorem Kf {α : Type} {p : α → Bool} {xs : List α} {n : Nat} (h : ¬ n < xs.length) : (xs.take n).all p = xs.all p := by rw [List.take_of_length_le (by omega)]
theorem Q0U {α : Type} {p : α → Bool} {xs : List α} {n : Nat} (h : n < xs.length) (k : p xs[n] = false) : xs.all p = false := by
  rw [List.all_eq_false]; exact ⟨_, List.getElem_mem h, by simp [k]⟩
theorem Kh {l : List Cla} (h : K7 l = true) : l.length ≤ 12 ∧ ∀ c ∈ l, Ov c = true := by
  simp only [K7, Bool.and_eq_true, Bool.not_eq_true', decide_eq_false_iff_not, List.all_eq_true] at h
  exact ⟨by omega, h.2⟩
theorem Q65 {l : List Cla} (h : K7 l = true) : ∀ c ∈ l, K2 c := by
  intro c hc
  have := (Kh h).2 c hc
  simp only [Ov, Wh, Bool.and_eq_true, Bool.not_eq_true', Bool.or_eq_false_iff, decide_eq_false_iff_not, List.all_eq_true] at this
  obtain ⟨⟨⟨a, b⟩, c'⟩, d⟩ := this
  refine ⟨by omega, by omega, by omega, fun m hm => ?_⟩
  obtain ⟨⟨p, q⟩, r⟩ := d m hm
  exact ⟨by omega, by omega, by omega⟩
end Go.Hm
namespace Go.Proofs.YtdnfaboigajkhaaGreatDoor
open Go.Emb Go.RowKit Go.Kd Go.Hm
variable {w : World} {K : Value → World → Prop} {σ : Q6} {v : Value} {l : List Cla}
set_option maxHeartbeats 1000000 in
theorem Q8S {lv : Value} (hs : X6 w σ) (hl : Sl 8 V0 σ lv l) (h : ∀ w' σ', Stp w σ w' σ' → K (.bool (K7 l)) w') : Q1 P F.bk [lv] w K := Ih (by
  unfold Mf
  refine Q7 hl ?_
  (try simp only [↓Mm, Mm, ↓Mr, Mr, Mb, reduceIte])
  refine Q4 (fun h1 => ?_) (fun h1 => ?_)
  · have e : K7 l = false := by
      have : 12 < l.length := by have := of_decide_eq_true h1; omega
      simp [K7, this]
    rw [e] at h
    exact h _ _ (Stp.refl hs)
  have h1 : l.length ≤ 12 := by have := of_decide_eq_false h1; omega
  refine V7 l.length (fun n w' => ∃ σ', Stp w σ w' σ' ∧ (l.take n).all Ov = true) ⟨σ, Stp.refl hs, rfl⟩ fun n w2 d hn hi => ?_
  obtain ⟨σ2, hS2, hp⟩ := hi
  refine Q7 (hl.up hS2) ?_
  refine U0 ?_
  refine Q4 (fun hc => ?_) (fun hc => ?_)
  · have hn' : n < l.length := by simpa using hc
    have hfalse : Ov l[n] = false → K7 l = false := fun e => by simp [K7, Q0U hn' e]
    refine L3 (hl.up hS2) hn' fun p cs hl1 hlen hr => ?_
    refine Z0 hS2.sat hl1 hlen ?_
    refine Y2 hS2.sat (by rfl) hlen (Rep.one hr) fun q w3 σ3 hk3 hq => ?_
    obtain ⟨lv', fv, mv, rfl, f1, f2, f3, f4, f5⟩ := hr
    have hS3 := hS2.trans hk3
    have hs3 := hk3.sat
    replace f1 := f1.up hk3
    replace f2 := f2.up hk3
    replace f3 := f3.up hk3
    have hne : ∀ b : Bool, (decide (6 < l[n].like.length) || decide (6 < l[n].fields.length) || decide (6 < l[n].methods.length)) = b → Ov l[n] = (!b && l[n].methods.all Wh) := fun b e => by rw [← e]; rfl
    ((try simp only [↓Mm, Mm, ↓Mr, Mr, Mb, reduceIte]); repeat ((first | refine ld (by assumption) (by assumption) rfl ?_ | refine X7 (by assumption) (by assumption) rfl ?_ | refine Q7 (by assumption) ?_); (try simp only [↓Mm, Mm, ↓Mr, Mr, Mb, reduceIte])))
    (repeat' ((first | refine Y1 (fun hh => ?_) (fun hh => ?_) | refine Q4 (fun hh => ?_) (fun hh => ?_)) <;> (try simp only [hh, Bool.not_true, Bool.not_false, ↓Mm, Mm, ↓Mr, Mr, Mb, reduceIte]) <;> ((try simp only [↓Mm, Mm, ↓Mr, Mr, Mb, reduceIte]); repeat ((first | refine ld (by assumption) (by assumption) rfl ?_ | refine X7 (by assumption) (by assumption) rfl ?_ | refine Q7 (by assumption) ?_); (try simp only [↓Mm, Mm, ↓Mr, Mr, Mb, reduceIte])))))
    all_goals try
      (have e : K7 l = false := hfalse (by simp only [Ov, Bool.and_eq_false_iff]; left; (first | (simp only [decide_eq_true_eq, decide_eq_false_iff_not, Bool.not_true, Bool.not_false, Bool.not_eq_true', Bool.not_eq_false', Bool.or_eq_true, Bool.and_eq_true, Bool.or_eq_false_iff, Bool.and_eq_false_iff, Bool.false_or, Bool.true_and, Bool.or_false, Bool.and_true] at *; first | omega | (and_intros <;> omega)) | (rw [Bool.eq_iff_iff]; (simp only [decide_eq_true_eq, decide_eq_false_iff_not, Bool.not_true, Bool.not_false, Bool.not_eq_true', Bool.not_eq_false', Bool.or_eq_true, Bool.and_eq_true, Bool.or_eq_false_iff, Bool.and_eq_false_iff, Bool.false_or, Bool.true_and, Bool.or_false, Bool.and_true] at *; first | omega | (and_intros <;> omega)))))
       rw [e] at h
       exact h _ _ hS3)
    refine V7 l[n].methods.length (fun k w' => ∃ σ', Stp w3 σ3 w' σ' ∧ (l[n].methods.take k).all Wh = true) ⟨σ3, Stp.refl hs3, rfl⟩ fun k w4 d4 hk4 hi4 => ?_
    obtain ⟨σ4, hS4, hp4⟩ := hi4
    have hs4 := hS4.sat
    have hq4 := hq.up hS4
    have f3' := f3.up hS4
    ((try simp only [↓Mm, Mm, ↓Mr, Mr, Mb, reduceIte]); repeat ((first | refine ld (by assumption) (by assumption) rfl ?_ | refine X7 (by assumption) (by assumption) rfl ?_ | refine Q7 (by assumption) ?_); (try simp only [↓Mm, Mm, ↓Mr, Mr, Mb, reduceIte])))
    refine Q4 (fun hc4 => ?_) (fun hc4 => ?_)
    · have hk' : k < l[n].methods.length := by simpa using hc4
      have hmfalse : Wh l[n].methods[k] = false → K7 l = false := fun e => hfalse (by simp [Ov, Q0U hk' e])
      ((try simp only [↓Mm, Mm, ↓Mr, Mr, Mb, reduceIte]); repeat ((first | refine ld (by assumption) (by assumption) rfl ?_ | refine X7 (by assumption) (by assumption) rfl ?_ | refine Q7 (by assumption) ?_); (try simp only [↓Mm, Mm, ↓Mr, Mr, Mb, reduceIte])))
      refine L3 f3' hk' fun p5 cs5 hl5 hlen5 hr5 => ?_
      obtain ⟨pv, cv, hv, rfl, g1, g2, g3, g4⟩ := hr5
      ((try simp only [↓Mm, Mm, ↓Mr, Mr, Mb, reduceIte]); repeat ((first | refine ld (by assumption) (by assumption) rfl ?_ | refine X7 (by assumption) (by assumption) rfl ?_ | refine Q7 (by assumption) ?_); (try simp only [↓Mm, Mm, ↓Mr, Mr, Mb, reduceIte])))
      (repeat' ((first | refine Y1 (fun hh => ?_) (fun hh => ?_) | refine Q4 (fun hh => ?_) (fun hh => ?_)) <;> (try simp only [hh, Bool.not_true, Bool.not_false, ↓Mm, Mm, ↓Mr, Mr, Mb, reduceIte]) <;> ((try simp only [↓Mm, Mm, ↓Mr, Mr, Mb, reduceIte]); repeat ((first | refine ld (by assumption) (by assumption) rfl ?_ | refine X7 (by assumption) (by assumption) rfl ?_ | refine Q7 (by assumption) ?_); (try simp only [↓Mm, Mm, ↓Mr, Mr, Mb, reduceIte])))))
      all_goals try
        (have e : K7 l = false := hmfalse (by simp only [Wh]; (first | (simp only [decide_eq_true_eq, decide_eq_false_iff_not, Bool.not_true, Bool.not_false, Bool.not_eq_true', Bool.not_eq_false', Bool.or_eq_true, Bool.and_eq_true, Bool.or_eq_false_iff, Bool.and_eq_false_iff, Bool.false_or, Bool.true_and, Bool.or_false, Bool.and_true] at *; first | omega | (and_intros <;> omega)) | (rw [Bool.eq_iff_iff]; (simp only [decide_eq_true_eq, decide_eq_false_iff_not, Bool.not_true, Bool.not_false, Bool.not_eq_true', Bool.not_eq_false', Bool.or_eq_true, Bool.and_eq_true, Bool.or_eq_false_iff, Bool.and_eq_false_iff, Bool.false_or, Bool.true_and, Bool.or_false, Bool.and_true] at *; first | omega | (and_intros <;> omega)))))
         rw [e] at h
         exact h _ _ (hS3.trans hS4))
      refine L3 f3' hk' fun p6 cs6 hl6 hlen6 hr6 => ?_
      obtain ⟨pv, cv, hv, rfl, g1, g2, g3, g4⟩ := hr6
      ((try simp only [↓Mm, Mm, ↓Mr, Mr, Mb, reduceIte]); repeat ((first | refine ld (by assumption) (by assumption) rfl ?_ | refine X7 (by assumption) (by assumption) rfl ?_ | refine Q7 (by assumption) ?_); (try simp only [↓Mm, Mm, ↓Mr, Mr, Mb, reduceIte])))
      (repeat' ((first | refine Y1 (fun hh => ?_) (fun hh => ?_) | refine Q4 (fun hh => ?_) (fun hh => ?_)) <;> (try simp only [hh, Bool.not_true, Bool.not_false, ↓Mm, Mm, ↓Mr, Mr, Mb, reduceIte]) <;> ((try simp only [↓Mm, Mm, ↓Mr, Mr, Mb, reduceIte]); repeat ((first | refine ld (by assumption) (by assumption) rfl ?_ | refine X7 (by assumption) (by assumption) rfl ?_ | refine Q7 (by assumption) ?_); (try simp only [↓Mm, Mm, ↓Mr, Mr, Mb, reduceIte])))))
      all_goals try
        (have e : K7 l = false := hmfalse (by simp only [Wh]; (first | (simp only [decide_eq_true_eq, decide_eq_false_iff_not, Bool.not_true, Bool.not_false, Bool.not_eq_true', Bool.not_eq_false', Bool.or_eq_true, Bool.and_eq_true, Bool.or_eq_false_iff, Bool.and_eq_false_iff, Bool.false_or, Bool.true_and, Bool.or_false, Bool.and_true] at *; first | omega | (and_intros <;> omega)) | (rw [Bool.eq_iff_iff]; (simp only [decide_eq_true_eq, decide_eq_false_iff_not, Bool.not_true, Bool.not_false, Bool.not_eq_true', Bool.not_eq_false', Bool.or_eq_true, Bool.and_eq_true, Bool.or_eq_false_iff, Bool.and_eq_false_iff, Bool.false_or, Bool.true_and, Bool.or_false, Bool.and_true] at *; first | omega | (and_intros <;> omega)))))
         rw [e] at h
         exact h _ _ (hS3.trans hS4))
      refine L3 f3' hk' fun p7 cs7 hl7 hlen7 hr7 => ?_
      obtain ⟨pv, cv, hv, rfl, g1, g2, g3, g4⟩ := hr7
      ((try simp only [↓Mm, Mm, ↓Mr, Mr, Mb, reduceIte]); repeat ((first | refine ld (by assumption) (by assumption) rfl ?_ | refine X7 (by assumption) (by assumption) rfl ?_ | refine Q7 (by assumption) ?_); (try simp only [↓Mm, Mm, ↓Mr, Mr, Mb, reduceIte])))
      (repeat' ((first | refine Y1 (fun hh => ?_) (fun hh => ?_) | refine Q4 (fun hh => ?_) (fun hh => ?_)) <;> (try simp only [hh, Bool.not_true, Bool.not_false, ↓Mm, Mm, ↓Mr, Mr, Mb, reduceIte]) <;> ((try simp only [↓Mm, Mm, ↓Mr, Mr, Mb, reduceIte]); repeat ((first | refine ld (by assumption) (by assumption) rfl ?_ | refine X7 (by assumption) (by assumption) rfl ?_ | refine Q7 (by assumption) ?_); (try simp only [↓Mm, Mm, ↓Mr, Mr, Mb, reduceIte])))))
      all_goals try
        (have e : K7 l = false := hmfalse (by simp only [Wh]; (first | (simp only [decide_eq_true_eq, decide_eq_false_iff_not, Bool.not_true, Bool.not_false, Bool.not_eq_true', Bool.not_eq_false', Bool.or_eq_true, Bool.and_eq_true, Bool.or_eq_false_iff, Bool.and_eq_false_iff, Bool.false_or, Bool.true_and, Bool.or_false, Bool.and_true] at *; first | omega | (and_intros <;> omega)) | (rw [Bool.eq_iff_iff]; (simp only [decide_eq_true_eq, decide_eq_false_iff_not, Bool.not_true, Bool.not_false, Bool.not_eq_true', Bool.not_eq_false', Bool.or_eq_true, Bool.and_eq_true, Bool.or_eq_false_iff, Bool.and_eq_false_iff, Bool.false_or, Bool.true_and, Bool.or_false, Bool.and_true] at *; first | omega | (and_intros <;> omega)))))
         rw [e] at h
         exact h _ _ (hS3.trans hS4))
      all_goals
        (try refine O8 ?_)
        refine Z2 f3'.max hk' ⟨σ4, hS4, ?_⟩
        rw [Bh hk', hp4, Bool.true_and]; simp only [Wh]; (first | (simp only [decide_eq_true_eq, decide_eq_false_iff_not, Bool.not_true, Bool.not_false, Bool.not_eq_true', Bool.not_eq_false', Bool.or_eq_true, Bool.and_eq_true, Bool.or_eq_false_iff, Bool.and_eq_false_iff, Bool.false_or, Bool.true_and, Bool.or_false, Bool.and_true] at *; first | omega | (and_intros <;> omega)) | (rw [Bool.eq_iff_iff]; (simp only [decide_eq_true_eq, decide_eq_false_iff_not, Bool.not_true, Bool.not_false, Bool.not_eq_true', Bool.not_eq_false', Bool.or_eq_true, Bool.and_eq_true, Bool.or_eq_false_iff, Bool.and_eq_false_iff, Bool.false_or, Bool.true_and, Bool.or_false, Bool.and_true] at *; first | omega | (and_intros <;> omega))))
    · have hk' : ¬ k < l[n].methods.length := by simpa using hc4
      rw [Kf hk'] at hp4
      (try simp only [↓Mm, Mm, ↓Mr, Mr, Mb, reduceIte])
      (try refine O8 ?_)
      have hi5 : (List.take (n + 1) l).all Ov = true := ?_
      · have hi6 : ∃ σ', Stp w σ w4 σ' ∧ (List.take (n + 1) l).all Ov = true := ⟨σ4, hS3.trans hS4, hi5⟩
        exact Z2 hl.max hn' hi6
      rw [Bh hn', hp, Bool.true_and]; simp only [Ov, hp4, Bool.and_true]; (first | (simp only [decide_eq_true_eq, decide_eq_false_iff_not, Bool.not_true, Bool.not_false, Bool.not_eq_true', Bool.not_eq_false', Bool.or_eq_true, Bool.and_eq_true, Bool.or_eq_false_iff, Bool.and_eq_false_iff, Bool.false_or, Bool.true_and, Bool.or_false, Bool.and_true] at *; first | omega | (and_intros <;> omega)) | (rw [Bool.eq_iff_iff]; (simp only [decide_eq_true_eq, decide_eq_false_iff_not, Bool.not_true, Bool.not_false, Bool.not_eq_true', Bool.not_eq_false', Bool.or_eq_true, Bool.and_eq_true, Bool.or_eq_false_iff, Bool.and_eq_false_iff, Bool.false_or, Bool.true_and, Bool.or_false, Bool.and_true] at *; first | omega | (and_intros <;> omega))))
  · have hn' : ¬ n < l.length := by simpa using hc
    rw [Kf hn'] at hp
    have e : K7 l = true := by simp [K7, hp]; omega
    rw [e] at h
    exact h _ _ hS2)
end Go.Proofs.YtdnfaboigajkhaaGreatDoor

namespace Go.Proofs.YtdnfaboigajkhaaGreatDoor
open Go.Emb Go.RowKit Go.Kd Go.Hm
variable {w : World} {K : Value → World → Prop} {σ : Q6} {v : Value} {l : List Cla}
theorem Q93 : P.underlying T.p = some (.pointer T.q) := by kernel_rfl
theorem Q2G (d : Nat) (o : Option Addr) : (Op.equalIn (d + 1) T.p (.pointer o) (.pointer none)).run P w = .ok o.isNone w := by
  cases o <;> simp [Op.equalIn, run_underlying Q93]
theorem Q5l {a : Addr} {ox oy : Operand} (h : K (.bool false) w) : Q3 P .eql T.p ox oy (.pointer (some a)) (.pointer none) w K := by
  have e : (Op.equal T.p (.pointer (some a)) (.pointer none)).run P w = .ok false w := Q2G 9999 _
  unfold Q3
  rw [Y0 (v := .bool false) (w' := w) (by simp [eqGuard, Go.binOp, e])]
  exact h
theorem Q7G {ox oy : Operand} (h : K (.bool true) w) : Q3 P .eql T.p ox oy (.pointer none) (.pointer none) w K := by
  have e : (Op.equal T.p (.pointer none) (.pointer none)).run P w = .ok true w := Q2G 9999 _
  unfold Q3
  rw [Y0 (v := .bool true) (w' := w) (by simp [eqGuard, Go.binOp, e])]
  exact h
theorem Q7T (hs : X6 w σ) (h : ∀ v' w' σ', Stp w σ w' σ' → Sl 8 V0 σ' v' Qn → K v' w') : Q1 P F.b0 [] w K := Ry (by
  unfold Va
  refine G0 (cells := #[S [120], S [105, 110, 116], .bool false]) (by kernel_rfl) ?_
  refine G0 (cells := #[S [116], S C6, .bool true]) (by kernel_rfl) ?_
  refine Mw (R := D5) (sz := 3) hs [.agg #[S [120], S [105, 110, 116], .bool false], .agg #[S [116], S C6, .bool true]] [⟨[120], [105, 110, 116], false⟩, ⟨[116], C6, true⟩] rfl rfl (by simp; exact ⟨rfl, rfl⟩) rfl ⟨⟨rfl, by decide, by decide⟩, ⟨rfl, by decide, by decide⟩, trivial⟩ fun v3 w1 σ1 hk1 hv3 => ?_
  have hv3' := hv3
  obtain ⟨a3, cap3, rfl, _⟩ := hv3'
  refine G0 (cells := #[S sA, S U1, .slice none 0 0, .bool false, .bool false, .bool false, .slice a3 2 cap3, .slice none 0 0]) (by kernel_rfl) ?_
  refine G0 (cells := #[S sB, S sA, .slice none 0 0, .bool false, .bool false, .bool false, .slice none 0 0, .slice none 0 0]) (by kernel_rfl) ?_
  refine G0 (cells := #[S sC, S sA, .slice none 0 0, .bool false, .bool false, .bool false, .slice none 0 0, .slice none 0 0]) (by kernel_rfl) ?_
  refine Mw (R := V0) (sz := 8) hk1.sat [.agg #[S sA, S U1, .slice none 0 0, .bool false, .bool false, .bool false, .slice a3 2 cap3, .slice none 0 0], .agg #[S sB, S sA, .slice none 0 0, .bool false, .bool false, .bool false, .slice none 0 0, .slice none 0 0], .agg #[S sC, S sA, .slice none 0 0, .bool false, .bool false, .bool false, .slice none 0 0, .slice none 0 0]]
    Qn rfl rfl (by simp; exact ⟨rfl, rfl, rfl⟩) rfl
    ⟨⟨_, _, _, rfl, Sl.nil, hv3, Sl.nil, by decide, by decide⟩, ⟨_, _, _, rfl, Sl.nil, Sl.nil, Sl.nil, by decide, by decide⟩, ⟨_, _, _, rfl, Sl.nil, Sl.nil, Sl.nil, by decide, by decide⟩, trivial⟩ fun v7 w2 σ2 hk2 hv7 => ?_
  exact h _ _ _ (hk1.trans hk2) hv7)
theorem Q6d : Yj L2 Qn = none := by decide +kernel
theorem Q6b : K7 Qn = true := by decide +kernel
theorem Q3C : Cz (Q5 Qn) [66] [67] = [65] := by decide +kernel
theorem Q3g : Cz (Q5 Qn) [66] [66, 91, 93] = U1 := by decide +kernel
theorem Q39 : Cz (Q5 Qn) [105, 110, 116] [65] = [] := by decide +kernel
theorem Q2n : printM (Q5 Qn) [65] = [65, 40, 41, 32, 120, 58, 105, 110, 116, 46] := by decide +kernel
theorem Q1Z : printM (Q5 Qn) [66] = [66, 40, 65, 40, 41, 32, 120, 58, 105, 110, 116, 46, 41, 46] := by decide +kernel
theorem Q5k : subM (Q5 Qn) [66] [65] = true := by decide +kernel
theorem Q3v : placeM (Q5 Qn) [66] [116] = some 1 := by decide +kernel
theorem Q1E : Aa (Q5 Qn) [66] = true := by decide +kernel
theorem Q42 (hs : X6 w σ) (hg : Glb σ) (h : ∀ w' σ', Stp w σ w' σ' → K (.bool true) w') : Q1 P F.ac [] w K := Cb (by
  unfold Uz
  refine Q7T hs fun v1 w1 σ1 hk1 hv1 => ?_
  refine Q7a hk1.sat (hg.lift ⟨hk1.le⟩) hv1 (by decide) (Q65 Q6b) (fun i e w' σ' hne => by rw [Q6d] at hne; cases hne) fun tv w2 σ2 _ hk2 ht ok own => ?_
  have hS2 := hk1.trans hk2
  have hg2 := hg.lift ⟨hS2.le⟩
  obtain ⟨ta, _, _, _, rfl, _⟩ := ht.ex
  refine M4 (vs := [_, _, _]) rfl ?_
  refine M4 (vs := [_, _, _]) rfl ?_
  refine M4 (vs := [_, _, _]) rfl ?_
  (try simp only [↓Mm, Mm, ↓Mr, Mr, Mb, reduceIte])
  refine Q5l ?_
  simp only [decide_true, ↓Mm, Mm, ↓Mr, Mr, Mb, reduceIte]
  have hs2 := hS2.sat
  refine Q08 hs2 ht ok (by decide) (by decide) fun w3 σ3 hk3 => ?_
  simp only [Q3C, decide_true, ↓Mm, Mm, ↓Mr, Mr, Mb, reduceIte]
  have hS3 := hS2.trans hk3
  replace ht := ht.lift ⟨hk3.le⟩
  refine Q08 hk3.sat ht ok (by decide) (by decide) fun w4 σ4 hk4 => ?_
  simp only [Q3g, decide_true, U1, ↓Mm, Mm, ↓Mr, Mr, Mb, reduceIte]
  have hS4 := hS3.trans hk4
  replace ht := ht.lift ⟨hk4.le⟩
  refine Q08 hk4.sat ht ok (by decide) (by decide) fun w5 σ5 hk5 => ?_
  simp only [Q39, decide_true, ↓Mm, Mm, ↓Mr, Mr, Mb, reduceIte]
  have hS5 := hS4.trans hk5
  replace ht := ht.lift ⟨hk5.le⟩
  refine Q44 ok _ (.inr (Nat.lt_succ_self _)) (by decide) hk5.sat ht fun w6 σ6 hk6 => ?_
  simp only [Q2n, decide_true, ↓Mm, Mm, ↓Mr, Mr, Mb, reduceIte]
  have hS6 := hS5.trans hk6
  replace ht := ht.lift ⟨hk6.le⟩
  refine Q44 ok _ (.inr (Nat.lt_succ_self _)) (by decide) hk6.sat ht fun w7 σ7 hk7 => ?_
  simp only [Q1Z, decide_true, ↓Mm, Mm, ↓Mr, Mr, Mb, reduceIte]
  have hS7 := hS6.trans hk7
  replace ht := ht.lift ⟨hk7.le⟩
  refine Q0l hk7.sat ht ok (by decide) (by decide) fun w8 σ8 hk8 => ?_
  simp only [Q5k, ↓Mm, Mm, ↓Mr, Mr, Mb, reduceIte]
  have hS8 := hS7.trans hk8
  replace ht := ht.lift ⟨hk8.le⟩
  refine Q3W hk8.sat ht ok.acy ok.len ok.sm fun w9 σ9 hk9 => ?_
  simp only [Q3v, W8, show ((1 : Nat) : Int) = 1 from rfl, decide_true, ↓Mm, Mm, ↓Mr, Mr, Mb, reduceIte]
  have hS9 := hS8.trans hk9
  replace ht := ht.lift ⟨hk9.le⟩
  refine Q66 hk9.sat ht fun w10 σ10 hk10 => ?_
  simp only [Q1E, ↓Mm, Mm, ↓Mr, Mr, Mb, reduceIte]
  have hS10 := hS9.trans hk10
  refine Q3T hk10.sat (hg.lift ⟨hS10.le⟩) fun x w11 σ11 hk11 ha11 => ?_
  refine Q1I ha11 ?_
  simp only [show R1.length = 8 from rfl, show ((8 : Nat) : Int) = 8 from rfl, decide_true, ↓Mm, Mm, ↓Mr, Mr, Mb, reduceIte]
  exact h _ _ (hS10.trans hk11))
end Go.Proofs.YtdnfaboigajkhaaGreatDoor

namespace Go.Hm
open Go.Kd
theorem Q2X {l : List Cla} {frm : Nat} : ∀ (f : Nat) (out : List Nat) (i : Nat), (∀ y ∈ out, y ∈ G1 l frm f out i) ∧ (0 < f → frm ≤ i → i ∈ G1 l frm f out i) := by
  intro f
  induction f with
  | zero => intro out i; exact ⟨fun y hy => hy, fun h => by omega⟩
  | succ f ih =>
    intro out i
    have fold : ∀ (us : List X0) (o : List Nat), ∀ y ∈ o, y ∈ us.foldl (fun out n => G1 l frm f out ((Y3 l n).getD 0)) o := by
      intro us
      induction us with
      | nil => intro o y hy; exact hy
      | cons u r ih2 => intro o y hy; exact ih2 _ y ((ih o _).1 y hy)
    simp only [G1]
    split
    · exact ⟨fun y hy => hy, fun _ h => by omega⟩
    · split
      · rename_i h; exact ⟨fun y hy => hy, fun _ _ => h⟩
      · exact ⟨fun y hy => List.mem_append_left _ (fold _ _ y hy), fun _ _ => by simp⟩
theorem Q63 {l : List Cla} {frm i : Nat} (h1 : frm ≤ i) (h2 : i < l.length) : i ∈ V8 l frm := by
  unfold V8
  have key : ∀ (is out : List Nat), (∀ y ∈ out, y ∈ is.foldl (fun out i => G1 l frm (l.length + 1) out i) out) ∧ (i ∈ is → i ∈ is.foldl (fun out i => G1 l frm (l.length + 1) out i) out) := by
    intro is
    induction is with
    | nil => intro out; exact ⟨fun y hy => hy, fun h => by simp at h⟩
    | cons a r ih =>
      intro out
      refine ⟨fun y hy => (ih _).1 y ((Q2X _ _ _).1 y hy), fun h => ?_⟩
      rcases List.mem_cons.1 h with rfl | h
      · exact (ih _).1 _ ((Q2X _ _ _).2 (by omega) h1)
      · exact (ih _).2 h
  refine (key _ _).2 ?_
  rw [List.mem_drop_iff_getElem]
  exact ⟨i - frm, by simp; omega, by simp; omega⟩
theorem Q1k {s : X0} (h : W7 s = true) : name s = true := Us (by rw [h, Bool.or_true])
theorem Q2F {a : X0} (h : name a = true) : N7 a = false := by
  cases he : N7 a with
  | false => rfl
  | true =>
    exfalso
    have h2 : 2 ≤ a.length ∧ a.drop (a.length - 2) = [91, 93] := by simpa [N7] using he
    have h3 : (93 : UInt8) ∈ a := List.mem_of_mem_drop (i := a.length - 2) (by rw [h2.2]; simp)
    cases a with
    | nil => simp at h3
    | cons c r =>
      simp only [name, Bool.and_eq_true, List.all_eq_true] at h
      have := h.2 _ h3
      revert this; decide
end Go.Hm
namespace Go.Proofs.YtdnfaboigajkhaaGreatDoor
open Go.Emb Go.RowKit Go.Kd Go.Hm
theorem Q5W {a : X0} (h : name a = true) : V2 a = (a, 0) := by rw [A4, Q2F h]; simp
theorem Ni {s : X0} (h : W7 s = true) : N7 s = false ∧ V2 s = (s, 0) ∧ right s = true ∧ plain s = false ∧ Jr s = [] ∧ s ≠ B6 ∧ s ≠ [] := by
  have hn := Hm.Q1k h
  have ha := Q2F hn
  have hb := Q5W hn
  refine ⟨ha, hb, ?_, ?_, by simp [Jr, ha], ?_, ?_⟩
  · simp [right, hb, h]
  · cases hp : plain s with
    | false => rfl
    | true =>
      simp only [plain, Bool.or_eq_true, decide_eq_true_eq] at hp
      rcases hp with (e | e) | e <;> subst e <;> revert h <;> decide
  · rintro rfl; revert h; decide
  · rintro rfl; revert h; decide
structure Wf (l : List Cla) : Prop where
  ck : ∀ c ∈ l, L2 c = 0
  own : B8 (Q5 l)
  acy : Qw (Q5 l)
  up : ∀ c ∈ l, uppersM (Q5 l) c = 0
  mem : ∀ c ∈ l, membersM (Q5 l) c = 0
theorem Q95 {l : List Cla} (h : Yj L2 l = none) : Wf l := by
  unfold Yj at h
  split at h
  · cases h
  rename_i h1
  split at h
  · cases h
  rename_i h2
  split at h
  · cases h
  rename_i h3
  split at h
  · cases h
  rename_i h4
  split at h
  · cases h
  rename_i h5
  have hck := C8 h1
  have hown := Cg h2
  have hlo : ∀ c ∈ l, loopsM (Q5 l) c = false := fun c hc => List.findIdx?_eq_none_iff.1 h4 c hc
  refine ⟨hck, hown, Q29 hown (fun c hc => (Ev (hck c hc)).2.2) hlo, fun c hc => by have := C8 h3 c hc; omega, fun c hc => ?_⟩
  obtain ⟨i, hi, rfl⟩ := List.getElem_of_mem hc
  have hgl : R1.length = 8 := rfl
  have := List.find?_eq_none.1 h5 (8 + i) (Q63 (by omega) (by simp [Q5, hgl]; omega))
  have e : (Q5 l).getD (8 + i) Cla.zero = l[i] := by
    rw [List.getD_eq_getElem?_getD, Q5, List.getElem?_append_right (by omega), hgl, show 8 + i - 8 = i by omega, List.getElem?_eq_getElem hi]; rfl
  rw [e] at this
  simpa using this
section
variable {l : List Cla} (wf : Wf l)
include wf
theorem Wf.names {c : Cla} (hc : c ∈ Q5 l) : W7 c.name = true := by
  rcases List.mem_append.1 hc with hc | hc
  · have : ∀ c ∈ R1, W7 c.name = true := by decide +kernel
    exact this c hc
  · have := wf.ck c hc
    unfold L2 at this
    split at this
    · cases this
    · split at this
      · rename_i hr
        simp only [Uu, Bool.and_eq_true] at hr
        obtain ⟨⟨⟨⟨⟨⟨⟨⟨q1, _⟩, _⟩, _⟩, _⟩, _⟩, _⟩, _⟩, _⟩ := hr
        exact List.all_eq_true.1 q1 c.name (by simp)
      · cases this
theorem Wf.lkn {n : X0} {c : Cla} (h : lk (Q5 l) n = some c) : W7 n = true := by
  obtain ⟨e, hm, _⟩ := V3 h
  rw [← e]; exact wf.names hm
theorem Wf.root : lk (Q5 l) U1 = some ⟨U1, [], [], false, false, false, [], []⟩ := wf.own.lk (c := ⟨U1, [], [], false, false, false, [], []⟩) (List.mem_append_left _ (by decide))
theorem Wf.fault : lk (Q5 l) W6 = some ⟨W6, U1, [], false, false, false, [⟨K3, C6, false⟩], []⟩ := wf.own.lk (c := ⟨W6, U1, [], false, false, false, [⟨K3, C6, false⟩], []⟩) (List.mem_append_left _ (by decide))
theorem Wf.super {c : Cla} (hc : c ∈ Q5 l) : c.name = U1 ∨ ∃ d, lk (Q5 l) c.super = some d := by
  rcases List.mem_append.1 hc with hc | hc
  · have : ∀ c ∈ R1, c.name = U1 ∨ c.super = U1 ∨ c.super = W6 := by decide
    rcases this c hc with h | h | h
    · exact .inl h
    · exact .inr ⟨_, h ▸ wf.root⟩
    · exact .inr ⟨_, h ▸ wf.fault⟩
  · right
    have := wf.up c hc
    unfold uppersM at this
    split at this
    · cases this
    · rename_i h
      unfold F8 at h
      cases hd : lk (Q5 l) c.super with
      | none => rw [hd] at h; simp at h
      | some d => exact ⟨d, rfl⟩
theorem Wf.toRoot : ∀ (k : Nat) {n : X0} {c : Cla}, H9 (Q5 l) n < k → lk (Q5 l) n = some c → Hm.Reach (lk (Q5 l)) n U1 := by
  intro k
  induction k with
  | zero => intro n c h; omega
  | succ k ih =>
    intro n c hk hc
    obtain ⟨e, hm, _⟩ := V3 hc
    rcases wf.super hm with h | ⟨d, hd⟩
    · rw [← e, h]; exact .refl wf.root
    · have hu : c.super ∈ U5 c := by simp [U5]
      exact .step hc hu (ih (by have := F3 wf.acy hc hu hd; omega) hd)
theorem Wf.atRoot {b : X0} (h : Hm.Reach (lk (Q5 l)) U1 b) : b = U1 := by
  cases h with
  | refl => rfl
  | step hc hu hr =>
    rw [wf.root] at hc; cases hc
    simp [U5] at hu; subst hu
    obtain ⟨d, hd⟩ := hr.left
    exact absurd (wf.lkn hd) (by decide)
theorem Wf.kind {n : X0} {c : Cla} (h : lk (Q5 l) n = some c) : kindM (Q5 l) n = true := by
  obtain ⟨h1, h2, h3, h4, h5, h6, h7⟩ := Ni (wf.lkn h)
  have : hasM (Q5 l) n = true := by rw [Np, h]; rfl
  simp [kindM, h3, h2, this]
theorem Wf.sub_iff {a b : X0} : subM (Q5 l) a b = true ↔ kindM (Q5 l) a = true ∧ kindM (Q5 l) b = true ∧ (a = b ∨ (plain a = false ∧ plain b = false ∧ (a = B6 ∨ (Jr a ≠ [] ∧ b = U1) ∨ (lk (Q5 l) a ≠ none ∧ Hm.Reach (lk (Q5 l)) a b)))) := by
  unfold subM
  cases ka : kindM (Q5 l) a <;> cases kb : kindM (Q5 l) b <;> simp
  by_cases e : a = b
  · simp [e]
  cases pa : plain a <;> cases pb : plain b <;> simp [e]
  by_cases hn : a = B6
  · simp [hn]
  simp only [hn, false_or]
  by_cases he : Jr a = []
  · simp only [he, if_true, not_true_eq_false, false_and, false_or, Zc]
    constructor
    · intro h; obtain ⟨c, hc⟩ := h.left; exact ⟨by rw [hc]; simp, h⟩
    · intro h; exact h.2
  · simp only [he, if_false, not_false_eq_true, true_and]
    constructor
    · exact .inl
    · rintro (h | ⟨h, _⟩)
      · exact h
      · cases hl : lk (Q5 l) a with
        | none => exact absurd hl h
        | some c => exact absurd (Ni (wf.lkn hl)).2.2.2.2.1 he
theorem Wf.sub_class {a b : X0} {c : Cla} (ha : lk (Q5 l) a = some c) : subM (Q5 l) a b = true ↔ Hm.Reach (lk (Q5 l)) a b := by
  obtain ⟨h1, h2, h3, h4, h5, h6, h7⟩ := Ni (wf.lkn ha)
  rw [wf.sub_iff]
  constructor
  · rintro ⟨_, _, rfl | ⟨_, _, h | ⟨h, _⟩ | ⟨_, h⟩⟩⟩
    · exact .refl ha
    · exact absurd h h6
    · exact absurd h5 h
    · exact h
  · intro h
    obtain ⟨d, hd⟩ := h.right
    exact ⟨wf.kind ha, wf.kind hd, .inr ⟨h4, (Ni (wf.lkn hd)).2.2.2.1, .inr (.inr ⟨by rw [ha]; simp, h⟩)⟩⟩
end
end Go.Proofs.YtdnfaboigajkhaaGreatDoor

namespace Go.Proofs.YtdnfaboigajkhaaGreatDoor
open Go.Emb Go.RowKit Go.Kd Go.Hm
theorem Q6x {l : List Cla} {a : X0} (h : kindM (Q5 l) a = true) (hp : plain a = false) : a = B6 ∨ Jr a ≠ [] ∨ ∃ c, lk (Q5 l) a = some c := by
  simp only [kindM, Bool.or_eq_true, decide_eq_true_eq, Bool.and_eq_true] at h
  rcases h with h | ⟨hr, h⟩
  · exact .inl h
  · by_cases he : Jr a = []
    · right; right
      have ha : N7 a = false := by
        cases ha : N7 a with
        | false => rfl
        | true =>
          have h3 := Q5C ha hr
          have : Jr a = Kd.N4 a := by simp [Jr, ha, hr]
          rw [this] at he
          have := S9 ha
          rw [he] at this; simp at this; omega
      have hb : V2 a = (a, 0) := by rw [A4, ha]; simp
      rw [hb, hp] at h
      have h : hasM (Q5 l) a = true := by simpa using h
      rw [Np] at h
      exact Option.isSome_iff_exists.1 h
    · exact .inr (.inl he)
section
variable {l : List Cla} (wf : Wf l)
include wf
theorem Wf.kRoot : kindM (Q5 l) U1 = true := wf.kind wf.root
theorem Wf.none_null : lk (Q5 l) B6 = none := by
  cases h : lk (Q5 l) B6 with
  | none => rfl
  | some c => exact absurd (wf.lkn h) (by decide)
theorem Wf.sub_root {a : X0} (h : kindM (Q5 l) a = true) (hp : plain a = false) : subM (Q5 l) a U1 = true := by
  rw [wf.sub_iff]
  refine ⟨h, wf.kRoot, .inr ⟨hp, by decide, ?_⟩⟩
  rcases Q6x h hp with e | e | ⟨c, e⟩
  · exact .inl e
  · exact .inr (.inl ⟨e, rfl⟩)
  · exact .inr (.inr ⟨by rw [e]; simp, wf.toRoot _ (Nat.lt_succ_self _) e⟩)
end
end Go.Proofs.YtdnfaboigajkhaaGreatDoor

namespace Go.Emb
open Go.RowKit Go.Hm
variable {P : Program} {w w0 w1 w' w'' : World} {K : Value → World → Prop} {σ σ0 σ1 σ' : Q6}
def Bg (sz : Nat) (v : Value) (i : Nat) : Addr := match v with
  | .slice (some b) _ _ => b.add (i * sz)
  | _ => ⟨0, 0, none⟩
section
variable {α : Type} {R : Q6 → α → List Value → Prop} {sz : Nat} {v : Value} {xs : List α}
theorem Sl.el (h : Sl sz R σ v xs) {i : Nat} (hi : i < xs.length) : ∃ cs, J4 σ (Bg sz v i) cs ∧ cs.length = sz ∧ R σ xs[i] cs := by
  obtain ⟨a, cap, rfl, h2, h3, h4, h5⟩ := h
  cases a with
  | none => have := h4 rfl; omega
  | some b =>
    obtain ⟨cs, g1, g2, g3⟩ := (h5 b rfl).2 i xs[i] (by simp [hi])
    exact ⟨cs, g1, g2, g3⟩
theorem Z1 {t e : TypeId} {by_ : Nat} {z : Value} [TS P t e] [TZ P e sz by_ z] (h : Sl sz R σ v xs) {i : Nat} (hi : i < xs.length) (hk : K (.pointer (some (Bg sz v i))) w) : indexAddr P t v (I i) w K := by
  obtain ⟨a, cap, rfl, h2, h3, h4, h5⟩ := h
  cases a with
  | none => have := h4 rfl; omega
  | some b =>
    rw [Rf (by omega) (by omega)]
    simpa [Bg] using hk
theorem Sl.elS {xs : List Kd.X0} (h : Sl 1 U9 σ v xs) {i : Nat} (hi : i < xs.length) : J4 σ (Bg 1 v i) [S xs[i]] ∧ xs[i].length ≤ V9 := by
  obtain ⟨cs, h1, h2, rfl, h4⟩ := h.el hi; exact ⟨h1, h4⟩
theorem Sl.elF {xs : List Fld} (h : Sl 3 D5 σ v xs) {i : Nat} (hi : i < xs.length) : J4 σ (Bg 3 v i) [S xs[i].name, S xs[i].kind, .bool xs[i].tr] ∧ D5 σ xs[i] [S xs[i].name, S xs[i].kind, .bool xs[i].tr] := by
  obtain ⟨cs, h1, h2, rfl, h4⟩ := h.el hi; exact ⟨h1, rfl, h4⟩
theorem Sl.elI {xs : List Ins} (h : Sl 3 I5 σ v xs) {i : Nat} (hi : i < xs.length) : J4 σ (Bg 3 v i) [S xs[i].op, I xs[i].n, S xs[i].s] ∧ I5 σ xs[i] [S xs[i].op, I xs[i].n, S xs[i].s] := by
  obtain ⟨cs, h1, h2, rfl, h4⟩ := h.el hi; exact ⟨h1, rfl, h4⟩
theorem Sl.elK {xs : List Cat} (h : Sl 4 Qt σ v xs) {i : Nat} (hi : i < xs.length) : J4 σ (Bg 4 v i) [I xs[i].frm, I xs[i].to, I xs[i].at_, S xs[i].cls] ∧ Qt σ xs[i] [I xs[i].frm, I xs[i].to, I xs[i].at_, S xs[i].cls] := by
  obtain ⟨cs, h1, h2, rfl, h4⟩ := h.el hi; exact ⟨h1, rfl, h4⟩
theorem Sl.conv {α β : Type} {R : Q6 → α → List Value → Prop} {R' : Q6 → β → List Value → Prop} {sz : Nat} {v : Value} {xs : List α} {ys : List β} (h : Sl sz R σ v xs) (hl : ys.length = xs.length) (hc : ∀ i (hi : i < xs.length) (hj : i < ys.length) cs, R σ xs[i] cs → R' σ ys[i] cs) : Sl sz R' σ v ys := by
  obtain ⟨a, cap, rfl, h2, h3, h4, h5⟩ := h
  refine ⟨a, cap, by rw [hl], by rw [hl]; exact h2, h3, h4, fun b hb => ⟨fun hp => (h5 b hb).1 (by omega), fun i x hx => ?_⟩⟩
  obtain ⟨hi, rfl⟩ := List.getElem?_eq_some_iff.1 hx
  have hi' : i < xs.length := by omega
  obtain ⟨cs, g1, g2, g3⟩ := (h5 b hb).2 i xs[i] (List.getElem?_eq_getElem hi')
  exact ⟨cs, g1, g2, hc i hi' hi cs g3⟩
theorem Sl.elM {xs : List Hm.Met} (h : Sl 7 M8 σ v xs) {i : Nat} (hi : i < xs.length) : ∃ pv cv hv, J4 σ (Bg 7 v i) [S xs[i].name, pv, S xs[i].result, .bool xs[i].abs, I xs[i].locals, cv, hv] ∧ M8 σ xs[i] [S xs[i].name, pv, S xs[i].result, .bool xs[i].abs, I xs[i].locals, cv, hv] := by
  obtain ⟨cs, h1, h2, pv, cv, hv, rfl, h4⟩ := h.el hi; exact ⟨pv, cv, hv, h1, pv, cv, hv, rfl, h4⟩
theorem Sl.elC {xs : List Cla} (h : Sl 8 V0 σ v xs) {i : Nat} (hi : i < xs.length) : ∃ lv fv mv, J4 σ (Bg 8 v i) [S xs[i].name, S xs[i].super, lv, .bool xs[i].iface, .bool xs[i].abs, .bool xs[i].fin, fv, mv] ∧ V0 σ xs[i] [S xs[i].name, S xs[i].super, lv, .bool xs[i].iface, .bool xs[i].abs, .bool xs[i].fin, fv, mv] := by
  obtain ⟨cs, h1, h2, lv, fv, mv, rfl, h4⟩ := h.el hi; exact ⟨lv, fv, mv, h1, lv, fv, mv, rfl, h4⟩
end
theorem O3 {Tr : World → World → Prop} {A rest : (Value → World → Prop) → Prop} {V : Value} (h : A (fun v _ => V = v)) (hr : rest (fun v _ => V = v)) : Q8 Tr A rest := N9 _ (fun _ _ _ h _ => h) h hr
theorem W2 {v V : Value} (h : V = v) : dk (fun w w' => Below w.heap.size w w') (fun v _ => V = v) w v w := ⟨Below.refl _ _, h⟩
theorem L4 {v V : Value} (hb : Below w.heap.size w w') (h : V = v) : dk (fun w w' => Below w.heap.size w w') (fun v _ => V = v) w v w' := ⟨hb, h⟩
theorem M6 {c b : Bool} {V : Value} {run : World → (Value → World → Prop) → Prop} (h : c = b → run w (dk (fun w w' => Below w.heap.size w w') (fun v _ => V = v) w)) : Q0 (.bool c) b w run (dk (fun w w' => Below w.heap.size w w') (fun v _ => (if c = b then V else undef) = v) w) := by
  by_cases e : c = b
  · simp only [e, if_true]
    subst e
    have := h rfl
    cases c
    · rw [Ju]; exact this
    · rw [F5]; exact this
  · have e2 : c = !b := by cases c <;> cases b <;> simp_all
    rw [if_neg e]; subst e2
    cases b
    · rw [Bool.not_false, Kq]; exact ⟨Below.refl _ _, rfl⟩
    · rw [Bool.not_true, Zu]; exact ⟨Below.refl _ _, rfl⟩
end Go.Emb

namespace Go.Proofs.YtdnfaboigajkhaaGreatDoor
open Go.Emb Go.RowKit Go.Kd Go.Hm
variable {w : World} {K : Value → World → Prop} {σ : Q6}
end Go.Proofs.YtdnfaboigajkhaaGreatDoor

namespace Go.Proofs.YtdnfaboigajkhaaGreatDoor
open Go.Emb Go.RowKit Go.Kd Go.Hm
variable {w : World} {K : Value → World → Prop} {σ : Q6} {l : List Cla} {v : Value}
theorem H7 {n : X0} (hs : X6 w σ) (hl : Sl 8 V0 σ v l) (h : K (I (W8 (Y3 l n))) w) : Q1 P F.b [v, S n] w K := Bw (by
  unfold Wo
  refine V7 l.length (fun k w' => w' = w ∧ ∀ j (hj : j < l.length), j < k → ¬ l[j].name = n) ⟨rfl, fun j _ h => by omega⟩ fun k w1 d hk hi => ?_
  obtain ⟨rfl, hno⟩ := hi
  refine Q7 hl ?_
  refine U0 ?_
  refine Q4 (fun hc => ?_) (fun hc => ?_)
  · have hk' : k < l.length := by simpa using hc
    refine L3 hl hk' fun p cells hl1 hl2 hr => ?_
    obtain ⟨lv, fv, mv, rfl, f1, f2, f3, f4, f5⟩ := hr
    rw [fa]
    refine ld hs hl1 rfl ?_
    refine Ng ?_
    refine Q4 (fun he => ?_) (fun he => ?_)
    · have he : l[k].name = n := by simpa using he
      have : Y3 l n = some k := by
        unfold Y3
        rw [List.findIdx?_eq_some_iff_getElem]
        exact ⟨hk', by simpa using he, fun j hj => by simpa using hno j (by omega) hj⟩
      rw [this] at h
      exact h
    · have he : ¬ l[k].name = n := by simpa using he
      refine O8 ?_
      refine Z2 hl.max hk' ⟨rfl, fun j hj hjk => ?_⟩
      by_cases e : j = k
      · subst e; exact he
      · exact hno j hj (by omega)
  · have hk' : ¬ k < l.length := by simpa using hc
    have : Y3 l n = none := by
      unfold Y3
      rw [List.findIdx?_eq_none_iff]
      intro c hc
      obtain ⟨j, hj, rfl⟩ := List.getElem_of_mem hc
      simpa using hno j hj (by omega)
    rw [this] at h
    exact h)
end Go.Proofs.YtdnfaboigajkhaaGreatDoor

namespace Go.Proofs.YtdnfaboigajkhaaGreatDoor
open Go.Emb Go.RowKit Go.Kd Go.Hm
variable {w : World} {K : Value → World → Prop} {σ : Q6} {l : List Cla} {v : Value}
theorem Q2K {a : X0} (ha : a.length ≤ V9) (h : K (S (V2 a).1) w) : Q1 P F.aA [S a] w K := Fu (by
  unfold Wq
  have hbl := Pk a
  have ha' : a.length ≤ 140737488355328 := by simp only [V9] at ha; omega
  rw [D3 X8]
  refine Tp a ha' ?_
  (try simp only [↓Mr, Mr, Mb, reduceIte])
  rw [B9 (n := 2 * ((V2 a).2 : Int)) (by omega) (by omega), B9 (by omega) (by omega), I0 X8 (by omega) (by omega)]
  rw [show ((a.length : Int) - 2 * ((V2 a).2 : Int)).toNat = a.length - 2 * (V2 a).2 from by omega, Q1h]
  exact h)
theorem Yr {s : X0} (hs : X6 w σ) (hl : Sl 8 V0 σ v l) (hb : s.length ≤ V9) (h : K (.bool (kindM l s)) w) : Q1 P F.n [v, S s] w K := Fw (by
  unfold Wv
  have ha' : s.length ≤ 140737488355328 := by simp only [V9] at hb; omega
  unfold kindM at h
  refine Ng ?_
  by_cases h1 : s = B6
  · have : decide (s = [110, 117, 108, 108]) = true := by rw [decide_eq_true_eq]; exact h1
    simp only [this, ↓Mm, Mm, ↓Mr, Mr, Mb, reduceIte]
    simp only [h1, decide_true, Bool.true_or] at h
    exact h
  · have : decide (s = [110, 117, 108, 108]) = false := by rw [decide_eq_false_iff_not]; exact h1
    simp only [this, ↓Mm, Mm, ↓Mr, Mr, Mb, reduceIte]
    simp only [h1, decide_false, Bool.false_or] at h
    refine Uj s ha' ?_
    cases hr : right s with
    | false => (try simp only [↓Mm, Mm, ↓Mr, Mr, Mb, reduceIte]); simpa [hr] using h
    | true =>
      (try simp only [↓Mm, Mm, ↓Mr, Mr, Mb, reduceIte])
      refine Q2K hb ?_
      (try simp only [↓Mm, Mm, ↓Mr, Mr, Mb, reduceIte])
      refine Yc _ ?_
      simp only [hr, Bool.true_and] at h
      cases hp : plain (V2 s).1 with
      | true => (try simp only [↓Mm, Mm, ↓Mr, Mr, Mb, reduceIte]); simpa [hp] using h
      | false =>
        (try simp only [↓Mm, Mm, ↓Mr, Mr, Mb, reduceIte])
        refine Q2K hb ?_
        (try simp only [↓Mm, Mm, ↓Mr, Mr, Mb, reduceIte])
        refine H7 hs hl ?_
        refine Yz ?_
        rw [F2]
        (try simp only [↓Mm, Mm, ↓Mr, Mr, Mb, reduceIte])
        simpa [hp, hasM] using h)
end Go.Proofs.YtdnfaboigajkhaaGreatDoor

namespace Go.Proofs.YtdnfaboigajkhaaGreatDoor
open Go.Emb Go.RowKit Go.Kd Go.Hm
variable {w : World} {K : Value → World → Prop} {σ : Q6} {l : List Cla} {v : Value}
theorem Q61 {s : X0} (hs : X6 w σ) (hl : Sl 8 V0 σ v l) (hb : s.length ≤ V9) (h : K (.bool (thereM l s)) w) : Q1 P F.b6 [v, S s] w K := Cq (by
  unfold Vu
  unfold thereM at h
  refine Ek ?_
  have e : decide (s = [110, 117, 108, 108]) = decide (s = B6) := rfl
  rw [e]
  cases hn : decide (s = B6) with
  | true =>
    rw [hn] at h
    (try simp only [↓Mm, Mm, ↓Mr, Mr, Mb, reduceIte])
    exact h
  | false =>
    rw [hn] at h
    (try simp only [↓Mm, Mm, ↓Mr, Mr, Mb, reduceIte])
    refine Yr hs hl hb ?_
    (try simp only [↓Mm, Mm, ↓Mr, Mr, Mb, reduceIte])
    simpa using h)
end Go.Proofs.YtdnfaboigajkhaaGreatDoor

namespace Go.Proofs.YtdnfaboigajkhaaGreatDoor
open Go.Emb Go.RowKit Go.Kd Go.Hm
variable {w : World} {K : Value → World → Prop} {σ : Q6} {l : List Cla} {v : Value}
def Oo (c : Cla) (n : X0) : Option Nat := c.methods.findIdx? fun m => decide (m.name = n)
theorem Q3K {c : Cla} {cs : List Value} {n : X0} (hs : X6 w σ) (hc : V0 σ c cs) (h : ∀ w' σ', Stp w σ w' σ' → K (I (W8 (Oo c n))) w') : Q1 P F.aJ [.agg cs.toArray, S n] w K := Ge (by
  unfold Lz
  obtain ⟨lv, fv, mv, rfl, f1, f2, f3, f4, f5⟩ := hc
  refine Z8 hs fun q w0 σ0 hk0 hq => ?_
  have f3 := f3.up hk0
  refine V7 c.methods.length (fun k w' => w' = w0 ∧ ∀ j (hj : j < c.methods.length), j < k → ¬ c.methods[j].name = n) ⟨rfl, fun j _ h => by omega⟩ fun k w1 d hk hi => ?_
  obtain ⟨rfl, hno⟩ := hi
  rw [fa]
  refine ld hk0.sat hq rfl ?_
  refine Q7 f3 ?_
  refine U0 ?_
  refine Q4 (fun hc => ?_) (fun hc => ?_)
  · have hk' : k < c.methods.length := by simpa using hc
    rw [fa]
    refine ld hk0.sat hq rfl ?_
    refine L3 f3 hk' fun p cells hl1 hl2 hr => ?_
    obtain ⟨pv, cv, hv, rfl, g1, g2, g3, g4, g5⟩ := hr
    rw [fa]
    refine ld hk0.sat hl1 rfl ?_
    refine Ng ?_
    refine Q4 (fun he => ?_) (fun he => ?_)
    · have he : c.methods[k].name = n := by simpa using he
      have : Oo c n = some k := by
        unfold Oo
        rw [List.findIdx?_eq_some_iff_getElem]
        exact ⟨hk', by simpa using he, fun j hj => by simpa using hno j (by omega) hj⟩
      rw [this] at h
      exact h _ _ hk0
    · have he : ¬ c.methods[k].name = n := by simpa using he
      refine O8 ?_
      refine Z2 f3.max hk' ⟨rfl, fun j hj hjk => ?_⟩
      by_cases e : j = k
      · subst e; exact he
      · exact hno j hj (by omega)
  · have hk' : ¬ k < c.methods.length := by simpa using hc
    have : Oo c n = none := by
      unfold Oo
      rw [List.findIdx?_eq_none_iff]
      intro m hm
      obtain ⟨j, hj, rfl⟩ := List.getElem_of_mem hm
      simpa using hno j hj (by omega)
    rw [this] at h
    exact h _ _ hk0)
end Go.Proofs.YtdnfaboigajkhaaGreatDoor

namespace Go.Proofs.YtdnfaboigajkhaaGreatDoor
open Go.Emb Go.RowKit Go.Kd Go.Hm
variable {w : World} {K : Value → World → Prop} {σ : Q6} {l : List Cla} {v : Value}
theorem Ej {n : X0} {d : Cla} (hs : X6 w σ) (hl : Sl 8 V0 σ v l) (hd : lk l n = some d) (h : ∀ i : Nat, l[i]? = some d → Y3 l n = some i → K (I i) w) : Q1 P F.b [v, S n] w K := by
  obtain ⟨_, _, i, h1, h2⟩ := V3 hd
  refine H7 hs hl ?_
  rw [h1]; exact h i h2 h1
theorem Kk {n : X0} (hs : X6 w σ) (hl : Sl 8 V0 σ v l) (hd : lk l n = none) (h : K (I (-1)) w) : Q1 P F.b [v, S n] w K := by
  refine H7 hs hl ?_
  cases hf : Y3 l n with
  | none => exact h
  | some i => obtain ⟨c, hc, _⟩ := Xc hf; rw [hd] at hc; cases hc
end Go.Proofs.YtdnfaboigajkhaaGreatDoor

namespace Go.Emb
open Go.RowKit Go.Hm
variable {P : Program} {w w0 w1 w' w'' : World} {K : Value → World → Prop} {σ σ0 σ1 σ' : Q6}
section
variable {α : Type} {R : Q6 → α → List Value → Prop} {B sz : Nat} {e : TypeId} {v u : Value} {xs ys : List α}
def Emp (v : Value) : Prop := ∃ a, v = .slice a 0 0
theorem Q7Y {t ty : TypeId} {by_ : Nat} {z : Value} {cs : List Bool} [ts : TS P t e] [tz : TZ P e sz by_ z] [hr : Rep R] (hS : Stp w0 σ0 w σ) (ha : W3 w0.heap.size e sz R σ w v []) (hv : Emp v) (hs' : X6 w σ') (hu : Sl sz R σ' u ys) (hR : ∀ x cs, R σ' x cs → R σ x cs) (hz : (z.cells.size == sz && decide (0 < sz)) = true)
    (hb : ys.length * by_ ≤ 140737488355328) (hm : ys.length ≤ 1000000000000)
    (h : ∀ v' w', Stp w σ w' σ → W3 w0.heap.size e sz R σ w' v' ys → K v' w') : X5 P .append [t, t] ty cs [v, u] w K := by
  obtain ⟨ac, rfl⟩ := hv
  have hs := hS.sat
  obtain ⟨a, cap, news, rfl, n1, n2, n3, n4, n5⟩ := hu.cells hs'
  obtain ⟨i, hi, hsz, hby, hzero⟩ := tz.info
  simp only [Bool.and_eq_true, beq_iff_eq, decide_eq_true_eq] at hz
  obtain ⟨hz1, hz2⟩ := hz
  have hsrc : Src P i.size t (.slice a ys.length cap) ys.length news w := by
    cases a with
    | some b => exact Src.ofSlice w ts.h b ys.length cap news (by rw [hsz]; exact n2) (n3 b rfl) n4
    | none =>
      have hy : ys.length = 0 := by
        obtain ⟨a', cap', e', q1, _, q3, _⟩ := hu; injection e' with e1 e2 e3; have := n1 rfl; omega
      have hn : news = [] := List.eq_nil_of_length_eq_zero (by rw [n2, hy]; simp)
      subst hn
      rw [hy]; exact Src.ofNil w ts.h cap
  have fin : ∀ v' w', (Builtin.append_ #[t, t] ty #[.slice ac 0 0, .slice a ys.length cap]).run P w = .ok v' w' → Stp w σ w' σ → W3 w0.heap.size e sz R σ w' v' ys → X5 P .append [t, t] ty cs [.slice ac 0 0, .slice a ys.length cap] w K := by
    intro v' w' hrun hk hq
    have hrun' : (builtin .append #[t, t] ty cs.toArray #[.slice ac 0 0, .slice a ys.length cap]).run P w = .ok (.value v') w' := by
      simp [builtin, hrun]
    unfold X5
    rw [Ze]; unfold Xk
    rw [hrun']
    exact h v' w' hk hq
  by_cases hy : ys = []
  · subst hy
    have hn : news = [] := List.eq_nil_of_length_eq_zero (by simpa using n2)
    subst hn
    refine fin (.slice ac 0 0) w ?_ (Stp.refl hs) ha
    have hl := hsrc.len w
    have hcs := hsrc.cells
    simp only [List.length_nil] at hl hcs ⊢
    cases ac <;> simp [Builtin.append_, run_underlying ts.h, sizeOf, typeInfo, hi, hl, hcs, storeCells]
  · have hy' : 0 < ys.length := List.length_pos_iff.2 hy
    have holds : (Builtin.firstCells i.size 0 (.slice ac 0 0)).run P w.drew = .ok (#[] : Array Value) w.drew := by
      cases ac with
      | none => exact run_firstCells_none w.drew i.size 0 0 0
      | some a' => exact run_firstCells_some w.drew i.size 0 a' 0 0 [] (by simp) (by intro _ _ h'; simp at h')
    have hg : 0 < 0 + ys.length := by omega
    have hrun := run_append_grow_src (P := P) w t t ty e i z ts.h hi hzero ac 0 0 [] holds (.slice a ys.length cap) ys.length news hsrc hg (by omega) (growslice_fits hg (by rw [hby, Nat.zero_add]; exact hb))
    simp only [Nat.zero_add] at hrun
    have hcm := grownCap_le_maxLen w ys.length 0 e (by simp only [maxLen]; omega)
    have hge := grownCap_ge w ys.length 0 e
    refine fin _ _ hrun (Stp.of_below hs ((Below.refl _ _).drew.alloc (Nat.le_refl _) _)) ⟨news, ⟨n2, .inr ⟨w.heap.size, _, _, rfl, hS.bel.size, heap_alloc_new w.drew _, hge, hcm, ?_, ?_⟩⟩, ?_, fun i x hx => hR _ _ (n5 i x hx)⟩
    · simp only [List.nil_append]
      rw [Array.size_append, List.size_toArray, n2, size_zeroCells, hz1, ← Nat.add_mul]
      congr 1; omega
    · simp only [List.nil_append]
      rw [Array.toList_append]
      rw [List.take_append_of_le_length (by simp only [List.toList_toArray]; omega), List.take_of_length_le (by simp only [List.toList_toArray]; omega)]
    · intro k hk; cases hk; exact hs.none (Nat.le_refl _)
end
def Q6A {α : Type} (w0 : World) (σ : Q6) (e : TypeId) (sz : Nat) (R : Q6 → α → List Value → Prop) (xs : List α) (v : Value) (w' : World) : Prop := Stp w0 σ w' σ ∧ W3 w0.heap.size e sz R σ w' v xs
def Q4S {α : Type} (w0 : World) (σ : Q6) (e : TypeId) (sz : Nat) (R : Q6 → α → List Value → Prop) (v : Value) (w' : World) : Prop := Stp w0 σ w' σ ∧ W3 w0.heap.size e sz R σ w' v ([] : List α) ∧ Emp v
section
variable {α : Type} {R : Q6 → α → List Value → Prop} {sz : Nat} {e : TypeId} {v u : Value} {xs ys : List α} {A rest : (Value → World → Prop) → Prop}
theorem Q0K [Rep R] (xs : List α) (h : A (Q6A w σ e sz R xs)) (hr : rest (Q6A w σ e sz R xs)) : Q8 (fun w w' => Below w.heap.size w w') A rest :=
  N9 _ (fun _ _ _ ⟨h1, h2⟩ hb => ⟨h1.trans (Stp.of_below h1.sat hb), h2.up (Stp.of_below h1.sat hb)⟩) h hr
theorem Q7X [Rep R] (h : A (Q4S w σ e sz R)) (hr : rest (Q4S w σ e sz R)) : Q8 (fun w w' => Below w.heap.size w w') A rest :=
  N9 _ (fun _ _ _ ⟨h1, h2, h3⟩ hb => ⟨h1.trans (Stp.of_below h1.sat hb), h2.up (Stp.of_below h1.sat hb), h3⟩) h hr
theorem Q2b (h0 : Hst w σ w1 σ) (h : Stp w1 σ w' σ) (ha : W3 w.heap.size e sz R σ w' v xs) : dk (fun w w' => Below w.heap.size w w') (Q6A w σ e sz R xs) w1 v w' := ⟨h.bel, h0.stp.trans h, ha⟩
theorem Q8N (h0 : Hst w σ w1 σ) (h : Stp w1 σ w' σ) (ha : W3 w.heap.size e sz R σ w' v ([] : List α)) (hv : Emp v) : dk (fun w w' => Below w.heap.size w w') (Q4S w σ e sz R) w1 v w' := ⟨h.bel, h0.stp.trans h, ha, hv⟩
theorem Kc {t : TypeId} {by_ : Nat} {z : Value} [ts : TS P t e] [tz : TZ P e sz by_ z] (R : Q6 → α → List Value → Prop) (hS : Stp w0 σ0 w σ) (hsz : 0 < sz)
    (h : ∀ v w', Stp w σ w' σ → W3 w0.heap.size e sz R σ w' v ([] : List α) → Emp v → K v w') : buildSlice P t 0 [] w K := by
  obtain ⟨cells, h1, h2⟩ := Mo (P := P) (t := t) (sz := sz) (e := e) [] (by simp) (by simp) w
  unfold buildSlice
  have h1' : (Instr.buildSlice t 0 ([] : List (Nat × Value)).toArray).run P w = _ := h1
  rw [Y0 h1']
  refine h _ _ (Stp.own hS.sat _) ⟨[], ⟨by simp, .inr ⟨_, _, cells, rfl, hS.bel.size, heap_alloc_new w _, by simp, by simp [maxLen], ?_, by simp⟩⟩, ?_, by simp⟩ ⟨_, rfl⟩
  · have : cells.size = 0 := by rw [← Array.length_toList, h2]; rfl
    simp [this]
  · intro k hk; cases hk; exact hS.sat.none (Nat.le_refl _)
theorem Q4A [Rep R] {t : TypeId} {by_ : Nat} {z : Value} [ts : TS P t e] [tz : TZ P e sz by_ z] (hsz : (decide (0 < sz)) = true) (hr : rest (Q4S w σ e sz R)) :
    Q8 (fun w w' => Below w.heap.size w w') (fun φ => ∀ w1 : World, Hst w σ w1 σ → buildSlice P t 0 [] w1 (dk (fun w w' => Below w.heap.size w w') φ w1)) rest :=
  Q7X (fun w1 hb => Kc R hb.stp (by simpa using hsz) fun v w' hk ha he => Q8N hb hk ha he) hr
end
theorem V0.parts {c : Cla} {a b lv d e f fv mv : Value} (h : V0 σ c [a, b, lv, d, e, f, fv, mv]) : Sl 1 U9 σ lv c.like ∧ Sl 3 D5 σ fv c.fields ∧ Sl 7 M8 σ mv c.methods ∧ c.name.length ≤ V9 ∧ c.super.length ≤ V9 := by
  obtain ⟨_, _, _, he, h1⟩ := h
  simp only [List.cons.injEq, and_true] at he
  obtain ⟨_, _, rfl, _, _, _, rfl, rfl⟩ := he
  exact h1
theorem M8.parts {m : Hm.Met} {a pv b d e cv hv : Value} (h : M8 σ m [a, pv, b, d, e, cv, hv]) : Sl 1 U9 σ pv m.params ∧ Sl 3 I5 σ cv m.code ∧ Sl 4 Qt σ hv m.catches ∧ m.name.length ≤ V9 ∧ m.result.length ≤ V9 ∧ Gp m.locals := by
  obtain ⟨_, _, _, he, h1⟩ := h
  simp only [List.cons.injEq, and_true] at he
  obtain ⟨_, rfl, _, _, _, rfl, rfl⟩ := he
  exact h1
end Go.Emb

namespace Go.Proofs.YtdnfaboigajkhaaGreatDoor
open Go.Emb Go.RowKit Go.Kd Go.Hm
variable {w : World} {K : Value → World → Prop} {σ : Q6} {l : List Cla} {v : Value}
theorem Q6z : decide ((-1 : Int) < 0) = true := by decide
theorem Q27 (i : Nat) : decide ((i : Int) < 0) = false := by rw [decide_eq_false_iff_not]; omega
theorem Q4L {c : Cla} {cs : List Value} (hs : X6 w σ) (hl : Sl 8 V0 σ v l) (hc : V0 σ c cs) (h : ∀ w' σ', Stp w σ w' σ' → K (I (uppersM l c)) w') : Q1 P F.aU [v, .agg cs.toArray] w K := Hx (by
  unfold Jt
  obtain ⟨lv, fv, mv, rfl, f1, f2, f3, f4, f5⟩ := hc
  refine Z8 hs fun q w0 σ0 hk0 hq => ?_
  have f1 := f1.up hk0
  have hl0 := hl.up hk0
  have hs0 := hk0.sat
  have hup : ∀ n : Nat, uppersM l c = n → K (I n) w0 := fun n e => by rw [← e]; exact h _ _ hk0
  clear h
  (try simp only [↓Mm, Mm, ↓Mr, Mr, Mb, reduceIte])
  refine ld hs0 hq rfl ?_
  have hbad : F8 l c.super = true → K (I (61 : Nat)) w0 := fun e => hup 61 (by unfold uppersM; rw [if_pos e])
  cases hd : lk l c.super with
  | none =>
    refine Kk hs0 hl0 hd ?_
    simp only [Q6z, ↓Mm, Mm, ↓Mr, Mr, Mb, reduceIte]
    exact hbad (by unfold F8; rw [hd])
  | some d =>
    refine Ej hs0 hl0 hd fun i hi hf => ?_
    obtain ⟨hil, hid⟩ := List.getElem?_eq_some_iff.1 hi
    simp only [Q27, ↓Mm, Mm, ↓Mr, Mr, Mb, reduceIte]
    refine Z1 hl0 hil ?_
    obtain ⟨lv', fv', mv', p1, r1⟩ := hl0.elC hil
    rw [hid] at p1
    (try simp only [↓Mm, Mm, ↓Mr, Mr, Mb, reduceIte])
    refine ld hs0 p1 rfl ?_
    have hsb : F8 l c.super = (d.iface || d.fin) := by unfold F8; rw [hd]
    cases hif : d.iface with
    | true =>
      rw [hif] at hsb
      (try simp only [↓Mm, Mm, ↓Mr, Mr, Mb, reduceIte])
      exact hbad (by rw [hsb]; rfl)
    | false =>
      rw [hif] at hsb
      (try simp only [↓Mm, Mm, ↓Mr, Mr, Mb, reduceIte])
      refine Z1 hl0 hil ?_
      (try simp only [↓Mm, Mm, ↓Mr, Mr, Mb, reduceIte])
      refine ld hs0 p1 rfl ?_
      cases hfn : d.fin with
      | true =>
        rw [hfn] at hsb
        (try simp only [↓Mm, Mm, ↓Mr, Mr, Mb, reduceIte])
        exact hbad (by rw [hsb]; rfl)
      | false =>
        rw [hfn] at hsb
        have hok : F8 l c.super = false := hsb
        (try simp only [↓Mm, Mm, ↓Mr, Mr, Mb, reduceIte])
        refine V7 c.like.length (fun k w' => w' = w0 ∧ (c.like.take k).any (M7 l) = false) ⟨rfl, rfl⟩ fun k w1 d1 hk hi1 => ?_
        obtain ⟨hw, hno⟩ := hi1
        subst hw
        (try simp only [↓Mm, Mm, ↓Mr, Mr, Mb, reduceIte])
        refine ld hs0 hq rfl ?_
        refine Q7 f1 ?_
        refine U0 ?_
        refine Q4 (fun hc => ?_) (fun hc => ?_)
        · have hk' : k < c.like.length := by simpa using hc
          have hyes : M7 l c.like[k] = true → K (I (62 : Nat)) w1 := fun e => hup 62 (by
            unfold uppersM; rw [hok, R5 hk' e]; rfl)
          have hnext : M7 l c.like[k] = false → (c.like.take (k + 1)).any (M7 l) = false := fun e => by rw [M5 hk', hno, e]; rfl
          (try simp only [↓Mm, Mm, ↓Mr, Mr, Mb, reduceIte])
          refine ld hs0 hq rfl ?_
          refine Z1 f1 hk' ?_
          obtain ⟨p2, _⟩ := f1.elS hk'
          refine X7 hs0 p2 rfl ?_
          cases hu : lk l c.like[k] with
          | none =>
            refine Kk hs0 hl0 hu ?_
            simp only [Q6z, ↓Mm, Mm, ↓Mr, Mr, Mb, reduceIte]
            exact hyes (by unfold M7; rw [hu])
          | some e =>
            refine Ej hs0 hl0 hu fun j hj hfj => ?_
            obtain ⟨hjl, hjd⟩ := List.getElem?_eq_some_iff.1 hj
            simp only [Q27, ↓Mm, Mm, ↓Mr, Mr, Mb, reduceIte]
            refine Z1 hl0 hjl ?_
            obtain ⟨lv3, fv3, mv3, p3, r3⟩ := hl0.elC hjl
            rw [hjd] at p3
            (try simp only [↓Mm, Mm, ↓Mr, Mr, Mb, reduceIte])
            refine ld hs0 p3 rfl ?_
            have hlb : M7 l c.like[k] = !e.iface := by unfold M7; rw [hu]
            cases hie : e.iface with
            | true =>
              rw [hie] at hlb
              (try simp only [↓Mm, Mm, ↓Mr, Mr, Mb, reduceIte])
              exact Z2 f1.max hk' ⟨rfl, hnext hlb⟩
            | false =>
              rw [hie] at hlb
              (try simp only [↓Mm, Mm, ↓Mr, Mr, Mb, reduceIte])
              exact hyes hlb
        · have hk' : ¬ k < c.like.length := by simpa using hc
          rw [D0 hk'] at hno
          exact hup 0 (by unfold uppersM; rw [hok, hno]; rfl))
end Go.Proofs.YtdnfaboigajkhaaGreatDoor

namespace Go.Proofs.YtdnfaboigajkhaaGreatDoor
open Go.Emb Go.RowKit Go.Kd Go.Hm
variable {w : World} {K : Value → World → Prop} {σ : Q6} {l : List Cla} {v : Value}
theorem Q3y {n : X0} (h : lk l n = none) : fieldsM l n = [] := by unfold fieldsM; rw [I3 h]; rfl
theorem Q3c (ha : Qw l) {n : X0} {c : Cla} (h : lk l n = some c) : fieldsM l n = fieldsM l c.super ++ c.fields := by
  unfold fieldsM
  rw [C9 ha, h]
  simp
theorem Q4z (hsm : ∀ c ∈ l, K2 c) (n : X0) : (fieldsM l n).length ≤ (l.length + 1) * 1000000 := by
  unfold fieldsM
  have h1 := K5 (fun c : Cla => c.fields) 1000000 (chain l n).reverse fun c hc => (hsm c (Gu (by simpa using hc))).2.1
  have h2 := Dt l n
  rw [List.length_reverse] at h1
  exact Nat.le_trans h1 (Nat.mul_le_mul_right _ h2)
theorem Pv {n : X0} (hd : lk l n = none) (hs : X6 w σ) (hv : Sl 8 V0 σ v l) (h : ∀ v' w' σ', Stp w σ w' σ' → Sl 3 D5 σ' v' (fieldsM l n) → K v' w') : Q1 P F.x [v, S n] w K := Jz (by
  unfold T9
  refine Kk hs hv hd ?_
  simp only [Q6z, ↓Mm, Mm, ↓Mr, Mr, Mb, reduceIte]
  exact h _ _ _ (Stp.refl hs) (by rw [Q3y hd]; exact Sl.nil))
theorem Q38 (ha : Qw l) (hl : l.length ≤ 1000) (hsm : ∀ c ∈ l, K2 c) : ∀ (k : Nat) {n : X0} {w : World} {σ : Q6} {K : Value → World → Prop}, (lk l n = none ∨ H9 l n < k) → X6 w σ → Sl 8 V0 σ v l →
    (∀ v' w' σ', Stp w σ w' σ' → Sl 3 D5 σ' v' (fieldsM l n) → K v' w') → Q1 P F.x [v, S n] w K := by
  intro k
  induction k with
  | zero =>
    intro n w σ K hk hs hv h
    rcases hk with hk | hk
    · exact Pv hk hs hv h
    · omega
  | succ k ih =>
    intro n w σ K hk hs hv h
    cases hd : lk l n with
    | none => exact Pv hd hs hv h
    | some c =>
      have hk : H9 l n < k + 1 := by
        rcases hk with hk | hk
        · rw [hd] at hk; cases hk
        · exact hk
      refine Jz ?_
      unfold T9
      refine Ej hs hv hd fun i hi hf => ?_
      obtain ⟨hil, hid⟩ := List.getElem?_eq_some_iff.1 hi
      simp only [Q27, ↓Mm, Mm, ↓Mr, Mr, Mb, reduceIte]
      obtain ⟨lv, fv, mv, p1, r1⟩ := hv.elC hil
      rw [hid] at p1 r1
      obtain ⟨_, g2, _, _, _⟩ := r1.parts
      have hup : lk l c.super = none ∨ H9 l c.super < k := by
        cases hu : lk l c.super with
        | none => exact .inl rfl
        | some d =>
          have := F3 ha hd (u := c.super) (by simp [U5]) hu
          right; omega
      have hfl := Q4z hsm c.super
      have hcl := (hsm c (V3 hd).2.1).2.1
      have hmul : (l.length + 1) * 1000000 ≤ 1001 * 1000000 := Nat.mul_le_mul_right _ (by omega)
      refine W9 hs ?_
      (repeat (apply O3; (· intros; (repeat (rename_i hx; subst hx)); (repeat' (first | (with_reducible exact W2 rfl) | (with_reducible exact L4 (Stp.bel (by (repeat (first | exact Stp.refl (by (first | assumption | exact Stp.sat (by assumption) | exact Hst.sat (by assumption))) | assumption | refine Stp.trans ?_ (by first | assumption | exact Hst.stp (by assumption)))))) rfl) | (with_reducible intro _) | (simp only [↓Mm, Mm, ↓Mp, Mp, Mb, reduceIte])  | (with_reducible show Q2 _ _ _ _ _; first | refine X7 aS aL aR ?_ | refine Z0 aS aL aR ?_ | refine ld aS aL aR ?_) | (with_reducible show indexAddr _ _ _ _ _ _; refine Z1 aL au ?_) | (with_reducible show X5 _ _ _ _ _ _ _ _; refine Q7 aL ?_) | (with_reducible show R3 _ _ _ _ _ _; refine Z3 aR ?_) | (with_reducible show pick _ _ _ _ _ _; refine M2 ?_) | (apply M6; intro hh; (try simp only [hh, reduceIte, ↓Mm, Mm, ↓Mp, Mp, Mb, reduceIte])))); done)))
      refine Q4A (R := D5) (by decide) ?_
      (repeat (apply O3; (· intros; (repeat (rename_i hx; subst hx)); (repeat' (first | (with_reducible exact W2 rfl) | (with_reducible exact L4 (Stp.bel (by (repeat (first | exact Stp.refl (by (first | assumption | exact Stp.sat (by assumption) | exact Hst.sat (by assumption))) | assumption | refine Stp.trans ?_ (by first | assumption | exact Hst.stp (by assumption)))))) rfl) | (with_reducible intro _) | (simp only [↓Mm, Mm, ↓Mp, Mp, Mb, reduceIte])  | (with_reducible show Q2 _ _ _ _ _; first | refine X7 aS aL aR ?_ | refine Z0 aS aL aR ?_ | refine ld aS aL aR ?_) | (with_reducible show indexAddr _ _ _ _ _ _; refine Z1 aL au ?_) | (with_reducible show X5 _ _ _ _ _ _ _ _; refine Q7 aL ?_) | (with_reducible show R3 _ _ _ _ _ _; refine Z3 aR ?_) | (with_reducible show pick _ _ _ _ _ _; refine M2 ?_) | (apply M6; intro hh; (try simp only [hh, reduceIte, ↓Mm, Mm, ↓Mp, Mp, Mb, reduceIte])))); done)))
      refine Dn (w := w) (σ := σ) (Φ := fun σ' v => Sl 3 D5 σ' v (fieldsM l c.super)) (fun t w hb e => ?_) ?_
      · subst e; exact ih hup hb.sat hv fun v' w' σ' hk hv' => Tv hb hk hv'
      refine Q0K (w := w) (σ := σ) (R := D5) (sz := 3) (e := T.i) (fieldsM l c.super) (fun t11 t18 w hb f11 f18 => ?_) ?_
      · obtain ⟨k1, a1, e1⟩ := f11
        obtain ⟨σ2, k2, s2⟩ := f18
        exact Q7Y k1 a1 e1 k2.sat s2 (fun _ _ h => h) rfl (by omega) (by omega) fun v' w' hk ha => Q2b hb hk ha
      (repeat (apply O3; (· intros; (repeat (rename_i hx; subst hx)); (repeat' (first | (with_reducible exact W2 rfl) | (with_reducible exact L4 (Stp.bel (by (repeat (first | exact Stp.refl (by (first | assumption | exact Stp.sat (by assumption) | exact Hst.sat (by assumption))) | assumption | refine Stp.trans ?_ (by first | assumption | exact Hst.stp (by assumption)))))) rfl) | (with_reducible intro _) | (simp only [↓Mm, Mm, ↓Mp, Mp, Mb, reduceIte])  | (with_reducible show Q2 _ _ _ _ _; first | refine X7 aS aL aR ?_ | refine Z0 aS aL aR ?_ | refine ld aS aL aR ?_) | (with_reducible show indexAddr _ _ _ _ _ _; refine Z1 aL au ?_) | (with_reducible show X5 _ _ _ _ _ _ _ _; refine Q7 aL ?_) | (with_reducible show R3 _ _ _ _ _ _; refine Z3 aR ?_) | (with_reducible show pick _ _ _ _ _ _; refine M2 ?_) | (apply M6; intro hh; (try simp only [hh, reduceIte, ↓Mm, Mm, ↓Mp, Mp, Mb, reduceIte])))); done)))
      rintro t15 t16 t22 t23 t11 t17 t18 t19 t24 w2 hb2 rfl rfl rfl rfl _ rfl _ ⟨f19, a19⟩ rfl
      refine Nh f19 a19 g2 rfl (by omega) (by omega) fun v' w3 hn3 hS3 ha3 _ => ?_
      obtain ⟨σ4, hS4, hv4, _⟩ := ha3.keep hS3
      exact h _ _ _ hS4 (by rw [Q3c ha hd]; exact hv4)
theorem Q4m {n : X0} (hs : X6 w σ) (hv : Sl 8 V0 σ v l) (ha : Qw l) (hl : l.length ≤ 1000) (hsm : ∀ c ∈ l, K2 c) (h : ∀ v' w' σ', Stp w σ w' σ' → Sl 3 D5 σ' v' (fieldsM l n) → K v' w') : Q1 P F.x [v, S n] w K :=
  Q38 ha hl hsm _ (.inr (Nat.lt_succ_self _)) hs hv h
theorem Q5Q {n f : X0} (hs : X6 w σ) (hv : Sl 8 V0 σ v l) (ha : Qw l) (hl : l.length ≤ 1000) (hsm : ∀ c ∈ l, K2 c) (h : ∀ w' σ', Stp w σ w' σ' → K (I (W8 (placeM l n f))) w') : Q1 P F.aY [v, S n, S f] w K := Cd (by
  unfold Ut
  refine Q4m hs hv ha hl hsm fun v1 w1 σ1 hk1 hv1 => ?_
  have hp : ∀ o, placeM l n f = o → K (I (W8 o)) w1 := fun o e => by rw [← e]; exact h _ _ hk1
  unfold placeM at hp
  generalize fieldsM l n = fs at hv1 hp
  refine V7 fs.length (fun k w' => w' = w1 ∧ ∀ j (hj : j < fs.length), j < k → ¬ fs[j].name = f) ⟨rfl, fun j _ h => by omega⟩ fun k w2 d hk hi => ?_
  obtain ⟨hw, hno⟩ := hi
  subst hw
  refine Q7 hv1 ?_
  refine U0 ?_
  refine Q4 (fun hc => ?_) (fun hc => ?_)
  · have hk' : k < fs.length := by simpa using hc
    refine Z1 hv1 hk' ?_
    obtain ⟨p1, _⟩ := hv1.elF hk'
    (try simp only [↓Mm, Mm, ↓Mr, Mr, Mb, reduceIte])
    refine ld hk1.sat p1 rfl ?_
    refine Ng ?_
    refine Q4 (fun he => ?_) (fun he => ?_)
    · have he : fs[k].name = f := by simpa using he
      exact hp (some k) (by
        rw [List.findIdx?_eq_some_iff_getElem]
        exact ⟨hk', by simpa using he, fun j hj => by simpa using hno j (by omega) hj⟩)
    · have he : ¬ fs[k].name = f := by simpa using he
      (try simp only [↓Mm, Mm, ↓Mr, Mr, Mb, reduceIte])
      refine Z2 hv1.max hk' ⟨rfl, fun j hj hjk => ?_⟩
      by_cases e : j = k
      · subst e; exact he
      · exact hno j hj (by omega)
  · have hk' : ¬ k < fs.length := by simpa using hc
    exact hp none (by
      rw [List.findIdx?_eq_none_iff]
      intro m hm
      obtain ⟨j, hj, rfl⟩ := List.getElem_of_mem hm
      simpa using hno j hj (by omega)))
end Go.Proofs.YtdnfaboigajkhaaGreatDoor

namespace Go.Proofs.YtdnfaboigajkhaaGreatDoor
open Go.Emb Go.RowKit Go.Kd Go.Hm
variable {w : World} {K : Value → World → Prop} {σ : Q6} {l : List Cla} {v : Value}
theorem Q0X {c : Cla} {n : X0} (h : Oo c n = none) : H3 c n = none := by
  unfold H3 Oo at *
  rw [List.findIdx?_eq_none_iff] at h
  rw [List.find?_eq_none]
  intro m hm
  have := h m hm
  simpa using this
theorem Q3M {c : Cla} {n : X0} {i : Nat} (h : Oo c n = some i) : ∃ hi : i < c.methods.length, H3 c n = some c.methods[i] := by
  unfold H3 Oo at *
  obtain ⟨hi, hp, hj⟩ := List.findIdx?_eq_some_iff_getElem.1 h
  refine ⟨hi, List.find?_eq_some_iff_getElem.2 ⟨hp, i, hi, rfl, fun j hjl => ?_⟩⟩
  have := hj j hjl
  simpa using this
theorem Iq {n : X0} (h : lk l n = none) : Y3 l n = none := by
  cases hf : Y3 l n with
  | none => rfl
  | some i => obtain ⟨c, hc, _⟩ := Xc hf; rw [h] at hc; cases hc
set_option maxHeartbeats 1000000 in
theorem Q5K {n : X0} (ok : Ok l) : ∀ (k : Nat) {c : Cla} {cs : List Value} {w : World} {σ : Q6} {K : Value → World → Prop}, H9 l c.name < k → lk l c.name = some c → X6 w σ → Sl 8 V0 σ v l → V0 σ c cs →
    (∀ pv cv hv w' σ', Stp w σ w' σ' → M8 σ' (o2 (V5 l c n)) [S (o2 (V5 l c n)).name, pv, S (o2 (V5 l c n)).result, .bool (o2 (V5 l c n)).abs, I (o2 (V5 l c n)).locals, cv, hv] →
      K (.tuple #[S (o1 (V5 l c n)), .agg [S (o2 (V5 l c n)).name, pv, S (o2 (V5 l c n)).result, .bool (o2 (V5 l c n)).abs, I (o2 (V5 l c n)).locals, cv, hv].toArray, .bool (V5 l c n).isSome]) w') →
    Q1 P F.ay [v, .agg cs.toArray, S n] w K := by
  intro k
  induction k with
  | zero =>
    intro c cs w σ K hk
    omega
  | succ k ih =>
    intro c cs w σ K hk hc hs hv hr h
    refine Rv ?_
    obtain ⟨lv, fv, mv, rfl, g1, g2, g3, g4, g5⟩ := hr
    have heq := Q1m ok.acy hc n
    generalize hf : (fun u => match lk l u with | none => none | some d => match H3 d n with | some m => some (u, m) | none => V5 l d n) = f at heq
    unfold Uw
    refine Z8 hs fun a w1 σ1 hk1 ha1 => ?_
    refine Qu hk1.sat fun b w2 σ2 hb hk2 hm2 => ?_
    have hb0 : w.heap.size ≤ b := Xx hb hk1
    have ha2 := ha1.up hk2
    have g1 := (g1.up hk1).up hk2
    refine V7 c.like.length (fun i w' => ∃ σ', Stp w σ w' σ' ∧ SLe σ2 σ' ∧ V1 σ' w' b [S [], .slice none 0 0, S [], .bool false, I 0, .slice none 0 0, .slice none 0 0] ∧ (c.like.take i).findSome? f = none) ⟨σ2, hk1.trans hk2, SLe.refl _, hm2, rfl⟩ fun i w3 d hi hinv => ?_
    obtain ⟨σ3, hS3, le3, hm3, hno⟩ := hinv
    have hv3 := hv.up hS3
    have ha3 := ha2.lift le3
    have g13 := g1.lift le3
    (try simp only [↓Mm, Mm, ↓Mr, Mr, Mb, reduceIte])
    refine ld hS3.sat ha3 rfl ?_
    refine Q7 g13 ?_
    refine U0 ?_
    refine Q4 (fun hh => ?_) (fun hh => ?_)
    · have hi' : i < c.like.length := by simpa using hh
      (try simp only [↓Mm, Mm, ↓Mr, Mr, Mb, reduceIte])
      refine ld hS3.sat ha3 rfl ?_
      refine Z1 g13 hi' ?_
      obtain ⟨p0, _⟩ := g13.elS hi'
      refine X7 hS3.sat p0 rfl ?_
      obtain ⟨d, hd⟩ := ok.full c (V3 hc).2.1 _ (List.getElem_mem hi')
      obtain ⟨hdn, hdm, _⟩ := V3 hd
      have hfx : f c.like[i] = match H3 d n with | some m => some (c.like[i], m) | none => V5 l d n := by rw [← hf]; simp only [hd]
      refine Ej hS3.sat hv3 hd fun j hj hfj => ?_
      obtain ⟨hjl, hjd⟩ := List.getElem?_eq_some_iff.1 hj
      refine Z1 hv3 hjl ?_
      obtain ⟨lv', fv', mv', p1, r1⟩ := hv3.elC hjl
      rw [hjd] at p1 r1
      refine Z0 hS3.sat p1 rfl ?_
      refine Y2 hS3.sat (by rfl) rfl (Rep.one r1) fun q w4 σ4 hk4 hq4 => ?_
      refine Z0 hk4.sat hq4 rfl ?_
      refine Q3K hk4.sat (R2 r1 ⟨hk4.le⟩) fun w5 σ5 hk5 => ?_
      refine Yz ?_
      rw [F2]
      have hS5 := (hS3.trans hk4).trans hk5
      have hm5 := (hm3.step hk4).step hk5
      have hq5 := hq4.up hk5
      have r5 := R2 r1 ⟨(hk4.trans hk5).le⟩
      have hs5 := hk5.sat
      have le5 : SLe σ2 σ5 := le3.more ⟨(hk4.trans hk5).le⟩
      clear hq4 p1 r1 p0 ha3 g13 hk4 hk5
      cases ho : Oo d n with
      | some i2 =>
        obtain ⟨hi2, hom⟩ := Q3M ho
        rw [hom] at hfx
        simp only [Option.isSome_some, W8, ↓Mm, Mm, ↓Mr, Mr, Mb, reduceIte]
        obtain ⟨_, _, hmv, _, _⟩ := r5.parts
        obtain ⟨pv, cv, hv2, p2, r2⟩ := hmv.elM hi2
        refine W9 hs5 ?_
        (repeat (apply O3; (· intros; (repeat (rename_i hx; subst hx)); (repeat' (first | (with_reducible exact W2 rfl) | (with_reducible exact L4 (Stp.bel (by (repeat (first | exact Stp.refl (by (first | assumption | exact Stp.sat (by assumption) | exact Hst.sat (by assumption))) | assumption | refine Stp.trans ?_ (by first | assumption | exact Hst.stp (by assumption)))))) rfl) | (with_reducible intro _) | (simp only [↓Mm, Mm, ↓Mp, Mp, Mb, reduceIte])  | (with_reducible show Q2 _ _ _ _ _; first | refine X7 aS aL aR ?_ | refine Z0 aS aL aR ?_ | refine ld aS aL aR ?_) | (with_reducible show indexAddr _ _ _ _ _ _; refine Z1 aL au ?_) | (with_reducible show X5 _ _ _ _ _ _ _ _; refine Q7 aL ?_) | (with_reducible show R3 _ _ _ _ _ _; refine Z3 aR ?_) | (with_reducible show pick _ _ _ _ _ _; refine M2 ?_) | (apply M6; intro hh; (try simp only [hh, reduceIte, ↓Mm, Mm, ↓Mp, Mp, Mb, reduceIte])))); done)))
        (intros; (repeat (rename_i hx; subst hx)); (try simp only [↓Mm, Mm, ↓Mp, Mp, Mb, reduceIte]))
        rename_i w6 hb6
        refine Qf (hm5.step hb6.stp) (hS5.trans hb6.stp) hb0 rfl rfl (Rep.one r2) fun w8 hS8 hm8 => ?_
        refine M9 hm8 rfl ?_
        have hl := heq.trans (T0 hi' hno hfx)
        rw [hl] at h
        rw [hdn]
        exact h _ _ _ w8 σ5 hS8.stp r2
      | none =>
        rw [Q0X ho] at hfx
        simp only [Option.isSome_none, ↓Mm, Mm, ↓Mr, Mr, Mb, reduceIte]
        refine Z0 hs5 hq5 rfl ?_
        have hrk := F3 ok.acy hc (by simp [U5, List.getElem_mem hi'] : c.like[i] ∈ U5 c) hd
        refine ih (by rw [hdn]; omega) (by rw [hdn]; exact hd) hs5 (hv.up hS5) r5 fun pv cv hv8 w8 σ8 hk8 hr8 => ?_
        refine M4 (vs := [_, _, _]) rfl ?_
        refine M4 (vs := [_, _, _]) rfl ?_
        refine M4 (vs := [_, _, _]) rfl ?_
        refine Y2 hk8.sat (by rfl) rfl (Rep.one hr8) fun q w9 σ9 hk9 hq9 => ?_
        have hS9 := (hS5.trans hk8).trans hk9
        have hm9 := (hm5.step hk8).step hk9
        have hr9 := S3 hr8 ⟨hk9.le⟩
        have le9 : SLe σ2 σ9 := le5.more ⟨(hk8.trans hk9).le⟩
        have hs9 := hk9.sat
        cases hl : V5 l d n with
        | some r =>
          obtain ⟨s, m⟩ := r
          rw [hl] at hfx hr9 hq9
          clear hr8 hk8 hk9
          simp only [hl, Option.isSome_some, ↓Mm, Mm, ↓Mr, Mr, Mb, reduceIte]
          refine W9 hs9 ?_
          (repeat (apply O3; (· intros; (repeat (rename_i hx; subst hx)); (repeat' (first | (with_reducible exact W2 rfl) | (with_reducible exact L4 (Stp.bel (by (repeat (first | exact Stp.refl (by (first | assumption | exact Stp.sat (by assumption) | exact Hst.sat (by assumption))) | assumption | refine Stp.trans ?_ (by first | assumption | exact Hst.stp (by assumption)))))) rfl) | (with_reducible intro _) | (simp only [↓Mm, Mm, ↓Mp, Mp, Mb, reduceIte])  | (with_reducible show Q2 _ _ _ _ _; first | refine X7 aS aL aR ?_ | refine Z0 aS aL aR ?_ | refine ld aS aL aR ?_) | (with_reducible show indexAddr _ _ _ _ _ _; refine Z1 aL au ?_) | (with_reducible show X5 _ _ _ _ _ _ _ _; refine Q7 aL ?_) | (with_reducible show R3 _ _ _ _ _ _; refine Z3 aR ?_) | (with_reducible show pick _ _ _ _ _ _; refine M2 ?_) | (apply M6; intro hh; (try simp only [hh, reduceIte, ↓Mm, Mm, ↓Mp, Mp, Mb, reduceIte])))); done)))
          (intros; (repeat (rename_i hx; subst hx)); (try simp only [↓Mm, Mm, ↓Mp, Mp, Mb, reduceIte]))
          rename_i w10 hb10
          refine Qf (hm9.step hb10.stp) (hS9.trans hb10.stp) hb0 rfl rfl (Rep.one hr9) fun w11 hS11 hm11 => ?_
          refine M9 hm11 rfl ?_
          have hl2 := heq.trans (T0 hi' hno hfx)
          rw [hl2] at h
          exact h _ _ _ w11 σ9 hS11.stp hr9
        | none =>
          rw [hl] at hfx
          simp only [Option.isSome_none, ↓Mm, Mm, ↓Mr, Mr, Mb, reduceIte]
          refine Z2 (by have := g1.max; omega) hi' ⟨σ9, hS9, le9, hm9, ?_⟩
          rw [T3 hi' hno]; exact hfx
    · have hi' : ¬ i < c.like.length := by simpa using hh
      rw [List.take_of_length_le (by omega)] at hno
      refine Hv ?_
      refine Qf hm3 hS3 hb0 rfl rfl (Rep.one (K8 (σ := σ3))) fun w5 hS5 hm5 => ?_
      refine M9 hm5 rfl ?_
      have hl := heq.trans hno
      rw [hl] at h
      exact h _ _ _ w5 σ3 hS5.stp K8
set_option maxHeartbeats 1000000 in
theorem Q4Q {k n : X0} (hs : X6 w σ) (hv : Sl 8 V0 σ v l) (ok : Ok l)
    (h : ∀ pv cv hv w' σ', Stp w σ w' σ' → M8 σ' (o2 (methodM l k n)) [S (o2 (methodM l k n)).name, pv, S (o2 (methodM l k n)).result, .bool (o2 (methodM l k n)).abs, I (o2 (methodM l k n)).locals, cv, hv] →
      K (.tuple #[S (o1 (methodM l k n)), .agg [S (o2 (methodM l k n)).name, pv, S (o2 (methodM l k n)).result, .bool (o2 (methodM l k n)).abs, I (o2 (methodM l k n)).locals, cv, hv].toArray, .bool (methodM l k n).isSome]) w') :
    Q1 P F.aS [v, S k, S n] w K := Rg (by
  unfold Ue
  refine Qu hs fun b w1 σ1 hb hk1 hm1 => ?_
  refine H7 hk1.sat (hv.up hk1) ?_
  unfold methodM at h
  generalize hF : (fun c : Cla => (H3 c n).map (c.name, ·)) = F1 at h
  have hF' : ∀ c, F1 c = (H3 c n).map (c.name, ·) := fun c => by rw [← hF]
  refine Dq (fun m x w' => ∃ s dn σ', m = (chain l s).length ∧ x = I (W8 (Y3 l s)) ∧ chain l k = dn ++ chain l s ∧ Stp w σ w' σ' ∧ V1 σ' w' b [S [], .slice none 0 0, S [], .bool false, I 0, .slice none 0 0, .slice none 0 0] ∧ dn.findSome? F1 = none)
    (chain l k).length ⟨k, [], σ1, rfl, rfl, rfl, hk1, hm1, rfl⟩ ?_
  rintro again m x d w2 ⟨s, dn, σ2, rfl, rfl, hch, hS2, hm2, hno⟩ hag
  have hv2 := hv.up hS2
  have hs2 := hS2.sat
  refine Yz ?_
  rw [F2]
  cases hd : lk l s with
  | some c =>
    obtain ⟨hcn, hcm, i, hfi, hli⟩ := V3 hd
    obtain ⟨hil, hid⟩ := List.getElem?_eq_some_iff.1 hli
    simp only [hfi, Option.isSome_some, W8, ↓Mm, Mm, ↓Mr, Mr, Mb, reduceIte]
    refine Z1 hv2 hil ?_
    obtain ⟨lv, fv, mv, p1, r1⟩ := hv2.elC hil
    rw [hid] at p1 r1
    refine Z0 hs2 p1 rfl ?_
    refine Q3K hs2 r1 fun w3 σ3 hk3 => ?_
    refine Yz ?_
    rw [F2]
    have hS3 := hS2.trans hk3
    have hv3 := hv2.up hk3
    have hm3 := hm2.step hk3
    have hs3 := hk3.sat
    replace p1 := p1.up hk3
    replace r1 := R2 r1 ⟨hk3.le⟩
    have hce : chain l s = c :: chain l c.super := by rw [C9 ok.acy s, hd]
    cases ho : Oo c n with
    | some i2 =>
      obtain ⟨hi2, hom⟩ := Q3M ho
      simp only [Option.isSome_some, W8, ↓Mm, Mm, ↓Mr, Mr, Mb, reduceIte]
      obtain ⟨_, _, hmv, _, _⟩ := r1.parts
      obtain ⟨pv, cv, hv5, p2, r2⟩ := hmv.elM hi2
      clear hk3
      refine W9 hs3 ?_
      (repeat (apply O3; (· intros; (repeat (rename_i hx; subst hx)); (repeat' (first | (with_reducible exact W2 rfl) | (with_reducible exact L4 (Stp.bel (by (repeat (first | exact Stp.refl (by (first | assumption | exact Stp.sat (by assumption) | exact Hst.sat (by assumption))) | assumption | refine Stp.trans ?_ (by first | assumption | exact Hst.stp (by assumption)))))) rfl) | (with_reducible intro _) | (simp only [↓Mm, Mm, ↓Mp, Mp, Mb, reduceIte])  | (with_reducible show Q2 _ _ _ _ _; first | refine X7 aS aL aR ?_ | refine Z0 aS aL aR ?_ | refine ld aS aL aR ?_) | (with_reducible show indexAddr _ _ _ _ _ _; refine Z1 aL au ?_) | (with_reducible show X5 _ _ _ _ _ _ _ _; refine Q7 aL ?_) | (with_reducible show R3 _ _ _ _ _ _; refine Z3 aR ?_) | (with_reducible show pick _ _ _ _ _ _; refine M2 ?_) | (apply M6; intro hh; (try simp only [hh, reduceIte, ↓Mm, Mm, ↓Mp, Mp, Mb, reduceIte])))); done)))
      (intros; (repeat (rename_i hx; subst hx)); (try simp only [↓Mm, Mm, ↓Mp, Mp, Mb, reduceIte]))
      rename_i w4 hb4
      refine Qf (hm3.step hb4.stp) (hS3.trans hb4.stp) hb rfl rfl (Rep.one r2) fun w8 hS8 hm8 => ?_
      refine M9 hm8 rfl ?_
      have hfs : (chain l k).findSome? F1 = some (c.name, c.methods[i2]) := by
        rw [hch, List.findSome?_append, hno, hce, List.findSome?_cons, hF', hom]; rfl
      rw [hfs] at h
      exact h _ _ _ w8 σ3 hS8.stp r2
    | none =>
      simp only [Option.isSome_none, ↓Mm, Mm, ↓Mr, Mr, Mb, reduceIte]
      refine Z1 hv3 hil ?_
      (try simp only [↓Mm, Mm, ↓Mr, Mr, Mb, reduceIte])
      refine ld hs3 p1 rfl ?_
      refine H7 hs3 hv3 ?_
      refine hag (chain l c.super).length _ _ (by rw [hce, List.length_cons]; omega) ⟨c.super, dn ++ [c], σ3, rfl, rfl, by rw [hch, hce]; simp, hS3, hm3, ?_⟩
      rw [List.findSome?_append, hno]
      simp [hF', Q0X ho]
  | none =>
    rw [Iq hd]
    simp only [Option.isSome_none, ↓Mm, Mm, ↓Mr, Mr, Mb, reduceIte]
    have hno1 : (chain l k).findSome? F1 = none := by rw [hch, I3 hd, List.append_nil]; exact hno
    rw [hno1] at h
    clear hag hno hch
    refine H7 hs2 hv2 ?_
    refine Dq (fun m x w' => ∃ s dn σ', m = (chain l s).length ∧ x = I (W8 (Y3 l s)) ∧ chain l k = dn ++ chain l s ∧ Stp w σ w' σ' ∧ V1 σ' w' b [S [], .slice none 0 0, S [], .bool false, I 0, .slice none 0 0, .slice none 0 0] ∧ dn.findSome? (fun c => V5 l c n) = none)
      (chain l k).length ⟨k, [], σ2, rfl, rfl, rfl, hS2, hm2, rfl⟩ ?_
    rintro again m x d w3 ⟨s, dn, σ3, rfl, rfl, hch, hS3, hm3, hno⟩ hag
    have hv3 := hv.up hS3
    have hs3 := hS3.sat
    refine Yz ?_
    rw [F2]
    cases hd : lk l s with
    | some c =>
      obtain ⟨hcn, hcm, i, hfi, hli⟩ := V3 hd
      obtain ⟨hil, hid⟩ := List.getElem?_eq_some_iff.1 hli
      simp only [hfi, Option.isSome_some, W8, ↓Mm, Mm, ↓Mr, Mr, Mb, reduceIte]
      refine Z1 hv3 hil ?_
      obtain ⟨lv, fv, mv, p1, r1⟩ := hv3.elC hil
      rw [hid] at p1 r1
      refine Z0 hs3 p1 rfl ?_
      have hce : chain l s = c :: chain l c.super := by rw [C9 ok.acy s, hd]
      refine Q5K ok _ (Nat.lt_succ_self _) (by rw [hcn]; exact hd) hs3 hv3 r1 fun pv cv hv8 w8 σ8 hk8 hr8 => ?_
      refine M4 (vs := [_, _, _]) rfl ?_
      refine M4 (vs := [_, _, _]) rfl ?_
      refine M4 (vs := [_, _, _]) rfl ?_
      refine Y2 hk8.sat (by rfl) rfl (Rep.one hr8) fun q w9 σ9 hk9 hq9 => ?_
      have hk89 := hk8.trans hk9
      have hS9 := hS3.trans hk89
      have hm9 := hm3.step hk89
      have hr9 := S3 hr8 ⟨hk9.le⟩
      have hs9 := hk9.sat
      have hv9 := hv3.up hk89
      replace p1 := p1.up hk89
      cases ho : V5 l c n with
      | some r =>
        obtain ⟨s, m⟩ := r
        rw [ho] at hr9 hq9
        clear hr8 hk8 hk9 hk89
        simp only [ho, Option.isSome_some, ↓Mm, Mm, ↓Mr, Mr, Mb, reduceIte]
        refine W9 hs9 ?_
        (repeat (apply O3; (· intros; (repeat (rename_i hx; subst hx)); (repeat' (first | (with_reducible exact W2 rfl) | (with_reducible exact L4 (Stp.bel (by (repeat (first | exact Stp.refl (by (first | assumption | exact Stp.sat (by assumption) | exact Hst.sat (by assumption))) | assumption | refine Stp.trans ?_ (by first | assumption | exact Hst.stp (by assumption)))))) rfl) | (with_reducible intro _) | (simp only [↓Mm, Mm, ↓Mp, Mp, Mb, reduceIte])  | (with_reducible show Q2 _ _ _ _ _; first | refine X7 aS aL aR ?_ | refine Z0 aS aL aR ?_ | refine ld aS aL aR ?_) | (with_reducible show indexAddr _ _ _ _ _ _; refine Z1 aL au ?_) | (with_reducible show X5 _ _ _ _ _ _ _ _; refine Q7 aL ?_) | (with_reducible show R3 _ _ _ _ _ _; refine Z3 aR ?_) | (with_reducible show pick _ _ _ _ _ _; refine M2 ?_) | (apply M6; intro hh; (try simp only [hh, reduceIte, ↓Mm, Mm, ↓Mp, Mp, Mb, reduceIte])))); done)))
        (intros; (repeat (rename_i hx; subst hx)); (try simp only [↓Mm, Mm, ↓Mp, Mp, Mb, reduceIte]))
        rename_i w10 hb10
        refine Qf (hm9.step hb10.stp) (hS9.trans hb10.stp) hb rfl rfl (Rep.one hr9) fun w11 hS11 hm11 => ?_
        refine M9 hm11 rfl ?_
        have hfs : (chain l k).findSome? (fun c => V5 l c n) = some (s, m) := by
          rw [hch, List.findSome?_append, hno, hce, List.findSome?_cons, ho]; rfl
        unfold V5 at hfs
        rw [hfs] at h
        exact h _ _ _ w11 σ9 hS11.stp hr9
      | none =>
        simp only [Option.isSome_none, ↓Mm, Mm, ↓Mr, Mr, Mb, reduceIte]
        refine Z1 hv9 hil ?_
        (try simp only [↓Mm, Mm, ↓Mr, Mr, Mb, reduceIte])
        refine ld hs9 p1 rfl ?_
        refine H7 hs9 hv9 ?_
        refine hag (chain l c.super).length _ _ (by rw [hce, List.length_cons]; omega) ⟨c.super, dn ++ [c], σ9, rfl, rfl, by rw [hch, hce]; simp, hS9, hm9, ?_⟩
        rw [List.findSome?_append, hno]
        simp [ho]
    | none =>
      rw [Iq hd]
      simp only [Option.isSome_none, ↓Mm, Mm, ↓Mr, Mr, Mb, reduceIte]
      have hno2 : (chain l k).findSome? (fun c => V5 l c n) = none := by rw [hch, I3 hd, List.append_nil]; exact hno
      refine Hv ?_
      refine Qf hm3 hS3 hb rfl rfl (Rep.one (K8 (σ := σ3))) fun w7 hS7 hm7 => ?_
      refine M9 hm7 rfl ?_
      unfold V5 at hno2
      rw [hno2] at h
      exact h _ _ _ w7 σ3 hS7.stp K8)
end Go.Proofs.YtdnfaboigajkhaaGreatDoor

namespace Go.Hm
open Go.Kd
theorem To : ∀ (xs : List X0) (x : X0), xs ≠ [] → O5 (xs ++ [x]) = O5 xs ++ [44] ++ x
  | [], _, h => absurd rfl h
  | [a], x, _ => by simp [O5]
  | a :: b :: r, x, _ => by
    have := To (b :: r) x (by simp)
    simp only [List.cons_append] at this ⊢
    simp only [O5, this]
    simp
theorem Tc {xs : List X0} {n : Nat} (h : n < xs.length) : O5 (xs.take (n + 1)) = O5 (xs.take n) ++ (if 0 < n then [44] else []) ++ xs[n] := by
  rw [List.take_add_one, List.getElem?_eq_getElem h]
  simp only [Option.toList_some]
  cases n with
  | zero => simp [O5]
  | succ n =>
    rw [To _ _ (by intro e; have := congrArg List.length e; simp only [List.length_take, List.length_nil] at this; omega)]
    simp
end Go.Hm
namespace Go.Proofs.YtdnfaboigajkhaaGreatDoor
open Go.Emb Go.RowKit Go.Kd Go.Hm
variable {w : World} {K : Value → World → Prop} {σ : Q6} {l : List Cla} {v : Value}
theorem Q2L {m : Hm.Met} {cs : List Value} (hs : X6 w σ) (hm : M8 σ m cs) (hsm : SmM m) (hn : NmM m) (h : ∀ w' σ', Stp w σ w' σ' → K (S (K4 m)) w') : Q1 P F.aD [.agg cs.toArray] w K := Bt (by
  obtain ⟨pv, cv, hv, rfl, g1, g2, g3, g4, g5, g6⟩ := hm
  unfold Ww
  refine Z8 hs fun q w1 σ1 hk1 hq => ?_
  have g1 := g1.up hk1
  have hb : ∀ n, (O5 (m.params.take n)).length ≤ 101000000 := fun n => by
    have := Mx (m.params.take n) fun x hx => hn.2 x (List.mem_of_mem_take hx)
    have h2 : (m.params.take n).length ≤ 1000000 := by rw [List.length_take]; have := hsm.1; omega
    have h3 : (m.params.take n).length * 101 ≤ 1000000 * 101 := Nat.mul_le_mul_right _ h2
    omega
  have hs1 := hk1.sat
  refine O4 m.params.length (fun n a w' => w' = w1 ∧ a = S ([40] ++ O5 (m.params.take n))) ⟨rfl, by simp [O5]⟩ fun n a w2 d hn2 hinv => ?_
  obtain ⟨hw, rfl⟩ := hinv
  subst hw
  have hbn := hb n
  (try simp only [↓Mm, Mm, ↓Mr, Mr, Mb, reduceIte])
  refine ld hs1 hq rfl ?_
  refine Q7 g1 ?_
  refine U0 ?_
  refine Q4 (fun hc => ?_) (fun hc => ?_)
  · have hn' : n < m.params.length := by simpa using hc
    have hx := hn.2 _ (List.getElem_mem hn')
    refine V4 ?_
    obtain ⟨p1, _⟩ := g1.elS hn'
    refine Q4 (fun h0 => ?_) (fun h0 => ?_)
    · have hpos : 0 < n := by have := of_decide_eq_true h0; omega
      refine P8 (by simp only [List.length_append, List.length_cons, List.length_nil]; omega) ?_
      intro d
      (try simp only [↓Mm, Mm, ↓Mr, Mr, Mb, reduceIte])
      refine ld hs1 hq rfl ?_
      refine Z1 g1 hn' ?_
      refine X7 hs1 p1 rfl ?_
      refine P8 (by simp only [List.length_append, List.length_cons, List.length_nil]; omega) ?_
      (try simp only [↓Mm, Mm, ↓Mr, Mr, Mb, reduceIte])
      refine J0 g1.max hn' ⟨rfl, ?_⟩
      rw [Tc hn', if_pos hpos]; simp
    · have hpos : ¬ 0 < n := by have := of_decide_eq_false h0; omega
      intro d
      (try simp only [↓Mm, Mm, ↓Mr, Mr, Mb, reduceIte])
      refine ld hs1 hq rfl ?_
      refine Z1 g1 hn' ?_
      refine X7 hs1 p1 rfl ?_
      refine P8 (by simp only [List.length_append, List.length_cons, List.length_nil]; omega) ?_
      (try simp only [↓Mm, Mm, ↓Mr, Mr, Mb, reduceIte])
      refine J0 g1.max hn' ⟨rfl, ?_⟩
      rw [Tc hn', if_neg hpos]; simp
  · have hn' : ¬ n < m.params.length := by simpa using hc
    rw [List.take_of_length_le (by omega)] at hbn ⊢
    refine P8 (by simp only [List.length_append, List.length_cons, List.length_nil]; omega) ?_
    (try simp only [↓Mm, Mm, ↓Mr, Mr, Mb, reduceIte])
    refine ld hs1 hq rfl ?_
    refine P8 (by simp only [List.length_append, List.length_cons, List.length_nil]; have := hn.1; omega) ?_
    exact h _ _ hk1)
end Go.Proofs.YtdnfaboigajkhaaGreatDoor

namespace Go.Hm
open Go.Kd
def Edge (l : List Cla) (i j : Nat) : Prop := ∃ c, l[i]? = some c ∧ ∃ u ∈ U5 c, Y3 l u = some j
inductive Thr (E : Nat → Nat → Prop) (n : Nat) : Nat → Nat → Prop
  | one {i j : Nat} : E i j → Thr E n i j
  | more {i m j : Nat} : E i m → m < n → Thr E n m j → Thr E n i j
theorem Thr.mono {E : Nat → Nat → Prop} {n m i j : Nat} (h : Thr E n i j) (hm : n ≤ m) : Thr E m i j := by
  induction h with
  | one h => exact .one h
  | more h1 h2 _ ih => exact .more h1 (by omega) ih
theorem Thr.cut {E : Nat → Nat → Prop} {n i j : Nat} (h : Thr E (n + 1) i j) : Thr E n i j ∨ (Thr E n i n ∧ Thr E n n j) := by
  induction h with
  | one h => exact .inl (.one h)
  | @more i m j h1 h2 _ ih =>
    by_cases hm : m < n
    · rcases ih with ih | ⟨a, b⟩
      · exact .inl (.more h1 hm ih)
      · exact .inr ⟨.more h1 hm a, b⟩
    · obtain rfl : m = n := by omega
      rcases ih with ih | ⟨a, b⟩
      · exact .inr ⟨.one h1, ih⟩
      · exact .inr ⟨.one h1, b⟩
theorem Thr.join {E : Nat → Nat → Prop} {n i k j : Nat} (h : Thr E n i k) (hk : k < n) (g : Thr E n k j) : Thr E n i j := by
  induction h with
  | one h => exact .more h hk g
  | more h1 h2 _ ih => exact .more h1 h2 (ih hk g)
theorem Q1l {l : List Cla} (ho : B8 l) {i j : Nat} (hi : i < l.length) : Edge l i j ↔ j < l.length ∧ ∃ u ∈ U5 l[i], u = X9 l j ∧ Y3 l u = some j := by
  unfold Edge
  rw [List.getElem?_eq_getElem hi]
  constructor
  · rintro ⟨c, hc, u, hu, hf⟩
    cases hc
    exact ⟨(D6 hf).1, u, hu, (D6 hf).2.symm, hf⟩
  · rintro ⟨_, u, hu, _, hf⟩
    exact ⟨_, rfl, u, hu, hf⟩
theorem Q6u {l : List Cla} (ho : B8 l) {i : Nat} (hi : i < l.length) : lk l (X9 l i) = some l[i] := by
  have := A6 ho hi
  rwa [List.getD_eq_getElem?_getD, List.getElem?_eq_getElem hi] at this
theorem Q6l {l : List Cla} (ho : B8 l) {i j : Nat} (hi : i < l.length) (h : Thr (Edge l) l.length i j) : j < l.length ∧ Yf (lk l) (X9 l i) (X9 l j) := by
  induction h with
  | one h =>
    obtain ⟨h1, u, hu, he, hf⟩ := (Q1l ho hi).1 h
    obtain ⟨c, hc, _⟩ := Xc hf
    refine ⟨h1, _, Q6u ho hi, u, hu, ?_⟩
    subst he; exact .refl hc
  | more h1 h2 _ ih =>
    obtain ⟨q1, q2⟩ := ih h2
    obtain ⟨_, u, hu, he, hf⟩ := (Q1l ho hi).1 h1
    refine ⟨q1, _, Q6u ho hi, u, hu, ?_⟩
    subst he; exact q2.reach
theorem Q5A {l : List Cla} (ho : B8 l) {a b : X0} (h : Hm.Reach (lk l) a b) : ∀ i j, Y3 l a = some i → Y3 l b = some j → i = j ∨ Thr (Edge l) l.length i j := by
  induction h with
  | refl _ =>
    intro i j h1 h2; rw [h1] at h2; cases h2; exact .inl rfl
  | step hc hu hr ih =>
    rename_i a u b c
    intro i j h1 h2
    obtain ⟨d, hd⟩ := hr.left
    obtain ⟨_, _, k, hk, hk2⟩ := V3 hd
    obtain ⟨c', hc', hc2, _⟩ := Xc h1
    rw [hc] at hc'; cases hc'
    have he : Edge l i k := ⟨c, hc2, u, hu, hk⟩
    rcases ih k j hk h2 with rfl | hT
    · exact .inr (.one he)
    · exact .inr (.more he (D6 hk).1 hT)
theorem Q6s {l : List Cla} (ho : B8 l) {i j : Nat} (hi : i < l.length) (hj : j < l.length) (h : Yf (lk l) (X9 l i) (X9 l j)) : Thr (Edge l) l.length i j := by
  obtain ⟨c, hc, u, hu, hr⟩ := h
  rw [Q6u ho hi] at hc; cases hc
  obtain ⟨d, hd⟩ := hr.left
  obtain ⟨_, _, k, hk, hk2⟩ := V3 hd
  have he : Edge l i k := ⟨_, List.getElem?_eq_getElem hi, u, hu, hk⟩
  have hfj : Y3 l (X9 l j) = some j := by
    have := ho.find (List.getElem?_eq_getElem hj)
    unfold X9
    rw [List.getD_eq_getElem?_getD, List.getElem?_eq_getElem hj]; exact this
  rcases Q5A ho hr k j hk hfj with rfl | hT
  · exact .one he
  · exact .more he (D6 hk).1 hT
theorem Q7S {l : List Cla} (ho : B8 l) {i j : Nat} (hi : i < l.length) (hj : j < l.length) : Thr (Edge l) l.length i j ↔ P5 l (X9 l i) (X9 l j) = true := by
  rw [Yo]
  exact ⟨fun h => (Q6l ho hi h).2, Q6s ho hi hj⟩
def S1 (l : List Cla) : List (List Bool) := (List.range l.length).map fun i => (List.range l.length).map fun j => P5 l (X9 l i) (X9 l j)
def Ez (m : Nat → Nat → Bool) (i j : Nat) (b : Bool) : Nat → Nat → Bool := fun x y => if x = i ∧ y = j then b else m x y
structure Clos (E : Nat → Nat → Prop) (n k i j : Nat) (m : Nat → Nat → Bool) : Prop where
  sound : ∀ a b, m a b = true → Thr E n a b
  full : ∀ a b, a < n → b < n → Thr E k a b → m a b = true
  done : ∀ a b, a < n → b < n → (a < i ∨ (a = i ∧ b < j)) → Thr E (k + 1) a b → m a b = true
theorem Clos.next {E : Nat → Nat → Prop} {n k i j : Nat} {m : Nat → Nat → Bool} (h : Clos E n k i j m) (hk : k < n) (hi : i < n) (hj : j < n) : Clos E n k i (j + 1) (Ez m i j (m i j || (m i k && m k j))) := by
  have mono : ∀ a b, m a b = true → Ez m i j (m i j || (m i k && m k j)) a b = true := by
    intro a b hab
    unfold Ez
    split
    · rename_i e; rw [← e.1, ← e.2, hab]; rfl
    · exact hab
  refine ⟨fun a b hab => ?_, fun a b ha hb hT => mono a b (h.full a b ha hb hT), fun a b ha hb hlt hT => ?_⟩
  · unfold Ez at hab
    split at hab
    · rename_i e
      obtain ⟨rfl, rfl⟩ := e
      simp only [Bool.or_eq_true, Bool.and_eq_true] at hab
      rcases hab with h1 | ⟨h1, h2⟩
      · exact h.sound _ _ h1
      · exact (h.sound _ _ h1).join hk (h.sound _ _ h2)
    · exact h.sound _ _ hab
  · by_cases e : a = i ∧ b = j
    · obtain ⟨rfl, rfl⟩ := e
      unfold Ez
      rw [if_pos ⟨rfl, rfl⟩]
      rcases hT.cut with h1 | ⟨h1, h2⟩
      · rw [h.full _ _ hi hj h1]; rfl
      · rw [h.full _ _ hi hk h1, h.full _ _ hk hj h2]; simp
    · refine mono a b (h.done a b ha hb ?_ hT)
      rcases hlt with h1 | ⟨h1, h2⟩
      · exact .inl h1
      · right; refine ⟨h1, ?_⟩
        have : b ≠ j := fun e' => e ⟨h1, e'⟩
        omega
theorem Clos.row {E : Nat → Nat → Prop} {n k i : Nat} {m : Nat → Nat → Bool} (h : Clos E n k i n m) : Clos E n k (i + 1) 0 m :=
  ⟨h.sound, h.full, fun a b ha hb hlt hT => h.done a b ha hb (by omega) hT⟩
theorem Clos.round {E : Nat → Nat → Prop} {n k : Nat} {m : Nat → Nat → Bool} (h : Clos E n k n 0 m) : Clos E n (k + 1) 0 0 m :=
  ⟨h.sound, fun a b ha hb hT => h.done a b ha hb (.inl ha) hT, fun a b ha hb hlt hT => by omega⟩
theorem Clos.start {E : Nat → Nat → Prop} {n : Nat} {m : Nat → Nat → Bool} (h : ∀ a b, a < n → (m a b = true ↔ E a b)) (h0 : ∀ a b, n ≤ a → m a b = false) : Clos E n 0 0 0 m := by
  refine ⟨fun a b hab => ?_, fun a b ha hb hT => ?_, fun a b ha hb hlt hT => by omega⟩
  · by_cases ha : a < n
    · exact .one ((h a b ha).1 hab)
    · rw [h0 a b (by omega)] at hab; cases hab
  · cases hT with
    | one e => exact (h a b ha).2 e
    | more _ h2 _ => omega
theorem Clos.all {l : List Cla} (ho : B8 l) {m : Nat → Nat → Bool} (h : Clos (Edge l) l.length l.length 0 0 m) {i j : Nat} (hi : i < l.length) (hj : j < l.length) : m i j = P5 l (X9 l i) (X9 l j) := by
  rw [Bool.eq_iff_iff, ← Q7S ho hi hj]
  exact ⟨h.sound i j, h.full i j hi hj⟩
end Go.Hm

namespace Go.Emb
open Go.RowKit
variable {P : Program} {w : World} {K : Value → World → Prop}
end Go.Emb
namespace Go.Proofs.YtdnfaboigajkhaaGreatDoor
open Go.Emb Go.RowKit Go.Kd Go.Hm
variable {w : World} {K : Value → World → Prop} {σ : Q6}
end Go.Proofs.YtdnfaboigajkhaaGreatDoor
