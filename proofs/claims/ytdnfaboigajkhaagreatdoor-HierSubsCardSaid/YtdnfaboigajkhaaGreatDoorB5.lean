/- Parts of a proof about the given program: its functions as texts of their own, what each computes, plain laws of that. The conditions of each stand in its statement. -/
import Derived.Test.YtdnfaboigajkhaaGreatDoorB4
import Derived.Laws.OwnMore
import Derived.Test.YtdnfaboigajkhaaGreatDoorB3
import Derived.Lib.TrimUEq
import Derived.Test.YtdnfaboigajkhaaGreatDoorB2
import Derived.Test.YtdnfaboigajkhaaGreatDoorB1
set_option linter.unnecessarySimpa false
set_option linter.defProp false
set_option linter.unusedSectionVars false
set_option linter.unusedVariables false
set_option linter.unusedSimpArgs false
namespace Go.Emb
open Go.RowKit Go.Hm
variable {P : Program} {w w0 w1 w' w'' : World} {K : Value → World → Prop} {σ σ0 σ1 σ' : Q6}
theorem Q8L {t e : TypeId} {by_ n : Nat} {z : Value} [ts : TS P t e] [tz : TZ P e 1 by_ z] (hs : X6 w σ) (hz : z.cells = #[z]) (hn : n ≤ 1000000) (hb : by_ * n ≤ 281474976710656)
    (h : ∀ b w', w.heap.size ≤ b → Stp w σ w' σ → V1 σ w' b (List.replicate n z) → K (.slice (some ⟨b, 0, none⟩) n n) w') : Pb P t (I n) (I n) w K := by
  obtain ⟨i, hi, hsz, hby, hzero⟩ := tz.info
  have hbi : (i.bytes : Int) * (n : Int) ≤ 281474976710656 := by
    rw [hby]
    have : ((by_ * n : Nat) : Int) ≤ 281474976710656 := by omega
    rwa [Int.natCast_mul] at this
  have hr := run_makeSlice (P := P) w t e i z ts.h hi hzero .i64 .i64 (n : Int) (n : Int) (by omega) (Int.le_refl _) (by rw [hsz]; simp only [Int.toNat_natCast]; omega) hbi (by omega)
  unfold Pb
  rw [Y0 hr]
  simp only [Int.toNat_natCast, hsz, Nat.mul_one]
  refine h _ _ (Nat.le_refl _) (Stp.own hs _) ⟨hs.none (Nat.le_refl _), e, ?_⟩
  rw [heap_alloc_new, hz]
  have : madeCells #[z] n = (List.replicate n z).toArray := by rw [← toList_madeCells_one, Array.toArray_toList]
  rw [this]
def Q1V (n : Nat) (_ : Q6) (b : Nat) (cs : List Value) : Prop := cs = [.slice (some ⟨b, 0, none⟩) n n]
instance (n : Nat) : Rep (Q1V n) := ⟨fun _ h => h, fun h u hu => by rw [h] at hu; simp at hu; subst hu; rfl⟩
def Q2c (σ : Q6) (xs : List Bool) (cs : List Value) : Prop := ∃ v, cs = [v] ∧ Sl 1 Ay σ v xs
instance : Rep Q2c := ⟨fun k h => by obtain ⟨v, h1, h2⟩ := h; exact ⟨v, h1, h2.le k⟩, fun h u hu => by
  obtain ⟨v, rfl, a, cap, rfl, _⟩ := h
  simp at hu; subst hu; rfl⟩
def B4 (n : Nat) (f : Nat → Bool) : List Value := (List.range n).map fun j => .bool (f j)
theorem Gq {n : Nat} {f : Nat → Bool} : (B4 n f).length = n := by simp [B4]
theorem Q10 {n j : Nat} {f : Nat → Bool} (h : j < n) : (B4 n f)[j]? = some (.bool (f j)) := by simp [B4, h]
theorem Q1b {n j : Nat} {f : Nat → Bool} {b : Bool} : (B4 n f).set j (.bool b) = B4 n (fun x => if x = j then b else f x) := by
  apply List.ext_getElem?
  intro k
  rw [List.getElem?_set]
  by_cases hk : k < n
  · by_cases e : j = k
    · subst e; simp [B4, hk]
    · have e' : ¬ k = j := fun h => e h.symm
      simp [B4, hk, e, e']
  · simp [B4, hk]
    intro e; omega
theorem Q3a {n : Nat} : List.replicate n (Value.bool false) = B4 n fun _ => false := by
  apply List.ext_getElem?
  intro k
  by_cases hk : k < n <;> simp [B4, hk]
def K9 (σ : Q6) (w : World) (bs : List Nat) (n : Nat) (m : Nat → Nat → Bool) : Prop := bs.Nodup ∧ ∀ i (h : i < bs.length), V1 σ w bs[i] (B4 n (m i))
theorem K9.up {bs : List Nat} {n : Nat} {m : Nat → Nat → Bool} (h : K9 σ w bs n m) (k : Stp w σ w' σ') : K9 σ' w' bs n m := ⟨h.1, fun i hi => (h.2 i hi).up k⟩
theorem K9.kp {bs : List Nat} {n : Nat} {m : Nat → Nat → Bool} {D : Nat → Prop} (h : K9 σ w bs n m) (k : Kpt D w w') (hd : ∀ b ∈ bs, ¬ D b) : K9 σ w' bs n m := ⟨h.1, fun i hi => (h.2 i hi).kp k (hd _ (List.getElem_mem hi))⟩
theorem K9.lt {bs : List Nat} {n : Nat} {m : Nat → Nat → Bool} (h : K9 σ w bs n m) {b : Nat} (hb : b ∈ bs) : b < w.heap.size ∧ σ b = none := by
  obtain ⟨i, hi, rfl⟩ := List.getElem_of_mem hb
  exact ⟨(h.2 i hi).lt, (h.2 i hi).1⟩
theorem K9.snoc {bs : List Nat} {n b : Nat} {m : Nat → Nat → Bool} {f : Nat → Bool} (h : K9 σ w bs n m) (hb : b ∉ bs) (hm : V1 σ w b (B4 n f)) : K9 σ w (bs ++ [b]) n (fun x => if x = bs.length then f else m x) := by
  refine ⟨by rw [List.nodup_append]; exact ⟨h.1, by simp, fun a ha c hc e => by simp at hc; subst hc; subst e; exact hb ha⟩, fun i hi => ?_⟩
  rw [List.length_append, List.length_singleton] at hi
  by_cases hl : i < bs.length
  · rw [List.getElem_append_left hl]
    simp only [if_neg (show ¬ i = bs.length by omega)]
    exact h.2 i hl
  · obtain rfl : i = bs.length := by omega
    simp only [List.getElem_concat_length, if_true]
    exact hm
theorem K9.congr {bs : List Nat} {n : Nat} {m m' : Nat → Nat → Bool} (h : K9 σ w bs n m) (he : ∀ i, i < bs.length → m i = m' i) : K9 σ w bs n m' := ⟨h.1, fun i hi => he i hi ▸ h.2 i hi⟩
theorem K9.keep {bs : List Nat} {n : Nat} {m : Nat → Nat → Bool} (hn : 0 < n) (hmax : n ≤ 1000000) : ∀ {σ : Q6}, K9 σ w bs n m → Stp w0 σ0 w σ → (∀ b ∈ bs, w0.heap.size ≤ b) → ∃ σ', Stp w0 σ0 w σ' ∧ SLe σ σ' ∧ ∀ i (h : i < bs.length), Sl 1 Ay σ' (.slice (some ⟨bs[i], 0, none⟩) n n) ((List.range n).map (m i)) := by
  intro σ h hS hb
  have key : ∀ k, k ≤ bs.length → ∃ σ', Stp w0 σ0 w σ' ∧ SLe σ σ' ∧ (∀ i (h : i < bs.length), i < k → J4 σ' ⟨bs[i], 0, none⟩ (B4 n (m i))) ∧ ∀ i (h : i < bs.length), k ≤ i → σ' bs[i] = none := by
    intro k
    induction k with
    | zero => intro _; exact ⟨σ, hS, SLe.refl _, fun i _ h => by omega, fun i hi _ => (h.2 i hi).1⟩
    | succ k ih =>
      intro hk
      obtain ⟨σ1, h1, h2, h3, h4⟩ := ih (by omega)
      have hk' : k < bs.length := by omega
      have hm : V1 σ1 w bs[k] (B4 n (m k)) := ⟨h4 k hk' (Nat.le_refl _), (h.2 k hk').2⟩
      obtain ⟨σ2, g1, g2, g3, g4⟩ := hm.keep h1 (hb _ (List.getElem_mem hk'))
      refine ⟨σ2, g1, h2.more ⟨g3⟩, fun i hi hik => ?_, fun i hi hki => ?_⟩
      · by_cases e : i = k
        · subst e; exact g2
        · exact (h3 i hi (by omega)).le g3
      · rw [g4]
        · exact h4 i hi (by omega)
        · intro e
          have := List.nodup_iff_pairwise_ne.1 h.1
          rw [List.pairwise_iff_getElem] at this
          exact this k i hk' hi (by omega) e.symm
  obtain ⟨σ1, h1, h2, h3, _⟩ := key bs.length (Nat.le_refl _)
  refine ⟨σ1, h1, h2, fun i hi => ⟨some ⟨bs[i], 0, none⟩, n, by simp, by simp, by simp only [maxLen]; omega, fun e => (by cases e), ?_⟩⟩
  intro b he
  obtain rfl := Option.some.inj he
  refine ⟨fun _ => rfl, fun j x hx => ?_⟩
  have hj : j < n := by have := (List.getElem?_eq_some_iff.1 hx).1; simpa using this
  obtain ⟨q0, N7, e, fr, q1, q2⟩ := h3 i hi hi
  have hx' : x = m i j := by simp [hj] at hx; exact hx.symm
  refine ⟨[.bool x], ⟨G2 rfl _, N7, e, fr, by rw [R6]; exact q1, fun k v hv => ?_⟩, rfl, rfl⟩
  obtain rfl : k = 0 := by cases k with
    | zero => rfl
    | succ k => simp at hv
  simp at hv
  rw [Xa, ← hv, hx']
  have := q2 j _ (Q10 hj)
  simpa using this
end Go.Emb

namespace Go.Emb
open Go.RowKit Go.Hm
variable {P : Program} {w w0 w1 w' w'' : World} {K : Value → World → Prop} {σ σ0 σ1 σ' : Q6}
theorem Pa {t e : TypeId} {sz by_ : Nat} {z : Value} [ts : TS P t e] [tz : TZ P e sz by_ z] {a : Addr} {n cap i : Nat} (hi : i < n) (hk : K (.pointer (some (a.add (i * sz)))) w) : indexAddr P t (.slice (some a) n cap) (I i) w K := by
  rw [Rf (by omega) (by omega)]
  simpa using hk
theorem K9.nx {D : Nat → Prop} {bs : List Nat} {n : Nat} {m : Nat → Nat → Bool} (h : K9 σ w bs n m) (k : Nxt D w σ w' σ') (hd : ∀ b ∈ bs, ¬ D b) : K9 σ' w' bs n m :=
  ⟨h.1, fun i hi => (h.2 i hi).nx k (hd _ (List.getElem_mem hi))⟩
theorem K9.set {bs : List Nat} {n i j : Nat} {b : Bool} {m : Nat → Nat → Bool} (h : K9 σ w bs n m) (hi : i < bs.length) (hu : Upd w bs[i] w') (hm : V1 σ w' bs[i] ((B4 n (m i)).set j (.bool b))) : K9 σ w' bs n (Ez m i j b) := by
  refine ⟨h.1, fun k hk => ?_⟩
  by_cases e : k = i
  · subst e
    rw [Q1b] at hm
    have : Ez m k j b k = fun x => if x = j then b else m k x := by funext x; simp [Ez]
    rw [this]; exact hm
  · have : Ez m i j b k = m k := by funext x; simp [Ez, e]
    rw [this]
    refine (h.2 k hk).upd hu fun e' => e ?_
    rcases Nat.lt_trichotomy k i with hlt | hlt | hlt
    · have := List.nodup_iff_pairwise_ne.1 h.1
      rw [List.pairwise_iff_getElem] at this
      exact absurd e' (this k i hk hi hlt)
    · exact hlt
    · have := List.nodup_iff_pairwise_ne.1 h.1
      rw [List.pairwise_iff_getElem] at this
      exact absurd e'.symm (this i k hi hk hlt)
end Go.Emb
namespace Go.Proofs.YtdnfaboigajkhaaGreatDoor
open Go.Emb Go.RowKit Go.Kd Go.Hm
variable {w : World} {K : Value → World → Prop} {σ : Q6} {l : List Cla} {v : Value}
def Vm (l : List Cla) (i j : Nat) : Bool := match l[i]? with
  | none => false
  | some c => (U5 c).any fun u => decide (Y3 l u = some j)
theorem Q6c (l : List Cla) (i j : Nat) : Vm l i j = true ↔ Hm.Edge l i j := by
  unfold Vm Hm.Edge
  cases h : l[i]? with
  | none => simp
  | some c => simp [List.any_eq_true]
theorem Q5b {l : List Cla} {i j : Nat} (h : l.length ≤ i) : Vm l i j = false := by
  unfold Vm
  rw [List.getElem?_eq_none h]
set_option maxHeartbeats 4000000 in
theorem Kn (hs : X6 w σ) (hl : Sl 8 V0 σ v l) (ho : B8 l) (hpos : 0 < l.length) (hlen : l.length ≤ 1000) (hsm : ∀ c ∈ l, K2 c)
    (h : ∀ v' w' σ', Stp w σ w' σ' → Sl 1 Q2c σ' v' (S1 l) → K v' w') : Q1 P F.ae [v] w K := Sx (by
  unfold Vb
  refine Kc (R := Q1V l.length) (e := T.v) (Stp.refl hs) (by decide) fun x0 w1 hk1 ha1 _ => ?_
  refine O4 l.length (fun n x w' => ∃ σ' bs, Stp w σ w' σ' ∧ W3 w.heap.size T.v 1 (Q1V l.length) σ' w' x bs ∧ K9 σ' w' bs l.length (Vm l) ∧ bs.length = n ∧ ∀ b ∈ bs, w.heap.size ≤ b ∧ x.ownBlock ≠ some b) ⟨σ, [], hk1, ha1, ⟨List.nodup_nil, by simp⟩, rfl, by simp⟩ fun n x w2 d hn hinv => ?_
  obtain ⟨σ2, bs, hS2, ha2, hM2, hbl, hb2⟩ := hinv
  refine Q7 (hl.up hS2) ?_
  refine U0 ?_
  refine Q4 (fun hc => ?_) (fun hc => ?_)
  · have hn' : n < l.length := by simpa using hc
    have hl2 := hl.up hS2
    refine Q7 hl2 ?_
    refine Q8L hS2.sat rfl (by omega) (by omega) fun b w3 hb3 hk3 hm3 => ?_
    rw [Q3a] at hm3
    obtain ⟨lv, fv, mv, p1, r1⟩ := hl2.elC hn'
    obtain ⟨g1, _, _, g4, g5⟩ := r1.parts
    have hsmc := hsm _ (List.getElem_mem hn')
    have hs3 := hk3.sat
    refine W9 hs3 ?_
    (repeat (apply O3; (· intros; (repeat (rename_i hx; subst hx)); (repeat' (first | (with_reducible exact W2 rfl) | (with_reducible exact L4 (Stp.bel (by (repeat (first | exact Stp.refl (by (first | assumption | exact Stp.sat (by assumption) | exact Hst.sat (by assumption))) | assumption | refine Stp.trans ?_ (by first | assumption | exact Hst.stp (by assumption)))))) rfl) | (with_reducible intro _) | (simp only [↓Mm, Mm, ↓Mp, Mp, Mb, reduceIte])  | (with_reducible show Q2 _ _ _ _ _; first | refine X7 aS aL aR ?_ | refine Z0 aS aL aR ?_ | refine ld aS aL aR ?_) | (with_reducible show indexAddr _ _ _ _ _ _; refine Z1 aL au ?_) | (with_reducible show X5 _ _ _ _ _ _ _ _; refine Q7 aL ?_) | (with_reducible show R3 _ _ _ _ _ _; refine Z3 aR ?_) | (with_reducible show pick _ _ _ _ _ _; refine M2 ?_) | (apply M6; intro hh; (try simp only [hh, reduceIte, ↓Mm, Mm, ↓Mp, Mp, Mb, reduceIte])))); done)))
    refine Q0K (w := w3) (σ := σ2) (R := U9) (sz := 1) (e := T.b) [l[n].super] (fun t w hb e => ?_) ?_
    · subst e; exact Qq hb.stp [_] [l[n].super] rfl rfl (by simp; rfl) rfl ⟨⟨rfl, g5⟩, trivial⟩ fun v' w' hk ha _ => Q2b hb hk ha
    (repeat (apply O3; (· intros; (repeat (rename_i hx; subst hx)); (repeat' (first | (with_reducible exact W2 rfl) | (with_reducible exact L4 (Stp.bel (by (repeat (first | exact Stp.refl (by (first | assumption | exact Stp.sat (by assumption) | exact Hst.sat (by assumption))) | assumption | refine Stp.trans ?_ (by first | assumption | exact Hst.stp (by assumption)))))) rfl) | (with_reducible intro _) | (simp only [↓Mm, Mm, ↓Mp, Mp, Mb, reduceIte])  | (with_reducible show Q2 _ _ _ _ _; first | refine X7 aS aL aR ?_ | refine Z0 aS aL aR ?_ | refine ld aS aL aR ?_) | (with_reducible show indexAddr _ _ _ _ _ _; refine Z1 aL au ?_) | (with_reducible show X5 _ _ _ _ _ _ _ _; refine Q7 aL ?_) | (with_reducible show R3 _ _ _ _ _ _; refine Z3 aR ?_) | (with_reducible show pick _ _ _ _ _ _; refine M2 ?_) | (apply M6; intro hh; (try simp only [hh, reduceIte, ↓Mm, Mm, ↓Mp, Mp, Mb, reduceIte])))); done)))
    rintro t24 t25 t30 t31 t26 t27 t32 w4 hb4 rfl rfl rfl rfl rfl ⟨f27, a27⟩ rfl
    refine Nh f27 a27 g1 rfl (by simp; have := hsmc.1; omega) (by simp; have := hsmc.1; omega) fun v5 w5 hn5 hS5 ha5 hat5 => ?_
    obtain ⟨σ6, hS6, hv6, le6, _⟩ := ha5.keep hS5
    have hv6 : Sl 1 U9 σ6 v5 (U5 l[n]) := hv6
    have hb3w : w.heap.size ≤ b := Nat.le_trans hS2.bel.size hb3
    have hm6 := hm3.up hS6
    have ha6 := (ha2.up hk3).up hS6
    have hM6 := (hM2.up hk3).up hS6
    have hS26 := (hS2.trans hk3).trans hS6
    have hxb : ∀ k, x.ownBlock = some k → k ≠ b := fun k e => by have := (ha2.mem k e).2.1; omega
    have hbbs : b ∉ bs := fun e => by have := (hM2.lt e).1; omega
    clear hm3 ha2 hM2 hS6 hS5 ha5 a27 f27 hn5 hat5
    refine V7 (U5 l[n]).length (fun k w' => Stp w σ w' σ6 ∧ W3 w.heap.size T.v 1 (Q1V l.length) σ6 w' x bs ∧ K9 σ6 w' bs l.length (Vm l) ∧ V1 σ6 w' b (B4 l.length fun j => ((U5 l[n]).take k).any fun u => decide (Y3 l u = some j)))
      ⟨hS26, ha6, hM6, hm6⟩ fun k w7 d7 hk hinv => ?_
    obtain ⟨hS7, ha7, hM7, hm7⟩ := hinv
    refine Q7 hv6 ?_
    refine U0 ?_
    refine Q4 (fun hc => ?_) (fun hc => ?_)
    · have hk' : k < (U5 l[n]).length := by simpa using hc
      refine V4 ?_
      refine Z1 hv6 hk' ?_
      obtain ⟨p2, p3⟩ := hv6.elS hk'
      refine X7 hS7.sat p2 rfl ?_
      refine H7 hS7.sat (hl.up hS7) ?_
      refine Yz ?_
      rw [F2]
      have hnx : ∀ f : Nat → Bool, (∀ j, f j = (((U5 l[n]).take k).any (fun u => decide (Y3 l u = some j)) || decide (Y3 l (U5 l[n])[k] = some j))) → f = fun j => ((U5 l[n]).take (k + 1)).any fun u => decide (Y3 l u = some j) := by
        intro f hf; funext j; rw [hf, M5 hk']
      cases hfc : Y3 l (U5 l[n])[k] with
      | none =>
        simp only [Option.isSome_none, ↓Mm, Mm, ↓Mr, Mr, Mb, reduceIte]
        intro d
        refine Z2 hv6.max hk' ⟨hS7, ha7, hM7, ?_⟩
        rw [← hnx (fun j => ((U5 l[n]).take k).any fun u => decide (Y3 l u = some j)) (fun j => by rw [hfc]; simp)]
        exact hm7
      | some j =>
        have hj := (D6 hfc).1
        simp only [Option.isSome_some, W8, ↓Mm, Mm, ↓Mr, Mr, Mb, reduceIte]
        refine Pa hj ?_
        rw [Nat.mul_one]
        refine Gb hm7 (by rw [Gq]; exact hj) (by rfl) (by rfl) fun w8 u8 hm8 => ?_
        intro d
        rw [Q1b] at hm8
        refine Z2 hv6.max hk' ⟨u8.stp hS7 hb3w hm7.1, ha7.kp (D := (· = b)) (.of_upd u8 rfl) hxb, hM7.kp (D := (· = b)) (.of_upd u8 rfl) (fun c hc e => hbbs (e ▸ hc)), ?_⟩
        rw [← hnx (fun x => if x = j then true else _) (fun i => ?_)]
        · exact hm8
        · rw [hfc]
          by_cases e : i = j
          · subst e; simp
          · have : ¬ j = i := fun e' => e e'.symm
            simp [e, this]
    · have hk' : ¬ k < (U5 l[n]).length := by simpa using hc
      have hk0 : k = (U5 l[n]).length := by omega
      subst hk0
      rw [List.take_of_length_le (Nat.le_refl _)] at hm7
      have hef : (fun j => (U5 l[n]).any fun u => decide (Y3 l u = some j)) = Vm l n := by
        funext j; unfold Vm; rw [List.getElem?_eq_getElem hn']
      rw [hef] at hm7
      have hM8 := (hM7.snoc hbbs hm7).congr (m' := Vm l) (fun i _ => by
        by_cases e : i = bs.length
        · rw [if_pos e, e, hbl]
        · rw [if_neg e])
      refine Jb (R := Q1V l.length) (x := b) hS7 ha7 rfl rfl rfl rfl (by omega) (by omega) fun s v' w9 σ9 hnx hS9 ha9 hat => ?_
      have hdis : ∀ c ∈ bs ++ [b], w.heap.size ≤ c ∧ x.ownBlock ≠ some c := by
        intro c hc
        rcases List.mem_append.1 hc with hc | hc
        · exact hb2 c hc
        · simp at hc; subst hc; exact ⟨hb3w, fun e => hxb _ e rfl⟩
      have hlt9 : ∀ c ∈ bs ++ [b], c < w7.heap.size := fun c hc => (hM8.lt hc).1
      refine O8 ?_
      refine J0 (by omega) hn' ⟨σ9, bs ++ [b], hS9, ha9, hM8.nx hnx (fun c hc => (hdis c hc).2), by rw [List.length_append, hbl]; rfl, fun c hc => ⟨(hdis c hc).1, fun e => ?_⟩⟩
      rcases hat with hat | hat
      · exact (hdis c hc).2 (hat ▸ e)
      · have := hat c e; have := hlt9 c hc; omega
  · have hn0 : n = l.length := by have : ¬ n < l.length := by simpa using hc
                                  omega
    obtain ⟨σ8, hS8, hv8, le8, old8⟩ := ha2.keep hS2
    have hlb : bs.length = l.length := by omega
    have hM8 : K9 σ8 w2 bs l.length (Vm l) := ⟨hM2.1, fun i hi => ⟨(old8 _ (fun e => (hb2 _ (List.getElem_mem hi)).2 e.symm)).trans (hM2.2 i hi).1, (hM2.2 i hi).2⟩⟩
    have hpx : ∀ i (hi : i < bs.length), J4 σ8 (Bg 1 x i) [.slice (some ⟨bs[i], 0, none⟩) l.length l.length] := fun i hi => by
      obtain ⟨cs, h1, _, h2⟩ := hv8.el hi
      have h2 : cs = _ := h2
      subst h2; exact h1
    clear ha2 hM2 hS2 le8 old8
    refine V7 l.length (fun k w' => ∃ m, Stp w σ w' σ8 ∧ K9 σ8 w' bs l.length m ∧ Clos (Hm.Edge l) l.length k 0 0 m) ⟨Vm l, hS8, hM8, Clos.start (fun a b _ => Q6c l a b) (fun a b h => Q5b h)⟩ fun k w3 d3 hk3 hinv => ?_
    obtain ⟨m3, hS3, hM3, hC3⟩ := hinv
    refine Q7 (hl.up hS3) ?_
    refine U0 ?_
    refine Q4 (fun hc => ?_) (fun hc => ?_)
    · have hk' : k < l.length := by simpa using hc
      refine V7 l.length (fun i w' => ∃ m, Stp w σ w' σ8 ∧ K9 σ8 w' bs l.length m ∧ Clos (Hm.Edge l) l.length k i 0 m) ⟨m3, hS3, hM3, hC3⟩ fun i w4 d4 hi4 hinv => ?_
      obtain ⟨m4, hS4, hM4, hC4⟩ := hinv
      refine Q7 (hl.up hS4) ?_
      refine U0 ?_
      refine Q4 (fun hc => ?_) (fun hc => ?_)
      · have hi' : i < l.length := by simpa using hc
        refine V7 l.length (fun j w' => ∃ m, Stp w σ w' σ8 ∧ K9 σ8 w' bs l.length m ∧ Clos (Hm.Edge l) l.length k i j m) ⟨m4, hS4, hM4, hC4⟩ fun j w5 d5 hj5 hinv => ?_
        obtain ⟨m5, hS5, hM5, hC5⟩ := hinv
        refine Q7 (hl.up hS5) ?_
        refine U0 ?_
        refine Q4 (fun hc => ?_) (fun hc => ?_)
        · have hj' : j < l.length := by simpa using hc
          have hi6 : i < bs.length := by omega
          have hk6 : k < bs.length := by omega
          have px_i := hpx i hi6
          have px_k := hpx k hk6
          have hrd : ∀ {w' : World} {K : Value → World → Prop} {a b : Nat} {ha : a < bs.length}, Hst w5 σ8 w' σ8 → b < l.length → K (.bool (m5 a b)) w' → Q2 P T.m (.pointer (some ((⟨bs[a], 0, none⟩ : Addr).add (b * 1)))) w' K := fun hst hb hK => by
            rw [Nat.mul_one]
            exact T8 (((hM5.up hst.stp).2 _ _).cell (Q10 hb)) hK
          refine W9 hS5.sat ?_
          (repeat (apply O3; (· intros; (repeat (rename_i hx; subst hx)); (repeat' (first | (with_reducible exact W2 rfl) | (with_reducible exact L4 (Stp.bel (by (repeat (first | exact Stp.refl (by (first | assumption | exact Stp.sat (by assumption) | exact Hst.sat (by assumption))) | assumption | refine Stp.trans ?_ (by first | assumption | exact Hst.stp (by assumption)))))) rfl) | (with_reducible intro _) | (simp only [↓Mm, Mm, ↓Mp, Mp, Mb, reduceIte]) | (with_reducible refine Pa au ?_) | (with_reducible refine hrd au au ?_)  | (with_reducible show Q2 _ _ _ _ _; first | refine X7 aS aL aR ?_ | refine Z0 aS aL aR ?_ | refine ld aS aL aR ?_) | (with_reducible show indexAddr _ _ _ _ _ _; refine Z1 aL au ?_) | (with_reducible show X5 _ _ _ _ _ _ _ _; refine Q7 aL ?_) | (with_reducible show R3 _ _ _ _ _ _; refine Z3 aR ?_) | (with_reducible show pick _ _ _ _ _ _; refine M2 ?_) | (apply M6; intro hh; (try simp only [hh, reduceIte, ↓Mm, Mm, ↓Mp, Mp, Mb, reduceIte])))); done)))
          cases h1 : m5 i j
          · simp only [reduceIte]
            (repeat (apply O3; (· intros; (repeat (rename_i hx; subst hx)); (repeat' (first | (with_reducible exact W2 rfl) | (with_reducible exact L4 (Stp.bel (by (repeat (first | exact Stp.refl (by (first | assumption | exact Stp.sat (by assumption) | exact Hst.sat (by assumption))) | assumption | refine Stp.trans ?_ (by first | assumption | exact Hst.stp (by assumption)))))) rfl) | (with_reducible intro _) | (simp only [↓Mm, Mm, ↓Mp, Mp, Mb, reduceIte]) | (with_reducible refine Pa au ?_) | (with_reducible refine hrd au au ?_)  | (with_reducible show Q2 _ _ _ _ _; first | refine X7 aS aL aR ?_ | refine Z0 aS aL aR ?_ | refine ld aS aL aR ?_) | (with_reducible show indexAddr _ _ _ _ _ _; refine Z1 aL au ?_) | (with_reducible show X5 _ _ _ _ _ _ _ _; refine Q7 aL ?_) | (with_reducible show R3 _ _ _ _ _ _; refine Z3 aR ?_) | (with_reducible show pick _ _ _ _ _ _; refine M2 ?_) | (apply M6; intro hh; (try simp only [hh, reduceIte, ↓Mm, Mm, ↓Mp, Mp, Mb, reduceIte])))); done)))
            (intros; (repeat (rename_i hx; subst hx)); (try simp only [↓Mm, Mm, ↓Mp, Mp, Mb, reduceIte]))
            rename_i w6 hb6
            refine Pa hj' ?_
            rw [Nat.mul_one]
            refine Eq.subst (motive := fun V => V6 P T.m (.pointer (some ((⟨bs[i], 0, none⟩ : Addr).add j))) V w6 _) (show Value.bool (m5 i j || (m5 i k && m5 k j)) = _ from by cases h2 : m5 i k <;> simp [h1, h2]) ?_
            refine Gb ((hM5.up hb6.stp).2 i hi6) (by rw [Gq]; exact hj') (by rfl) (by rfl) fun w7 u7 hm7 => ?_
            (try simp only [↓Mm, Mm, ↓Mr, Mr, Mb, reduceIte])
            exact Z2 (by omega) hj' ⟨_, u7.stp (hS5.trans hb6.stp) (hb2 _ (List.getElem_mem hi6)).1 hm7.1, (hM5.up hb6.stp).set hi6 u7 hm7, hC5.next hk' hi' hj'⟩
          · simp only [Bool.true_eq_false, reduceIte]
            (repeat (apply O3; (· intros; (repeat (rename_i hx; subst hx)); (repeat' (first | (with_reducible exact W2 rfl) | (with_reducible exact L4 (Stp.bel (by (repeat (first | exact Stp.refl (by (first | assumption | exact Stp.sat (by assumption) | exact Hst.sat (by assumption))) | assumption | refine Stp.trans ?_ (by first | assumption | exact Hst.stp (by assumption)))))) rfl) | (with_reducible intro _) | (simp only [↓Mm, Mm, ↓Mp, Mp, Mb, reduceIte]) | (with_reducible refine Pa au ?_) | (with_reducible refine hrd au au ?_)  | (with_reducible show Q2 _ _ _ _ _; first | refine X7 aS aL aR ?_ | refine Z0 aS aL aR ?_ | refine ld aS aL aR ?_) | (with_reducible show indexAddr _ _ _ _ _ _; refine Z1 aL au ?_) | (with_reducible show X5 _ _ _ _ _ _ _ _; refine Q7 aL ?_) | (with_reducible show R3 _ _ _ _ _ _; refine Z3 aR ?_) | (with_reducible show pick _ _ _ _ _ _; refine M2 ?_) | (apply M6; intro hh; (try simp only [hh, reduceIte, ↓Mm, Mm, ↓Mp, Mp, Mb, reduceIte])))); done)))
            (intros; (repeat (rename_i hx; subst hx)); (try simp only [↓Mm, Mm, ↓Mp, Mp, Mb, reduceIte]))
            rename_i w6 hb6
            refine Pa hj' ?_
            rw [Nat.mul_one]
            refine Eq.subst (motive := fun V => V6 P T.m (.pointer (some ((⟨bs[i], 0, none⟩ : Addr).add j))) V w6 _) (show Value.bool (m5 i j || (m5 i k && m5 k j)) = _ from by simp [h1]) ?_
            refine Gb ((hM5.up hb6.stp).2 i hi6) (by rw [Gq]; exact hj') (by rfl) (by rfl) fun w7 u7 hm7 => ?_
            (try simp only [↓Mm, Mm, ↓Mr, Mr, Mb, reduceIte])
            exact Z2 (by omega) hj' ⟨_, u7.stp (hS5.trans hb6.stp) (hb2 _ (List.getElem_mem hi6)).1 hm7.1, (hM5.up hb6.stp).set hi6 u7 hm7, hC5.next hk' hi' hj'⟩
        · have hj0 : j = l.length := by have : ¬ j < l.length := by simpa using hc
                                        omega
          subst hj0
          refine O8 ?_
          exact Z2 (by omega) hi' ⟨m5, hS5, hM5, hC5.row⟩
      · have hi0 : i = l.length := by have : ¬ i < l.length := by simpa using hc
                                      omega
        subst hi0
        refine O8 ?_
        exact Z2 (by omega) hk' ⟨m4, hS4, hM4, hC4.round⟩
    · have hk0 : k = l.length := by have : ¬ k < l.length := by simpa using hc
                                    omega
      subst hk0
      obtain ⟨σ9, hS9, le9, hrows⟩ := hM3.keep hpos (by omega) hS3 (fun b hb => (hb2 b hb).1)
      refine h _ _ _ hS9 ((hv8.lift le9).conv (by simp [S1, hlb]) fun i hi hj cs hcs => ?_)
      have hcs : cs = _ := hcs
      subst hcs
      refine ⟨_, rfl, ?_⟩
      have := hrows i hi
      have he : (S1 l)[i] = (List.range l.length).map (m3 i) := by
        have hi' : i < l.length := by omega
        simp only [S1, List.getElem_map, List.getElem_range]
        apply List.map_congr_left
        intro j hj
        exact (Clos.all ho hC3 hi' (by simpa using hj)).symm
      rw [he]; exact this)
end Go.Proofs.YtdnfaboigajkhaaGreatDoor

namespace Go.Emb
open Go.RowKit Go.Hm
structure FinT (B : Nat) (F : Option Obj → Prop) (w w' : World) : Prop where
  os : w'.os = w.os
  tape : w'.tape = w.tape
  output : w'.output = w.output
  size : w.heap.size ≤ w'.heap.size
  old : ∀ k, k < w.heap.size → k < B → w'.heap[k]? = w.heap[k]?
  new : ∀ k, k < w.heap.size → w'.heap[k]? = w.heap[k]? ∨ F (w'.heap[k]?)
section
variable {P : Program} {B : Nat} {F : Option Obj → Prop} {w w' w0 : World} {σ : Q6} {v V : Value} {K : Value → World → Prop}
theorem FinT.of_below (h : Below w.heap.size w w') : FinT B F w w' := ⟨h.os, h.tape, h.output, h.size, fun k hk _ => h.block k hk, fun k hk => .inl (h.block k hk)⟩
theorem FinT.of_upd {b : Nat} (h : Upd w b w') (hb : B ≤ b) (hF : F (w'.heap[b]?)) : FinT B F w w' :=
  ⟨h.os, h.tape, h.output, by rw [h.size]; exact Nat.le_refl _, fun k hk hB => h.block k (by omega), fun k hk => by
    by_cases e : k = b
    · subst e; exact .inr hF
    · exact .inl (h.block k e)⟩
theorem FinT.hst (h : FinT w0.heap.size F w w') (hs : X6 w0 σ) (hb : Hst w0 σ w σ) : Hst w0 σ w' σ :=
  ⟨Stp.of_below hs ⟨h.os.trans hb.stp.bel.os, h.tape.trans hb.stp.bel.tape, h.output.trans hb.stp.bel.output, Nat.le_trans hb.stp.bel.size h.size, fun k hk => (h.old k (Nat.lt_of_lt_of_le hk hb.stp.bel.size) hk).trans (hb.stp.bel.block k hk)⟩⟩
theorem Q8f {A : (World → World → Prop) → (World → Prop) → Prop} (F : Option Obj → Prop) (hs : X6 w σ) (h : A (FinT w.heap.size F) (fun w' => Hst w σ w' σ)) : dr w A :=
  Q05 _ _ ⟨Stp.of_below hs (Below.refl _ _).drew⟩ (fun _ _ h1 h2 => h2.hst hs h1) h
theorem Q2h (h : V = v) : dk (FinT B F) (fun v _ => V = v) w v w := ⟨.of_below (Below.refl _ _), h⟩
theorem Q7w (hb : Below w.heap.size w w') (h : V = v) : dk (FinT B F) (fun v _ => V = v) w v w' := ⟨.of_below hb, h⟩
def Q8e (B n : Nat) (F : Option Obj → Prop) (v : Value) (w : World) : Prop := ∃ g, v = .pointer (some ⟨g, 0, none⟩) ∧ B ≤ g ∧ ((∃ cs : List Value, ∃ e, cs.length = n ∧ w.heap[g]? = some (.cells cs.toArray e (0, 0))) ∨ F (w.heap[g]?))
def Q8G (B : Nat) (F : Option Obj → Prop) (v : Value) (w : World) : Prop := ∃ g, v = .pointer (some ⟨g, 0, none⟩) ∧ B ≤ g ∧ F (w.heap[g]?)
theorem Sn {w : World} {g : Nat} {o : Obj} (h : w.heap[g]? = some o) : g < w.heap.size := (Array.getElem?_eq_some_iff.1 h).1
theorem Q4f {n : Nat} (hF : ¬ F none) : Oa (FinT B F) (Q8e B n F) := by
  rintro v w w' ⟨g, rfl, hB, hd⟩ hT
  have hlt : g < w.heap.size := by
    rcases hd with ⟨cs, e, _, h⟩ | h
    · exact Sn h
    · cases hg : w.heap[g]? with
      | none => rw [hg] at h; exact absurd h hF
      | some o => exact Sn hg
  rcases hT.new g hlt with h | h
  · exact ⟨g, rfl, hB, by rw [h]; exact hd⟩
  · exact ⟨g, rfl, hB, .inr h⟩
theorem Q4V (hF : ¬ F none) : Oa (FinT B F) (Q8G B F) := by
  rintro v w w' ⟨g, rfl, hB, hd⟩ hT
  have hlt : g < w.heap.size := by
    cases hg : w.heap[g]? with
    | none => rw [hg] at hd; exact absurd hd hF
    | some o => exact Sn hg
  rcases hT.new g hlt with h | h
  · exact ⟨g, rfl, hB, by rw [h]; exact hd⟩
  · exact ⟨g, rfl, hB, h⟩
end
end Go.Emb
namespace Go.Hm
open Go.Kd
theorem Q3E {a b : List Hm.Met} (h : ∀ m, m ∈ a ↔ m ∈ b) : Wg a = Wg b := by
  rw [Bool.eq_iff_iff]
  simp only [Wg, List.any_eq_true]
  constructor
  · rintro ⟨x, hx, y, hy, h2⟩; exact ⟨x, (h x).1 hx, y, (h y).1 hy, h2⟩
  · rintro ⟨x, hx, y, hy, h2⟩; exact ⟨x, (h x).2 hx, y, (h y).2 hy, h2⟩
theorem Q6w {α : Type} {a b : List α} {p : α → Bool} (h : ∀ m, m ∈ a ↔ m ∈ b) : a.any p = b.any p := by
  rw [Bool.eq_iff_iff]
  simp only [List.any_eq_true]
  constructor
  · rintro ⟨x, hx, y⟩; exact ⟨x, (h x).1 hx, y⟩
  · rintro ⟨x, hx, y⟩; exact ⟨x, (h x).2 hx, y⟩
def Qo (m : Hm.Met) : List X0 := m.params ++ if m.result = [] then [] else [m.result]
def Xu (c : Cla) : List X0 := c.fields.map (·.kind) ++ c.methods.flatMap Qo
theorem Q5p {l : List Cla} {c : Cla} : (Xu c).any (fun s => !thereM l s) = D9 l c := by
  unfold Xu D9 Qo
  rw [List.any_append, List.any_map, List.any_flatMap]
  congr 1
  congr 1
  funext m
  rw [List.any_append]
  by_cases e : m.result = []
  · simp [e]
  · simp [e, Bool.or_comm]
def Im (l : List Cla) (i k : Nat) : Bool := decide (k = i) || P5 l (X9 l i) (X9 l k)
def P9 (l : List Cla) (i n : Nat) : List Hm.Met := (List.range n).flatMap fun k => if Im l i k then (l.getD k Cla.zero).methods else []
theorem Q4s {l : List Cla} {i n : Nat} : P9 l i (n + 1) = P9 l i n ++ if Im l i n then (l.getD n Cla.zero).methods else [] := by
  unfold P9
  rw [List.range_succ, List.flatMap_append]
  simp
theorem Q0V {l : List Cla} (ho : B8 l) {i : Nat} (hi : i < l.length) (m : Hm.Met) : m ∈ P9 l i l.length ↔ m ∈ allMets l (X9 l i) := by
  unfold P9 allMets
  simp only [List.mem_flatMap, List.mem_range]
  have hlk : ∀ k, k < l.length → lk l (X9 l k) = some (l.getD k Cla.zero) := fun k hk => A6 ho hk
  constructor
  · rintro ⟨k, hk, hm⟩
    split at hm
    · rename_i hu
      refine ⟨X9 l k, ?_, by rw [hlk k hk]; exact hm⟩
      rw [Zc, Iu]
      simp only [Im, Bool.or_eq_true, decide_eq_true_eq, Yo] at hu
      rcases hu with rfl | hu
      · exact .inl ⟨rfl, _, hlk _ hk⟩
      · exact .inr hu
    · simp at hm
  · rintro ⟨u, hu, hm⟩
    rw [Zc] at hu
    obtain ⟨c, hc⟩ := hu.right
    obtain ⟨hn, hmem, j, hj, hlj⟩ := V3 hc
    obtain ⟨hjl, hje⟩ := List.getElem?_eq_some_iff.1 hlj
    have hnj : X9 l j = u := by
      unfold X9; rw [List.getD_eq_getElem?_getD, hlj]; exact hn
    refine ⟨j, hjl, ?_⟩
    rw [hc] at hm
    have : Im l i j = true := by
      simp only [Im, Bool.or_eq_true, decide_eq_true_eq, Yo]
      rw [Iu] at hu
      rcases hu with ⟨e, _⟩ | hu
      · left
        have h1 := hlk i hi
        rw [e, ← hnj] at h1
        have h2 := B8.find ho (i := i) (c := l[i]) (List.getElem?_eq_getElem hi)
        have h3 : l[i].name = X9 l i := by unfold X9; rw [List.getD_eq_getElem?_getD, List.getElem?_eq_getElem hi]; rfl
        rw [h3, e, hj] at h2
        simpa using h2
      · right; rw [hnj]; exact hu
    rw [if_pos this, List.getD_eq_getElem?_getD, hlj]
    exact hm
theorem Q67 {l : List Cla} {i n : Nat} {m : Hm.Met} (h : m ∈ P9 l i n) (hn : n ≤ l.length) : ∃ c ∈ l, m ∈ c.methods := by
  unfold P9 at h
  simp only [List.mem_flatMap, List.mem_range] at h
  obtain ⟨k, hk, hm⟩ := h
  split at hm
  · have hk' : k < l.length := by omega
    rw [List.getD_eq_getElem?_getD, List.getElem?_eq_getElem hk'] at hm
    exact ⟨l[k], List.getElem_mem _, hm⟩
  · simp at hm
def F6 (ms : List Hm.Met) (x y : Nat) : Bool := decide ((ms.getD x Hm.Met.zero).name = (ms.getD y Hm.Met.zero).name) && !decide (K4 (ms.getD x Hm.Met.zero) = K4 (ms.getD y Hm.Met.zero))
theorem Ee {α : Type} {l : List α} {d : α} {n : Nat} (h : n < l.length) : l.getD n d = l[n] := by rw [List.getD_eq_getElem?_getD, List.getElem?_eq_getElem h]; rfl
theorem Q5O {ms : List Hm.Met} {x y : Nat} (hx : x < ms.length) (hy : y < ms.length) (h : F6 ms x y = true) : Wg ms = true := by
  unfold Wg
  rw [List.any_eq_true]
  refine ⟨ms[x], List.getElem_mem _, ?_⟩
  rw [List.any_eq_true]
  refine ⟨ms[y], List.getElem_mem _, ?_⟩
  unfold F6 at h
  rwa [Ee hx, Ee hy] at h
theorem Q6O {ms : List Hm.Met} (h : ∀ x y, x < ms.length → y < x → F6 ms x y = false) : Wg ms = false := by
  unfold Wg
  rw [List.any_eq_false]
  intro a ha
  rw [List.any_eq_true]
  rintro ⟨b, hb, hab⟩
  obtain ⟨x, hx, rfl⟩ := List.getElem_of_mem ha
  obtain ⟨y, hy, rfl⟩ := List.getElem_of_mem hb
  have sym : F6 ms y x = F6 ms x y := by
    unfold F6
    congr 1
    · rw [Bool.eq_iff_iff]; simp [eq_comm]
    · congr 1; rw [Bool.eq_iff_iff]; simp [eq_comm]
  have hov : F6 ms x y = true := by unfold F6; rw [Ee hx, Ee hy]; exact hab
  rcases Nat.lt_trichotomy x y with hlt | heq | hlt
  · rw [← sym, h y x hy hlt] at hov; cases hov
  · subst heq; simp [F6] at hov
  · rw [h x y hx hlt] at hov; cases hov
end Go.Hm
namespace Go.Proofs.YtdnfaboigajkhaaGreatDoor
open Go.Emb Go.RowKit Go.Kd Go.Hm
variable {w : World} {K : Value → World → Prop} {σ : Q6} {l : List Cla} {v : Value}
theorem Sy {c : Cla} (h : Xe c = false) : c.fields.length ≤ 32 ∧ c.methods.length ≤ 32 ∧ ∀ m ∈ c.methods, m.params.length ≤ 32 := by
  simp only [Xe, Bool.or_eq_false_iff, decide_eq_false_iff_not, List.any_eq_false] at h
  obtain ⟨⟨⟨h1, h2⟩, h3⟩, h4⟩ := h
  refine ⟨by omega, by omega, fun m hm => ?_⟩
  have := h1 m hm
  simp only [Ji, Bool.or_eq_true, decide_eq_true_eq, not_or] at this
  omega
set_option maxHeartbeats 8000000 in
theorem Q3s {i : Nat} (hs : X6 w σ) (hv : Sl 8 V0 σ v l) (ok : Ok l) (own : B8 l) (hlen : l.length ≤ 1000) (hmn : ∀ c ∈ l, Xe c = false) (hi : i < l.length)
    (h : ∀ w' σ', Stp w σ w' σ' → K (I (membersM l l[i])) w') : Q1 P F.aN [v, I i] w K := Eu (by
  unfold Jg
  obtain ⟨lv, fv, mv, p0, r0⟩ := hv.elC hi
  refine Z1 hv hi ?_
  refine Z0 hs p0 rfl ?_
  refine Y2 hs (by rfl) rfl (Rep.one r0) fun q w1 σ1 hk1 hq1 => ?_
  have r1 := R2 r0 ⟨hk1.le⟩
  obtain ⟨_, gf, gm, g4, _⟩ := r1.parts
  have hv1 := hv.up hk1
  have hnm := ok.nm _ (List.getElem_mem hi)
  have hcm := hmn _ (List.getElem_mem hi)
  have hname : X9 l i = l[i].name := Be hi
  generalize hcE : l[i] = c at *
  obtain ⟨mf, mm, mp⟩ := Sy hcm
  have e64 : B0 l c = true → membersM l c = 64 := fun e => by unfold membersM; simp [e]
  have e65 : B0 l c = false → D9 l c = true → membersM l c = 65 := fun e e2 => by unfold membersM; simp [e, e2]
  have e66 : B0 l c = false → D9 l c = false → F0 l c = true → membersM l c = 66 := fun e e2 e3 => by unfold membersM; simp [e, e2, e3]
  have e67 : B0 l c = false → D9 l c = false → F0 l c = false → Qc l c = true → membersM l c = 67 := fun e e2 e3 e4 => by unfold membersM; simp [e, e2, e3, e4]
  have e0 : B0 l c = false → D9 l c = false → F0 l c = false → Qc l c = false → membersM l c = 0 := fun e e2 e3 e4 => by unfold membersM; simp [e, e2, e3, e4]
  generalize membersM l c = R at *
  clear p0 r0 r1 hcm
  refine V7 c.fields.length (fun n w' => ∃ σ', Stp w σ w' σ' ∧ SLe σ1 σ' ∧ (c.fields.take n).any (fun f => (placeM l c.super f.name).isSome) = false) ⟨σ1, hk1, SLe.refl _, rfl⟩ fun n w2 d hn hinv => ?_
  obtain ⟨σ2, hS2, le2, hno⟩ := hinv
  have hq2 := hq1.lift le2
  have gf2 := gf.lift le2
  (try simp only [↓Mm, Mm, ↓Mr, Mr, Mb, reduceIte])
  refine ld hS2.sat hq2 rfl ?_
  refine Q7 gf2 ?_
  refine U0 ?_
  refine Q4 (fun hc => ?_) (fun hc => ?_)
  · have hn' : n < c.fields.length := by simpa using hc
    obtain ⟨pf, _⟩ := gf2.elF hn'
    have hs2 := hS2.sat
    refine W9 hs2 ?_
    (repeat (apply O3; (· intros; (repeat (rename_i hx; subst hx)); (repeat' (first | (with_reducible exact W2 rfl) | (with_reducible exact L4 (Stp.bel (by (repeat (first | exact Stp.refl (by (first | assumption | exact Stp.sat (by assumption) | exact Hst.sat (by assumption))) | assumption | refine Stp.trans ?_ (by first | assumption | exact Hst.stp (by assumption)))))) rfl) | (with_reducible intro _) | (simp only [↓Mm, Mm, ↓Mp, Mp, Mb, reduceIte])  | (with_reducible show Q2 _ _ _ _ _; first | refine X7 aS aL aR ?_ | refine Z0 aS aL aR ?_ | refine ld aS aL aR ?_) | (with_reducible show indexAddr _ _ _ _ _ _; refine Z1 aL au ?_) | (with_reducible show X5 _ _ _ _ _ _ _ _; refine Q7 aL ?_) | (with_reducible show R3 _ _ _ _ _ _; refine Z3 aR ?_) | (with_reducible show pick _ _ _ _ _ _; refine M2 ?_) | (apply M6; intro hh; (try simp only [hh, reduceIte, ↓Mm, Mm, ↓Mp, Mp, Mb, reduceIte])))); done)))
    (intros; (repeat (rename_i hx; subst hx)); (try simp only [↓Mm, Mm, ↓Mp, Mp, Mb, reduceIte]))
    rename_i w3 hb3
    refine Q5Q hb3.sat (hv.up (hS2.trans hb3.stp)) ok.acy hlen ok.sm fun w4 σ4 hk4 => ?_
    refine Yz ?_
    rw [F2]
    have hnx := M5 (p := fun f : Fld => (placeM l c.super f.name).isSome) hn'
    cases hp : (placeM l c.super c.fields[n].name).isSome with
    | true =>
      (try simp only [↓Mm, Mm, ↓Mr, Mr, Mb, reduceIte])
      rw [hp, Bool.or_true] at hnx
      have : R = 64 := e64 (R5 hn' hp)
      subst this
      exact h _ _ ((hS2.trans hb3.stp).trans hk4)
    | false =>
      (try simp only [↓Mm, Mm, ↓Mr, Mr, Mb, reduceIte])
      exact Z2 gf.max hn' ⟨σ4, (hS2.trans hb3.stp).trans hk4, le2.more ⟨(hb3.stp.trans hk4).le⟩, by rw [hnx, hno, hp]; rfl⟩
  have hA : B0 l c = false := by
    have hn' : ¬ n < c.fields.length := by simpa using hc
    rw [D0 hn'] at hno; exact hno
  clear hno hc hn e64
  refine Kc (R := U9) (e := T.b) hS2 (by decide) fun x3 w3 hk3 ha3 _ => ?_
  have hS3 := hS2.trans hk3
  refine O4 c.fields.length (fun n x w' => ∃ σ', Stp w σ w' σ' ∧ SLe σ1 σ' ∧ W3 w.heap.size T.b 1 U9 σ' w' x ((c.fields.take n).map (·.kind))) ⟨σ2, hS3, le2, ha3⟩ fun n x w4 d hn hinv => ?_
  obtain ⟨σ4, hS4, le4, ha4⟩ := hinv
  have hq4 := hq1.lift le4
  have gf4 := gf.lift le4
  (try simp only [↓Mm, Mm, ↓Mr, Mr, Mb, reduceIte])
  refine ld hS4.sat hq4 rfl ?_
  refine Q7 gf4 ?_
  refine U0 ?_
  refine Q4 (fun hc => ?_) (fun hc => ?_)
  · have hn' : n < c.fields.length := by simpa using hc
    obtain ⟨pf, rf⟩ := gf4.elF hn'
    have hkl := (hnm.2.1 _ (List.getElem_mem hn')).2
    (try simp only [↓Mm, Mm, ↓Mr, Mr, Mb, reduceIte])
    refine ld hS4.sat hq4 rfl ?_
    refine Z1 gf4 hn' ?_
    (try simp only [↓Mm, Mm, ↓Mr, Mr, Mb, reduceIte])
    refine ld hS4.sat pf rfl ?_
    refine Jb (R := U9) (x := c.fields[n].kind) hS4 ha4 ⟨rfl, Nat.le_trans hkl (by decide)⟩ rfl rfl rfl (by rw [List.length_map, List.length_take]; omega) (by rw [List.length_map, List.length_take]; omega) fun s v' w5 σ5 hnx hS5 ha5 _ => ?_
    (try simp only [↓Mm, Mm, ↓Mr, Mr, Mb, reduceIte])
    refine J0 gf.max hn' ⟨σ5, hS5, le4.more hnx.le, ?_⟩
    rw [List.take_add_one, List.getElem?_eq_getElem hn', List.map_append]
    exact ha5
  rw [List.take_of_length_le (by have : ¬ n < c.fields.length := by simpa using hc
                                 omega)] at ha4
  clear hc hn hk3 ha3 hS3 hS2 le2 hq2 gf2 hq4 gf4
  have hkl : ∀ n, (c.fields.map (·.kind) ++ (c.methods.take n).flatMap Qo).length ≤ 2000 := fun n => by
    have h1 := K5 Qo 33 (c.methods.take n) fun m hm => by
      have := mp m (List.mem_of_mem_take hm)
      unfold Qo
      split <;> simp <;> omega
    have h2 : (c.methods.take n).length ≤ 32 := by rw [List.length_take]; omega
    have h3 : (c.methods.take n).length * 33 ≤ 32 * 33 := Nat.mul_le_mul_right _ h2
    rw [List.length_append, List.length_map]; omega
  refine O4 c.methods.length (fun n x w' => ∃ σ', Stp w σ w' σ' ∧ SLe σ1 σ' ∧ W3 w.heap.size T.b 1 U9 σ' w' x (c.fields.map (·.kind) ++ (c.methods.take n).flatMap Qo)) ⟨σ4, hS4, le4, by simpa using ha4⟩ fun n x w5 d hn hinv => ?_
  clear ha4 hS4 le4
  obtain ⟨σ5, hS5, le5, ha5⟩ := hinv
  have hq5 := hq1.lift le5
  have gm5 := gm.lift le5
  have hkn := hkl n
  (try simp only [↓Mm, Mm, ↓Mr, Mr, Mb, reduceIte])
  refine ld hS5.sat hq5 rfl ?_
  refine Q7 gm5 ?_
  refine U0 ?_
  refine Q4 (fun hc => ?_) (fun hc => ?_)
  · have hn' : n < c.methods.length := by simpa using hc
    obtain ⟨pv, cv, hv', pm, rm⟩ := gm5.elM hn'
    obtain ⟨gp, _, _, _, gr, _⟩ := rm.parts
    have hpn := mp _ (List.getElem_mem hn')
    have hrl := (hnm.2.2 _ (List.getElem_mem hn')).1
    have hnx : (c.methods.take (n + 1)).flatMap Qo = (c.methods.take n).flatMap Qo ++ Qo c.methods[n] := by
      rw [List.take_add_one, List.getElem?_eq_getElem hn', List.flatMap_append]; simp
    refine V4 ?_
    (try simp only [↓Mm, Mm, ↓Mr, Mr, Mb, reduceIte])
    refine ld hS5.sat hq5 rfl ?_
    refine Z1 gm5 hn' ?_
    (try simp only [↓Mm, Mm, ↓Mr, Mr, Mb, reduceIte])
    refine ld hS5.sat pm rfl ?_
    refine Nh hS5 ha5 gp rfl (by omega) (by omega) fun v6 w6 hn6 hS6 ha6 _ => ?_
    (try simp only [↓Mm, Mm, ↓Mr, Mr, Mb, reduceIte])
    refine ld hS6.sat hq5 rfl ?_
    refine Z1 gm5 hn' ?_
    (try simp only [↓Mm, Mm, ↓Mr, Mr, Mb, reduceIte])
    refine ld hS6.sat pm rfl ?_
    refine Ek ?_
    by_cases he : c.methods[n].result = []
    · simp only [he, decide_true, Bool.not_true, ↓Mm, Mm, ↓Mr, Mr, Mb, reduceIte]
      intro d
      refine J0 gm.max hn' ⟨σ5, hS6, le5, ?_⟩
      rw [hnx]
      unfold Qo
      rw [if_pos he, List.append_nil, ← List.append_assoc]
      exact ha6
    · simp only [he, decide_false, Bool.not_false, ↓Mm, Mm, ↓Mr, Mr, Mb, reduceIte]
      refine ld hS6.sat hq5 rfl ?_
      refine Z1 gm5 hn' ?_
      (try simp only [↓Mm, Mm, ↓Mr, Mr, Mb, reduceIte])
      refine ld hS6.sat pm rfl ?_
      refine Jb (R := U9) (x := c.methods[n].result) hS6 ha6 ⟨rfl, Nat.le_trans hrl (by decide)⟩ rfl rfl rfl (by rw [List.length_append]; omega) (by rw [List.length_append]; omega) fun s v' w7 σ7 hn7 hS7 ha7 _ => ?_
      intro d
      (try simp only [↓Mm, Mm, ↓Mr, Mr, Mb, reduceIte])
      refine J0 gm.max hn' ⟨σ7, hS7, le5.more hn7.le, ?_⟩
      rw [hnx]
      unfold Qo at ha7 ⊢
      rw [if_neg he]
      simpa only [List.append_assoc] using ha7
  rw [List.take_of_length_le (by have : ¬ n < c.methods.length := by simpa using hc
                                 omega)] at ha5
  have hkn := hkl c.methods.length
  rw [List.take_of_length_le (Nat.le_refl _)] at hkn
  have hkE : D9 l c = (Xu c).any (fun s => !thereM l s) := Q5p.symm
  have hkb : ∀ s ∈ Xu c, s.length ≤ V9 := fun s hs => by
    unfold Xu at hs
    rcases List.mem_append.1 hs with hs | hs
    · obtain ⟨f, hf, rfl⟩ := List.mem_map.1 hs
      exact Nat.le_trans (hnm.2.1 f hf).2 (by decide)
    · obtain ⟨m, hm, hs⟩ := List.mem_flatMap.1 hs
      unfold Qo at hs
      rcases List.mem_append.1 hs with hs | hs
      · exact Nat.le_trans ((hnm.2.2 m hm).2 s hs) (by decide)
      · split at hs
        · simp at hs
        · simp at hs; subst hs; exact Nat.le_trans (hnm.2.2 m hm).1 (by decide)
  obtain ⟨σ6, hS6, hv6, lee6, _⟩ := ha5.keep hS5
  have le6 := le5.more ⟨lee6⟩
  clear ha5 hq5 gm5 hc hn
  change Sl 1 U9 σ6 x (Xu c) at hv6
  refine V7 (Xu c).length (fun n w' => Stp w σ w' σ6 ∧ ((Xu c).take n).any (fun s => !thereM l s) = false) ⟨hS6, rfl⟩ fun n w7 d hn hinv => ?_
  obtain ⟨hS7, hno⟩ := hinv
  refine Q7 hv6 ?_
  refine U0 ?_
  refine Q4 (fun hc => ?_) (fun hc => ?_)
  · have hn' : n < (Xu c).length := by simpa using hc
    refine Z1 hv6 hn' ?_
    obtain ⟨pk, _⟩ := hv6.elS hn'
    refine X7 hS7.sat pk rfl ?_
    refine Q61 hS7.sat (hv.up hS7) (hkb _ (List.getElem_mem hn')) ?_
    have hnx := M5 (p := fun s => !thereM l s) hn'
    cases hp : thereM l (Xu c)[n] with
    | false =>
      (try simp only [↓Mm, Mm, ↓Mr, Mr, Mb, reduceIte])
      have : R = 65 := e65 hA (by rw [hkE]; exact R5 hn' (by simp [hp]))
      subst this
      exact h _ _ hS7
    | true =>
      (try simp only [↓Mm, Mm, ↓Mr, Mr, Mb, reduceIte])
      exact Z2 hv6.max hn' ⟨hS7, by rw [hnx, hno, hp]; rfl⟩
  have hB : D9 l c = false := by
    have hn' : ¬ n < (Xu c).length := by simpa using hc
    rw [D0 hn'] at hno; rw [hkE]; exact hno
  clear hno hc hn e65 hkE hkb hkn hkl hS5 le5 lee6 hv6
  refine Kn hS7.sat (hv.up hS7) own (by omega) hlen ok.sm fun vb w8 σ8 hk8 hb8 => ?_
  have hS8 := hS7.trans hk8
  refine Kc (R := M8) (e := T.c) hS8 (by decide) fun x9 w9 hk9 ha9 _ => ?_
  have hml : ∀ n, n ≤ l.length → (P9 l i n).length ≤ 32000 := fun n hn => by
    unfold P9
    have h1 := K5 (fun k => if Im l i k then (l.getD k Cla.zero).methods else []) 32 (List.range n) fun k hk => by
      have hk' : k < l.length := by have := List.mem_range.1 hk; omega
      split
      · rw [Ee hk']; exact (Sy (hmn _ (List.getElem_mem _))).2.1
      · simp
    rw [List.length_range] at h1
    have h3 : n * 32 ≤ 1000 * 32 := Nat.mul_le_mul_right _ (by omega)
    omega
  have hbl : (S1 l).length = l.length := by simp [S1]
  refine O4 l.length (fun n x w' => ∃ σ', Stp w σ w' σ' ∧ SLe σ1 σ' ∧ SLe σ8 σ' ∧ W3 w.heap.size T.c 7 M8 σ' w' x (P9 l i n)) ⟨σ8, hS8.trans hk9, le6.more ⟨hk8.le⟩, SLe.refl _, ha9⟩ fun n x w10 d hn hinv => ?_
  clear ha9 hk9 hS7 hS8 le6 hS6 hk8
  obtain ⟨σ10, hS10, le10, leb, ha10⟩ := hinv
  have hv10 := hv.up hS10
  refine Q7 hv10 ?_
  refine U0 ?_
  refine Q4 (fun hc => ?_) (fun hc => ?_)
  · have hn' : n < l.length := by simpa using hc
    have hmn1 := hml n hn
    have hsuc := Q4s (l := l) (i := i) (n := n)
    rw [Ee hn'] at hsuc
    obtain ⟨lv2, fv2, mv2, p2, r2⟩ := hv10.elC hn'
    obtain ⟨_, _, g3, _, _⟩ := r2.parts
    have hmn2 := (Sy (hmn _ (List.getElem_mem hn'))).2.1
    refine Vv (fun z w' => Stp w σ w' σ10 ∧ W3 w.heap.size T.c 7 M8 σ10 w' z (P9 l i (n + 1))) ?_ (fun z d w' hz => ?_)
    · refine Q1P ?_
      have happ : ∀ {J : Value → World → Prop}, Im l i n = true → (∀ z w', Stp w σ w' σ10 → W3 w.heap.size T.c 7 M8 σ10 w' z (P9 l i (n + 1)) → J z w') →
          X5 P .append [T.e, T.e] T.e [false, false] [x, mv2] w10 J := fun hu hJ =>
        Nh hS10 ha10 g3 rfl (by omega) (by omega) fun v' w' _ hS' ha' _ => hJ v' w' hS' (by rw [hsuc, if_pos hu]; exact ha')
      by_cases e : n = i
      · have e1 : decide ((n : Int) = (i : Int)) = true := by simp [e]
        rw [e1]
        (try simp only [↓Mm, Mm, ↓Mr, Mr, Mb, reduceIte])
        refine Z1 hv10 hn' ?_
        (try simp only [↓Mm, Mm, ↓Mr, Mr, Mb, reduceIte])
        refine ld hS10.sat p2 rfl ?_
        exact happ (by simp [Im, e]) fun z w' h1 h2 => ⟨h1, h2⟩
      · have e1 : decide ((n : Int) = (i : Int)) = false := by rw [decide_eq_false_iff_not]; omega
        rw [e1]
        obtain ⟨cs1, pb, _, rv, rfl, rb⟩ := (hb8.lift leb).el (i := i) (by rw [hbl]; exact hi)
        have hrow : (S1 l)[i]'(by rw [hbl]; exact hi) = (List.range l.length).map fun j => P5 l (X9 l i) (X9 l j) := by simp [S1]
        rw [hrow] at rb
        obtain ⟨cs2, pb2, _, hcs2⟩ := rb.el (i := n) (by simpa using hn')
        have hcs2 : cs2 = _ := hcs2
        subst hcs2
        simp only [List.getElem_map, List.getElem_range] at pb2
        (try simp only [↓Mm, Mm, ↓Mr, Mr, Mb, reduceIte])
        refine Z1 (hb8.lift leb) (by rw [hbl]; exact hi) ?_
        refine X7 hS10.sat pb rfl ?_
        refine Z1 rb (by simpa using hn') ?_
        refine X7 hS10.sat pb2 rfl ?_
        (try simp only [↓Mm, Mm, ↓Mr, Mr, Mb, reduceIte])
        cases ho : P5 l (X9 l i) (X9 l n) with
        | true =>
          (try simp only [↓Mm, Mm, ↓Mr, Mr, Mb, reduceIte])
          refine Z1 hv10 hn' ?_
          (try simp only [↓Mm, Mm, ↓Mr, Mr, Mb, reduceIte])
          refine ld hS10.sat p2 rfl ?_
          exact happ (by simp [Im, ho]) fun z w' h1 h2 => ⟨h1, h2⟩
        | false =>
          (try simp only [↓Mm, Mm, ↓Mr, Mr, Mb, reduceIte])
          refine ⟨hS10, ?_⟩
          have : Im l i n = false := by simp [Im, ho, e]
          rw [hsuc, this]
          simpa using ha10
    · obtain ⟨hS', ha'⟩ := hz
      (try simp only [↓Mm, Mm, ↓Mr, Mr, Mb, reduceIte])
      exact J0 (by omega) hn' ⟨σ10, hS', le10, leb, ha'⟩
  have hn0 : n = l.length := by have : ¬ n < l.length := by simpa using hc
                                omega
  subst hn0
  obtain ⟨σ11, hS11, hv11, lee11, _⟩ := ha10.keep hS10
  have le11 := le10.more ⟨lee11⟩
  have hml2 := hml _ (Nat.le_refl l.length)
  have hov : F0 l c = Wg (P9 l i l.length) := by
    unfold F0
    refine (Q3E fun m => ?_).symm
    rw [Q0V own hi, hname]
  have hlk : Qc l c = (!c.abs && (P9 l i l.length).any fun m => G3 l c.name m.name) := by
    unfold Qc
    congr 1
    refine (Q6w fun m => ?_).symm
    rw [Q0V own hi, hname]
  have hsn : ∀ m ∈ P9 l i l.length, SmM m ∧ NmM m := fun m hm => by
    obtain ⟨c2, hc2, hm2⟩ := Q67 hm (Nat.le_refl _)
    exact ⟨(ok.sm c2 hc2).2.2.2 m hm2, (ok.nm c2 hc2).2.2 m hm2⟩
  generalize P9 l i l.length = ms at hov hlk hsn hml2 hv11
  clear ha10 lee11 hS10 le10 leb hv10 hml hc hb8 hbl
  refine V7 ms.length (fun n w' => ∃ σ', Stp w σ w' σ' ∧ SLe σ11 σ' ∧ ∀ a b, a < n → b < a → F6 ms a b = false) ⟨σ11, hS11, SLe.refl _, fun a b h => by omega⟩ fun n w12 d hn hinv => ?_
  obtain ⟨σ12, hS12, le12, hno⟩ := hinv
  have hv12 := hv11.lift le12
  refine Q7 hv12 ?_
  refine U0 ?_
  refine Q4 (fun hc => ?_) (fun hc => ?_)
  · have hn' : n < ms.length := by simpa using hc
    refine V7 n (fun m w' => ∃ σ', Stp w σ w' σ' ∧ SLe σ11 σ' ∧ ∀ b, b < m → F6 ms n b = false) ⟨σ12, hS12, le12, fun b h => by omega⟩ fun m w13 d hm hinv => ?_
    obtain ⟨σ13, hS13, le13, hno2⟩ := hinv
    have hv13 := hv11.lift le13
    refine U0 ?_
    refine Q4 (fun hc => ?_) (fun hc => ?_)
    · have hm' : m < n := by simpa using hc
      have hm2 : m < ms.length := by omega
      obtain ⟨pv1, cv1, hv1', pn, rn⟩ := hv13.elM hn'
      obtain ⟨pv2, cv2, hv2', pm, rm⟩ := hv13.elM hm2
      obtain ⟨sn1, sn2⟩ := hsn _ (List.getElem_mem hn')
      obtain ⟨sm1, sm2⟩ := hsn _ (List.getElem_mem hm2)
      have hat : F6 ms n m = (decide (ms[n].name = ms[m].name) && !decide (K4 ms[n] = K4 ms[m])) := by
        unfold F6; rw [Ee hn', Ee hm2]
      have hs13 := hS13.sat
      have hnx : F6 ms n m = false → ∀ b, b < m + 1 → F6 ms n b = false := fun e b hb => by
        by_cases e2 : b = m
        · subst e2; exact e
        · exact hno2 b (by omega)
      refine W9 hs13 ?_
      (repeat (apply O3; (· intros; (repeat (rename_i hx; subst hx)); (repeat' (first | (with_reducible exact W2 rfl) | (with_reducible exact L4 (Stp.bel (by (repeat (first | exact Stp.refl (by (first | assumption | exact Stp.sat (by assumption) | exact Hst.sat (by assumption))) | assumption | refine Stp.trans ?_ (by first | assumption | exact Hst.stp (by assumption)))))) rfl) | (with_reducible intro _) | (simp only [↓Mm, Mm, ↓Mp, Mp, Mb, reduceIte])  | (with_reducible show Q2 _ _ _ _ _; first | refine X7 aS aL aR ?_ | refine Z0 aS aL aR ?_ | refine ld aS aL aR ?_) | (with_reducible show indexAddr _ _ _ _ _ _; refine Z1 aL au ?_) | (with_reducible show X5 _ _ _ _ _ _ _ _; refine Q7 aL ?_) | (with_reducible show R3 _ _ _ _ _ _; refine Z3 aR ?_) | (with_reducible show pick _ _ _ _ _ _; refine M2 ?_) | (apply M6; intro hh; (try simp only [hh, reduceIte, ↓Mm, Mm, ↓Mp, Mp, Mb, reduceIte])))); done)))
      by_cases he : ms[n].name = ms[m].name
      · have hd : decide (ms[n].name = ms[m].name) = true := by simp [he]
        simp only [hd, reduceIte]
        (repeat (apply O3; (· intros; (repeat (rename_i hx; subst hx)); (repeat' (first | (with_reducible exact W2 rfl) | (with_reducible exact L4 (Stp.bel (by (repeat (first | exact Stp.refl (by (first | assumption | exact Stp.sat (by assumption) | exact Hst.sat (by assumption))) | assumption | refine Stp.trans ?_ (by first | assumption | exact Hst.stp (by assumption)))))) rfl) | (with_reducible intro _) | (simp only [↓Mm, Mm, ↓Mp, Mp, Mb, reduceIte])  | (with_reducible show Q2 _ _ _ _ _; first | refine X7 aS aL aR ?_ | refine Z0 aS aL aR ?_ | refine ld aS aL aR ?_) | (with_reducible show indexAddr _ _ _ _ _ _; refine Z1 aL au ?_) | (with_reducible show X5 _ _ _ _ _ _ _ _; refine Q7 aL ?_) | (with_reducible show R3 _ _ _ _ _ _; refine Z3 aR ?_) | (with_reducible show pick _ _ _ _ _ _; refine M2 ?_) | (with_reducible show Q1 _ _ _ _ _; first | refine Q2L au au au au ?_) | (apply M6; intro hh; (try simp only [hh, reduceIte, ↓Mm, Mm, ↓Mp, Mp, Mb, reduceIte])))); done)))
        (intros; (repeat (rename_i hx; subst hx)); (try simp only [↓Mm, Mm, ↓Mp, Mp, Mb, reduceIte]))
        rename_i w14 hb14
        refine Q2L hb14.sat rm sm1 sm2 fun w15 σ15 hk15 => ?_
        refine Ek ?_
        (try simp only [↓Mm, Mm, ↓Mr, Mr, Mb, reduceIte])
        have hS15 := (hS13.trans hb14.stp).trans hk15
        by_cases hsg : K4 ms[n] = K4 ms[m]
        · simp only [hsg, decide_true, Bool.not_true, ↓Mm, Mm, ↓Mr, Mr, Mb, reduceIte]
          refine Z2 (by omega) hm' ⟨σ15, hS15, le13.more ⟨(hb14.stp.trans hk15).le⟩, hnx ?_⟩
          rw [hat, hsg]; simp
        · simp only [hsg, decide_false, Bool.not_false, ↓Mm, Mm, ↓Mr, Mr, Mb, reduceIte]
          have : R = 66 := e66 hA hB (by rw [hov]; exact Q5O hn' hm2 (by rw [hat]; simp [he, hsg]))
          subst this
          exact h _ _ hS15
      · have hd : decide (ms[n].name = ms[m].name) = false := by simp [he]
        simp only [hd, Bool.false_eq_true, reduceIte]
        (repeat (apply O3; (· intros; (repeat (rename_i hx; subst hx)); (repeat' (first | (with_reducible exact W2 rfl) | (with_reducible exact L4 (Stp.bel (by (repeat (first | exact Stp.refl (by (first | assumption | exact Stp.sat (by assumption) | exact Hst.sat (by assumption))) | assumption | refine Stp.trans ?_ (by first | assumption | exact Hst.stp (by assumption)))))) rfl) | (with_reducible intro _) | (simp only [↓Mm, Mm, ↓Mp, Mp, Mb, reduceIte])  | (with_reducible show Q2 _ _ _ _ _; first | refine X7 aS aL aR ?_ | refine Z0 aS aL aR ?_ | refine ld aS aL aR ?_) | (with_reducible show indexAddr _ _ _ _ _ _; refine Z1 aL au ?_) | (with_reducible show X5 _ _ _ _ _ _ _ _; refine Q7 aL ?_) | (with_reducible show R3 _ _ _ _ _ _; refine Z3 aR ?_) | (with_reducible show pick _ _ _ _ _ _; refine M2 ?_) | (apply M6; intro hh; (try simp only [hh, reduceIte, ↓Mm, Mm, ↓Mp, Mp, Mb, reduceIte])))); done)))
        (intros; (repeat (rename_i hx; subst hx)); (try simp only [↓Mm, Mm, ↓Mp, Mp, Mb, reduceIte]))
        rename_i w14 hb14
        (try simp only [↓Mm, Mm, ↓Mr, Mr, Mb, reduceIte])
        refine Z2 (by omega) hm' ⟨σ13, hS13.trans hb14.stp, le13, hnx ?_⟩
        rw [hat]; simp [he]
    · have hm0 : m = n := by have : ¬ m < n := by simpa using hc
                             omega
      subst hm0
      (try simp only [↓Mm, Mm, ↓Mr, Mr, Mb, reduceIte])
      refine Z2 hv11.max hn' ⟨σ13, hS13, le13, fun a b ha hb => ?_⟩
      by_cases e : a = m
      · subst e; exact hno2 b hb
      · exact hno a b (by omega) hb
  have hC : F0 l c = false := by
    rw [hov]
    have : ¬ n < ms.length := by simpa using hc
    exact Q6O fun x y hx hy => hno x y (by omega) hy
  clear hno hc hn hv12 hov e66
  refine V7 ms.length (fun n w' => ∃ σ', Stp w σ w' σ' ∧ SLe σ11 σ' ∧ (c.abs = true → n = 0) ∧ (ms.take n).any (fun m => G3 l c.name m.name) = false) ⟨σ12, hS12, le12, fun _ => rfl, rfl⟩ fun n w13 d hn hinv => ?_
  clear hS12 le12
  obtain ⟨σ13, hS13, le13, hab, hno⟩ := hinv
  have hv13 := hv11.lift le13
  have hq13 := hq1.lift (le11.more le13)
  refine Q7 hv13 ?_
  refine U0 ?_
  by_cases hn' : n < ms.length
  · have e1 : decide ((n : Int) < (ms.length : Int)) = true := by simpa using hn'
    rw [e1]
    (try simp only [↓Mm, Mm, ↓Mr, Mr, Mb, reduceIte])
    refine ld hS13.sat hq13 rfl ?_
    refine U3 ?_
    (try simp only [↓Mm, Mm, ↓Mr, Mr, Mb, reduceIte])
    cases hca : c.abs with
    | true =>
      (try simp only [↓Mm, Mm, ↓Mr, Mr, Mb, reduceIte])
      have : R = 0 := e0 hA hB hC (by rw [hlk, hca]; rfl)
      subst this
      exact h _ _ hS13
    | false =>
      (try simp only [↓Mm, Mm, ↓Mr, Mr, Mb, reduceIte])
      obtain ⟨pvn, cvn, hvn, pn, rn⟩ := hv13.elM hn'
      have hs13 := hS13.sat
      have hnx := M5 (p := fun m : Hm.Met => G3 l c.name m.name) hn'
      have hla : G3 l c.name ms[n].name = (!(methodM l c.name ms[n].name).isSome || (o2 (methodM l c.name ms[n].name)).abs) := by
        unfold G3
        cases methodM l c.name ms[n].name <;> rfl
      generalize hF : (fun o : Option Obj => ∃ cs : List Value, ∃ e, o = some (.cells cs.toArray e (0, 0)) ∧ cs.length = 7 ∧ cs[3]? = some (.bool (o2 (methodM l c.name ms[n].name)).abs)) = F
      have hFn : ¬ F none := by rw [← hF]; rintro ⟨_, _, h, _⟩; cases h
      refine Q8f F hs13 ?_
      (repeat (apply O3; (· intros; (repeat (rename_i hx; subst hx)); (repeat' (first | (with_reducible exact Q2h rfl) | (with_reducible exact Q7w (Stp.bel (by (repeat (first | exact Stp.refl (by (first | assumption | exact Stp.sat (by assumption) | exact Hst.sat (by assumption))) | assumption | refine Stp.trans ?_ (by first | assumption | exact Hst.stp (by assumption)))))) rfl) | (with_reducible intro _) | (simp only [↓Mm, Mm, ↓Mp, Mp, Mb, reduceIte]) | (with_reducible show Q2 _ _ _ _ _; first | refine X7 aS aL aR ?_ | refine Z0 aS aL aR ?_ | refine ld aS aL aR ?_) | (with_reducible show indexAddr _ _ _ _ _ _; refine Z1 aL au ?_) | (with_reducible show X5 _ _ _ _ _ _ _ _; refine Q7 aL ?_) | (with_reducible show R3 _ _ _ _ _ _; refine Z3 aR ?_) | (with_reducible show pick _ _ _ _ _ _; refine M2 ?_))); done)))
      refine N9 (fun v _ => ∃ s, ∃ ds : List Value, v = .tuple #[s, .agg ds.toArray, .bool (methodM l c.name ms[n].name).isSome] ∧ ds.length = 7 ∧ ds[3]? = some (.bool (o2 (methodM l c.name ms[n].name)).abs) ∧ ∀ u ∈ ds, u.oneCell' = true) (fun _ _ _ h _ => h) (fun t180 t185 w hb e1 e2 => ?_) ?_
      · subst e1; subst e2
        refine Q4Q hb.sat (hv.up (hS13.trans hb.stp)) ok fun pv cv hv w' σ' hk hr => ⟨.of_below hk.bel, _, _, rfl, rfl, rfl, Rep.one hr⟩
      refine N9 (fun _ _ => True) (fun _ _ _ _ _ => trivial) (fun t186 w hb e => ?_) ?_
      · obtain ⟨s, ds, rfl, _⟩ := e
        exact M4 (vs := [_, _, _]) rfl ⟨.of_below (Below.refl _ _), trivial⟩
      refine N9 (fun v _ => ∃ ds : List Value, v = .agg ds.toArray ∧ ds.length = 7 ∧ ds[3]? = some (.bool (o2 (methodM l c.name ms[n].name)).abs) ∧ ∀ u ∈ ds, u.oneCell' = true) (fun _ _ _ h _ => h) (fun t186 w hb e => ?_) ?_
      · obtain ⟨s, ds, rfl, h7⟩ := e
        exact M4 (vs := [_, _, _]) rfl ⟨.of_below (Below.refl _ _), ds, rfl, h7⟩
      refine O3 (V := .bool (methodM l c.name ms[n].name).isSome) (fun t186 w hb e => ?_) ?_
      · obtain ⟨s, ds, rfl, h7⟩ := e
        exact M4 (vs := [_, _, _]) rfl (Q2h rfl)
      refine N9 (Q8e w13.heap.size 7 F) (Q4f hFn) (fun w hb => ?_) ?_
      · exact Ct hb.sat fun b w' hb2 hk hm => ⟨.of_below hk.bel, b, rfl, Nat.le_trans hb.stp.bel.size hb2, .inl ⟨_, hm.2.choose, rfl, hm.2.choose_spec⟩⟩
      refine Q7K (fun xs _ w => Q8G w13.heap.size F (xs.headD undef) w) (fun xs _ w w' h hT => Q4V hFn _ w w' h hT) (fun t18 t188 w hb e1 e2 => ?_) ?_
      · obtain ⟨g, rfl, hg, hd⟩ := e1
        obtain ⟨ds, rfl, h7, h3, h1⟩ := e2
        obtain ⟨cs, e, hl7, hh⟩ : ∃ cs : List Value, ∃ e, cs.length = 7 ∧ w.heap[g]? = some (.cells cs.toArray e (0, 0)) := by
          rcases hd with h | h
          · exact h
          · rw [← hF] at h
            obtain ⟨cs, e, h4, h5, _⟩ := h
            exact ⟨cs, e, h5, h4⟩
        refine sta (σ := fun _ => none) (cs := cs) (ds := ds) ⟨rfl, e, hh⟩ hl7 h7 (by rw [List.all_toArray]; exact List.all_eq_true.2 h1) fun w' hu hm => ?_
        have hFg : F (w'.heap[g]?) := by
          obtain ⟨_, e', hm'⟩ := hm
          rw [hm', ← hF]
          exact ⟨ds, e', rfl, h7, h3⟩
        exact ⟨FinT.of_upd hu hg hFg, g, rfl, hg, hFg⟩
      rintro t179 t183 t184 t180 t185 t186 t187 t188 t189 t18 u15 w14 hb14 rfl rfl rfl rfl rfl _ _ _ rfl _ ⟨g, e, hg, hd⟩
      have e : t18 = _ := e
      subst e
      rw [← hF] at hd
      obtain ⟨cs, ty, hh, hl7, h3⟩ := hd
      have hS14 := hS13.trans hb14.stp
      refine U3 ?_
      cases hsm : (methodM l c.name ms[n].name).isSome with
      | false =>
        (try simp only [↓Mm, Mm, ↓Mr, Mr, Mb, reduceIte])
        have : R = 67 := e67 hA hB hC (by rw [hlk, hca]; exact R5 hn' (by rw [hla, hsm]; rfl))
        subst this
        exact h _ _ hS14
      | true =>
        (try simp only [↓Mm, Mm, ↓Mr, Mr, Mb, reduceIte])
        refine ldm (σ := fun _ => none) ⟨rfl, ty, hh⟩ h3 ?_
        (try simp only [↓Mm, Mm, ↓Mr, Mr, Mb, reduceIte])
        cases hma : (o2 (methodM l c.name ms[n].name)).abs with
        | true =>
          (try simp only [↓Mm, Mm, ↓Mr, Mr, Mb, reduceIte])
          have : R = 67 := e67 hA hB hC (by rw [hlk, hca]; exact R5 hn' (by rw [hla, hma, Bool.or_true]))
          subst this
          exact h _ _ hS14
        | false =>
          (try simp only [↓Mm, Mm, ↓Mr, Mr, Mb, reduceIte])
          refine Z2 hv11.max hn' ⟨σ13, hS14, le13, fun e => False.elim (by simpa using e), ?_⟩
          rw [hnx, hno, hla, hsm, hma]; rfl
  · have e1 : decide ((n : Int) < (ms.length : Int)) = false := by simpa using hn'
    rw [e1]
    (try simp only [↓Mm, Mm, ↓Mr, Mr, Mb, reduceIte])
    rw [D0 hn'] at hno
    have : R = 0 := e0 hA hB hC (by rw [hlk, hno, Bool.and_false])
    subst this
    exact h _ _ hS13)
end Go.Proofs.YtdnfaboigajkhaaGreatDoor

namespace Go.Proofs.YtdnfaboigajkhaaGreatDoor
open Go.Emb Go.RowKit Go.Kd Go.Hm
variable {w : World} {K : Value → World → Prop} {σ : Q6} {v : Value}
def Q0n : List Cla := [⟨U1, [], [], false, false, false, [], []⟩, ⟨W6, U1, [], false, false, false, [⟨K3, C6, false⟩], []⟩]
def gMk (n : X0) : Cla := ⟨n, W6, [], false, false, true, [], []⟩
theorem Q3q : R1 = Q0n ++ U7.map gMk := rfl
theorem Q5T (hs : X6 w σ) (h : ∀ v' w' σ', Stp w σ w' σ' → W3 w.heap.size T.a 8 V0 σ' w' v' R1 → K v' w') : Q1 P F.aZ [] w K := Se (by
  unfold Vg
  refine G0 (cells := #[S U1, S [], .slice none 0 0, .bool false, .bool false, .bool false, .slice none 0 0, .slice none 0 0]) (by kernel_rfl) ?_
  refine G0 (cells := #[S K3, S C6, .bool false]) (by kernel_rfl) ?_
  refine Mw (R := D5) (sz := 3) hs [.agg #[S K3, S C6, .bool false]] [⟨K3, C6, false⟩] rfl rfl (by simp; rfl) rfl ⟨⟨rfl, by decide, by decide⟩, trivial⟩ fun v1 w1 σ1 hk1 hv1 => ?_
  have hv1' := hv1
  obtain ⟨a1, cap1, rfl, _⟩ := hv1'
  refine G0 (cells := #[S W6, S U1, .slice none 0 0, .bool false, .bool false, .bool false, .slice a1 1 cap1, .slice none 0 0]) (by kernel_rfl) ?_
  refine Qq (R := V0) (sz := 8) hk1 [.agg #[S U1, S [], .slice none 0 0, .bool false, .bool false, .bool false, .slice none 0 0, .slice none 0 0], .agg #[S W6, S U1, .slice none 0 0, .bool false, .bool false, .bool false, .slice a1 1 cap1, .slice none 0 0]]
    Q0n rfl rfl (by simp; exact ⟨rfl, rfl⟩) rfl ⟨⟨_, _, _, rfl, Sl.nil, Sl.nil, Sl.nil, by decide, by decide⟩, ⟨_, _, _, rfl, Sl.nil, hv1, Sl.nil, by decide, by decide⟩, trivial⟩ fun v2 w2 hk2 ha2 _ => ?_
  refine Mw (R := U9) (sz := 1) hk2.sat (U7.map S) U7 rfl rfl (by decide) rfl ⟨⟨rfl, by decide⟩, ⟨rfl, by decide⟩, ⟨rfl, by decide⟩, ⟨rfl, by decide⟩, ⟨rfl, by decide⟩, ⟨rfl, by decide⟩, trivial⟩ fun v3 w3 σ3 hk3 hv3 => ?_
  have hS3 := (hk1.trans hk2).trans hk3
  have hlf : U7.length = 6 := rfl
  refine O4 U7.length (fun n x w' => ∃ σ', Stp w σ w' σ' ∧ SLe σ3 σ' ∧ W3 w.heap.size T.a 8 V0 σ' w' x (Q0n ++ (U7.take n).map gMk)) ⟨σ3, hS3, SLe.refl _, ha2.up hk3⟩ fun n x w4 d hn hinv => ?_
  obtain ⟨σ4, hS4, le4, ha4⟩ := hinv
  refine Q7 (hv3.lift le4) ?_
  refine U0 ?_
  refine Q4 (fun hc => ?_) (fun hc => ?_)
  · have hn' : n < U7.length := by simpa using hc
    have hv4 := hv3.lift le4
    refine Z1 hv4 hn' ?_
    obtain ⟨p1, p2⟩ := hv4.elS hn'
    refine X7 hS4.sat p1 rfl ?_
    have hle : (Q0n ++ (U7.take n).map gMk).length ≤ 8 := by
      rw [List.length_append, List.length_map, List.length_take, show Q0n.length = 2 from rfl]; omega
    have htk : (U7.take (n + 1)).map gMk = (U7.take n).map gMk ++ [gMk U7[n]] := by
      rw [List.take_add_one, List.getElem?_eq_getElem hn', List.map_append]; rfl
    generalize U7[n] = nm at p2 htk
    refine G0 (cells := #[S nm, S W6, .slice none 0 0, .bool false, .bool false, .bool true, .slice none 0 0, .slice none 0 0]) (by kernel_rfl) ?_
    have hr : V0 σ4 (gMk nm) [S nm, S W6, .slice none 0 0, .bool false, .bool false, .bool true, .slice none 0 0, .slice none 0 0] := ⟨_, _, _, rfl, Sl.nil, Sl.nil, Sl.nil, p2, (by decide : W6.length ≤ V9)⟩
    refine Jb (x := gMk nm) hS4 ha4 hr rfl rfl rfl (by omega) (by omega) fun s v' w5 σ5 hn5 hS5 ha5 _ => ?_
    refine O8 ?_
    refine J0 (by omega) hn' ⟨σ5, hS5, le4.more hn5.le, ?_⟩
    rw [htk, ← List.append_assoc]; exact ha5
  · have hn' : ¬ n < U7.length := by simpa using hc
    rw [List.take_of_length_le (by omega), ← Q3q] at ha4
    exact h _ _ _ hS4 ha4)
end Go.Proofs.YtdnfaboigajkhaaGreatDoor

namespace Go.Proofs.YtdnfaboigajkhaaGreatDoor
open Go.Emb Go.RowKit Go.Kd Go.Hm
variable {w : World} {K : Value → World → Prop} {σ : Q6} {l : List Cla} {v : Value}
theorem Q7A {w0 : World} {σ0 : Q6} {frm : Nat} (ha : Qw l) (ho : B8 l) (hl : l.length ≤ 1000) (hsm : ∀ c ∈ l, K2 c) (hf : 0 < frm) (hup : ∀ i (hi : i < l.length), frm ≤ i → ∀ u ∈ U5 l[i], ∃ j, Y3 l u = some j) : ∀ (k : Nat) {i : Nat} {out : List Nat} {x : Value} {w : World} {σ : Q6} {K : Value → World → Prop}, i < l.length → H9 l (X9 l i) < k → Ko l out → Stp w0 σ0 w σ → Sl 8 V0 σ v l → W3 w0.heap.size T.d 1 Js σ w x (G7 out) →
    (∀ x' w' σ', Stp w0 σ0 w' σ' → SLe σ σ' → W3 w0.heap.size T.d 1 Js σ' w' x' (G7 (T6 l frm out i)) → K x' w') → Q1 P F.aI [v, x, I frm, I i] w K := by
  intro k
  induction k with
  | zero => intro i out x w σ K hi hk; omega
  | succ k ih =>
    intro i out x w σ K hi hk hfew hS hv hx h
    refine Ia ?_
    unfold Mg
    rw [Q4d ha ho hf out hi] at h
    refine U0 ?_
    refine Q4 (fun h1 => ?_) (fun h1 => ?_)
    · have h1 : i < frm := by have := of_decide_eq_true h1; omega
      rw [if_pos h1] at h
      exact h _ _ _ hS (SLe.refl _) hx
    have h1 : ¬ i < frm := by have := of_decide_eq_false h1; omega
    rw [if_neg h1] at h
    have hol := hfew.len
    refine V7 out.length (fun n w' => w' = w ∧ ∀ m (hm : m < out.length), m < n → out[m] ≠ i) ⟨rfl, fun m _ h => by omega⟩ fun n w2 d hn hinv => ?_
    obtain ⟨hw, hno⟩ := hinv
    subst hw
    refine Q1I hx ?_
    rw [show (G7 out).length = out.length from by simp]
    refine U0 ?_
    refine Q4 (fun hc => ?_) (fun hc => ?_)
    · have hn' : n < out.length := by simpa using hc
      refine Q2g (L5.of_acc hx) (n := n) (by simpa using hn') fun a cs hcl hcs hr => ?_
      obtain ⟨rfl, _⟩ := hr
      refine T8 (by have := hcl 0 _ rfl; rwa [add_zero] at this) ?_
      simp only [List.getElem_map]
      refine Q1P ?_
      by_cases e : out[n] = i
      · have : decide ((out[n] : Int) = i) = true := by simp [e]
        rw [this]
        refine F9 ?_
        rw [if_pos (e ▸ List.getElem_mem hn')] at h
        exact h _ _ _ hS (SLe.refl _) hx
      · have : decide ((out[n] : Int) = i) = false := by rw [decide_eq_false_iff_not]; omega
        rw [this]
        refine K1 ?_
        refine O8 ?_
        refine Z2 (by omega) hn' ⟨rfl, fun m hm hmn => ?_⟩
        by_cases e2 : m = n
        · subst e2; exact e
        · exact hno m hm (by omega)
    · have hn' : ¬ n < out.length := by simpa using hc
      have hnin : i ∉ out := fun hin => by
        obtain ⟨m, hm, e⟩ := List.getElem_of_mem hin
        exact hno m hm (by omega) e
      rw [if_neg hnin] at h
      have eat : l.getD i Cla.zero = l[i] := by rw [List.getD_eq_getElem?_getD, List.getElem?_eq_getElem hi]; rfl
      rw [eat] at h
      have hui := hup i hi (by omega)
      obtain ⟨lv, fv, mv, p1, r1⟩ := hv.elC hi
      obtain ⟨g1, _, _, _, g5⟩ := r1.parts
      have hsmc := hsm _ (List.getElem_mem hi)
      clear hno hnin hc hn
      refine W9 hS.sat ?_
      (repeat (apply O3; (· intros; (repeat (rename_i hx; subst hx)); (repeat' (first | (with_reducible exact W2 rfl) | (with_reducible exact L4 (Stp.bel (by (repeat (first | exact Stp.refl (by (first | assumption | exact Stp.sat (by assumption) | exact Hst.sat (by assumption))) | assumption | refine Stp.trans ?_ (by first | assumption | exact Hst.stp (by assumption)))))) rfl) | (with_reducible intro _) | (simp only [↓Mm, Mm, ↓Mp, Mp, Mb, reduceIte])  | (with_reducible show Q2 _ _ _ _ _; first | refine X7 aS aL aR ?_ | refine Z0 aS aL aR ?_ | refine ld aS aL aR ?_) | (with_reducible show indexAddr _ _ _ _ _ _; refine Z1 aL au ?_) | (with_reducible show X5 _ _ _ _ _ _ _ _; refine Q7 aL ?_) | (with_reducible show R3 _ _ _ _ _ _; refine Z3 aR ?_) | (with_reducible show pick _ _ _ _ _ _; refine M2 ?_) | (apply M6; intro hh; (try simp only [hh, reduceIte, ↓Mm, Mm, ↓Mp, Mp, Mb, reduceIte])))); done)))
      refine Q0K (w := w2) (σ := σ) (R := U9) (sz := 1) (e := T.b) [l[i].super] (fun t w hb e => ?_) ?_
      · subst e; exact Qq hb.stp [_] [l[i].super] rfl rfl (by simp; rfl) rfl ⟨⟨rfl, g5⟩, trivial⟩ fun v' w' hk ha _ => Q2b hb hk ha
      (repeat (apply O3; (· intros; (repeat (rename_i hx; subst hx)); (repeat' (first | (with_reducible exact W2 rfl) | (with_reducible exact L4 (Stp.bel (by (repeat (first | exact Stp.refl (by (first | assumption | exact Stp.sat (by assumption) | exact Hst.sat (by assumption))) | assumption | refine Stp.trans ?_ (by first | assumption | exact Hst.stp (by assumption)))))) rfl) | (with_reducible intro _) | (simp only [↓Mm, Mm, ↓Mp, Mp, Mb, reduceIte])  | (with_reducible show Q2 _ _ _ _ _; first | refine X7 aS aL aR ?_ | refine Z0 aS aL aR ?_ | refine ld aS aL aR ?_) | (with_reducible show indexAddr _ _ _ _ _ _; refine Z1 aL au ?_) | (with_reducible show X5 _ _ _ _ _ _ _ _; refine Q7 aL ?_) | (with_reducible show R3 _ _ _ _ _ _; refine Z3 aR ?_) | (with_reducible show pick _ _ _ _ _ _; refine M2 ?_) | (apply M6; intro hh; (try simp only [hh, reduceIte, ↓Mm, Mm, ↓Mp, Mp, Mb, reduceIte])))); done)))
      rintro t31 t32 t37 t38 t33 t34 t39 w4 hb4 rfl rfl rfl rfl rfl ⟨f34, a34⟩ rfl
      refine Nh f34 a34 g1 rfl (by simp; have := hsmc.1; omega) (by simp; have := hsmc.1; omega) fun v5 w5 hn5 hS5 ha5 hat5 => ?_
      obtain ⟨σ6, hS6, hv6, le6, _⟩ := ha5.keep hS5
      have hv6 : Sl 1 U9 σ6 v5 (U5 l[i]) := hv6
      have hx6 := hx.up hS6
      have hv26 := hv.up hS6
      have hS06 := hS.trans hS6
      have le06 : SLe σ σ6 := ⟨hS6.le⟩
      clear hn5 hat5 ha5 a34 f34 hb4 hS5
      refine O4 (U5 l[i]).length (fun n x w' => ∃ σ' out', Stp w0 σ0 w' σ' ∧ SLe σ6 σ' ∧ W3 w0.heap.size T.d 1 Js σ' w' x (G7 out') ∧ Ko l out' ∧ out' = ((U5 l[i]).take n).foldl (fun out n => T6 l frm out ((Y3 l n).getD 0)) out) ⟨σ6, out, hS06, SLe.refl _, hx6, hfew, rfl⟩ fun n x7 w7 d hn hinv => ?_
      obtain ⟨σ7, out7, hS7, le7, hx7, hfew7, ho7⟩ := hinv
      have hv7 := hv6.lift le7
      refine Q7 hv7 ?_
      refine U0 ?_
      refine Q4 (fun hc => ?_) (fun hc => ?_)
      · have hn' : n < (U5 l[i]).length := by simpa using hc
        refine Z1 hv7 hn' ?_
        obtain ⟨p7, _⟩ := hv7.elS hn'
        refine X7 hS7.sat p7 rfl ?_
        have hv27 := hv26.lift le7
        refine H7 hS7.sat hv27 ?_
        obtain ⟨j, hj⟩ := hui _ (List.getElem_mem hn')
        have hrk := Kx ha ho hi (by rw [eat]; exact List.getElem_mem hn') hj
        have hjl := (D6 hj).1
        simp only [hj, W8]
        refine ih hjl (by omega) hfew7 hS7 hv27 hx7 fun x8 w8 σ8 hS8 le8 hx8 => ?_
        refine O8 ?_
        refine J0 hv7.max hn' ⟨σ8, _, hS8, le7.more le8, hx8, Sa ha ho hf _ _ _ hjl hfew7, ?_⟩
        rw [List.take_add_one, List.getElem?_eq_getElem hn', List.foldl_append, ← ho7]
        simp [hj]
      · have hn' : ¬ n < (U5 l[i]).length := by simpa using hc
        rw [List.take_of_length_le (by omega)] at ho7
        have hl7 := hfew7.len
        refine Jb (R := Js) (x := (i : Int)) hS7 hx7 ⟨rfl, by omega, by omega⟩ rfl rfl rfl (by simp; omega) (by simp; omega) fun s x8 w8 σ8 hn8 hS8 hx8 _ => ?_
        refine h _ _ _ hS8 ((le06.more le7).more hn8.le) ?_
        rw [← ho7]
        simpa [G7] using hx8
end Go.Proofs.YtdnfaboigajkhaaGreatDoor

namespace Go.Hm
open Go.Kd
def E1 (n i b : Nat) : Bool := decide (i < n) && decide (128 ≤ b) && decide (b < 192)
def Xl (n b0 b1 b2 b3 : Nat) : Nat :=
  if b0 < 128 then 1
  else if (decide (194 ≤ b0) && decide (b0 < 224) && E1 n 1 b1) = true then 2
  else if (decide (224 ≤ b0) && decide (b0 < 240) && E1 n 1 b1 && E1 n 2 b2) = true then
    (if 2048 ≤ b0 % 16 * 4096 + b1 % 64 * 64 + b2 % 64 ∧ (b0 % 16 * 4096 + b1 % 64 * 64 + b2 % 64 < 55296 ∨ 57343 < b0 % 16 * 4096 + b1 % 64 * 64 + b2 % 64) then 3 else 0)
  else if (decide (240 ≤ b0) && decide (b0 < 245) && E1 n 1 b1 && E1 n 2 b2 && E1 n 3 b3) = true then
    (if 65536 ≤ b0 % 8 * 262144 + b1 % 64 * 4096 + b2 % 64 * 64 + b3 % 64 ∧ b0 % 8 * 262144 + b1 % 64 * 4096 + b2 % 64 * 64 + b3 % 64 ≤ 1114111 then 4 else 0)
  else 0
theorem Q6G (n b0 b1 b2 b3 : Nat) (h0 : b0 < 256) (h1 : b1 < 256) (h2 : b2 < 256) (h3 : b3 < 256) :
    Xl n b0 b1 b2 b3 = if (Lib.decodeN n b0 b1 b2 b3).1 = 65533 ∧ (Lib.decodeN n b0 b1 b2 b3).2 = 1 then 0 else (Lib.decodeN n b0 b1 b2 b3).2 := by
  have key : ∀ v k : Nat, Lib.decodeN n b0 b1 b2 b3 = (v, k) → ¬ k = 1 → Xl n b0 b1 b2 b3 = k → Xl n b0 b1 b2 b3 = if (Lib.decodeN n b0 b1 b2 b3).1 = 65533 ∧ (Lib.decodeN n b0 b1 b2 b3).2 = 1 then 0 else (Lib.decodeN n b0 b1 b2 b3).2 := by
    intro v k h hk hc
    rw [h, hc, if_neg (fun e => hk e.2)]
  have bad : Lib.decodeN n b0 b1 b2 b3 = (65533, 1) → Xl n b0 b1 b2 b3 = 0 → Xl n b0 b1 b2 b3 = if (Lib.decodeN n b0 b1 b2 b3).1 = 65533 ∧ (Lib.decodeN n b0 b1 b2 b3).2 = 1 then 0 else (Lib.decodeN n b0 b1 b2 b3).2 := by
    intro h hc
    rw [h, hc]; simp
  by_cases c0 : b0 < 128
  · have h : Lib.decodeN n b0 b1 b2 b3 = (b0, 1) := by unfold Lib.decodeN; rw [if_pos c0]
    rw [h, if_neg (by simp only; omega)]
    unfold Xl; rw [if_pos c0]
  by_cases c1 : b0 / 32 = 6 ∧ (1 < n ∧ b1 / 64 = 2)
  · by_cases d1 : b0 % 32 * 64 + b1 % 64 ≥ 128
    · refine key _ 2 (by unfold Lib.decodeN; rw [if_neg c0, if_pos c1, if_pos d1]) (by decide) ?_
      unfold Xl E1
      simp only [Bool.and_eq_true, decide_eq_true_eq]
      rw [if_neg c0, if_pos (by omega)]
    · refine bad (by unfold Lib.decodeN; rw [if_neg c0, if_pos c1, if_neg d1]) ?_
      unfold Xl E1
      simp only [Bool.and_eq_true, decide_eq_true_eq]
      rw [if_neg c0, if_neg (by omega), if_neg (by omega), if_neg (by omega)]
  by_cases c2 : b0 / 16 = 14 ∧ (1 < n ∧ b1 / 64 = 2) ∧ (2 < n ∧ b2 / 64 = 2)
  · by_cases d1 : 2048 ≤ b0 % 16 * 4096 + b1 % 64 * 64 + b2 % 64 ∧ (b0 % 16 * 4096 + b1 % 64 * 64 + b2 % 64 < 55296 ∨ 57343 < b0 % 16 * 4096 + b1 % 64 * 64 + b2 % 64)
    · refine key _ 3 (by unfold Lib.decodeN; rw [if_neg c0, if_neg c1, if_pos c2, if_pos (by omega)]) (by decide) ?_
      unfold Xl E1
      simp only [Bool.and_eq_true, decide_eq_true_eq]
      rw [if_neg c0, if_neg (by omega), if_pos (by omega), if_pos d1]
    · refine bad (by unfold Lib.decodeN; rw [if_neg c0, if_neg c1, if_pos c2, if_neg (by omega)]) ?_
      unfold Xl E1
      simp only [Bool.and_eq_true, decide_eq_true_eq]
      rw [if_neg c0, if_neg (by omega), if_pos (by omega), if_neg d1]
  by_cases c3 : b0 / 8 = 30 ∧ (1 < n ∧ b1 / 64 = 2) ∧ (2 < n ∧ b2 / 64 = 2) ∧ (3 < n ∧ b3 / 64 = 2)
  · by_cases d1 : 65536 ≤ b0 % 8 * 262144 + b1 % 64 * 4096 + b2 % 64 * 64 + b3 % 64 ∧ b0 % 8 * 262144 + b1 % 64 * 4096 + b2 % 64 * 64 + b3 % 64 ≤ 1114111
    · refine key _ 4 (by unfold Lib.decodeN; rw [if_neg c0, if_neg c1, if_neg c2, if_pos c3, if_pos (by omega)]) (by decide) ?_
      unfold Xl E1
      simp only [Bool.and_eq_true, decide_eq_true_eq]
      rw [if_neg c0, if_neg (by omega), if_neg (by omega), if_pos (by omega), if_pos d1]
    · refine bad (by unfold Lib.decodeN; rw [if_neg c0, if_neg c1, if_neg c2, if_pos c3, if_neg (by omega)]) ?_
      unfold Xl E1
      simp only [Bool.and_eq_true, decide_eq_true_eq]
      rw [if_neg c0, if_neg (by omega), if_neg (by omega)]
      by_cases d2 : b0 < 245
      · rw [if_pos (by omega), if_neg d1]
      · rw [if_neg (by omega)]
  · refine bad (by unfold Lib.decodeN; rw [if_neg c0, if_neg c1, if_neg c2, if_neg c3]) ?_
    unfold Xl E1
    simp only [Bool.and_eq_true, decide_eq_true_eq]
    rw [if_neg c0, if_neg (by omega), if_neg (by omega), if_neg (by omega)]
def X3 (l : X0) (i : Nat) : Nat := (l.getD i 0).toNat
theorem A9 (l : X0) (i : Nat) : X3 l i < 256 := (l.getD i 0).toNat_lt
def Xj (l : X0) : Nat := Xl l.length (X3 l 0) (X3 l 1) (X3 l 2) (X3 l 3)
theorem Q2e (l : X0) : Xj l = if (Lib.decodeL l).1 = 65533 ∧ (Lib.decodeL l).2 = 1 then 0 else (Lib.decodeL l).2 := by
  rw [Lib.decodeL_N]
  exact Q6G _ _ _ _ _ (A9 l 0) (A9 l 1) (A9 l 2) (A9 l 3)
theorem Q64 {l : X0} (hne : l ≠ []) (h : Xj l ≠ 0) : 1 ≤ Xj l ∧ Xj l ≤ l.length := by
  have h1 := Lib.decodeL_le l hne
  have h2 := Lib.decodeL_width l
  rw [Q2e] at h ⊢
  split at h
  · exact absurd rfl h
  · rw [if_neg (by assumption)]; omega
theorem Q4t {f : Nat} {l : X0} (hne : l ≠ []) : Lib.validGoD (f + 1) l = if Xj l = 0 then false else Lib.validGoD f (l.drop (Xj l)) := by
  have h2 := Lib.decodeL_width l
  simp only [Lib.validGoD, if_neg hne]
  rw [Q2e]
  split
  · rw [if_pos rfl]
  · rw [if_neg (by omega)]
end Go.Hm
namespace Go.Emb
open Go.RowKit
theorem Q6e {P : Program} {w : World} {K : Value → World → Prop} {k : IntKind} {t : TypeId} {ox oy : Operand} {a c : Int} (hc : 0 < c ∧ 0 ≤ a) (h : K (.int k (a % c)) w) : Q3 P .rem t ox oy (.int k a) (.int k c) w K := by
  have e : Q3 P .rem t ox oy (.int k a) (.int k c) w K = K (.int k (a.tmod c)) w := Y0 (by simp [eqGuard, Go.binOp, Op.intDiv]; intro e; omega)
  rw [e, Int.tmod_eq_emod_of_nonneg hc.2]; exact h
end Go.Emb
namespace Go.Proofs.YtdnfaboigajkhaaGreatDoor
open Go.Emb Go.RowKit Go.Kd Go.Hm
variable {w : World} {K : Value → World → Prop} {σ : Q6}
theorem Un {a : X0} {i : Nat} (hi : i < a.length) (h : K (.int .u8 (X3 a i)) w) : E2 P T.b (S a) (I i) w K := by
  rw [A0 X8 (by omega) (by simpa using hi)]
  have : (a[(i : Int).toNat]'(by simpa using hi)).toNat = X3 a i := by
    unfold X3
    rw [List.getD_eq_getElem?_getD, List.getElem?_eq_getElem hi]; rfl
  rw [this]; exact h
theorem Q0A {n : Int} (hn : 0 ≤ n ∧ n < 256) (h : K (I n) w) : conv P T.s T.d (.int .u8 n) w K := by
  rw [Tq Q0G Az, B9 (by omega) (by omega)]; exact h
theorem Um {a : X0} {i : Nat} (h : K (.bool (E1 a.length i (X3 a i))) w) : Q1 P F.q [S a, I i] w K := Sv (by
  unfold Vx
  unfold E1 at h
  simp only [↓Mm, Mm, ↓Mr, Mr, Mb, reduceIte]
  by_cases h1 : i < a.length
  · have e1 : decide ((i : Int) < a.length) = true := by rw [decide_eq_true_eq]; omega
    have e2 : decide (i < a.length) = true := by simpa using h1
    rw [e2] at h
    simp only [e1, ↓Mm, Mm, ↓Mr, Mr, Mb, reduceIte]
    refine Un h1 ?_
    (try simp only [↓Mm, Mm, ↓Mr, Mr, Mb, reduceIte])
    have e3 : decide ((128 : Int) ≤ (X3 a i : Int)) = decide (128 ≤ X3 a i) := by rw [Bool.eq_iff_iff, decide_eq_true_eq, decide_eq_true_eq]; omega
    have e4 : decide ((X3 a i : Int) < 192) = decide (X3 a i < 192) := by rw [Bool.eq_iff_iff, decide_eq_true_eq, decide_eq_true_eq]; omega
    rw [e3]
    cases h3 : decide (128 ≤ X3 a i) with
    | true =>
      rw [h3] at h
      simp only [↓Mm, Mm, ↓Mr, Mr, Mb, reduceIte]
      refine Un h1 ?_
      simp only [e4, ↓Mm, Mm, ↓Mr, Mr, Mb, reduceIte]
      simpa using h
    | false =>
      rw [h3] at h
      simp only [↓Mm, Mm, ↓Mr, Mr, Mb, reduceIte]
      simpa using h
  · have e1 : decide ((i : Int) < a.length) = false := by rw [decide_eq_false_iff_not]; omega
    have e2 : decide (i < a.length) = false := by simpa using h1
    rw [e2] at h
    simp only [e1, ↓Mm, Mm, ↓Mr, Mr, Mb, reduceIte]
    simpa using h)
def Yp (a : X0) : Nat := X3 a 0 % 16 * 4096 + X3 a 1 % 64 * 64 + X3 a 2 % 64
def Nt (a : X0) : Nat := X3 a 0 % 8 * 262144 + X3 a 1 % 64 * 4096 + X3 a 2 % 64 * 64 + X3 a 3 % 64
theorem Q5Y (a : X0) : Xj a = if X3 a 0 < 128 then 1
  else if (decide (194 ≤ X3 a 0) && decide (X3 a 0 < 224) && E1 a.length 1 (X3 a 1)) = true then 2
  else if (decide (224 ≤ X3 a 0) && decide (X3 a 0 < 240) && E1 a.length 1 (X3 a 1) && E1 a.length 2 (X3 a 2)) = true then
    (if 2048 ≤ Yp a ∧ (Yp a < 55296 ∨ 57343 < Yp a) then 3 else 0)
  else if (decide (240 ≤ X3 a 0) && decide (X3 a 0 < 245) && E1 a.length 1 (X3 a 1) && E1 a.length 2 (X3 a 2) && E1 a.length 3 (X3 a 3)) = true then
    (if 65536 ≤ Nt a ∧ Nt a ≤ 1114111 then 4 else 0)
  else 0 := rfl
set_option maxHeartbeats 2000000 in
theorem Q6Q {a : X0} (hne : a ≠ []) (hs : X6 w σ) (h : ∀ w', Below w.heap.size w w' → K (I (Xj a)) w') : Q1 P F.bi [S a] w K := Bx (by
  unfold Wl
  have hl : 0 < a.length := List.length_pos_iff.2 hne
  have b0 := A9 a 0
  have b1 := A9 a 1
  have b2 := A9 a 2
  have b3 := A9 a 3
  refine Un (i := 0) hl ?_
  refine Q0A (by omega) ?_
  refine Vv (fun _ w' => Below w.heap.size w w' ∧ Xj a = 0) ?_ (fun _ d w' hx => by
    have := h w' hx.1
    rw [hx.2] at this
    exact this)
  have hK : ∀ n w', Below w.heap.size w w' → Xj a = n → K (I n) w' := fun n w' hb e => by rw [← e]; exact h w' hb
  clear h
  have hcm := Q5Y a
  simp only [↓Mm, Mm, ↓Mr, Mr, Mb, reduceIte]
  refine Q4 (fun h1 => ?_) (fun h1 => ?_)
  · have : X3 a 0 < 128 := by have := of_decide_eq_true h1; omega
    exact hK 1 _ (Below.refl _ _) (by rw [hcm, if_pos this])
  have c0 : ¬ X3 a 0 < 128 := by have := of_decide_eq_false h1; omega
  rw [if_neg c0] at hcm
  by_cases c1 : X3 a 0 < 194
  · have i1 : decide ((194 : Int) ≤ X3 a 0) = false := by rw [decide_eq_false_iff_not]; omega
    have n1 : decide (194 ≤ X3 a 0) = false := by rw [decide_eq_false_iff_not]; omega
    have i2 : decide ((X3 a 0 : Int) < 224) = true := by rw [decide_eq_true_eq]; omega
    have n2 : decide (X3 a 0 < 224) = true := by rw [decide_eq_true_eq]; omega
    have i3 : decide ((224 : Int) ≤ X3 a 0) = false := by rw [decide_eq_false_iff_not]; omega
    have n3 : decide (224 ≤ X3 a 0) = false := by rw [decide_eq_false_iff_not]; omega
    have i4 : decide ((X3 a 0 : Int) < 240) = true := by rw [decide_eq_true_eq]; omega
    have n4 : decide (X3 a 0 < 240) = true := by rw [decide_eq_true_eq]; omega
    have i5 : decide ((240 : Int) ≤ X3 a 0) = false := by rw [decide_eq_false_iff_not]; omega
    have n5 : decide (240 ≤ X3 a 0) = false := by rw [decide_eq_false_iff_not]; omega
    have i6 : decide ((X3 a 0 : Int) < 245) = true := by rw [decide_eq_true_eq]; omega
    have n6 : decide (X3 a 0 < 245) = true := by rw [decide_eq_true_eq]; omega
    simp only [i1, i2, i3, i4, i5, i6, ↓Mm, Mm, ↓Mr, Mr, Mb, reduceIte]
    exact ⟨Below.refl _ _, by rw [hcm]; simp only [n1, n2, n3, n4, n5, n6, Bool.and_true, Bool.true_and, Bool.false_and, Bool.and_false, Bool.false_eq_true, if_true, if_false, reduceIte]⟩
  by_cases c2 : X3 a 0 < 224
  · have i1 : decide ((194 : Int) ≤ X3 a 0) = true := by rw [decide_eq_true_eq]; omega
    have n1 : decide (194 ≤ X3 a 0) = true := by rw [decide_eq_true_eq]; omega
    have i2 : decide ((X3 a 0 : Int) < 224) = true := by rw [decide_eq_true_eq]; omega
    have n2 : decide (X3 a 0 < 224) = true := by rw [decide_eq_true_eq]; omega
    have i3 : decide ((224 : Int) ≤ X3 a 0) = false := by rw [decide_eq_false_iff_not]; omega
    have n3 : decide (224 ≤ X3 a 0) = false := by rw [decide_eq_false_iff_not]; omega
    have i4 : decide ((X3 a 0 : Int) < 240) = true := by rw [decide_eq_true_eq]; omega
    have n4 : decide (X3 a 0 < 240) = true := by rw [decide_eq_true_eq]; omega
    have i5 : decide ((240 : Int) ≤ X3 a 0) = false := by rw [decide_eq_false_iff_not]; omega
    have n5 : decide (240 ≤ X3 a 0) = false := by rw [decide_eq_false_iff_not]; omega
    have i6 : decide ((X3 a 0 : Int) < 245) = true := by rw [decide_eq_true_eq]; omega
    have n6 : decide (X3 a 0 < 245) = true := by rw [decide_eq_true_eq]; omega
    simp only [i1, i2, i3, i4, i5, i6, ↓Mm, Mm, ↓Mr, Mr, Mb, reduceIte]
    refine Um (i := 1) ?_
    cases A1 : E1 a.length 1 (X3 a 1) with
    | true => simp only [↓Mm, Mm, ↓Mr, Mr, Mb, reduceIte]; exact hK 2 _ (Below.refl _ _) (by rw [hcm]; simp only [A1, n1, n2, n3, n4, n5, n6, Bool.and_true, Bool.true_and, Bool.false_and, Bool.and_false, Bool.false_eq_true, if_true, if_false, reduceIte])
    | false => simp only [↓Mm, Mm, ↓Mr, Mr, Mb, reduceIte]; exact ⟨Below.refl _ _, by rw [hcm]; simp only [A1, n1, n2, n3, n4, n5, n6, Bool.and_true, Bool.true_and, Bool.false_and, Bool.and_false, Bool.false_eq_true, if_true, if_false, reduceIte]⟩
  by_cases c3 : X3 a 0 < 240
  · have i1 : decide ((194 : Int) ≤ X3 a 0) = true := by rw [decide_eq_true_eq]; omega
    have n1 : decide (194 ≤ X3 a 0) = true := by rw [decide_eq_true_eq]; omega
    have i2 : decide ((X3 a 0 : Int) < 224) = false := by rw [decide_eq_false_iff_not]; omega
    have n2 : decide (X3 a 0 < 224) = false := by rw [decide_eq_false_iff_not]; omega
    have i3 : decide ((224 : Int) ≤ X3 a 0) = true := by rw [decide_eq_true_eq]; omega
    have n3 : decide (224 ≤ X3 a 0) = true := by rw [decide_eq_true_eq]; omega
    have i4 : decide ((X3 a 0 : Int) < 240) = true := by rw [decide_eq_true_eq]; omega
    have n4 : decide (X3 a 0 < 240) = true := by rw [decide_eq_true_eq]; omega
    have i5 : decide ((240 : Int) ≤ X3 a 0) = false := by rw [decide_eq_false_iff_not]; omega
    have n5 : decide (240 ≤ X3 a 0) = false := by rw [decide_eq_false_iff_not]; omega
    have i6 : decide ((X3 a 0 : Int) < 245) = true := by rw [decide_eq_true_eq]; omega
    have n6 : decide (X3 a 0 < 245) = true := by rw [decide_eq_true_eq]; omega
    simp only [i1, i2, i3, i4, i5, i6, ↓Mm, Mm, ↓Mr, Mr, Mb, reduceIte]
    refine Um (i := 1) ?_
    cases A1 : E1 a.length 1 (X3 a 1) with
    | false => simp only [↓Mm, Mm, ↓Mr, Mr, Mb, reduceIte]; exact ⟨Below.refl _ _, by rw [hcm]; simp only [A1, n1, n2, n3, n4, n5, n6, Bool.and_true, Bool.true_and, Bool.false_and, Bool.and_false, Bool.false_eq_true, if_true, if_false, reduceIte]⟩
    | true =>
    simp only [↓Mm, Mm, ↓Mr, Mr, Mb, reduceIte]
    refine Um (i := 2) ?_
    cases A2 : E1 a.length 2 (X3 a 2) with
    | false => simp only [↓Mm, Mm, ↓Mr, Mr, Mb, reduceIte]; exact ⟨Below.refl _ _, by rw [hcm]; simp only [A1, A2, n1, n2, n3, n4, n5, n6, Bool.and_true, Bool.true_and, Bool.false_and, Bool.and_false, Bool.false_eq_true, if_true, if_false, reduceIte]⟩
    | true =>
    simp only [↓Mm, Mm, ↓Mr, Mr, Mb, reduceIte]
    simp only [A1, A2, n1, n2, n3, n4, n5, n6, Bool.and_true, Bool.true_and, Bool.false_and, Bool.and_false, Bool.false_eq_true, if_true, if_false, reduceIte] at hcm
    have hl1 : 1 < a.length := by unfold E1 at A1; simp only [Bool.and_eq_true, decide_eq_true_eq] at A1; exact A1.1.1
    have hl2 : 2 < a.length := by unfold E1 at A2; simp only [Bool.and_eq_true, decide_eq_true_eq] at A2; exact A2.1.1
    have hw : IntKind.i64.wrap (IntKind.i64.wrap (IntKind.i64.wrap ((X3 a 0 : Int) % 16 * 4096) + IntKind.i64.wrap ((X3 a 1 : Int) % 64 * 64)) + (X3 a 2 : Int) % 64) = ((Yp a : Nat) : Int) := by
      rw [B9 (n := (X3 a 0 : Int) % 16 * 4096) (by omega) (by omega), B9 (n := (X3 a 1 : Int) % 64 * 64) (by omega) (by omega), B9 (n := _ + (X3 a 1 : Int) % 64 * 64) (by omega) (by omega), B9 (by omega) (by omega)]
      unfold Yp; omega
    refine W9 hs ?_
    have hx1 : ∀ {w' : World} {K : Value → World → Prop}, K (.int .u8 (X3 a 1)) w' → E2 P T.b (S a) (.int .i64 1) w' K := fun hK => Un (i := 1) hl1 hK
    have hx2 : ∀ {w' : World} {K : Value → World → Prop}, K (.int .u8 (X3 a 2)) w' → E2 P T.b (S a) (.int .i64 2) w' K := fun hK => Un (i := 2) hl2 hK
    (repeat (apply O3; (· intros; (repeat (rename_i hx; subst hx)); (repeat' (first | (with_reducible exact W2 rfl) | (with_reducible exact L4 (Stp.bel (by (repeat (first | exact Stp.refl (by (first | assumption | exact Stp.sat (by assumption) | exact Hst.sat (by assumption))) | assumption | refine Stp.trans ?_ (by first | assumption | exact Hst.stp (by assumption)))))) rfl) | (with_reducible intro _) | (simp only [↓Mm, Mm, ↓Mp, Mp, Mb, reduceIte]) | (with_reducible refine Q6e au ?_) | (with_reducible refine Q0A au ?_) | (with_reducible refine hx1  ?_) | (with_reducible refine hx2  ?_)  | (with_reducible show Q2 _ _ _ _ _; first | refine X7 aS aL aR ?_ | refine Z0 aS aL aR ?_ | refine ld aS aL aR ?_) | (with_reducible show indexAddr _ _ _ _ _ _; refine Z1 aL au ?_) | (with_reducible show X5 _ _ _ _ _ _ _ _; refine Q7 aL ?_) | (with_reducible show R3 _ _ _ _ _ _; refine Z3 aR ?_) | (with_reducible show pick _ _ _ _ _ _; refine M2 ?_) | (apply M6; intro hh; (try simp only [hh, reduceIte, ↓Mm, Mm, ↓Mp, Mp, Mb, reduceIte])))); done)))
    (intros; (repeat (rename_i hx; subst hx)); (try simp only [↓Mm, Mm, ↓Mp, Mp, Mb, reduceIte]))
    rename_i w2 hb2
    simp only [hw]
    have hb := hb2.stp.bel
    by_cases e1 : 2048 ≤ Yp a
    · by_cases e2 : Yp a < 55296
      · simp only [(show decide ((2048 : Int) ≤ (Yp a : Int)) = true by rw [decide_eq_true_eq]; omega), (show decide ((Yp a : Int) < 55296) = true by rw [decide_eq_true_eq]; omega), ↓Mm, Mm, ↓Mr, Mr, Mb, reduceIte]
        exact hK 3 _ hb (by rw [hcm, if_pos ⟨e1, .inl e2⟩])
      · by_cases e3 : 57343 < Yp a
        · simp only [(show decide ((2048 : Int) ≤ (Yp a : Int)) = true by rw [decide_eq_true_eq]; omega), (show decide ((Yp a : Int) < 55296) = false by rw [decide_eq_false_iff_not]; omega), (show decide ((57343 : Int) < (Yp a : Int)) = true by rw [decide_eq_true_eq]; omega), ↓Mm, Mm, ↓Mr, Mr, Mb, reduceIte]
          exact hK 3 _ hb (by rw [hcm, if_pos ⟨e1, .inr e3⟩])
        · simp only [(show decide ((2048 : Int) ≤ (Yp a : Int)) = true by rw [decide_eq_true_eq]; omega), (show decide ((Yp a : Int) < 55296) = false by rw [decide_eq_false_iff_not]; omega), (show decide ((57343 : Int) < (Yp a : Int)) = false by rw [decide_eq_false_iff_not]; omega), ↓Mm, Mm, ↓Mr, Mr, Mb, reduceIte]
          exact ⟨hb, by rw [hcm, if_neg (by omega)]⟩
    · simp only [(show decide ((2048 : Int) ≤ (Yp a : Int)) = false by rw [decide_eq_false_iff_not]; omega), ↓Mm, Mm, ↓Mr, Mr, Mb, reduceIte]
      exact ⟨hb, by rw [hcm, if_neg (by omega)]⟩
  by_cases c4 : X3 a 0 < 245
  · have i1 : decide ((194 : Int) ≤ X3 a 0) = true := by rw [decide_eq_true_eq]; omega
    have n1 : decide (194 ≤ X3 a 0) = true := by rw [decide_eq_true_eq]; omega
    have i2 : decide ((X3 a 0 : Int) < 224) = false := by rw [decide_eq_false_iff_not]; omega
    have n2 : decide (X3 a 0 < 224) = false := by rw [decide_eq_false_iff_not]; omega
    have i3 : decide ((224 : Int) ≤ X3 a 0) = true := by rw [decide_eq_true_eq]; omega
    have n3 : decide (224 ≤ X3 a 0) = true := by rw [decide_eq_true_eq]; omega
    have i4 : decide ((X3 a 0 : Int) < 240) = false := by rw [decide_eq_false_iff_not]; omega
    have n4 : decide (X3 a 0 < 240) = false := by rw [decide_eq_false_iff_not]; omega
    have i5 : decide ((240 : Int) ≤ X3 a 0) = true := by rw [decide_eq_true_eq]; omega
    have n5 : decide (240 ≤ X3 a 0) = true := by rw [decide_eq_true_eq]; omega
    have i6 : decide ((X3 a 0 : Int) < 245) = true := by rw [decide_eq_true_eq]; omega
    have n6 : decide (X3 a 0 < 245) = true := by rw [decide_eq_true_eq]; omega
    simp only [i1, i2, i3, i4, i5, i6, ↓Mm, Mm, ↓Mr, Mr, Mb, reduceIte]
    refine Um (i := 1) ?_
    cases A1 : E1 a.length 1 (X3 a 1) with
    | false => simp only [↓Mm, Mm, ↓Mr, Mr, Mb, reduceIte]; exact ⟨Below.refl _ _, by rw [hcm]; simp only [A1, n1, n2, n3, n4, n5, n6, Bool.and_true, Bool.true_and, Bool.false_and, Bool.and_false, Bool.false_eq_true, if_true, if_false, reduceIte]⟩
    | true =>
    simp only [↓Mm, Mm, ↓Mr, Mr, Mb, reduceIte]
    refine Um (i := 2) ?_
    cases A2 : E1 a.length 2 (X3 a 2) with
    | false => simp only [↓Mm, Mm, ↓Mr, Mr, Mb, reduceIte]; exact ⟨Below.refl _ _, by rw [hcm]; simp only [A1, A2, n1, n2, n3, n4, n5, n6, Bool.and_true, Bool.true_and, Bool.false_and, Bool.and_false, Bool.false_eq_true, if_true, if_false, reduceIte]⟩
    | true =>
    simp only [↓Mm, Mm, ↓Mr, Mr, Mb, reduceIte]
    refine Um (i := 3) ?_
    cases A3 : E1 a.length 3 (X3 a 3) with
    | false => simp only [↓Mm, Mm, ↓Mr, Mr, Mb, reduceIte]; exact ⟨Below.refl _ _, by rw [hcm]; simp only [A1, A2, A3, n1, n2, n3, n4, n5, n6, Bool.and_true, Bool.true_and, Bool.false_and, Bool.and_false, Bool.false_eq_true, if_true, if_false, reduceIte]⟩
    | true =>
    simp only [↓Mm, Mm, ↓Mr, Mr, Mb, reduceIte]
    simp only [A1, A2, A3, n1, n2, n3, n4, n5, n6, Bool.and_true, Bool.true_and, Bool.false_and, Bool.and_false, Bool.false_eq_true, if_true, if_false, reduceIte] at hcm
    have hl1 : 1 < a.length := by unfold E1 at A1; simp only [Bool.and_eq_true, decide_eq_true_eq] at A1; exact A1.1.1
    have hl2 : 2 < a.length := by unfold E1 at A2; simp only [Bool.and_eq_true, decide_eq_true_eq] at A2; exact A2.1.1
    have hl3 : 3 < a.length := by unfold E1 at A3; simp only [Bool.and_eq_true, decide_eq_true_eq] at A3; exact A3.1.1
    have hw : IntKind.i64.wrap (IntKind.i64.wrap (IntKind.i64.wrap (IntKind.i64.wrap ((X3 a 0 : Int) % 8 * 262144) + IntKind.i64.wrap ((X3 a 1 : Int) % 64 * 4096)) + IntKind.i64.wrap ((X3 a 2 : Int) % 64 * 64)) + (X3 a 3 : Int) % 64) = ((Nt a : Nat) : Int) := by
      rw [B9 (n := (X3 a 0 : Int) % 8 * 262144) (by omega) (by omega), B9 (n := (X3 a 1 : Int) % 64 * 4096) (by omega) (by omega), B9 (n := (X3 a 2 : Int) % 64 * 64) (by omega) (by omega), B9 (n := _ + (X3 a 1 : Int) % 64 * 4096) (by omega) (by omega), B9 (n := _ + (X3 a 2 : Int) % 64 * 64) (by omega) (by omega), B9 (by omega) (by omega)]
      unfold Nt; omega
    refine W9 hs ?_
    have hx1 : ∀ {w' : World} {K : Value → World → Prop}, K (.int .u8 (X3 a 1)) w' → E2 P T.b (S a) (.int .i64 1) w' K := fun hK => Un (i := 1) hl1 hK
    have hx2 : ∀ {w' : World} {K : Value → World → Prop}, K (.int .u8 (X3 a 2)) w' → E2 P T.b (S a) (.int .i64 2) w' K := fun hK => Un (i := 2) hl2 hK
    have hx3 : ∀ {w' : World} {K : Value → World → Prop}, K (.int .u8 (X3 a 3)) w' → E2 P T.b (S a) (.int .i64 3) w' K := fun hK => Un (i := 3) hl3 hK
    (repeat (apply O3; (· intros; (repeat (rename_i hx; subst hx)); (repeat' (first | (with_reducible exact W2 rfl) | (with_reducible exact L4 (Stp.bel (by (repeat (first | exact Stp.refl (by (first | assumption | exact Stp.sat (by assumption) | exact Hst.sat (by assumption))) | assumption | refine Stp.trans ?_ (by first | assumption | exact Hst.stp (by assumption)))))) rfl) | (with_reducible intro _) | (simp only [↓Mm, Mm, ↓Mp, Mp, Mb, reduceIte]) | (with_reducible refine Q6e au ?_) | (with_reducible refine Q0A au ?_) | (with_reducible refine hx1  ?_) | (with_reducible refine hx2  ?_) | (with_reducible refine hx3  ?_)  | (with_reducible show Q2 _ _ _ _ _; first | refine X7 aS aL aR ?_ | refine Z0 aS aL aR ?_ | refine ld aS aL aR ?_) | (with_reducible show indexAddr _ _ _ _ _ _; refine Z1 aL au ?_) | (with_reducible show X5 _ _ _ _ _ _ _ _; refine Q7 aL ?_) | (with_reducible show R3 _ _ _ _ _ _; refine Z3 aR ?_) | (with_reducible show pick _ _ _ _ _ _; refine M2 ?_) | (apply M6; intro hh; (try simp only [hh, reduceIte, ↓Mm, Mm, ↓Mp, Mp, Mb, reduceIte])))); done)))
    (intros; (repeat (rename_i hx; subst hx)); (try simp only [↓Mm, Mm, ↓Mp, Mp, Mb, reduceIte]))
    rename_i w2 hb2
    simp only [hw]
    have hb := hb2.stp.bel
    by_cases e1 : 65536 ≤ Nt a
    · by_cases e2 : Nt a ≤ 1114111
      · simp only [(show decide ((65536 : Int) ≤ (Nt a : Int)) = true by rw [decide_eq_true_eq]; omega), (show decide ((Nt a : Int) ≤ 1114111) = true by rw [decide_eq_true_eq]; omega), ↓Mm, Mm, ↓Mr, Mr, Mb, reduceIte]
        exact hK 4 _ hb (by rw [hcm, if_pos ⟨e1, e2⟩])
      · simp only [(show decide ((65536 : Int) ≤ (Nt a : Int)) = true by rw [decide_eq_true_eq]; omega), (show decide ((Nt a : Int) ≤ 1114111) = false by rw [decide_eq_false_iff_not]; omega), ↓Mm, Mm, ↓Mr, Mr, Mb, reduceIte]
        exact ⟨hb, by rw [hcm, if_neg (by omega)]⟩
    · simp only [(show decide ((65536 : Int) ≤ (Nt a : Int)) = false by rw [decide_eq_false_iff_not]; omega), ↓Mm, Mm, ↓Mr, Mr, Mb, reduceIte]
      exact ⟨hb, by rw [hcm, if_neg (by omega)]⟩
  have i1 : decide ((194 : Int) ≤ X3 a 0) = true := by rw [decide_eq_true_eq]; omega
  have n1 : decide (194 ≤ X3 a 0) = true := by rw [decide_eq_true_eq]; omega
  have i2 : decide ((X3 a 0 : Int) < 224) = false := by rw [decide_eq_false_iff_not]; omega
  have n2 : decide (X3 a 0 < 224) = false := by rw [decide_eq_false_iff_not]; omega
  have i3 : decide ((224 : Int) ≤ X3 a 0) = true := by rw [decide_eq_true_eq]; omega
  have n3 : decide (224 ≤ X3 a 0) = true := by rw [decide_eq_true_eq]; omega
  have i4 : decide ((X3 a 0 : Int) < 240) = false := by rw [decide_eq_false_iff_not]; omega
  have n4 : decide (X3 a 0 < 240) = false := by rw [decide_eq_false_iff_not]; omega
  have i5 : decide ((240 : Int) ≤ X3 a 0) = true := by rw [decide_eq_true_eq]; omega
  have n5 : decide (240 ≤ X3 a 0) = true := by rw [decide_eq_true_eq]; omega
  have i6 : decide ((X3 a 0 : Int) < 245) = false := by rw [decide_eq_false_iff_not]; omega
  have n6 : decide (X3 a 0 < 245) = false := by rw [decide_eq_false_iff_not]; omega
  simp only [i1, i2, i3, i4, i5, i6, ↓Mm, Mm, ↓Mr, Mr, Mb, reduceIte]
  exact ⟨Below.refl _ _, by rw [hcm]; simp only [n1, n2, n3, n4, n5, n6, Bool.and_true, Bool.true_and, Bool.false_and, Bool.and_false, Bool.false_eq_true, if_true, if_false, reduceIte]⟩)
theorem Q5q {s : X0} (hb : s.length ≤ V9) (hs : X6 w σ) (h : ∀ w', Below w.heap.size w w' → K (.bool (Lib.validD s)) w') : Q1 P F.ba [S s] w K := Cf (by
  unfold Wd
  refine Dq (fun f x w' => ∃ r, x = S r ∧ r.length ≤ f ∧ r.length ≤ V9 ∧ Below w.heap.size w w' ∧ Lib.validD s = Lib.validGoD f r) s.length ⟨s, rfl, Nat.le_refl _, hb, Below.refl _ _, rfl⟩ ?_
  rintro again f x d w1 ⟨r, rfl, hrf, hrb, hbl, hv⟩ hag
  refine Ek ?_
  by_cases hne : r = []
  · have e : decide (r = []) = true := by simpa using hne
    simp only [e, ↓Mm, Mm, ↓Mr, Mr, Mb, reduceIte]
    subst hne
    have : Lib.validGoD f [] = true := by cases f <;> simp [Lib.validGoD]
    rw [hv, this] at h
    exact h _ hbl
  · have e : decide (r = []) = false := by simpa using hne
    simp only [e, ↓Mm, Mm, ↓Mr, Mr, Mb, reduceIte]
    have hpos : 0 < r.length := List.length_pos_iff.2 hne
    obtain ⟨f, rfl⟩ : ∃ g, f = g + 1 := ⟨f - 1, by omega⟩
    rw [Q4t hne] at hv
    refine Q6Q hne (hs.below hbl) fun w2 hb2 => ?_
    have hbb := hbl.trans (hb2.mono hbl.size)
    refine Q1P ?_
    by_cases h0 : Xj r = 0
    · have e0 : decide ((Xj r : Int) = 0) = true := by rw [decide_eq_true_eq]; omega
      simp only [e0, ↓Mm, Mm, ↓Mr, Mr, Mb, reduceIte]
      rw [hv, if_pos h0] at h
      exact h _ hbb
    · have e0 : decide ((Xj r : Int) = 0) = false := by rw [decide_eq_false_iff_not]; omega
      simp only [e0, ↓Mm, Mm, ↓Mr, Mr, Mb, reduceIte]
      obtain ⟨p1, p2⟩ := Q64 hne h0
      rw [Up X8 (by omega) (by omega)]
      rw [if_neg h0] at hv
      refine hag f _ _ (by omega) ⟨r.drop (Xj r), by simp, by rw [List.length_drop]; omega, by rw [List.length_drop]; omega, hbb, hv⟩)
end Go.Proofs.YtdnfaboigajkhaaGreatDoor

namespace Go.Proofs.YtdnfaboigajkhaaGreatDoor
open Go.Emb Go.RowKit Go.Kd
variable {w : World} {K : Value → World → Prop}
theorem bt {w w1 w2 : World} (h1 : Below w.heap.size w w1) (h2 : Below w1.heap.size w1 w2) : Below w.heap.size w w2 := h1.trans (h2.mono h1.size)
theorem Q7Q {a : List UInt8} (h : N7 a = true) : Kd.N4 a ++ [91, 93] = a := by
  simp only [N7, Bool.and_eq_true, decide_eq_true_eq] at h
  rw [← h.2, Kd.N4, List.take_append_drop]
theorem Pm {a : List UInt8} (h : name a = true) : N7 a = false := by
  cases a with
  | nil => rfl
  | cons c r =>
    cases he : N7 (c :: r) with
    | false => rfl
    | true =>
      exfalso
      simp only [name, Bool.and_eq_true, List.all_eq_true] at h
      have hc := Q7Q he
      have : (93 : UInt8) ∈ (c :: r) := by rw [← hc]; simp
      have := h.2 _ this
      revert this; decide
theorem Q69 {a : List UInt8} (h : name a = true) : V2 a = (a, 0) := by rw [A4, Pm h]; simp
theorem Q1k {a : List UInt8} (h : W7 a = true) : name a = true ∧ right a = true ∧ plain a = false := by
  cases a with
  | nil => simp [W7] at h
  | cons c r =>
    have hn : name (c :: r) = true := by simp only [W7, Bool.and_eq_true] at h; exact h.1
    refine ⟨hn, ?_, ?_⟩
    · rw [right, Q69 hn]; simp [h]
    · simp only [W7, Bool.and_eq_true] at h
      have hg := h.2
      simp only [plain, Bool.or_eq_false_iff, decide_eq_false_iff_not]
      refine ⟨⟨?_, ?_⟩, ?_⟩ <;> intro e <;> injection e with e1 e2 <;> subst e1 <;> revert hg <;> decide
end Go.Proofs.YtdnfaboigajkhaaGreatDoor

namespace Go.Proofs.YtdnfaboigajkhaaGreatDoor
open Go.Emb Go.RowKit Go.Kd Go.Hm
variable {w : World} {K : Value → World → Prop} {σ : Q6}
theorem Q2k {σ : Q6} : ∀ (xs : List X0), (∀ x ∈ xs, x.length ≤ V9) → Gn U9 σ (xs.map S) xs
  | [], _ => trivial
  | x :: r, h => ⟨⟨rfl, h x (by simp)⟩, Q2k r fun y hy => h y (by simp [hy])⟩
def Za : List X0 := Xr.map (·.name)
set_option maxRecDepth 100000 in
theorem Q7P (hs : X6 w σ) (h : ∀ v w' σ', Stp w σ w' σ' → Sl 1 U9 σ' v Za → K v w') : Q1 P F.bo [] w K := Ke (by
  unfold Lw
  exact Mw (R := U9) (sz := 1) hs (Za.map S) Za rfl rfl (by intro v hv; obtain ⟨x, _, rfl⟩ := List.mem_map.1 hv; rfl) rfl (Q2k _ (by decide)) fun v w' σ' hk hv => h v w' σ' hk hv)
theorem Q52 {a : X0} (hs : X6 w σ) (h : ∀ w' σ', Stp w σ w' σ' → K (I (W8 (G9 a))) w') : Q1 P F.aV [S a] w K := Hu (by
  unfold Ud
  refine Q7P hs fun v w1 σ1 hk1 hv => ?_
  have hop : G9 a = Za.findIdx? fun x => decide (x = a) := by
    unfold G9 Za
    rw [List.findIdx?_map]; rfl
  have hp : ∀ o, G9 a = o → K (I (W8 o)) w1 := fun o e => by rw [← e]; exact h _ _ hk1
  rw [hop] at hp
  have hlen : Za.length = 42 := rfl
  generalize Za = ns at hv hp hlen
  refine V7 ns.length (fun k w' => w' = w1 ∧ ∀ j (hj : j < ns.length), j < k → ¬ ns[j] = a) ⟨rfl, fun j _ h => by omega⟩ fun k w2 d hk hi => ?_
  obtain ⟨hw, hno⟩ := hi
  subst hw
  refine Q7 hv ?_
  refine U0 ?_
  refine Q4 (fun hc => ?_) (fun hc => ?_)
  · have hk' : k < ns.length := by simpa using hc
    refine Z1 hv hk' ?_
    obtain ⟨p1, _⟩ := hv.elS hk'
    refine X7 hk1.sat p1 rfl ?_
    refine Ng ?_
    refine Q4 (fun he => ?_) (fun he => ?_)
    · have he : ns[k] = a := by simpa using he
      exact hp (some k) (by
        rw [List.findIdx?_eq_some_iff_getElem]
        exact ⟨hk', by simpa using he, fun j hj => by simpa using hno j (by omega) hj⟩)
    · have he : ¬ ns[k] = a := by simpa using he
      (try simp only [↓Mm, Mm, ↓Mr, Mr, Mb, reduceIte])
      refine Z2 hv.max hk' ⟨rfl, fun j hj hjk => ?_⟩
      by_cases e : j = k
      · subst e; exact he
      · exact hno j hj (by omega)
  · have hk' : ¬ k < ns.length := by simpa using hc
    exact hp none (by
      rw [List.findIdx?_eq_none_iff]
      intro m hm
      obtain ⟨j, hj, rfl⟩ := List.getElem_of_mem hm
      simpa using hno j hj (by omega)))
theorem Q85 {o : Option Nat} : decide (W8 o < 0) = !o.isSome := by
  cases o with
  | none => rfl
  | some i =>
    have : ¬ (i : Int) < 0 := by omega
    exact decide_eq_false this
def Vo (a : X0) : Bool := decide (a = [105, 110, 116]) || decide (a = [108, 111, 97, 100]) || decide (a = [115, 116, 111, 114, 101]) || decide (a = [106, 117, 109, 112]) || decide (a = [98, 114, 97, 110, 99, 104])
def Jl (a : X0) : Bool := decide (a = [119, 111, 114, 100]) || decide (a = [110, 101, 119]) || decide (a = [103, 101, 116]) || decide (a = [112, 117, 116]) || decide (a = [99, 97, 108, 108]) || decide (a = [97, 114, 114, 97, 121]) || decide (a = [105, 115]) || decide (a = [99, 97, 115, 116])
theorem Q6D (a : X0) : D4 a = (Vo a, Jl a, (G9 a).isSome) := by
  unfold D4
  cases hf : G9 a with
  | none =>
    have hall := List.findIdx?_eq_none_iff.1 hf
    have hno : ∀ x ∈ Za, ¬ x = a := by
      intro x hx
      obtain ⟨o, ho, rfl⟩ := List.mem_map.1 hx
      have := hall o ho
      simpa using this
    have hn : ∀ x ∈ Za, decide (a = x) = false := fun x hx => by rw [decide_eq_false_iff_not]; exact fun e => hno x hx e.symm
    have e1 : Vo a = false := by
      unfold Vo
      rw [hn _ (by decide), hn _ (by decide), hn _ (by decide), hn _ (by decide), hn _ (by decide)]; rfl
    have e2 : Jl a = false := by
      unfold Jl
      rw [hn _ (by decide), hn _ (by decide), hn _ (by decide), hn _ (by decide), hn _ (by decide), hn _ (by decide), hn _ (by decide), hn _ (by decide)]; rfl
    simp [e1, e2]
  | some i =>
    obtain ⟨hi, hp, _⟩ := List.findIdx?_eq_some_iff_getElem.1 hf
    have ha : Xr[i].name = a := by simpa using hp
    have hg : Xr.getD i ⟨[], false, false⟩ = Xr[i] := by rw [List.getD_eq_getElem?_getD, List.getElem?_eq_getElem hi]; rfl
    have hall : ∀ o ∈ Xr, o.number = Vo o.name ∧ o.text = Jl o.name := by decide
    obtain ⟨h1, h2⟩ := hall _ (List.getElem_mem hi)
    simp only [hg, Option.isSome_some]
    rw [h1, h2, ha]
def Lr (a : X0) : Int := if Vo a then 1 else if Jl a then 2 else if (G9 a).isSome then 0 else -1
theorem Q58 {a : X0} (hs : X6 w σ) (h : ∀ w' σ', Stp w σ w' σ' → K (I (Lr a)) w') : Q1 P F.b9 [S a] w K := Rs (by
  unfold Vh
  refine Vv (fun x w' => w' = w ∧ x = .bool (Vo a)) ?_ (fun x d w' hx => ?_)
  · unfold Vo
    simp only [↓Mm, Mm, ↓Mr, Mr, Mb, reduceIte]
    repeat' (refine Q4 (fun hh => ?_) (fun hh => ?_))
    all_goals (refine ⟨by trivial, ?_⟩; congr 1; simp_all)
  · obtain ⟨rfl, rfl⟩ := hx
    cases hn : Vo a with
    | true =>
      (try simp only [↓Mm, Mm, ↓Mr, Mr, Mb, reduceIte])
      have := h _ _ (Stp.refl hs)
      unfold Lr at this
      simpa [hn] using this
    | false =>
      (try simp only [↓Mm, Mm, ↓Mr, Mr, Mb, reduceIte])
      refine Vv (fun x w'' => w'' = w' ∧ x = .bool (Jl a)) ?_ (fun x d w'' hx => ?_)
      · unfold Jl
        simp only [↓Mm, Mm, ↓Mr, Mr, Mb, reduceIte]
        repeat' (refine Q4 (fun hh => ?_) (fun hh => ?_))
        all_goals (refine ⟨by trivial, ?_⟩; congr 1; simp_all)
      · obtain ⟨rfl, rfl⟩ := hx
        cases ht : Jl a with
        | true =>
          (try simp only [↓Mm, Mm, ↓Mr, Mr, Mb, reduceIte])
          have := h _ _ (Stp.refl hs)
          unfold Lr at this
          simpa [hn, ht] using this
        | false =>
          (try simp only [↓Mm, Mm, ↓Mr, Mr, Mb, reduceIte])
          refine Q52 hs fun w1 σ1 hk1 => ?_
          have := h _ _ hk1
          unfold Lr at this
          simp only [hn, ht, Bool.false_eq_true, if_false] at this
          simp only [Q85, ↓Mm, Mm, ↓Mr, Mr, Mb, reduceIte]
          cases hf : G9 a with
          | none => rw [hf] at this; simp only [Option.isSome_none, ↓Mm, Mm, ↓Mr, Mr, Mb, reduceIte]; simpa using this
          | some i => rw [hf] at this; simp only [Option.isSome_some, ↓Mm, Mm, ↓Mr, Mr, Mb, reduceIte]; simpa using this)
theorem Q2d (a : X0) : decide (Lr a < 0) = !(D4 a).2.2 ∧ decide (Lr a = 1) = (D4 a).1 ∧ decide (Lr a = 2) = (D4 a).2.1 := by
  rw [Q6D]
  have h1 : Vo a = true → Jl a = false ∧ (G9 a).isSome = true := by
    intro h
    unfold Vo at h
    simp only [Bool.or_eq_true, decide_eq_true_eq] at h
    rcases h with (((h | h) | h) | h) | h <;> (subst h; decide)
  have h2 : Jl a = true → (G9 a).isSome = true := by
    intro h
    unfold Jl at h
    simp only [Bool.or_eq_true, decide_eq_true_eq] at h
    rcases h with ((((((h | h) | h) | h) | h) | h) | h) | h <;> (subst h; decide)
  unfold Lr
  cases e1 : Vo a with
  | true => obtain ⟨h3, h4⟩ := h1 e1; rw [h3, h4]; decide
  | false =>
    cases e2 : Jl a with
    | true => rw [h2 e2]; decide
    | false => cases (G9 a).isSome <;> decide
theorem Q9j (s : X0) (c : UInt8) : decide (0 ≤ Lib.indexByte s c) = s.any fun b => decide (b = c) := by
  induction s with
  | nil => rfl
  | cons b r ih =>
    simp only [Lib.indexByte, List.any_cons, ← ih]
    by_cases e : b = c
    · simp [e]
    · have hne : (b == c) = false := by simpa using e
      have hge := Lib.indexByte_ge r c
      simp only [hne, e, decide_false, Bool.false_or, Bool.false_eq_true, if_false]
      by_cases h1 : Lib.indexByte r c = -1
      · simp [h1]
      · have : (Lib.indexByte r c == -1) = false := by simpa using h1
        simp only [this, Bool.false_eq_true, if_false]
        rw [Bool.eq_iff_iff, decide_eq_true_eq, decide_eq_true_eq]; omega
def JB (w : World) (σ : Q6) (b : Bool) (x : Value) (w' : World) : Prop := ∃ σ', Stp w σ w' σ' ∧ x = .bool b
theorem JB.mk {w w' : World} {σ σ' : Q6} {b : Bool} (h : Stp w σ w' σ') : JB w σ b (.bool b) w' := ⟨σ', h, rfl⟩
theorem JB.of {w w' : World} {σ σ' : Q6} {b c : Bool} (h : Stp w σ w' σ') (e : c = b) : JB w σ b (.bool c) w' := ⟨σ', h, by rw [e]⟩
theorem Q8u {s : X0} {n : Nat} (h : n < s.length) : decide ((X3 s n : Int) = 10) = decide (s[n] = 10) := by
  unfold X3
  rw [List.getD_eq_getElem?_getD, List.getElem?_eq_getElem h, Bool.eq_iff_iff, decide_eq_true_eq, decide_eq_true_eq]
  simp only [Option.getD_some]
  rw [← UInt8.toNat_inj]
  constructor
  · intro e; have : s[n].toNat = 10 := by omega
    rw [this]; rfl
  · intro e; rw [e]; rfl
theorem Zd {α : Type} {xs : List α} {p : α → Bool} {n : Nat} (h : n < xs.length) : (xs.take (n + 1)).all p = ((xs.take n).all p && p xs[n]) := by
  rw [List.take_add_one, List.getElem?_eq_getElem h, List.all_append]; simp
set_option maxHeartbeats 2000000 in
theorem Q4u {i : Ins} {cs : List Value} (hs : X6 w σ) (hi : I5 σ i cs) (h : ∀ w' σ', Stp w σ w' σ' → K (I (N6 i)) w') : Q1 P F.b8 [.agg cs.toArray] w K := Cp (by
  obtain ⟨rfl, h1, h2, h3⟩ := hi
  unfold Wj
  refine Z8 hs fun q w1 σ1 hk1 hq => ?_
  have hs1 := hk1.sat
  (try simp only [↓Mm, Mm, ↓Mr, Mr, Mb, reduceIte])
  refine ld hs1 hq rfl ?_
  refine Q58 hs1 fun w2 σ2 hk2 => ?_
  obtain ⟨t1, t2, t3⟩ := Q2d i.op
  have hS2 := hk1.trans hk2
  have hq2 := hq.up hk2
  have hs2 := hS2.sat
  have h3' : i.s.length ≤ 140737488355328 := by simp only [V9] at h3; omega
  simp only [t1, ↓Mm, Mm, ↓Mr, Mr, Mb, reduceIte]
  unfold N6 at h
  cases e1 : (D4 i.op).2.2 with
  | false =>
    simp only [e1, Bool.not_false, if_true] at h
    (try simp only [↓Mm, Mm, ↓Mr, Mr, Mb, reduceIte])
    exact h _ _ hS2
  | true =>
  simp only [e1, Bool.not_true, Bool.false_eq_true, if_false] at h
  simp only [t2, t3, ↓Mm, Mm, ↓Mr, Mr, Mb, reduceIte]
  have fin : ∀ (b : Bool) (w' : World) (σ' : Q6), Stp w σ w' σ' → b = (!((!(D4 i.op).1 && decide (i.n ≠ 0)) || (!(D4 i.op).2.1 && decide (i.s ≠ [])) || ((D4 i.op).2.1 && !txt i.op i.s))) →
      X1 (.bool (!b)) (K (.int .i64 41) w') (K (.int .i64 0) w') := by
    intro b w' σ' hk hb
    subst hb
    rw [Bool.not_not]
    cases hb : ((!(D4 i.op).1 && decide (i.n ≠ 0)) || (!(D4 i.op).2.1 && decide (i.s ≠ [])) || ((D4 i.op).2.1 && !txt i.op i.s)) with
    | true => simp only [hb, if_true] at h; (try simp only [↓Mm, Mm, ↓Mr, Mr, Mb, reduceIte]); exact h _ _ hk
    | false => simp only [hb, Bool.false_eq_true, if_false] at h; (try simp only [↓Mm, Mm, ↓Mr, Mr, Mb, reduceIte]); exact h _ _ hk
  clear h
  have hnt : (D4 i.op).2.1 = true → (D4 i.op).1 = false := by
    intro hx
    rw [← t2, decide_eq_false_iff_not]
    rw [← t3, decide_eq_true_eq] at hx
    omega
  cases htx : (D4 i.op).2.1 with
  | false =>
    rw [htx] at fin t3
    cases hnu : (D4 i.op).1 with
    | true =>
      rw [hnu] at fin t2
      (try simp only [↓Mm, Mm, ↓Mr, Mr, Mb, reduceIte])
      simp only [t3, ↓Mm, Mm, ↓Mr, Mr, Mb, reduceIte]
      refine ld hs2 hq2 rfl ?_
      (try simp only [↓Mm, Mm, ↓Mr, Mr, Mb, reduceIte])
      refine V4 ?_
      intro d
      simp only [↓Mm, Mm, ↓Mr, Mr, Mb, reduceIte]
      exact fin _ _ _ hS2 (by simp)
    | false =>
      rw [hnu] at fin t2
      (try simp only [↓Mm, Mm, ↓Mr, Mr, Mb, reduceIte])
      refine ld hs2 hq2 rfl ?_
      (try simp only [↓Mm, Mm, ↓Mr, Mr, Mb, reduceIte])
      by_cases e0 : i.n = 0
      · have d0 : decide (i.n = 0) = true := by simpa using e0
        simp only [d0, t3, ↓Mm, Mm, ↓Mr, Mr, Mb, reduceIte]
        refine ld hs2 hq2 rfl ?_
        (try simp only [↓Mm, Mm, ↓Mr, Mr, Mb, reduceIte])
        refine V4 ?_
        intro d
        simp only [↓Mm, Mm, ↓Mr, Mr, Mb, reduceIte]
        exact fin _ _ _ hS2 (by simp [e0])
      · have d0 : decide (i.n = 0) = false := by simpa using e0
        simp only [d0, ↓Mm, Mm, ↓Mr, Mr, Mb, reduceIte]
        refine V4 ?_
        intro d
        have hf := fin false _ _ hS2 (by simp [e0])
        (try simp only [↓Mm, Mm, ↓Mr, Mr, Mb, reduceIte] at hf ⊢)
        exact hf
  | true =>
    have hnu := hnt htx
    rw [htx, hnu] at fin
    rw [htx] at t3
    rw [hnu] at t2 ⊢
    (try simp only [↓Mm, Mm, ↓Mr, Mr, Mb, reduceIte])
    refine ld hs2 hq2 rfl ?_
    (try simp only [↓Mm, Mm, ↓Mr, Mr, Mb, reduceIte])
    have fin2 : ∀ (b c : Bool) (w' : World) (σ' : Q6), decide (i.n = 0) = b → Stp w σ w' σ' → c = (b && txt i.op i.s) → X1 (.bool (!c)) (K (.int .i64 41) w') (K (.int .i64 0) w') := by
      intro b c w' σ' hb hk hc
      refine fin c w' σ' hk ?_
      rw [hc, ← hb]
      by_cases e0 : i.n = 0 <;> simp [e0]
    clear fin
    cases hb : decide (i.n = 0) with
    | false =>
      have fin3 := fun w' σ' hk => fin2 false false w' σ' hb hk rfl
      clear fin2
      simp only [t3, ↓Mm, Mm, ↓Mr, Mr, Mb, reduceIte]
      refine Vv (JB w σ false) ?_ (fun x d w' hx => ?_)
      · refine ld hs2 hq2 rfl ?_
        (try simp only [↓Mm, Mm, ↓Mr, Mr, Mb, reduceIte])
        refine Q4 (fun hh => ?_) (fun hh => ?_)
        · refine O4 (a := Value.bool false) i.s.length (fun n x w' => w' = w2 ∧ x = Value.bool false) ⟨rfl, rfl⟩ fun n x w3 d hn hinv => ?_
          obtain ⟨hw, rfl⟩ := hinv
          subst hw
          (try simp only [↓Mm, Mm, ↓Mr, Mr, Mb, reduceIte])
          refine ld hs2 hq2 rfl ?_
          (try simp only [↓Mm, Mm, ↓Mr, Mr, Mb, reduceIte])
          refine Q4 (fun hc => ?_) (fun hc => ?_)
          · have hn' : n < i.s.length := by simpa using hc
            (try simp only [↓Mm, Mm, ↓Mr, Mr, Mb, reduceIte])
            exact J0 (by omega) hn' ⟨rfl, rfl⟩
          · exact .mk hS2
        refine Q4 (fun hh => ?_) (fun hh => ?_)
        · exact .mk hS2
        refine Vv (fun x w' => w' = w2 ∧ ∃ b : Bool, x = Value.bool b) ?_ (fun z d w' hz => ?_)
        · refine Q4 (fun hh => ?_) (fun hh => ?_)
          · exact ⟨rfl, _, rfl⟩
          · exact ⟨rfl, _, rfl⟩
        obtain ⟨hw, b, rfl⟩ := hz
        subst hw
        refine Q4 (fun hh => ?_) (fun hh => ?_)
        · exact .mk hS2
        refine Q4 (fun hh => ?_) (fun hh => ?_)
        · exact .mk hS2
        refine ld hs2 hq2 rfl ?_
        refine Q13 i.s h3' fun w4 hb4 => ?_
        by_cases hd : (P1 i.s).2.2 = true
        · simp only [hd, if_true, ↓Mm, Mm, ↓Mr, Mr, Mb, reduceIte]
          exact .mk (hS2.trans (Stp.of_below hs2 hb4))
        · simp only [hd, if_false, ↓Mm, Mm, ↓Mr, Mr, Mb, reduceIte]
          exact .mk (hS2.trans (Stp.of_below hs2 hb4))
      · obtain ⟨σ', hk, rfl⟩ := hx
        have hf := fin3 w' σ' hk
        (try simp only [↓Mm, Mm, ↓Mr, Mr, Mb, reduceIte] at hf ⊢)
        exact hf
    | true =>
      have fin3 := fun c w' σ' hk hc => fin2 true c w' σ' hb hk hc
      clear fin2
      simp only [t3, ↓Mm, Mm, ↓Mr, Mr, Mb, reduceIte]
      refine Vv (JB w σ (txt i.op i.s)) ?_ (fun x d w' hx => ?_)
      · refine ld hs2 hq2 rfl ?_
        (try simp only [↓Mm, Mm, ↓Mr, Mr, Mb, reduceIte])
        unfold txt
        by_cases o1 : i.op = [119, 111, 114, 100]
        · simp only [if_pos o1, decide_eq_true o1, ↓Mm, Mm, ↓Mr, Mr, Mb, reduceIte]
          refine ld hs2 hq2 rfl ?_
          (try simp only [↓Mm, Mm, ↓Mr, Mr, Mb, reduceIte])
          have e64 : decide ((i.s.length : Int) ≤ 64) = decide (i.s.length ≤ 64) := by rw [Bool.eq_iff_iff, decide_eq_true_eq, decide_eq_true_eq]; omega
          rw [e64, Q9j, List.not_any_eq_all_not]
          cases d64 : decide (i.s.length ≤ 64) with
          | false =>
            (try simp only [↓Mm, Mm, ↓Mr, Mr, Mb, reduceIte])
            refine O4 (a := Value.bool false) i.s.length (fun n x w' => w' = w2 ∧ x = Value.bool false) ⟨rfl, rfl⟩ fun n x w3 d hn hinv => ?_
            obtain ⟨hw, rfl⟩ := hinv
            subst hw
            (try simp only [↓Mm, Mm, ↓Mr, Mr, Mb, reduceIte])
            refine ld hs2 hq2 rfl ?_
            (try simp only [↓Mm, Mm, ↓Mr, Mr, Mb, reduceIte])
            refine Q4 (fun hc => ?_) (fun hc => ?_)
            · have hn' : n < i.s.length := by simpa using hc
              (try simp only [↓Mm, Mm, ↓Mr, Mr, Mb, reduceIte])
              exact J0 (by omega) hn' ⟨rfl, rfl⟩
            · exact .of hS2 (by simp)
          | true =>
            (try simp only [↓Mm, Mm, ↓Mr, Mr, Mb, reduceIte])
            refine ld hs2 hq2 rfl ?_
            refine Q5q h3 hs2 fun w4 hb4 => ?_
            have hk4 := Stp.of_below hs2 hb4
            have hq4 := hq2.up hk4
            have hs4 := hk4.sat
            have hS4 := hS2.trans hk4
            (try simp only [↓Mm, Mm, ↓Mr, Mr, Mb, reduceIte])
            refine O4 (a := Value.bool (Lib.validD i.s)) i.s.length (fun n x w' => w' = w4 ∧ x = Value.bool (Lib.validD i.s && (i.s.take n).all fun c => !decide (c = 10))) ⟨rfl, by simp⟩ fun n x w3 d hn hinv => ?_
            obtain ⟨hw, rfl⟩ := hinv
            subst hw
            (try simp only [↓Mm, Mm, ↓Mr, Mr, Mb, reduceIte])
            refine ld hs4 hq4 rfl ?_
            (try simp only [↓Mm, Mm, ↓Mr, Mr, Mb, reduceIte])
            refine Q4 (fun hc => ?_) (fun hc => ?_)
            · have hn' : n < i.s.length := by simpa using hc
              have hnx : (Lib.validD i.s && (i.s.take (n + 1)).all fun c => !decide (c = 10)) = ((Lib.validD i.s && (i.s.take n).all fun c => !decide (c = 10)) && !decide (i.s[n] = 10)) := by rw [Zd hn', Bool.and_assoc]
              generalize hacc : (Lib.validD i.s && (i.s.take n).all fun c => !decide (c = 10)) = acc at hnx ⊢
              cases acc with
              | false => (try simp only [↓Mm, Mm, ↓Mr, Mr, Mb, reduceIte]); exact J0 (by omega) hn' ⟨rfl, by rw [hnx]; rfl⟩
              | true =>
                (try simp only [↓Mm, Mm, ↓Mr, Mr, Mb, reduceIte])
                refine ld hs4 hq4 rfl ?_
                refine Un hn' ?_
                simp only [Q8u hn', ↓Mm, Mm, ↓Mr, Mr, Mb, reduceIte]
                exact J0 (by omega) hn' ⟨rfl, by rw [hnx]; rfl⟩
            · have hn' : ¬ n < i.s.length := by simpa using hc
              rw [List.take_of_length_le (by omega)]
              exact .of hS4 (by simp)
        · simp only [if_neg o1, decide_eq_false o1, ↓Mm, Mm, ↓Mr, Mr, Mb, reduceIte]
          by_cases o2 : i.op = [110, 101, 119]
          · simp only [if_pos o2, decide_eq_true o2, ↓Mm, Mm, ↓Mr, Mr, Mb, reduceIte]
            refine ld hs2 hq2 rfl ?_
            refine A8 i.s h3' ?_
            (try simp only [↓Mm, Mm, ↓Mr, Mr, Mb, reduceIte])
            exact .mk hS2
          · simp only [if_neg o2, decide_eq_false o2, ↓Mm, Mm, ↓Mr, Mr, Mb, reduceIte]
            refine Vv (fun x w' => w' = w2 ∧ x = Value.bool (decide (i.op = [105, 115] ∨ i.op = [99, 97, 115, 116]))) ?_ (fun z d w' hz => ?_)
            · refine Q4 (fun hh => ?_) (fun hh => ?_)
              · exact ⟨rfl, by simp_all⟩
              · exact ⟨rfl, by simp_all⟩
            obtain ⟨hw, rfl⟩ := hz
            subst hw
            by_cases o3 : i.op = [105, 115] ∨ i.op = [99, 97, 115, 116]
            · simp only [if_pos o3, decide_eq_true o3, ↓Mm, Mm, ↓Mr, Mr, Mb, reduceIte]
              refine ld hs2 hq2 rfl ?_
              refine Uj i.s h3' ?_
              cases hr : right i.s with
              | false => (try simp only [↓Mm, Mm, ↓Mr, Mr, Mb, reduceIte]); exact .mk hS2
              | true =>
                (try simp only [↓Mm, Mm, ↓Mr, Mr, Mb, reduceIte])
                refine ld hs2 hq2 rfl ?_
                refine Yc i.s ?_
                (try simp only [↓Mm, Mm, ↓Mr, Mr, Mb, reduceIte])
                exact .mk hS2
            · simp only [if_neg o3, decide_eq_false o3, ↓Mm, Mm, ↓Mr, Mr, Mb, reduceIte]
              by_cases o4 : i.op = [97, 114, 114, 97, 121]
              · simp only [if_pos o4, decide_eq_true o4, ↓Mm, Mm, ↓Mr, Mr, Mb, reduceIte]
                refine ld hs2 hq2 rfl ?_
                refine Uj i.s h3' ?_
                cases hr : right i.s with
                | false => (try simp only [↓Mm, Mm, ↓Mr, Mr, Mb, reduceIte]); exact .mk hS2
                | true =>
                  (try simp only [↓Mm, Mm, ↓Mr, Mr, Mb, reduceIte])
                  refine ld hs2 hq2 rfl ?_
                  refine Tp i.s h3' ?_
                  (try simp only [↓Mm, Mm, ↓Mr, Mr, Mb, reduceIte])
                  have e3 : decide (((V2 i.s).2 : Int) < 3) = decide (Aj i.s < 3) := by
                    unfold Aj; rw [if_pos hr, Bool.eq_iff_iff, decide_eq_true_eq, decide_eq_true_eq]; omega
                  rw [e3]
                  exact .mk hS2
              · simp only [if_neg o4, decide_eq_false o4, ↓Mm, Mm, ↓Mr, Mr, Mb, reduceIte]
                refine ld hs2 hq2 rfl ?_
                refine Q13 i.s h3' fun w4 hb4 => ?_
                have hS4 := hS2.trans (Stp.of_below hs2 hb4)
                by_cases hd : (P1 i.s).2.2 = true
                · simp only [hd, if_true, ↓Mm, Mm, ↓Mr, Mr, Mb, reduceIte]
                  exact .mk hS4
                · have : Qx i.s = false := by unfold Qx; rw [eq_false_of_ne_true hd]; rfl
                  simp only [hd, if_false, ↓Mm, Mm, ↓Mr, Mr, Mb, reduceIte]
                  exact .of hS4 this.symm
      · obtain ⟨σ', hk, rfl⟩ := hx
        have hf := fin3 _ w' σ' hk rfl
        simp only [Bool.true_and] at hf
        (try simp only [↓Mm, Mm, ↓Mr, Mr, Mb, reduceIte])
        exact hf)
end Go.Proofs.YtdnfaboigajkhaaGreatDoor

namespace Go.Emb
theorem Y7 {w : World} {K : Value → World → Prop} {v : Value} (h : K v w) : Q0 (.bool true) true w (fun w J => J v w) K := by rw [F5]; exact h
theorem Y9 {w : World} {K : Value → World → Prop} {v : Value} (h : K v w) : Q0 (.bool false) false w (fun w J => J v w) K := by rw [Ju]; exact h
theorem Z7 {w : World} {K : Value → World → Prop} {b : Bool} {run : World → (Value → World → Prop) → Prop} (h : K undef w) : Q0 undef b w run K := by rw [Gx]; exact h
end Go.Emb
namespace Go.Proofs.YtdnfaboigajkhaaGreatDoor
open Go.Emb Go.RowKit Go.Kd Go.Hm
variable {w : World} {K : Value → World → Prop} {σ : Q6}
theorem Q7t {xs : List Ins} {v : Value} (hs : X6 w σ) (hv : Sl 3 I5 σ v xs) (h : ∀ e w' σ', Stp w σ w' σ' → decide (e = 0) = xs.all (fun i => decide (N6 i = 0)) → K (I e) w') : Q1 P F.aK [v] w K := Gj (by
  unfold Lq
  refine V7 xs.length (fun n w' => ∃ σ', Stp w σ w' σ' ∧ (xs.take n).all (fun i => decide (N6 i = 0)) = true) ⟨σ, Stp.refl hs, rfl⟩ fun n w1 d hn hinv => ?_
  obtain ⟨σ1, hk1, hall⟩ := hinv
  have hv1 := hv.up hk1
  refine Q7 hv1 ?_
  refine U0 ?_
  refine Q4 (fun hc => ?_) (fun hc => ?_)
  · have hn' : n < xs.length := by simpa using hc
    refine Z1 hv1 hn' ?_
    obtain ⟨p1, r1⟩ := hv1.elI hn'
    refine Z0 hk1.sat p1 rfl ?_
    refine Q4u hk1.sat r1 fun w2 σ2 hk2 => ?_
    refine Ds ?_
    by_cases e : N6 xs[n] = 0
    · have : decide (N6 xs[n] = 0) = true := by simpa using e
      simp only [this, ↓Mm, Mm, ↓Mr, Mr, Mb, reduceIte]
      exact Z2 hv.max hn' ⟨σ2, hk1.trans hk2, by rw [Zd hn', hall]; simpa using e⟩
    · have : decide (N6 xs[n] = 0) = false := by simpa using e
      simp only [this, ↓Mm, Mm, ↓Mr, Mr, Mb, reduceIte]
      refine h _ _ _ (hk1.trans hk2) ?_
      rw [this]
      symm
      rw [← Bool.not_eq_true, List.all_eq_true]
      intro hx
      have := hx _ (List.getElem_mem hn')
      simp at this
      exact e this
  · have hn' : ¬ n < xs.length := by simpa using hc
    rw [List.take_of_length_le (by omega)] at hall
    exact h 0 _ _ hk1 (by rw [hall]; rfl))
theorem Q6t {c : Cla} {cs : List Value} (hs : X6 w σ) (hc : V0 σ c cs) (h : ∀ w' σ', Stp w σ w' σ' → K (.bool (Xe c)) w') : Q1 P F.bf [.agg cs.toArray] w K := By (by
  unfold Lf
  obtain ⟨lv, fv, mv, rfl, f1, f2, f3, f4, f5⟩ := hc
  refine Z8 hs fun q w1 σ1 hk1 hq => ?_
  have f1 := f1.up hk1
  have f2 := f2.up hk1
  have f3 := f3.up hk1
  refine V7 c.methods.length (fun n w' => ∃ σ', Stp w1 σ1 w' σ' ∧ (c.methods.take n).any Ji = false) ⟨σ1, Stp.refl hk1.sat, rfl⟩ fun n w2 d hn hinv => ?_
  obtain ⟨σ2, hk2, hno⟩ := hinv
  have hq2 := hq.up hk2
  have f32 := f3.up hk2
  have f12 := f1.up hk2
  have f22 := f2.up hk2
  have hs2 := hk2.sat
  (try simp only [↓Mm, Mm, ↓Mr, Mr, Mb, reduceIte])
  refine ld hs2 hq2 rfl ?_
  refine Q7 f32 ?_
  refine U0 ?_
  refine Q4 (fun hc => ?_) (fun hc => ?_)
  · have hn' : n < c.methods.length := by simpa using hc
    (try simp only [↓Mm, Mm, ↓Mr, Mr, Mb, reduceIte])
    refine ld hs2 hq2 rfl ?_
    refine Z1 f32 hn' ?_
    obtain ⟨pv, cv, hv, p1, r1⟩ := f32.elM hn'
    refine Z0 hs2 p1 rfl ?_
    refine Y2 hs2 (by rfl) rfl (Rep.one r1) fun q3 w3 σ3 hk3 hq3 => ?_
    obtain ⟨g1, g2, g3, _, _, _⟩ := (S3 r1 ⟨hk3.le⟩).parts
    have hS3 := hk1.trans (hk2.trans hk3)
    have hyes : Ji c.methods[n] = true → K (.bool true) w3 := fun e => by
      have := h _ _ hS3
      have hm : Xe c = true := by unfold Xe; rw [R5 hn' e]; rfl
      rwa [hm] at this
    have hk23 := hk2.trans hk3
    clear h hk2 hk3 hS3
    have hmax := f3.max
    (repeat' (first | (with_reducible intro _) | (with_reducible refine V4 ?_) | (simp only [↓Mm, Mm, ↓Mp, Mp, Mb, reduceIte]) | (with_reducible first | refine ld aS aL aR ?_ | refine X7 aS aL aR ?_ | refine Z0 aS aL aR ?_ | refine Q7 aL ?_ | refine Z3 aR ?_ | refine Z8 aS ?_ | refine W5 aS aL ?_ | refine U4 aS aR ?_ | refine Y2 aS aR aR (Rep.one (by assumption)) ?_ | refine U2 aS aR aR aR ?_ | (refine Y1 (fun hh => ?_) (fun hh => ?_) <;> (try simp only [hh, Bool.not_true, Bool.not_false, ↓Mm, Mm, ↓Mp, Mp, Mb, reduceIte])) | (refine Q4 (fun hh => ?_) (fun hh => ?_) <;> (try simp only [hh, Bool.not_true, Bool.not_false, ↓Mm, Mm, ↓Mp, Mp, Mb, reduceIte])))))
    all_goals clear hq hq2 f1 f2 f3 f32 f12 f22 hs hs2 p1 r1 g1 g2 g3 hk1 f4 f5 hq3
    all_goals first
      | (refine hyes ?_; clear hyes hk23; unfold Ji; simp only [Bool.not_false, Bool.not_true, Bool.or_eq_true, decide_eq_true_eq, decide_eq_false_iff_not] at *; omega)
      | (have hnx : (c.methods.take (n + 1)).any Ji = false := by
           rw [M5 hn', hno, Bool.false_or]; clear hyes hk23; unfold Ji; simp only [Bool.or_eq_false_iff, decide_eq_false_iff_not] at *; omega
         exact Z2 hmax hn' ⟨_, hk23, hnx⟩)
  · have hn' : ¬ n < c.methods.length := by simpa using hc
    rw [D0 hn'] at hno
    have hS2 := hk1.trans hk2
    have hm : Xe c = (decide (32 < c.like.length) || decide (32 < c.fields.length) || decide (32 < c.methods.length)) := by unfold Xe; rw [hno]; simp
    rw [hm] at h
    have hK := h _ _ hS2
    clear h hk2
    (try simp only [↓Mm, Mm, ↓Mr, Mr, Mb, reduceIte])
    refine ld hs2 hq2 rfl ?_
    refine Q7 f12 ?_
    have d32 : ∀ k : Nat, decide ((32 : Int) < (k : Int)) = decide (32 < k) := fun k => by rw [Bool.eq_iff_iff, decide_eq_true_eq, decide_eq_true_eq]; omega
    simp only [d32, ↓Mm, Mm, ↓Mr, Mr, Mb, reduceIte]
    cases e1 : decide (32 < c.like.length) with
    | true => rw [e1] at hK; (try simp only [↓Mm, Mm, ↓Mr, Mr, Mb, reduceIte]); simpa using hK
    | false =>
      rw [e1] at hK
      (try simp only [↓Mm, Mm, ↓Mr, Mr, Mb, reduceIte])
      refine ld hs2 hq2 rfl ?_
      refine Q7 f22 ?_
      simp only [d32, ↓Mm, Mm, ↓Mr, Mr, Mb, reduceIte]
      cases e2 : decide (32 < c.fields.length) with
      | true => rw [e2] at hK; (try simp only [↓Mm, Mm, ↓Mr, Mr, Mb, reduceIte]); simpa using hK
      | false =>
        rw [e2] at hK
        (try simp only [↓Mm, Mm, ↓Mr, Mr, Mb, reduceIte])
        refine ld hs2 hq2 rfl ?_
        refine Q7 f32 ?_
        simp only [d32, ↓Mm, Mm, ↓Mr, Mr, Mb, reduceIte]
        simpa using hK)
theorem Q48 {α : Type} {xs : List α} {p : α → Bool} {n : Nat} (h : ¬ n < xs.length) : (xs.take n).all p = xs.all p := by rw [List.take_of_length_le (by omega)]
set_option maxHeartbeats 4000000 in
theorem Ix {m : Hm.Met} {pv cv hv : Value} {w1 : World} {σ1 : Q6} {q : Addr} {ok0 : Bool} (hs : X6 w σ) (hk1 : Stp w σ w1 σ1) (hq : J4 σ1 q [S m.name, pv, S m.result, .bool m.abs, I m.locals, cv, hv]) (g1 : Sl 1 U9 σ1 pv m.params) (g2 : Sl 3 I5 σ1 cv m.code) (g3 : Sl 4 Qt σ1 hv m.catches)
    (h : ∀ w' σ', Stp w σ w' σ' → K (.bool ((ok0 && m.params.all right) && if m.abs then decide (m.locals = 0) && decide (m.code = []) && decide (m.catches = [])
      else decide (m.code ≠ []) && decide ((m.params.length : Int) < m.locals) && m.code.all (fun i => decide (N6 i = 0)) && m.catches.all (R8 m.code.length))) w') :
  lp (α := Value × Value) (Value.bool ok0, (.int .i64 0)) w1 fun again4 x4 d_ w =>
    fieldAddr P T.c (.pointer (some q)) 1 w fun t22 w =>
    Q2 P T.g t22 w fun t23 w =>
    X5 P .len [T.g] T.d [false] [t23] w fun t24 w =>
    Q3 P .lss T.d (.tmp 21) (.tmp 24) x4.2 t24 w fun t25 w =>
    X1 t25 (
      Q0 x4.1 true w (fieldAddr P T.c (.pointer (some q)) 1) fun t30 w =>
      Q0 x4.1 true w (Q2 P T.g t30) fun t31 w =>
      Q0 x4.1 true w (fun w J => J x4.2 w) fun t32 w =>
      Q0 x4.1 true w (indexAddr P T.g t31 t32) fun t33 w =>
      Q0 x4.1 true w (Q2 P T.b t33) fun t34 w =>
      Q0 x4.1 true w (Q1 P F.i [t34]) fun t35 w =>
      pick P x4.1 t35 (.bool false) w fun t36 w =>
      Q3 P .add T.d (.tmp 26) (.const (.int .i64 1)) x4.2 (.int .i64 1) w fun t27 w =>
      again4 (t36, t27) w) (
      fieldAddr P T.c (.pointer (some q)) 3 w fun t37 w =>
      Q2 P T.m t37 w fun t38 w =>
      X1 t38 (
        Q0 x4.1 true w (fieldAddr P T.c (.pointer (some q)) 4) fun t41 w =>
        Q0 x4.1 true w (Q2 P T.d t41) fun t42 w =>
        Q0 x4.1 true w (Q3 P .eql T.d (.tmp 42) (.const (.int .i64 0)) t42 (.int .i64 0)) fun t43 w =>
        pick P x4.1 t43 (.bool false) w fun t44 w =>
        Q0 t44 true w (fieldAddr P T.c (.pointer (some q)) 5) fun t46 w =>
        Q0 t44 true w (Q2 P T.j t46) fun t47 w =>
        Q0 t44 true w (X5 P .len [T.j] T.d [false] [t47]) fun t48 w =>
        Q0 t44 true w (Q3 P .eql T.d (.tmp 48) (.const (.int .i64 0)) t48 (.int .i64 0)) fun t49 w =>
        pick P t44 t49 (.bool false) w fun t50 w =>
        Q0 t50 true w (fieldAddr P T.c (.pointer (some q)) 6) fun t52 w =>
        Q0 t50 true w (Q2 P T.k t52) fun t53 w =>
        Q0 t50 true w (X5 P .len [T.k] T.d [false] [t53]) fun t54 w =>
        Q0 t50 true w (Q3 P .eql T.d (.tmp 54) (.const (.int .i64 0)) t54 (.int .i64 0)) fun t55 w =>
        pick P t50 t55 (.bool false) w fun t56 w =>
        K t56 w) (
        fieldAddr P T.c (.pointer (some q)) 5 w fun t57 w =>
        Q2 P T.j t57 w fun t58 w =>
        X5 P .len [T.j] T.d [false] [t58] w fun t59 w =>
        lp (α := Value × Value) (x4.1, (.int .i64 0)) w fun again14 x14 d_ w =>
          fieldAddr P T.c (.pointer (some q)) 6 w fun t61 w =>
          Q2 P T.k t61 w fun t62 w =>
          X5 P .len [T.k] T.d [false] [t62] w fun t63 w =>
          Q3 P .lss T.d (.tmp 60) (.tmp 63) x14.2 t63 w fun t64 w =>
          X1 t64 (
            fieldAddr P T.c (.pointer (some q)) 6 w fun t67 w =>
            Q2 P T.k t67 w fun t68 w =>
            indexAddr P T.k t68 x14.2 w fun t70 w =>
            Q2 P T.l t70 w fun t71 w =>
            M3 P T.l w fun t7 w =>
            V6 P T.l t7 t71 w fun _u w =>
            Q0 x14.1 true w (fieldAddr P T.l t7 0) fun t74 w =>
            Q0 x14.1 true w (Q2 P T.d t74) fun t75 w =>
            Q0 x14.1 true w (Q3 P .geq T.d (.tmp 75) (.const (.int .i64 0)) t75 (.int .i64 0)) fun t76 w =>
            pick P x14.1 t76 (.bool false) w fun t77 w =>
            Q0 t77 true w (fieldAddr P T.l t7 0) fun t79 w =>
            Q0 t77 true w (Q2 P T.d t79) fun t80 w =>
            Q0 t77 true w (fieldAddr P T.l t7 1) fun t81 w =>
            Q0 t77 true w (Q2 P T.d t81) fun t82 w =>
            Q0 t77 true w (Q3 P .lss T.d (.tmp 80) (.tmp 82) t80 t82) fun t83 w =>
            pick P t77 t83 (.bool false) w fun t84 w =>
            Q0 t84 true w (fieldAddr P T.l t7 1) fun t86 w =>
            Q0 t84 true w (Q2 P T.d t86) fun t87 w =>
            Q0 t84 true w (fun w J => J t59 w) fun t88 w =>
            Q0 t84 true w (Q3 P .leq T.d (.tmp 87) (.tmp 88) t87 t88) fun t89 w =>
            pick P t84 t89 (.bool false) w fun t90 w =>
            Q0 t90 true w (fieldAddr P T.l t7 2) fun t92 w =>
            Q0 t90 true w (Q2 P T.d t92) fun t93 w =>
            Q0 t90 true w (Q3 P .geq T.d (.tmp 93) (.const (.int .i64 0)) t93 (.int .i64 0)) fun t94 w =>
            pick P t90 t94 (.bool false) w fun t95 w =>
            Q0 t95 true w (fieldAddr P T.l t7 2) fun t97 w =>
            Q0 t95 true w (Q2 P T.d t97) fun t98 w =>
            Q0 t95 true w (fun w J => J t59 w) fun t99 w =>
            Q0 t95 true w (Q3 P .lss T.d (.tmp 98) (.tmp 99) t98 t99) fun t100 w =>
            pick P t95 t100 (.bool false) w fun t101 w =>
            Q0 t101 true w (fieldAddr P T.l t7 3) fun t103 w =>
            Q0 t101 true w (Q2 P T.b t103) fun t104 w =>
            Q0 t101 true w (Q1 P F.e [t104]) fun t105 w =>
            pick P t101 t105 (.bool false) w fun t106 w =>
            Q3 P .add T.d (.tmp 65) (.const (.int .i64 1)) x14.2 (.int .i64 1) w fun t66 w =>
            again14 (t106, t66) w) (
            Q0 x14.1 true w (fun w J => J t59 w) fun t109 w =>
            Q0 x14.1 true w (Q3 P .gtr T.d (.tmp 109) (.const (.int .i64 0)) t109 (.int .i64 0)) fun t110 w =>
            pick P x14.1 t110 (.bool false) w fun t111 w =>
            Q0 t111 true w (fieldAddr P T.c (.pointer (some q)) 4) fun t113 w =>
            Q0 t111 true w (Q2 P T.d t113) fun t114 w =>
            Q0 t111 true w (fieldAddr P T.c (.pointer (some q)) 1) fun t115 w =>
            Q0 t111 true w (Q2 P T.g t115) fun t116 w =>
            Q0 t111 true w (X5 P .len [T.g] T.d [false] [t116]) fun t117 w =>
            Q0 t111 true w (Q3 P .gtr T.d (.tmp 114) (.tmp 117) t114 t117) fun t118 w =>
            pick P t111 t118 (.bool false) w fun t119 w =>
            Q0 t119 true w (fieldAddr P T.c (.pointer (some q)) 5) fun t121 w =>
            Q0 t119 true w (Q2 P T.j t121) fun t122 w =>
            Q0 t119 true w (Q1 P F.aK [t122]) fun t123 w =>
            Q0 t119 true w (Q3 P .eql T.t (.tmp 123) (.const (.int .i64 0)) t123 (.int .i64 0)) fun t124 w =>
            pick P t119 t124 (.bool false) w fun t125 w =>
            K t125 w))) := by
  have hs1 := hk1.sat
  have c0 : decide ((m.code.length : Int) = 0) = decide (m.code = []) := by cases m.code <;> simp; omega
  have c1 : decide ((m.catches.length : Int) = 0) = decide (m.catches = []) := by cases m.catches <;> simp; omega
  have c2 : decide ((0 : Int) < m.code.length) = decide (m.code ≠ []) := by cases m.code <;> simp
  refine O4 (a := Value.bool ok0) m.params.length (fun n x w' => ∃ σ', Stp w1 σ1 w' σ' ∧ x = Value.bool (ok0 && (m.params.take n).all right)) ⟨σ1, Stp.refl hs1, by simp⟩ fun n x w2 d hn hinv => ?_
  obtain ⟨σ2, hk2, rfl⟩ := hinv
  have hq2 := hq.up hk2
  have g12 := g1.up hk2
  have hs2 := hk2.sat
  (try simp only [↓Mm, Mm, ↓Mr, Mr, Mb, reduceIte])
  refine ld hs2 hq2 rfl ?_
  refine Q7 g12 ?_
  refine U0 ?_
  refine Q4 (fun hc => ?_) (fun hc => ?_)
  · have hn' : n < m.params.length := by simpa using hc
    have hnx : (ok0 && (m.params.take (n + 1)).all right) = ((ok0 && (m.params.take n).all right) && right m.params[n]) := by rw [Zd hn', Bool.and_assoc]
    generalize (ok0 && (m.params.take n).all right) = acc at hnx ⊢
    cases acc with
    | false => (try simp only [↓Mm, Mm, ↓Mr, Mr, Mb, reduceIte]); exact J0 g1.max hn' ⟨σ2, hk2, by rw [hnx]; rfl⟩
    | true =>
      (try simp only [↓Mm, Mm, ↓Mr, Mr, Mb, reduceIte])
      refine ld hs2 hq2 rfl ?_
      (try simp only [↓Mm, Mm, ↓Mr, Mr, Mb, reduceIte])
      refine Z1 g12 hn' ?_
      obtain ⟨p1, p2⟩ := g12.elS hn'
      refine X7 hs2 p1 rfl ?_
      refine Uj _ (by simp only [V9] at p2; omega) ?_
      (try simp only [↓Mm, Mm, ↓Mr, Mr, Mb, reduceIte])
      exact J0 g1.max hn' ⟨σ2, hk2, by rw [hnx]; rfl⟩
  · have hn' : ¬ n < m.params.length := by simpa using hc
    rw [Q48 hn']
    have hS2 := hk1.trans hk2
    have g22 := g2.up hk2
    have g32 := g3.up hk2
    clear hk1 hk2 hq g1 g2 g3 hn hc
    generalize (ok0 && m.params.all right) = acc at h ⊢
    refine ld hs2 hq2 rfl ?_
    cases hab : m.abs with
    | true =>
      simp only [hab, if_true] at h
      have hK := h _ _ hS2
      clear h
      (try simp only [↓Mm, Mm, ↓Mr, Mr, Mb, reduceIte])
      cases acc with
      | false => (try simp only [↓Mm, Mm, ↓Mr, Mr, Mb, reduceIte]); simpa using hK
      | true =>
        (try simp only [↓Mm, Mm, ↓Mr, Mr, Mb, reduceIte])
        refine ld hs2 hq2 rfl ?_
        (try simp only [↓Mm, Mm, ↓Mr, Mr, Mb, reduceIte])
        cases hl0 : decide (m.locals = 0) with
        | false => rw [hl0] at hK; (try simp only [↓Mm, Mm, ↓Mr, Mr, Mb, reduceIte]); simpa using hK
        | true =>
          rw [hl0] at hK
          (try simp only [↓Mm, Mm, ↓Mr, Mr, Mb, reduceIte])
          refine ld hs2 hq2 rfl ?_
          refine Q7 g22 ?_
          simp only [c0, ↓Mm, Mm, ↓Mr, Mr, Mb, reduceIte]
          cases hc0 : decide (m.code = []) with
          | false => rw [hc0] at hK; (try simp only [↓Mm, Mm, ↓Mr, Mr, Mb, reduceIte]); simpa using hK
          | true =>
            rw [hc0] at hK
            (try simp only [↓Mm, Mm, ↓Mr, Mr, Mb, reduceIte])
            refine ld hs2 hq2 rfl ?_
            refine Q7 g32 ?_
            simp only [c1, ↓Mm, Mm, ↓Mr, Mr, Mb, reduceIte]
            simpa using hK
    | false =>
      simp only [hab, Bool.false_eq_true, if_false] at h
      (try simp only [↓Mm, Mm, ↓Mr, Mr, Mb, reduceIte])
      refine ld hs2 hq2 rfl ?_
      refine Q7 g22 ?_
      refine O4 (a := Value.bool acc) m.catches.length (fun n x w' => ∃ σ', Stp w2 σ2 w' σ' ∧ x = Value.bool (acc && (m.catches.take n).all (R8 m.code.length))) ⟨σ2, Stp.refl hs2, by simp⟩ fun n x w4 d hn hinv => ?_
      obtain ⟨σ4, hk4, rfl⟩ := hinv
      have hq4 := hq2.up hk4
      have g34 := g32.up hk4
      have hs4 := hk4.sat
      (try simp only [↓Mm, Mm, ↓Mr, Mr, Mb, reduceIte])
      refine ld hs4 hq4 rfl ?_
      refine Q7 g34 ?_
      refine U0 ?_
      refine Q4 (fun hc => ?_) (fun hc => ?_)
      · have hn' : n < m.catches.length := by simpa using hc
        have hnx : (acc && (m.catches.take (n + 1)).all (R8 m.code.length)) = ((acc && (m.catches.take n).all (R8 m.code.length)) && R8 m.code.length m.catches[n]) := by rw [Zd hn', Bool.and_assoc]
        generalize (acc && (m.catches.take n).all (R8 m.code.length)) = ac2 at hnx ⊢
        (try simp only [↓Mm, Mm, ↓Mr, Mr, Mb, reduceIte])
        refine ld hs4 hq4 rfl ?_
        refine Z1 g34 hn' ?_
        obtain ⟨p1, r1⟩ := g34.elK hn'
        have hcl : m.catches[n].cls.length ≤ 140737488355328 := by have := r1.2.2.2.2; simp only [V9] at this; omega
        refine Z0 hs4 p1 rfl ?_
        refine Y2 hs4 (by rfl) rfl (Rep.one r1) fun q5 w5 σ5 hk5 hq5 => ?_
        have hs5 := hk5.sat
        have hk45 := hk4.trans hk5
        cases ac2 with
        | false => (try simp only [↓Mm, Mm, ↓Mr, Mr, Mb, reduceIte]); exact J0 g32.max hn' ⟨σ5, hk45, by rw [hnx]; rfl⟩
        | true =>
          have hcK : ∀ b, R8 m.code.length m.catches[n] = b → He m.catches.length (fun n x w' => ∃ σ', Stp w2 σ2 w' σ' ∧ x = Value.bool (acc && (m.catches.take n).all (R8 m.code.length))) (Value.bool b, .int .i64 (IntKind.i64.wrap (n + 1))) w5 ∧ Vj m.catches.length (Value.bool b, .int .i64 (IntKind.i64.wrap (n + 1))) < Vj m.catches.length (Value.bool true, I n) := fun b e => J0 g32.max hn' ⟨σ5, hk45, by rw [hnx, e]; rfl⟩
          unfold R8 at hcK
          generalize m.catches[n] = x at hq5 hcK hcl
          clear hnx p1 r1 hq4 hq2 g34 h
          (try simp only [↓Mm, Mm, ↓Mr, Mr, Mb, reduceIte])
          refine ld hs5 hq5 rfl ?_
          (try simp only [↓Mm, Mm, ↓Mr, Mr, Mb, reduceIte])
          cases d1 : decide (0 ≤ x.frm) with
          | false => (try simp only [↓Mm, Mm, ↓Mr, Mr, Mb, reduceIte]); exact hcK _ (by simp [d1])
          | true =>
          (try simp only [↓Mm, Mm, ↓Mr, Mr, Mb, reduceIte])
          refine ld hs5 hq5 rfl ?_
          (try simp only [↓Mm, Mm, ↓Mr, Mr, Mb, reduceIte])
          refine ld hs5 hq5 rfl ?_
          (try simp only [↓Mm, Mm, ↓Mr, Mr, Mb, reduceIte])
          cases d2 : decide (x.frm < x.to) with
          | false => (try simp only [↓Mm, Mm, ↓Mr, Mr, Mb, reduceIte]); exact hcK _ (by simp [d1, d2])
          | true =>
          (try simp only [↓Mm, Mm, ↓Mr, Mr, Mb, reduceIte])
          refine ld hs5 hq5 rfl ?_
          (try simp only [↓Mm, Mm, ↓Mr, Mr, Mb, reduceIte])
          cases d3 : decide (x.to ≤ (m.code.length : Int)) with
          | false => (try simp only [↓Mm, Mm, ↓Mr, Mr, Mb, reduceIte]); exact hcK _ (by simp [d1, d2, d3])
          | true =>
          (try simp only [↓Mm, Mm, ↓Mr, Mr, Mb, reduceIte])
          refine ld hs5 hq5 rfl ?_
          (try simp only [↓Mm, Mm, ↓Mr, Mr, Mb, reduceIte])
          cases d4 : decide (0 ≤ x.at_) with
          | false => (try simp only [↓Mm, Mm, ↓Mr, Mr, Mb, reduceIte]); exact hcK _ (by simp [d1, d2, d3, d4])
          | true =>
          (try simp only [↓Mm, Mm, ↓Mr, Mr, Mb, reduceIte])
          refine ld hs5 hq5 rfl ?_
          (try simp only [↓Mm, Mm, ↓Mr, Mr, Mb, reduceIte])
          cases d5 : decide (x.at_ < (m.code.length : Int)) with
          | false => (try simp only [↓Mm, Mm, ↓Mr, Mr, Mb, reduceIte]); exact hcK _ (by simp [d1, d2, d3, d4, d5])
          | true =>
          (try simp only [↓Mm, Mm, ↓Mr, Mr, Mb, reduceIte])
          refine ld hs5 hq5 rfl ?_
          refine A8 x.cls hcl ?_
          (try simp only [↓Mm, Mm, ↓Mr, Mr, Mb, reduceIte])
          exact hcK _ (by simp [d1, d2, d3, d4, d5])
      · have hn' : ¬ n < m.catches.length := by simpa using hc
        rw [Q48 hn']
        have hS4 := hS2.trans hk4
        have g24 := g22.up hk4
        have g14 := g12.up hk4
        have hh : ∀ w' σ', Stp w σ w' σ' → K (.bool ((acc && m.catches.all (R8 m.code.length)) && (decide (m.code ≠ []) && decide ((m.params.length : Int) < m.locals) && m.code.all (fun i => decide (N6 i = 0))))) w' := by
          intro w' σ' hk
          have := h w' σ' hk
          refine Eq.subst (motive := fun b => K (.bool b) w') ?_ this
          cases acc <;> cases m.catches.all (R8 m.code.length) <;> simp
        clear h hk4
        generalize (acc && m.catches.all (R8 m.code.length)) = ac3 at hh ⊢
        cases ac3 with
        | false => (try simp only [↓Mm, Mm, ↓Mr, Mr, Mb, reduceIte]); simpa using hh _ _ hS4
        | true =>
          (try simp only [↓Mm, Mm, ↓Mr, Mr, Mb, reduceIte])
          simp only [c2, ↓Mm, Mm, ↓Mr, Mr, Mb, reduceIte]
          cases hcn : decide (m.code ≠ []) with
          | false => rw [hcn] at hh; (try simp only [↓Mm, Mm, ↓Mr, Mr, Mb, reduceIte]); simpa using hh _ _ hS4
          | true =>
            rw [hcn] at hh
            (try simp only [↓Mm, Mm, ↓Mr, Mr, Mb, reduceIte])
            refine ld hs4 hq4 rfl ?_
            (try simp only [↓Mm, Mm, ↓Mr, Mr, Mb, reduceIte])
            refine ld hs4 hq4 rfl ?_
            refine Q7 g14 ?_
            (try simp only [↓Mm, Mm, ↓Mr, Mr, Mb, reduceIte])
            cases hlp : decide ((m.params.length : Int) < m.locals) with
            | false => rw [hlp] at hh; (try simp only [↓Mm, Mm, ↓Mr, Mr, Mb, reduceIte]); simpa using hh _ _ hS4
            | true =>
              rw [hlp] at hh
              (try simp only [↓Mm, Mm, ↓Mr, Mr, Mb, reduceIte])
              refine ld hs4 hq4 rfl ?_
              refine Q7t hs4 g24 fun e w6 σ6 hk6 he => ?_
              simp only [he, ↓Mm, Mm, ↓Mr, Mr, Mb, reduceIte]
              simpa using hh _ _ (hS4.trans hk6)
set_option maxHeartbeats 2000000 in
theorem Q4Y {m : Hm.Met} {cs : List Value} (hs : X6 w σ) (hm : M8 σ m cs) (h : ∀ w' σ', Stp w σ w' σ' → K (.bool (S7 m)) w') : Q1 P F.y [.agg cs.toArray] w K := Re (by
  unfold Jy
  obtain ⟨pv, cv, hv, rfl, f1, f2, f3, f4, f5, f6⟩ := hm
  have f4' : m.name.length ≤ 140737488355328 := by simp only [V9] at f4; omega
  have f5' : m.result.length ≤ 140737488355328 := by simp only [V9] at f5; omega
  refine Z8 hs fun q w1 σ1 hk1 hq => ?_
  have g1 := f1.up hk1
  have g2 := f2.up hk1
  have g3 := f3.up hk1
  have hs1 := hk1.sat
  obtain ⟨ok0, hok0⟩ : ∃ b, b = (M1 m.name && (decide (m.result = []) || right m.result)) := ⟨_, rfl⟩
  have hmc : S7 m = ((ok0 && m.params.all right) && if m.abs then decide (m.locals = 0) && decide (m.code = []) && decide (m.catches = [])
      else decide (m.code ≠ []) && decide ((m.params.length : Int) < m.locals) && m.code.all (fun i => decide (N6 i = 0)) && m.catches.all (R8 m.code.length)) := by
    rw [hok0]; unfold S7
    cases M1 m.name <;> cases m.params.all right <;> cases decide (m.result = []) <;> cases right m.result <;> rfl
  rw [hmc] at h
  clear hmc
  (repeat (with_reducible first | refine Y7 ?_ | refine Y9 ?_ | refine Y5 ?_ | refine Y8 ?_ | refine Z6 ?_ | refine Z5 ?_ | refine Y6 ?_ | refine Y4 ?_ | refine W1 ?_ | refine Z7 ?_ | refine U3 ?_))
  refine ld hs1 hq rfl ?_
  refine Sh m.name f4' ?_
  cases hme : M1 m.name with
  | false =>
    have e0 : ok0 = false := by rw [hok0, hme]; rfl
    (repeat (with_reducible first | refine Y7 ?_ | refine Y9 ?_ | refine Y5 ?_ | refine Y8 ?_ | refine Z6 ?_ | refine Z5 ?_ | refine Y6 ?_ | refine Y4 ?_ | refine W1 ?_ | refine Z7 ?_ | refine U3 ?_))
    refine Eq.subst (motive := fun b => lp (α := Value × Value) (Value.bool b, .int .i64 0) w1 _) e0 ?_
    exact Ix hs hk1 hq g1 g2 g3 h
  | true =>
    (repeat (with_reducible first | refine Y7 ?_ | refine Y9 ?_ | refine Y5 ?_ | refine Y8 ?_ | refine Z6 ?_ | refine Z5 ?_ | refine Y6 ?_ | refine Y4 ?_ | refine W1 ?_ | refine Z7 ?_ | refine U3 ?_))
    refine ld hs1 hq rfl ?_
    (repeat (with_reducible first | refine Y7 ?_ | refine Y9 ?_ | refine Y5 ?_ | refine Y8 ?_ | refine Z6 ?_ | refine Z5 ?_ | refine Y6 ?_ | refine Y4 ?_ | refine W1 ?_ | refine Z7 ?_ | refine U3 ?_))
    refine Ng ?_
    cases hr0 : decide (m.result = []) with
    | true =>
      have e0 : ok0 = true := by rw [hok0, hme, hr0]; rfl
      (repeat (with_reducible first | refine Y7 ?_ | refine Y9 ?_ | refine Y5 ?_ | refine Y8 ?_ | refine Z6 ?_ | refine Z5 ?_ | refine Y6 ?_ | refine Y4 ?_ | refine W1 ?_ | refine Z7 ?_ | refine U3 ?_))
      refine Eq.subst (motive := fun b => lp (α := Value × Value) (Value.bool b, .int .i64 0) w1 _) e0 ?_
      exact Ix hs hk1 hq g1 g2 g3 h
    | false =>
      (repeat (with_reducible first | refine Y7 ?_ | refine Y9 ?_ | refine Y5 ?_ | refine Y8 ?_ | refine Z6 ?_ | refine Z5 ?_ | refine Y6 ?_ | refine Y4 ?_ | refine W1 ?_ | refine Z7 ?_ | refine U3 ?_))
      refine ld hs1 hq rfl ?_
      (repeat (with_reducible first | refine Y7 ?_ | refine Y9 ?_ | refine Y5 ?_ | refine Y8 ?_ | refine Z6 ?_ | refine Z5 ?_ | refine Y6 ?_ | refine Y4 ?_ | refine W1 ?_ | refine Z7 ?_ | refine U3 ?_))
      refine Uj m.result f5' ?_
      have e0 : ok0 = right m.result := by rw [hok0, hme, hr0]; rfl
      (repeat (with_reducible first | refine Y7 ?_ | refine Y9 ?_ | refine Y5 ?_ | refine Y8 ?_ | refine Z6 ?_ | refine Z5 ?_ | refine Y6 ?_ | refine Y4 ?_ | refine W1 ?_ | refine Z7 ?_ | refine U3 ?_))
      refine Eq.subst (motive := fun b => lp (α := Value × Value) (Value.bool b, .int .i64 0) w1 _) e0 ?_
      exact Ix hs hk1 hq g1 g2 g3 h)
end Go.Proofs.YtdnfaboigajkhaaGreatDoor

namespace Go.Hm
open Go.Kd
def Wc (c : Cla) (i : Nat) : Bool := W7 (c.like.getD i []) && !decide (c.like.getD i [] = c.name)
def G5 (c : Cla) (i k : Nat) : Bool := !decide (c.like.getD k [] = c.like.getD i [])
def Eg (c : Cla) (i : Nat) : Fld := c.fields.getD i Fld.zero
def Mv (c : Cla) (i : Nat) : Hm.Met := c.methods.getD i Hm.Met.zero
def Ll (c : Cla) (i : Nat) : Bool := M1 (Eg c i).name && right (Eg c i).kind && !c.iface
def T5 (c : Cla) (i k : Nat) : Bool := !decide ((Eg c k).name = (Eg c i).name)
def Q4i (c : Cla) : Bool := (!c.iface || (c.abs && decide (c.super = U1))) && !(c.abs && c.fin)
def A5 (c : Cla) (i k : Nat) : Bool := !decide ((Mv c k).name = (Mv c i).name)
theorem Ua {p : Nat → Bool} {n : Nat} : (List.range (n + 1)).all p = ((List.range n).all p && p n) := by rw [List.range_succ, List.all_append]; simp
theorem E0 {α : Type} {xs : List α} {i : Nat} {d : α} (h : i < xs.length) : xs.getD i d = xs[i] := by rw [List.getD_eq_getElem?_getD, List.getElem?_eq_getElem h]; rfl
end Go.Hm
namespace Go.Proofs.YtdnfaboigajkhaaGreatDoor
open Go.Emb Go.RowKit Go.Kd Go.Hm
variable {w : World} {K : Value → World → Prop} {σ : Q6}
def Ve (c : Cla) (i : Nat) : Bool := S7 (Mv c i) && (!(Mv c i).abs || c.abs) && (!c.iface || (Mv c i).abs)
set_option maxHeartbeats 2000000 in
theorem Q0Q {c : Cla} {lv fv mv : Value} {w1 : World} {σ1 : Q6} {q : Addr} {ok : Bool} (hs1 : X6 w1 σ1) (hq : J4 σ1 q [S c.name, S c.super, lv, .bool c.iface, .bool c.abs, .bool c.fin, fv, mv]) {i : Nat} {N m0 : Nat} {Inv : Nat → Value → World → Prop} (g1 : Sl 1 U9 σ1 lv c.like) (hi : i < c.like.length)
    (h : ∀ w' σ', Stp w1 σ1 w' σ' → He N Inv (Value.bool (ok && (List.range i).all (G5 c i)), .int .i64 (IntKind.i64.wrap (i + 1))) w' ∧ Vj N (Value.bool (ok && (List.range i).all (G5 c i)), .int .i64 (IntKind.i64.wrap (i + 1))) < m0) :
    lp (α := Value × Value) (Value.bool ok, (.int .i64 0)) w1 fun again10 x10 d_ w =>
        Q3 P .lss T.d (.tmp 52) (.tmp 53) x10.2 (I i) w fun t54 w =>
        X1 t54 (
          dr w fun Tr Br =>
          Q8 Tr (fun φ59 => ∀ w : World, Br w → Q0 x10.1 true w (fieldAddr P T.a (.pointer (some q)) 2) (dk Tr φ59 w)) fun φ59 =>
          Q8 Tr (fun φ61 => ∀ w : World, Br w → Q0 x10.1 true w (fun w J => J x10.2 w) (dk Tr φ61 w)) fun φ61 =>
          Q8 Tr (fun φ64 => ∀ w : World, Br w → Q0 x10.1 true w (fieldAddr P T.a (.pointer (some q)) 2) (dk Tr φ64 w)) fun φ64 =>
          Q8 Tr (fun φ66 => ∀ w : World, Br w → Q0 x10.1 true w (fun w J => J (I i) w) (dk Tr φ66 w)) fun φ66 =>
          Q8 Tr (fun φ60 => ∀ t59 : Value, ∀ w : World, Br w → φ59 t59 w → Q0 x10.1 true w (Q2 P T.g t59) (dk Tr φ60 w)) fun φ60 =>
          Q8 Tr (fun φ62 => ∀ t60 : Value, ∀ t61 : Value, ∀ w : World, Br w → φ60 t60 w → φ61 t61 w → Q0 x10.1 true w (indexAddr P T.g t60 t61) (dk Tr φ62 w)) fun φ62 =>
          Q8 Tr (fun φ63 => ∀ t62 : Value, ∀ w : World, Br w → φ62 t62 w → Q0 x10.1 true w (Q2 P T.b t62) (dk Tr φ63 w)) fun φ63 =>
          Q8 Tr (fun φ65 => ∀ t64 : Value, ∀ w : World, Br w → φ64 t64 w → Q0 x10.1 true w (Q2 P T.g t64) (dk Tr φ65 w)) fun φ65 =>
          Q8 Tr (fun φ67 => ∀ t65 : Value, ∀ t66 : Value, ∀ w : World, Br w → φ65 t65 w → φ66 t66 w → Q0 x10.1 true w (indexAddr P T.g t65 t66) (dk Tr φ67 w)) fun φ67 =>
          Q8 Tr (fun φ68 => ∀ t67 : Value, ∀ w : World, Br w → φ67 t67 w → Q0 x10.1 true w (Q2 P T.b t67) (dk Tr φ68 w)) fun φ68 =>
          ∀ t59 : Value, ∀ t61 : Value, ∀ t64 : Value, ∀ t66 : Value, ∀ t60 : Value, ∀ t62 : Value, ∀ t63 : Value, ∀ t65 : Value, ∀ t67 : Value, ∀ t68 : Value, ∀ w : World, Br w → φ59 t59 w → φ61 t61 w → φ64 t64 w → φ66 t66 w → φ60 t60 w → φ62 t62 w → φ63 t63 w → φ65 t65 w → φ67 t67 w → φ68 t68 w → 
          Q0 x10.1 true w (Q3 P .neq T.b (.tmp 63) (.tmp 68) t63 t68) fun t69 w =>
          pick P x10.1 t69 (.bool false) w fun t70 w =>
          Q3 P .add T.d (.tmp 55) (.const (.int .i64 1)) x10.2 (.int .i64 1) w fun t56 w =>
          again10 (t70, t56) w) (
          Q3 P .add T.d (.tmp 31) (.const (.int .i64 1)) (I i) (.int .i64 1) w fun t32 w =>
          (He N Inv (x10.1, t32) w ∧ Vj N (x10.1, t32) < m0)) := by
  have hmax := g1.max
  refine O4 (a := Value.bool ok) i (fun k x w' => ∃ σ', Stp w1 σ1 w' σ' ∧ x = Value.bool (ok && (List.range k).all (G5 c i))) ⟨σ1, Stp.refl hs1, by simp⟩ fun k x w2 d hk hinv => ?_
  obtain ⟨σ2, hk2, rfl⟩ := hinv
  have hq2 := hq.up hk2
  have g12 := g1.up hk2
  have hs2 := hk2.sat
  refine U0 ?_
  refine Q4 (fun hc => ?_) (fun hc => ?_)
  · have hk' : k < i := by simpa using hc
    have hk3 : k < c.like.length := by omega
    have hnx : (ok && (List.range (k + 1)).all (G5 c i)) = ((ok && (List.range k).all (G5 c i)) && G5 c i k) := by rw [Ua, Bool.and_assoc]
    have hQ : G5 c i k = !decide (c.like[k] = c.like[i]) := by unfold G5; rw [E0 hk3, E0 hi]
    rw [hQ] at hnx
    obtain ⟨p1, _⟩ := g12.elS hk3
    obtain ⟨p2, _⟩ := g12.elS hi
    generalize (ok && (List.range k).all (G5 c i)) = acc at hnx ⊢
    clear h hQ hc
    cases acc
    all_goals
      refine W9 hs2 ?_
      (repeat (apply O3; (· intros; (repeat (rename_i hx; subst hx)); (repeat' (first | (with_reducible exact W2 rfl) | (with_reducible exact L4 (Stp.bel (by (repeat (first | exact Stp.refl (by (first | assumption | exact Stp.sat (by assumption) | exact Hst.sat (by assumption))) | assumption | refine Stp.trans ?_ (by first | assumption | exact Hst.stp (by assumption)))))) rfl) | (with_reducible intro _) | (simp only [↓Mm, Mm, ↓Mp, Mp, Mb, reduceIte])  | (with_reducible show Q2 _ _ _ _ _; first | refine X7 aS aL aR ?_ | refine Z0 aS aL aR ?_ | refine ld aS aL aR ?_) | (with_reducible show indexAddr _ _ _ _ _ _; refine Z1 aL au ?_) | (with_reducible show X5 _ _ _ _ _ _ _ _; refine Q7 aL ?_) | (with_reducible show R3 _ _ _ _ _ _; refine Z3 aR ?_) | (with_reducible show pick _ _ _ _ _ _; refine M2 ?_) | (apply M6; intro hh; (try simp only [hh, reduceIte, ↓Mm, Mm, ↓Mp, Mp, Mb, reduceIte])))); done)))
      (intros; (repeat (rename_i hx; subst hx)); (try simp only [↓Mm, Mm, ↓Mp, Mp, Mb, reduceIte]))
      rename_i w3 hb3
      exact J0 (by omega) hk' ⟨σ2, hk2.trans hb3.stp, by rw [hnx]; rfl⟩
  · have hk0 : k = i := by have : ¬ k < i := by simpa using hc
                           omega
    subst hk0
    (try simp only [↓Mm, Mm, ↓Mr, Mr, Mb, reduceIte])
    exact h _ _ hk2
set_option maxHeartbeats 4000000 in
theorem Q6C {c : Cla} {lv fv mv : Value} {w1 : World} {σ1 : Q6} {q : Addr} {ok : Bool} (hs1 : X6 w1 σ1) (hq : J4 σ1 q [S c.name, S c.super, lv, .bool c.iface, .bool c.abs, .bool c.fin, fv, mv]) {J : Value → World → Prop} (hn : c.name.length ≤ V9) (g1 : Sl 1 U9 σ1 lv c.like)
    (h : ∀ w' σ', Stp w1 σ1 w' σ' → J (.bool (ok && (List.range c.like.length).all fun i => Wc c i && (List.range i).all (G5 c i))) w') :
    lp (α := Value × Value) (Value.bool ok, (.int .i64 0)) w1 fun again4 x4 d_ w =>
    fieldAddr P T.a (.pointer (some q)) 2 w fun t27 w =>
    Q2 P T.g t27 w fun t28 w =>
    X5 P .len [T.g] T.d [false] [t28] w fun t29 w =>
    Q3 P .lss T.d (.tmp 26) (.tmp 29) x4.2 t29 w fun t30 w =>
    X1 t30 (
      dr w fun Tr Br =>
      Q8 Tr (fun φ35 => ∀ w : World, Br w → Q0 x4.1 true w (fieldAddr P T.a (.pointer (some q)) 2) (dk Tr φ35 w)) fun φ35 =>
      Q8 Tr (fun φ37 => ∀ w : World, Br w → Q0 x4.1 true w (fun w J => J x4.2 w) (dk Tr φ37 w)) fun φ37 =>
      Q8 Tr (fun φ36 => ∀ t35 : Value, ∀ w : World, Br w → φ35 t35 w → Q0 x4.1 true w (Q2 P T.g t35) (dk Tr φ36 w)) fun φ36 =>
      Q8 Tr (fun φ38 => ∀ t36 : Value, ∀ t37 : Value, ∀ w : World, Br w → φ36 t36 w → φ37 t37 w → Q0 x4.1 true w (indexAddr P T.g t36 t37) (dk Tr φ38 w)) fun φ38 =>
      Q8 Tr (fun φ39 => ∀ t38 : Value, ∀ w : World, Br w → φ38 t38 w → Q0 x4.1 true w (Q2 P T.b t38) (dk Tr φ39 w)) fun φ39 =>
      Q8 Tr (fun φ40 => ∀ t39 : Value, ∀ w : World, Br w → φ39 t39 w → Q0 x4.1 true w (Q1 P F.e [t39]) (dk Tr φ40 w)) fun φ40 =>
      Q8 Tr (fun φ41 => ∀ t40 : Value, ∀ w : World, Br w → φ40 t40 w → pick P x4.1 t40 (.bool false) w (dk Tr φ41 w)) fun φ41 =>
      Q8 Tr (fun φ43 => ∀ t41 : Value, ∀ w : World, Br w → φ41 t41 w → Q0 t41 true w (fieldAddr P T.a (.pointer (some q)) 2) (dk Tr φ43 w)) fun φ43 =>
      Q8 Tr (fun φ45 => ∀ t41 : Value, ∀ w : World, Br w → φ41 t41 w → Q0 t41 true w (fun w J => J x4.2 w) (dk Tr φ45 w)) fun φ45 =>
      Q8 Tr (fun φ48 => ∀ t41 : Value, ∀ w : World, Br w → φ41 t41 w → Q0 t41 true w (fieldAddr P T.a (.pointer (some q)) 0) (dk Tr φ48 w)) fun φ48 =>
      Q8 Tr (fun φ44 => ∀ t41 : Value, ∀ t43 : Value, ∀ w : World, Br w → φ41 t41 w → φ43 t43 w → Q0 t41 true w (Q2 P T.g t43) (dk Tr φ44 w)) fun φ44 =>
      Q8 Tr (fun φ46 => ∀ t41 : Value, ∀ t44 : Value, ∀ t45 : Value, ∀ w : World, Br w → φ41 t41 w → φ44 t44 w → φ45 t45 w → Q0 t41 true w (indexAddr P T.g t44 t45) (dk Tr φ46 w)) fun φ46 =>
      Q8 Tr (fun φ47 => ∀ t41 : Value, ∀ t46 : Value, ∀ w : World, Br w → φ41 t41 w → φ46 t46 w → Q0 t41 true w (Q2 P T.b t46) (dk Tr φ47 w)) fun φ47 =>
      Q8 Tr (fun φ49 => ∀ t41 : Value, ∀ t48 : Value, ∀ w : World, Br w → φ41 t41 w → φ48 t48 w → Q0 t41 true w (Q2 P T.b t48) (dk Tr φ49 w)) fun φ49 =>
      ∀ t35 : Value, ∀ t37 : Value, ∀ t36 : Value, ∀ t38 : Value, ∀ t39 : Value, ∀ t40 : Value, ∀ t41 : Value, ∀ t43 : Value, ∀ t45 : Value, ∀ t48 : Value, ∀ t44 : Value, ∀ t46 : Value, ∀ t47 : Value, ∀ t49 : Value, ∀ w : World, Br w → φ35 t35 w → φ37 t37 w → φ36 t36 w → φ38 t38 w → φ39 t39 w → φ40 t40 w → φ41 t41 w → φ43 t43 w → φ45 t45 w → φ48 t48 w → φ44 t44 w → φ46 t46 w → φ47 t47 w → φ49 t49 w → 
      Q0 t41 true w (Q3 P .neq T.b (.tmp 47) (.tmp 49) t47 t49) fun t50 w =>
      pick P t41 t50 (.bool false) w fun t51 w =>
      lp (α := Value × Value) (t51, (.int .i64 0)) w fun again10 x10 d_ w =>
        Q3 P .lss T.d (.tmp 52) (.tmp 53) x10.2 x4.2 w fun t54 w =>
        X1 t54 (
          dr w fun Tr Br =>
          Q8 Tr (fun φ59 => ∀ w : World, Br w → Q0 x10.1 true w (fieldAddr P T.a (.pointer (some q)) 2) (dk Tr φ59 w)) fun φ59 =>
          Q8 Tr (fun φ61 => ∀ w : World, Br w → Q0 x10.1 true w (fun w J => J x10.2 w) (dk Tr φ61 w)) fun φ61 =>
          Q8 Tr (fun φ64 => ∀ w : World, Br w → Q0 x10.1 true w (fieldAddr P T.a (.pointer (some q)) 2) (dk Tr φ64 w)) fun φ64 =>
          Q8 Tr (fun φ66 => ∀ w : World, Br w → Q0 x10.1 true w (fun w J => J x4.2 w) (dk Tr φ66 w)) fun φ66 =>
          Q8 Tr (fun φ60 => ∀ t59 : Value, ∀ w : World, Br w → φ59 t59 w → Q0 x10.1 true w (Q2 P T.g t59) (dk Tr φ60 w)) fun φ60 =>
          Q8 Tr (fun φ62 => ∀ t60 : Value, ∀ t61 : Value, ∀ w : World, Br w → φ60 t60 w → φ61 t61 w → Q0 x10.1 true w (indexAddr P T.g t60 t61) (dk Tr φ62 w)) fun φ62 =>
          Q8 Tr (fun φ63 => ∀ t62 : Value, ∀ w : World, Br w → φ62 t62 w → Q0 x10.1 true w (Q2 P T.b t62) (dk Tr φ63 w)) fun φ63 =>
          Q8 Tr (fun φ65 => ∀ t64 : Value, ∀ w : World, Br w → φ64 t64 w → Q0 x10.1 true w (Q2 P T.g t64) (dk Tr φ65 w)) fun φ65 =>
          Q8 Tr (fun φ67 => ∀ t65 : Value, ∀ t66 : Value, ∀ w : World, Br w → φ65 t65 w → φ66 t66 w → Q0 x10.1 true w (indexAddr P T.g t65 t66) (dk Tr φ67 w)) fun φ67 =>
          Q8 Tr (fun φ68 => ∀ t67 : Value, ∀ w : World, Br w → φ67 t67 w → Q0 x10.1 true w (Q2 P T.b t67) (dk Tr φ68 w)) fun φ68 =>
          ∀ t59 : Value, ∀ t61 : Value, ∀ t64 : Value, ∀ t66 : Value, ∀ t60 : Value, ∀ t62 : Value, ∀ t63 : Value, ∀ t65 : Value, ∀ t67 : Value, ∀ t68 : Value, ∀ w : World, Br w → φ59 t59 w → φ61 t61 w → φ64 t64 w → φ66 t66 w → φ60 t60 w → φ62 t62 w → φ63 t63 w → φ65 t65 w → φ67 t67 w → φ68 t68 w → 
          Q0 x10.1 true w (Q3 P .neq T.b (.tmp 63) (.tmp 68) t63 t68) fun t69 w =>
          pick P x10.1 t69 (.bool false) w fun t70 w =>
          Q3 P .add T.d (.tmp 55) (.const (.int .i64 1)) x10.2 (.int .i64 1) w fun t56 w =>
          again10 (t70, t56) w) (
          Q3 P .add T.d (.tmp 31) (.const (.int .i64 1)) x4.2 (.int .i64 1) w fun t32 w =>
          again4 (x10.1, t32) w)) (
      J x4.1 w) := by
  have hmax := g1.max
  refine O4 (a := Value.bool ok) c.like.length (fun n x w' => ∃ σ', Stp w1 σ1 w' σ' ∧ x = Value.bool (ok && (List.range n).all fun i => Wc c i && (List.range i).all (G5 c i))) ⟨σ1, Stp.refl hs1, by simp⟩ fun n x w2 d hn2 hinv => ?_
  obtain ⟨σ2, hk2, rfl⟩ := hinv
  have hq2 := hq.up hk2
  have g12 := g1.up hk2
  have hs2 := hk2.sat
  (repeat (with_reducible first | refine Y7 ?_ | refine Y9 ?_ | refine Y5 ?_ | refine Y8 ?_ | refine Z6 ?_ | refine Z5 ?_ | refine Y6 ?_ | refine Y4 ?_ | refine W1 ?_ | refine Z7 ?_ | refine U3 ?_))
  refine ld hs2 hq2 rfl ?_
  refine Q7 g12 ?_
  refine U0 ?_
  refine Q4 (fun hc => ?_) (fun hc => ?_)
  · have hn' : n < c.like.length := by simpa using hc
    have hnx : (ok && (List.range (n + 1)).all fun i => Wc c i && (List.range i).all (G5 c i)) = ((ok && (List.range n).all fun i => Wc c i && (List.range i).all (G5 c i)) && (Wc c n && (List.range n).all (G5 c n))) := by rw [Ua, Bool.and_assoc]
    have hP : Wc c n = (W7 c.like[n] && !decide (c.like[n] = c.name)) := by unfold Wc; rw [E0 hn']
    obtain ⟨p1, p2⟩ := g12.elS hn'
    have p2 : c.like[n].length ≤ 140737488355328 := by simp only [V9] at p2; omega
    generalize (ok && (List.range n).all fun i => Wc c i && (List.range i).all (G5 c i)) = acc at hnx ⊢
    clear h hc
    cases hacc : acc with
    | false =>
      refine W9 hs2 ?_
      (repeat (apply O3; (· intros; (repeat (rename_i hx; subst hx)); (repeat' (first | (with_reducible exact W2 rfl) | (with_reducible exact L4 (Stp.bel (by (repeat (first | exact Stp.refl (by (first | assumption | exact Stp.sat (by assumption) | exact Hst.sat (by assumption))) | assumption | refine Stp.trans ?_ (by first | assumption | exact Hst.stp (by assumption)))))) rfl) | (with_reducible intro _) | (simp only [↓Mm, Mm, ↓Mp, Mp, Mb, reduceIte])  | (with_reducible show Q2 _ _ _ _ _; first | refine X7 aS aL aR ?_ | refine Z0 aS aL aR ?_ | refine ld aS aL aR ?_) | (with_reducible show indexAddr _ _ _ _ _ _; refine Z1 aL au ?_) | (with_reducible show X5 _ _ _ _ _ _ _ _; refine Q7 aL ?_) | (with_reducible show R3 _ _ _ _ _ _; refine Z3 aR ?_) | (with_reducible show pick _ _ _ _ _ _; refine M2 ?_) | (apply M6; intro hh; (try simp only [hh, reduceIte, ↓Mm, Mm, ↓Mp, Mp, Mb, reduceIte])))); done)))
      intros; (repeat (rename_i hx; subst hx))
      rename_i w3 hb3
      (repeat (with_reducible first | refine Y7 ?_ | refine Y9 ?_ | refine Y5 ?_ | refine Y8 ?_ | refine Z6 ?_ | refine Z5 ?_ | refine Y6 ?_ | refine Y4 ?_ | refine W1 ?_ | refine Z7 ?_ | refine U3 ?_))
      refine Q0Q hb3.sat hq2 g12 hn' fun w4 σ4 hk4 => ?_
      exact J0 hmax hn' ⟨σ4, hk2.trans (hb3.stp.trans hk4), by rw [hnx, hacc]; rfl⟩
    | true =>
      cases hcl : W7 c.like[n] with
      | false =>
        refine W9 hs2 ?_
        have hrc : ∀ {w' : World} {K : Value → World → Prop}, K (.bool false) w' → Q1 P F.e [S c.like[n]] w' K := fun hK => A8 _ p2 (by rw [hcl]; exact hK)
        (repeat (apply O3; (· intros; (repeat (rename_i hx; subst hx)); (repeat' (first | (with_reducible exact W2 rfl) | (with_reducible exact L4 (Stp.bel (by (repeat (first | exact Stp.refl (by (first | assumption | exact Stp.sat (by assumption) | exact Hst.sat (by assumption))) | assumption | refine Stp.trans ?_ (by first | assumption | exact Hst.stp (by assumption)))))) rfl) | (with_reducible intro _) | (simp only [↓Mm, Mm, ↓Mp, Mp, Mb, reduceIte]) | (with_reducible refine hrc  ?_)  | (with_reducible show Q2 _ _ _ _ _; first | refine X7 aS aL aR ?_ | refine Z0 aS aL aR ?_ | refine ld aS aL aR ?_) | (with_reducible show indexAddr _ _ _ _ _ _; refine Z1 aL au ?_) | (with_reducible show X5 _ _ _ _ _ _ _ _; refine Q7 aL ?_) | (with_reducible show R3 _ _ _ _ _ _; refine Z3 aR ?_) | (with_reducible show pick _ _ _ _ _ _; refine M2 ?_) | (apply M6; intro hh; (try simp only [hh, reduceIte, ↓Mm, Mm, ↓Mp, Mp, Mb, reduceIte])))); done)))
        intros; (repeat (rename_i hx; subst hx))
        rename_i w3 hb3
        (repeat (with_reducible first | refine Y7 ?_ | refine Y9 ?_ | refine Y5 ?_ | refine Y8 ?_ | refine Z6 ?_ | refine Z5 ?_ | refine Y6 ?_ | refine Y4 ?_ | refine W1 ?_ | refine Z7 ?_ | refine U3 ?_))
        refine Q0Q hb3.sat hq2 g12 hn' fun w4 σ4 hk4 => ?_
        exact J0 hmax hn' ⟨σ4, hk2.trans (hb3.stp.trans hk4), by rw [hnx, hacc, hP, hcl]; rfl⟩
      | true =>
        refine W9 hs2 ?_
        have hrc : ∀ {w' : World} {K : Value → World → Prop}, K (.bool true) w' → Q1 P F.e [S c.like[n]] w' K := fun hK => A8 _ p2 (by rw [hcl]; exact hK)
        (repeat (apply O3; (· intros; (repeat (rename_i hx; subst hx)); (repeat' (first | (with_reducible exact W2 rfl) | (with_reducible exact L4 (Stp.bel (by (repeat (first | exact Stp.refl (by (first | assumption | exact Stp.sat (by assumption) | exact Hst.sat (by assumption))) | assumption | refine Stp.trans ?_ (by first | assumption | exact Hst.stp (by assumption)))))) rfl) | (with_reducible intro _) | (simp only [↓Mm, Mm, ↓Mp, Mp, Mb, reduceIte]) | (with_reducible refine hrc  ?_)  | (with_reducible show Q2 _ _ _ _ _; first | refine X7 aS aL aR ?_ | refine Z0 aS aL aR ?_ | refine ld aS aL aR ?_) | (with_reducible show indexAddr _ _ _ _ _ _; refine Z1 aL au ?_) | (with_reducible show X5 _ _ _ _ _ _ _ _; refine Q7 aL ?_) | (with_reducible show R3 _ _ _ _ _ _; refine Z3 aR ?_) | (with_reducible show pick _ _ _ _ _ _; refine M2 ?_) | (apply M6; intro hh; (try simp only [hh, reduceIte, ↓Mm, Mm, ↓Mp, Mp, Mb, reduceIte])))); done)))
        intros; (repeat (rename_i hx; subst hx))
        rename_i w3 hb3
        (repeat (with_reducible first | refine Y7 ?_ | refine Y9 ?_ | refine Y5 ?_ | refine Y8 ?_ | refine Z6 ?_ | refine Z5 ?_ | refine Y6 ?_ | refine Y4 ?_ | refine W1 ?_ | refine Z7 ?_ | refine U3 ?_))
        refine Ek ?_
        (repeat (with_reducible first | refine Y7 ?_ | refine Y9 ?_ | refine Y5 ?_ | refine Y8 ?_ | refine Z6 ?_ | refine Z5 ?_ | refine Y6 ?_ | refine Y4 ?_ | refine W1 ?_ | refine Z7 ?_ | refine U3 ?_))
        refine Q0Q hb3.sat hq2 g12 hn' fun w4 σ4 hk4 => ?_
        exact J0 hmax hn' ⟨σ4, hk2.trans (hb3.stp.trans hk4), by rw [hnx, hacc, hP, hcl]; simp⟩
  · have hn' : ¬ n < c.like.length := by simpa using hc
    obtain rfl : n = c.like.length := by omega
    exact h _ _ hk2
set_option maxHeartbeats 2000000 in
theorem An {c : Cla} {lv fv mv : Value} {w1 : World} {σ1 : Q6} {q : Addr} {ok : Bool} (hs1 : X6 w1 σ1) (hq : J4 σ1 q [S c.name, S c.super, lv, .bool c.iface, .bool c.abs, .bool c.fin, fv, mv]) {i : Nat} {N m0 : Nat} {Inv : Nat → Value → World → Prop} (g2 : Sl 3 D5 σ1 fv c.fields) (hi : i < c.fields.length)
    (h : ∀ w' σ', Stp w1 σ1 w' σ' → He N Inv (Value.bool (ok && (List.range i).all (T5 c i)), .int .i64 (IntKind.i64.wrap (i + 1))) w' ∧ Vj N (Value.bool (ok && (List.range i).all (T5 c i)), .int .i64 (IntKind.i64.wrap (i + 1))) < m0) :
    lp (α := Value × Value) (Value.bool ok, (.int .i64 0)) w1 fun again22 x22 d_ w =>
            Q3 P .lss T.d (.tmp 102) (.tmp 103) x22.2 (I i) w fun t104 w =>
            X1 t104 (
              dr w fun Tr Br =>
              Q8 Tr (fun φ109 => ∀ w : World, Br w → Q0 x22.1 true w (fieldAddr P T.a (.pointer (some q)) 6) (dk Tr φ109 w)) fun φ109 =>
              Q8 Tr (fun φ111 => ∀ w : World, Br w → Q0 x22.1 true w (fun w J => J x22.2 w) (dk Tr φ111 w)) fun φ111 =>
              Q8 Tr (fun φ115 => ∀ w : World, Br w → Q0 x22.1 true w (fieldAddr P T.a (.pointer (some q)) 6) (dk Tr φ115 w)) fun φ115 =>
              Q8 Tr (fun φ117 => ∀ w : World, Br w → Q0 x22.1 true w (fun w J => J (I i) w) (dk Tr φ117 w)) fun φ117 =>
              Q8 Tr (fun φ110 => ∀ t109 : Value, ∀ w : World, Br w → φ109 t109 w → Q0 x22.1 true w (Q2 P T.h t109) (dk Tr φ110 w)) fun φ110 =>
              Q8 Tr (fun φ112 => ∀ t110 : Value, ∀ t111 : Value, ∀ w : World, Br w → φ110 t110 w → φ111 t111 w → Q0 x22.1 true w (indexAddr P T.h t110 t111) (dk Tr φ112 w)) fun φ112 =>
              Q8 Tr (fun φ113 => ∀ t112 : Value, ∀ w : World, Br w → φ112 t112 w → Q0 x22.1 true w (fieldAddr P T.i t112 0) (dk Tr φ113 w)) fun φ113 =>
              Q8 Tr (fun φ114 => ∀ t113 : Value, ∀ w : World, Br w → φ113 t113 w → Q0 x22.1 true w (Q2 P T.b t113) (dk Tr φ114 w)) fun φ114 =>
              Q8 Tr (fun φ116 => ∀ t115 : Value, ∀ w : World, Br w → φ115 t115 w → Q0 x22.1 true w (Q2 P T.h t115) (dk Tr φ116 w)) fun φ116 =>
              Q8 Tr (fun φ118 => ∀ t116 : Value, ∀ t117 : Value, ∀ w : World, Br w → φ116 t116 w → φ117 t117 w → Q0 x22.1 true w (indexAddr P T.h t116 t117) (dk Tr φ118 w)) fun φ118 =>
              Q8 Tr (fun φ119 => ∀ t118 : Value, ∀ w : World, Br w → φ118 t118 w → Q0 x22.1 true w (fieldAddr P T.i t118 0) (dk Tr φ119 w)) fun φ119 =>
              Q8 Tr (fun φ120 => ∀ t119 : Value, ∀ w : World, Br w → φ119 t119 w → Q0 x22.1 true w (Q2 P T.b t119) (dk Tr φ120 w)) fun φ120 =>
              ∀ t109 : Value, ∀ t111 : Value, ∀ t115 : Value, ∀ t117 : Value, ∀ t110 : Value, ∀ t112 : Value, ∀ t113 : Value, ∀ t114 : Value, ∀ t116 : Value, ∀ t118 : Value, ∀ t119 : Value, ∀ t120 : Value, ∀ w : World, Br w → φ109 t109 w → φ111 t111 w → φ115 t115 w → φ117 t117 w → φ110 t110 w → φ112 t112 w → φ113 t113 w → φ114 t114 w → φ116 t116 w → φ118 t118 w → φ119 t119 w → φ120 t120 w → 
              Q0 x22.1 true w (Q3 P .neq T.b (.tmp 114) (.tmp 120) t114 t120) fun t121 w =>
              pick P x22.1 t121 (.bool false) w fun t122 w =>
              Q3 P .add T.d (.tmp 105) (.const (.int .i64 1)) x22.2 (.int .i64 1) w fun t106 w =>
              again22 (t122, t106) w) (
              Q3 P .add T.d (.tmp 76) (.const (.int .i64 1)) (I i) (.int .i64 1) w fun t77 w =>
              (He N Inv (x22.1, t77) w ∧ Vj N (x22.1, t77) < m0)) := by
  have hmax := g2.max
  refine O4 (a := Value.bool ok) i (fun k x w' => ∃ σ', Stp w1 σ1 w' σ' ∧ x = Value.bool (ok && (List.range k).all (T5 c i))) ⟨σ1, Stp.refl hs1, by simp⟩ fun k x w2 d hk hinv => ?_
  obtain ⟨σ2, hk2, rfl⟩ := hinv
  have hq2 := hq.up hk2
  have g22 := g2.up hk2
  have hs2 := hk2.sat
  refine U0 ?_
  refine Q4 (fun hc => ?_) (fun hc => ?_)
  · have hk' : k < i := by simpa using hc
    have hk3 : k < c.fields.length := by omega
    have hnx : (ok && (List.range (k + 1)).all (T5 c i)) = ((ok && (List.range k).all (T5 c i)) && T5 c i k) := by rw [Ua, Bool.and_assoc]
    have hQ : T5 c i k = !decide (c.fields[k].name = c.fields[i].name) := by unfold T5 Eg; rw [E0 hk3, E0 hi]
    rw [hQ] at hnx
    obtain ⟨p1, _⟩ := g22.elF hk3
    obtain ⟨p2, _⟩ := g22.elF hi
    generalize (ok && (List.range k).all (T5 c i)) = acc at hnx ⊢
    clear h hQ hc
    cases acc
    all_goals
      refine W9 hs2 ?_
      (repeat (apply O3; (· intros; (repeat (rename_i hx; subst hx)); (repeat' (first | (with_reducible exact W2 rfl) | (with_reducible exact L4 (Stp.bel (by (repeat (first | exact Stp.refl (by (first | assumption | exact Stp.sat (by assumption) | exact Hst.sat (by assumption))) | assumption | refine Stp.trans ?_ (by first | assumption | exact Hst.stp (by assumption)))))) rfl) | (with_reducible intro _) | (simp only [↓Mm, Mm, ↓Mp, Mp, Mb, reduceIte])  | (with_reducible show Q2 _ _ _ _ _; first | refine X7 aS aL aR ?_ | refine Z0 aS aL aR ?_ | refine ld aS aL aR ?_) | (with_reducible show indexAddr _ _ _ _ _ _; refine Z1 aL au ?_) | (with_reducible show X5 _ _ _ _ _ _ _ _; refine Q7 aL ?_) | (with_reducible show R3 _ _ _ _ _ _; refine Z3 aR ?_) | (with_reducible show pick _ _ _ _ _ _; refine M2 ?_) | (apply M6; intro hh; (try simp only [hh, reduceIte, ↓Mm, Mm, ↓Mp, Mp, Mb, reduceIte])))); done)))
      (intros; (repeat (rename_i hx; subst hx)); (try simp only [↓Mm, Mm, ↓Mp, Mp, Mb, reduceIte]))
      rename_i w3 hb3
      exact J0 (by omega) hk' ⟨σ2, hk2.trans hb3.stp, by rw [hnx]; rfl⟩
  · have hk0 : k = i := by have : ¬ k < i := by simpa using hc
                           omega
    subst hk0
    (try simp only [↓Mm, Mm, ↓Mr, Mr, Mb, reduceIte])
    exact h _ _ hk2
set_option maxHeartbeats 4000000 in
theorem Q7W {c : Cla} {lv fv mv : Value} {w1 : World} {σ1 : Q6} {q : Addr} {ok : Bool} (hs1 : X6 w1 σ1) (hq : J4 σ1 q [S c.name, S c.super, lv, .bool c.iface, .bool c.abs, .bool c.fin, fv, mv]) {J : Value → World → Prop} (g2 : Sl 3 D5 σ1 fv c.fields)
    (h : ∀ w' σ', Stp w1 σ1 w' σ' → J (.bool (ok && (List.range c.fields.length).all fun i => Ll c i && (List.range i).all (T5 c i))) w') :
    lp (α := Value × Value) (Value.bool ok, (.int .i64 0)) w1 fun again16 x16 d_ w =>
        fieldAddr P T.a (.pointer (some q)) 6 w fun t72 w =>
        Q2 P T.h t72 w fun t73 w =>
        X5 P .len [T.h] T.d [false] [t73] w fun t74 w =>
        Q3 P .lss T.d (.tmp 71) (.tmp 74) x16.2 t74 w fun t75 w =>
        X1 t75 (
          Q0 x16.1 true w (fieldAddr P T.a (.pointer (some q)) 6) fun t80 w =>
          Q0 x16.1 true w (Q2 P T.h t80) fun t81 w =>
          Q0 x16.1 true w (fun w J => J x16.2 w) fun t82 w =>
          Q0 x16.1 true w (indexAddr P T.h t81 t82) fun t83 w =>
          Q0 x16.1 true w (fieldAddr P T.i t83 0) fun t84 w =>
          Q0 x16.1 true w (Q2 P T.b t84) fun t85 w =>
          Q0 x16.1 true w (Q1 P F.t [t85]) fun t86 w =>
          pick P x16.1 t86 (.bool false) w fun t87 w =>
          Q0 t87 true w (fieldAddr P T.a (.pointer (some q)) 6) fun t89 w =>
          Q0 t87 true w (Q2 P T.h t89) fun t90 w =>
          Q0 t87 true w (fun w J => J x16.2 w) fun t91 w =>
          Q0 t87 true w (indexAddr P T.h t90 t91) fun t92 w =>
          Q0 t87 true w (fieldAddr P T.i t92 1) fun t93 w =>
          Q0 t87 true w (Q2 P T.b t93) fun t94 w =>
          Q0 t87 true w (Q1 P F.i [t94]) fun t95 w =>
          pick P t87 t95 (.bool false) w fun t96 w =>
          Q0 t96 true w (fieldAddr P T.a (.pointer (some q)) 3) fun t98 w =>
          Q0 t96 true w (Q2 P T.m t98) fun t99 w =>
          Q0 t96 true w (U8 P .not t99) fun t100 w =>
          pick P t96 t100 (.bool false) w fun t101 w =>
          lp (α := Value × Value) (t101, (.int .i64 0)) w fun again22 x22 d_ w =>
            Q3 P .lss T.d (.tmp 102) (.tmp 103) x22.2 x16.2 w fun t104 w =>
            X1 t104 (
              dr w fun Tr Br =>
              Q8 Tr (fun φ109 => ∀ w : World, Br w → Q0 x22.1 true w (fieldAddr P T.a (.pointer (some q)) 6) (dk Tr φ109 w)) fun φ109 =>
              Q8 Tr (fun φ111 => ∀ w : World, Br w → Q0 x22.1 true w (fun w J => J x22.2 w) (dk Tr φ111 w)) fun φ111 =>
              Q8 Tr (fun φ115 => ∀ w : World, Br w → Q0 x22.1 true w (fieldAddr P T.a (.pointer (some q)) 6) (dk Tr φ115 w)) fun φ115 =>
              Q8 Tr (fun φ117 => ∀ w : World, Br w → Q0 x22.1 true w (fun w J => J x16.2 w) (dk Tr φ117 w)) fun φ117 =>
              Q8 Tr (fun φ110 => ∀ t109 : Value, ∀ w : World, Br w → φ109 t109 w → Q0 x22.1 true w (Q2 P T.h t109) (dk Tr φ110 w)) fun φ110 =>
              Q8 Tr (fun φ112 => ∀ t110 : Value, ∀ t111 : Value, ∀ w : World, Br w → φ110 t110 w → φ111 t111 w → Q0 x22.1 true w (indexAddr P T.h t110 t111) (dk Tr φ112 w)) fun φ112 =>
              Q8 Tr (fun φ113 => ∀ t112 : Value, ∀ w : World, Br w → φ112 t112 w → Q0 x22.1 true w (fieldAddr P T.i t112 0) (dk Tr φ113 w)) fun φ113 =>
              Q8 Tr (fun φ114 => ∀ t113 : Value, ∀ w : World, Br w → φ113 t113 w → Q0 x22.1 true w (Q2 P T.b t113) (dk Tr φ114 w)) fun φ114 =>
              Q8 Tr (fun φ116 => ∀ t115 : Value, ∀ w : World, Br w → φ115 t115 w → Q0 x22.1 true w (Q2 P T.h t115) (dk Tr φ116 w)) fun φ116 =>
              Q8 Tr (fun φ118 => ∀ t116 : Value, ∀ t117 : Value, ∀ w : World, Br w → φ116 t116 w → φ117 t117 w → Q0 x22.1 true w (indexAddr P T.h t116 t117) (dk Tr φ118 w)) fun φ118 =>
              Q8 Tr (fun φ119 => ∀ t118 : Value, ∀ w : World, Br w → φ118 t118 w → Q0 x22.1 true w (fieldAddr P T.i t118 0) (dk Tr φ119 w)) fun φ119 =>
              Q8 Tr (fun φ120 => ∀ t119 : Value, ∀ w : World, Br w → φ119 t119 w → Q0 x22.1 true w (Q2 P T.b t119) (dk Tr φ120 w)) fun φ120 =>
              ∀ t109 : Value, ∀ t111 : Value, ∀ t115 : Value, ∀ t117 : Value, ∀ t110 : Value, ∀ t112 : Value, ∀ t113 : Value, ∀ t114 : Value, ∀ t116 : Value, ∀ t118 : Value, ∀ t119 : Value, ∀ t120 : Value, ∀ w : World, Br w → φ109 t109 w → φ111 t111 w → φ115 t115 w → φ117 t117 w → φ110 t110 w → φ112 t112 w → φ113 t113 w → φ114 t114 w → φ116 t116 w → φ118 t118 w → φ119 t119 w → φ120 t120 w → 
              Q0 x22.1 true w (Q3 P .neq T.b (.tmp 114) (.tmp 120) t114 t120) fun t121 w =>
              pick P x22.1 t121 (.bool false) w fun t122 w =>
              Q3 P .add T.d (.tmp 105) (.const (.int .i64 1)) x22.2 (.int .i64 1) w fun t106 w =>
              again22 (t122, t106) w) (
              Q3 P .add T.d (.tmp 76) (.const (.int .i64 1)) x16.2 (.int .i64 1) w fun t77 w =>
              again16 (x22.1, t77) w)) (
          J x16.1 w) := by
  have hmax := g2.max
  refine O4 (a := Value.bool ok) c.fields.length (fun n x w' => ∃ σ', Stp w1 σ1 w' σ' ∧ x = Value.bool (ok && (List.range n).all fun i => Ll c i && (List.range i).all (T5 c i))) ⟨σ1, Stp.refl hs1, by simp⟩ fun n x w2 d hn2 hinv => ?_
  obtain ⟨σ2, hk2, rfl⟩ := hinv
  have hq2 := hq.up hk2
  have g22 := g2.up hk2
  have hs2 := hk2.sat
  (repeat (with_reducible first | refine Y7 ?_ | refine Y9 ?_ | refine Y5 ?_ | refine Y8 ?_ | refine Z6 ?_ | refine Z5 ?_ | refine Y6 ?_ | refine Y4 ?_ | refine W1 ?_ | refine Z7 ?_ | refine U3 ?_))
  refine ld hs2 hq2 rfl ?_
  refine Q7 g22 ?_
  refine U0 ?_
  refine Q4 (fun hc => ?_) (fun hc => ?_)
  · have hn' : n < c.fields.length := by simpa using hc
    have hnx : (ok && (List.range (n + 1)).all fun i => Ll c i && (List.range i).all (T5 c i)) = ((ok && (List.range n).all fun i => Ll c i && (List.range i).all (T5 c i)) && (Ll c n && (List.range n).all (T5 c n))) := by rw [Ua, Bool.and_assoc]
    have hP : Ll c n = (M1 c.fields[n].name && right c.fields[n].kind && !c.iface) := by unfold Ll Eg; rw [E0 hn']
    obtain ⟨p1, r1⟩ := g22.elF hn'
    have b1 : c.fields[n].name.length ≤ 140737488355328 := by have := r1.2.1; simp only [V9] at this; omega
    have b2 : c.fields[n].kind.length ≤ 140737488355328 := by have := r1.2.2; simp only [V9] at this; omega
    generalize (ok && (List.range n).all fun i => Ll c i && (List.range i).all (T5 c i)) = acc at hnx ⊢
    clear h hc
    have step : ∀ b, b = (acc && Ll c n) → (acc && (Ll c n && (List.range n).all (T5 c n))) = (b && (List.range n).all (T5 c n)) := fun b e => by rw [e, Bool.and_assoc]
    cases acc with
    | false =>
      (repeat (with_reducible first | refine Y7 ?_ | refine Y9 ?_ | refine Y5 ?_ | refine Y8 ?_ | refine Z6 ?_ | refine Z5 ?_ | refine Y6 ?_ | refine Y4 ?_ | refine W1 ?_ | refine Z7 ?_ | refine U3 ?_))
      refine An hs2 hq2 g22 hn' fun w4 σ4 hk4 => ?_
      exact J0 hmax hn' ⟨σ4, hk2.trans hk4, by rw [hnx]; rfl⟩
    | true =>
      (repeat (with_reducible first | refine Y7 ?_ | refine Y9 ?_ | refine Y5 ?_ | refine Y8 ?_ | refine Z6 ?_ | refine Z5 ?_ | refine Y6 ?_ | refine Y4 ?_ | refine W1 ?_ | refine Z7 ?_ | refine U3 ?_))
      refine ld hs2 hq2 rfl ?_
      (repeat (with_reducible first | refine Y7 ?_ | refine Y9 ?_ | refine Y5 ?_ | refine Y8 ?_ | refine Z6 ?_ | refine Z5 ?_ | refine Y6 ?_ | refine Y4 ?_ | refine W1 ?_ | refine Z7 ?_ | refine U3 ?_))
      refine Z1 g22 hn' ?_
      (repeat (with_reducible first | refine Y7 ?_ | refine Y9 ?_ | refine Y5 ?_ | refine Y8 ?_ | refine Z6 ?_ | refine Z5 ?_ | refine Y6 ?_ | refine Y4 ?_ | refine W1 ?_ | refine Z7 ?_ | refine U3 ?_))
      refine ld hs2 p1 rfl ?_
      (repeat (with_reducible first | refine Y7 ?_ | refine Y9 ?_ | refine Y5 ?_ | refine Y8 ?_ | refine Z6 ?_ | refine Z5 ?_ | refine Y6 ?_ | refine Y4 ?_ | refine W1 ?_ | refine Z7 ?_ | refine U3 ?_))
      refine Sh _ b1 ?_
      cases d1 : M1 c.fields[n].name with
      | false =>
        (repeat (with_reducible first | refine Y7 ?_ | refine Y9 ?_ | refine Y5 ?_ | refine Y8 ?_ | refine Z6 ?_ | refine Z5 ?_ | refine Y6 ?_ | refine Y4 ?_ | refine W1 ?_ | refine Z7 ?_ | refine U3 ?_))
        refine An hs2 hq2 g22 hn' fun w4 σ4 hk4 => ?_
        exact J0 hmax hn' ⟨σ4, hk2.trans hk4, by rw [hnx, step false (by rw [hP, d1]; rfl)]⟩
      | true =>
        (repeat (with_reducible first | refine Y7 ?_ | refine Y9 ?_ | refine Y5 ?_ | refine Y8 ?_ | refine Z6 ?_ | refine Z5 ?_ | refine Y6 ?_ | refine Y4 ?_ | refine W1 ?_ | refine Z7 ?_ | refine U3 ?_))
        refine ld hs2 hq2 rfl ?_
        (repeat (with_reducible first | refine Y7 ?_ | refine Y9 ?_ | refine Y5 ?_ | refine Y8 ?_ | refine Z6 ?_ | refine Z5 ?_ | refine Y6 ?_ | refine Y4 ?_ | refine W1 ?_ | refine Z7 ?_ | refine U3 ?_))
        refine Z1 g22 hn' ?_
        (repeat (with_reducible first | refine Y7 ?_ | refine Y9 ?_ | refine Y5 ?_ | refine Y8 ?_ | refine Z6 ?_ | refine Z5 ?_ | refine Y6 ?_ | refine Y4 ?_ | refine W1 ?_ | refine Z7 ?_ | refine U3 ?_))
        refine ld hs2 p1 rfl ?_
        (repeat (with_reducible first | refine Y7 ?_ | refine Y9 ?_ | refine Y5 ?_ | refine Y8 ?_ | refine Z6 ?_ | refine Z5 ?_ | refine Y6 ?_ | refine Y4 ?_ | refine W1 ?_ | refine Z7 ?_ | refine U3 ?_))
        refine Uj _ b2 ?_
        cases d2 : right c.fields[n].kind with
        | false =>
          (repeat (with_reducible first | refine Y7 ?_ | refine Y9 ?_ | refine Y5 ?_ | refine Y8 ?_ | refine Z6 ?_ | refine Z5 ?_ | refine Y6 ?_ | refine Y4 ?_ | refine W1 ?_ | refine Z7 ?_ | refine U3 ?_))
          refine An hs2 hq2 g22 hn' fun w4 σ4 hk4 => ?_
          exact J0 hmax hn' ⟨σ4, hk2.trans hk4, by rw [hnx, step false (by rw [hP, d1, d2]; rfl)]⟩
        | true =>
          (repeat (with_reducible first | refine Y7 ?_ | refine Y9 ?_ | refine Y5 ?_ | refine Y8 ?_ | refine Z6 ?_ | refine Z5 ?_ | refine Y6 ?_ | refine Y4 ?_ | refine W1 ?_ | refine Z7 ?_ | refine U3 ?_))
          refine ld hs2 hq2 rfl ?_
          (repeat (with_reducible first | refine Y7 ?_ | refine Y9 ?_ | refine Y5 ?_ | refine Y8 ?_ | refine Z6 ?_ | refine Z5 ?_ | refine Y6 ?_ | refine Y4 ?_ | refine W1 ?_ | refine Z7 ?_ | refine U3 ?_))
          refine An hs2 hq2 g22 hn' fun w4 σ4 hk4 => ?_
          exact J0 hmax hn' ⟨σ4, hk2.trans hk4, by rw [hnx, step (!c.iface) (by rw [hP, d1, d2]; rfl)]⟩
  · have hn' : ¬ n < c.fields.length := by simpa using hc
    obtain rfl : n = c.fields.length := by omega
    exact h _ _ hk2
set_option maxHeartbeats 2000000 in
theorem Oh {c : Cla} {lv fv mv : Value} {w1 : World} {σ1 : Q6} {q : Addr} {ok : Bool} (hs1 : X6 w1 σ1) (hq : J4 σ1 q [S c.name, S c.super, lv, .bool c.iface, .bool c.abs, .bool c.fin, fv, mv]) {i : Nat} {q9 : Addr} {pv cv hv : Value} {N m0 : Nat} {Inv : Nat → Value → World → Prop} (g3 : Sl 7 M8 σ1 mv c.methods) (hi : i < c.methods.length) (hq9 : J4 σ1 q9 [S c.methods[i].name, pv, S c.methods[i].result, .bool c.methods[i].abs, I c.methods[i].locals, cv, hv])
    (h : ∀ w' σ', Stp w1 σ1 w' σ' → He N Inv (Value.bool (ok && (List.range i).all (A5 c i)), .int .i64 (IntKind.i64.wrap (i + 1))) w' ∧ Vj N (Value.bool (ok && (List.range i).all (A5 c i)), .int .i64 (IntKind.i64.wrap (i + 1))) < m0) :
    lp (α := Value × Value) (Value.bool ok, (.int .i64 0)) w1 fun again35 x35 d_ w =>
                Q3 P .lss T.d (.tmp 158) (.tmp 159) x35.2 (I i) w fun t160 w =>
                X1 t160 (
                  dr w fun Tr Br =>
                  Q8 Tr (fun φ165 => ∀ w : World, Br w → Q0 x35.1 true w (fieldAddr P T.a (.pointer (some q)) 7) (dk Tr φ165 w)) fun φ165 =>
                  Q8 Tr (fun φ167 => ∀ w : World, Br w → Q0 x35.1 true w (fun w J => J x35.2 w) (dk Tr φ167 w)) fun φ167 =>
                  Q8 Tr (fun φ171 => ∀ w : World, Br w → Q0 x35.1 true w (fieldAddr P T.c (.pointer (some q9)) 0) (dk Tr φ171 w)) fun φ171 =>
                  Q8 Tr (fun φ166 => ∀ t165 : Value, ∀ w : World, Br w → φ165 t165 w → Q0 x35.1 true w (Q2 P T.e t165) (dk Tr φ166 w)) fun φ166 =>
                  Q8 Tr (fun φ168 => ∀ t166 : Value, ∀ t167 : Value, ∀ w : World, Br w → φ166 t166 w → φ167 t167 w → Q0 x35.1 true w (indexAddr P T.e t166 t167) (dk Tr φ168 w)) fun φ168 =>
                  Q8 Tr (fun φ169 => ∀ t168 : Value, ∀ w : World, Br w → φ168 t168 w → Q0 x35.1 true w (fieldAddr P T.c t168 0) (dk Tr φ169 w)) fun φ169 =>
                  Q8 Tr (fun φ170 => ∀ t169 : Value, ∀ w : World, Br w → φ169 t169 w → Q0 x35.1 true w (Q2 P T.b t169) (dk Tr φ170 w)) fun φ170 =>
                  Q8 Tr (fun φ172 => ∀ t171 : Value, ∀ w : World, Br w → φ171 t171 w → Q0 x35.1 true w (Q2 P T.b t171) (dk Tr φ172 w)) fun φ172 =>
                  ∀ t165 : Value, ∀ t167 : Value, ∀ t171 : Value, ∀ t166 : Value, ∀ t168 : Value, ∀ t169 : Value, ∀ t170 : Value, ∀ t172 : Value, ∀ w : World, Br w → φ165 t165 w → φ167 t167 w → φ171 t171 w → φ166 t166 w → φ168 t168 w → φ169 t169 w → φ170 t170 w → φ172 t172 w → 
                  Q0 x35.1 true w (Q3 P .neq T.b (.tmp 170) (.tmp 172) t170 t172) fun t173 w =>
                  pick P x35.1 t173 (.bool false) w fun t174 w =>
                  Q3 P .add T.d (.tmp 161) (.const (.int .i64 1)) x35.2 (.int .i64 1) w fun t162 w =>
                  again35 (t174, t162) w) (
                  Q3 P .add T.d (.tmp 128) (.const (.int .i64 1)) (I i) (.int .i64 1) w fun t129 w =>
                  (He N Inv (x35.1, t129) w ∧ Vj N (x35.1, t129) < m0)) := by
  have hmax := g3.max
  refine O4 (a := Value.bool ok) i (fun k x w' => ∃ σ', Stp w1 σ1 w' σ' ∧ x = Value.bool (ok && (List.range k).all (A5 c i))) ⟨σ1, Stp.refl hs1, by simp⟩ fun k x w2 d hk hinv => ?_
  obtain ⟨σ2, hk2, rfl⟩ := hinv
  have hq2 := hq.up hk2
  have hq92 := hq9.up hk2
  have g32 := g3.up hk2
  have hs2 := hk2.sat
  refine U0 ?_
  refine Q4 (fun hc => ?_) (fun hc => ?_)
  · have hk' : k < i := by simpa using hc
    have hk3 : k < c.methods.length := by omega
    have hnx : (ok && (List.range (k + 1)).all (A5 c i)) = ((ok && (List.range k).all (A5 c i)) && A5 c i k) := by rw [Ua, Bool.and_assoc]
    have hQ : A5 c i k = !decide (c.methods[k].name = c.methods[i].name) := by unfold A5 Mv; rw [E0 hk3, E0 hi]
    rw [hQ] at hnx
    obtain ⟨pv1, cv1, hv1, p1, _⟩ := g32.elM hk3
    generalize (ok && (List.range k).all (A5 c i)) = acc at hnx ⊢
    clear h hQ hc
    cases acc
    all_goals
      refine W9 hs2 ?_
      (repeat (apply O3; (· intros; (repeat (rename_i hx; subst hx)); (repeat' (first | (with_reducible exact W2 rfl) | (with_reducible exact L4 (Stp.bel (by (repeat (first | exact Stp.refl (by (first | assumption | exact Stp.sat (by assumption) | exact Hst.sat (by assumption))) | assumption | refine Stp.trans ?_ (by first | assumption | exact Hst.stp (by assumption)))))) rfl) | (with_reducible intro _) | (simp only [↓Mm, Mm, ↓Mp, Mp, Mb, reduceIte])  | (with_reducible show Q2 _ _ _ _ _; first | refine X7 aS aL aR ?_ | refine Z0 aS aL aR ?_ | refine ld aS aL aR ?_) | (with_reducible show indexAddr _ _ _ _ _ _; refine Z1 aL au ?_) | (with_reducible show X5 _ _ _ _ _ _ _ _; refine Q7 aL ?_) | (with_reducible show R3 _ _ _ _ _ _; refine Z3 aR ?_) | (with_reducible show pick _ _ _ _ _ _; refine M2 ?_) | (apply M6; intro hh; (try simp only [hh, reduceIte, ↓Mm, Mm, ↓Mp, Mp, Mb, reduceIte])))); done)))
      (intros; (repeat (rename_i hx; subst hx)); (try simp only [↓Mm, Mm, ↓Mp, Mp, Mb, reduceIte]))
      rename_i w3 hb3
      exact J0 (by omega) hk' ⟨σ2, hk2.trans hb3.stp, by rw [hnx]; rfl⟩
  · have hk0 : k = i := by have : ¬ k < i := by simpa using hc
                           omega
    subst hk0
    (try simp only [↓Mm, Mm, ↓Mr, Mr, Mb, reduceIte])
    exact h _ _ hk2
set_option maxHeartbeats 4000000 in
theorem Q7r {c : Cla} {lv fv mv : Value} {w1 : World} {σ1 : Q6} {q : Addr} {ok : Bool} (hs1 : X6 w1 σ1) (hq : J4 σ1 q [S c.name, S c.super, lv, .bool c.iface, .bool c.abs, .bool c.fin, fv, mv]) {J : Value → World → Prop} (g3 : Sl 7 M8 σ1 mv c.methods)
    (h : ∀ w' σ', Stp w1 σ1 w' σ' → J (.bool (ok && (List.range c.methods.length).all fun i => Ve c i && (List.range i).all (A5 c i))) w') :
    lp (α := Value × Value) (Value.bool ok, (.int .i64 0)) w1 fun again28 x28 d_ w =>
            fieldAddr P T.a (.pointer (some q)) 7 w fun t124 w =>
            Q2 P T.e t124 w fun t125 w =>
            X5 P .len [T.e] T.d [false] [t125] w fun t126 w =>
            Q3 P .lss T.d (.tmp 123) (.tmp 126) x28.2 t126 w fun t127 w =>
            X1 t127 (
              fieldAddr P T.a (.pointer (some q)) 7 w fun t130 w =>
              Q2 P T.e t130 w fun t131 w =>
              indexAddr P T.e t131 x28.2 w fun t133 w =>
              Q2 P T.c t133 w fun t134 w =>
              M3 P T.c w fun t9 w =>
              V6 P T.c t9 t134 w fun _u w =>
              Q0 x28.1 true w (Q2 P T.c t9) fun t137 w =>
              Q0 x28.1 true w (Q1 P F.y [t137]) fun t138 w =>
              pick P x28.1 t138 (.bool false) w fun t139 w =>
              Q0 t139 true w (fieldAddr P T.c t9 3) fun t141 w =>
              Q0 t139 true w (Q2 P T.m t141) fun t142 w =>
              Q0 t139 true w (U8 P .not t142) fun t143 w =>
              Q0 t139 true w (fun w J => J t143 w) fun t144 w =>
              Q0 t144 false w (fieldAddr P T.a (.pointer (some q)) 4) fun t145 w =>
              Q0 t144 false w (Q2 P T.m t145) fun t146 w =>
              Q0 t139 true w (pick P t144 (.bool true) t146) fun t147 w =>
              pick P t139 t147 (.bool false) w fun t148 w =>
              Q0 t148 true w (fieldAddr P T.a (.pointer (some q)) 3) fun t150 w =>
              Q0 t148 true w (Q2 P T.m t150) fun t151 w =>
              Q0 t148 true w (U8 P .not t151) fun t152 w =>
              Q0 t148 true w (fun w J => J t152 w) fun t153 w =>
              Q0 t153 false w (fieldAddr P T.c t9 3) fun t154 w =>
              Q0 t153 false w (Q2 P T.m t154) fun t155 w =>
              Q0 t148 true w (pick P t153 (.bool true) t155) fun t156 w =>
              pick P t148 t156 (.bool false) w fun t157 w =>
              lp (α := Value × Value) (t157, (.int .i64 0)) w fun again35 x35 d_ w =>
                Q3 P .lss T.d (.tmp 158) (.tmp 159) x35.2 x28.2 w fun t160 w =>
                X1 t160 (
                  dr w fun Tr Br =>
                  Q8 Tr (fun φ165 => ∀ w : World, Br w → Q0 x35.1 true w (fieldAddr P T.a (.pointer (some q)) 7) (dk Tr φ165 w)) fun φ165 =>
                  Q8 Tr (fun φ167 => ∀ w : World, Br w → Q0 x35.1 true w (fun w J => J x35.2 w) (dk Tr φ167 w)) fun φ167 =>
                  Q8 Tr (fun φ171 => ∀ w : World, Br w → Q0 x35.1 true w (fieldAddr P T.c t9 0) (dk Tr φ171 w)) fun φ171 =>
                  Q8 Tr (fun φ166 => ∀ t165 : Value, ∀ w : World, Br w → φ165 t165 w → Q0 x35.1 true w (Q2 P T.e t165) (dk Tr φ166 w)) fun φ166 =>
                  Q8 Tr (fun φ168 => ∀ t166 : Value, ∀ t167 : Value, ∀ w : World, Br w → φ166 t166 w → φ167 t167 w → Q0 x35.1 true w (indexAddr P T.e t166 t167) (dk Tr φ168 w)) fun φ168 =>
                  Q8 Tr (fun φ169 => ∀ t168 : Value, ∀ w : World, Br w → φ168 t168 w → Q0 x35.1 true w (fieldAddr P T.c t168 0) (dk Tr φ169 w)) fun φ169 =>
                  Q8 Tr (fun φ170 => ∀ t169 : Value, ∀ w : World, Br w → φ169 t169 w → Q0 x35.1 true w (Q2 P T.b t169) (dk Tr φ170 w)) fun φ170 =>
                  Q8 Tr (fun φ172 => ∀ t171 : Value, ∀ w : World, Br w → φ171 t171 w → Q0 x35.1 true w (Q2 P T.b t171) (dk Tr φ172 w)) fun φ172 =>
                  ∀ t165 : Value, ∀ t167 : Value, ∀ t171 : Value, ∀ t166 : Value, ∀ t168 : Value, ∀ t169 : Value, ∀ t170 : Value, ∀ t172 : Value, ∀ w : World, Br w → φ165 t165 w → φ167 t167 w → φ171 t171 w → φ166 t166 w → φ168 t168 w → φ169 t169 w → φ170 t170 w → φ172 t172 w → 
                  Q0 x35.1 true w (Q3 P .neq T.b (.tmp 170) (.tmp 172) t170 t172) fun t173 w =>
                  pick P x35.1 t173 (.bool false) w fun t174 w =>
                  Q3 P .add T.d (.tmp 161) (.const (.int .i64 1)) x35.2 (.int .i64 1) w fun t162 w =>
                  again35 (t174, t162) w) (
                  Q3 P .add T.d (.tmp 128) (.const (.int .i64 1)) x28.2 (.int .i64 1) w fun t129 w =>
                  again28 (x35.1, t129) w)) (
              J x28.1 w) := by
  have hmax := g3.max
  refine O4 (a := Value.bool ok) c.methods.length (fun n x w' => ∃ σ', Stp w1 σ1 w' σ' ∧ x = Value.bool (ok && (List.range n).all fun i => Ve c i && (List.range i).all (A5 c i))) ⟨σ1, Stp.refl hs1, by simp⟩ fun n x w2 d hn2 hinv => ?_
  obtain ⟨σ2, hk2, rfl⟩ := hinv
  have hq2 := hq.up hk2
  have g32 := g3.up hk2
  have hs2 := hk2.sat
  (repeat (with_reducible first | refine Y7 ?_ | refine Y9 ?_ | refine Y5 ?_ | refine Y8 ?_ | refine Z6 ?_ | refine Z5 ?_ | refine Y6 ?_ | refine Y4 ?_ | refine W1 ?_ | refine Z7 ?_ | refine U3 ?_))
  refine ld hs2 hq2 rfl ?_
  refine Q7 g32 ?_
  refine U0 ?_
  refine Q4 (fun hc => ?_) (fun hc => ?_)
  · have hn' : n < c.methods.length := by simpa using hc
    have hnx : (ok && (List.range (n + 1)).all fun i => Ve c i && (List.range i).all (A5 c i)) = ((ok && (List.range n).all fun i => Ve c i && (List.range i).all (A5 c i)) && (Ve c n && (List.range n).all (A5 c n))) := by rw [Ua, Bool.and_assoc]
    have hP : Ve c n = (S7 c.methods[n] && (!c.methods[n].abs || c.abs) && (!c.iface || c.methods[n].abs)) := by unfold Ve Mv; rw [E0 hn']
    obtain ⟨pv, cv, hv, p1, r1⟩ := g32.elM hn'
    generalize (ok && (List.range n).all fun i => Ve c i && (List.range i).all (A5 c i)) = acc at hnx ⊢
    clear h hc
    have step : ∀ b, b = (acc && Ve c n) → (acc && (Ve c n && (List.range n).all (A5 c n))) = (b && (List.range n).all (A5 c n)) := fun b e => by rw [e, Bool.and_assoc]
    (repeat (with_reducible first | refine Y7 ?_ | refine Y9 ?_ | refine Y5 ?_ | refine Y8 ?_ | refine Z6 ?_ | refine Z5 ?_ | refine Y6 ?_ | refine Y4 ?_ | refine W1 ?_ | refine Z7 ?_ | refine U3 ?_))
    refine ld hs2 hq2 rfl ?_
    refine Z1 g32 hn' ?_
    refine Z0 hs2 p1 rfl ?_
    refine Y2 hs2 (by rfl) rfl (Rep.one r1) fun q9 w3 σ3 hk3 hq9 => ?_
    have hs3 := hk3.sat
    have hq3 := hq2.up hk3
    have g33 := g32.up hk3
    have r3 := S3 r1 ⟨hk3.le⟩
    have hk23 := hk2.trans hk3
    cases acc with
    | false =>
      (repeat (with_reducible first | refine Y7 ?_ | refine Y9 ?_ | refine Y5 ?_ | refine Y8 ?_ | refine Z6 ?_ | refine Z5 ?_ | refine Y6 ?_ | refine Y4 ?_ | refine W1 ?_ | refine Z7 ?_ | refine U3 ?_))
      refine Oh hs3 hq3 g33 hn' hq9 fun w4 σ4 hk4 => ?_
      exact J0 hmax hn' ⟨σ4, hk23.trans hk4, by rw [hnx]; rfl⟩
    | true =>
      (repeat (with_reducible first | refine Y7 ?_ | refine Y9 ?_ | refine Y5 ?_ | refine Y8 ?_ | refine Z6 ?_ | refine Z5 ?_ | refine Y6 ?_ | refine Y4 ?_ | refine W1 ?_ | refine Z7 ?_ | refine U3 ?_))
      refine Z0 hs3 hq9 rfl ?_
      (repeat (with_reducible first | refine Y7 ?_ | refine Y9 ?_ | refine Y5 ?_ | refine Y8 ?_ | refine Z6 ?_ | refine Z5 ?_ | refine Y6 ?_ | refine Y4 ?_ | refine W1 ?_ | refine Z7 ?_ | refine U3 ?_))
      refine Q4Y hs3 r3 fun w5 σ5 hk5 => ?_
      have hs5 := hk5.sat
      have hq5 := hq3.up hk5
      have hq95 := hq9.up hk5
      have g35 := g33.up hk5
      have hk25 := hk23.trans hk5
      cases d1 : S7 c.methods[n] with
      | false =>
        (repeat (with_reducible first | refine Y7 ?_ | refine Y9 ?_ | refine Y5 ?_ | refine Y8 ?_ | refine Z6 ?_ | refine Z5 ?_ | refine Y6 ?_ | refine Y4 ?_ | refine W1 ?_ | refine Z7 ?_ | refine U3 ?_))
        refine Oh hs5 hq5 g35 hn' hq95 fun w4 σ4 hk4 => ?_
        exact J0 hmax hn' ⟨σ4, hk25.trans hk4, by rw [hnx, step false (by rw [hP, d1]; rfl)]⟩
      | true =>
        (repeat (with_reducible first | refine Y7 ?_ | refine Y9 ?_ | refine Y5 ?_ | refine Y8 ?_ | refine Z6 ?_ | refine Z5 ?_ | refine Y6 ?_ | refine Y4 ?_ | refine W1 ?_ | refine Z7 ?_ | refine U3 ?_))
        refine ld hs5 hq95 rfl ?_
        (repeat (with_reducible first | refine Y7 ?_ | refine Y9 ?_ | refine Y5 ?_ | refine Y8 ?_ | refine Z6 ?_ | refine Z5 ?_ | refine Y6 ?_ | refine Y4 ?_ | refine W1 ?_ | refine Z7 ?_ | refine U3 ?_))
        have tail2 : ∀ b1 : Bool, b1 = (!c.methods[n].abs || c.abs) → Ve c n = (b1 && (!c.iface || c.methods[n].abs)) := fun b1 e => by rw [hP, d1, e]; rfl
        cases d2 : c.methods[n].abs with
        | false =>
          rw [d2] at tail2 hq95
          simp only [Bool.not_true, Bool.not_false]
          (repeat (with_reducible first | refine Y7 ?_ | refine Y9 ?_ | refine Y5 ?_ | refine Y8 ?_ | refine Z6 ?_ | refine Z5 ?_ | refine Y6 ?_ | refine Y4 ?_ | refine W1 ?_ | refine Z7 ?_ | refine U3 ?_))
          refine ld hs5 hq5 rfl ?_
          (repeat (with_reducible first | refine Y7 ?_ | refine Y9 ?_ | refine Y5 ?_ | refine Y8 ?_ | refine Z6 ?_ | refine Z5 ?_ | refine Y6 ?_ | refine Y4 ?_ | refine W1 ?_ | refine Z7 ?_ | refine U3 ?_))
          cases d4 : c.iface with
          | false =>
            simp only [Bool.not_true, Bool.not_false]
            (repeat (with_reducible first | refine Y7 ?_ | refine Y9 ?_ | refine Y5 ?_ | refine Y8 ?_ | refine Z6 ?_ | refine Z5 ?_ | refine Y6 ?_ | refine Y4 ?_ | refine W1 ?_ | refine Z7 ?_ | refine U3 ?_))
            refine Oh hs5 hq5 g35 hn' (by rw [d2]; exact hq95) fun w4 σ4 hk4 => ?_
            exact J0 hmax hn' ⟨σ4, hk25.trans hk4, by rw [hnx, step true (by rw [tail2 true rfl, d4]; rfl)]⟩
          | true =>
            simp only [Bool.not_true, Bool.not_false]
            (repeat (with_reducible first | refine Y7 ?_ | refine Y9 ?_ | refine Y5 ?_ | refine Y8 ?_ | refine Z6 ?_ | refine Z5 ?_ | refine Y6 ?_ | refine Y4 ?_ | refine W1 ?_ | refine Z7 ?_ | refine U3 ?_))
            refine ld hs5 hq95 rfl ?_
            (repeat (with_reducible first | refine Y7 ?_ | refine Y9 ?_ | refine Y5 ?_ | refine Y8 ?_ | refine Z6 ?_ | refine Z5 ?_ | refine Y6 ?_ | refine Y4 ?_ | refine W1 ?_ | refine Z7 ?_ | refine U3 ?_))
            refine Oh hs5 hq5 g35 hn' (by rw [d2]; exact hq95) fun w4 σ4 hk4 => ?_
            exact J0 hmax hn' ⟨σ4, hk25.trans hk4, by rw [hnx, step false (by rw [tail2 true rfl, d4]; rfl)]⟩
        | true =>
          rw [d2] at tail2 hq95
          simp only [Bool.not_true, Bool.not_false]
          (repeat (with_reducible first | refine Y7 ?_ | refine Y9 ?_ | refine Y5 ?_ | refine Y8 ?_ | refine Z6 ?_ | refine Z5 ?_ | refine Y6 ?_ | refine Y4 ?_ | refine W1 ?_ | refine Z7 ?_ | refine U3 ?_))
          refine ld hs5 hq5 rfl ?_
          cases d3 : c.abs with
          | false =>
            (repeat (with_reducible first | refine Y7 ?_ | refine Y9 ?_ | refine Y5 ?_ | refine Y8 ?_ | refine Z6 ?_ | refine Z5 ?_ | refine Y6 ?_ | refine Y4 ?_ | refine W1 ?_ | refine Z7 ?_ | refine U3 ?_))
            refine Oh hs5 hq5 g35 hn' (by rw [d2]; exact hq95) fun w4 σ4 hk4 => ?_
            exact J0 hmax hn' ⟨σ4, hk25.trans hk4, by rw [hnx, step false (by rw [tail2 false (by rw [d3]; rfl)]; rfl)]⟩
          | true =>
            (repeat (with_reducible first | refine Y7 ?_ | refine Y9 ?_ | refine Y5 ?_ | refine Y8 ?_ | refine Z6 ?_ | refine Z5 ?_ | refine Y6 ?_ | refine Y4 ?_ | refine W1 ?_ | refine Z7 ?_ | refine U3 ?_))
            refine ld hs5 hq5 rfl ?_
            (repeat (with_reducible first | refine Y7 ?_ | refine Y9 ?_ | refine Y5 ?_ | refine Y8 ?_ | refine Z6 ?_ | refine Z5 ?_ | refine Y6 ?_ | refine Y4 ?_ | refine W1 ?_ | refine Z7 ?_ | refine U3 ?_))
            cases d4 : c.iface with
            | false =>
              simp only [Bool.not_true, Bool.not_false]
              (repeat (with_reducible first | refine Y7 ?_ | refine Y9 ?_ | refine Y5 ?_ | refine Y8 ?_ | refine Z6 ?_ | refine Z5 ?_ | refine Y6 ?_ | refine Y4 ?_ | refine W1 ?_ | refine Z7 ?_ | refine U3 ?_))
              refine Oh hs5 hq5 g35 hn' (by rw [d2]; exact hq95) fun w4 σ4 hk4 => ?_
              exact J0 hmax hn' ⟨σ4, hk25.trans hk4, by rw [hnx, step true (by rw [tail2 true (by rw [d3]; rfl), d4]; rfl)]⟩
            | true =>
              simp only [Bool.not_true, Bool.not_false]
              (repeat (with_reducible first | refine Y7 ?_ | refine Y9 ?_ | refine Y5 ?_ | refine Y8 ?_ | refine Z6 ?_ | refine Z5 ?_ | refine Y6 ?_ | refine Y4 ?_ | refine W1 ?_ | refine Z7 ?_ | refine U3 ?_))
              refine ld hs5 hq95 rfl ?_
              (repeat (with_reducible first | refine Y7 ?_ | refine Y9 ?_ | refine Y5 ?_ | refine Y8 ?_ | refine Z6 ?_ | refine Z5 ?_ | refine Y6 ?_ | refine Y4 ?_ | refine W1 ?_ | refine Z7 ?_ | refine U3 ?_))
              refine Oh hs5 hq5 g35 hn' (by rw [d2]; exact hq95) fun w4 σ4 hk4 => ?_
              exact J0 hmax hn' ⟨σ4, hk25.trans hk4, by rw [hnx, step true (by rw [tail2 true (by rw [d3]; rfl), d4]; rfl)]⟩
  · have hn' : ¬ n < c.methods.length := by simpa using hc
    obtain rfl : n = c.methods.length := by omega
    exact h _ _ hk2
theorem Q7u {c : Cla} {lv fv mv : Value} {w1 : World} {σ1 : Q6} {q : Addr} {ok : Bool} (hs1 : X6 w1 σ1) (hq : J4 σ1 q [S c.name, S c.super, lv, .bool c.iface, .bool c.abs, .bool c.fin, fv, mv]) (h : K (.bool (ok && Q4i c)) w1) :
    Q0 (Value.bool ok) true w1 (fieldAddr P T.a (.pointer (some q)) 3) fun t177 w =>
              Q0 (Value.bool ok) true w (Q2 P T.m t177) fun t178 w =>
              Q0 (Value.bool ok) true w (U8 P .not t178) fun t179 w =>
              Q0 (Value.bool ok) true w (fun w J => J t179 w) fun t180 w =>
              Q0 t180 false w (fieldAddr P T.a (.pointer (some q)) 4) fun t181 w =>
              Q0 t180 false w (Q2 P T.m t181) fun t182 w =>
              Q0 t180 false w (fun w J => J t182 w) fun t183 w =>
              Q0 t183 true w (fieldAddr P T.a (.pointer (some q)) 1) fun t184 w =>
              Q0 t183 true w (Q2 P T.b t184) fun t185 w =>
              Q0 t183 true w (Q3 P .eql T.b (.tmp 185) (.const (.string ⟨#[79, 98, 106, 101, 99, 116]⟩)) t185 (.string ⟨#[79, 98, 106, 101, 99, 116]⟩)) fun t186 w =>
              Q0 t180 false w (pick P t183 t186 (.bool false)) fun t187 w =>
              Q0 (Value.bool ok) true w (pick P t180 (.bool true) t187) fun t188 w =>
              pick P (Value.bool ok) t188 (.bool false) w fun t189 w =>
              Q0 t189 true w (fieldAddr P T.a (.pointer (some q)) 4) fun t191 w =>
              Q0 t189 true w (Q2 P T.m t191) fun t192 w =>
              Q0 t189 true w (fun w J => J t192 w) fun t193 w =>
              Q0 t193 true w (fieldAddr P T.a (.pointer (some q)) 5) fun t194 w =>
              Q0 t193 true w (Q2 P T.m t194) fun t195 w =>
              Q0 t189 true w (pick P t193 t195 (.bool false)) fun t196 w =>
              Q0 t189 true w (U8 P .not t196) fun t197 w =>
              pick P t189 t197 (.bool false) w fun t198 w =>
              K t198 w := by
  unfold Q4i at h
  have er : decide (c.super = U1) = decide (c.super = [79, 98, 106, 101, 99, 116]) := rfl
  rw [er] at h
  cases ok with
  | false => (try simp only [↓Mm, Mm, ↓Mr, Mr, Mb, reduceIte]); simpa using h
  | true =>
    (try simp only [↓Mm, Mm, ↓Mr, Mr, Mb, reduceIte])
    refine ld hs1 hq rfl ?_
    (try simp only [↓Mm, Mm, ↓Mr, Mr, Mb, reduceIte])
    cases d1 : c.iface with
    | false =>
      rw [d1] at h
      (try simp only [↓Mm, Mm, ↓Mr, Mr, Mb, reduceIte])
      refine ld hs1 hq rfl ?_
      cases d2 : c.abs with
      | false => rw [d2] at h; (try simp only [↓Mm, Mm, ↓Mr, Mr, Mb, reduceIte]); simpa using h
      | true =>
        rw [d2] at h
        (try simp only [↓Mm, Mm, ↓Mr, Mr, Mb, reduceIte])
        refine ld hs1 hq rfl ?_
        (try simp only [↓Mm, Mm, ↓Mr, Mr, Mb, reduceIte])
        simpa using h
    | true =>
      rw [d1] at h
      (try simp only [↓Mm, Mm, ↓Mr, Mr, Mb, reduceIte])
      refine ld hs1 hq rfl ?_
      cases d2 : c.abs with
      | false => rw [d2] at h; (try simp only [↓Mm, Mm, ↓Mr, Mr, Mb, reduceIte]); simpa using h
      | true =>
        rw [d2] at h
        (try simp only [↓Mm, Mm, ↓Mr, Mr, Mb, reduceIte])
        refine ld hs1 hq rfl ?_
        (try simp only [↓Mm, Mm, ↓Mr, Mr, Mb, reduceIte])
        cases d3 : decide (c.super = [79, 98, 106, 101, 99, 116]) with
        | false => rw [d3] at h; (try simp only [↓Mm, Mm, ↓Mr, Mr, Mb, reduceIte]); simpa using h
        | true =>
          rw [d3] at h
          (try simp only [↓Mm, Mm, ↓Mr, Mr, Mb, reduceIte])
          refine ld hs1 hq rfl ?_
          simp only [d2, ↓Mm, Mm, ↓Mr, Mr, Mb, reduceIte]
          refine ld hs1 hq rfl ?_
          (try simp only [↓Mm, Mm, ↓Mr, Mr, Mb, reduceIte])
          simpa using h
end Go.Proofs.YtdnfaboigajkhaaGreatDoor

namespace Go.Proofs.YtdnfaboigajkhaaGreatDoor
open Go.Emb Go.RowKit Go.Kd Go.Hm
theorem Q3m {c : Cla} (h : L2 c = 0) : W7 c.name = true ∧ W7 c.super = true ∧ (c.iface = true → c.super = U1 ∧ c.fields = [] ∧ c.abs = true ∧ ∀ m ∈ c.methods, m.abs = true) ∧ (∀ m ∈ c.methods, m.abs = true → c.abs = true) ∧ c.fields.all Ls = true ∧ c.methods.all S7 = true ∧ E4 Fld.name [] c.fields = true ∧ E4 Hm.Met.name [] c.methods = true := by
  unfold L2 at h
  split at h
  · cases h
  split at h
  · rename_i hr
    simp only [Uu, Bool.and_eq_true] at hr
    obtain ⟨⟨⟨⟨⟨⟨⟨⟨q1, q2⟩, q3⟩, q4⟩, q5⟩, q6⟩, q7⟩, q8⟩, q9⟩ := hr
    refine ⟨List.all_eq_true.1 q1 c.name (by simp), List.all_eq_true.1 q1 c.super (by simp), fun hi => ?_, fun m hm ha => ?_, q8, q9, q6, q7⟩
    · rw [hi] at q4
      simp only [Bool.true_and, Bool.not_eq_true', Bool.or_eq_false_iff, Bool.not_eq_false', decide_eq_true_eq] at q4
      obtain ⟨⟨⟨a, b⟩, d⟩, e⟩ := q4
      refine ⟨b, d, a, fun m hm => ?_⟩
      have := List.any_eq_false.1 e m hm
      simpa using this
    · simp only [Bool.not_eq_true', Bool.or_eq_false_iff] at q5
      obtain ⟨_, q5⟩ := q5
      have h1 : c.methods.any (·.abs) = true := List.any_eq_true.2 ⟨m, hm, ha⟩
      rw [h1] at q5
      simpa using q5
  · cases h
theorem Q4B {l : List Cla} {c : Cla} (hc : c ∈ Q5 l) (hi : c.iface = true) : c ∈ l := by
  rcases List.mem_append.1 hc with h | h
  · have : ∀ c ∈ R1, c.iface = false := by decide
    rw [this c h] at hi; cases hi
  · exact h
section
variable {l : List Cla} (wf : Wf l)
include wf
theorem Wf.likes {c : Cla} (hc : c ∈ Q5 l) {u : X0} (hu : u ∈ c.like) : ∃ d, lk (Q5 l) u = some d ∧ d.iface = true := by
  rcases List.mem_append.1 hc with h | h
  · rw [(Yt c h).2.2] at hu; simp at hu
  · have := wf.up c h
    unfold uppersM at this
    split at this
    · cases this
    · split at this
      · cases this
      · rename_i hnb
        have hnb := List.any_eq_false.1 (eq_false_of_ne_true hnb) u hu
        unfold M7 at hnb
        cases hd : lk (Q5 l) u with
        | none => rw [hd] at hnb; simp at hnb
        | some d => rw [hd] at hnb; exact ⟨d, rfl, by simpa using hnb⟩
theorem Wf.above_iface {u b : X0} (h : Hm.Reach (lk (Q5 l)) u b) : ∀ d, lk (Q5 l) u = some d → d.iface = true → b = U1 ∨ ∃ e, lk (Q5 l) b = some e ∧ e.iface = true := by
  induction h with
  | refl h => intro d hd hi; exact .inr ⟨d, hd, hi⟩
  | step hc hu hr ih =>
    intro d hd hi
    rw [hc] at hd; cases hd
    obtain ⟨e, hm, _⟩ := V3 hc
    rcases List.mem_cons.1 hu with rfl | hu
    · rw [((Q3m (wf.ck _ (Q4B hm hi))).2.2.1 hi).1] at hr
      exact .inl (wf.atRoot hr)
    · obtain ⟨f, hf, hfi⟩ := wf.likes hm hu
      exact ih f hf hfi
theorem Wf.by_chain {n b : X0} (h : Hm.Reach (lk (Q5 l)) n b) : ∀ e, lk (Q5 l) b = some e → e.iface = false → b ≠ U1 → e ∈ chain (Q5 l) n := by
  induction h with
  | refl h =>
    intro e he _ _
    rw [C9 wf.acy, he]; simp
  | step hc hu hr ih =>
    intro e he hi hb
    obtain ⟨en, hm, _⟩ := V3 hc
    rcases List.mem_cons.1 hu with rfl | hu
    · rw [C9 wf.acy, hc]
      exact List.mem_cons_of_mem _ (ih e he hi hb)
    · obtain ⟨f, hf, hfi⟩ := wf.likes hm hu
      rcases wf.above_iface hr f hf hfi with h | ⟨g, hg, hgi⟩
      · exact absurd h hb
      · rw [he] at hg; cases hg; rw [hi] at hgi; cases hgi
theorem Wf.chain_tail : ∀ (k : Nat) {n : X0} {c : Cla}, H9 (Q5 l) n < k → c ∈ chain (Q5 l) n → ∃ pre, chain (Q5 l) n = pre ++ chain (Q5 l) c.name := by
  intro k
  induction k with
  | zero => intro n c h; omega
  | succ k ih =>
    intro n c hk hc
    rw [C9 wf.acy] at hc
    cases hd : lk (Q5 l) n with
    | none => rw [hd] at hc; simp at hc
    | some d =>
      rw [hd] at hc
      have hdn := (V3 hd).1
      rcases List.mem_cons.1 hc with rfl | hc
      · exact ⟨[], by rw [hdn]; rfl⟩
      · cases he : lk (Q5 l) d.super with
        | none => rw [I3 he] at hc; simp at hc
        | some e =>
          have hu : d.super ∈ U5 d := by simp [U5]
          obtain ⟨pre, h1⟩ := ih (by have := F3 wf.acy hd hu he; omega) hc
          exact ⟨d :: pre, by rw [C9 wf.acy, hd]; show d :: chain (Q5 l) d.super = _; rw [h1]; rfl⟩
theorem Wf.fields_tail {n : X0} {c : Cla} (h : c ∈ chain (Q5 l) n) : ∃ post, fieldsM (Q5 l) n = fieldsM (Q5 l) c.name ++ post := by
  obtain ⟨pre, h1⟩ := wf.chain_tail _ (Nat.lt_succ_self _) h
  exact ⟨pre.reverse.flatMap (·.fields), by unfold fieldsM; rw [h1]; simp⟩
theorem Wf.none_nil : lk (Q5 l) [] = none := by
  cases h : lk (Q5 l) [] with
  | none => rfl
  | some c => exact absurd (wf.lkn h) (by decide)
theorem Wf.fault_fields : fieldsM (Q5 l) W6 = [⟨K3, C6, false⟩] := by
  unfold fieldsM
  rw [C9 wf.acy, wf.fault]
  simp only
  rw [C9 wf.acy, wf.root]
  simp only
  rw [I3 wf.none_nil]
  rfl
theorem Wf.what {n : X0} (h : subM (Q5 l) n W6 = true) {c : Cla} (hn : lk (Q5 l) n = some c) : placeM (Q5 l) n K3 = some 0 := by
  have hr := (wf.sub_class hn).1 h
  have hm := wf.by_chain hr _ wf.fault rfl (by decide)
  obtain ⟨post, hp⟩ := wf.fields_tail hm
  unfold placeM
  rw [hp, show (Cla.mk W6 U1 [] false false false [⟨K3, C6, false⟩] []).name = W6 from rfl, wf.fault_fields]
  rfl
end
end Go.Proofs.YtdnfaboigajkhaaGreatDoor

namespace Go.Hm
open Go.Kd
end Go.Hm
namespace Go.Proofs.YtdnfaboigajkhaaGreatDoor
open Go.Emb Go.RowKit Go.Kd Go.Hm
section
variable {l : List Cla} (wf : Wf l)
include wf
end
end Go.Proofs.YtdnfaboigajkhaaGreatDoor
namespace Go.Proofs.YtdnfaboigajkhaaGreatDoor
open Go.Emb Go.RowKit Go.Kd Go.Hm
end Go.Proofs.YtdnfaboigajkhaaGreatDoor
namespace Go.Proofs.YtdnfaboigajkhaaGreatDoor
open Go.Emb Go.RowKit Go.Kd Go.Hm
section
variable {l : List Cla} (wf : Wf l)
include wf
end
end Go.Proofs.YtdnfaboigajkhaaGreatDoor

namespace Go.Proofs.YtdnfaboigajkhaaGreatDoor
open Go.Emb Go.RowKit Go.Kd Go.Hm
variable {w : World} {K : Value → World → Prop} {σ : Q6}
def Q2C (c : Cla) : Bool := ((((W7 c.name && W7 c.super && !decide (c.name = c.super)) && (List.range c.like.length).all fun i => Wc c i && (List.range i).all (G5 c i)) && (List.range c.fields.length).all fun i => Ll c i && (List.range i).all (T5 c i)) && (List.range c.methods.length).all fun i => Ve c i && (List.range i).all (A5 c i)) && Q4i c
theorem Q6R {α : Type} {f : α → X0} : ∀ (xs seen : List α), E4 f seen xs = true ↔ (xs.map f).Nodup ∧ ∀ x ∈ xs, ∀ y ∈ seen, f y ≠ f x := by
  intro xs
  induction xs with
  | nil => intro seen; simp [E4]
  | cons x r ih =>
    intro seen
    simp only [E4, Bool.and_eq_true, ih, Bool.not_eq_true', List.map_cons, List.nodup_cons]
    rw [← Bool.not_eq_true, List.any_eq_true]
    simp only [decide_eq_true_eq, not_exists, not_and, List.mem_append, List.mem_cons, List.not_mem_nil, or_false, List.mem_map]
    constructor
    · rintro ⟨h1, h2, h3⟩
      refine ⟨⟨fun y hy e => h3 y hy x (.inr rfl) e.symm, h2⟩, fun y hy z hz => ?_⟩
      rcases hy with rfl | hy
      · exact h1 z hz
      · exact h3 y hy z (.inl hz)
    · rintro ⟨⟨h1, h2⟩, h3⟩
      refine ⟨fun y hy => h3 x (.inl rfl) y hy, h2, fun y hy z hz => ?_⟩
      rcases hz with hz | rfl
      · exact h3 y (.inr hy) z hz
      · exact fun e => h1 y hy e.symm
theorem Ie {α : Type} {f : α → X0} {xs : List α} {p : α → Bool} {P : Nat → Bool} {Q : Nat → Nat → Bool} (hP : ∀ i (h : i < xs.length), P i = p xs[i]) (hQ : ∀ i (h : i < xs.length) k (h' : k < xs.length), Q i k = !decide (f xs[k] = f xs[i])) :
    ((List.range xs.length).all fun i => P i && (List.range i).all (Q i)) = true ↔ (∀ x ∈ xs, p x = true) ∧ E4 f [] xs = true := by
  rw [Q6R, List.all_eq_true]
  simp only [List.mem_range, Bool.and_eq_true, List.all_eq_true, List.not_mem_nil, false_implies, implies_true, and_true]
  rw [List.nodup_iff_pairwise_ne, List.pairwise_iff_getElem]
  simp only [List.length_map, List.getElem_map]
  constructor
  · intro h
    refine ⟨fun x hx => ?_, fun i j hi hj hij => ?_⟩
    · obtain ⟨i, hi, rfl⟩ := List.getElem_of_mem hx
      rw [← hP i hi]; exact (h i hi).1
    · have := (h j hj).2 i hij
      rw [hQ j hj i hi] at this
      simpa using this
  · rintro ⟨h1, h2⟩ i hi
    refine ⟨by rw [hP i hi]; exact h1 _ (List.getElem_mem hi), fun k hk => ?_⟩
    rw [hQ i hi k (by omega)]
    simpa using h2 k i (by omega) hi hk
theorem Q6q (c : Cla) : Q2C c = Uu c := by
  have hl := Ie (f := id) (xs := c.like) (p := fun y => W7 y && !decide (y = c.name)) (P := Wc c) (Q := G5 c) (fun i h => by unfold Wc; rw [E0 h]) (fun i h k h' => by unfold G5; rw [E0 h, E0 h']; rfl)
  have hf := Ie (f := Fld.name) (xs := c.fields) (p := fun f => M1 f.name && right f.kind && !c.iface) (P := Ll c) (Q := T5 c) (fun i h => by unfold Ll Eg; rw [E0 h]) (fun i h k h' => by unfold T5 Eg; rw [E0 h, E0 h'])
  have hm := Ie (f := Hm.Met.name) (xs := c.methods) (p := fun m => S7 m && (!m.abs || c.abs) && (!c.iface || m.abs)) (P := Ve c) (Q := A5 c) (fun i h => by unfold Ve Mv; rw [E0 h]) (fun i h k h' => by unfold A5 Mv; rw [E0 h, E0 h'])
  rw [Bool.eq_iff_iff]
  unfold Q2C Uu Q4i
  simp only [Bool.and_eq_true, hl, hf, hm]
  simp only [Bool.and_eq_true, Bool.not_eq_true', Bool.or_eq_true, Bool.and_eq_false_iff, Bool.or_eq_false_iff, decide_eq_true_eq, decide_eq_false_iff_not, List.all_eq_true, List.mem_cons, List.any_eq_false, Ls, Bool.not_eq_false']
  constructor
  · rintro ⟨⟨⟨⟨⟨⟨h1, h2⟩, h3⟩, h4, h5⟩, h6, h7⟩, h8, h9⟩, h10, h11⟩
    refine ⟨⟨⟨⟨⟨⟨⟨⟨?_, ?_⟩, h5⟩, ?_⟩, h11, ?_⟩, h7⟩, h9⟩, ?_⟩, fun m hm => (h8 m hm).1.1⟩
    · rintro x (rfl | rfl | hx)
      · exact h1
      · exact h2
      · exact (h4 x hx).1
    · rintro x (rfl | hx)
      · exact h3
      · exact fun e => (h4 x hx).2 e.symm
    · cases hi : c.iface with
      | false => exact .inl rfl
      | true =>
        rw [hi] at h10 h6 h8
        have h10 := h10.resolve_left (by decide)
        refine .inr ⟨⟨h10, ?_⟩, fun m hm e => ?_⟩
        · rw [List.eq_nil_iff_forall_not_mem]
          intro f hf
          exact absurd (h6 f hf).2 (by decide)
        · have := (h8 m hm).2.resolve_left (by decide)
          rw [this] at e; cases e
    · cases ha : c.abs with
      | true => exact .inr rfl
      | false =>
        rw [ha] at h8
        refine .inl fun m hm e => ?_
        have := (h8 m hm).1.2.resolve_right (by decide)
        rw [this] at e; cases e
    · exact fun f hf => (h6 f hf).1
  · rintro ⟨⟨⟨⟨⟨⟨⟨⟨h1, h2⟩, h3⟩, h4⟩, h5, h6⟩, h7⟩, h8⟩, h9⟩, h10⟩
    refine ⟨⟨⟨⟨⟨⟨h1 _ (.inl rfl), h1 _ (.inr (.inl rfl))⟩, h2 _ (.inl rfl)⟩, fun x hx => ⟨h1 x (.inr (.inr hx)), fun e => h2 x (.inr hx) e.symm⟩, h3⟩, fun f hf => ⟨h9 f hf, ?_⟩, h7⟩, fun m hm => ⟨⟨h10 m hm, ?_⟩, ?_⟩, h8⟩, ?_, h5⟩
    · rcases h4 with h4 | ⟨⟨_, h4⟩, _⟩
      · exact h4
      · rw [h4] at hf; simp at hf
    · rcases h6 with h6 | h6
      · left; exact eq_false_of_ne_true (h6 m hm)
      · exact .inr h6
    · rcases h4 with h4 | ⟨_, h4⟩
      · exact .inl h4
      · right
        cases hx : m.abs with
        | true => rfl
        | false => exact absurd hx (h4 m hm)
    · rcases h4 with h4 | ⟨⟨h4, _⟩, _⟩
      · exact .inl h4
      · exact .inr h4
set_option maxHeartbeats 4000000 in
theorem Q5I {c : Cla} {cs : List Value} (hs : X6 w σ) (hc : V0 σ c cs) (h : ∀ w' σ', Stp w σ w' σ' → K (.bool (Q2C c)) w') : Q1 P F.b5 [.agg cs.toArray] w K := Sp (by
  unfold Vi
  obtain ⟨lv, fv, mv, rfl, f1, f2, f3, f4, f5⟩ := hc
  have f4' : c.name.length ≤ 140737488355328 := by simp only [V9] at f4; omega
  have f5' : c.super.length ≤ 140737488355328 := by simp only [V9] at f5; omega
  refine Z8 hs fun q w1 σ1 hk1 hq => ?_
  have g1 := f1.up hk1
  have g2 := f2.up hk1
  have g3 := f3.up hk1
  have hs1 := hk1.sat
  have fin : ∀ ok : Bool, ok = (W7 c.name && W7 c.super && !decide (c.name = c.super)) → _ := fun ok e =>
    Q6C (w1 := w1) (σ1 := σ1) (ok := ok) hs1 hq (J := fun v w => lp (α := Value × Value) (v, (.int .i64 0)) w fun again16 x16 d_ w =>
        fieldAddr P T.a (.pointer (some q)) 6 w fun t72 w =>
        Q2 P T.h t72 w fun t73 w =>
        X5 P .len [T.h] T.d [false] [t73] w fun t74 w =>
        Q3 P .lss T.d (.tmp 71) (.tmp 74) x16.2 t74 w fun t75 w =>
        X1 t75 (
          Q0 x16.1 true w (fieldAddr P T.a (.pointer (some q)) 6) fun t80 w =>
          Q0 x16.1 true w (Q2 P T.h t80) fun t81 w =>
          Q0 x16.1 true w (fun w J => J x16.2 w) fun t82 w =>
          Q0 x16.1 true w (indexAddr P T.h t81 t82) fun t83 w =>
          Q0 x16.1 true w (fieldAddr P T.i t83 0) fun t84 w =>
          Q0 x16.1 true w (Q2 P T.b t84) fun t85 w =>
          Q0 x16.1 true w (Q1 P F.t [t85]) fun t86 w =>
          pick P x16.1 t86 (.bool false) w fun t87 w =>
          Q0 t87 true w (fieldAddr P T.a (.pointer (some q)) 6) fun t89 w =>
          Q0 t87 true w (Q2 P T.h t89) fun t90 w =>
          Q0 t87 true w (fun w J => J x16.2 w) fun t91 w =>
          Q0 t87 true w (indexAddr P T.h t90 t91) fun t92 w =>
          Q0 t87 true w (fieldAddr P T.i t92 1) fun t93 w =>
          Q0 t87 true w (Q2 P T.b t93) fun t94 w =>
          Q0 t87 true w (Q1 P F.i [t94]) fun t95 w =>
          pick P t87 t95 (.bool false) w fun t96 w =>
          Q0 t96 true w (fieldAddr P T.a (.pointer (some q)) 3) fun t98 w =>
          Q0 t96 true w (Q2 P T.m t98) fun t99 w =>
          Q0 t96 true w (U8 P .not t99) fun t100 w =>
          pick P t96 t100 (.bool false) w fun t101 w =>
          lp (α := Value × Value) (t101, (.int .i64 0)) w fun again22 x22 d_ w =>
            Q3 P .lss T.d (.tmp 102) (.tmp 103) x22.2 x16.2 w fun t104 w =>
            X1 t104 (
              dr w fun Tr Br =>
              Q8 Tr (fun φ109 => ∀ w : World, Br w → Q0 x22.1 true w (fieldAddr P T.a (.pointer (some q)) 6) (dk Tr φ109 w)) fun φ109 =>
              Q8 Tr (fun φ111 => ∀ w : World, Br w → Q0 x22.1 true w (fun w J => J x22.2 w) (dk Tr φ111 w)) fun φ111 =>
              Q8 Tr (fun φ115 => ∀ w : World, Br w → Q0 x22.1 true w (fieldAddr P T.a (.pointer (some q)) 6) (dk Tr φ115 w)) fun φ115 =>
              Q8 Tr (fun φ117 => ∀ w : World, Br w → Q0 x22.1 true w (fun w J => J x16.2 w) (dk Tr φ117 w)) fun φ117 =>
              Q8 Tr (fun φ110 => ∀ t109 : Value, ∀ w : World, Br w → φ109 t109 w → Q0 x22.1 true w (Q2 P T.h t109) (dk Tr φ110 w)) fun φ110 =>
              Q8 Tr (fun φ112 => ∀ t110 : Value, ∀ t111 : Value, ∀ w : World, Br w → φ110 t110 w → φ111 t111 w → Q0 x22.1 true w (indexAddr P T.h t110 t111) (dk Tr φ112 w)) fun φ112 =>
              Q8 Tr (fun φ113 => ∀ t112 : Value, ∀ w : World, Br w → φ112 t112 w → Q0 x22.1 true w (fieldAddr P T.i t112 0) (dk Tr φ113 w)) fun φ113 =>
              Q8 Tr (fun φ114 => ∀ t113 : Value, ∀ w : World, Br w → φ113 t113 w → Q0 x22.1 true w (Q2 P T.b t113) (dk Tr φ114 w)) fun φ114 =>
              Q8 Tr (fun φ116 => ∀ t115 : Value, ∀ w : World, Br w → φ115 t115 w → Q0 x22.1 true w (Q2 P T.h t115) (dk Tr φ116 w)) fun φ116 =>
              Q8 Tr (fun φ118 => ∀ t116 : Value, ∀ t117 : Value, ∀ w : World, Br w → φ116 t116 w → φ117 t117 w → Q0 x22.1 true w (indexAddr P T.h t116 t117) (dk Tr φ118 w)) fun φ118 =>
              Q8 Tr (fun φ119 => ∀ t118 : Value, ∀ w : World, Br w → φ118 t118 w → Q0 x22.1 true w (fieldAddr P T.i t118 0) (dk Tr φ119 w)) fun φ119 =>
              Q8 Tr (fun φ120 => ∀ t119 : Value, ∀ w : World, Br w → φ119 t119 w → Q0 x22.1 true w (Q2 P T.b t119) (dk Tr φ120 w)) fun φ120 =>
              ∀ t109 : Value, ∀ t111 : Value, ∀ t115 : Value, ∀ t117 : Value, ∀ t110 : Value, ∀ t112 : Value, ∀ t113 : Value, ∀ t114 : Value, ∀ t116 : Value, ∀ t118 : Value, ∀ t119 : Value, ∀ t120 : Value, ∀ w : World, Br w → φ109 t109 w → φ111 t111 w → φ115 t115 w → φ117 t117 w → φ110 t110 w → φ112 t112 w → φ113 t113 w → φ114 t114 w → φ116 t116 w → φ118 t118 w → φ119 t119 w → φ120 t120 w → 
              Q0 x22.1 true w (Q3 P .neq T.b (.tmp 114) (.tmp 120) t114 t120) fun t121 w =>
              pick P x22.1 t121 (.bool false) w fun t122 w =>
              Q3 P .add T.d (.tmp 105) (.const (.int .i64 1)) x22.2 (.int .i64 1) w fun t106 w =>
              again22 (t122, t106) w) (
              Q3 P .add T.d (.tmp 76) (.const (.int .i64 1)) x16.2 (.int .i64 1) w fun t77 w =>
              again16 (x22.1, t77) w)) (
          lp (α := Value × Value) (x16.1, (.int .i64 0)) w fun again28 x28 d_ w =>
            fieldAddr P T.a (.pointer (some q)) 7 w fun t124 w =>
            Q2 P T.e t124 w fun t125 w =>
            X5 P .len [T.e] T.d [false] [t125] w fun t126 w =>
            Q3 P .lss T.d (.tmp 123) (.tmp 126) x28.2 t126 w fun t127 w =>
            X1 t127 (
              fieldAddr P T.a (.pointer (some q)) 7 w fun t130 w =>
              Q2 P T.e t130 w fun t131 w =>
              indexAddr P T.e t131 x28.2 w fun t133 w =>
              Q2 P T.c t133 w fun t134 w =>
              M3 P T.c w fun t9 w =>
              V6 P T.c t9 t134 w fun _u w =>
              Q0 x28.1 true w (Q2 P T.c t9) fun t137 w =>
              Q0 x28.1 true w (Q1 P F.y [t137]) fun t138 w =>
              pick P x28.1 t138 (.bool false) w fun t139 w =>
              Q0 t139 true w (fieldAddr P T.c t9 3) fun t141 w =>
              Q0 t139 true w (Q2 P T.m t141) fun t142 w =>
              Q0 t139 true w (U8 P .not t142) fun t143 w =>
              Q0 t139 true w (fun w J => J t143 w) fun t144 w =>
              Q0 t144 false w (fieldAddr P T.a (.pointer (some q)) 4) fun t145 w =>
              Q0 t144 false w (Q2 P T.m t145) fun t146 w =>
              Q0 t139 true w (pick P t144 (.bool true) t146) fun t147 w =>
              pick P t139 t147 (.bool false) w fun t148 w =>
              Q0 t148 true w (fieldAddr P T.a (.pointer (some q)) 3) fun t150 w =>
              Q0 t148 true w (Q2 P T.m t150) fun t151 w =>
              Q0 t148 true w (U8 P .not t151) fun t152 w =>
              Q0 t148 true w (fun w J => J t152 w) fun t153 w =>
              Q0 t153 false w (fieldAddr P T.c t9 3) fun t154 w =>
              Q0 t153 false w (Q2 P T.m t154) fun t155 w =>
              Q0 t148 true w (pick P t153 (.bool true) t155) fun t156 w =>
              pick P t148 t156 (.bool false) w fun t157 w =>
              lp (α := Value × Value) (t157, (.int .i64 0)) w fun again35 x35 d_ w =>
                Q3 P .lss T.d (.tmp 158) (.tmp 159) x35.2 x28.2 w fun t160 w =>
                X1 t160 (
                  dr w fun Tr Br =>
                  Q8 Tr (fun φ165 => ∀ w : World, Br w → Q0 x35.1 true w (fieldAddr P T.a (.pointer (some q)) 7) (dk Tr φ165 w)) fun φ165 =>
                  Q8 Tr (fun φ167 => ∀ w : World, Br w → Q0 x35.1 true w (fun w J => J x35.2 w) (dk Tr φ167 w)) fun φ167 =>
                  Q8 Tr (fun φ171 => ∀ w : World, Br w → Q0 x35.1 true w (fieldAddr P T.c t9 0) (dk Tr φ171 w)) fun φ171 =>
                  Q8 Tr (fun φ166 => ∀ t165 : Value, ∀ w : World, Br w → φ165 t165 w → Q0 x35.1 true w (Q2 P T.e t165) (dk Tr φ166 w)) fun φ166 =>
                  Q8 Tr (fun φ168 => ∀ t166 : Value, ∀ t167 : Value, ∀ w : World, Br w → φ166 t166 w → φ167 t167 w → Q0 x35.1 true w (indexAddr P T.e t166 t167) (dk Tr φ168 w)) fun φ168 =>
                  Q8 Tr (fun φ169 => ∀ t168 : Value, ∀ w : World, Br w → φ168 t168 w → Q0 x35.1 true w (fieldAddr P T.c t168 0) (dk Tr φ169 w)) fun φ169 =>
                  Q8 Tr (fun φ170 => ∀ t169 : Value, ∀ w : World, Br w → φ169 t169 w → Q0 x35.1 true w (Q2 P T.b t169) (dk Tr φ170 w)) fun φ170 =>
                  Q8 Tr (fun φ172 => ∀ t171 : Value, ∀ w : World, Br w → φ171 t171 w → Q0 x35.1 true w (Q2 P T.b t171) (dk Tr φ172 w)) fun φ172 =>
                  ∀ t165 : Value, ∀ t167 : Value, ∀ t171 : Value, ∀ t166 : Value, ∀ t168 : Value, ∀ t169 : Value, ∀ t170 : Value, ∀ t172 : Value, ∀ w : World, Br w → φ165 t165 w → φ167 t167 w → φ171 t171 w → φ166 t166 w → φ168 t168 w → φ169 t169 w → φ170 t170 w → φ172 t172 w → 
                  Q0 x35.1 true w (Q3 P .neq T.b (.tmp 170) (.tmp 172) t170 t172) fun t173 w =>
                  pick P x35.1 t173 (.bool false) w fun t174 w =>
                  Q3 P .add T.d (.tmp 161) (.const (.int .i64 1)) x35.2 (.int .i64 1) w fun t162 w =>
                  again35 (t174, t162) w) (
                  Q3 P .add T.d (.tmp 128) (.const (.int .i64 1)) x28.2 (.int .i64 1) w fun t129 w =>
                  again28 (x35.1, t129) w)) (
              Q0 x28.1 true w (fieldAddr P T.a (.pointer (some q)) 3) fun t177 w =>
              Q0 x28.1 true w (Q2 P T.m t177) fun t178 w =>
              Q0 x28.1 true w (U8 P .not t178) fun t179 w =>
              Q0 x28.1 true w (fun w J => J t179 w) fun t180 w =>
              Q0 t180 false w (fieldAddr P T.a (.pointer (some q)) 4) fun t181 w =>
              Q0 t180 false w (Q2 P T.m t181) fun t182 w =>
              Q0 t180 false w (fun w J => J t182 w) fun t183 w =>
              Q0 t183 true w (fieldAddr P T.a (.pointer (some q)) 1) fun t184 w =>
              Q0 t183 true w (Q2 P T.b t184) fun t185 w =>
              Q0 t183 true w (Q3 P .eql T.b (.tmp 185) (.const (.string ⟨#[79, 98, 106, 101, 99, 116]⟩)) t185 (.string ⟨#[79, 98, 106, 101, 99, 116]⟩)) fun t186 w =>
              Q0 t180 false w (pick P t183 t186 (.bool false)) fun t187 w =>
              Q0 x28.1 true w (pick P t180 (.bool true) t187) fun t188 w =>
              pick P x28.1 t188 (.bool false) w fun t189 w =>
              Q0 t189 true w (fieldAddr P T.a (.pointer (some q)) 4) fun t191 w =>
              Q0 t189 true w (Q2 P T.m t191) fun t192 w =>
              Q0 t189 true w (fun w J => J t192 w) fun t193 w =>
              Q0 t193 true w (fieldAddr P T.a (.pointer (some q)) 5) fun t194 w =>
              Q0 t193 true w (Q2 P T.m t194) fun t195 w =>
              Q0 t189 true w (pick P t193 t195 (.bool false)) fun t196 w =>
              Q0 t189 true w (U8 P .not t196) fun t197 w =>
              pick P t189 t197 (.bool false) w fun t198 w =>
              K t198 w))) f4 g1 fun w2 σ2 hk2 =>
    Q7W (J := fun v w => lp (α := Value × Value) (v, (.int .i64 0)) w fun again28 x28 d_ w =>
            fieldAddr P T.a (.pointer (some q)) 7 w fun t124 w =>
            Q2 P T.e t124 w fun t125 w =>
            X5 P .len [T.e] T.d [false] [t125] w fun t126 w =>
            Q3 P .lss T.d (.tmp 123) (.tmp 126) x28.2 t126 w fun t127 w =>
            X1 t127 (
              fieldAddr P T.a (.pointer (some q)) 7 w fun t130 w =>
              Q2 P T.e t130 w fun t131 w =>
              indexAddr P T.e t131 x28.2 w fun t133 w =>
              Q2 P T.c t133 w fun t134 w =>
              M3 P T.c w fun t9 w =>
              V6 P T.c t9 t134 w fun _u w =>
              Q0 x28.1 true w (Q2 P T.c t9) fun t137 w =>
              Q0 x28.1 true w (Q1 P F.y [t137]) fun t138 w =>
              pick P x28.1 t138 (.bool false) w fun t139 w =>
              Q0 t139 true w (fieldAddr P T.c t9 3) fun t141 w =>
              Q0 t139 true w (Q2 P T.m t141) fun t142 w =>
              Q0 t139 true w (U8 P .not t142) fun t143 w =>
              Q0 t139 true w (fun w J => J t143 w) fun t144 w =>
              Q0 t144 false w (fieldAddr P T.a (.pointer (some q)) 4) fun t145 w =>
              Q0 t144 false w (Q2 P T.m t145) fun t146 w =>
              Q0 t139 true w (pick P t144 (.bool true) t146) fun t147 w =>
              pick P t139 t147 (.bool false) w fun t148 w =>
              Q0 t148 true w (fieldAddr P T.a (.pointer (some q)) 3) fun t150 w =>
              Q0 t148 true w (Q2 P T.m t150) fun t151 w =>
              Q0 t148 true w (U8 P .not t151) fun t152 w =>
              Q0 t148 true w (fun w J => J t152 w) fun t153 w =>
              Q0 t153 false w (fieldAddr P T.c t9 3) fun t154 w =>
              Q0 t153 false w (Q2 P T.m t154) fun t155 w =>
              Q0 t148 true w (pick P t153 (.bool true) t155) fun t156 w =>
              pick P t148 t156 (.bool false) w fun t157 w =>
              lp (α := Value × Value) (t157, (.int .i64 0)) w fun again35 x35 d_ w =>
                Q3 P .lss T.d (.tmp 158) (.tmp 159) x35.2 x28.2 w fun t160 w =>
                X1 t160 (
                  dr w fun Tr Br =>
                  Q8 Tr (fun φ165 => ∀ w : World, Br w → Q0 x35.1 true w (fieldAddr P T.a (.pointer (some q)) 7) (dk Tr φ165 w)) fun φ165 =>
                  Q8 Tr (fun φ167 => ∀ w : World, Br w → Q0 x35.1 true w (fun w J => J x35.2 w) (dk Tr φ167 w)) fun φ167 =>
                  Q8 Tr (fun φ171 => ∀ w : World, Br w → Q0 x35.1 true w (fieldAddr P T.c t9 0) (dk Tr φ171 w)) fun φ171 =>
                  Q8 Tr (fun φ166 => ∀ t165 : Value, ∀ w : World, Br w → φ165 t165 w → Q0 x35.1 true w (Q2 P T.e t165) (dk Tr φ166 w)) fun φ166 =>
                  Q8 Tr (fun φ168 => ∀ t166 : Value, ∀ t167 : Value, ∀ w : World, Br w → φ166 t166 w → φ167 t167 w → Q0 x35.1 true w (indexAddr P T.e t166 t167) (dk Tr φ168 w)) fun φ168 =>
                  Q8 Tr (fun φ169 => ∀ t168 : Value, ∀ w : World, Br w → φ168 t168 w → Q0 x35.1 true w (fieldAddr P T.c t168 0) (dk Tr φ169 w)) fun φ169 =>
                  Q8 Tr (fun φ170 => ∀ t169 : Value, ∀ w : World, Br w → φ169 t169 w → Q0 x35.1 true w (Q2 P T.b t169) (dk Tr φ170 w)) fun φ170 =>
                  Q8 Tr (fun φ172 => ∀ t171 : Value, ∀ w : World, Br w → φ171 t171 w → Q0 x35.1 true w (Q2 P T.b t171) (dk Tr φ172 w)) fun φ172 =>
                  ∀ t165 : Value, ∀ t167 : Value, ∀ t171 : Value, ∀ t166 : Value, ∀ t168 : Value, ∀ t169 : Value, ∀ t170 : Value, ∀ t172 : Value, ∀ w : World, Br w → φ165 t165 w → φ167 t167 w → φ171 t171 w → φ166 t166 w → φ168 t168 w → φ169 t169 w → φ170 t170 w → φ172 t172 w → 
                  Q0 x35.1 true w (Q3 P .neq T.b (.tmp 170) (.tmp 172) t170 t172) fun t173 w =>
                  pick P x35.1 t173 (.bool false) w fun t174 w =>
                  Q3 P .add T.d (.tmp 161) (.const (.int .i64 1)) x35.2 (.int .i64 1) w fun t162 w =>
                  again35 (t174, t162) w) (
                  Q3 P .add T.d (.tmp 128) (.const (.int .i64 1)) x28.2 (.int .i64 1) w fun t129 w =>
                  again28 (x35.1, t129) w)) (
              Q0 x28.1 true w (fieldAddr P T.a (.pointer (some q)) 3) fun t177 w =>
              Q0 x28.1 true w (Q2 P T.m t177) fun t178 w =>
              Q0 x28.1 true w (U8 P .not t178) fun t179 w =>
              Q0 x28.1 true w (fun w J => J t179 w) fun t180 w =>
              Q0 t180 false w (fieldAddr P T.a (.pointer (some q)) 4) fun t181 w =>
              Q0 t180 false w (Q2 P T.m t181) fun t182 w =>
              Q0 t180 false w (fun w J => J t182 w) fun t183 w =>
              Q0 t183 true w (fieldAddr P T.a (.pointer (some q)) 1) fun t184 w =>
              Q0 t183 true w (Q2 P T.b t184) fun t185 w =>
              Q0 t183 true w (Q3 P .eql T.b (.tmp 185) (.const (.string ⟨#[79, 98, 106, 101, 99, 116]⟩)) t185 (.string ⟨#[79, 98, 106, 101, 99, 116]⟩)) fun t186 w =>
              Q0 t180 false w (pick P t183 t186 (.bool false)) fun t187 w =>
              Q0 x28.1 true w (pick P t180 (.bool true) t187) fun t188 w =>
              pick P x28.1 t188 (.bool false) w fun t189 w =>
              Q0 t189 true w (fieldAddr P T.a (.pointer (some q)) 4) fun t191 w =>
              Q0 t189 true w (Q2 P T.m t191) fun t192 w =>
              Q0 t189 true w (fun w J => J t192 w) fun t193 w =>
              Q0 t193 true w (fieldAddr P T.a (.pointer (some q)) 5) fun t194 w =>
              Q0 t193 true w (Q2 P T.m t194) fun t195 w =>
              Q0 t189 true w (pick P t193 t195 (.bool false)) fun t196 w =>
              Q0 t189 true w (U8 P .not t196) fun t197 w =>
              pick P t189 t197 (.bool false) w fun t198 w =>
              K t198 w)) hk2.sat (hq.up hk2) (g2.up hk2) fun w3 σ3 hk3 =>
    Q7r (J := fun v w => Q0 v true w (fieldAddr P T.a (.pointer (some q)) 3) fun t177 w =>
              Q0 v true w (Q2 P T.m t177) fun t178 w =>
              Q0 v true w (U8 P .not t178) fun t179 w =>
              Q0 v true w (fun w J => J t179 w) fun t180 w =>
              Q0 t180 false w (fieldAddr P T.a (.pointer (some q)) 4) fun t181 w =>
              Q0 t180 false w (Q2 P T.m t181) fun t182 w =>
              Q0 t180 false w (fun w J => J t182 w) fun t183 w =>
              Q0 t183 true w (fieldAddr P T.a (.pointer (some q)) 1) fun t184 w =>
              Q0 t183 true w (Q2 P T.b t184) fun t185 w =>
              Q0 t183 true w (Q3 P .eql T.b (.tmp 185) (.const (.string ⟨#[79, 98, 106, 101, 99, 116]⟩)) t185 (.string ⟨#[79, 98, 106, 101, 99, 116]⟩)) fun t186 w =>
              Q0 t180 false w (pick P t183 t186 (.bool false)) fun t187 w =>
              Q0 v true w (pick P t180 (.bool true) t187) fun t188 w =>
              pick P v t188 (.bool false) w fun t189 w =>
              Q0 t189 true w (fieldAddr P T.a (.pointer (some q)) 4) fun t191 w =>
              Q0 t189 true w (Q2 P T.m t191) fun t192 w =>
              Q0 t189 true w (fun w J => J t192 w) fun t193 w =>
              Q0 t193 true w (fieldAddr P T.a (.pointer (some q)) 5) fun t194 w =>
              Q0 t193 true w (Q2 P T.m t194) fun t195 w =>
              Q0 t189 true w (pick P t193 t195 (.bool false)) fun t196 w =>
              Q0 t189 true w (U8 P .not t196) fun t197 w =>
              pick P t189 t197 (.bool false) w fun t198 w =>
              K t198 w) hk3.sat ((hq.up hk2).up hk3) ((g3.up hk2).up hk3) fun w4 σ4 hk4 =>
    Q7u (K := K) hk4.sat (((hq.up hk2).up hk3).up hk4) (by rw [e]; exact h _ _ (hk1.trans (hk2.trans (hk3.trans hk4))))
  (repeat (with_reducible first | refine Y7 ?_ | refine Y9 ?_ | refine Y5 ?_ | refine Y8 ?_ | refine Z6 ?_ | refine Z5 ?_ | refine Y6 ?_ | refine Y4 ?_ | refine W1 ?_ | refine Z7 ?_ | refine U3 ?_))
  refine ld hs1 hq rfl ?_
  refine A8 c.name f4' ?_
  cases d1 : W7 c.name with
  | false => (repeat (with_reducible first | refine Y7 ?_ | refine Y9 ?_ | refine Y5 ?_ | refine Y8 ?_ | refine Z6 ?_ | refine Z5 ?_ | refine Y6 ?_ | refine Y4 ?_ | refine W1 ?_ | refine Z7 ?_ | refine U3 ?_)); exact fin false (by rw [d1]; rfl)
  | true =>
    (repeat (with_reducible first | refine Y7 ?_ | refine Y9 ?_ | refine Y5 ?_ | refine Y8 ?_ | refine Z6 ?_ | refine Z5 ?_ | refine Y6 ?_ | refine Y4 ?_ | refine W1 ?_ | refine Z7 ?_ | refine U3 ?_))
    refine ld hs1 hq rfl ?_
    (repeat (with_reducible first | refine Y7 ?_ | refine Y9 ?_ | refine Y5 ?_ | refine Y8 ?_ | refine Z6 ?_ | refine Z5 ?_ | refine Y6 ?_ | refine Y4 ?_ | refine W1 ?_ | refine Z7 ?_ | refine U3 ?_))
    refine A8 c.super f5' ?_
    cases d2 : W7 c.super with
    | false => (repeat (with_reducible first | refine Y7 ?_ | refine Y9 ?_ | refine Y5 ?_ | refine Y8 ?_ | refine Z6 ?_ | refine Z5 ?_ | refine Y6 ?_ | refine Y4 ?_ | refine W1 ?_ | refine Z7 ?_ | refine U3 ?_)); exact fin false (by rw [d1, d2]; rfl)
    | true =>
      (repeat (with_reducible first | refine Y7 ?_ | refine Y9 ?_ | refine Y5 ?_ | refine Y8 ?_ | refine Z6 ?_ | refine Z5 ?_ | refine Y6 ?_ | refine Y4 ?_ | refine W1 ?_ | refine Z7 ?_ | refine U3 ?_))
      refine ld hs1 hq rfl ?_
      (repeat (with_reducible first | refine Y7 ?_ | refine Y9 ?_ | refine Y5 ?_ | refine Y8 ?_ | refine Z6 ?_ | refine Z5 ?_ | refine Y6 ?_ | refine Y4 ?_ | refine W1 ?_ | refine Z7 ?_ | refine U3 ?_))
      refine ld hs1 hq rfl ?_
      (repeat (with_reducible first | refine Y7 ?_ | refine Y9 ?_ | refine Y5 ?_ | refine Y8 ?_ | refine Z6 ?_ | refine Z5 ?_ | refine Y6 ?_ | refine Y4 ?_ | refine W1 ?_ | refine Z7 ?_ | refine U3 ?_))
      refine Ek ?_
      (repeat (with_reducible first | refine Y7 ?_ | refine Y9 ?_ | refine Y5 ?_ | refine Y8 ?_ | refine Z6 ?_ | refine Z5 ?_ | refine Y6 ?_ | refine Y4 ?_ | refine W1 ?_ | refine Z7 ?_ | refine U3 ?_))
      exact fin _ (by rw [d1, d2]; rfl))
theorem Q0H {c : Cla} {cs : List Value} (hs : X6 w σ) (hc : V0 σ c cs) (h : ∀ w' σ', Stp w σ w' σ' → K (I (L2 c)) w') : Q1 P F.b3 [.agg cs.toArray] w K := Rz (by
  unfold Vf
  have hone := Rep.one (R := V0) hc
  obtain ⟨lv, fv, mv, rfl, f1, f2, f3, f4, f5⟩ := hc
  have hc : V0 σ c _ := ⟨lv, fv, mv, rfl, f1, f2, f3, f4, f5⟩
  refine Z8 hs fun q w1 σ1 hk1 hq => ?_
  unfold L2 at h
  refine Z0 hk1.sat hq rfl ?_
  refine Q6t hk1.sat (R2 hc ⟨hk1.le⟩) fun w2 σ2 hk2 => ?_
  cases hm : Xe c with
  | true => simp only [hm, if_true] at h; (try simp only [↓Mm, Mm, ↓Mr, Mr, Mb, reduceIte]); exact h _ _ (hk1.trans hk2)
  | false =>
    simp only [hm, Bool.false_eq_true, if_false] at h
    (try simp only [↓Mm, Mm, ↓Mr, Mr, Mb, reduceIte])
    refine Z0 hk2.sat (hq.up hk2) rfl ?_
    refine Q5I hk2.sat (R2 hc ⟨(hk1.trans hk2).le⟩) fun w3 σ3 hk3 => ?_
    rw [Q6q]
    cases hr : Uu c with
    | true => simp only [hr, if_true] at h; (try simp only [↓Mm, Mm, ↓Mr, Mr, Mb, reduceIte]); exact h _ _ (hk1.trans (hk2.trans hk3))
    | false => simp only [hr, Bool.false_eq_true, if_false] at h; (try simp only [↓Mm, Mm, ↓Mr, Mr, Mb, reduceIte]); exact h _ _ (hk1.trans (hk2.trans hk3)))
end Go.Proofs.YtdnfaboigajkhaaGreatDoor

namespace Go.Emb
open Go.RowKit Go.Hm
end Go.Emb
namespace Go.Hm
theorem Ml {α : Type} {f : α → Int} : ∀ {l : List α} {i j : Nat} {e : Int}, L6 f l i = some (j, e) → e ≠ 0
  | [], _, _, _, h => by cases h
  | x :: r, i, j, e, h => by
    simp only [L6] at h
    split at h
    · exact Ml h
    · rename_i h0; cases h; exact h0
theorem Q2S {ck : Cla → Int} {l : List Cla} {i e : Int} (h : Yj ck l = some (i, e)) : e ≠ 0 := by
  unfold Yj at h
  split at h
  · rename_i h1; cases h; exact Ml h1
  split at h
  · cases h; decide
  split at h
  · rename_i h1; cases h; exact Ml h1
  split at h
  · cases h; decide
  split at h
  · rename_i h1
    cases h
    have := List.find?_some h1
    simp only [Bool.not_eq_true', decide_eq_false_iff_not] at this
    omega
  · cases h
end Go.Hm
namespace Go.Proofs.YtdnfaboigajkhaaGreatDoor
open Go.Emb Go.RowKit Go.Kd Go.Hm
variable {w : World} {K : Value → World → Prop} {σ : Q6} {l : List Cla}
theorem Q8Z {lv : Value} (hs : X6 w σ) (hg : Glb σ) (hl : Sl 8 V0 σ lv l) (hf : (!K7 l) = false)
    (k1 : ∀ i e w' σ', Yj L2 l = some (i, e) → ¬ e = 0 → Stp w σ w' σ' → K (.tuple #[.pointer none, I i, I e]) w')
    (k0 : ∀ a w' σ', Yj L2 l = none → Wf l → Ok (Q5 l) → Stp w σ w' σ' → Tab σ' (.pointer (some a)) (Q5 l) → K (.tuple #[.pointer (some a), I 0, I 0]) w') : Q1 P F.bE [lv] w K := by
  have hf' : K7 l = true := by simpa using hf
  refine Q7a hs hg hl (by have := (Kh hf').1; omega) (Q65 hf') (fun i e w' σ' hn hk => k1 i e w' σ' hn (Q2S hn) hk) fun v w' σ' hn hk ht ok own => ?_
  obtain ⟨a, _, _, _, rfl, _⟩ := ht.ex
  exact k0 a w' σ' hn (Q95 hn) ok hk ht
end Go.Proofs.YtdnfaboigajkhaaGreatDoor

namespace Go.Hm
open Go.Kd
structure Alike (l m : List Cla) : Prop where
  lk : lk l = lk m
  len : l.length = m.length
  weigh : weigh l [] = weigh m []
section
variable {l m : List Cla} (h : Alike l m)
include h
theorem Alike.visits (n : X0) : visits l n = visits m n := by unfold Hm.visits; rw [h.lk, h.weigh]
theorem Alike.hasM (n : X0) : hasM l n = hasM m n := by rw [Np, Np, h.lk]
theorem Alike.kindM (s : X0) : kindM l s = kindM m s := by unfold Hm.kindM; rw [h.hasM]
theorem Alike.subM (a b : X0) : subM l a b = subM m a b := by unfold Hm.subM; rw [h.kindM a, h.kindM b, h.visits]
theorem Alike.chain (n : X0) : chain l n = chain m n := by unfold Hm.chain; rw [h.lk, h.len]
theorem Alike.fieldsM (n : X0) : fieldsM l n = fieldsM m n := by unfold Hm.fieldsM; rw [h.chain]
theorem Alike.placeM (n f : X0) : placeM l n f = placeM m n f := by unfold Hm.placeM; rw [h.fieldsM]
theorem Alike.methodM (k n : X0) : methodM l k n = methodM m k n := by unfold Hm.methodM; rw [h.chain, h.lk, h.len]
theorem Alike.printM (n : X0) : printM l n = printM m n := by unfold Hm.printM; rw [h.lk, h.len]
theorem Alike.thereM (s : X0) : thereM l s = thereM m s := by unfold Hm.thereM; rw [h.kindM]
theorem Alike.uppersM (c : Cla) : uppersM l c = uppersM m c := by
  have e1 : M7 l = M7 m := by funext n; unfold M7; rw [h.lk]
  unfold Hm.uppersM F8; rw [h.lk, e1]
theorem Alike.loopsM (c : Cla) : loopsM l c = loopsM m c := by
  have e : (fun n => (Hm.visits l n).contains c.name) = fun n => (Hm.visits m n).contains c.name := by funext n; rw [h.visits]
  unfold Hm.loopsM; rw [e]
theorem Alike.allMets (n : X0) : allMets l n = allMets m n := by unfold Hm.allMets; rw [h.visits, h.lk]
theorem Alike.membersM (c : Cla) : membersM l c = membersM m c := by
  have e1 : B0 l c = B0 m c := by
    have : (fun f : Fld => (Hm.placeM l c.super f.name).isSome) = fun f => (Hm.placeM m c.super f.name).isSome := by funext f; rw [h.placeM]
    unfold B0; rw [this]
  have e0 : Hm.thereM l = Hm.thereM m := by funext s; exact h.thereM s
  have e2 : D9 l c = D9 m c := by unfold D9; rw [e0]
  have e3 : F0 l c = F0 m c := by unfold F0; rw [h.allMets]
  have e4 : Qc l c = Qc m c := by
    have : (fun x : Hm.Met => G3 l c.name x.name) = fun x => G3 m c.name x.name := by funext x; unfold G3; rw [h.methodM]
    unfold Qc; rw [h.allMets, this]
  unfold Hm.membersM; rw [e1, e2, e3, e4]
end
theorem Q83 {l : List Cla} {frm : Nat} : ∀ (f : Nat) (out : List Nat) (i : Nat), ∀ y ∈ G1 l frm f out i, y ∈ out ∨ frm ≤ y := by
  intro f
  induction f with
  | zero => intro out i y hy; exact .inl hy
  | succ f ih =>
    intro out i y hy
    simp only [G1] at hy
    split at hy
    · exact .inl hy
    · split at hy
      · exact .inl hy
      · rename_i h1 _
        rcases List.mem_append.1 hy with hy | hy
        · exact Jw (p := fun y => frm ≤ y) _ _ (fun b x _ z hz => ih b _ z hz) y hy
        · simp at hy; omega
theorem Q6r {all : List Cla} (ho : B8 all) : ∀ j ∈ V8 all 8, 8 ≤ j ∧ j < all.length := by
  intro j hj
  unfold V8 at hj
  have h1 := Jw (p := fun y => 8 ≤ y) _ _ (fun b x _ z hz => Q83 _ b x z hz) j hj
  have h2 := Jw (p := fun y => y < all.length) _ _ (fun b x hx z hz => (Q2j ho (by omega) _ b x (by
    have := List.mem_of_mem_drop hx
    simpa using this) z hz).imp id (·.1)) j hj
  exact ⟨h1.resolve_left (by simp), h2.resolve_left (by simp)⟩
end Go.Hm
namespace Go.Proofs.YtdnfaboigajkhaaGreatDoor
open Go.Emb Go.RowKit Go.Kd Go.Hm
end Go.Proofs.YtdnfaboigajkhaaGreatDoor

namespace Go.Hm
open Go.Kd
theorem Q4x {all : List Cla} {m : Nat} (hm : m < all.length) : Y3 all (X9 all m) = some m ↔ Y3 (all.take m) (X9 all m) = none := by
  have hn : X9 all m = all[m].name := by unfold X9; rw [List.getD_eq_getElem?_getD, List.getElem?_eq_getElem hm]; rfl
  unfold Y3
  rw [List.findIdx?_eq_some_iff_getElem, List.findIdx?_eq_none_iff]
  constructor
  · rintro ⟨h1, h2, h3⟩ c hc
    obtain ⟨j, hj, rfl⟩ := List.mem_take_iff_getElem.1 hc
    simpa using h3 j (by omega)
  · intro h
    refine ⟨hm, by simp [hn], fun j hj => ?_⟩
    simpa using h all[j] (List.mem_take_iff_getElem.2 ⟨j, by omega, rfl⟩)
theorem Q4r {all : List Cla} (ho : B8 all) {m : Nat} (hm : m < all.length) : P5 all (X9 all m) (X9 all m) = loopsM all all[m] := by
  have hn : X9 all m = all[m].name := by unfold X9; rw [List.getD_eq_getElem?_getD, List.getElem?_eq_getElem hm]; rfl
  unfold P5 loopsM
  rw [A6 ho hm, List.getD_eq_getElem?_getD, List.getElem?_eq_getElem hm]
  simp only [Option.getD_some, hn]
end Go.Hm
namespace Go.Proofs.YtdnfaboigajkhaaGreatDoor
open Go.Emb Go.RowKit Go.Kd Go.Hm
variable {w : World} {K : Value → World → Prop} {σ : Q6} {l : List Cla}
theorem Q4j : ∀ c ∈ R1, Xe c = false := by decide
theorem Q4I {c : Cla} (h : L2 c = 0) : Xe c = false := by
  unfold L2 at h
  split at h
  · cases h
  · rename_i hm; exact eq_false_of_ne_true hm
set_option maxHeartbeats 4000000 in
theorem Q82 {lv : Value} (hs : X6 w σ) (hl : Sl 8 V0 σ lv l) (hlen : l.length ≤ 900)
    (h1 : ∀ i e w' σ', Yj L2 l = some (i, e) → Stp w σ w' σ' → K (.tuple #[.slice none 0 0, I i, I e]) w')
    (h0 : ∀ v w' σ', Yj L2 l = none → Stp w σ w' σ' → Sl 8 V0 σ' v (Q5 l) → Ok (Q5 l) → B8 (Q5 l) → K (.tuple #[v, I 0, I 0]) w') : Q1 P F.aH [lv] w K := Gm (by
  unfold Lu
  have hgl : R1.length = 8 := rfl
  have hal : (Q5 l).length = 8 + l.length := by simp [Q5, hgl]
  refine Q5T hs fun x0 w1 σ1 hk1 ha1 => ?_
  refine Q1I ha1 ?_
  rw [hgl]
  refine O4 l.length (fun n x w' => ∃ σ', Stp w σ w' σ' ∧ W3 w.heap.size T.a 8 V0 σ' w' x (R1 ++ l.take n) ∧ L6 L2 l 0 = L6 L2 (l.drop n) n)
    ⟨σ1, hk1, by simpa using ha1, rfl⟩ fun n x w4 d hn hinv => ?_
  obtain ⟨σ4, hS4, ha4, hfb⟩ := hinv
  have hl4 := hl.up hS4
  refine Q7 hl4 ?_
  refine U0 ?_
  refine Q4 (fun hh => ?_) (fun hh => ?_)
  · have hn' : n < l.length := by simpa using hh
    obtain ⟨lv1, fv1, mv1, p1, r1⟩ := hl4.elC hn'
    refine Z1 hl4 hn' ?_
    refine Z0 hS4.sat p1 rfl ?_
    refine Q0H hS4.sat r1 fun w6 σ6 hk6 => ?_
    have hS6 := hS4.trans hk6
    have hfb2 := Jh hn' hfb
    refine Ds ?_
    refine Q4 (fun hh2 => ?_) (fun hh2 => ?_)
    · have hne : ¬ L2 l[n] = 0 := by simpa using hh2
      rw [if_neg hne] at hfb2
      refine h1 _ _ _ _ ?_ hS6
      unfold Yj
      rw [hfb2]
    · have hz : L2 l[n] = 0 := by simpa using hh2
      rw [if_pos hz] at hfb2
      refine Z1 (hl4.up hk6) hn' ?_
      refine Z0 hk6.sat (p1.up hk6) rfl ?_
      have ha6 := ha4.up hk6
      have r6 := R2 r1 ⟨hk6.le⟩
      refine Jb (R := V0) (x := l[n]) hS6 ha6 (by simpa [Value.cells] using r6) rfl rfl rfl (by simp [hgl]; omega) (by simp [hgl]; omega) fun s v' w9 σ9 hnx hS9 ha9 hat => ?_
      refine O8 ?_
      refine J0 hl4.max hn' ⟨σ9, hS9, ?_, hfb2⟩
      rw [List.take_add_one, List.getElem?_eq_getElem hn', ← List.append_assoc]
      exact ha9
  have hn' : ¬ n < l.length := by simpa using hh
  rw [List.take_of_length_le (by omega)] at ha4
  rw [List.drop_eq_nil_of_le (by omega)] at hfb
  have hfb : L6 L2 l 0 = none := hfb
  have hck := C8 hfb
  have hcf : ∀ c ∈ l, K2 c ∧ Nm c ∧ c.name ≠ [] := fun c hc => Ev (hck c hc)
  have hsmall : ∀ c ∈ Q5 l, K2 c := fun c hc => by
    rcases List.mem_append.1 hc with hc | hc
    · exact (Yt c hc).1
    · exact (hcf c hc).1
  have hnmall : ∀ c ∈ Q5 l, Nm c := fun c hc => by
    rcases List.mem_append.1 hc with hc | hc
    · exact (Yt c hc).2.1
    · exact (hcf c hc).2.1
  have hmanyall : ∀ c ∈ Q5 l, Xe c = false := fun c hc => by
    rcases List.mem_append.1 hc with hc | hc
    · exact Q4j c hc
    · exact Q4I (hck c hc)
  have hlenall : (Q5 l).length ≤ 100000 := by omega
  unfold Yj at h1 h0
  rw [hfb] at h1 h0
  simp only at h1 h0
  obtain ⟨σ5, hS5, hv5, le5, old5⟩ := ha4.keep hS4
  change Sl 8 V0 σ5 x (Q5 l) at hv5
  clear ha4 hS4 hl4 hn' hh hn hfb ha1 hk1
  have hat8 : ∀ {n : Nat} (hn : n < l.length), ∃ (h : 8 + n < (Q5 l).length), (Q5 l)[8 + n] = l[n] := fun {n} hn => ⟨by omega, by
    unfold Q5
    rw [List.getElem_append_right (by rw [hgl]; omega)]
    congr 1
    rw [hgl]; omega⟩
  have hna8 : ∀ {n : Nat} (hn : n < l.length), X9 (Q5 l) (8 + n) = l[n].name := fun {n} hn => by
    obtain ⟨h1, h2⟩ := hat8 hn
    rw [Be h1, h2]
  have hg0 : ∀ j, j < 8 → (Y3 ((Q5 l).take j) (X9 (Q5 l) j)).isSome = false := by
    have hd : ∀ j, j < 8 → (Y3 (R1.take j) (X9 R1 j)).isSome = false := by decide
    intro j hj
    have e1 : (Q5 l).take j = R1.take j := by unfold Q5; rw [List.take_append_of_le_length (by rw [hgl]; omega)]
    have e2 : X9 (Q5 l) j = X9 R1 j := by
      unfold X9 Q5; rw [List.getD_eq_getElem?_getD, List.getD_eq_getElem?_getD, List.getElem?_append_left (by rw [hgl]; omega)]
    rw [e1, e2]; exact hd j hj
  refine V7 l.length (fun n w' => Stp w σ w' σ5 ∧ ∀ j, j < 8 + n → (Y3 ((Q5 l).take j) (X9 (Q5 l) j)).isSome = false) ⟨hS5, by simpa using hg0⟩ fun n w5 d hn hinv => ?_
  clear hS5
  obtain ⟨hS5, hnd⟩ := hinv
  have hl5 := hl.up hS5
  refine Q7 hl5 ?_
  refine U0 ?_
  refine Q4 (fun hh => ?_) (fun hh => ?_)
  · have hn' : n < l.length := by simpa using hh
    obtain ⟨lv1, fv1, mv1, p1, r1⟩ := hl5.elC hn'
    refine Z1 hl5 hn' ?_
    (try simp only [↓Mm, Mm, ↓Mr, Mr, Mb, reduceIte])
    refine ld hS5.sat p1 rfl ?_
    refine H7 hS5.sat hv5 ?_
    rw [B9 (by omega) (by omega)]
    refine Ds ?_
    obtain ⟨h8, e8⟩ := hat8 hn'
    rw [← hna8 hn']
    have hff := Q4x h8
    cases hfc : Y3 ((Q5 l).take (8 + n)) (X9 (Q5 l) (8 + n)) with
    | none =>
      rw [hff.2 hfc]
      have e : decide (W8 (some (8 + n)) = (8 : Nat) + (n : Int)) = true := by simp [W8]
      rw [e]
      (try simp only [↓Mm, Mm, ↓Mr, Mr, Mb, reduceIte])
      refine Z2 hl5.max hn' ⟨hS5, fun j hj => ?_⟩
      by_cases ej : j = 8 + n
      · rw [ej, hfc]; rfl
      · exact hnd j (by omega)
    | some i =>
      have hne : Y3 (Q5 l) (X9 (Q5 l) (8 + n)) ≠ some (8 + n) := fun e => by rw [hff.1 e] at hfc; cases hfc
      have e : decide (W8 (Y3 (Q5 l) (X9 (Q5 l) (8 + n))) = (8 : Nat) + (n : Int)) = false := by
        rw [decide_eq_false_iff_not]
        intro e
        cases hf : Y3 (Q5 l) (X9 (Q5 l) (8 + n)) with
        | none => rw [hf] at e; simp only [W8] at e; omega
        | some k =>
          rw [hf] at e hne
          simp only [W8] at e
          apply hne
          congr 1; omega
      rw [e]
      (try simp only [↓Mm, Mm, ↓Mr, Mr, Mb, reduceIte])
      have hdup : Oz (Q5 l) = some (8 + n) := by
        unfold Oz
        rw [List.find?_range_eq_some]
        refine ⟨by rw [hfc]; rfl, by simpa using h8, fun j hj => by rw [hnd j hj]; rfl⟩
      refine h1 _ _ _ _ ?_ hS5
      rw [hdup]
      have : ((8 + n : Nat) : Int) - 8 = n := by omega
      simp only [this]
  have hn' : ¬ n < l.length := by simpa using hh
  have hdup : Oz (Q5 l) = none := by
    unfold Oz
    rw [List.find?_eq_none]
    intro j hj
    rw [hnd j (by have := List.mem_range.1 hj; omega)]; simp
  rw [hdup] at h1 h0
  simp only at h1 h0
  have hown := Cg hdup
  clear hnd hh hn' hn hl5 hg0
  refine V7 l.length (fun n w' => ∃ σ', Stp w σ w' σ' ∧ SLe σ5 σ' ∧ L6 (fun c => (uppersM (Q5 l) c : Int)) l 0 = L6 (fun c => (uppersM (Q5 l) c : Int)) (l.drop n) n) ⟨σ5, hS5, SLe.refl _, rfl⟩ fun n w6 d hn hinv => ?_
  obtain ⟨σ9, hS9, le9, hfu⟩ := hinv
  have hl9 := hl.up hS9
  refine Q7 hl9 ?_
  refine U0 ?_
  refine Q4 (fun hh => ?_) (fun hh => ?_)
  · have hn' : n < l.length := by simpa using hh
    obtain ⟨lv1, fv1, mv1, p1, r1⟩ := hl9.elC hn'
    refine Z1 hl9 hn' ?_
    refine Z0 hS9.sat p1 rfl ?_
    have hfu2 := Jh hn' hfu
    refine Q4L hS9.sat (hv5.lift le9) r1 fun w8 σ11 hk11 => ?_
    refine Ds ?_
    refine Q4 (fun hh2 => ?_) (fun hh2 => ?_)
    · have hne : ¬ (uppersM (Q5 l) l[n] : Int) = 0 := by simpa using hh2
      rw [if_neg hne] at hfu2
      refine h1 _ _ _ _ ?_ (hS9.trans hk11)
      rw [hfu2]
    · have hz : (uppersM (Q5 l) l[n] : Int) = 0 := by simpa using hh2
      rw [if_pos hz] at hfu2
      refine O8 ?_
      exact Z2 hl9.max hn' ⟨σ11, hS9.trans hk11, le9.more ⟨hk11.le⟩, hfu2⟩
  have hn' : ¬ n < l.length := by simpa using hh
  rw [List.drop_eq_nil_of_le (by omega)] at hfu
  have hfu : L6 (fun c => (uppersM (Q5 l) c : Int)) l 0 = none := hfu
  rw [hfu] at h1 h0
  simp only at h1 h0
  have hup := C8 hfu
  clear hh hn' hn hS5 hl9
  refine Kn hS9.sat (hv5.lift le9) hown (by omega) (by omega) hsmall fun vb w10 σ10 hk10 hb10 => ?_
  have hS10 := hS9.trans hk10
  have le10 := le9.more ⟨hk10.le⟩
  have hbl : (S1 (Q5 l)).length = (Q5 l).length := by simp [S1]
  refine V7 l.length (fun n w' => Stp w σ w' σ10 ∧ ∀ j (hj : j < l.length), j < n → loopsM (Q5 l) l[j] = false) ⟨hS10, fun j _ h => by omega⟩ fun n w11 d hn hinv => ?_
  clear hS10
  obtain ⟨hS10, hlo⟩ := hinv
  have hl10 := hl.up hS10
  refine Q7 hl10 ?_
  refine U0 ?_
  refine Q4 (fun hh => ?_) (fun hh => ?_)
  · have hn' : n < l.length := by simpa using hh
    obtain ⟨h8, e8⟩ := hat8 hn'
    refine Ro ⟨by omega, by omega⟩ ?_
    have ec : ((8 : Nat) : Int) + (n : Int) = ((8 + n : Nat) : Int) := by omega
    rw [ec]
    obtain ⟨cs1, pb, _, rv, rfl, rb⟩ := hb10.el (i := 8 + n) (by rw [hbl]; exact h8)
    have hrow : (S1 (Q5 l))[8 + n]'(by rw [hbl]; exact h8) = (List.range (Q5 l).length).map fun j => P5 (Q5 l) (X9 (Q5 l) (8 + n)) (X9 (Q5 l) j) := by simp [S1]
    rw [hrow] at rb
    obtain ⟨cs2, pb2, _, hcs2⟩ := rb.el (i := 8 + n) (by simpa using h8)
    have hcs2 : cs2 = _ := hcs2
    subst hcs2
    simp only [List.getElem_map, List.getElem_range] at pb2
    rw [Q4r hown h8, e8] at pb2
    refine Z1 hb10 (by rw [hbl]; exact h8) ?_
    refine X7 hS10.sat pb rfl ?_
    refine Ro ⟨by omega, by omega⟩ ?_
    rw [ec]
    refine Z1 rb (by simpa using h8) ?_
    refine X7 hS10.sat pb2 rfl ?_
    cases hln : loopsM (Q5 l) l[n] with
    | true =>
      (try simp only [↓Mm, Mm, ↓Mr, Mr, Mb, reduceIte])
      have hfi : l.findIdx? (loopsM (Q5 l)) = some n := by
        rw [List.findIdx?_eq_some_iff_getElem]
        exact ⟨hn', hln, fun j hj => by simpa using hlo j (by omega) hj⟩
      refine h1 _ _ _ _ ?_ hS10
      rw [hfi]
    | false =>
      (try simp only [↓Mm, Mm, ↓Mr, Mr, Mb, reduceIte])
      refine Z2 hl10.max hn' ⟨hS10, fun j hj hjn => ?_⟩
      by_cases e : j = n
      · subst e; exact hln
      · exact hlo j hj (by omega)
  have hn' : ¬ n < l.length := by simpa using hh
  have hlo' : ∀ c ∈ l, loopsM (Q5 l) c = false := fun c hc => by
    obtain ⟨j, hj, rfl⟩ := List.getElem_of_mem hc
    exact hlo j hj (by omega)
  have hfi : l.findIdx? (loopsM (Q5 l)) = none := by
    rw [List.findIdx?_eq_none_iff]; exact hlo'
  rw [hfi] at h1 h0
  simp only at h1 h0
  clear hlo hh hn' hn hl10 hb10 hk10 hS9 hbl
  have hacy := Q29 hown (fun c hc => (hcf c hc).2.2) hlo'
  have hfull : Q6m (Q5 l) := fun c hc u hu => by
    rcases List.mem_append.1 hc with hc | hc
    · rw [(Yt c hc).2.2] at hu; simp at hu
    · have := hup c hc
      unfold uppersM at this
      split at this
      · simp at this
      · split at this
        · simp at this
        · rename_i hnb
          have hnb : c.like.any (M7 (Q5 l)) = false := eq_false_of_ne_true hnb
          have := List.any_eq_false.1 hnb u hu
          unfold M7 at this
          cases hd : lk (Q5 l) u with
          | none => rw [hd] at this; simp at this
          | some d => exact ⟨d, rfl⟩
  have hok : Ok (Q5 l) := ⟨hacy, hlenall, hsmall, hfull, hnmall⟩
  have hups : ∀ i (hi : i < (Q5 l).length), 8 ≤ i → ∀ u ∈ U5 (Q5 l)[i], ∃ j, Y3 (Q5 l) u = some j := fun i hi h8 u hu => by
    have hil : i - 8 < l.length := by omega
    obtain ⟨h8', e8⟩ := hat8 hil
    have hi8 : (Q5 l)[i] = l[i - 8] := by rw [← e8]; congr 1; omega
    rw [hi8] at hu
    have hmem := List.getElem_mem hil
    rcases List.mem_cons.1 hu with hu | hu
    · have := hup _ hmem
      unfold uppersM at this
      split at this
      · simp at this
      · rename_i hnb
        unfold F8 at hnb
        rw [← hu] at hnb
        cases hd : lk (Q5 l) u with
        | none => rw [hd] at hnb; simp at hnb
        | some d => obtain ⟨_, _, j, hj, _⟩ := V3 hd; exact ⟨j, hj⟩
    · obtain ⟨d, hd⟩ := hfull _ (List.mem_append_right _ hmem) u hu
      obtain ⟨_, _, j, hj, _⟩ := V3 hd; exact ⟨j, hj⟩
  refine Kc (R := Js) (e := T.d) hS10 (by decide) fun x12 w12 hk12 ha12 _ => ?_
  refine O4 l.length (fun n x' w' => ∃ σ' out, Stp w σ w' σ' ∧ SLe σ5 σ' ∧ W3 w.heap.size T.d 1 Js σ' w' x' (G7 out) ∧ Ko (Q5 l) out ∧ out = (((List.range (Q5 l).length).drop 8).take n).foldl (fun out i => T6 (Q5 l) 8 out i) [])
    ⟨σ10, [], hS10.trans hk12, le10, ha12, ⟨List.nodup_nil, by simp⟩, rfl⟩ fun n x' w13 d hn hinv => ?_
  clear ha12 hk12 hS10 le10 le9
  obtain ⟨σ13, out, hS13, le13, ha13, hfew, hout⟩ := hinv
  have hl13 := hl.up hS13
  refine Q7 hl13 ?_
  refine U0 ?_
  refine Q4 (fun hh => ?_) (fun hh => ?_)
  · have hn' : n < l.length := by simpa using hh
    obtain ⟨h8, e8⟩ := hat8 hn'
    refine Ro ⟨by omega, by omega⟩ ?_
    have ec : ((8 : Nat) : Int) + (n : Int) = ((8 + n : Nat) : Int) := by omega
    rw [ec]
    refine Q7A hacy hown (by omega) hsmall (by omega) hups ((Q5 l).length + 1) h8 (Nat.lt_succ_of_le (Ra _ _)) hfew hS13 (hv5.lift le13) ha13 fun x14 w14 σ14 hS14 le14 ha14 => ?_
    refine O8 ?_
    refine J0 hl13.max hn' ⟨σ14, _, hS14, le13.more le14, ha14, Sa hacy hown (by omega) _ _ _ h8 hfew, ?_⟩
    rw [List.take_add_one, List.getElem?_drop, List.getElem?_range h8, List.foldl_append, ← hout]
    rfl
  have hn' : ¬ n < l.length := by simpa using hh
  have hnl : n = l.length := by omega
  subst hnl
  have hord : out = V8 (Q5 l) 8 := by
    rw [hout, List.take_of_length_le (by rw [List.length_drop, List.length_range]; omega)]; rfl
  subst hord
  clear hout hh hn' hn
  have hol := hfew.len
  have hoi := Q6r hown
  obtain ⟨σ15, hS15, hv15, le15, _⟩ := ha13.keep hS13
  have lex := le13.more ⟨le15⟩
  clear ha13 hS13 le15 le13 hl13
  have hil : (G7 (V8 (Q5 l) 8)).length = (V8 (Q5 l) 8).length := by simp
  refine V7 (V8 (Q5 l) 8).length (fun n w' => ∃ σ', Stp w σ w' σ' ∧ SLe σ15 σ' ∧ ∀ j ∈ (V8 (Q5 l) 8).take n, membersM (Q5 l) ((Q5 l).getD j Cla.zero) = 0) ⟨σ15, hS15, SLe.refl _, by simp⟩ fun n w16 d hn hinv => ?_
  obtain ⟨σ16, hS16, le16, hno⟩ := hinv
  have hv16 := hv15.lift le16
  refine Q7 hv16 ?_
  rw [hil]
  refine U0 ?_
  refine Q4 (fun hh => ?_) (fun hh => ?_)
  · have hn' : n < (V8 (Q5 l) 8).length := by simpa using hh
    have hni : n < (G7 (V8 (Q5 l) 8)).length := by rw [hil]; exact hn'
    refine Z1 hv16 hni ?_
    obtain ⟨cs, pc, _, hcs⟩ := hv16.el hni
    obtain ⟨rfl, _⟩ := hcs
    simp only [List.getElem_map] at pc
    refine X7 hS16.sat pc rfl ?_
    have hji := (hoi _ (List.getElem_mem hn')).2
    have hat : (Q5 l).getD (V8 (Q5 l) 8)[n] Cla.zero = (Q5 l)[(V8 (Q5 l) 8)[n]] := by rw [List.getD_eq_getElem?_getD, List.getElem?_eq_getElem hji]; rfl
    refine Q3s hS16.sat (hv5.lift (lex.more le16)) hok hown (by omega) hmanyall hji fun w17 σ17 hk17 => ?_
    have hS17 := hS16.trans hk17
    refine Ds ?_
    refine Q4 (fun hh2 => ?_) (fun hh2 => ?_)
    · have hne : ¬ membersM (Q5 l) (Q5 l)[(V8 (Q5 l) 8)[n]] = 0 := by simpa using hh2
      have hv17 := hv16.up hk17
      have pc17 := pc.up hk17
      refine W9 hk17.sat ?_
      (repeat (apply O3; (· intros; (repeat (rename_i hx; subst hx)); (repeat' (first | (with_reducible exact W2 rfl) | (with_reducible exact L4 (Stp.bel (by (repeat (first | exact Stp.refl (by (first | assumption | exact Stp.sat (by assumption) | exact Hst.sat (by assumption))) | assumption | refine Stp.trans ?_ (by first | assumption | exact Hst.stp (by assumption)))))) rfl) | (with_reducible intro _) | (simp only [↓Mm, Mm, ↓Mp, Mp, Mb, reduceIte])  | (with_reducible show Q2 _ _ _ _ _; first | refine X7 aS aL aR ?_ | refine Z0 aS aL aR ?_ | refine ld aS aL aR ?_) | (with_reducible show indexAddr _ _ _ _ _ _; refine Z1 aL au ?_) | (with_reducible show X5 _ _ _ _ _ _ _ _; refine Q7 aL ?_) | (with_reducible show R3 _ _ _ _ _ _; refine Z3 aR ?_) | (with_reducible show pick _ _ _ _ _ _; refine M2 ?_) | (apply M6; intro hh; (try simp only [hh, reduceIte, ↓Mm, Mm, ↓Mp, Mp, Mb, reduceIte])))); done)))
      (intros; (repeat (rename_i hx; subst hx)); (try simp only [↓Mm, Mm, ↓Mp, Mp, Mb, reduceIte]))
      rename_i w18 hb18
      refine X7 hb18.sat pc17 rfl ?_
      refine Nl ⟨by omega, by omega⟩ ?_
      have hfind : (V8 (Q5 l) 8).find? (fun j => !decide (membersM (Q5 l) ((Q5 l).getD j Cla.zero) = 0)) = some (V8 (Q5 l) 8)[n] := by
        rw [List.find?_eq_some_iff_getElem]
        refine ⟨by rw [hat]; simpa using hne, n, hn', rfl, fun j hj => ?_⟩
        have := hno _ (List.mem_take_iff_getElem.2 ⟨j, by omega, rfl⟩)
        rw [this]; simp
      have := h1 (((V8 (Q5 l) 8)[n] : Int) - 8) (membersM (Q5 l) (Q5 l)[(V8 (Q5 l) 8)[n]]) w18 σ17 (by rw [hfind]; simp only [hat]) (hS17.trans hb18.stp)
      exact this
    · have hz : membersM (Q5 l) (Q5 l)[(V8 (Q5 l) 8)[n]] = 0 := by simpa using hh2
      refine O8 ?_
      refine Z2 (by omega) hn' ⟨σ17, hS17, le16.more ⟨hk17.le⟩, fun j hj => ?_⟩
      rw [List.take_add_one, List.getElem?_eq_getElem hn'] at hj
      rcases List.mem_append.1 hj with hj | hj
      · exact hno j hj
      · simp at hj; subst hj; rw [hat]; exact hz
  · have hn' : ¬ n < (V8 (Q5 l) 8).length := by simpa using hh
    rw [List.take_of_length_le (by omega)] at hno
    have hfind : (V8 (Q5 l) 8).find? (fun j => !decide (membersM (Q5 l) ((Q5 l).getD j Cla.zero) = 0)) = none := by
      rw [List.find?_eq_none]
      intro j hj
      rw [hno j hj]; simp
    rw [hfind] at h0
    exact h0 _ _ _ rfl hS16 (hv5.lift (lex.more le16)) hok hown)
end Go.Proofs.YtdnfaboigajkhaaGreatDoor
