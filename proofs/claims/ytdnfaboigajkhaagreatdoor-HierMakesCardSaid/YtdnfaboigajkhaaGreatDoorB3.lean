/- Parts of a proof about the given program: its functions as texts of their own, what each computes, plain laws of that. The conditions of each stand in its statement. -/
import Derived.Test.YtdnfaboigajkhaaGreatDoorB2
import Derived.Below
import Derived.Maps.AppendAt
import Derived.Test.YtdnfaboigajkhaaGreatDoorB1
import Derived.ChangeArms
import Derived.DataReads
import Derived.SizedLaws
import Derived.Deep.AppendSrc
set_option linter.unnecessarySimpa false
set_option linter.defProp false
set_option linter.unusedSectionVars false
set_option linter.unusedVariables false
set_option linter.unusedSimpArgs false
namespace Go.Emb
open Go.RowKit
class TZ (P : Program) (t : TypeId) (sz b : outParam Nat) (z : outParam Value) : Prop where
  h : (P.info? t).map (fun i => (i.size, i.bytes, i.zero)) = some (sz, b, some z)
def Q6E : Option TypeDesc → Bool
  | some (.struct _) => true
  | some (.array _ _) => true
  | none => true
  | _ => false
class TG (P : Program) (t : TypeId) (g : outParam Bool) : Prop where
  h : (Q6E (P.underlying t), (P.underlying t).isSome) = (g, true)
class TS (P : Program) (t : TypeId) (e : outParam TypeId) : Prop where
  h : P.underlying t = some (.slice e)
class TA (P : Program) (t : TypeId) (n : outParam Nat) (e : outParam TypeId) : Prop where
  h : P.underlying t = some (.array n e)
class TM (P : Program) (t : TypeId) (k e : outParam TypeId) : Prop where
  h : P.underlying t = some (.map k e)
def Q1e (d : Option TypeDesc) (k : Nat) : Option (Nat × TypeId) := match d with
  | some (.struct fs) => (fs[k]?).map fun f => (f.offset, f.type)
  | _ => none
class TF (P : Program) (t : TypeId) (k : Nat) (off : outParam Nat) (ft : outParam TypeId) : Prop where
  h : Q1e (P.underlying t) k = some (off, ft)
variable {P : Program} {w w0 w1 w' w'' : World} {K : Value → World → Prop}
theorem TZ.info {t : TypeId} {sz b : Nat} {z : Value} (h : TZ P t sz b z) : ∃ i, P.info? t = some i ∧ i.size = sz ∧ i.bytes = b ∧ i.zero = some z := by
  obtain ⟨i, hi, e⟩ := Option.map_eq_some_iff.1 h.h
  simp only [Prod.mk.injEq] at e
  exact ⟨i, hi, e.1, e.2.1, e.2.2⟩
theorem M2 {t : TypeId} {sz b : Nat} {z : Value} (h : TZ P t sz b z) (w : World) : (sizeOf t).run P w = .ok sz w := by
  obtain ⟨i, hi, rfl, _⟩ := h.info
  simp [sizeOf, typeInfo, hi]
theorem Xb {t : TypeId} {sz b : Nat} {z : Value} (h : TZ P t sz b z) (w : World) : (zeroValue t).run P w = .ok z w := by
  obtain ⟨i, hi, _, _, hz⟩ := h.info
  simp [zeroValue, typeInfo, hi, hz]
theorem P7 {t : TypeId} {g : Bool} (h : TG P t g) (w : World) : (isAgg t).run P w = .ok g w := by
  have hh := h.h
  simp only [Prod.mk.injEq] at hh
  obtain ⟨h1, h2⟩ := hh
  cases hu : P.underlying t with
  | none => rw [hu] at h2; cases h2
  | some d =>
    rw [hu] at h1
    have := run_underlying (P := P) (w := w) hu
    simp only [isAgg, Sem.run_bind, this, Result.andThen_ok]
    cases d <;> simp_all [Q6E]
theorem Q4d (a : Addr) (i j : Nat) : (a.add i).add j = a.add (i + j) := by
  unfold Addr.add
  by_cases hi : i = 0
  · simp [hi]
  · by_cases hj : j = 0
    · simp [hj]
    · simp [hi, hj, Nat.add_assoc]
theorem add_zero (a : Addr) : a.add 0 = a := by simp [Addr.add]
theorem R8 (a : Addr) (i : Nat) : (a.add i).block = a.block := by unfold Addr.add; split <;> rfl
theorem Qy (a : Addr) (i : Nat) : (a.add i).off = a.off + i := by unfold Addr.add; split <;> simp_all
theorem F0 {a : Addr} (h : a.spot = none) (i : Nat) : (a.add i).spot = none := by unfold Addr.add; split <;> simp_all
abbrev Q5 := Nat → Option Obj
def X6 (w : World) (σ : Q5) : Prop := ∀ b o, σ b = some o → w.heap[b]? = some o
structure Stp (w : World) (σ : Q5) (w' : World) (σ' : Q5) : Prop where
  bel : Below w.heap.size w w'
  sat : X6 w' σ'
  le : ∀ b o, σ b = some o → σ' b = some o
  old : ∀ b, b < w.heap.size → σ' b = σ b
theorem X6.lt {σ : Q5} (h : X6 w σ) {b : Nat} {o : Obj} (hb : σ b = some o) : b < w.heap.size := (Array.getElem?_eq_some_iff.1 (h b o hb)).1
theorem X6.below {σ : Q5} (h : X6 w σ) (hb : Below w.heap.size w w') : X6 w' σ := fun b o e => (hb.block b (h.lt e)).trans (h b o e)
theorem Stp.refl {σ : Q5} (h : X6 w σ) : Stp w σ w σ := ⟨Below.refl _ _, h, fun _ _ e => e, fun _ _ => rfl⟩
theorem Stp.trans {σ0 σ1 σ2 : Q5} (h : Stp w σ0 w' σ1) (k : Stp w' σ1 w'' σ2) : Stp w σ0 w'' σ2 :=
  ⟨h.bel.trans (k.bel.mono h.bel.size), k.sat, fun b o e => k.le b o (h.le b o e), fun b hb => (k.old b (Nat.lt_of_lt_of_le hb h.bel.size)).trans (h.old b hb)⟩
theorem Stp.of_below {σ : Q5} (h : X6 w σ) (hb : Below w.heap.size w w') : Stp w σ w' σ := ⟨hb, h.below hb, fun _ _ e => e, fun _ _ => rfl⟩
def Q5.put (σ : Q5) (b : Nat) (o : Obj) : Q5 := fun k => if k = b then some o else σ k
theorem X6.none {σ : Q5} (h : X6 w σ) {b : Nat} (hb : w.heap.size ≤ b) : σ b = none := by
  cases e : σ b with
  | none => rfl
  | some o => have := h.lt e; omega
theorem Stp.alloc {σ : Q5} (h : X6 w σ) (o : Obj) : Stp w σ (w.alloc o) (σ.put w.heap.size o) := by
  refine ⟨(Below.refl _ _).alloc (Nat.le_refl _) o, ?_, ?_, ?_⟩
  · intro b p e
    by_cases hb : b = w.heap.size
    · subst hb
      simp only [Q5.put, if_true] at e
      cases e
      exact heap_alloc_new w o
    · simp only [Q5.put, if_neg hb] at e
      rw [Below.heap_alloc w o b (h.lt e)]; exact h b p e
  · intro b p e
    have := h.lt e
    simp only [Q5.put]; rw [if_neg (by omega)]; exact e
  · intro b hb
    simp only [Q5.put]; rw [if_neg (by omega)]
theorem Stp.own {σ : Q5} (h : X6 w σ) (o : Obj) : Stp w σ (w.alloc o) σ := Stp.of_below h ((Below.refl _ _).alloc (Nat.le_refl _) o)
def U0 (σ : Q5) (a : Addr) (cs : List Value) : Prop := a.spot = none ∧ ∃ D6 e fr, σ a.block = some (.cells D6 e fr) ∧ ∀ i v, cs[i]? = some v → D6[a.off + i]? = some v
theorem U0.up {σ σ' : Q5} {a : Addr} {cs : List Value} (h : U0 σ a cs) (hk : Stp w σ w' σ') : U0 σ' a cs := by
  obtain ⟨h1, D6, e, fr, h2, h3⟩ := h
  exact ⟨h1, D6, e, fr, hk.le _ _ h2, h3⟩
theorem U0.cell {σ : Q5} {a : Addr} {cs : List Value} (h : U0 σ a cs) (hs : X6 w σ) {i : Nat} {v : Value} (hv : cs[i]? = some v) : w.cell? (a.add i) = some v := by
  obtain ⟨h1, D6, e, fr, h2, h3⟩ := h
  have := hs _ _ h2
  unfold World.cell?
  rw [R8, this, Qy, F0 h1]
  exact h3 i v hv
def V4 (σ : Q5) (w : World) (b : Nat) (cs : List Value) : Prop := σ b = none ∧ ∃ e, w.heap[b]? = some (.cells cs.toArray e (0, 0))
theorem V4.lt {σ : Q5} {b : Nat} {cs : List Value} (h : V4 σ w b cs) : b < w.heap.size := by
  obtain ⟨_, e, h⟩ := h
  exact (Array.getElem?_eq_some_iff.1 h).1
theorem V4.up {σ σ' : Q5} {b : Nat} {cs : List Value} (h : V4 σ w b cs) (hk : Stp w σ w' σ') : V4 σ' w' b cs := by
  have hl := h.lt
  obtain ⟨h1, e, h2⟩ := h
  exact ⟨(hk.old b hl).trans h1, e, (hk.bel.block b hl).trans h2⟩
theorem V4.cell {σ : Q5} {b : Nat} {cs : List Value} (h : V4 σ w b cs) {i : Nat} {v : Value} (hv : cs[i]? = some v) : w.cell? ((⟨b, 0, none⟩ : Addr).add i) = some v := by
  obtain ⟨_, e, h2⟩ := h
  unfold World.cell?
  rw [R8, Qy, F0 rfl]
  simp only [h2]
  simpa using hv
theorem V4.keep {σ σ0 : Q5} {b : Nat} {cs : List Value} (h : V4 σ w b cs) (hk : Stp w0 σ0 w σ) (hb : w0.heap.size ≤ b) : ∃ σ', Stp w0 σ0 w σ' ∧ U0 σ' ⟨b, 0, none⟩ cs ∧ (∀ k o, σ k = some o → σ' k = some o) ∧ (∀ k, k ≠ b → σ' k = σ k) := by
  obtain ⟨h1, e, h2⟩ := h
  refine ⟨σ.put b (.cells cs.toArray e (0, 0)), ⟨hk.bel, ?_, ?_, ?_⟩, ⟨rfl, cs.toArray, e, (0, 0), by simp [Q5.put], ?_⟩, ?_, ?_⟩
  · intro k o ho
    by_cases hkb : k = b
    · subst hkb; simp only [Q5.put, if_true] at ho; cases ho; exact h2
    · simp only [Q5.put, if_neg hkb] at ho; exact hk.sat k o ho
  · intro k o ho
    by_cases hkb : k = b
    · subst hkb; have := hk.le _ _ ho; rw [h1] at this; cases this
    · simp only [Q5.put, if_neg hkb]; exact hk.le _ _ ho
  · intro k hlt
    simp only [Q5.put]; rw [if_neg (by omega)]; exact hk.old k hlt
  · intro i v hv; simpa using hv
  · intro k o ho
    by_cases hkb : k = b
    · subst hkb; rw [h1] at ho; cases ho
    · simp only [Q5.put, if_neg hkb]; exact ho
  · intro k hkb; simp only [Q5.put, if_neg hkb]
theorem Q4p (t : TypeId) (v : Value) (w : World) : (Instr.box t v).run P w = .ok (.pointer (some ⟨w.heap.size, 0, none⟩)) (w.alloc (.cells v.cells t)) := by
  simp [Instr.box, newVar, newRow]
theorem Q0c {σ : Q5} (hs : X6 w σ) (cs : Array Value) (t : TypeId) : V4 σ (w.alloc (.cells cs t)) w.heap.size cs.toList :=
  ⟨hs.none (Nat.le_refl _), t, by simpa using heap_alloc_new w (.cells cs t)⟩
theorem Q5v {σ : Q5} (cs : Array Value) (t : TypeId) : U0 (σ.put w.heap.size (.cells cs t)) ⟨w.heap.size, 0, none⟩ cs.toList :=
  ⟨rfl, cs, t, (0, 0), by simp [Q5.put], fun i v h => by simpa using h⟩
theorem N4 {σ : Q5} {t : TypeId} {v : Value} (hs : X6 w σ) (h : ∀ a w' σ', Stp w σ w' σ' → U0 σ' a v.cells.toList → K (.pointer (some a)) w') : box P t v w K := by
  unfold box; rw [X9 (Q4p t v w)]
  exact h _ _ _ (Stp.alloc hs _) (Q5v _ t)
theorem Q7j {σ : Q5} {t : TypeId} {v : Value} (hs : X6 w σ) (h : ∀ b w', w.heap.size ≤ b → Stp w σ w' σ → V4 σ w' b v.cells.toList → K (.pointer (some ⟨b, 0, none⟩)) w') : box P t v w K := by
  unfold box; rw [X9 (Q4p t v w)]
  exact h _ _ (Nat.le_refl _) (Stp.own hs _) (Q0c hs _ t)
theorem Su {σ : Q5} {t : TypeId} {sz by_ : Nat} {z : Value} [tz : TZ P t sz by_ z] (hs : X6 w σ) (h : ∀ b w', w.heap.size ≤ b → Stp w σ w' σ → V4 σ w' b z.cells.toList → K (.pointer (some ⟨b, 0, none⟩)) w') : M0 P t w K := by
  unfold M0
  have : (Instr.alloc t true (.tuple #[])).run P w = .ok (.pointer (some ⟨w.heap.size, 0, none⟩)) (w.alloc (.cells z.cells t)) := by
    simp [Instr.alloc, Xb tz, newVar, newRow]
  rw [X9 this]
  exact h _ _ (Nat.le_refl _) (Stp.own hs _) (Q0c hs _ t)
theorem T8 {t : TypeId} [tg : TG P t false] {a : Addr} {v : Value} (hc : w.cell? a = some v) (h : K v w) : Q2 P t (.pointer (some a)) w K := by
  unfold Q2
  rw [X9 (v := v) (w' := w) (by simp [Instr.loadAt, Instr.sureAddr, loadVar, P7 tg, hc])]
  exact h
theorem Bp {t : TypeId} {sz by_ : Nat} {z : Value} [tg : TG P t true] [tz : TZ P t sz by_ z] {a : Addr} {cs : List Value} (hl : cs.length = sz) (hc : ∀ j v, cs[j]? = some v → w.cell? (a.add j) = some v) (h : K (.agg cs.toArray) w) : Q2 P t (.pointer (some a)) w K := by
  unfold Q2
  have := run_loadCells_list (P := P) w a cs hc
  rw [hl] at this
  rw [X9 (v := .agg cs.toArray) (w' := w) (by simp [Instr.loadAt, Instr.sureAddr, loadVar, P7 tg, M2 tz, this])]
  exact h
theorem ld {σ : Q5} {t : TypeId} [TG P t false] {a : Addr} {cs : List Value} {i : Nat} {v : Value} (hs : X6 w σ) (ha : U0 σ a cs) (hv : cs[i]? = some v) (h : K v w) : Q2 P t (.pointer (some (a.add i))) w K :=
  T8 (ha.cell hs hv) h
theorem X8 {σ : Q5} {t : TypeId} [TG P t false] {a : Addr} {cs : List Value} {v : Value} (hs : X6 w σ) (ha : U0 σ a cs) (hv : cs[0]? = some v) (h : K v w) : Q2 P t (.pointer (some a)) w K := by
  have := ld (P := P) (t := t) hs ha hv h
  rwa [add_zero] at this
theorem Y3 {σ : Q5} {t : TypeId} {sz by_ : Nat} {z : Value} [TG P t true] [TZ P t sz by_ z] {a : Addr} {cs : List Value} (hs : X6 w σ) (ha : U0 σ a cs) (hl : cs.length = sz) (h : K (.agg cs.toArray) w) : Q2 P t (.pointer (some a)) w K :=
  Bp hl (fun _ _ hv => ha.cell hs hv) h
theorem ldm {σ : Q5} {t : TypeId} [TG P t false] {b : Nat} {cs : List Value} {i : Nat} {v : Value} (hm : V4 σ w b cs) (hv : cs[i]? = some v) (h : K v w) : Q2 P t (.pointer (some ((⟨b, 0, none⟩ : Addr).add i))) w K :=
  T8 (hm.cell hv) h
theorem Q6J {σ : Q5} {t : TypeId} [TG P t false] {b : Nat} {cs : List Value} {v : Value} (hm : V4 σ w b cs) (hv : cs[0]? = some v) (h : K v w) : Q2 P t (.pointer (some ⟨b, 0, none⟩)) w K := by
  have := ldm (P := P) (t := t) hm hv h
  rwa [add_zero] at this
theorem Q8H {σ : Q5} {t : TypeId} {sz by_ : Nat} {z : Value} [TG P t true] [TZ P t sz by_ z] {b : Nat} {cs : List Value} (hm : V4 σ w b cs) (hl : cs.length = sz) (h : K (.agg cs.toArray) w) : Q2 P t (.pointer (some ⟨b, 0, none⟩)) w K :=
  Bp hl (fun _ _ hv => hm.cell hv) h
theorem M6 {t : TypeId} {sz by_ : Nat} {z : Value} [tg : TG P t true] [tz : TZ P t sz by_ z] {σ : Q5} {b : Nat} {cs : List Value} {K : Value → Prop} (hm : V4 σ w b cs) (hl : cs.length = sz) (h : K (.agg cs.toArray)) : N2 P t (.pointer (some ⟨b, 0, none⟩)) w K := by
  rw [Q0l]
  refine ⟨_, ?_, h⟩
  have := run_loadCells_list (P := P) w ⟨b, 0, none⟩ cs (fun _ _ hv => hm.cell hv)
  rw [hl] at this
  simp [asAddr, loadVar, P7 tg, M2 tz, this]
structure Upd (w : World) (b : Nat) (w' : World) : Prop where
  os : w'.os = w.os
  tape : w'.tape = w.tape
  output : w'.output = w.output
  size : w'.heap.size = w.heap.size
  block : ∀ k, k ≠ b → w'.heap[k]? = w.heap[k]?
theorem Upd.stp {σ0 σ : Q5} {b : Nat} (hu : Upd w b w') (hS : Stp w0 σ0 w σ) (hb : w0.heap.size ≤ b) (hσ : σ b = none) : Stp w0 σ0 w' σ := by
  refine ⟨⟨hu.os.trans hS.bel.os, hu.tape.trans hS.bel.tape, hu.output.trans hS.bel.output, by rw [hu.size]; exact hS.bel.size, fun k hk => (hu.block k (by omega)).trans (hS.bel.block k hk)⟩, ?_, hS.le, hS.old⟩
  intro k o ho
  rw [hu.block k (by intro e; subst e; rw [hσ] at ho; cases ho)]
  exact hS.sat k o ho
theorem V4.upd {σ : Q5} {b k : Nat} {cs : List Value} (h : V4 σ w k cs) (hu : Upd w b w') (hne : k ≠ b) : V4 σ w' k cs := by
  obtain ⟨h1, e, h2⟩ := h
  exact ⟨h1, e, (hu.block k hne).trans h2⟩
theorem Nk {b : Nat} {cs : Array Value} {old : Array Value} {e : TypeId} (h : w.heap[b]? = some (.cells old e (0, 0))) : Upd w b (w.setRow b cs) ∧ (w.setRow b cs).heap[b]? = some (.cells cs e (0, 0)) := by
  have hl := (Array.getElem?_eq_some_iff.1 h).1
  refine ⟨⟨rfl, rfl, rfl, by simp [World.setRow], fun k hk => ?_⟩, ?_⟩
  · simp only [World.setRow, Array.getElem?_modify]
    rw [if_neg (by omega)]
  · simp only [World.setRow, Array.getElem?_modify, if_true, h]
    rfl
theorem sta {t : TypeId} {sz by_ : Nat} {z : Value} [tz : TZ P t sz by_ z] {σ : Q5} {b : Nat} {cs ds : List Value} (hm : V4 σ w b cs) (hl : cs.length = sz) (hd : ds.length = sz) (h1 : ds.toArray.all (·.oneCell') = true)
    (h : ∀ w', Upd w b w' → V4 σ w' b ds → K undef w') : V5 P t (.pointer (some ⟨b, 0, none⟩)) (.agg ds.toArray) w K := by
  obtain ⟨hσ, e, hb⟩ := hm
  unfold V5
  obtain ⟨i, hi, hsz, _⟩ := tz.info
  have := run_storeVar_row (P := P) w b e t cs.toArray ds.toArray hb (by simp [hi, hsz, hd]) (by simp [hl, hd]) h1
  rw [Ln (w' := w.setRow b ds.toArray) (by simpa [Instr.storeAt, Instr.sureAddr] using this)]
  obtain ⟨hu, hh⟩ := Nk (cs := ds.toArray) hb
  exact h _ hu ⟨hσ, e, hh⟩
theorem Q83 {cs : List Value} {i : Nat} {v : Value} (hi : i < cs.length) : (cs.take i ++ [v] ++ cs.drop (i + 1)) = cs.set i v := by
  rw [List.set_eq_take_append_cons_drop, if_pos hi]; simp
theorem Pb {t : TypeId} {by_ : Nat} {z : Value} [tz : TZ P t 1 by_ z] {σ : Q5} {b i : Nat} {cs : List Value} {v : Value} (hm : V4 σ w b cs) (hi : i < cs.length) (hc : v.cells = #[v]) (h1 : v.oneCell' = true)
    (h : ∀ w', Upd w b w' → V4 σ w' b (cs.set i v) → K undef w') : V5 P t (.pointer (some ((⟨b, 0, none⟩ : Addr).add i))) v w K := by
  obtain ⟨hσ, e, hb⟩ := hm
  unfold V5
  have hadd : (⟨b, 0, none⟩ : Addr).add i = ⟨b, i, none⟩ := by unfold Addr.add; split <;> simp_all
  have := run_storeCells_at P b i e [v] 0 cs.toArray w hb (by simp; omega) (by simpa using h1)
  simp only [Nat.add_zero] at this
  obtain ⟨hu, hh⟩ := Nk (cs := (cs.set i v).toArray) hb
  have e2 : (List.take i cs.toArray.toList ++ [v] ++ List.drop (i + [v].length) cs.toArray.toList).toArray = (cs.set i v).toArray := by
    rw [← Q83 hi]; simp
  rw [e2] at this
  rw [Ln (w' := w.setRow b (cs.set i v).toArray) (by simp [Instr.storeAt, Instr.sureAddr, hadd, storeVar, M2 tz, hc, this])]
  exact h _ hu ⟨hσ, e, hh⟩
theorem st0 {t : TypeId} {by_ : Nat} {z : Value} [tz : TZ P t 1 by_ z] {σ : Q5} {b : Nat} {cs : List Value} {v : Value} (hm : V4 σ w b cs) (hi : 0 < cs.length) (hc : v.cells = #[v]) (h1 : v.oneCell' = true)
    (h : ∀ w', Upd w b w' → V4 σ w' b (cs.set 0 v) → K undef w') : V5 P t (.pointer (some ⟨b, 0, none⟩)) v w K := by
  have := Pb (P := P) (t := t) hm hi hc h1 h
  rwa [add_zero] at this
class NZ (n : Nat) : Prop where
  h : (n == 0) = false
instance (n : Nat) : NZ (n + 1) := ⟨rfl⟩
theorem fa {t : TypeId} {k off : Nat} {ft : TypeId} {sz by_ : Nat} {z : Value} [tf : TF P t k off ft] [tz : TZ P ft sz by_ z] [nz : NZ sz] {a : Addr} : fieldAddr P t (.pointer (some a)) k w K = K (.pointer (some (a.add off))) w := by
  unfold fieldAddr
  have hh := tf.h
  unfold Q1e at hh
  split at hh
  · rename_i fs hu
    obtain ⟨f, hf, he⟩ := Option.map_eq_some_iff.1 hh
    simp only [Prod.mk.injEq] at he
    obtain ⟨h1, h2⟩ := he
    subst h2 h1
    have h0 : ¬ sz = 0 := by simpa using nz.h
    exact X9 (by simp [Instr.fieldAt, run_underlying hu, hf, Instr.sureAddr, fieldPlace, M2 tz, h0])
  · cases hh
theorem Rh {t e : TypeId} {sz by_ : Nat} {z : Value} [ts : TS P t e] [tz : TZ P e sz by_ z] {a : Addr} {n cap : Nat} {k : IntKind} {i : Int} (h0 : 0 ≤ i) (h1 : i < n) : indexAddr P t (.slice (some a) n cap) (.int k i) w K = K (.pointer (some (a.add (i.toNat * sz)))) w := by
  unfold indexAddr
  exact X9 (by simp [Instr.indexAt, run_underlying ts.h, asIntOf, M2 tz, h0, h1])
theorem Q5O {t e : TypeId} {n sz by_ : Nat} {z : Value} [ta : TA P t n e] [tz : TZ P e sz by_ z] {a : Addr} {k : IntKind} {i : Int} (h0 : 0 ≤ i) (h1 : i < n) : indexAddr P t (.pointer (some a)) (.int k i) w K = K (.pointer (some (a.add (i.toNat * sz)))) w := by
  unfold indexAddr
  exact X9 (by simp [Instr.indexAt, run_underlying ta.h, asIntOf, Instr.sureAddr, M2 tz, h0, h1])
theorem H4 {a : Addr} : nilCheck P (.pointer (some a)) w K = K (.pointer (some a)) w := by
  unfold nilCheck
  rw [Ze]; unfold Xm
  simp [execOp]
class Rep {α : Type} (R : Q5 → α → List Value → Prop) : Prop where
  up : ∀ {σ σ' : Q5} {x : α} {cs : List Value}, (∀ b o, σ b = some o → σ' b = some o) → R σ x cs → R σ' x cs
  one : ∀ {σ : Q5} {x : α} {cs : List Value}, R σ x cs → ∀ u ∈ cs, u.oneCell' = true
def Sl {α : Type} (sz : Nat) (R : Q5 → α → List Value → Prop) (σ : Q5) (v : Value) (xs : List α) : Prop :=
  ∃ a cap, v = .slice a xs.length cap ∧ xs.length ≤ cap ∧ cap ≤ maxLen ∧ (a = none → cap = 0) ∧
    ∀ b, a = some b → (0 < xs.length → b.spot = none) ∧ ∀ i x, xs[i]? = some x → ∃ cs, U0 σ (b.add (i * sz)) cs ∧ cs.length = sz ∧ R σ x cs
theorem U0.le {σ σ' : Q5} {a : Addr} {cs : List Value} (h : U0 σ a cs) (hk : ∀ b o, σ b = some o → σ' b = some o) : U0 σ' a cs := by
  obtain ⟨h1, D6, e, fr, h2, h3⟩ := h
  exact ⟨h1, D6, e, fr, hk _ _ h2, h3⟩
section
variable {α : Type} {R : Q5 → α → List Value → Prop} {sz : Nat} {σ σ' : Q5} {v : Value} {xs : List α}
theorem Sl.le [hr : Rep R] (h : Sl sz R σ v xs) (hk : ∀ b o, σ b = some o → σ' b = some o) : Sl sz R σ' v xs := by
  obtain ⟨a, cap, h1, h2, h3, h4, h5⟩ := h
  refine ⟨a, cap, h1, h2, h3, h4, fun b hb => ⟨(h5 b hb).1, fun i x hx => ?_⟩⟩
  obtain ⟨cs, g1, g2, g3⟩ := (h5 b hb).2 i x hx
  exact ⟨cs, g1.le hk, g2, hr.up hk g3⟩
theorem Sl.up [Rep R] (h : Sl sz R σ v xs) (hk : Stp w σ w' σ') : Sl sz R σ' v xs := h.le hk.le
theorem Sl.max (h : Sl sz R σ v xs) : xs.length ≤ 9223372036854775807 := by
  obtain ⟨a, cap, h1, h2, h3, h4⟩ := h
  simp only [maxLen] at h3; omega
theorem Sl.nil : Sl sz R σ (.slice none 0 0) ([] : List α) := ⟨none, 0, rfl, by simp, by simp, fun _ => rfl, fun b hb => by cases hb⟩
theorem Q4w {t0 e t : TypeId} {cs : List Bool} [ts : TS P t0 e] {a : Option Addr} {n cap : Nat} : X4 P .len [t0] t cs [.slice a n cap] w K = K (I n) w := by
  have h : (Builtin.len_ #[t0] t #[.slice a n cap]).run P w = .ok (I n) w := by
    simp [Builtin.len_, run_underlying ts.h, goInt]
  exact X9 h
theorem Q9j {t0 e t : TypeId} {cs : List Bool} [ts : TS P t0 e] (h : Sl sz R σ v xs) : X4 P .len [t0] t cs [v] w K = K (I xs.length) w := by
  obtain ⟨a, cap, rfl, _⟩ := h
  exact Q4w
theorem Q9D {t e : TypeId} {by_ : Nat} {z : Value} [TS P t e] [TZ P e sz by_ z] (h : Sl sz R σ v xs) {k : IntKind} {i : Int} (h0 : 0 ≤ i) (h1 : i.toNat < xs.length)
    (hk : ∀ a cs, U0 σ a cs → cs.length = sz → R σ xs[i.toNat] cs → K (.pointer (some a)) w) : indexAddr P t v (.int k i) w K := by
  obtain ⟨a, cap, rfl, h2, h3, h4, h5⟩ := h
  cases a with
  | none => have := h4 rfl; omega
  | some b =>
    rw [Rh h0 (by omega)]
    obtain ⟨cs, g1, g2, g3⟩ := (h5 b rfl).2 i.toNat xs[i.toNat] (by simp [h1])
    exact hk _ cs g1 g2 g3
end
theorem Stp.turn {σ0 σ : Q5} {row : Option Nat} (hg : w.grownBy w' row) (hS : Stp w0 σ0 w σ) (hr : ∀ k, row = some k → w0.heap.size ≤ k ∧ σ k = none) : Stp w0 σ0 w' σ := by
  refine ⟨⟨hg.os.trans hS.bel.os, hg.tape.trans hS.bel.tape, hg.output.trans hS.bel.output, Nat.le_trans hS.bel.size hg.size, fun k hk => ?_⟩, ?_, hS.le, hS.old⟩
  · refine (hg.block k (Nat.lt_of_lt_of_le hk hS.bel.size) ?_).trans (hS.bel.block k hk)
    intro e; have := (hr k e.symm).1; omega
  · intro k o ho
    refine (hg.block k (hS.sat.lt ho) ?_).trans (hS.sat k o ho)
    intro e; rw [(hr k e.symm).2] at ho; cases ho
theorem V4.turn {σ : Q5} {row : Option Nat} {k : Nat} {cs : List Value} (h : V4 σ w k cs) (hg : w.grownBy w' row) (hne : some k ≠ row) : V4 σ w' k cs := by
  have hl := h.lt
  obtain ⟨h1, e, h2⟩ := h
  exact ⟨h1, e, (hg.block k hl hne).trans h2⟩
def W5 {α : Type} (B : Nat) (e : TypeId) (sz : Nat) (R : Q5 → α → List Value → Prop) (σ : Q5) (w : World) (v : Value) (xs : List α) : Prop :=
  ∃ cells, w.ownsRow B e sz v xs.length cells ∧ (∀ k, v.ownBlock = some k → σ k = none) ∧ ∀ i x, xs[i]? = some x → R σ x ((cells.drop (i * sz)).take sz)
section
variable {α : Type} {R : Q5 → α → List Value → Prop} {B sz : Nat} {e : TypeId} {σ σ' : Q5} {v u : Value} {xs ys : List α}
theorem W5.nil : W5 B e sz R σ w (.slice none 0 0) ([] : List α) := ⟨[], World.ownsRow_nil w B e sz, by intro k hk; simp [Value.ownBlock] at hk, by intro i x h; simp at h⟩
theorem W5.mem (h : W5 B e sz R σ w v xs) : ∀ k, v.ownBlock = some k → B ≤ k ∧ k < w.heap.size ∧ σ k = none := by
  obtain ⟨cells, h1, h2, _⟩ := h
  intro k hk
  obtain ⟨a, b⟩ := h1.lt k hk
  exact ⟨a, b, h2 k hk⟩
theorem W5.up [hr : Rep R] (h : W5 B e sz R σ w v xs) (hk : Stp w σ w' σ') : W5 B e sz R σ' w' v xs := by
  obtain ⟨cells, h1, h2, h3⟩ := h
  refine ⟨cells, h1.kept ⟨hk.bel.os, hk.bel.tape, hk.bel.output, hk.bel.size, fun k hl _ => hk.bel.block k hl⟩ (by cases hv : v.ownBlock <;> simp) (row := none), ?_, fun i x hx => hr.up hk.le (h3 i x hx)⟩
  intro k hv
  rw [hk.old k (h1.lt k hv).2]; exact h2 k hv
theorem W5.turn {row : Option Nat} (h : W5 B e sz R σ w v xs) (hg : w.grownBy w' row) (hne : v.ownBlock = none ∨ v.ownBlock ≠ row) : W5 B e sz R σ w' v xs := by
  obtain ⟨cells, h1, h2, h3⟩ := h
  exact ⟨cells, h1.kept hg hne, h2, h3⟩
theorem Sl.cells (h : Sl sz R σ v xs) (hs : X6 w σ) [hr : Rep R] : ∃ (a : Option Addr) (cap : Nat) (news : List Value), v = .slice a xs.length cap ∧ (a = none → cap = 0) ∧ news.length = xs.length * sz ∧ (∀ b, a = some b → ∀ j u, news[j]? = some u → w.cell? (b.add j) = some u) ∧ (∀ u ∈ news, u.oneCell' = true) ∧
    ∀ i x, xs[i]? = some x → R σ x ((news.drop (i * sz)).take sz) := by
  obtain ⟨a, cap, rfl, h2, h3, h4, h5⟩ := h
  cases a with
  | none =>
    have h0 := h4 rfl
    have hx : xs = [] := List.eq_nil_of_length_eq_zero (by omega)
    subst hx
    exact ⟨none, cap, [], rfl, h4, by simp, fun b hb => (by cases hb), by simp, by simp⟩
  | some b =>
    obtain ⟨hsp, hel⟩ := h5 b rfl
    clear h5
    have key : ∀ (ys : List α) (k : Nat), (∀ i x, ys[i]? = some x → ∃ cs, U0 σ (b.add ((k + i) * sz)) cs ∧ cs.length = sz ∧ R σ x cs) →
        ∃ news : List Value, news.length = ys.length * sz ∧ (∀ j u, news[j]? = some u → w.cell? (b.add (k * sz + j)) = some u) ∧ (∀ u ∈ news, u.oneCell' = true) ∧ ∀ i x, ys[i]? = some x → R σ x ((news.drop (i * sz)).take sz) := by
      intro ys
      induction ys with
      | nil => intro k _; exact ⟨[], by simp, by simp, by simp, by simp⟩
      | cons y r ih =>
        intro k hy
        obtain ⟨cs, g1, g2, g3⟩ := hy 0 y rfl
        obtain ⟨news, n1, n2, n3, n4⟩ := ih (k + 1) (fun i x hx => by
          have := hy (i + 1) x (by simpa using hx)
          rwa [show k + 1 + i = k + (i + 1) by omega])
        refine ⟨cs ++ news, by simp [n1, g2, Nat.add_mul, Nat.add_comm], ?_, ?_, ?_⟩
        · intro j u hu
          by_cases hj : j < sz
          · rw [List.getElem?_append_left (by omega)] at hu
            have := g1.cell hs hu
            rwa [Q4d, Nat.add_zero] at this
          · rw [List.getElem?_append_right (by omega)] at hu
            have := n2 _ _ hu
            rwa [g2, show (k + 1) * sz + (j - sz) = k * sz + j by rw [Nat.add_mul]; omega] at this
        · intro u hu
          rcases List.mem_append.1 hu with hu | hu
          · exact hr.one g3 u hu
          · exact n3 u hu
        · intro i x hx
          cases i with
          | zero =>
            simp at hx; subst hx
            simp only [Nat.zero_mul, List.drop_zero]
            rw [List.take_append_of_le_length (by omega), List.take_of_length_le (by omega)]; exact g3
          | succ i =>
            have := n4 i x (by simpa using hx)
            rw [show (i + 1) * sz = cs.length + i * sz by rw [Nat.add_mul]; omega, List.drop_append]
            simpa [List.drop_eq_nil_of_le] using this
    obtain ⟨news, n1, n2, n3, n4⟩ := key xs 0 (fun i x hx => by rw [Nat.zero_add]; exact hel i x hx)
    refine ⟨some b, cap, news, rfl, h4, n1, ?_, n3, n4⟩
    intro b' hb' j u hu
    cases hb'
    have := n2 j u hu
    rwa [Nat.zero_mul, Nat.zero_add] at this
end
section
variable {α : Type} {R : Q5 → α → List Value → Prop} {sz : Nat} {e : TypeId} {σ σ0 : Q5} {v u : Value} {xs ys : List α}
theorem De (cells news : List Value) (n i : Nat) (hl : cells.length = n * sz) (hi : i < n) : ((cells ++ news).drop (i * sz)).take sz = (cells.drop (i * sz)).take sz := by
  have h : i * sz + sz ≤ n * sz := by rw [← Nat.succ_mul]; exact Nat.mul_le_mul_right _ hi
  rw [List.drop_append_of_le_length (by omega), List.take_append_of_le_length (by simp only [List.length_drop]; omega)]
theorem app {t ty : TypeId} {by_ : Nat} {z : Value} {cs : List Bool} [ts : TS P t e] [tz : TZ P e sz by_ z] [hr : Rep R] (hS : Stp w0 σ0 w σ) (ha : W5 w0.heap.size e sz R σ w v xs) (hu : Sl sz R σ u ys) (hz : (z.cells.size == sz && decide (0 < sz)) = true)
    (hb : (xs.length + ys.length) * by_ ≤ 140737488355328) (hm : xs.length + ys.length ≤ 9223372036854775807)
    (h : ∀ v' w', w.grownBy w' v.ownBlock → Stp w0 σ0 w' σ → W5 w0.heap.size e sz R σ w' v' (xs ++ ys) → (v'.ownBlock = v.ownBlock ∨ ∀ k, v'.ownBlock = some k → w.heap.size ≤ k) → K v' w') : X4 P .append [t, t] ty cs [v, u] w K := by
  obtain ⟨cells, h1, h2, h3⟩ := ha
  obtain ⟨a, cap, news, rfl, n1, n2, n3, n4, n5⟩ := hu.cells hS.sat
  obtain ⟨i, hi, hsz, hby, hzero⟩ := tz.info
  have fin : ∀ v' w', (Builtin.append_ #[t, t] ty #[v, .slice a ys.length cap]).run P w = .ok v' w' → w'.ownsRow w0.heap.size e sz v' (xs.length + ys.length) (cells ++ news) → w.grownBy w' v.ownBlock → (v'.ownBlock = v.ownBlock ∨ v'.ownBlock = some w.heap.size) → X4 P .append [t, t] ty cs [v, .slice a ys.length cap] w K := by
    intro v' w' hrun hown hgrow hat
    have hrun' : (builtin .append #[t, t] ty cs.toArray #[v, .slice a ys.length cap]).run P w = .ok (.value v') w' := by
      simp [builtin, hrun]
    unfold X4
    rw [Ze]; unfold Xm
    rw [hrun']
    refine h v' w' hgrow (Stp.turn hgrow hS fun k hk => ⟨(h1.lt k hk).1, h2 k hk⟩) ⟨cells ++ news, by rw [List.length_append]; exact hown, ?_, ?_⟩ ?_
    · intro k hk
      rcases hat with hat | hat
      · exact h2 k (hat ▸ hk)
      · rw [hat] at hk; cases hk; exact hS.sat.none (Nat.le_refl _)
    · intro j x hx
      by_cases hj : j < xs.length
      · rw [List.getElem?_append_left hj] at hx
        rw [De cells news xs.length j h1.1 hj]
        exact h3 j x hx
      · rw [List.getElem?_append_right (by omega)] at hx
        have := n5 _ _ hx
        rw [show j * sz = cells.length + (j - xs.length) * sz by rw [h1.1, ← Nat.add_mul]; congr 1; omega, List.drop_append]
        simpa [List.drop_eq_nil_of_le] using this
    · rcases hat with hat | hat
      · exact .inl hat
      · right; intro k hk; rw [hat] at hk; cases hk; exact Nat.le_refl _
  simp only [Bool.and_eq_true, beq_iff_eq, decide_eq_true_eq] at hz
  cases a with
  | some b =>
    obtain ⟨v', w', g1, g2, g3, _, g5⟩ := run_append_own_at (P := P) w w0.heap.size t ty e i z sz by_ ts.h hi hzero hsz hby hz.1 hz.2 v xs.length cells h1 b ys.length cap news n2 (n3 b rfl) n4 (by simp only [maxLen]; omega) hb hS.bel.size
    exact fin v' w' g1 g2 g3 g5
  | none =>
    have hy : ys = [] := List.eq_nil_of_length_eq_zero (by obtain ⟨a', cap', e', q1, _, q3, _⟩ := hu; injection e' with _ e2 e3; have := n1 rfl; subst e3; omega)
    have hc0 := n1 rfl
    subst hy hc0
    have hn : news = [] := List.eq_nil_of_length_eq_zero (by simpa using n2)
    subst hn
    have hown := h1
    rcases h1.2 with ⟨rfl, h0⟩ | ⟨g, cap, cur, rfl, hb1, hg, hle, _⟩
    · refine fin (.slice none 0 0) w ?_ (by simpa using hown) (World.grownBy.refl w _) (.inl rfl)
      simp [Builtin.append_, run_underlying ts.h, sizeOf, typeInfo, hi, Builtin.lenOf, Builtin.firstCells]
    · refine fin _ w ?_ (by simpa using hown) (World.grownBy.refl w _) (.inl rfl)
      simp [Builtin.append_, run_underlying ts.h, sizeOf, typeInfo, hi, Builtin.lenOf, Builtin.firstCells, hle, storeCells]
end
section
variable {α : Type} {R : Q5 → α → List Value → Prop} {sz : Nat} {e : TypeId} {σ σ0 : Q5} {v u : Value} {xs ys : List α}
theorem Q5.put_le {w : World} (hs : X6 w σ) {b : Nat} (h : σ b = none) (o : Obj) : ∀ k p, σ k = some p → (σ.put b o) k = some p := by
  intro k p hk
  by_cases hkb : k = b
  · subst hkb; rw [h] at hk; cases hk
  · simp only [Q5.put, if_neg hkb]; exact hk
theorem Stp.put {b : Nat} {o : Obj} (hS : Stp w0 σ0 w σ) (hσ : σ b = none) (hb : w0.heap.size ≤ b) (ho : w.heap[b]? = some o) : Stp w0 σ0 w (σ.put b o) := by
  refine ⟨hS.bel, ?_, fun k p hk => Q5.put_le hS.sat hσ o k p (hS.le k p hk), ?_⟩
  · intro k p hk
    by_cases hkb : k = b
    · subst hkb; simp only [Q5.put, if_true] at hk; cases hk; exact ho
    · simp only [Q5.put, if_neg hkb] at hk; exact hS.sat k p hk
  · intro k hk
    simp only [Q5.put]; rw [if_neg (by omega)]; exact hS.old k hk
theorem W5.keep [hr : Rep R] (h : W5 w0.heap.size e sz R σ w v xs) (hS : Stp w0 σ0 w σ) : ∃ σ', Stp w0 σ0 w σ' ∧ Sl sz R σ' v xs ∧ (∀ k o, σ k = some o → σ' k = some o) ∧ (∀ k, some k ≠ v.ownBlock → σ' k = σ k) := by
  obtain ⟨cells, h1, h2, h3⟩ := h
  rcases h1.2 with ⟨rfl, h0⟩ | ⟨g, cap, cur, rfl, hb, hg, hle, hmax, hsz, htk⟩
  · have : xs = [] := List.eq_nil_of_length_eq_zero h0
    subst this
    exact ⟨σ, hS, Sl.nil, fun _ _ h => h, fun _ _ => rfl⟩
  · have hσ := h2 g rfl
    have hle' := Q5.put_le hS.sat hσ (.cells cur e (0, 0))
    refine ⟨σ.put g (.cells cur e (0, 0)), hS.put hσ hb hg, ⟨_, cap, rfl, hle, hmax, by simp, ?_⟩, hle', ?_⟩
    · intro b hbb
      cases hbb
      refine ⟨fun _ => rfl, fun i x hx => ⟨(cells.drop (i * sz)).take sz, ⟨F0 rfl _, cur, e, (0, 0), by rw [R8]; simp [Q5.put], ?_⟩, ?_, hr.up hle' (h3 i x hx)⟩⟩
      · intro j u hu
        rw [Qy]
        rw [List.getElem?_take] at hu
        split at hu
        · rw [List.getElem?_drop, ← htk, List.getElem?_take] at hu
          split at hu
          · simpa using hu
          · cases hu
        · cases hu
      · have hi : i < xs.length := (List.getElem?_eq_some_iff.1 hx).1
        have h : i * sz + sz ≤ xs.length * sz := by rw [← Nat.succ_mul]; exact Nat.mul_le_mul_right _ hi
        rw [List.length_take, List.length_drop, h1.1]; omega
    · intro k hk
      have : k ≠ g := by intro e; subst e; exact hk rfl
      simp only [Q5.put, if_neg this]
theorem Sl.piece {a : Option Addr} {n cap : Nat} (h : Sl sz R σ (.slice a n cap) xs) (l m : Nat) (hl : l + m ≤ xs.length) : Sl sz R σ (.slice (if cap = l then a else a.map (·.add (l * sz))) m (cap - l)) ((xs.drop l).take m) := by
  obtain ⟨a', cap', he, h2, h3, h4, h5⟩ := h
  injection he with e1 e2 e3
  subst e1 e2 e3
  have hlen : ((xs.drop l).take m).length = m := by simp; omega
  refine ⟨_, cap - l, by rw [hlen], by rw [hlen]; omega, by omega, ?_, ?_⟩
  · intro hn
    split at hn
    · omega
    · cases a with
      | none => have := h4 rfl; omega
      | some b => simp at hn
  · intro b hb
    split at hb
    · rename_i hcl
      obtain ⟨q1, q2⟩ := h5 b hb
      have hm : m = 0 := by omega
      subst hm
      exact ⟨fun h => by simp at h, by simp⟩
    · cases a with
      | none => simp at hb
      | some b' =>
        simp only [Option.map_some, Option.some.injEq] at hb
        obtain ⟨q1, q2⟩ := h5 b' rfl
        subst hb
        refine ⟨fun h => F0 (q1 (by rw [hlen] at h; omega)) _, fun i x hx => ?_⟩
        rw [List.getElem?_take] at hx
        split at hx
        · rw [List.getElem?_drop] at hx
          obtain ⟨cs, g1, g2, g3⟩ := q2 _ _ hx
          refine ⟨cs, ?_, g2, g3⟩
          rw [Q4d, ← Nat.add_mul]; exact g1
        · cases hx
theorem Ry {t : TypeId} {by_ : Nat} {z : Value} [ts : TS P t e] [tz : TZ P e sz by_ z] (h : Sl sz R σ v xs) (lo hi : Option Value) (l m : Nat) (hlo : lo = none ∧ l = 0 ∨ lo = some (I l)) (hhi : hi = none ∧ m = xs.length ∨ hi = some (I m)) (hlm : l ≤ m) (hm : m ≤ xs.length)
    (hk : ∀ v', Sl sz R σ v' ((xs.drop l).take (m - l)) → K v' w) : R7 P t v lo hi none w K := by
  have h0 := h
  obtain ⟨a, cap, rfl, h2, h3, h4, h5⟩ := h
  have hh : ∀ w : World, (Instr.sliceBounds true xs.length cap lo hi none).run P w = .ok (l, m, cap) w := by
    intro w
    have c1 : (m : Int) ≤ cap := by omega
    have c2 : (l : Int) ≤ m := by omega
    have c3 : m ≤ cap := by omega
    rcases hlo with ⟨rfl, rfl⟩ | rfl <;> rcases hhi with ⟨rfl, rfl⟩ | rfl <;>
      simp [Instr.sliceBounds, Instr.sliceBound, asIntOf, c3, hlm] <;> intros <;> omega
  unfold R7
  have : (Instr.sliceAt t (.slice a xs.length cap) lo hi none).run P w = .ok (.slice (if cap = l then a else a.map (·.add (l * sz))) (m - l) (cap - l)) w := by
    simp [Instr.sliceAt, run_underlying ts.h, Instr.slice, hh, M2 tz]
  rw [X9 this]
  exact hk _ (h0.piece l (m - l) (by omega))
def en : Nat → List Value → List (Nat × Value)
  | _, [] => []
  | i, v :: r => (i, v) :: en (i + 1) r
theorem Q5L (off : Nat) : ∀ (vs : List Value) (k : Nat) (cs : Array Value), off + k + vs.length ≤ cs.size →
    ((vs.zipIdx k).foldl (fun cs (p : Value × Nat) => cs.setIfInBounds (off + p.2) p.1) cs).toList = cs.toList.take (off + k) ++ vs ++ cs.toList.drop (off + k + vs.length) := by
  intro vs
  induction vs with
  | nil => intro k cs _; simp
  | cons v r ih =>
    intro k cs h
    simp only [List.length_cons] at h
    rw [List.zipIdx_cons, List.foldl_cons, ih (k + 1) _ (by simp; omega)]
    simp only [Array.toList_setIfInBounds, List.length_cons]
    apply List.ext_getElem?
    intro i
    simp only [List.getElem?_append, List.length_take, List.length_set, Array.length_toList, List.getElem?_take, List.getElem?_drop, List.length_append, List.getElem?_set, List.length_cons]
    rcases Nat.lt_trichotomy i (off + k) with hi | hi | hi
    · simp [show i < off + (k + 1) by omega, hi, show i < min (off + (k + 1)) cs.size by omega, show i < min (off + (k + 1)) cs.size + r.length by omega, show i < min (off + k) cs.size by omega, show i < min (off + k) cs.size + (r.length + 1) by omega, show off + k ≠ i by omega]
    · subst hi
      simp [show off + k < off + (k + 1) by omega, show off + k < min (off + (k + 1)) cs.size by omega, show off + k < min (off + (k + 1)) cs.size + r.length by omega, show ¬ off + k < min (off + k) cs.size by omega, show off + k < min (off + k) cs.size + (r.length + 1) by omega, show off + k < cs.size by omega, show off + k - min (off + k) cs.size = 0 by omega]
    · by_cases h2 : i < off + (k + 1) + r.length
      · simp [show ¬ i < min (off + (k + 1)) cs.size by omega, show i < min (off + (k + 1)) cs.size + r.length by omega, show ¬ i < min (off + k) cs.size by omega, show i < min (off + k) cs.size + (r.length + 1) by omega, show i - min (off + k) cs.size = (i - min (off + (k + 1)) cs.size) + 1 by omega]
      · simp only [show ¬ i < min (off + (k + 1)) cs.size + r.length by omega, show ¬ i < min (off + k) cs.size + (r.length + 1) by omega, if_false]
        rw [show off + (k + 1) + r.length + (i - (min (off + (k + 1)) cs.size + r.length)) = i by omega, show off + k + (r.length + 1) + (i - (min (off + k) cs.size + (r.length + 1))) = i by omega, if_neg (by omega)]
theorem Q4g (sz : Nat) : ∀ (vs : List Value) (i : Nat) (cs : Array Value), (i + vs.length) * sz ≤ cs.size → (∀ v ∈ vs, v.cells.size = sz) →
    ∃ cs', Instr.fill (fun i => some (i * sz, sz)) cs (en i vs) = some cs' ∧ cs'.toList = cs.toList.take (i * sz) ++ vs.flatMap (·.cells.toList) ++ cs.toList.drop ((i + vs.length) * sz) := by
  intro vs
  induction vs with
  | nil => intro i cs _ _; exact ⟨cs, rfl, by simp⟩
  | cons v r ih =>
    intro i cs h hv
    have hv0 := hv v (by simp)
    simp only [List.length_cons] at h
    have h1 : i * sz + sz ≤ cs.size := by
      have : (i + 1) * sz ≤ (i + (r.length + 1)) * sz := Nat.mul_le_mul_right _ (by omega)
      rw [Nat.succ_mul] at this; omega
    have hset := Q5L (i * sz) v.cells.toList 0 cs (by simp; omega)
    simp only [Nat.add_zero] at hset
    have e1 : v.cells.zipIdx.foldl (fun cs (p : Value × Nat) => cs.setIfInBounds (i * sz + p.2) p.1) cs = (v.cells.toList.zipIdx 0).foldl (fun cs (p : Value × Nat) => cs.setIfInBounds (i * sz + p.2) p.1) cs := by
      rw [← Array.foldl_toList, Array.toList_zipIdx]
    have hsz' : ((v.cells.toList.zipIdx 0).foldl (fun cs (p : Value × Nat) => cs.setIfInBounds (i * sz + p.2) p.1) cs).size = cs.size := by
      rw [← Array.length_toList, hset]
      simp; omega
    obtain ⟨cs', q1, q2⟩ := ih (i + 1) _ (by rw [hsz']; rw [show i + 1 + r.length = i + (r.length + 1) by omega]; exact h) (fun u hu => hv u (by simp [hu]))
    refine ⟨cs', ?_, ?_⟩
    · simp only [en, Instr.fill]
      rw [if_neg (by simp [hv0]; omega)]
      rw [e1]; exact q1
    · rw [q2, hset]
      simp only [List.flatMap_cons, List.length_cons, Array.length_toList, hv0]
      have e2 : (i + 1) * sz = i * sz + sz := by rw [Nat.succ_mul]
      have e3 : (i + (r.length + 1)) * sz = i * sz + sz + r.length * sz := by rw [Nat.add_mul, Nat.succ_mul]; omega
      have e4 : (i + 1 + r.length) * sz = i * sz + sz + r.length * sz := by rw [Nat.add_mul, Nat.succ_mul]
      rw [e2, e3, e4]
      have t1 : (cs.toList.take (i * sz)).length = i * sz := by simp; omega
      have t2 : (cs.toList.take (i * sz) ++ v.cells.toList).length = i * sz + sz := by rw [List.length_append, t1]; simp [hv0]
      have k1 : ∀ C : List Value, (cs.toList.take (i * sz) ++ v.cells.toList ++ C).take (i * sz + sz) = cs.toList.take (i * sz) ++ v.cells.toList := by
        intro C
        rw [List.take_append_of_le_length (by omega), List.take_of_length_le (by omega)]
      have k2 : ∀ (C : List Value) (n : Nat), (cs.toList.take (i * sz) ++ v.cells.toList ++ C).drop (i * sz + sz + n) = C.drop n := by
        intro C n
        rw [List.drop_append, t2, List.drop_eq_nil_of_le (by omega), List.nil_append]
        congr 1; omega
      rw [k1, k2, List.drop_drop]
      simp only [List.append_assoc]
theorem My {t : TypeId} {by_ : Nat} {z : Value} [ts : TS P t e] [tz : TZ P e sz by_ z] (vs : List Value) (hv : ∀ v ∈ vs, v.cells.size = sz) (hsm : vs.length * sz ≤ 16777216) (w : World) :
    ∃ cells : Array Value, (Instr.buildSlice t vs.length (en 0 vs).toArray).run P w = .ok (.slice (some ⟨w.heap.size, 0, none⟩) vs.length vs.length) (w.alloc (.cells cells e)) ∧ cells.toList = vs.flatMap (·.cells.toList) := by
  have h2 : ¬ vs.length * sz > 2 ^ 24 := by omega
  by_cases h : vs.length * sz = 0
  · obtain ⟨cells, hf, hl⟩ := Q4g sz vs 0 ((Array.range (vs.length * sz)).map ((#[] : Array Value)[· % (#[] : Array Value).size]!)) (by simp) hv
    refine ⟨cells, ?_, by rw [hl]; simp⟩
    simp only [Instr.buildSlice, Sem.run_bind, run_underlying ts.h, Result.andThen_ok, M2 tz, if_neg h2, if_pos h, Sem.run_pure, hf]
    simp [newRow]
  · obtain ⟨cells, hf, hl⟩ := Q4g sz vs 0 ((Array.range (vs.length * sz)).map (z.cells[· % z.cells.size]!)) (by simp) hv
    refine ⟨cells, ?_, by rw [hl]; simp⟩
    simp only [Instr.buildSlice, Sem.run_bind, run_underlying ts.h, Result.andThen_ok, M2 tz, if_neg h2, if_neg h, Sem.run_pure, Xb tz, hf]
    simp [newRow]
theorem Q56 {vs : List Value} (hv : ∀ v ∈ vs, v.cells.size = sz) (i : Nat) (v : Value) (h : vs[i]? = some v) : ((vs.flatMap (·.cells.toList)).drop (i * sz)).take sz = v.cells.toList := by
  induction vs generalizing i with
  | nil => simp at h
  | cons a r ih =>
    have ha := hv a (by simp)
    cases i with
    | zero =>
      simp at h; subst h
      rw [List.flatMap_cons, Nat.zero_mul, List.drop_zero, List.take_append_of_le_length (by simp [ha]), List.take_of_length_le (by simp [ha])]
    | succ i =>
      rw [List.flatMap_cons, Nat.succ_mul, List.drop_append, List.drop_eq_nil_of_le (by simp [ha]), List.nil_append]
      rw [show i * sz + sz - a.cells.toList.length = i * sz by simp [ha]]
      exact ih (fun v hv' => hv v (by simp [hv'])) i (by simpa using h)
theorem Az {vs : List Value} (hv : ∀ v ∈ vs, v.cells.size = sz) : (vs.flatMap (·.cells.toList)).length = vs.length * sz := by
  induction vs with
  | nil => simp
  | cons a r ih =>
    rw [List.flatMap_cons, List.length_append, ih (fun v h => hv v (by simp [h]))]
    simp [hv a (by simp), Nat.succ_mul, Nat.add_comm]
def Ig (R : Q5 → α → List Value → Prop) (σ : Q5) : List Value → List α → Prop
  | [], [] => True
  | v :: vs, x :: xs => R σ x v.cells.toList ∧ Ig R σ vs xs
  | _, _ => False
theorem Ig.len {vs : List Value} (h : Ig R σ vs xs) : vs.length = xs.length := by
  induction vs generalizing xs with
  | nil => cases xs with
    | nil => rfl
    | cons => exact h.elim
  | cons v r ih => cases xs with
    | nil => exact h.elim
    | cons x y => simp [ih h.2]
theorem Ig.get {vs : List Value} (h : Ig R σ vs xs) {i : Nat} {x : α} (hx : xs[i]? = some x) : ∃ v, vs[i]? = some v ∧ R σ x v.cells.toList := by
  induction vs generalizing xs i with
  | nil => cases xs with
    | nil => simp at hx
    | cons => exact h.elim
  | cons v r ih => cases xs with
    | nil => exact h.elim
    | cons y ys =>
      cases i with
      | zero => simp at hx; subst hx; exact ⟨v, rfl, h.1⟩
      | succ i => obtain ⟨u, q1, q2⟩ := ih h.2 (i := i) (by simpa using hx); exact ⟨u, by simpa using q1, q2⟩
theorem Qq {t : TypeId} {by_ : Nat} {z : Value} {n : Nat} {parts : List (Nat × Value)} [ts : TS P t e] [tz : TZ P e sz by_ z] (hS : Stp w0 σ0 w σ) (vs : List Value) (xs : List α) (hn : n = vs.length) (hp : parts = en 0 vs) (hv : ∀ v ∈ vs, v.cells.size = sz) (hsm : (decide (0 < sz) && decide (vs.length * sz ≤ 16777216)) = true) (he : Ig R σ vs xs)
    (h : ∀ v w', Stp w σ w' σ → W5 w0.heap.size e sz R σ w' v xs → (∀ k, v.ownBlock = some k → w.heap.size ≤ k) → K v w') : buildSlice P t n parts w K := by
  subst hn hp
  simp only [Bool.and_eq_true, decide_eq_true_eq] at hsm
  obtain ⟨hsz, hsm⟩ := hsm
  obtain ⟨cells, h1, h2⟩ := My (P := P) (t := t) vs hv hsm w
  unfold buildSlice
  rw [X9 h1]
  have hl := he.len
  refine h _ _ (Stp.own hS.sat _) ⟨cells.toList, ⟨by rw [h2, Az hv, hl], .inr ⟨_, _, cells, by rw [hl], hS.bel.size, heap_alloc_new w _, by omega, ?_, ?_, ?_⟩⟩, ?_, ?_⟩ ?_
  · simp only [maxLen]
    have : vs.length * 1 ≤ vs.length * sz := Nat.mul_le_mul_left _ hsz
    omega
  · rw [← Array.length_toList, h2, Az hv, hl]
  · rw [List.take_of_length_le (by rw [h2, Az hv, hl]; exact Nat.le_refl _)]
  · intro k hk; cases hk; exact hS.sat.none (Nat.le_refl _)
  · intro i x hx
    obtain ⟨v, q1, q2⟩ := he.get hx
    rw [h2, Q56 hv i v q1]; exact q2
  · intro k hk; cases hk; exact Nat.le_refl _
theorem Nc [Rep R] {t : TypeId} {by_ : Nat} {z : Value} {n : Nat} {parts : List (Nat × Value)} [ts : TS P t e] [tz : TZ P e sz by_ z] (hs : X6 w σ) (vs : List Value) (xs : List α) (hn : n = vs.length) (hp : parts = en 0 vs) (hv : ∀ v ∈ vs, v.cells.size = sz) (hsm : (decide (0 < sz) && decide (vs.length * sz ≤ 16777216)) = true) (he : Ig R σ vs xs)
    (h : ∀ v w' σ', Stp w σ w' σ' → Sl sz R σ' v xs → K v w') : buildSlice P t n parts w K := by
  refine Qq (Stp.refl hs) vs xs hn hp hv hsm he fun v w' hk ha _ => ?_
  obtain ⟨σ', g1, g2, _⟩ := ha.keep hk
  exact h v w' σ' g1 g2
theorem Q8q {t : TypeId} {k off : Nat} {ft : TypeId} [tf : TF P t k off ft] [tg : TG P ft false] {cs : Array Value} {v : Value} (hv : cs[off]? = some v) : D1 P t (.agg cs) k w K = K v w := by
  unfold D1
  have hh := tf.h
  unfold Q1e at hh
  split at hh
  · rename_i fs hu
    obtain ⟨f, hf, he⟩ := Option.map_eq_some_iff.1 hh
    simp only [Prod.mk.injEq] at he
    obtain ⟨h1, h2⟩ := he
    subst h2 h1
    exact X9 (by simp [Instr.field, run_underlying hu, hf, asAgg, part, P7 tg, hv])
  · cases hh
theorem Xa {f : Fn} {first caps : List Value} : D0 P f first caps w K = K (.func f first.toArray caps.toArray) w := X9 (by simp [Instr.makeFunc])
theorem B1 {t : TypeId} {parts : List (Nat × Value)} {cells : Array Value} (h : P.built t parts = some cells) (hk : K (.agg cells) w) : Qu P t parts w K := by
  unfold Qu
  rw [X9 (run_build w t parts.toArray cells h)]; exact hk
end
def N7 (o : Option Obj) (m : List (List UInt8 × Value)) : Prop :=
  ∃ es clock, o = some (.map es clock) ∧ es.toList.map (fun e => (e.key, e.val)) = m.map (fun p => (S p.1, p.2)) ∧ (es.toList.map (·.born)).Pairwise (· < ·) ∧ ∀ e ∈ es.toList, e.born < clock
def E6 (m : List (List UInt8 × Value)) (k : List UInt8) : Option Value := match m with
  | [] => none
  | p :: r => if p.1 = k then some p.2 else E6 r k
def Jo (m : List (List UInt8 × Value)) (k : List UInt8) (v : Value) : List (List UInt8 × Value) := match m with
  | [] => [(k, v)]
  | p :: r => if p.1 = k then (k, v) :: r else p :: Jo r k v
theorem Lu (a b : List UInt8) : ((⟨a.toArray⟩ : ByteArray) == ⟨b.toArray⟩) = decide (a = b) := by
  rw [← Q1f]
  show (a.toArray == b.toArray) = _
  simp
theorem Eg (k : List UInt8) : ∀ (es : List MapEntry) (m : List (List UInt8 × Value)) (i : Nat), es.map (fun e => (e.key, e.val)) = m.map (fun p => (S p.1, p.2)) →
    ∃ r, Instr.findNow .string (S k) es i = some r ∧ r.map (·.2) = E6 m k ∧ (∀ j v, r = some (j, v) → i ≤ j ∧ (∃ e, es[j - i]? = some e ∧ e.key = S k) ∧ ∀ u, (es.modify (j - i) fun e => { e with key := S k, val := u }).map (fun e => (e.key, e.val)) = (Jo m k u).map (fun p => (S p.1, p.2))) ∧
      (r = none → ∀ u, Jo m k u = m ++ [(k, u)]) := by
  intro es
  induction es with
  | nil =>
    intro m i h
    cases m with
    | nil => exact ⟨none, rfl, rfl, (by simp), fun _ u => rfl⟩
    | cons => simp at h
  | cons e r ih =>
    intro m i h
    cases m with
    | nil => simp at h
    | cons p q =>
      simp only [List.map_cons, List.cons.injEq, Prod.mk.injEq] at h
      obtain ⟨⟨h1, h2⟩, h3⟩ := h
      simp only [Instr.findNow, h1, Instr.sameNow, Lu]
      by_cases hk : p.1 = k
      · have hd : decide (k = p.1) = true := by simp [hk]
        simp only [hd]
        refine ⟨_, rfl, by simp [E6, hk, h2], ?_, by simp⟩
        intro j v hjv
        cases hjv
        refine ⟨Nat.le_refl _, ⟨e, by simp, by rw [h1, hk]⟩, fun u => ?_⟩
        simp [Jo, hk, h3]
      · have hd : decide (k = p.1) = false := by simp; exact fun e => hk e.symm
        simp only [hd]
        obtain ⟨r', q1, q2, q3, q4⟩ := ih q (i + 1) h3
        refine ⟨r', q1, by simp [E6, hk, q2], ?_, ?_⟩
        · intro j v hjv
          obtain ⟨z1, z2, z3⟩ := q3 j v hjv
          refine ⟨by omega, by rw [show j - i = (j - (i + 1)) + 1 by omega]; simpa using z2, fun u => ?_⟩
          have := z3 u
          rw [show j - i = (j - (i + 1)) + 1 by omega]
          simp [Jo, hk, h1, h2, this]
        · intro hn u
          simp [Jo, hk, q4 hn u]
theorem S4 {t : TypeId} (ht : P.underlying t = some .string) (b : Bool) (k : List UInt8) (w : World) : (Instr.checkKey b 10000 t (S k)).run P w = .ok () w := by
  unfold Instr.checkKey
  simp [run_underlying ht]
theorem Sw {t kt et : TypeId} {sz by_ : Nat} {z : Value} [tm : TM P t kt et] [tz : TZ P et sz by_ z] (hk : P.underlying kt = some .string) {r : Nat} {m : List (List UInt8 × Value)} (hm : N7 (w.heap[r]?) m) (k : List UInt8) :
    lookup P t (.map (some r)) (S k) true w K = K (match E6 m k with | some v => .tuple #[v, .bool true] | none => .tuple #[z, .bool false]) w := by
  obtain ⟨es, clock, h1, h2, h3, h4⟩ := hm
  obtain ⟨r', q1, q2, q3, q4⟩ := Eg k es.toList m 0 h2
  unfold lookup
  refine X9 ?_
  simp only [Instr.lookup, Sem.run_bind, run_underlying tm.h, Result.andThen_ok, Instr.findKey, run_underlying hk, q1, S4 hk]
  have hg : (getObj r).run P w = .ok (.map es clock) w := by simp [getObj, Sem.run, h1]
  simp only [hg, Result.andThen_ok, Sem.run_bind, Sem.run_pure, S4 hk, run_underlying hk, q1]
  cases r' with
  | none => simp at q2; rw [← q2]; simp [Xb tz]
  | some p => simp at q2; rw [← q2]; simp
theorem Q1I {t kt et : TypeId} {sz by_ : Nat} {z : Value} [tm : TM P t kt et] [tz : TZ P et sz by_ z] (hk : P.underlying kt = some .string) {r : Nat} {m : List (List UInt8 × Value)} (hm : N7 (w.heap[r]?) m) (k : List UInt8) :
    lookup P t (.map (some r)) (S k) false w K = K ((E6 m k).getD z) w := by
  obtain ⟨es, clock, h1, h2, h3, h4⟩ := hm
  obtain ⟨r', q1, q2, q3, q4⟩ := Eg k es.toList m 0 h2
  unfold lookup
  refine X9 ?_
  have hg : (getObj r).run P w = .ok (.map es clock) w := by simp [getObj, Sem.run, h1]
  simp only [Instr.lookup, Sem.run_bind, run_underlying tm.h, Result.andThen_ok, Instr.findKey, run_underlying hk, q1, S4 hk, hg, Sem.run_pure]
  cases r' with
  | none => simp at q2; rw [← q2]; simp [Xb tz]
  | some p => simp at q2; rw [← q2]; simp
def N5 (σ : Q5) (w : World) (r : Nat) (m : List (List UInt8 × Value)) : Prop := σ r = none ∧ N7 (w.heap[r]?) m
def P5 (σ : Q5) (r : Nat) (m : List (List UInt8 × Value)) : Prop := N7 (σ r) m
theorem P5.is {σ : Q5} {r : Nat} {m : List (List UInt8 × Value)} (h : P5 σ r m) (hs : X6 w σ) : N7 (w.heap[r]?) m := by
  obtain ⟨es, clock, h1, h2⟩ := h
  exact ⟨es, clock, hs _ _ h1, h2⟩
theorem P5.le {σ σ' : Q5} {r : Nat} {m : List (List UInt8 × Value)} (h : P5 σ r m) (hk : ∀ b o, σ b = some o → σ' b = some o) : P5 σ' r m := by
  obtain ⟨es, clock, h1, h2⟩ := h
  exact ⟨es, clock, hk _ _ h1, h2⟩
theorem P5.up {σ σ' : Q5} {r : Nat} {m : List (List UInt8 × Value)} (h : P5 σ r m) (hk : Stp w σ w' σ') : P5 σ' r m := h.le hk.le
theorem N5.lt {σ : Q5} {r : Nat} {m : List (List UInt8 × Value)} (h : N5 σ w r m) : r < w.heap.size := by
  obtain ⟨_, es, clock, h1, _⟩ := h
  exact (Array.getElem?_eq_some_iff.1 h1).1
theorem N5.up {σ σ' : Q5} {r : Nat} {m : List (List UInt8 × Value)} (h : N5 σ w r m) (hk : Stp w σ w' σ') : N5 σ' w' r m := by
  have hl := h.lt
  exact ⟨(hk.old r hl).trans h.1, (hk.bel.block r hl).symm ▸ h.2⟩
theorem N5.turn {σ : Q5} {row : Option Nat} {r : Nat} {m : List (List UInt8 × Value)} (h : N5 σ w r m) (hg : w.grownBy w' row) (hne : some r ≠ row) : N5 σ w' r m :=
  ⟨h.1, (hg.block r h.lt hne).symm ▸ h.2⟩
theorem Q0w {t : TypeId} {σ : Q5} (hs : X6 w σ) (h : ∀ r w', w.heap.size ≤ r → Stp w σ w' σ → N5 σ w' r [] → K (.map (some r)) w') : Sy P t none w K := by
  unfold Sy
  rw [X9 (v := .map (some w.heap.size)) (w' := w.alloc (.map #[] 0)) (by simp [Instr.makeMap])]
  exact h _ _ (Nat.le_refl _) (Stp.own hs _) ⟨hs.none (Nat.le_refl _), #[], 0, heap_alloc_new w _, rfl, by simp, by simp⟩
theorem N5.keep {σ σ0 : Q5} {r : Nat} {m : List (List UInt8 × Value)} (h : N5 σ w r m) (hS : Stp w0 σ0 w σ) (hb : w0.heap.size ≤ r) : ∃ σ', Stp w0 σ0 w σ' ∧ P5 σ' r m ∧ (∀ k o, σ k = some o → σ' k = some o) ∧ (∀ k, k ≠ r → σ' k = σ k) := by
  obtain ⟨h0, es, clock, h1, h2⟩ := h
  exact ⟨σ.put r (.map es clock), hS.put h0 hb h1, ⟨es, clock, by simp [Q5.put], h2⟩, Q5.put_le hS.sat h0 _, fun k hk => by simp only [Q5.put, if_neg hk]⟩
theorem Bn {t kt et : TypeId} [tm : TM P t kt et] (hk : P.underlying kt = some .string) {σ : Q5} {r : Nat} {m : List (List UInt8 × Value)} (hm : N5 σ w r m) (k : List UInt8) (v : Value)
    (h : ∀ w', Upd w r w' → N5 σ w' r (Jo m k v) → K undef w') : mapUpdate P t (.map (some r)) (S k) v w K := by
  obtain ⟨h0, es, clock, h1, h2, h3, h4⟩ := hm
  obtain ⟨r', q1, q2, q3, q4⟩ := Eg k es.toList m 0 h2
  have hg : (getObj r).run P w = .ok (.map es clock) w := by simp [getObj, Sem.run, h1]
  have hl := (Array.getElem?_eq_some_iff.1 h1).1
  have hset : ∀ o, o = Obj.map es clock ∨ True → (∀ c e f, o ≠ .cells c e f) → (setObj r o).run P w = .ok () { w with heap := w.heap.setIfInBounds r o } := by
    intro o _ _
    simp [setObj, Sem.run, h1]
  have upd : ∀ o, Upd w r { w with heap := w.heap.setIfInBounds r o } := fun o => ⟨rfl, rfl, rfl, by simp, fun k hk => by simp only [Array.getElem?_setIfInBounds]; rw [if_neg (by omega)]⟩
  have at_ : ∀ o, ({ w with heap := w.heap.setIfInBounds r o } : World).heap[r]? = some o := fun o => by simp [Array.getElem?_setIfInBounds, hl]
  unfold mapUpdate
  cases r' with
  | none =>
    rw [Ln (w' := { w with heap := w.heap.setIfInBounds r (.map (es.push { key := S k, val := v, born := clock }) (clock + 1)) }) (by
      simp only [Instr.mapUpdate, Sem.run_bind, run_underlying tm.h, Result.andThen_ok, Instr.findKey, run_underlying hk, q1, S4 hk, hg, Sem.run_pure]
      exact hset _ (.inr trivial) (by intros; simp))]
    refine h _ (upd _) ⟨h0, _, _, at_ _, ?_, ?_, ?_⟩
    · rw [q4 rfl]; simp [h2]
    · simp only [Array.toList_push, List.map_append, List.map_cons, List.map_nil]
      rw [List.pairwise_append]
      refine ⟨h3, by simp, ?_⟩
      intro a ha b hb
      simp at hb; subst hb
      obtain ⟨e, he, rfl⟩ := List.mem_map.1 ha
      exact h4 e he
    · intro e he
      simp at he
      rcases he with he | rfl
      · have := h4 e (by simpa using he); omega
      · simp
  | some p =>
    obtain ⟨j, u⟩ := p
    obtain ⟨z1, z2, z3⟩ := q3 j u rfl
    obtain ⟨e, e1, e2⟩ := z2
    simp only [Nat.sub_zero] at e1 z3
    have hborn : ((es.modify j fun e => { e with key := S k, val := v }).toList.map (·.born)) = es.toList.map (·.born) := by
      apply List.ext_getElem?
      intro i
      simp only [Array.toList_modify, List.getElem?_map, List.getElem?_modify]
      by_cases hij : j = i <;> cases es.toList[i]? <;> simp [hij]
    have hstay : (Instr.keyThatStays (S k) (S k)).run P w = .ok (S k) w := by
      simp [Instr.keyThatStays, Instr.sameBits, Lu]
    rw [Ln (w' := { w with heap := w.heap.setIfInBounds r (.map (es.modify j fun e => { e with key := S k, val := v }) clock) }) (by
      simp only [Instr.mapUpdate, Sem.run_bind, run_underlying tm.h, Result.andThen_ok, Instr.findKey, run_underlying hk, q1, S4 hk, hg, Sem.run_pure]
      rw [show ((es[j]?).map (·.key)).getD (S k) = S k by rw [← Array.getElem?_toList, e1]; simp [e2]]
      simp only [hstay, Result.andThen_ok]
      exact hset _ (.inr trivial) (by intros; simp))]
    refine h _ (upd _) ⟨h0, _, _, at_ _, ?_, ?_, ?_⟩
    · simp only [Array.toList_modify]; exact z3 v
    · rw [hborn]; exact h3
    · intro x hx
      have : x.born ∈ es.toList.map (·.born) := by rw [← hborn]; exact List.mem_map.2 ⟨x, hx, rfl⟩
      obtain ⟨y, hy, e⟩ := List.mem_map.1 this
      rw [← e]; exact h4 y hy
end Go.Emb

namespace Go.Emb
open Go.RowKit
variable {P : Program} {w w0 w1 w' w'' : World} {K : Value → World → Prop}
theorem Y2 {c b : Bool} {run : World → (Value → World → Prop) → Prop} (h1 : c = b → run w K) (h2 : c = (!b) → K undef w) : Q0 (.bool c) b w run K := by
  cases c <;> cases b
  · rw [Uj]; exact h1 rfl
  · rw [Zz]; exact h2 rfl
  · rw [Kz]; exact h2 rfl
  · rw [F2]; exact h1 rfl
theorem Q4 {c : Bool} {t e : Prop} (h1 : c = true → t) (h2 : c = false → e) : X1 (.bool c) t e := by
  cases c
  · rw [Ek]; exact h2 rfl
  · rw [Sr]; exact h1 rfl
theorem Q6 {α : Type} {R : Q5 → α → List Value → Prop} {sz : Nat} {σ : Q5} {v : Value} {xs : List α} {t0 e t : TypeId} {cs : List Bool} [ts : TS P t0 e] (h : Sl sz R σ v xs) (hk : K (I xs.length) w) : X4 P .len [t0] t cs [v] w K := by
  rw [Q9j h]; exact hk
structure Kpt (D : Nat → Prop) (w w' : World) : Prop where
  os : w'.os = w.os
  tape : w'.tape = w.tape
  output : w'.output = w.output
  size : w.heap.size ≤ w'.heap.size
  block : ∀ k, k < w.heap.size → ¬ D k → w'.heap[k]? = w.heap[k]?
theorem Kpt.refl {D : Nat → Prop} : Kpt D w w := ⟨rfl, rfl, rfl, Nat.le_refl _, fun _ _ _ => rfl⟩
theorem Kpt.trans {D : Nat → Prop} (h : Kpt D w w') (k : Kpt D w' w'') : Kpt D w w'' :=
  ⟨k.os.trans h.os, k.tape.trans h.tape, k.output.trans h.output, Nat.le_trans h.size k.size, fun i hi hd => (k.block i (Nat.lt_of_lt_of_le hi h.size) hd).trans (h.block i hi hd)⟩
theorem Kpt.of_below {D : Nat → Prop} (h : Below w.heap.size w w') : Kpt D w w' := ⟨h.os, h.tape, h.output, h.size, fun k hk _ => h.block k hk⟩
theorem Kpt.of_grown {D : Nat → Prop} {row : Option Nat} (h : w.grownBy w' row) (hr : ∀ k, row = some k → D k) : Kpt D w w' := ⟨h.os, h.tape, h.output, h.size, fun k hk hd => h.block k hk (fun e => hd (hr k e.symm))⟩
theorem Kpt.of_upd {D : Nat → Prop} {b : Nat} (h : Upd w b w') (hb : D b) : Kpt D w w' := ⟨h.os, h.tape, h.output, by rw [h.size]; exact Nat.le_refl _, fun k hk hd => h.block k (fun e => hd (e ▸ hb))⟩
theorem Kpt.mono {D D' : Nat → Prop} (h : Kpt D w w') (hd : ∀ k, k < w.heap.size → D k → D' k) : Kpt D' w w' := ⟨h.os, h.tape, h.output, h.size, fun k hk hn => h.block k hk (fun e => hn (hd k hk e))⟩
theorem Kpt.below {D : Nat → Prop} (h : Kpt D w w') (hd : ∀ k, ¬ D k) : Below w.heap.size w w' := ⟨h.os, h.tape, h.output, h.size, fun k hk => h.block k hk (hd k)⟩
theorem Stp.kp {σ0 σ : Q5} {D : Nat → Prop} (hS : Stp w0 σ0 w σ) (hk : Kpt D w w') (hr : ∀ k, D k → w0.heap.size ≤ k ∧ σ k = none) : Stp w0 σ0 w' σ := by
  refine ⟨⟨hk.os.trans hS.bel.os, hk.tape.trans hS.bel.tape, hk.output.trans hS.bel.output, Nat.le_trans hS.bel.size hk.size, fun k hlt => ?_⟩, ?_, hS.le, hS.old⟩
  · refine (hk.block k (Nat.lt_of_lt_of_le hlt hS.bel.size) ?_).trans (hS.bel.block k hlt)
    intro e; have := (hr k e).1; omega
  · intro k o ho
    refine (hk.block k (hS.sat.lt ho) ?_).trans (hS.sat k o ho)
    intro e; rw [(hr k e).2] at ho; cases ho
theorem V4.kp {σ : Q5} {D : Nat → Prop} {k : Nat} {cs : List Value} (h : V4 σ w k cs) (hk : Kpt D w w') (hne : ¬ D k) : V4 σ w' k cs := by
  have hl := h.lt
  obtain ⟨h1, e, h2⟩ := h
  exact ⟨h1, e, (hk.block k hl hne).trans h2⟩
theorem N5.kp {σ : Q5} {D : Nat → Prop} {r : Nat} {m : List (List UInt8 × Value)} (h : N5 σ w r m) (hk : Kpt D w w') (hne : ¬ D r) : N5 σ w' r m :=
  ⟨h.1, (hk.block r h.lt hne).symm ▸ h.2⟩
theorem W5.kp {α : Type} {R : Q5 → α → List Value → Prop} {B sz : Nat} {e : TypeId} {σ : Q5} {v : Value} {xs : List α} {D : Nat → Prop} (h : W5 B e sz R σ w v xs) (hk : Kpt D w w') (hne : ∀ k, v.ownBlock = some k → ¬ D k) : W5 B e sz R σ w' v xs := by
  obtain ⟨cells, h1, h2, h3⟩ := h
  refine ⟨cells, ⟨h1.1, ?_⟩, h2, h3⟩
  rcases h1.2 with hn | ⟨g, cap, cur, rfl, hb, hg, rest⟩
  · exact .inl hn
  · refine .inr ⟨g, cap, cur, rfl, hb, ?_, rest⟩
    rw [hk.block g (Array.getElem?_eq_some_iff.1 hg).1 (hne g rfl)]; exact hg
theorem bt {w w1 w2 : World} (h1 : Below w.heap.size w w1) (h2 : Below w1.heap.size w1 w2) : Below w.heap.size w w2 := h1.trans (h2.mono h1.size)
abbrev W3 : Nat := 140737488351232
def U5 (_ : Q5) (s : List UInt8) (cs : List Value) : Prop := cs = [S s] ∧ s.length ≤ W3
instance : Rep U5 := ⟨fun _ h => h, fun h u hu => by rw [h.1] at hu; simp at hu; subst hu; rfl⟩
def Jn (_ : Q5) (n : Int) (cs : List Value) : Prop := cs = [I n] ∧ -9223372036854775808 ≤ n ∧ n ≤ 9223372036854775807
instance : Rep Jn := ⟨fun _ h => h, fun h u hu => by rw [h.1] at hu; simp at hu; subst hu; rfl⟩
def Q53 (_ : Q5) (b : Bool) (cs : List Value) : Prop := cs = [.bool b]
instance : Rep Q53 := ⟨fun _ h => h, fun h u hu => by rw [h] at hu; simp at hu; subst hu; rfl⟩
def UpI (N : Nat) (Inv : Nat → World → Prop) (x : Value) (w : World) : Prop := ∃ n : Nat, x = I n ∧ n ≤ N ∧ Inv n w
def Ah (N : Nat) (x : Value) : Nat := match x with | .int _ n => N - n.toNat | _ => 0
theorem V2 {A : (Value → World → Prop) → Value → (Nat → Value) → World → Prop} (N : Nat) (Inv : Nat → World → Prop) (h0 : Inv 0 w)
    (hstep : ∀ n w d, n ≤ N → Inv n w → A (fun y w' => UpI N Inv y w' ∧ Ah N y < Ah N (I n)) (I n) d w) : lp (α := Value) (.int .i64 0) w A := by
  refine Jm (UpI N Inv) (fun x _ => Ah N x) ⟨0, rfl, Nat.zero_le _, h0⟩ ?_
  rintro _ d w' ⟨n, rfl, hn, hi⟩
  exact hstep n w' d hn hi
theorem Y5 {N n : Nat} {Inv : Nat → World → Prop} (hN : N ≤ 9223372036854775807) (hn : n < N) (hi : Inv (n + 1) w) : UpI N Inv (.int .i64 (IntKind.i64.wrap (n + 1))) w ∧ Ah N (.int .i64 (IntKind.i64.wrap (n + 1))) < Ah N (I n) := by
  rw [B6 (by omega) (by omega)]
  exact ⟨⟨n + 1, rfl, hn, hi⟩, by simp only [Ah]; omega⟩
def Hi {α : Type} (N : Nat) (Inv : Nat → α → World → Prop) (x : α × Value) (w : World) : Prop := ∃ n : Nat, x.2 = I n ∧ n ≤ N ∧ Inv n x.1 w
def Vu {α : Type} (N : Nat) (x : α × Value) : Nat := Ah N x.2
theorem N1 {α : Type} {A : (α × Value → World → Prop) → α × Value → (Nat → Value) → World → Prop} {a : α} (N : Nat) (Inv : Nat → α → World → Prop) (h0 : Inv 0 a w)
    (hstep : ∀ n a w d, n ≤ N → Inv n a w → A (fun y w' => Hi N Inv y w' ∧ Vu N y < Vu N (a, I n)) (a, I n) d w) : lp (α := α × Value) (a, .int .i64 0) w A := by
  refine Jm (Hi N Inv) (fun x _ => Vu N x) ⟨0, rfl, Nat.zero_le _, h0⟩ ?_
  rintro ⟨a, x⟩ d w' ⟨n, hx, hn, hi⟩
  simp only at hx hi
  subst hx
  exact hstep n a w' d hn hi
theorem Z6 {α : Type} {a a' : α} {N n : Nat} {Inv : Nat → α → World → Prop} (hN : N ≤ 9223372036854775807) (hn : n < N) (hi : Inv (n + 1) a' w) : Hi N Inv (a', .int .i64 (IntKind.i64.wrap (n + 1))) w ∧ Vu N (a', .int .i64 (IntKind.i64.wrap (n + 1))) < Vu N (a, I n) := by
  rw [B6 (by omega) (by omega)]
  exact ⟨⟨n + 1, rfl, hn, hi⟩, by simp only [Vu, Ah]; omega⟩
theorem L2 {α : Type} {R : Q5 → α → List Value → Prop} {sz : Nat} {σ : Q5} {v : Value} {xs : List α} {t e : TypeId} {by_ : Nat} {z : Value} [TS P t e] [TZ P e sz by_ z] (h : Sl sz R σ v xs) {n : Nat} (hn : n < xs.length)
    (hk : ∀ a cs, U0 σ a cs → cs.length = sz → R σ xs[n] cs → K (.pointer (some a)) w) : indexAddr P t v (I n) w K :=
  Q9D h (by omega) (by simpa using hn) (fun a cs h1 h2 h3 => hk a cs h1 h2 (by simpa using h3))
theorem Y0 {t : TypeId} {sz by_ : Nat} {z : Value} {A : Value → Value → World → Prop} [tz : TZ P t sz by_ z] {σ : Q5} {cs : List Value} (hs : X6 w σ) (hz : z.cells.size = sz) (hl : cs.length = sz) (h1 : ∀ u ∈ cs, u.oneCell' = true)
    (h : ∀ a w' σ', Stp w σ w' σ' → U0 σ' a cs → A (.pointer (some a)) undef w') : M0 P t w (fun p w => V5 P t p (.agg cs.toArray) w (fun u w => A p u w)) := by
  refine Su hs fun b w1 hb hk hm => ?_
  refine sta hm (by simpa using hz) hl (by rw [List.all_toArray]; exact List.all_eq_true.2 h1) fun w2 hu hm2 => ?_
  have hS : Stp w σ w2 σ := hu.stp hk hb hm.1
  obtain ⟨σ', g1, g2, _⟩ := hm2.keep hS hb
  exact h _ _ _ g1 g2
theorem U1 {t : TypeId} {by_ : Nat} {z : Value} {A : Value → Value → World → Prop} [tz : TZ P t 1 by_ z] {σ : Q5} {v : Value} (hs : X6 w σ) (hz : z.cells.size = 1) (hc : v.cells = #[v]) (h1 : v.oneCell' = true)
    (h : ∀ a w' σ', Stp w σ w' σ' → U0 σ' a [v] → A (.pointer (some a)) undef w') : M0 P t w (fun p w => V5 P t p v w (fun u w => A p u w)) := by
  refine Su hs fun b w1 hb hk hm => ?_
  have hl : z.cells.toList.length = 1 := by simpa using hz
  refine st0 hm (by omega) hc h1 fun w2 hu hm2 => ?_
  have hS : Stp w σ w2 σ := hu.stp hk hb hm.1
  have e : z.cells.toList.set 0 v = [v] := by
    match hzl : z.cells.toList, hl with
    | [x], _ => rfl
  rw [e] at hm2
  obtain ⟨σ', g1, g2, _⟩ := hm2.keep hS hb
  exact h _ _ _ g1 g2
theorem M8 {α : Type} {xs : List α} {p : α → Bool} {n : Nat} (h : n < xs.length) : (xs.take (n + 1)).any p = ((xs.take n).any p || p xs[n]) := by
  rw [List.take_add_one, List.getElem?_eq_getElem h, List.any_append]; simp
theorem R6 {α : Type} {xs : List α} {p : α → Bool} {n : Nat} (h : n < xs.length) (hp : p xs[n] = true) : xs.any p = true := List.any_eq_true.2 ⟨_, List.getElem_mem h, hp⟩
theorem O9 {α : Type} {xs : List α} {p : α → Bool} {n : Nat} (h : ¬ n < xs.length) : (xs.take n).any p = xs.any p := by rw [List.take_of_length_le (by omega)]
end Go.Emb

namespace Go.Hm
open Go.Kd
structure Fld where
  name : X0
  kind : X0
  tr : Bool
deriving DecidableEq
structure Ins where
  op : X0
  n : Int
  s : X0
deriving DecidableEq
structure Cat where
  frm : Int
  to : Int
  at_ : Int
  cls : X0
deriving DecidableEq
structure Met where
  name : X0
  params : List X0
  result : X0
  abs : Bool
  locals : Int
  code : List Ins
  catches : List Cat
deriving DecidableEq
structure Cla where
  name : X0
  super : X0
  like : List X0
  iface : Bool
  abs : Bool
  fin : Bool
  fields : List Fld
  methods : List Hm.Met
deriving DecidableEq
def Ins.zero : Ins := ⟨[], 0, []⟩
def Fld.zero : Fld := ⟨[], [], false⟩
def Met.zero : Hm.Met := ⟨[], [], [], false, 0, [], []⟩
def Cla.zero : Cla := ⟨[], [], [], false, false, false, [], []⟩
end Go.Hm

namespace Go.Emb
open Go.RowKit Go.Hm
abbrev Ke (n : Int) : Prop := -9223372036854775808 ≤ n ∧ n ≤ 9223372036854775807
def D7 (_ : Q5) (f : Fld) (cs : List Value) : Prop := cs = [S f.name, S f.kind, .bool f.tr] ∧ f.name.length ≤ W3 ∧ f.kind.length ≤ W3
def F5 (_ : Q5) (i : Ins) (cs : List Value) : Prop := cs = [S i.op, I i.n, S i.s] ∧ i.op.length ≤ W3 ∧ Ke i.n ∧ i.s.length ≤ W3
def Qr (_ : Q5) (c : Cat) (cs : List Value) : Prop := cs = [I c.frm, I c.to, I c.at_, S c.cls] ∧ Ke c.frm ∧ Ke c.to ∧ Ke c.at_ ∧ c.cls.length ≤ W3
def M9 (σ : Q5) (m : Hm.Met) (cs : List Value) : Prop := ∃ pv cv hv, cs = [S m.name, pv, S m.result, .bool m.abs, I m.locals, cv, hv] ∧ Sl 1 U5 σ pv m.params ∧ Sl 3 F5 σ cv m.code ∧ Sl 4 Qr σ hv m.catches ∧ m.name.length ≤ W3 ∧ m.result.length ≤ W3 ∧ Ke m.locals
def U7 (σ : Q5) (c : Cla) (cs : List Value) : Prop := ∃ lv fv mv, cs = [S c.name, S c.super, lv, .bool c.iface, .bool c.abs, .bool c.fin, fv, mv] ∧ Sl 1 U5 σ lv c.like ∧ Sl 3 D7 σ fv c.fields ∧ Sl 7 M9 σ mv c.methods ∧ c.name.length ≤ W3 ∧ c.super.length ≤ W3
theorem Qo {α : Type} {sz : Nat} {R : Q5 → α → List Value → Prop} {σ : Q5} {v : Value} {xs : List α} (h : Sl sz R σ v xs) : v.oneCell' = true := by
  obtain ⟨a, cap, rfl, _⟩ := h; rfl
instance : Rep D7 := ⟨fun _ h => h, fun h u hu => by rw [h.1] at hu; simp at hu; rcases hu with rfl | rfl | rfl <;> rfl⟩
instance : Rep F5 := ⟨fun _ h => h, fun h u hu => by rw [h.1] at hu; simp at hu; rcases hu with rfl | rfl | rfl <;> rfl⟩
instance : Rep Qr := ⟨fun _ h => h, fun h u hu => by rw [h.1] at hu; simp at hu; rcases hu with rfl | rfl | rfl | rfl <;> rfl⟩
instance : Rep M9 := ⟨fun hk ⟨pv, cv, hv, h1, h2, h3, h4, h5⟩ => ⟨pv, cv, hv, h1, h2.le hk, h3.le hk, h4.le hk, h5⟩, fun ⟨pv, cv, hv, h1, h2, h3, h4, h5⟩ u hu => by
  rw [h1] at hu; simp at hu; rcases hu with rfl | rfl | rfl | rfl | rfl | rfl | rfl
  · rfl
  · exact Qo h2
  · rfl
  · rfl
  · rfl
  · exact Qo h3
  · exact Qo h4⟩
instance : Rep U7 := ⟨fun hk ⟨pv, cv, hv, h1, h2, h3, h4, h5⟩ => ⟨pv, cv, hv, h1, h2.le hk, h3.le hk, h4.le hk, h5⟩, fun ⟨pv, cv, hv, h1, h2, h3, h4, h5⟩ u hu => by
  rw [h1] at hu; simp at hu; rcases hu with rfl | rfl | rfl | rfl | rfl | rfl | rfl | rfl
  · rfl
  · rfl
  · exact Qo h2
  · rfl
  · rfl
  · rfl
  · exact Qo h3
  · exact Qo h4⟩
end Go.Emb

namespace Go.Proofs.YtdnfaboigajkhaaGreatDoor
open Go.Emb
instance z_x : TZ P T.x 1 0 (.tuple #[]) := ⟨by kernel_rfl⟩
instance g_x : TG P T.x false := ⟨by kernel_rfl⟩
instance z_int64 : TZ P T.af 1 8 (.int .i64 0) := ⟨by kernel_rfl⟩
instance g_int64 : TG P T.af false := ⟨by kernel_rfl⟩
instance z_int : TZ P T.d 1 8 (.int .i64 0) := ⟨by kernel_rfl⟩
instance g_int : TG P T.d false := ⟨by kernel_rfl⟩
instance z_bool : TZ P T.l 1 1 (.bool false) := ⟨by kernel_rfl⟩
instance g_bool : TG P T.l false := ⟨by kernel_rfl⟩
instance z_uint8 : TZ P T.s 1 1 (.int .u8 0) := ⟨by kernel_rfl⟩
instance g_uint8 : TG P T.s false := ⟨by kernel_rfl⟩
instance z_string : TZ P T.b 1 16 (.string ⟨#[]⟩) := ⟨by kernel_rfl⟩
instance g_string : TG P T.b false := ⟨by kernel_rfl⟩
instance z_uintptr : TZ P T.ak 1 8 (.int .u64 0) := ⟨by kernel_rfl⟩
instance g_uintptr : TG P T.ak false := ⟨by kernel_rfl⟩
instance z_int32 : TZ P T.ac 1 4 (.int .i32 0) := ⟨by kernel_rfl⟩
instance g_int32 : TG P T.ac false := ⟨by kernel_rfl⟩
instance z_S_api_Class : TZ P T.g 1 24 (.slice none 0 0) := ⟨by kernel_rfl⟩
instance g_S_api_Class : TG P T.g false := ⟨by kernel_rfl⟩
instance s_S_api_Class : TS P T.g 57 := ⟨by kernel_rfl⟩
instance z_P_hier_Table : TZ P T.p 1 8 (.pointer none) := ⟨by kernel_rfl⟩
instance g_P_hier_Table : TG P T.p false := ⟨by kernel_rfl⟩
instance z_api_Errno : TZ P T.t 1 8 (.int .i64 0) := ⟨by kernel_rfl⟩
instance g_api_Errno : TG P T.t false := ⟨by kernel_rfl⟩
instance z_func_string_bool : TZ P T.u 1 8 .nilFunc := ⟨by kernel_rfl⟩
instance g_func_string_bool : TG P T.u false := ⟨by kernel_rfl⟩
instance z_A3_string : TZ P T.ah 3 48 (.agg #[.string ⟨#[]⟩, .string ⟨#[]⟩, .string ⟨#[]⟩]) := ⟨by kernel_rfl⟩
instance g_A3_string : TG P T.ah true := ⟨by kernel_rfl⟩
instance a_A3_string : TA P T.ah 3 9 := ⟨by kernel_rfl⟩
instance z_S_api_Field : TZ P T.h 1 24 (.slice none 0 0) := ⟨by kernel_rfl⟩
instance g_S_api_Field : TG P T.h false := ⟨by kernel_rfl⟩
instance s_S_api_Field : TS P T.h 45 := ⟨by kernel_rfl⟩
instance z_api_Field : TZ P T.i 3 40 (.agg #[.string ⟨#[]⟩, .string ⟨#[]⟩, .bool false]) := ⟨by kernel_rfl⟩
instance g_api_Field : TG P T.i true := ⟨by kernel_rfl⟩
instance f_api_Field_0 : TF P T.i 0 0 9 := ⟨by kernel_rfl⟩
instance f_api_Field_1 : TF P T.i 1 1 9 := ⟨by kernel_rfl⟩
instance f_api_Field_2 : TF P T.i 2 2 4 := ⟨by kernel_rfl⟩
instance z_S_string : TZ P T.f 1 24 (.slice none 0 0) := ⟨by kernel_rfl⟩
instance g_S_string : TG P T.f false := ⟨by kernel_rfl⟩
instance s_S_string : TS P T.f 9 := ⟨by kernel_rfl⟩
instance z_S_api_Instr : TZ P T.k 1 24 (.slice none 0 0) := ⟨by kernel_rfl⟩
instance g_S_api_Instr : TG P T.k false := ⟨by kernel_rfl⟩
instance s_S_api_Instr : TS P T.k 141 := ⟨by kernel_rfl⟩
instance z_S_api_Catch : TZ P T.j 1 24 (.slice none 0 0) := ⟨by kernel_rfl⟩
instance g_S_api_Catch : TG P T.j false := ⟨by kernel_rfl⟩
instance s_S_api_Catch : TS P T.j 123 := ⟨by kernel_rfl⟩
instance z_api_Method : TZ P T.c 7 120 (.agg #[.string ⟨#[]⟩, .slice none 0 0, .string ⟨#[]⟩, .bool false, .int .i64 0, .slice none 0 0, .slice none 0 0]) := ⟨by kernel_rfl⟩
instance g_api_Method : TG P T.c true := ⟨by kernel_rfl⟩
instance f_api_Method_0 : TF P T.c 0 0 9 := ⟨by kernel_rfl⟩
instance f_api_Method_1 : TF P T.c 1 1 46 := ⟨by kernel_rfl⟩
instance f_api_Method_2 : TF P T.c 2 2 9 := ⟨by kernel_rfl⟩
instance f_api_Method_3 : TF P T.c 3 3 4 := ⟨by kernel_rfl⟩
instance f_api_Method_4 : TF P T.c 4 4 3 := ⟨by kernel_rfl⟩
instance f_api_Method_5 : TF P T.c 5 5 47 := ⟨by kernel_rfl⟩
instance f_api_Method_6 : TF P T.c 6 6 48 := ⟨by kernel_rfl⟩
instance z_S_api_Method : TZ P T.e 1 24 (.slice none 0 0) := ⟨by kernel_rfl⟩
instance g_S_api_Method : TG P T.e false := ⟨by kernel_rfl⟩
instance s_S_api_Method : TS P T.e 50 := ⟨by kernel_rfl⟩
instance z_api_Class : TZ P T.a 8 112 (.agg #[.string ⟨#[]⟩, .string ⟨#[]⟩, .slice none 0 0, .bool false, .bool false, .bool false, .slice none 0 0, .slice none 0 0]) := ⟨by kernel_rfl⟩
instance g_api_Class : TG P T.a true := ⟨by kernel_rfl⟩
instance f_api_Class_0 : TF P T.a 0 0 9 := ⟨by kernel_rfl⟩
instance f_api_Class_1 : TF P T.a 1 1 9 := ⟨by kernel_rfl⟩
instance f_api_Class_2 : TF P T.a 2 2 46 := ⟨by kernel_rfl⟩
instance f_api_Class_3 : TF P T.a 3 3 4 := ⟨by kernel_rfl⟩
instance f_api_Class_4 : TF P T.a 4 4 4 := ⟨by kernel_rfl⟩
instance f_api_Class_5 : TF P T.a 5 5 4 := ⟨by kernel_rfl⟩
instance f_api_Class_6 : TF P T.a 6 6 39 := ⟨by kernel_rfl⟩
instance f_api_Class_7 : TF P T.a 7 7 55 := ⟨by kernel_rfl⟩
instance z_func_string_string : TZ P T.a2 1 8 .nilFunc := ⟨by kernel_rfl⟩
instance g_func_string_string : TG P T.a2 false := ⟨by kernel_rfl⟩
instance z_func_api_Method_string : TZ P T.z 1 8 .nilFunc := ⟨by kernel_rfl⟩
instance g_func_api_Method_string : TG P T.z false := ⟨by kernel_rfl⟩
instance z_M_string_int : TZ P T.r 1 8 (.map none) := ⟨by kernel_rfl⟩
instance g_M_string_int : TG P T.r false := ⟨by kernel_rfl⟩
instance m_M_string_int : TM P T.r 9 3 := ⟨by kernel_rfl⟩
instance z_hier_Table : TZ P T.q 2 32 (.agg #[.slice none 0 0, .map none]) := ⟨by kernel_rfl⟩
instance g_hier_Table : TG P T.q true := ⟨by kernel_rfl⟩
instance f_hier_Table_0 : TF P T.q 0 0 22 := ⟨by kernel_rfl⟩
instance f_hier_Table_1 : TF P T.q 1 1 67 := ⟨by kernel_rfl⟩
instance z_S_int : TZ P T.v 1 24 (.slice none 0 0) := ⟨by kernel_rfl⟩
instance g_S_int : TG P T.v false := ⟨by kernel_rfl⟩
instance s_S_int : TS P T.v 3 := ⟨by kernel_rfl⟩
instance z_S_S_bool : TZ P T.y 1 24 (.slice none 0 0) := ⟨by kernel_rfl⟩
instance g_S_S_bool : TG P T.y false := ⟨by kernel_rfl⟩
instance s_S_S_bool : TS P T.y 80 := ⟨by kernel_rfl⟩
instance z_S_bool : TZ P T.w 1 24 (.slice none 0 0) := ⟨by kernel_rfl⟩
instance g_S_bool : TG P T.w false := ⟨by kernel_rfl⟩
instance s_S_bool : TS P T.w 4 := ⟨by kernel_rfl⟩
instance z_func_api_Field_bool : TZ P T.a6 1 8 .nilFunc := ⟨by kernel_rfl⟩
instance g_func_api_Field_bool : TG P T.a6 false := ⟨by kernel_rfl⟩
instance z_A6_string : TZ P T.ad 6 96 (.agg #[.string ⟨#[]⟩, .string ⟨#[]⟩, .string ⟨#[]⟩, .string ⟨#[]⟩, .string ⟨#[]⟩, .string ⟨#[]⟩]) := ⟨by kernel_rfl⟩
instance g_A6_string : TG P T.ad true := ⟨by kernel_rfl⟩
instance a_A6_string : TA P T.ad 6 9 := ⟨by kernel_rfl⟩
instance z_func_int : TZ P T.ae 1 8 .nilFunc := ⟨by kernel_rfl⟩
instance g_func_int : TG P T.ae false := ⟨by kernel_rfl⟩
instance z_M_string_string : TZ P T.o 1 8 (.map none) := ⟨by kernel_rfl⟩
instance g_M_string_string : TG P T.o false := ⟨by kernel_rfl⟩
instance m_M_string_string : TM P T.o 9 9 := ⟨by kernel_rfl⟩
instance z_func_api_Method_bool : TZ P T.a4 1 8 .nilFunc := ⟨by kernel_rfl⟩
instance g_func_api_Method_bool : TG P T.a4 false := ⟨by kernel_rfl⟩
instance g_strings_asciiSet : TG P T.a1 true := ⟨by kernel_rfl⟩
instance a_strings_asciiSet : TA P T.a1 256 4 := ⟨by kernel_rfl⟩
instance z_api_Catch : TZ P T.m 4 40 (.agg #[.int .i64 0, .int .i64 0, .int .i64 0, .string ⟨#[]⟩]) := ⟨by kernel_rfl⟩
instance g_api_Catch : TG P T.m true := ⟨by kernel_rfl⟩
instance f_api_Catch_0 : TF P T.m 0 0 3 := ⟨by kernel_rfl⟩
instance f_api_Catch_1 : TF P T.m 1 1 3 := ⟨by kernel_rfl⟩
instance f_api_Catch_2 : TF P T.m 2 2 3 := ⟨by kernel_rfl⟩
instance f_api_Catch_3 : TF P T.m 3 3 9 := ⟨by kernel_rfl⟩
instance z_S_uint8 : TZ P T.ai 1 24 (.slice none 0 0) := ⟨by kernel_rfl⟩
instance g_S_uint8 : TG P T.ai false := ⟨by kernel_rfl⟩
instance s_S_uint8 : TS P T.ai 5 := ⟨by kernel_rfl⟩
instance z_strings_Builder : TZ P T.aa 2 32 (.agg #[.pointer none, .slice none 0 0]) := ⟨by kernel_rfl⟩
instance g_strings_Builder : TG P T.aa true := ⟨by kernel_rfl⟩
instance f_strings_Builder_0 : TF P T.aa 0 0 124 := ⟨by kernel_rfl⟩
instance f_strings_Builder_1 : TF P T.aa 1 1 125 := ⟨by kernel_rfl⟩
instance z_func_api_Field_string : TZ P T.a0 1 8 .nilFunc := ⟨by kernel_rfl⟩
instance g_func_api_Field_string : TG P T.a0 false := ⟨by kernel_rfl⟩
instance z_api_Instr : TZ P T.n 3 40 (.agg #[.string ⟨#[]⟩, .int .i64 0, .string ⟨#[]⟩]) := ⟨by kernel_rfl⟩
instance g_api_Instr : TG P T.n true := ⟨by kernel_rfl⟩
instance f_api_Instr_0 : TF P T.n 0 0 9 := ⟨by kernel_rfl⟩
instance f_api_Instr_1 : TF P T.n 1 1 2 := ⟨by kernel_rfl⟩
instance f_api_Instr_2 : TF P T.n 2 2 9 := ⟨by kernel_rfl⟩
instance z_P_uint8 : TZ P T.al 1 8 (.pointer none) := ⟨by kernel_rfl⟩
instance g_P_uint8 : TG P T.al false := ⟨by kernel_rfl⟩
instance z_func_api_Catch_bool : TZ P T.a7 1 8 .nilFunc := ⟨by kernel_rfl⟩
instance g_func_api_Catch_bool : TG P T.a7 false := ⟨by kernel_rfl⟩
instance z_func_api_Instr_bool : TZ P T.a8 1 8 .nilFunc := ⟨by kernel_rfl⟩
instance g_func_api_Instr_bool : TG P T.a8 false := ⟨by kernel_rfl⟩
instance z_code_op : TZ P T.a3 3 24 (.agg #[.string ⟨#[]⟩, .bool false, .bool false]) := ⟨by kernel_rfl⟩
instance g_code_op : TG P T.a3 true := ⟨by kernel_rfl⟩
instance f_code_op_0 : TF P T.a3 0 0 9 := ⟨by kernel_rfl⟩
instance f_code_op_1 : TF P T.a3 1 1 4 := ⟨by kernel_rfl⟩
instance f_code_op_2 : TF P T.a3 2 2 4 := ⟨by kernel_rfl⟩
instance g_A42_code_op : TG P T.a5 true := ⟨by kernel_rfl⟩
instance a_A42_code_op : TA P T.a5 42 170 := ⟨by kernel_rfl⟩
instance g_A256_uint8 : TG P T.aj true := ⟨by kernel_rfl⟩
instance a_A256_uint8 : TA P T.aj 256 5 := ⟨by kernel_rfl⟩
instance z_utf8_acceptRange : TZ P T.a9 2 2 (.agg #[.int .u8 0, .int .u8 0]) := ⟨by kernel_rfl⟩
instance g_utf8_acceptRange : TG P T.a9 true := ⟨by kernel_rfl⟩
instance f_utf8_acceptRange_0 : TF P T.a9 0 0 5 := ⟨by kernel_rfl⟩
instance f_utf8_acceptRange_1 : TF P T.a9 1 1 5 := ⟨by kernel_rfl⟩
instance z_A16_utf8_acceptRange : TZ P T.ab 32 32 (.agg #[.int .u8 0, .int .u8 0, .int .u8 0, .int .u8 0, .int .u8 0, .int .u8 0, .int .u8 0, .int .u8 0, .int .u8 0, .int .u8 0, .int .u8 0, .int .u8 0, .int .u8 0, .int .u8 0, .int .u8 0, .int .u8 0, .int .u8 0, .int .u8 0, .int .u8 0, .int .u8 0, .int .u8 0, .int .u8 0, .int .u8 0, .int .u8 0, .int .u8 0, .int .u8 0, .int .u8 0, .int .u8 0, .int .u8 0, .int .u8 0, .int .u8 0, .int .u8 0]) := ⟨by kernel_rfl⟩
instance g_A16_utf8_acceptRange : TG P T.ab true := ⟨by kernel_rfl⟩
instance a_A16_utf8_acceptRange : TA P T.ab 16 179 := ⟨by kernel_rfl⟩
instance z_S_code_op : TZ P T.ag 1 24 (.slice none 0 0) := ⟨by kernel_rfl⟩
instance g_S_code_op : TG P T.ag false := ⟨by kernel_rfl⟩
instance s_S_code_op : TS P T.ag 170 := ⟨by kernel_rfl⟩
instance z_uint64 : TZ P T.am 1 8 (.int .u64 0) := ⟨by kernel_rfl⟩
instance g_uint64 : TG P T.am false := ⟨by kernel_rfl⟩
instance z_uint32 : TZ P T.an 1 4 (.int .u32 0) := ⟨by kernel_rfl⟩
instance g_uint32 : TG P T.an false := ⟨by kernel_rfl⟩
end Go.Proofs.YtdnfaboigajkhaaGreatDoor

namespace Go.Emb
theorem aS {p : Prop} (h : p := by (first | assumption | exact Stp.sat (by assumption) | exact Hst.sat (by assumption))) : p := h
theorem aL {p : Prop} (h : p := by (first | assumption | exact Sl.lift (by assumption) (by (repeat (first | exact SLe.refl _ | refine SLe.more ?_ (by assumption) | refine SLe.more ?_ (Nxt.le (by assumption)) | refine SLe.step ?_ (by assumption)))) | exact U0.lift (by assumption) (by (repeat (first | exact SLe.refl _ | refine SLe.more ?_ (by assumption) | refine SLe.more ?_ (Nxt.le (by assumption)) | refine SLe.step ?_ (by assumption)))) | exact P5.lift (by assumption) (by (repeat (first | exact SLe.refl _ | refine SLe.more ?_ (by assumption) | refine SLe.more ?_ (Nxt.le (by assumption)) | refine SLe.step ?_ (by assumption)))) | exact H2 (by assumption) (by (repeat (first | exact SLe.refl _ | refine SLe.more ?_ (by assumption) | refine SLe.more ?_ (Nxt.le (by assumption)) | refine SLe.step ?_ (by assumption)))) | exact S6 (by assumption) (by (repeat (first | exact SLe.refl _ | refine SLe.more ?_ (by assumption) | refine SLe.more ?_ (Nxt.le (by assumption)) | refine SLe.step ?_ (by assumption)))) | exact Glb.lift (by assumption) (by (repeat (first | exact SLe.refl _ | refine SLe.more ?_ (by assumption) | refine SLe.more ?_ (Nxt.le (by assumption)) | refine SLe.step ?_ (by assumption)))) | exact Tab.lift (by assumption) (by (repeat (first | exact SLe.refl _ | refine SLe.more ?_ (by assumption) | refine SLe.more ?_ (Nxt.le (by assumption)) | refine SLe.step ?_ (by assumption)))) | exact Q13 (by assumption) | exact Q1b (by assumption) | exact Q11 (by assumption))) : p := h
theorem aR {p : Prop} (h : p := by with_unfolding_all rfl) : p := h
theorem au {p : Prop} (h : p := by (first | assumption | (first | assumption | exact Stp.sat (by assumption) | exact Hst.sat (by assumption)) | (first | assumption | exact Sl.lift (by assumption) (by (repeat (first | exact SLe.refl _ | refine SLe.more ?_ (by assumption) | refine SLe.more ?_ (Nxt.le (by assumption)) | refine SLe.step ?_ (by assumption)))) | exact U0.lift (by assumption) (by (repeat (first | exact SLe.refl _ | refine SLe.more ?_ (by assumption) | refine SLe.more ?_ (Nxt.le (by assumption)) | refine SLe.step ?_ (by assumption)))) | exact P5.lift (by assumption) (by (repeat (first | exact SLe.refl _ | refine SLe.more ?_ (by assumption) | refine SLe.more ?_ (Nxt.le (by assumption)) | refine SLe.step ?_ (by assumption)))) | exact H2 (by assumption) (by (repeat (first | exact SLe.refl _ | refine SLe.more ?_ (by assumption) | refine SLe.more ?_ (Nxt.le (by assumption)) | refine SLe.step ?_ (by assumption)))) | exact S6 (by assumption) (by (repeat (first | exact SLe.refl _ | refine SLe.more ?_ (by assumption) | refine SLe.more ?_ (Nxt.le (by assumption)) | refine SLe.step ?_ (by assumption)))) | exact Glb.lift (by assumption) (by (repeat (first | exact SLe.refl _ | refine SLe.more ?_ (by assumption) | refine SLe.more ?_ (Nxt.le (by assumption)) | refine SLe.step ?_ (by assumption)))) | exact Tab.lift (by assumption) (by (repeat (first | exact SLe.refl _ | refine SLe.more ?_ (by assumption) | refine SLe.more ?_ (Nxt.le (by assumption)) | refine SLe.step ?_ (by assumption)))) | exact Q13 (by assumption) | exact Q1b (by assumption) | exact Q11 (by assumption)) | exact Nat.le_trans (by assumption) (by decide) | omega)) : p := h
end Go.Emb
namespace Go.Proofs.YtdnfaboigajkhaaGreatDoor
open Go.Emb
theorem Q9r {a : List UInt8} {cs : List Bool} {r : TypeId} {w : World} {K : Value → World → Prop} : X4 P .len [T.b] r cs [S a] w K = K (I a.length) w := D3 X7
theorem Q9s {ox oy : Operand} {a b : Bool} {w : World} {K : Value → World → Prop} : Q3 P .eql T.l ox oy (.bool a) (.bool b) w K = K (.bool (a == b)) w := Q3t Jd
theorem Q9w {ox oy : Operand} {a b : Bool} {w : World} {K : Value → World → Prop} : Q3 P .neq T.l ox oy (.bool a) (.bool b) w K = K (.bool (!(a == b))) w := Q2D Jd
def Mm := And.intro @fa <| And.intro @H4 <| And.intro @Xa <| And.intro @Q9r <| And.intro @Q9s @Q9w
end Go.Proofs.YtdnfaboigajkhaaGreatDoor

namespace Go.Proofs.YtdnfaboigajkhaaGreatDoor
open Go.Emb Go.RowKit Go.Kd Go.Hm
variable {w : World} {K : Value → World → Prop} {σ : Q5}
def Jk (m : Hm.Met) : Bool := decide (32 < m.params.length) || decide (32 < m.catches.length) || decide (200 < m.code.length) || decide (64 < m.locals)
def Xe (c : Cla) : Bool := c.methods.any Jk || decide (32 < c.like.length) || decide (32 < c.fields.length) || decide (32 < c.methods.length)
theorem Q9b {c : Cla} {cs : List Value} (hs : X6 w σ) (hc : U7 σ c cs) (h : ∀ w', Below w.heap.size w w' → K (.bool (Xe c)) w') : Q1 P F.c7 [.agg cs.toArray] w K := Q3f (by
  obtain ⟨lv, fv, mv, rfl, hl, hf, hm, hn, hsu⟩ := hc
  unfold Kp
  refine N4 hs fun a w1 σ1 hk ha => ?_
  have hs := hk.sat
  replace hl := hl.up hk
  replace hf := hf.up hk
  replace hm := hm.up hk
  simp only [Value.cells] at ha
  ((try simp only [↓Mm, Mm, ↓Mr, Mr, Mb, reduceIte]); repeat ((first | refine ld (by assumption) (by assumption) rfl ?_ | refine X8 (by assumption) (by assumption) rfl ?_ | refine Q6 (by assumption) ?_); (try simp only [↓Mm, Mm, ↓Mr, Mr, Mb, reduceIte])))
  refine V2 c.methods.length (fun n w' => Below w1.heap.size w1 w' ∧ ((c.methods.take n).any Jk) = false) ⟨Below.refl _ _, by simp⟩ fun n w2 d hn hi => ?_
  obtain ⟨hb, hp⟩ := hi
  have hs2 := hs.below hb
  ((try simp only [↓Mm, Mm, ↓Mr, Mr, Mb, reduceIte]); repeat ((first | refine ld (by assumption) (by assumption) rfl ?_ | refine X8 (by assumption) (by assumption) rfl ?_ | refine Q6 (by assumption) ?_); (try simp only [↓Mm, Mm, ↓Mr, Mr, Mb, reduceIte])))
  refine Q4 (fun hc => ?_) (fun hc => ?_)
  · have hn' : n < c.methods.length := by simpa using hc
    refine L2 hm hn' fun p cs hl1 hlen hr => ?_
    refine Y3 hs2 hl1 hlen ?_
    refine Y0 hs2 (by rfl) hlen (Rep.one hr) fun q w3 σ3 hk3 hq => ?_
    obtain ⟨pv, cv, hv, rfl, g1, g2, g3, g4⟩ := hr
    have hs3 := hk3.sat
    replace g1 := g1.up hk3
    replace g2 := g2.up hk3
    replace g3 := g3.up hk3
    ((try simp only [↓Mm, Mm, ↓Mr, Mr, Mb, reduceIte]); repeat ((first | refine ld (by assumption) (by assumption) rfl ?_ | refine X8 (by assumption) (by assumption) rfl ?_ | refine Q6 (by assumption) ?_); (try simp only [↓Mm, Mm, ↓Mr, Mr, Mb, reduceIte])))
    (repeat' ((first | refine Y2 (fun hh => ?_) (fun hh => ?_) | refine Q4 (fun hh => ?_) (fun hh => ?_)) <;> (try simp only [hh, Bool.not_true, Bool.not_false, ↓Mm, Mm, ↓Mr, Mr, Mb, reduceIte]) <;> ((try simp only [↓Mm, Mm, ↓Mr, Mr, Mb, reduceIte]); repeat ((first | refine ld (by assumption) (by assumption) rfl ?_ | refine X8 (by assumption) (by assumption) rfl ?_ | refine Q6 (by assumption) ?_); (try simp only [↓Mm, Mm, ↓Mr, Mr, Mb, reduceIte])))))
    all_goals first
      | refine Y5 hm.max hn' ⟨bt hb hk3.bel, ?_⟩
        rw [M8 hn', hp]; simp only [Jk]; (first | (simp only [decide_eq_true_eq, decide_eq_false_iff_not, Bool.not_true, Bool.not_false, Bool.not_eq_true', Bool.not_eq_false', Bool.or_eq_true, Bool.and_eq_true, Bool.or_eq_false_iff, Bool.and_eq_false_iff, Bool.false_or, Bool.true_and, Bool.or_false, Bool.and_true] at *; first | omega | (and_intros <;> omega)) | (rw [Bool.eq_iff_iff]; (simp only [decide_eq_true_eq, decide_eq_false_iff_not, Bool.not_true, Bool.not_false, Bool.not_eq_true', Bool.not_eq_false', Bool.or_eq_true, Bool.and_eq_true, Bool.or_eq_false_iff, Bool.and_eq_false_iff, Bool.false_or, Bool.true_and, Bool.or_false, Bool.and_true] at *; first | omega | (and_intros <;> omega))))
      | have e : Xe c = true := by
          have : Jk c.methods[n] = true := by simp only [Jk]; (first | (simp only [decide_eq_true_eq, decide_eq_false_iff_not, Bool.not_true, Bool.not_false, Bool.not_eq_true', Bool.not_eq_false', Bool.or_eq_true, Bool.and_eq_true, Bool.or_eq_false_iff, Bool.and_eq_false_iff, Bool.false_or, Bool.true_and, Bool.or_false, Bool.and_true] at *; first | omega | (and_intros <;> omega)) | (rw [Bool.eq_iff_iff]; (simp only [decide_eq_true_eq, decide_eq_false_iff_not, Bool.not_true, Bool.not_false, Bool.not_eq_true', Bool.not_eq_false', Bool.or_eq_true, Bool.and_eq_true, Bool.or_eq_false_iff, Bool.and_eq_false_iff, Bool.false_or, Bool.true_and, Bool.or_false, Bool.and_true] at *; first | omega | (and_intros <;> omega))))
          simp [Xe, R6 hn' this]
        rw [← e]; exact h _ (bt hk.bel (bt hb hk3.bel))
  · have hn' : ¬ n < c.methods.length := by simpa using hc
    rw [O9 hn'] at hp
    have h := h w2 (bt hk.bel hb)
    ((try simp only [↓Mm, Mm, ↓Mr, Mr, Mb, reduceIte]); repeat ((first | refine ld (by assumption) (by assumption) rfl ?_ | refine X8 (by assumption) (by assumption) rfl ?_ | refine Q6 (by assumption) ?_); (try simp only [↓Mm, Mm, ↓Mr, Mr, Mb, reduceIte])))
    (repeat' ((first | refine Y2 (fun hh => ?_) (fun hh => ?_) | refine Q4 (fun hh => ?_) (fun hh => ?_)) <;> (try simp only [hh, Bool.not_true, Bool.not_false, ↓Mm, Mm, ↓Mr, Mr, Mb, reduceIte]) <;> ((try simp only [↓Mm, Mm, ↓Mr, Mr, Mb, reduceIte]); repeat ((first | refine ld (by assumption) (by assumption) rfl ?_ | refine X8 (by assumption) (by assumption) rfl ?_ | refine Q6 (by assumption) ?_); (try simp only [↓Mm, Mm, ↓Mr, Mr, Mb, reduceIte])))))
    all_goals
      refine Eq.subst (motive := fun b => K (.bool b) w2) ?_ h
      simp only [Xe, hp]
      (first | (simp only [decide_eq_true_eq, decide_eq_false_iff_not, Bool.not_true, Bool.not_false, Bool.not_eq_true', Bool.not_eq_false', Bool.or_eq_true, Bool.and_eq_true, Bool.or_eq_false_iff, Bool.and_eq_false_iff, Bool.false_or, Bool.true_and, Bool.or_false, Bool.and_true] at *; first | omega | (and_intros <;> omega)) | (rw [Bool.eq_iff_iff]; (simp only [decide_eq_true_eq, decide_eq_false_iff_not, Bool.not_true, Bool.not_false, Bool.not_eq_true', Bool.not_eq_false', Bool.or_eq_true, Bool.and_eq_true, Bool.or_eq_false_iff, Bool.and_eq_false_iff, Bool.false_or, Bool.true_and, Bool.or_false, Bool.and_true] at *; first | omega | (and_intros <;> omega)))))
end Go.Proofs.YtdnfaboigajkhaaGreatDoor

namespace Go.Emb
open Go.RowKit Go.Hm
variable {H : Type} {enc : TypeId × Value → H} {P : Program} {W : World} {t : TypeId} {cs : List Value} {fuel : Nat} {x : DataW H × List MemPlace}
def I2 (W : World) : Q5 := fun b => W.heap[b]?
theorem Q5Y : X6 W (I2 W) := fun b o h => h
def Wt (P : Program) (t : TypeId) (d : DataW H) : Prop := ∀ n ∈ d.weights P t, n ≤ reachBytes
theorem Q8h {a : Addr} {n : Nat} (h : W.cells? 0 a n = some cs) (hn : 0 < n) : cs.length = n ∧ U0 (I2 W) a cs := by
  obtain ⟨_, h1, h2⟩ := World.cells?_some h
  refine ⟨h1, ?_⟩
  have key : ∀ i v, cs[i]? = some v → ∃ D6 e fr, W.heap[a.block]? = some (.cells D6 e fr) ∧ (a.add i).spot = none ∧ D6[a.off + i]? = some v := by
    intro i v hv
    have hi : i < cs.length := (List.getElem?_eq_some_iff.1 hv).1
    have h3 := h2 i (by omega)
    rw [hv] at h3
    unfold World.cell? at h3
    rw [R8, Qy] at h3
    cases hb : W.heap[a.block]? with
    | none => rw [hb] at h3; cases h3
    | some o =>
      rw [hb] at h3
      cases o with
      | cells D6 e fr =>
        simp only at h3
        split at h3
        · cases h3
        · rename_i hs
          exact ⟨D6, e, fr, rfl, by simpa using hs, h3⟩
      | _ => cases h3
  cases hc : cs with
  | nil => subst hc; simp at h1; omega
  | cons c r =>
    obtain ⟨D6, e, fr, g1, g2, g3⟩ := key 0 c (by rw [hc]; rfl)
    refine ⟨by simpa [Addr.add] using g2, D6, e, fr, g1, fun i v hv => ?_⟩
    obtain ⟨arr', e', fr', k1, k2, k3⟩ := key i v (by rw [hc]; exact hv)
    rw [g1] at k1
    injection k1 with k1
    injection k1 with k1
    subst k1
    exact k3
theorem Zu (hu : P.underlying t = some .string) (h : DataW.trod enc P W 0 (fun _ => true) true fuel t cs = some x) (hw : Wt P t x.1) : ∃ s : Kd.X0, cs = [S s] ∧ s.length ≤ W3 := by
  obtain ⟨⟨⟨s⟩⟩, rfl, rfl, _⟩ := DataW.trod_string hu h
  refine ⟨s, rfl, ?_⟩
  have := hw s.length (by simp [DataW.weights])
  exact this
theorem Sf (hu : P.underlying t = some .bool) (h : DataW.trod enc P W 0 (fun _ => true) true fuel t cs = some x) : ∃ b, cs = [.bool b] := by
  obtain ⟨b, h1, _⟩ := DataW.trod_bool hu h; exact ⟨b, h1⟩
theorem Kt (hu : P.underlying t = some (.int .i64)) (h : DataW.trod enc P W 0 (fun _ => true) true fuel t cs = some x) : ∃ n, cs = [I n] ∧ Ke n := by
  obtain ⟨n, h1, _, h2⟩ := DataW.trod_int hu h
  refine ⟨n, h1, ?_⟩
  simp only [Lit.wf, Bool.and_eq_true, decide_eq_true_eq] at h2
  exact ⟨h2.1, h2.2⟩
theorem Q7P {α : Type} {Q : Nat → α → Prop} : ∀ (n : Nat), (∀ i, i < n → ∃ y, Q i y) → ∃ xs : List α, xs.length = n ∧ ∀ i y, xs[i]? = some y → Q i y := by
  intro n
  induction n with
  | zero => intro _; exact ⟨[], rfl, by simp⟩
  | succ n ih =>
    intro h
    obtain ⟨xs, h1, h2⟩ := ih fun i hi => h i (by omega)
    obtain ⟨y, hy⟩ := h n (by omega)
    refine ⟨xs ++ [y], by simp [h1], fun i z hz => ?_⟩
    by_cases hi : i < xs.length
    · rw [List.getElem?_append_left hi] at hz; exact h2 i z hz
    · rw [List.getElem?_append_right (by omega)] at hz
      have : i - xs.length = 0 := by
        have := (List.getElem?_eq_some_iff.1 hz).1
        simp at this; omega
      rw [this] at hz
      simp at hz
      subst hz
      rw [show i = n by omega]; exact hy
theorem Q8B {e : TypeId} {d : DataW H} : ∀ {l : List (DataW H)}, d ∈ l → ∀ n ∈ d.weights P e, n ∈ DataW.weightsAll P e l := by
  intro l
  induction l with
  | nil => intro h; simp at h
  | cons a r ih =>
    intro h n hn
    simp only [DataW.weightsAll, List.mem_append]
    rcases List.mem_cons.1 h with rfl | h
    · exact .inl hn
    · exact .inr (ih h n hn)
theorem Cc {α : Type} {R : Q5 → α → List Value → Prop} {e : TypeId} {sz : Nat} (hu : P.underlying t = some (.slice e)) (hc : P.cellsOf e = sz) (hz : 0 < sz)
    (hel : ∀ fuel cs (x : DataW H × List MemPlace), DataW.trod enc P W 0 (fun _ => true) true fuel e cs = some x → Wt P e x.1 → ∃ y, R (I2 W) y cs)
    (h : DataW.trod enc P W 0 (fun _ => true) true fuel t cs = some x) (hw : Wt P t x.1) : ∃ v xs, cs = [v] ∧ Sl sz R (I2 W) v xs := by
  rcases DataW.trod_slice hu h with ⟨rfl, rfl⟩ | ⟨a, len, cap, elems, rest, n, _, rfl, rfl, _, hl, hm, hel2, hget, _⟩
  · exact ⟨_, [], rfl, Sl.nil⟩
  subst hc
  have step : ∀ i, i < len → ∃ y, ∃ cs', U0 (I2 W) (a.add (i * P.cellsOf e)) cs' ∧ cs'.length = P.cellsOf e ∧ R (I2 W) y cs' := by
    intro i hi
    have h1 := hget i hi
    have hi2 : i < elems.length := by omega
    rw [List.getElem?_eq_getElem hi2] at h1
    obtain ⟨cs', h2, h3⟩ := Option.bind_eq_some_iff.1 h1
    obtain ⟨h4, h5⟩ := Q8h h2 hz
    obtain ⟨y, hy⟩ := hel n cs' _ h3 (fun m hm => hw m (by
      simp only [DataW.weights, hu, List.mem_cons, List.mem_append]
      exact .inr (.inl (Q8B (List.mem_map.2 ⟨_, List.getElem_mem hi2, rfl⟩) m hm))))
    exact ⟨y, cs', h5, h4, hy⟩
  obtain ⟨xs, hx1, hx2⟩ := Q7P len step
  refine ⟨_, xs, rfl, some a, cap, by rw [hx1], by rw [hx1]; exact hl, hm, by simp, fun b hb => ?_⟩
  cases hb
  refine ⟨fun h0 => ?_, fun i y hy => hx2 i y hy⟩
  obtain ⟨y, hy⟩ : ∃ y, xs[0]? = some y := ⟨xs[0], List.getElem?_eq_getElem h0⟩
  obtain ⟨cs', h5, _, _⟩ := hx2 0 y hy
  have := h5.1
  simpa [Addr.add] using this
theorem Q84 : ∀ {ts : List TypeId} {l : List (DataW H)} {i : Nat} {u : TypeId} {d : DataW H}, ts[i]? = some u → l[i]? = some d → ∀ n ∈ d.weights P u, n ∈ DataW.weightsEach P ts l :=
  fun h1 h2 n hn => DataW.weights_mem_each h1 h2 n hn
theorem M1 {fs : Array Field} (hu : P.underlying t = some (.struct fs)) (h : DataW.trod enc P W 0 (fun _ => true) true fuel t cs = some x) (hw : Wt P t x.1) (i : Nat) {o : Nat} {ft : TypeId}
    (hf : (fs[i]?).map (fun f => (f.type, f.offset)) = some (ft, o)) (hc : P.cellsOf ft = 1) : ∃ n y, DataW.trod enc P W 0 (fun _ => true) true n ft ((cs.drop o).take 1) = some y ∧ Wt P ft y.1 := by
  obtain ⟨xs, n, _, rfl, h1, h2, h3⟩ := DataW.trod_struct hu h
  obtain ⟨f, hf', he⟩ := Option.map_eq_some_iff.1 hf
  cases he
  have h4 := h3 i f hf'
  have hi : i < xs.length := by rw [h2]; exact (Array.getElem?_eq_some_iff.1 hf').1
  rw [List.getElem?_eq_getElem hi, hc] at h4
  refine ⟨n, _, h4, fun m hm => hw m ?_⟩
  simp only [DataW.weights, hu]
  exact Q84 (i := i) (u := f.type) (by rw [List.getElem?_map, Array.getElem?_toList, hf']; rfl) (by rw [List.getElem?_map, List.getElem?_eq_getElem hi]; rfl) m hm
theorem Pf {fs : Array Field} {k : Nat} (hu : P.underlying t = some (.struct fs)) (hk : P.cellsOf t = k) (h : DataW.trod enc P W 0 (fun _ => true) true fuel t cs = some x) : cs.length = k := by
  obtain ⟨_, _, _, _, h1, _, _⟩ := DataW.trod_struct hu h
  rw [h1, hk]
theorem Q28 {α : Type} {l : List α} (h : l.length = 3) : ∃ a b c, l = [a, b, c] := by
  match l, h with
  | [a, b, c], _ => exact ⟨a, b, c, rfl⟩
theorem Q9p {α : Type} {l : List α} (h : l.length = 4) : ∃ a b c d, l = [a, b, c, d] := by
  match l, h with
  | [a, b, c, d], _ => exact ⟨a, b, c, d, rfl⟩
theorem Q9K {α : Type} {l : List α} (h : l.length = 7) : ∃ a b c d e f g, l = [a, b, c, d, e, f, g] := by
  match l, h with
  | [a, b, c, d, e, f, g], _ => exact ⟨a, b, c, d, e, f, g, rfl⟩
theorem Q9H {α : Type} {l : List α} (h : l.length = 8) : ∃ a b c d e f g i, l = [a, b, c, d, e, f, g, i] := by
  match l, h with
  | [a, b, c, d, e, f, g, i], _ => exact ⟨a, b, c, d, e, f, g, i, rfl⟩
end Go.Emb
namespace Go.Proofs.YtdnfaboigajkhaaGreatDoor
open Go.Emb Go.RowKit Go.Kd Go.Hm
variable {H : Type} {enc : TypeId × Value → H} {W : World} {cs : List Value} {fuel : Nat} {x : DataW H × List MemPlace}
def Q9F : Array Field := #[⟨"Name", T.b, 0, false, "", "", 0⟩, ⟨"Kind", T.b, 1, false, "", "", 16⟩, ⟨"Transient", T.l, 2, false, "", "", 32⟩]
theorem Q24 : P.underlying T.i = some (.struct Q9F) := by kernel_rfl
theorem S7 : P.cellsOf T.b = 1 := by kernel_rfl
theorem Rz : P.cellsOf T.l = 1 := by kernel_rfl
theorem Q26 : P.cellsOf T.d = 1 := by kernel_rfl
theorem Q8N (h : DataW.trod enc P W 0 (fun _ => true) true fuel T.i cs = some x) (hw : Wt P T.i x.1) : ∃ y, D7 (I2 W) y cs := by
  obtain ⟨c0, c1, c2, rfl⟩ := Q28 (Pf Q24 (by kernel_rfl) h)
  obtain ⟨_, _, k0, w0⟩ := M1 (o := 0) Q24 h hw 0 rfl S7
  obtain ⟨_, _, k1, w1⟩ := M1 (o := 1) Q24 h hw 1 rfl S7
  obtain ⟨_, _, k2, w2⟩ := M1 (o := 2) Q24 h hw 2 rfl Rz
  obtain ⟨s0, q0, r0⟩ := Zu X7 k0 w0
  obtain ⟨s1, q1, r1⟩ := Zu X7 k1 w1
  obtain ⟨s2, q2⟩ := Sf Jd k2
  simp at q0 q1 q2
  subst q0 q1 q2
  exact ⟨⟨s0, s1, s2⟩, rfl, r0, r1⟩
theorem Q6v {t : TypeId} (hu : P.underlying t = some .string) (h : DataW.trod enc P W 0 (fun _ => true) true fuel t cs = some x) (hw : Wt P t x.1) : ∃ y, U5 (I2 W) y cs := by
  obtain ⟨s, q, r⟩ := Zu hu h hw; exact ⟨s, q, r⟩
def Q9z : Array Field := #[⟨"Op", T.b, 0, false, "", "", 0⟩, ⟨"N", T.af, 1, false, "", "", 16⟩, ⟨"S", T.b, 2, false, "", "", 24⟩]
theorem Q25 : P.underlying T.n = some (.struct Q9z) := by kernel_rfl
theorem Q9d (h : DataW.trod enc P W 0 (fun _ => true) true fuel T.n cs = some x) (hw : Wt P T.n x.1) : ∃ y, F5 (I2 W) y cs := by
  obtain ⟨c0, c1, c2, rfl⟩ := Q28 (Pf Q25 (by kernel_rfl) h)
  obtain ⟨_, _, k0, w0⟩ := M1 (o := 0) Q25 h hw 0 rfl S7
  obtain ⟨_, _, k1, w1⟩ := M1 (o := 1) Q25 h hw 1 rfl (by kernel_rfl)
  obtain ⟨_, _, k2, w2⟩ := M1 (o := 2) Q25 h hw 2 rfl S7
  obtain ⟨s0, q0, r0⟩ := Zu X7 k0 w0
  obtain ⟨s1, q1, r1⟩ := Kt (by kernel_rfl) k1
  obtain ⟨s2, q2, r2⟩ := Zu X7 k2 w2
  simp at q0 q1 q2
  subst q0 q1 q2
  exact ⟨⟨s0, s1, s2⟩, rfl, r0, r1, r2⟩
def Q9L : Array Field := #[⟨"From", T.d, 0, false, "", "", 0⟩, ⟨"To", T.d, 1, false, "", "", 8⟩, ⟨"At", T.d, 2, false, "", "", 16⟩, ⟨"Class", T.b, 3, false, "", "", 24⟩]
theorem Q0f : P.underlying T.m = some (.struct Q9L) := by kernel_rfl
theorem Q8V (h : DataW.trod enc P W 0 (fun _ => true) true fuel T.m cs = some x) (hw : Wt P T.m x.1) : ∃ y, Qr (I2 W) y cs := by
  obtain ⟨c0, c1, c2, c3, rfl⟩ := Q9p (Pf Q0f (by kernel_rfl) h)
  obtain ⟨_, _, k0, w0⟩ := M1 (o := 0) Q0f h hw 0 rfl Q26
  obtain ⟨_, _, k1, w1⟩ := M1 (o := 1) Q0f h hw 1 rfl Q26
  obtain ⟨_, _, k2, w2⟩ := M1 (o := 2) Q0f h hw 2 rfl Q26
  obtain ⟨_, _, k3, w3⟩ := M1 (o := 3) Q0f h hw 3 rfl S7
  obtain ⟨s0, q0, r0⟩ := Kt Q09 k0
  obtain ⟨s1, q1, r1⟩ := Kt Q09 k1
  obtain ⟨s2, q2, r2⟩ := Kt Q09 k2
  obtain ⟨s3, q3, r3⟩ := Zu X7 k3 w3
  simp at q0 q1 q2 q3
  subst q0 q1 q2 q3
  exact ⟨⟨s0, s1, s2, s3⟩, rfl, r0, r1, r2, r3⟩
theorem Q6k : P.underlying T.f = some (.slice T.b) := by kernel_rfl
theorem Q8Q : P.underlying T.h = some (.slice T.i) := by kernel_rfl
theorem Q8P : P.underlying T.k = some (.slice T.n) := by kernel_rfl
theorem Q8G : P.underlying T.j = some (.slice T.m) := by kernel_rfl
theorem Q9a : P.underlying T.e = some (.slice T.c) := by kernel_rfl
theorem Q5X : P.underlying T.g = some (.slice T.a) := by kernel_rfl
def Q9J : Array Field := #[⟨"Name", T.b, 0, false, "", "", 0⟩, ⟨"Params", T.f, 1, false, "", "", 16⟩, ⟨"Result", T.b, 2, false, "", "", 40⟩, ⟨"Abstract", T.l, 3, false, "", "", 56⟩, ⟨"Locals", T.d, 4, false, "", "", 64⟩, ⟨"Code", T.k, 5, false, "", "", 72⟩, ⟨"Catches", T.j, 6, false, "", "", 96⟩]
theorem Ew : P.underlying T.c = some (.struct Q9J) := by kernel_rfl
theorem Q8M (h : DataW.trod enc P W 0 (fun _ => true) true fuel T.c cs = some x) (hw : Wt P T.c x.1) : ∃ y, M9 (I2 W) y cs := by
  obtain ⟨c0, c1, c2, c3, c4, c5, c6, rfl⟩ := Q9K (Pf Ew (by kernel_rfl) h)
  obtain ⟨_, _, k0, w0⟩ := M1 (o := 0) Ew h hw 0 rfl S7
  obtain ⟨_, _, k1, w1⟩ := M1 (o := 1) Ew h hw 1 rfl (by kernel_rfl)
  obtain ⟨_, _, k2, w2⟩ := M1 (o := 2) Ew h hw 2 rfl S7
  obtain ⟨_, _, k3, w3⟩ := M1 (o := 3) Ew h hw 3 rfl Rz
  obtain ⟨_, _, k4, w4⟩ := M1 (o := 4) Ew h hw 4 rfl Q26
  obtain ⟨_, _, k5, w5⟩ := M1 (o := 5) Ew h hw 5 rfl (by kernel_rfl)
  obtain ⟨_, _, k6, w6⟩ := M1 (o := 6) Ew h hw 6 rfl (by kernel_rfl)
  obtain ⟨s0, q0, r0⟩ := Zu X7 k0 w0
  obtain ⟨v1, s1, q1, r1⟩ := Cc (R := U5) Q6k S7 (by decide) (fun _ _ _ h hw => Q6v X7 h hw) k1 w1
  obtain ⟨s2, q2, r2⟩ := Zu X7 k2 w2
  obtain ⟨s3, q3⟩ := Sf Jd k3
  obtain ⟨s4, q4, r4⟩ := Kt Q09 k4
  obtain ⟨v5, s5, q5, r5⟩ := Cc (R := F5) (sz := 3) Q8P (by kernel_rfl) (by decide) (fun _ _ _ h hw => Q9d h hw) k5 w5
  obtain ⟨v6, s6, q6, r6⟩ := Cc (R := Qr) (sz := 4) Q8G (by kernel_rfl) (by decide) (fun _ _ _ h hw => Q8V h hw) k6 w6
  simp at q0 q1 q2 q3 q4 q5 q6
  subst q0 q1 q2 q3 q4 q5 q6
  exact ⟨⟨s0, s1, s2, s3, s4, s5, s6⟩, _, _, _, rfl, r1, r5, r6, r0, r2, r4⟩
def Q9G : Array Field := #[⟨"Name", T.b, 0, false, "", "", 0⟩, ⟨"Super", T.b, 1, false, "", "", 16⟩, ⟨"Like", T.f, 2, false, "", "", 32⟩, ⟨"Interface", T.l, 3, false, "", "", 56⟩, ⟨"Abstract", T.l, 4, false, "", "", 57⟩, ⟨"Final", T.l, 5, false, "", "", 58⟩, ⟨"Fields", T.h, 6, false, "", "", 64⟩, ⟨"Methods", T.e, 7, false, "", "", 88⟩]
theorem Ns : P.underlying T.a = some (.struct Q9G) := by kernel_rfl
theorem Q8E (h : DataW.trod enc P W 0 (fun _ => true) true fuel T.a cs = some x) (hw : Wt P T.a x.1) : ∃ y, U7 (I2 W) y cs := by
  obtain ⟨c0, c1, c2, c3, c4, c5, c6, c7, rfl⟩ := Q9H (Pf Ns (by kernel_rfl) h)
  obtain ⟨_, _, k0, w0⟩ := M1 (o := 0) Ns h hw 0 rfl S7
  obtain ⟨_, _, k1, w1⟩ := M1 (o := 1) Ns h hw 1 rfl S7
  obtain ⟨_, _, k2, w2⟩ := M1 (o := 2) Ns h hw 2 rfl (by kernel_rfl)
  obtain ⟨_, _, k3, w3⟩ := M1 (o := 3) Ns h hw 3 rfl Rz
  obtain ⟨_, _, k4, w4⟩ := M1 (o := 4) Ns h hw 4 rfl Rz
  obtain ⟨_, _, k5, w5⟩ := M1 (o := 5) Ns h hw 5 rfl Rz
  obtain ⟨_, _, k6, w6⟩ := M1 (o := 6) Ns h hw 6 rfl (by kernel_rfl)
  obtain ⟨_, _, k7, w7⟩ := M1 (o := 7) Ns h hw 7 rfl (by kernel_rfl)
  obtain ⟨s0, q0, r0⟩ := Zu X7 k0 w0
  obtain ⟨s1, q1, r1⟩ := Zu X7 k1 w1
  obtain ⟨v2, s2, q2, r2⟩ := Cc (R := U5) Q6k S7 (by decide) (fun _ _ _ h hw => Q6v X7 h hw) k2 w2
  obtain ⟨s3, q3⟩ := Sf Jd k3
  obtain ⟨s4, q4⟩ := Sf Jd k4
  obtain ⟨s5, q5⟩ := Sf Jd k5
  obtain ⟨v6, s6, q6, r6⟩ := Cc (R := D7) (sz := 3) Q8Q (by kernel_rfl) (by decide) (fun _ _ _ h hw => Q8N h hw) k6 w6
  obtain ⟨v7, s7, q7, r7⟩ := Cc (R := M9) (sz := 7) Q9a (by kernel_rfl) (by decide) (fun _ _ _ h hw => Q8M h hw) k7 w7
  simp at q0 q1 q2 q3 q4 q5 q6 q7
  subst q0 q1 q2 q3 q4 q5 q6 q7
  exact ⟨⟨s0, s1, s2, s3, s4, s5, s6, s7⟩, _, _, _, rfl, r2, r6, r7, r0, r1⟩
theorem Q7R (h : DataW.trod enc P W 0 (fun _ => true) true fuel T.g cs = some x) (hw : Wt P T.g x.1) : ∃ v l, cs = [v] ∧ Sl 8 U7 (I2 W) v l :=
  Cc Q5X (by kernel_rfl) (by decide) (fun _ _ _ h hw => Q8E h hw) h hw
end Go.Proofs.YtdnfaboigajkhaaGreatDoor

namespace Go.Emb
def V0 {α β : Type} (stp : β → α → Bool × β) : β → List α → Nat → Option Nat × β
  | s, [], _ => (none, s)
  | s, x :: xs, i => if (stp s x).1 then (some i, (stp s x).2) else V0 stp (stp s x).2 xs (i + 1)
def L6 (o : Option Nat) : Int := match o with | some i => i | none => -1
theorem I3 {α : Type} (p : α → Bool) : ∀ (xs : List α) (i : Nat), (V0 (fun (_ : Unit) x => (p x, ())) () xs i).1 = (xs.findIdx? p).map (· + i) := by
  intro xs
  induction xs with
  | nil => intro i; rfl
  | cons x r ih =>
    intro i
    rw [List.findIdx?_cons]
    simp only [V0]
    cases p x with
    | true => simp
    | false =>
      simp only [Bool.false_eq_true, if_false]
      rw [ih (i + 1), Option.map_map]
      congr 1; funext n; simp only [Function.comp]; omega
theorem By {α β : Type} (stp : β → α → Bool × β) (s : β) (xs : List α) (i : Nat) : decide ((0 : Int) ≤ L6 (V0 stp s xs i).1) = (V0 stp s xs i).1.isSome := by
  cases (V0 stp s xs i).1 <;> simp [L6]
end Go.Emb
namespace Go.Proofs.YtdnfaboigajkhaaGreatDoor
open Go.Emb Go.RowKit Go.Kd Go.Hm
variable {w : World} {K : Value → World → Prop} {σ : Q5}
theorem Zy {β : Type} {xs : List Hm.Met} {v f : Value} (stp : β → Hm.Met → Bool × β) (s0 : β) (Inv : β → World → Prop) (D : Nat → Prop) (hsat : ∀ s w, Inv s w → X6 w σ) (h0 : Inv s0 w) (hv : Sl 7 M9 σ v xs)
    (hf : ∀ s x cs (w1 : World) (K : Value → World → Prop), x ∈ xs → Kpt D w w1 → Inv s w1 → M9 σ x cs → cs.length = 7 → (∀ w', Kpt D w w' → Inv (stp s x).2 w' → K (.bool (stp s x).1) w') → Z7 P f [.agg cs.toArray] w1 K)
    (h : ∀ w', Kpt D w w' → Inv (V0 stp s0 xs 0).2 w' → K (I (L6 (V0 stp s0 xs 0).1)) w') : Q1 P F.h [v, f] w K := T4 (by
  unfold H3
  ((try simp only [↓Mm, Mm, ↓Mr, Mr, Mb, reduceIte]); repeat ((first | refine ld (by assumption) (by assumption) rfl ?_ | refine X8 (by assumption) (by assumption) rfl ?_ | refine Q6 (by assumption) ?_); (try simp only [↓Mm, Mm, ↓Mr, Mr, Mb, reduceIte])))
  refine V2 xs.length (fun n w' => Kpt D w w' ∧ ∃ s, Inv s w' ∧ V0 stp s0 xs 0 = V0 stp s (xs.drop n) n) ⟨Kpt.refl, s0, h0, rfl⟩ fun n w1 d hn hi => ?_
  obtain ⟨hk, s, hi, he⟩ := hi
  have hs1 := hsat s w1 hi
  ((try simp only [↓Mm, Mm, ↓Mr, Mr, Mb, reduceIte]); repeat ((first | refine ld (by assumption) (by assumption) rfl ?_ | refine X8 (by assumption) (by assumption) rfl ?_ | refine Q6 (by assumption) ?_); (try simp only [↓Mm, Mm, ↓Mr, Mr, Mb, reduceIte])))
  refine Q4 (fun hc => ?_) (fun hc => ?_)
  · have hn' : n < xs.length := by simpa using hc
    refine L2 hv hn' fun p cs hl hlen hr => ?_
    refine Y3 hs1 hl hlen ?_
    refine hf s xs[n] cs w1 _ (List.getElem_mem hn') hk hi hr hlen fun w2 hk2 hi2 => ?_
    rw [List.drop_eq_getElem_cons hn'] at he
    simp only [V0] at he
    refine Q4 (fun hb => ?_) (fun hb => ?_)
    · rw [hb] at he
      have := h w2 hk2
      rw [he] at this
      exact this hi2
    · rw [hb] at he
      ((try simp only [↓Mm, Mm, ↓Mr, Mr, Mb, reduceIte]); repeat ((first | refine ld (by assumption) (by assumption) rfl ?_ | refine X8 (by assumption) (by assumption) rfl ?_ | refine Q6 (by assumption) ?_); (try simp only [↓Mm, Mm, ↓Mr, Mr, Mb, reduceIte])))
      exact Y5 hv.max hn' ⟨hk2, _, hi2, by simpa using he⟩
  · have hn' : ¬ n < xs.length := by simpa using hc
    rw [List.drop_eq_nil_of_le (by omega)] at he
    have := h w1 hk
    rw [he] at this
    exact this hi)
theorem Xk {β : Type} {xs : List Hm.Met} {v f : Value} (stp : β → Hm.Met → Bool × β) (s0 : β) (Inv : β → World → Prop) (D : Nat → Prop) (hsat : ∀ s w, Inv s w → X6 w σ) (h0 : Inv s0 w) (hv : Sl 7 M9 σ v xs)
    (hf : ∀ s x cs (w1 : World) (K : Value → World → Prop), x ∈ xs → Kpt D w w1 → Inv s w1 → M9 σ x cs → cs.length = 7 → (∀ w', Kpt D w w' → Inv (stp s x).2 w' → K (.bool (stp s x).1) w') → Z7 P f [.agg cs.toArray] w1 K)
    (h : ∀ w', Kpt D w w' → Inv (V0 stp s0 xs 0).2 w' → K (.bool (V0 stp s0 xs 0).1.isSome) w') : Q1 P F.a [v, f] w K := G9 (by
  unfold D8
  refine Zy stp s0 Inv D hsat h0 hv hf fun w1 hk hi => ?_
  (try simp only [↓Mm, Mm, ↓Mr, Mr, Mb, reduceIte])
  rw [By]
  exact h w1 hk hi)
theorem Hd {xs : List Hm.Met} {v f : Value} (p : Hm.Met → Bool) (hs : X6 w σ) (hv : Sl 7 M9 σ v xs)
    (hf : ∀ x cs (w1 : World) (K : Value → World → Prop), x ∈ xs → X6 w1 σ → M9 σ x cs → cs.length = 7 → (∀ w', Below w1.heap.size w1 w' → K (.bool (p x)) w') → Z7 P f [.agg cs.toArray] w1 K)
    (h : ∀ w', Below w.heap.size w w' → K (I (L6 (xs.findIdx? p))) w') : Q1 P F.h [v, f] w K := by
  refine Zy (fun (_ : Unit) x => (p x, ())) () (fun _ w' => Below w.heap.size w w') (fun _ => False) (fun _ w' hb => hs.below hb) (Below.refl _ _) hv (fun s x cs w1 K hx hk hi hr hl hK => hf x cs w1 K hx (hs.below hi) hr hl fun w' hb => hK w' (.of_below (bt hi hb)) (bt hi hb)) fun w' hk hi => ?_
  rw [I3]
  simpa using h w' hi
theorem H6 {xs : List Hm.Met} {v f : Value} (p : Hm.Met → Bool) (hs : X6 w σ) (hv : Sl 7 M9 σ v xs)
    (hf : ∀ x cs (w1 : World) (K : Value → World → Prop), x ∈ xs → X6 w1 σ → M9 σ x cs → cs.length = 7 → (∀ w', Below w1.heap.size w1 w' → K (.bool (p x)) w') → Z7 P f [.agg cs.toArray] w1 K)
    (h : ∀ w', Below w.heap.size w w' → K (.bool (xs.any p)) w') : Q1 P F.a [v, f] w K := by
  refine Xk (fun (_ : Unit) x => (p x, ())) () (fun _ w' => Below w.heap.size w w') (fun _ => False) (fun _ w' hb => hs.below hb) (Below.refl _ _) hv (fun s x cs w1 K hx hk hi hr hl hK => hf x cs w1 K hx (hs.below hi) hr hl fun w' hb => hK w' (.of_below (bt hi hb)) (bt hi hb)) fun w' hk hi => ?_
  rw [I3]
  simpa using h w' hi
theorem Ud {β : Type} {xs : List Fld} {v f : Value} (stp : β → Fld → Bool × β) (s0 : β) (Inv : β → World → Prop) (D : Nat → Prop) (hsat : ∀ s w, Inv s w → X6 w σ) (h0 : Inv s0 w) (hv : Sl 3 D7 σ v xs)
    (hf : ∀ s x cs (w1 : World) (K : Value → World → Prop), x ∈ xs → Kpt D w w1 → Inv s w1 → D7 σ x cs → cs.length = 3 → (∀ w', Kpt D w w' → Inv (stp s x).2 w' → K (.bool (stp s x).1) w') → Z7 P f [.agg cs.toArray] w1 K)
    (h : ∀ w', Kpt D w w' → Inv (V0 stp s0 xs 0).2 w' → K (I (L6 (V0 stp s0 xs 0).1)) w') : Q1 P F.j [v, f] w K := Qa (by
  unfold R0
  ((try simp only [↓Mm, Mm, ↓Mr, Mr, Mb, reduceIte]); repeat ((first | refine ld (by assumption) (by assumption) rfl ?_ | refine X8 (by assumption) (by assumption) rfl ?_ | refine Q6 (by assumption) ?_); (try simp only [↓Mm, Mm, ↓Mr, Mr, Mb, reduceIte])))
  refine V2 xs.length (fun n w' => Kpt D w w' ∧ ∃ s, Inv s w' ∧ V0 stp s0 xs 0 = V0 stp s (xs.drop n) n) ⟨Kpt.refl, s0, h0, rfl⟩ fun n w1 d hn hi => ?_
  obtain ⟨hk, s, hi, he⟩ := hi
  have hs1 := hsat s w1 hi
  ((try simp only [↓Mm, Mm, ↓Mr, Mr, Mb, reduceIte]); repeat ((first | refine ld (by assumption) (by assumption) rfl ?_ | refine X8 (by assumption) (by assumption) rfl ?_ | refine Q6 (by assumption) ?_); (try simp only [↓Mm, Mm, ↓Mr, Mr, Mb, reduceIte])))
  refine Q4 (fun hc => ?_) (fun hc => ?_)
  · have hn' : n < xs.length := by simpa using hc
    refine L2 hv hn' fun p cs hl hlen hr => ?_
    refine Y3 hs1 hl hlen ?_
    refine hf s xs[n] cs w1 _ (List.getElem_mem hn') hk hi hr hlen fun w2 hk2 hi2 => ?_
    rw [List.drop_eq_getElem_cons hn'] at he
    simp only [V0] at he
    refine Q4 (fun hb => ?_) (fun hb => ?_)
    · rw [hb] at he
      have := h w2 hk2
      rw [he] at this
      exact this hi2
    · rw [hb] at he
      ((try simp only [↓Mm, Mm, ↓Mr, Mr, Mb, reduceIte]); repeat ((first | refine ld (by assumption) (by assumption) rfl ?_ | refine X8 (by assumption) (by assumption) rfl ?_ | refine Q6 (by assumption) ?_); (try simp only [↓Mm, Mm, ↓Mr, Mr, Mb, reduceIte])))
      exact Y5 hv.max hn' ⟨hk2, _, hi2, by simpa using he⟩
  · have hn' : ¬ n < xs.length := by simpa using hc
    rw [List.drop_eq_nil_of_le (by omega)] at he
    have := h w1 hk
    rw [he] at this
    exact this hi)
theorem Dc {β : Type} {xs : List Fld} {v f : Value} (stp : β → Fld → Bool × β) (s0 : β) (Inv : β → World → Prop) (D : Nat → Prop) (hsat : ∀ s w, Inv s w → X6 w σ) (h0 : Inv s0 w) (hv : Sl 3 D7 σ v xs)
    (hf : ∀ s x cs (w1 : World) (K : Value → World → Prop), x ∈ xs → Kpt D w w1 → Inv s w1 → D7 σ x cs → cs.length = 3 → (∀ w', Kpt D w w' → Inv (stp s x).2 w' → K (.bool (stp s x).1) w') → Z7 P f [.agg cs.toArray] w1 K)
    (h : ∀ w', Kpt D w w' → Inv (V0 stp s0 xs 0).2 w' → K (.bool (V0 stp s0 xs 0).1.isSome) w') : Q1 P F.g [v, f] w K := P1 (by
  unfold E9
  refine Ud stp s0 Inv D hsat h0 hv hf fun w1 hk hi => ?_
  (try simp only [↓Mm, Mm, ↓Mr, Mr, Mb, reduceIte])
  rw [By]
  exact h w1 hk hi)
theorem Hv {xs : List Fld} {v f : Value} (p : Fld → Bool) (hs : X6 w σ) (hv : Sl 3 D7 σ v xs)
    (hf : ∀ x cs (w1 : World) (K : Value → World → Prop), x ∈ xs → X6 w1 σ → D7 σ x cs → cs.length = 3 → (∀ w', Below w1.heap.size w1 w' → K (.bool (p x)) w') → Z7 P f [.agg cs.toArray] w1 K)
    (h : ∀ w', Below w.heap.size w w' → K (I (L6 (xs.findIdx? p))) w') : Q1 P F.j [v, f] w K := by
  refine Ud (fun (_ : Unit) x => (p x, ())) () (fun _ w' => Below w.heap.size w w') (fun _ => False) (fun _ w' hb => hs.below hb) (Below.refl _ _) hv (fun s x cs w1 K hx hk hi hr hl hK => hf x cs w1 K hx (hs.below hi) hr hl fun w' hb => hK w' (.of_below (bt hi hb)) (bt hi hb)) fun w' hk hi => ?_
  rw [I3]
  simpa using h w' hi
theorem Xx {xs : List Fld} {v f : Value} (p : Fld → Bool) (hs : X6 w σ) (hv : Sl 3 D7 σ v xs)
    (hf : ∀ x cs (w1 : World) (K : Value → World → Prop), x ∈ xs → X6 w1 σ → D7 σ x cs → cs.length = 3 → (∀ w', Below w1.heap.size w1 w' → K (.bool (p x)) w') → Z7 P f [.agg cs.toArray] w1 K)
    (h : ∀ w', Below w.heap.size w w' → K (.bool (xs.any p)) w') : Q1 P F.g [v, f] w K := by
  refine Dc (fun (_ : Unit) x => (p x, ())) () (fun _ w' => Below w.heap.size w w') (fun _ => False) (fun _ w' hb => hs.below hb) (Below.refl _ _) hv (fun s x cs w1 K hx hk hi hr hl hK => hf x cs w1 K hx (hs.below hi) hr hl fun w' hb => hK w' (.of_below (bt hi hb)) (bt hi hb)) fun w' hk hi => ?_
  rw [I3]
  simpa using h w' hi
theorem Hz {β : Type} {xs : List Ins} {v f : Value} (stp : β → Ins → Bool × β) (s0 : β) (Inv : β → World → Prop) (D : Nat → Prop) (hsat : ∀ s w, Inv s w → X6 w σ) (h0 : Inv s0 w) (hv : Sl 3 F5 σ v xs)
    (hf : ∀ s x cs (w1 : World) (K : Value → World → Prop), x ∈ xs → Kpt D w w1 → Inv s w1 → F5 σ x cs → cs.length = 3 → (∀ w', Kpt D w w' → Inv (stp s x).2 w' → K (.bool (stp s x).1) w') → Z7 P f [.agg cs.toArray] w1 K)
    (h : ∀ w', Kpt D w w' → Inv (V0 stp s0 xs 0).2 w' → K (I (L6 (V0 stp s0 xs 0).1)) w') : Q1 P F.y [v, f] w K := Qi (by
  unfold R2
  ((try simp only [↓Mm, Mm, ↓Mr, Mr, Mb, reduceIte]); repeat ((first | refine ld (by assumption) (by assumption) rfl ?_ | refine X8 (by assumption) (by assumption) rfl ?_ | refine Q6 (by assumption) ?_); (try simp only [↓Mm, Mm, ↓Mr, Mr, Mb, reduceIte])))
  refine V2 xs.length (fun n w' => Kpt D w w' ∧ ∃ s, Inv s w' ∧ V0 stp s0 xs 0 = V0 stp s (xs.drop n) n) ⟨Kpt.refl, s0, h0, rfl⟩ fun n w1 d hn hi => ?_
  obtain ⟨hk, s, hi, he⟩ := hi
  have hs1 := hsat s w1 hi
  ((try simp only [↓Mm, Mm, ↓Mr, Mr, Mb, reduceIte]); repeat ((first | refine ld (by assumption) (by assumption) rfl ?_ | refine X8 (by assumption) (by assumption) rfl ?_ | refine Q6 (by assumption) ?_); (try simp only [↓Mm, Mm, ↓Mr, Mr, Mb, reduceIte])))
  refine Q4 (fun hc => ?_) (fun hc => ?_)
  · have hn' : n < xs.length := by simpa using hc
    refine L2 hv hn' fun p cs hl hlen hr => ?_
    refine Y3 hs1 hl hlen ?_
    refine hf s xs[n] cs w1 _ (List.getElem_mem hn') hk hi hr hlen fun w2 hk2 hi2 => ?_
    rw [List.drop_eq_getElem_cons hn'] at he
    simp only [V0] at he
    refine Q4 (fun hb => ?_) (fun hb => ?_)
    · rw [hb] at he
      have := h w2 hk2
      rw [he] at this
      exact this hi2
    · rw [hb] at he
      ((try simp only [↓Mm, Mm, ↓Mr, Mr, Mb, reduceIte]); repeat ((first | refine ld (by assumption) (by assumption) rfl ?_ | refine X8 (by assumption) (by assumption) rfl ?_ | refine Q6 (by assumption) ?_); (try simp only [↓Mm, Mm, ↓Mr, Mr, Mb, reduceIte])))
      exact Y5 hv.max hn' ⟨hk2, _, hi2, by simpa using he⟩
  · have hn' : ¬ n < xs.length := by simpa using hc
    rw [List.drop_eq_nil_of_le (by omega)] at he
    have := h w1 hk
    rw [he] at this
    exact this hi)
theorem Ox {β : Type} {xs : List Ins} {v f : Value} (stp : β → Ins → Bool × β) (s0 : β) (Inv : β → World → Prop) (D : Nat → Prop) (hsat : ∀ s w, Inv s w → X6 w σ) (h0 : Inv s0 w) (hv : Sl 3 F5 σ v xs)
    (hf : ∀ s x cs (w1 : World) (K : Value → World → Prop), x ∈ xs → Kpt D w w1 → Inv s w1 → F5 σ x cs → cs.length = 3 → (∀ w', Kpt D w w' → Inv (stp s x).2 w' → K (.bool (stp s x).1) w') → Z7 P f [.agg cs.toArray] w1 K)
    (h : ∀ w', Kpt D w w' → Inv (V0 stp s0 xs 0).2 w' → K (.bool (V0 stp s0 xs 0).1.isSome) w') : Q1 P F.k [v, f] w K := P3 (by
  unfold E8
  refine Hz stp s0 Inv D hsat h0 hv hf fun w1 hk hi => ?_
  (try simp only [↓Mm, Mm, ↓Mr, Mr, Mb, reduceIte])
  rw [By]
  exact h w1 hk hi)
theorem Og {xs : List Ins} {v f : Value} (p : Ins → Bool) (hs : X6 w σ) (hv : Sl 3 F5 σ v xs)
    (hf : ∀ x cs (w1 : World) (K : Value → World → Prop), x ∈ xs → X6 w1 σ → F5 σ x cs → cs.length = 3 → (∀ w', Below w1.heap.size w1 w' → K (.bool (p x)) w') → Z7 P f [.agg cs.toArray] w1 K)
    (h : ∀ w', Below w.heap.size w w' → K (.bool (xs.any p)) w') : Q1 P F.k [v, f] w K := by
  refine Ox (fun (_ : Unit) x => (p x, ())) () (fun _ w' => Below w.heap.size w w') (fun _ => False) (fun _ w' hb => hs.below hb) (Below.refl _ _) hv (fun s x cs w1 K hx hk hi hr hl hK => hf x cs w1 K hx (hs.below hi) hr hl fun w' hb => hK w' (.of_below (bt hi hb)) (bt hi hb)) fun w' hk hi => ?_
  rw [I3]
  simpa using h w' hi
theorem Rm {β : Type} {xs : List Cat} {v f : Value} (stp : β → Cat → Bool × β) (s0 : β) (Inv : β → World → Prop) (D : Nat → Prop) (hsat : ∀ s w, Inv s w → X6 w σ) (h0 : Inv s0 w) (hv : Sl 4 Qr σ v xs)
    (hf : ∀ s x cs (w1 : World) (K : Value → World → Prop), x ∈ xs → Kpt D w w1 → Inv s w1 → Qr σ x cs → cs.length = 4 → (∀ w', Kpt D w w' → Inv (stp s x).2 w' → K (.bool (stp s x).1) w') → Z7 P f [.agg cs.toArray] w1 K)
    (h : ∀ w', Kpt D w w' → Inv (V0 stp s0 xs 0).2 w' → K (I (L6 (V0 stp s0 xs 0).1)) w') : Q1 P F.z [v, f] w K := A8 (by
  unfold R1
  ((try simp only [↓Mm, Mm, ↓Mr, Mr, Mb, reduceIte]); repeat ((first | refine ld (by assumption) (by assumption) rfl ?_ | refine X8 (by assumption) (by assumption) rfl ?_ | refine Q6 (by assumption) ?_); (try simp only [↓Mm, Mm, ↓Mr, Mr, Mb, reduceIte])))
  refine V2 xs.length (fun n w' => Kpt D w w' ∧ ∃ s, Inv s w' ∧ V0 stp s0 xs 0 = V0 stp s (xs.drop n) n) ⟨Kpt.refl, s0, h0, rfl⟩ fun n w1 d hn hi => ?_
  obtain ⟨hk, s, hi, he⟩ := hi
  have hs1 := hsat s w1 hi
  ((try simp only [↓Mm, Mm, ↓Mr, Mr, Mb, reduceIte]); repeat ((first | refine ld (by assumption) (by assumption) rfl ?_ | refine X8 (by assumption) (by assumption) rfl ?_ | refine Q6 (by assumption) ?_); (try simp only [↓Mm, Mm, ↓Mr, Mr, Mb, reduceIte])))
  refine Q4 (fun hc => ?_) (fun hc => ?_)
  · have hn' : n < xs.length := by simpa using hc
    refine L2 hv hn' fun p cs hl hlen hr => ?_
    refine Y3 hs1 hl hlen ?_
    refine hf s xs[n] cs w1 _ (List.getElem_mem hn') hk hi hr hlen fun w2 hk2 hi2 => ?_
    rw [List.drop_eq_getElem_cons hn'] at he
    simp only [V0] at he
    refine Q4 (fun hb => ?_) (fun hb => ?_)
    · rw [hb] at he
      have := h w2 hk2
      rw [he] at this
      exact this hi2
    · rw [hb] at he
      ((try simp only [↓Mm, Mm, ↓Mr, Mr, Mb, reduceIte]); repeat ((first | refine ld (by assumption) (by assumption) rfl ?_ | refine X8 (by assumption) (by assumption) rfl ?_ | refine Q6 (by assumption) ?_); (try simp only [↓Mm, Mm, ↓Mr, Mr, Mb, reduceIte])))
      exact Y5 hv.max hn' ⟨hk2, _, hi2, by simpa using he⟩
  · have hn' : ¬ n < xs.length := by simpa using hc
    rw [List.drop_eq_nil_of_le (by omega)] at he
    have := h w1 hk
    rw [he] at this
    exact this hi)
theorem Of {β : Type} {xs : List Cat} {v f : Value} (stp : β → Cat → Bool × β) (s0 : β) (Inv : β → World → Prop) (D : Nat → Prop) (hsat : ∀ s w, Inv s w → X6 w σ) (h0 : Inv s0 w) (hv : Sl 4 Qr σ v xs)
    (hf : ∀ s x cs (w1 : World) (K : Value → World → Prop), x ∈ xs → Kpt D w w1 → Inv s w1 → Qr σ x cs → cs.length = 4 → (∀ w', Kpt D w w' → Inv (stp s x).2 w' → K (.bool (stp s x).1) w') → Z7 P f [.agg cs.toArray] w1 K)
    (h : ∀ w', Kpt D w w' → Inv (V0 stp s0 xs 0).2 w' → K (.bool (V0 stp s0 xs 0).1.isSome) w') : Q1 P F.l [v, f] w K := P2 (by
  unfold H0
  refine Rm stp s0 Inv D hsat h0 hv hf fun w1 hk hi => ?_
  (try simp only [↓Mm, Mm, ↓Mr, Mr, Mb, reduceIte])
  rw [By]
  exact h w1 hk hi)
theorem Om {xs : List Cat} {v f : Value} (p : Cat → Bool) (hs : X6 w σ) (hv : Sl 4 Qr σ v xs)
    (hf : ∀ x cs (w1 : World) (K : Value → World → Prop), x ∈ xs → X6 w1 σ → Qr σ x cs → cs.length = 4 → (∀ w', Below w1.heap.size w1 w' → K (.bool (p x)) w') → Z7 P f [.agg cs.toArray] w1 K)
    (h : ∀ w', Below w.heap.size w w' → K (.bool (xs.any p)) w') : Q1 P F.l [v, f] w K := by
  refine Of (fun (_ : Unit) x => (p x, ())) () (fun _ w' => Below w.heap.size w w') (fun _ => False) (fun _ w' hb => hs.below hb) (Below.refl _ _) hv (fun s x cs w1 K hx hk hi hr hl hK => hf x cs w1 K hx (hs.below hi) hr hl fun w' hb => hK w' (.of_below (bt hi hb)) (bt hi hb)) fun w' hk hi => ?_
  rw [I3]
  simpa using h w' hi
theorem Sb {β : Type} {xs : List Cla} {v f : Value} (stp : β → Cla → Bool × β) (s0 : β) (Inv : β → World → Prop) (D : Nat → Prop) (hsat : ∀ s w, Inv s w → X6 w σ) (h0 : Inv s0 w) (hv : Sl 8 U7 σ v xs)
    (hf : ∀ s x cs (w1 : World) (K : Value → World → Prop), x ∈ xs → Kpt D w w1 → Inv s w1 → U7 σ x cs → cs.length = 8 → (∀ w', Kpt D w w' → Inv (stp s x).2 w' → K (.bool (stp s x).1) w') → Z7 P f [.agg cs.toArray] w1 K)
    (h : ∀ w', Kpt D w w' → Inv (V0 stp s0 xs 0).2 w' → K (I (L6 (V0 stp s0 xs 0).1)) w') : Q1 P F.m [v, f] w K := Qh (by
  unfold H9
  ((try simp only [↓Mm, Mm, ↓Mr, Mr, Mb, reduceIte]); repeat ((first | refine ld (by assumption) (by assumption) rfl ?_ | refine X8 (by assumption) (by assumption) rfl ?_ | refine Q6 (by assumption) ?_); (try simp only [↓Mm, Mm, ↓Mr, Mr, Mb, reduceIte])))
  refine V2 xs.length (fun n w' => Kpt D w w' ∧ ∃ s, Inv s w' ∧ V0 stp s0 xs 0 = V0 stp s (xs.drop n) n) ⟨Kpt.refl, s0, h0, rfl⟩ fun n w1 d hn hi => ?_
  obtain ⟨hk, s, hi, he⟩ := hi
  have hs1 := hsat s w1 hi
  ((try simp only [↓Mm, Mm, ↓Mr, Mr, Mb, reduceIte]); repeat ((first | refine ld (by assumption) (by assumption) rfl ?_ | refine X8 (by assumption) (by assumption) rfl ?_ | refine Q6 (by assumption) ?_); (try simp only [↓Mm, Mm, ↓Mr, Mr, Mb, reduceIte])))
  refine Q4 (fun hc => ?_) (fun hc => ?_)
  · have hn' : n < xs.length := by simpa using hc
    refine L2 hv hn' fun p cs hl hlen hr => ?_
    refine Y3 hs1 hl hlen ?_
    refine hf s xs[n] cs w1 _ (List.getElem_mem hn') hk hi hr hlen fun w2 hk2 hi2 => ?_
    rw [List.drop_eq_getElem_cons hn'] at he
    simp only [V0] at he
    refine Q4 (fun hb => ?_) (fun hb => ?_)
    · rw [hb] at he
      have := h w2 hk2
      rw [he] at this
      exact this hi2
    · rw [hb] at he
      ((try simp only [↓Mm, Mm, ↓Mr, Mr, Mb, reduceIte]); repeat ((first | refine ld (by assumption) (by assumption) rfl ?_ | refine X8 (by assumption) (by assumption) rfl ?_ | refine Q6 (by assumption) ?_); (try simp only [↓Mm, Mm, ↓Mr, Mr, Mb, reduceIte])))
      exact Y5 hv.max hn' ⟨hk2, _, hi2, by simpa using he⟩
  · have hn' : ¬ n < xs.length := by simpa using hc
    rw [List.drop_eq_nil_of_le (by omega)] at he
    have := h w1 hk
    rw [he] at this
    exact this hi)
theorem Rd {xs : List Cla} {v f : Value} (p : Cla → Bool) (hs : X6 w σ) (hv : Sl 8 U7 σ v xs)
    (hf : ∀ x cs (w1 : World) (K : Value → World → Prop), x ∈ xs → X6 w1 σ → U7 σ x cs → cs.length = 8 → (∀ w', Below w1.heap.size w1 w' → K (.bool (p x)) w') → Z7 P f [.agg cs.toArray] w1 K)
    (h : ∀ w', Below w.heap.size w w' → K (I (L6 (xs.findIdx? p))) w') : Q1 P F.m [v, f] w K := by
  refine Sb (fun (_ : Unit) x => (p x, ())) () (fun _ w' => Below w.heap.size w w') (fun _ => False) (fun _ w' hb => hs.below hb) (Below.refl _ _) hv (fun s x cs w1 K hx hk hi hr hl hK => hf x cs w1 K hx (hs.below hi) hr hl fun w' hb => hK w' (.of_below (bt hi hb)) (bt hi hb)) fun w' hk hi => ?_
  rw [I3]
  simpa using h w' hi
theorem Ie {β : Type} {xs : List X0} {v f : Value} (stp : β → X0 → Bool × β) (s0 : β) (Inv : β → World → Prop) (D : Nat → Prop) (hsat : ∀ s w, Inv s w → X6 w σ) (h0 : Inv s0 w) (hv : Sl 1 U5 σ v xs)
    (hf : ∀ s x (w1 : World) (K : Value → World → Prop), x ∈ xs → Kpt D w w1 → Inv s w1 → x.length ≤ W3 → (∀ w', Kpt D w w' → Inv (stp s x).2 w' → K (.bool (stp s x).1) w') → Z7 P f [S x] w1 K)
    (h : ∀ w', Kpt D w w' → Inv (V0 stp s0 xs 0).2 w' → K (I (L6 (V0 stp s0 xs 0).1)) w') : Q1 P F.r [v, f] w K := Zr (by
  unfold B2
  ((try simp only [↓Mm, Mm, ↓Mr, Mr, Mb, reduceIte]); repeat ((first | refine ld (by assumption) (by assumption) rfl ?_ | refine X8 (by assumption) (by assumption) rfl ?_ | refine Q6 (by assumption) ?_); (try simp only [↓Mm, Mm, ↓Mr, Mr, Mb, reduceIte])))
  refine V2 xs.length (fun n w' => Kpt D w w' ∧ ∃ s, Inv s w' ∧ V0 stp s0 xs 0 = V0 stp s (xs.drop n) n) ⟨Kpt.refl, s0, h0, rfl⟩ fun n w1 d hn hi => ?_
  obtain ⟨hk, s, hi, he⟩ := hi
  have hs1 := hsat s w1 hi
  ((try simp only [↓Mm, Mm, ↓Mr, Mr, Mb, reduceIte]); repeat ((first | refine ld (by assumption) (by assumption) rfl ?_ | refine X8 (by assumption) (by assumption) rfl ?_ | refine Q6 (by assumption) ?_); (try simp only [↓Mm, Mm, ↓Mr, Mr, Mb, reduceIte])))
  refine Q4 (fun hc => ?_) (fun hc => ?_)
  · have hn' : n < xs.length := by simpa using hc
    refine L2 hv hn' fun p cs hl hlen hr => ?_
    obtain ⟨rfl, hbig⟩ := hr
    refine X8 hs1 hl rfl ?_
    refine hf s xs[n] w1 _ (List.getElem_mem hn') hk hi hbig fun w2 hk2 hi2 => ?_
    rw [List.drop_eq_getElem_cons hn'] at he
    simp only [V0] at he
    refine Q4 (fun hb => ?_) (fun hb => ?_)
    · rw [hb] at he
      have := h w2 hk2
      rw [he] at this
      exact this hi2
    · rw [hb] at he
      ((try simp only [↓Mm, Mm, ↓Mr, Mr, Mb, reduceIte]); repeat ((first | refine ld (by assumption) (by assumption) rfl ?_ | refine X8 (by assumption) (by assumption) rfl ?_ | refine Q6 (by assumption) ?_); (try simp only [↓Mm, Mm, ↓Mr, Mr, Mb, reduceIte])))
      exact Y5 hv.max hn' ⟨hk2, _, hi2, by simpa using he⟩
  · have hn' : ¬ n < xs.length := by simpa using hc
    rw [List.drop_eq_nil_of_le (by omega)] at he
    have := h w1 hk
    rw [he] at this
    exact this hi)
theorem Ku {xs : List X0} {v f : Value} (p : X0 → Bool) (hs : X6 w σ) (hv : Sl 1 U5 σ v xs)
    (hf : ∀ x (w1 : World) (K : Value → World → Prop), x ∈ xs → X6 w1 σ → x.length ≤ W3 → (∀ w', Below w1.heap.size w1 w' → K (.bool (p x)) w') → Z7 P f [S x] w1 K)
    (h : ∀ w', Below w.heap.size w w' → K (I (L6 (xs.findIdx? p))) w') : Q1 P F.r [v, f] w K := by
  refine Ie (fun (_ : Unit) x => (p x, ())) () (fun _ w' => Below w.heap.size w w') (fun _ => False) (fun _ w' hb => hs.below hb) (Below.refl _ _) hv (fun s x w1 K hx hk hi hr hK => hf x w1 K hx (hs.below hi) hr fun w' hb => hK w' (.of_below (bt hi hb)) (bt hi hb)) fun w' hk hi => ?_
  rw [I3]
  simpa using h w' hi
theorem Q2l {α : Type} (p : α → Bool) (xs : List α) : decide ((0 : Int) ≤ L6 (xs.findIdx? p)) = xs.any p := by
  rw [Bool.eq_iff_iff, List.any_eq_true]
  simp only [decide_eq_true_eq]
  cases h : xs.findIdx? p with
  | none =>
    simp only [L6]
    constructor
    · intro h; omega
    · rintro ⟨x, hx, hp⟩; have := List.findIdx?_eq_none_iff.1 h x hx; rw [hp] at this; cases this
  | some i =>
    simp only [L6]
    obtain ⟨hi, hp, _⟩ := List.findIdx?_eq_some_iff_getElem.1 h
    exact ⟨fun _ => ⟨xs[i], List.getElem_mem hi, hp⟩, fun _ => by omega⟩
theorem C5 {xs : List X0} {v f : Value} (p : X0 → Bool) (hs : X6 w σ) (hv : Sl 1 U5 σ v xs)
    (hf : ∀ x (w1 : World) (K : Value → World → Prop), x ∈ xs → X6 w1 σ → x.length ≤ W3 → (∀ w', Below w1.heap.size w1 w' → K (.bool (p x)) w') → Z7 P f [S x] w1 K)
    (h : ∀ w', Below w.heap.size w w' → K (.bool (xs.any p)) w') : Q1 P F.c [v, f] w K := Xq (by
  unfold S8
  refine Ku p hs hv hf fun w1 hb => ?_
  (try simp only [↓Mm, Mm, ↓Mr, Mr, Mb, reduceIte])
  rw [Q2l]
  exact h w1 hb)
theorem Q0M {xs : List X0} {v : Value} {x : X0} (hs : X6 w σ) (hv : Sl 1 U5 σ v xs)
    (h : K (I (L6 (xs.findIdx? fun y => decide (x = y)))) w) : Q1 P F.am [v, S x] w K := Wl (by
  unfold I4
  ((try simp only [↓Mm, Mm, ↓Mr, Mr, Mb, reduceIte]); repeat ((first | refine ld (by assumption) (by assumption) rfl ?_ | refine X8 (by assumption) (by assumption) rfl ?_ | refine Q6 (by assumption) ?_); (try simp only [↓Mm, Mm, ↓Mr, Mr, Mb, reduceIte])))
  refine V2 xs.length (fun n w' => w = w' ∧ (xs.take n).any (fun y => decide (x = y)) = false) ⟨rfl, rfl⟩ fun n w1 d hn hi => ?_
  obtain ⟨rfl, hi⟩ := hi
  ((try simp only [↓Mm, Mm, ↓Mr, Mr, Mb, reduceIte]); repeat ((first | refine ld (by assumption) (by assumption) rfl ?_ | refine X8 (by assumption) (by assumption) rfl ?_ | refine Q6 (by assumption) ?_); (try simp only [↓Mm, Mm, ↓Mr, Mr, Mb, reduceIte])))
  refine Q4 (fun hc => ?_) (fun hc => ?_)
  · have hn' : n < xs.length := by simpa using hc
    refine L2 hv hn' fun p cs hl hlen hr => ?_
    obtain ⟨rfl, hbig⟩ := hr
    ((try simp only [↓Mm, Mm, ↓Mr, Mr, Mb, reduceIte]); repeat ((first | refine ld (by assumption) (by assumption) rfl ?_ | refine X8 (by assumption) (by assumption) rfl ?_ | refine Q6 (by assumption) ?_); (try simp only [↓Mm, Mm, ↓Mr, Mr, Mb, reduceIte])))
    refine Q4 (fun hb => ?_) (fun hb => ?_)
    · have : xs.findIdx? (fun y => decide (x = y)) = some n := by
        rw [List.findIdx?_eq_some_iff_getElem]
        refine ⟨hn', hb, fun j hj => ?_⟩
        have := List.any_eq_false.1 hi (xs[j]) (List.mem_take_iff_getElem.2 ⟨j, by omega, rfl⟩)
        exact this
      rw [this] at h; exact h
    · ((try simp only [↓Mm, Mm, ↓Mr, Mr, Mb, reduceIte]); repeat ((first | refine ld (by assumption) (by assumption) rfl ?_ | refine X8 (by assumption) (by assumption) rfl ?_ | refine Q6 (by assumption) ?_); (try simp only [↓Mm, Mm, ↓Mr, Mr, Mb, reduceIte])))
      exact Y5 hv.max hn' ⟨rfl, by rw [M8 hn', hi, hb]; rfl⟩
  · have hn' : ¬ n < xs.length := by simpa using hc
    rw [O9 hn'] at hi
    have : xs.findIdx? (fun y => decide (x = y)) = none := by
      rw [List.findIdx?_eq_none_iff]; intro y hy; simpa using List.any_eq_false.1 hi y hy
    rw [this] at h; exact h)
theorem Th {xs : List X0} {v : Value} {x : X0} (hs : X6 w σ) (hv : Sl 1 U5 σ v xs)
    (h : K (.bool (xs.any fun y => decide (x = y))) w) : Q1 P F.a9 [v, S x] w K := Zt (by
  unfold B7
  refine Q0M hs hv ?_
  (try simp only [↓Mm, Mm, ↓Mr, Mr, Mb, reduceIte])
  rw [Q2l]
  exact h)
end Go.Proofs.YtdnfaboigajkhaaGreatDoor

namespace Go.Emb
abbrev Q5.Le (σ σ' : Q5) : Prop := ∀ b o, σ b = some o → σ' b = some o
def E5 {α : Type} (f : α → List UInt8) : List α → List α → Bool
  | _, [] => true
  | seen, x :: r => !(seen.any fun y => decide (f y = f x)) && E5 f (seen ++ [x]) r
theorem Jb {α : Type} (p : α → Bool) (xs : List α) : (!xs.any fun x => !p x) = xs.all p := by
  rw [List.all_eq_not_any_not]
end Go.Emb
namespace Go.Proofs.YtdnfaboigajkhaaGreatDoor
open Go.Emb Go.RowKit Go.Kd Go.Hm
variable {w : World} {K : Value → World → Prop} {σ : Q5}
theorem Kj {xs : List Hm.Met} {v : Value} {fn : Fn} {fs cps : Array Value} (p : Hm.Met → Bool) (hs : X6 w σ) (hv : Sl 7 M9 σ v xs)
    (hf : ∀ (σ1 : Q5) x cs (w1 : World) (K : Value → World → Prop), σ.Le σ1 → x ∈ xs → X6 w1 σ1 → M9 σ1 x cs → cs.length = 7 → (∀ w', Below w1.heap.size w1 w' → K (.bool (p x)) w') → Z7 P (.func fn fs cps) [.agg cs.toArray] w1 K)
    (h : ∀ w', Below w.heap.size w w' → K (.bool (xs.all p)) w') : Q1 P F.ah [v, .func fn fs cps] w K := Oq (by
  unfold Yh
  refine N4 hs fun a w1 σ1 hk ha => ?_
  simp only [Value.cells] at ha
  ((try simp only [↓Mm, Mm, ↓Mr, Mr, Mb, reduceIte]); repeat ((first | refine ld (by assumption) (by assumption) rfl ?_ | refine X8 (by assumption) (by assumption) rfl ?_ | refine Q6 (by assumption) ?_); (try simp only [↓Mm, Mm, ↓Mr, Mr, Mb, reduceIte])))
  refine H6 (fun x => !p x) hk.sat (hv.up hk) (fun x cs w2 K hx hs2 hr hl hK => ?_) fun w2 hb => ?_
  · refine J4 (Mv ?_)
    unfold Qn
    refine N4 hs2 fun b w3 σ3 hk3 hb3 => ?_
    refine X8 hk3.sat (ha.up hk3) rfl ?_
    refine Y3 hk3.sat hb3 hl ?_
    refine hf σ3 x _ w3 _ (fun b o e => hk3.le b o (hk.le b o e)) hx hk3.sat (Rep.up hk3.le hr) hl fun w4 hb4 => ?_
    (try simp only [↓Mm, Mm, ↓Mr, Mr, Mb, reduceIte])
    exact hK w4 (bt hk3.bel hb4)
  · (try simp only [↓Mm, Mm, ↓Mr, Mr, Mb, reduceIte])
    rw [Jb]
    exact h w2 (bt hk.bel hb))
theorem Tl {xs : List Fld} {v : Value} {fn : Fn} {fs cps : Array Value} (p : Fld → Bool) (hs : X6 w σ) (hv : Sl 3 D7 σ v xs)
    (hf : ∀ (σ1 : Q5) x cs (w1 : World) (K : Value → World → Prop), σ.Le σ1 → x ∈ xs → X6 w1 σ1 → D7 σ1 x cs → cs.length = 3 → (∀ w', Below w1.heap.size w1 w' → K (.bool (p x)) w') → Z7 P (.func fn fs cps) [.agg cs.toArray] w1 K)
    (h : ∀ w', Below w.heap.size w w' → K (.bool (xs.all p)) w') : Q1 P F.al [v, .func fn fs cps] w K := Eb (by
  unfold Zi
  refine N4 hs fun a w1 σ1 hk ha => ?_
  simp only [Value.cells] at ha
  ((try simp only [↓Mm, Mm, ↓Mr, Mr, Mb, reduceIte]); repeat ((first | refine ld (by assumption) (by assumption) rfl ?_ | refine X8 (by assumption) (by assumption) rfl ?_ | refine Q6 (by assumption) ?_); (try simp only [↓Mm, Mm, ↓Mr, Mr, Mb, reduceIte])))
  refine Xx (fun x => !p x) hk.sat (hv.up hk) (fun x cs w2 K hx hs2 hr hl hK => ?_) fun w2 hb => ?_
  · refine J4 (Nu ?_)
    unfold Xj
    refine N4 hs2 fun b w3 σ3 hk3 hb3 => ?_
    refine X8 hk3.sat (ha.up hk3) rfl ?_
    refine Y3 hk3.sat hb3 hl ?_
    refine hf σ3 x _ w3 _ (fun b o e => hk3.le b o (hk.le b o e)) hx hk3.sat (Rep.up hk3.le hr) hl fun w4 hb4 => ?_
    (try simp only [↓Mm, Mm, ↓Mr, Mr, Mb, reduceIte])
    exact hK w4 (bt hk3.bel hb4)
  · (try simp only [↓Mm, Mm, ↓Mr, Mr, Mb, reduceIte])
    rw [Jb]
    exact h w2 (bt hk.bel hb))
theorem Tg {xs : List Ins} {v : Value} {fn : Fn} {fs cps : Array Value} (p : Ins → Bool) (hs : X6 w σ) (hv : Sl 3 F5 σ v xs)
    (hf : ∀ (σ1 : Q5) x cs (w1 : World) (K : Value → World → Prop), σ.Le σ1 → x ∈ xs → X6 w1 σ1 → F5 σ1 x cs → cs.length = 3 → (∀ w', Below w1.heap.size w1 w' → K (.bool (p x)) w') → Z7 P (.func fn fs cps) [.agg cs.toArray] w1 K)
    (h : ∀ w', Below w.heap.size w w' → K (.bool (xs.all p)) w') : Q1 P F.an [v, .func fn fs cps] w K := Dz (by
  unfold Zk
  refine N4 hs fun a w1 σ1 hk ha => ?_
  simp only [Value.cells] at ha
  ((try simp only [↓Mm, Mm, ↓Mr, Mr, Mb, reduceIte]); repeat ((first | refine ld (by assumption) (by assumption) rfl ?_ | refine X8 (by assumption) (by assumption) rfl ?_ | refine Q6 (by assumption) ?_); (try simp only [↓Mm, Mm, ↓Mr, Mr, Mb, reduceIte])))
  refine Og (fun x => !p x) hk.sat (hv.up hk) (fun x cs w2 K hx hs2 hr hl hK => ?_) fun w2 hb => ?_
  · refine J4 (Ni ?_)
    unfold Xh
    refine N4 hs2 fun b w3 σ3 hk3 hb3 => ?_
    refine X8 hk3.sat (ha.up hk3) rfl ?_
    refine Y3 hk3.sat hb3 hl ?_
    refine hf σ3 x _ w3 _ (fun b o e => hk3.le b o (hk.le b o e)) hx hk3.sat (Rep.up hk3.le hr) hl fun w4 hb4 => ?_
    (try simp only [↓Mm, Mm, ↓Mr, Mr, Mb, reduceIte])
    exact hK w4 (bt hk3.bel hb4)
  · (try simp only [↓Mm, Mm, ↓Mr, Mr, Mb, reduceIte])
    rw [Jb]
    exact h w2 (bt hk.bel hb))
theorem Ti {xs : List Cat} {v : Value} {fn : Fn} {fs cps : Array Value} (p : Cat → Bool) (hs : X6 w σ) (hv : Sl 4 Qr σ v xs)
    (hf : ∀ (σ1 : Q5) x cs (w1 : World) (K : Value → World → Prop), σ.Le σ1 → x ∈ xs → X6 w1 σ1 → Qr σ1 x cs → cs.length = 4 → (∀ w', Below w1.heap.size w1 w' → K (.bool (p x)) w') → Z7 P (.func fn fs cps) [.agg cs.toArray] w1 K)
    (h : ∀ w', Below w.heap.size w w' → K (.bool (xs.all p)) w') : Q1 P F.ao [v, .func fn fs cps] w K := Ea (by
  unfold Zj
  refine N4 hs fun a w1 σ1 hk ha => ?_
  simp only [Value.cells] at ha
  ((try simp only [↓Mm, Mm, ↓Mr, Mr, Mb, reduceIte]); repeat ((first | refine ld (by assumption) (by assumption) rfl ?_ | refine X8 (by assumption) (by assumption) rfl ?_ | refine Q6 (by assumption) ?_); (try simp only [↓Mm, Mm, ↓Mr, Mr, Mb, reduceIte])))
  refine Om (fun x => !p x) hk.sat (hv.up hk) (fun x cs w2 K hx hs2 hr hl hK => ?_) fun w2 hb => ?_
  · refine J4 (Nw ?_)
    unfold Xi
    refine N4 hs2 fun b w3 σ3 hk3 hb3 => ?_
    refine X8 hk3.sat (ha.up hk3) rfl ?_
    refine Y3 hk3.sat hb3 hl ?_
    refine hf σ3 x _ w3 _ (fun b o e => hk3.le b o (hk.le b o e)) hx hk3.sat (Rep.up hk3.le hr) hl fun w4 hb4 => ?_
    (try simp only [↓Mm, Mm, ↓Mr, Mr, Mb, reduceIte])
    exact hK w4 (bt hk3.bel hb4)
  · (try simp only [↓Mm, Mm, ↓Mr, Mr, Mb, reduceIte])
    rw [Jb]
    exact h w2 (bt hk.bel hb))
theorem Rb {xs : List X0} {v : Value} {fn : Fn} {fs cps : Array Value} (p : X0 → Bool) (hs : X6 w σ) (hv : Sl 1 U5 σ v xs)
    (hf : ∀ (σ1 : Q5) x (w1 : World) (K : Value → World → Prop), σ.Le σ1 → x ∈ xs → X6 w1 σ1 → x.length ≤ W3 → (∀ w', Below w1.heap.size w1 w' → K (.bool (p x)) w') → Z7 P (.func fn fs cps) [S x] w1 K)
    (h : ∀ w', Below w.heap.size w w' → K (.bool (xs.all p)) w') : Q1 P F.a3 [v, .func fn fs cps] w K := St (by
  unfold Uu
  refine N4 hs fun a w1 σ1 hk ha => ?_
  simp only [Value.cells] at ha
  ((try simp only [↓Mm, Mm, ↓Mr, Mr, Mb, reduceIte]); repeat ((first | refine ld (by assumption) (by assumption) rfl ?_ | refine X8 (by assumption) (by assumption) rfl ?_ | refine Q6 (by assumption) ?_); (try simp only [↓Mm, Mm, ↓Mr, Mr, Mb, reduceIte])))
  refine C5 (fun x => !p x) hk.sat (hv.up hk) (fun x w2 K hx hs2 hr hK => ?_) fun w2 hb => ?_
  · refine J4 (Ez ?_)
    unfold Jf
    refine X8 hs2 ha rfl ?_
    refine hf σ1 x w2 _ hk.le hx hs2 hr fun w4 hb4 => ?_
    (try simp only [↓Mm, Mm, ↓Mr, Mr, Mb, reduceIte])
    exact hK w4 hb4
  · (try simp only [↓Mm, Mm, ↓Mr, Mr, Mb, reduceIte])
    rw [Jb]
    exact h w2 (bt hk.bel hb))
theorem Tj {xs : List Hm.Met} {v : Value} {fn : Fn} {fs cps : Array Value} (f : Hm.Met → X0) (hs : X6 w σ) (hv : Sl 7 M9 σ v xs)
    (hf : ∀ (σ1 : Q5) x cs (w1 : World) (K : Value → World → Prop), σ.Le σ1 → X6 w1 σ1 → M9 σ1 x cs → cs.length = 7 → (∀ w', Below w1.heap.size w1 w' → K (S (f x)) w') → Z7 P (.func fn fs cps) [.agg cs.toArray] w1 K)
    (h : ∀ w', Below w.heap.size w w' → K (.bool (E5 f [] xs)) w') : Q1 P F.ak [v, .func fn fs cps] w K := Du (by
  unfold Zn
  refine N4 hs fun a w1 σ1 hk ha => ?_
  simp only [Value.cells] at ha
  have hs1 := hk.sat
  replace hv := hv.up hk
  ((try simp only [↓Mm, Mm, ↓Mr, Mr, Mb, reduceIte]); repeat ((first | refine ld (by assumption) (by assumption) rfl ?_ | refine X8 (by assumption) (by assumption) rfl ?_ | refine Q6 (by assumption) ?_); (try simp only [↓Mm, Mm, ↓Mr, Mr, Mb, reduceIte])))
  refine V2 xs.length (fun n w' => Below w1.heap.size w1 w' ∧ E5 f [] xs = E5 f (xs.take n) (xs.drop n)) ⟨Below.refl _ _, rfl⟩ fun n w2 d hn hi => ?_
  obtain ⟨hb, he⟩ := hi
  have hs2 := hs1.below hb
  ((try simp only [↓Mm, Mm, ↓Mr, Mr, Mb, reduceIte]); repeat ((first | refine ld (by assumption) (by assumption) rfl ?_ | refine X8 (by assumption) (by assumption) rfl ?_ | refine Q6 (by assumption) ?_); (try simp only [↓Mm, Mm, ↓Mr, Mr, Mb, reduceIte])))
  refine Q4 (fun hc => ?_) (fun hc => ?_)
  · have hn' : n < xs.length := by simpa using hc
    rw [List.drop_eq_getElem_cons hn'] at he
    simp only [E5] at he
    refine L2 hv hn' fun p cs hl hlen hr => ?_
    refine Y3 hs2 hl hlen ?_
    refine Y0 hs2 (by rfl) hlen (Rep.one hr) fun q w3 σ3 hk3 hq => ?_
    refine Ry (hv.up hk3) none (some (I n)) 0 n (.inl ⟨rfl, rfl⟩) (.inr rfl) (by omega) (by omega) fun v' hv' => ?_
    ((try simp only [↓Mm, Mm, ↓Mr, Mr, Mb, reduceIte]); repeat ((first | refine ld (by assumption) (by assumption) rfl ?_ | refine X8 (by assumption) (by assumption) rfl ?_ | refine Q6 (by assumption) ?_); (try simp only [↓Mm, Mm, ↓Mr, Mr, Mb, reduceIte])))
    refine H6 (fun y => decide (f y = f xs[n])) hk3.sat hv' (fun y ys w4 K hy hs4 hry hyl hK => ?_) fun w4 hb4 => ?_
    · refine J4 (Nj ?_)
      unfold Xp
      refine N4 hs4 fun b w5 σ5 hk5 hb5 => ?_
      have ha5 := (ha.up hk3).up hk5
      have hq5 := hq.up hk5
      have hle5 : σ.Le σ5 := fun b o e => hk5.le b o (hk3.le b o (hk.le b o e))
      refine Lq (Below.refl _ _) ?_
      refine X2 (.func fn fs cps) (fun w hb => X8 (hk5.sat.below hb) ha5 rfl (X5 rfl)) ?_
      refine X2 (.agg ys.toArray) (fun w hb => Y3 (hk5.sat.below hb) hb5 hyl (X5 rfl)) ?_
      refine X2 (S (f y)) (fun t t' w hb e e' => by rw [e, e']; exact hf σ5 y ys w _ hle5 (hk5.sat.below hb) (Rep.up hk5.le hry) hyl fun w' hb' => Q0h hb' rfl) ?_
      refine X2 (.func fn fs cps) (fun w hb => X8 (hk5.sat.below hb) ha5 rfl (X5 rfl)) ?_
      refine X2 (.agg cs.toArray) (fun w hb => Y3 (hk5.sat.below hb) hq5 hlen (X5 rfl)) ?_
      rintro _ _ _ _ _ w6 hb6 rfl rfl rfl rfl rfl
      refine hf σ5 xs[n] cs w6 _ hle5 (hk5.sat.below hb6) (Rep.up (fun b o e => hk5.le b o (hk3.le b o e)) hr) hlen fun w7 hb7 => ?_
      (try simp only [↓Mm, Mm, ↓Mr, Mr, Mb, reduceIte])
      exact hK w7 (bt (bt hk5.bel hb6) hb7)
    · have hb4' := bt hb (bt hk3.bel hb4)
      simp only [List.drop_zero, Nat.sub_zero] at *
      refine Q4 (fun hh => ?_) (fun hh => ?_)
      · rw [hh] at he
        have := h w4 (bt hk.bel hb4')
        rw [he] at this; exact this
      · rw [hh] at he
        ((try simp only [↓Mm, Mm, ↓Mr, Mr, Mb, reduceIte]); repeat ((first | refine ld (by assumption) (by assumption) rfl ?_ | refine X8 (by assumption) (by assumption) rfl ?_ | refine Q6 (by assumption) ?_); (try simp only [↓Mm, Mm, ↓Mr, Mr, Mb, reduceIte])))
        refine Y5 hv.max hn' ⟨hb4', ?_⟩
        rw [he, List.take_add_one, List.getElem?_eq_getElem hn']; rfl
  · have hn' : ¬ n < xs.length := by simpa using hc
    rw [List.drop_eq_nil_of_le (by omega)] at he
    have := h w2 (bt hk.bel hb)
    rw [he] at this; exact this)
theorem Al {xs : List Fld} {v : Value} {fn : Fn} {fs cps : Array Value} (f : Fld → X0) (hs : X6 w σ) (hv : Sl 3 D7 σ v xs)
    (hf : ∀ (σ1 : Q5) x cs (w1 : World) (K : Value → World → Prop), σ.Le σ1 → X6 w1 σ1 → D7 σ1 x cs → cs.length = 3 → (∀ w', Below w1.heap.size w1 w' → K (S (f x)) w') → Z7 P (.func fn fs cps) [.agg cs.toArray] w1 K)
    (h : ∀ w', Below w.heap.size w w' → K (.bool (E5 f [] xs)) w') : Q1 P F.au [v, .func fn fs cps] w K := Hr (by
  unfold Jh
  refine N4 hs fun a w1 σ1 hk ha => ?_
  simp only [Value.cells] at ha
  have hs1 := hk.sat
  replace hv := hv.up hk
  ((try simp only [↓Mm, Mm, ↓Mr, Mr, Mb, reduceIte]); repeat ((first | refine ld (by assumption) (by assumption) rfl ?_ | refine X8 (by assumption) (by assumption) rfl ?_ | refine Q6 (by assumption) ?_); (try simp only [↓Mm, Mm, ↓Mr, Mr, Mb, reduceIte])))
  refine V2 xs.length (fun n w' => Below w1.heap.size w1 w' ∧ E5 f [] xs = E5 f (xs.take n) (xs.drop n)) ⟨Below.refl _ _, rfl⟩ fun n w2 d hn hi => ?_
  obtain ⟨hb, he⟩ := hi
  have hs2 := hs1.below hb
  ((try simp only [↓Mm, Mm, ↓Mr, Mr, Mb, reduceIte]); repeat ((first | refine ld (by assumption) (by assumption) rfl ?_ | refine X8 (by assumption) (by assumption) rfl ?_ | refine Q6 (by assumption) ?_); (try simp only [↓Mm, Mm, ↓Mr, Mr, Mb, reduceIte])))
  refine Q4 (fun hc => ?_) (fun hc => ?_)
  · have hn' : n < xs.length := by simpa using hc
    rw [List.drop_eq_getElem_cons hn'] at he
    simp only [E5] at he
    refine L2 hv hn' fun p cs hl hlen hr => ?_
    refine Y3 hs2 hl hlen ?_
    refine Y0 hs2 (by rfl) hlen (Rep.one hr) fun q w3 σ3 hk3 hq => ?_
    refine Ry (hv.up hk3) none (some (I n)) 0 n (.inl ⟨rfl, rfl⟩) (.inr rfl) (by omega) (by omega) fun v' hv' => ?_
    ((try simp only [↓Mm, Mm, ↓Mr, Mr, Mb, reduceIte]); repeat ((first | refine ld (by assumption) (by assumption) rfl ?_ | refine X8 (by assumption) (by assumption) rfl ?_ | refine Q6 (by assumption) ?_); (try simp only [↓Mm, Mm, ↓Mr, Mr, Mb, reduceIte])))
    refine Xx (fun y => decide (f y = f xs[n])) hk3.sat hv' (fun y ys w4 K hy hs4 hry hyl hK => ?_) fun w4 hb4 => ?_
    · refine J4 (Dj ?_)
      unfold Yp
      refine N4 hs4 fun b w5 σ5 hk5 hb5 => ?_
      have ha5 := (ha.up hk3).up hk5
      have hq5 := hq.up hk5
      have hle5 : σ.Le σ5 := fun b o e => hk5.le b o (hk3.le b o (hk.le b o e))
      refine Lq (Below.refl _ _) ?_
      refine X2 (.func fn fs cps) (fun w hb => X8 (hk5.sat.below hb) ha5 rfl (X5 rfl)) ?_
      refine X2 (.agg ys.toArray) (fun w hb => Y3 (hk5.sat.below hb) hb5 hyl (X5 rfl)) ?_
      refine X2 (S (f y)) (fun t t' w hb e e' => by rw [e, e']; exact hf σ5 y ys w _ hle5 (hk5.sat.below hb) (Rep.up hk5.le hry) hyl fun w' hb' => Q0h hb' rfl) ?_
      refine X2 (.func fn fs cps) (fun w hb => X8 (hk5.sat.below hb) ha5 rfl (X5 rfl)) ?_
      refine X2 (.agg cs.toArray) (fun w hb => Y3 (hk5.sat.below hb) hq5 hlen (X5 rfl)) ?_
      rintro _ _ _ _ _ w6 hb6 rfl rfl rfl rfl rfl
      refine hf σ5 xs[n] cs w6 _ hle5 (hk5.sat.below hb6) (Rep.up (fun b o e => hk5.le b o (hk3.le b o e)) hr) hlen fun w7 hb7 => ?_
      (try simp only [↓Mm, Mm, ↓Mr, Mr, Mb, reduceIte])
      exact hK w7 (bt (bt hk5.bel hb6) hb7)
    · have hb4' := bt hb (bt hk3.bel hb4)
      simp only [List.drop_zero, Nat.sub_zero] at *
      refine Q4 (fun hh => ?_) (fun hh => ?_)
      · rw [hh] at he
        have := h w4 (bt hk.bel hb4')
        rw [he] at this; exact this
      · rw [hh] at he
        ((try simp only [↓Mm, Mm, ↓Mr, Mr, Mb, reduceIte]); repeat ((first | refine ld (by assumption) (by assumption) rfl ?_ | refine X8 (by assumption) (by assumption) rfl ?_ | refine Q6 (by assumption) ?_); (try simp only [↓Mm, Mm, ↓Mr, Mr, Mb, reduceIte])))
        refine Y5 hv.max hn' ⟨hb4', ?_⟩
        rw [he, List.take_add_one, List.getElem?_eq_getElem hn']; rfl
  · have hn' : ¬ n < xs.length := by simpa using hc
    rw [List.drop_eq_nil_of_le (by omega)] at he
    have := h w2 (bt hk.bel hb)
    rw [he] at this; exact this)
theorem Q1Y {xs : List X0} {v : Value} {fn : Fn} {fs cps : Array Value} (f : X0 → X0) (hs : X6 w σ) (hv : Sl 1 U5 σ v xs)
    (hf : ∀ (σ1 : Q5) x (w1 : World) (K : Value → World → Prop), σ.Le σ1 → X6 w1 σ1 → x.length ≤ W3 → (∀ w', Below w1.heap.size w1 w' → K (S (f x)) w') → Z7 P (.func fn fs cps) [S x] w1 K)
    (h : ∀ w', Below w.heap.size w w' → K (.bool (E5 f [] xs)) w') : Q1 P F.aG [v, .func fn fs cps] w K := Gl (by
  unfold La
  refine N4 hs fun a w1 σ1 hk ha => ?_
  simp only [Value.cells] at ha
  have hs1 := hk.sat
  replace hv := hv.up hk
  ((try simp only [↓Mm, Mm, ↓Mr, Mr, Mb, reduceIte]); repeat ((first | refine ld (by assumption) (by assumption) rfl ?_ | refine X8 (by assumption) (by assumption) rfl ?_ | refine Q6 (by assumption) ?_); (try simp only [↓Mm, Mm, ↓Mr, Mr, Mb, reduceIte])))
  refine V2 xs.length (fun n w' => Below w1.heap.size w1 w' ∧ E5 f [] xs = E5 f (xs.take n) (xs.drop n)) ⟨Below.refl _ _, rfl⟩ fun n w2 d hn hi => ?_
  obtain ⟨hb, he⟩ := hi
  have hs2 := hs1.below hb
  ((try simp only [↓Mm, Mm, ↓Mr, Mr, Mb, reduceIte]); repeat ((first | refine ld (by assumption) (by assumption) rfl ?_ | refine X8 (by assumption) (by assumption) rfl ?_ | refine Q6 (by assumption) ?_); (try simp only [↓Mm, Mm, ↓Mr, Mr, Mb, reduceIte])))
  refine Q4 (fun hc => ?_) (fun hc => ?_)
  · have hn' : n < xs.length := by simpa using hc
    rw [List.drop_eq_getElem_cons hn'] at he
    simp only [E5] at he
    refine L2 hv hn' fun p cs hl hlen hr => ?_
    obtain ⟨rfl, hbig⟩ := hr
    refine X8 hs2 hl rfl ?_
    refine U1 hs2 (by rfl) rfl rfl fun q w3 σ3 hk3 hq => ?_
    refine Ry (hv.up hk3) none (some (I n)) 0 n (.inl ⟨rfl, rfl⟩) (.inr rfl) (by omega) (by omega) fun v' hv' => ?_
    ((try simp only [↓Mm, Mm, ↓Mr, Mr, Mb, reduceIte]); repeat ((first | refine ld (by assumption) (by assumption) rfl ?_ | refine X8 (by assumption) (by assumption) rfl ?_ | refine Q6 (by assumption) ?_); (try simp only [↓Mm, Mm, ↓Mr, Mr, Mb, reduceIte])))
    refine C5 (fun y => decide (f y = f xs[n])) hk3.sat hv' (fun y w4 K hy hs4 hry hK => ?_) fun w4 hb4 => ?_
    · refine J4 (Rp ?_)
      unfold Ju
      have ha5 := ha.up hk3
      have hle5 : σ.Le σ3 := fun b o e => hk3.le b o (hk.le b o e)
      refine Lq (Below.refl _ _) ?_
      refine X2 (.func fn fs cps) (fun w hb => X8 (hs4.below hb) ha5 rfl (X5 rfl)) ?_
      refine X2 (S (f y)) (fun t w hb e => by rw [e]; exact hf σ3 y w _ hle5 (hs4.below hb) hry fun w' hb' => Q0h hb' rfl) ?_
      refine X2 (.func fn fs cps) (fun w hb => X8 (hs4.below hb) ha5 rfl (X5 rfl)) ?_
      refine X2 (S xs[n]) (fun w hb => X8 (hs4.below hb) hq rfl (X5 rfl)) ?_
      rintro _ _ _ _ w6 hb6 rfl rfl rfl rfl
      refine hf σ3 xs[n] w6 _ hle5 (hs4.below hb6) hbig fun w7 hb7 => ?_
      (try simp only [↓Mm, Mm, ↓Mr, Mr, Mb, reduceIte])
      exact hK w7 (bt hb6 hb7)
    · have hb4' := bt hb (bt hk3.bel hb4)
      simp only [List.drop_zero, Nat.sub_zero] at *
      refine Q4 (fun hh => ?_) (fun hh => ?_)
      · rw [hh] at he
        have := h w4 (bt hk.bel hb4')
        rw [he] at this; exact this
      · rw [hh] at he
        ((try simp only [↓Mm, Mm, ↓Mr, Mr, Mb, reduceIte]); repeat ((first | refine ld (by assumption) (by assumption) rfl ?_ | refine X8 (by assumption) (by assumption) rfl ?_ | refine Q6 (by assumption) ?_); (try simp only [↓Mm, Mm, ↓Mr, Mr, Mb, reduceIte])))
        refine Y5 hv.max hn' ⟨hb4', ?_⟩
        rw [he, List.take_add_one, List.getElem?_eq_getElem hn']; rfl
  · have hn' : ¬ n < xs.length := by simpa using hc
    rw [List.drop_eq_nil_of_le (by omega)] at he
    have := h w2 (bt hk.bel hb)
    rw [he] at this; exact this)
theorem Q3D {P : Program} {w : World} (d : Nat) (t e : TypeId) (a : Option Addr) (n c : Nat) (h : P.underlying t = some (.slice e)) :
    (Op.equalIn (d + 1) t (.slice a n c) (.slice none 0 0)).run P w = .ok a.isNone w := by
  cases a <;> simp [Op.equalIn, run_underlying h]
theorem Pu {t e : TypeId} {ox oy : Operand} [ts : TS P t e] {a : Option Addr} {n cap : Nat} {b : Bool} (hb : a.isNone = b) (hk : K (.bool b) w) : Q3 P .eql t ox oy (.slice a n cap) (.slice none 0 0) w K := by
  have h1 : (Op.equal t (.slice a n cap) (.slice none 0 0)).run P w = .ok b w := by
    have := Q3D (P := P) (w := w) 9999 t e a n cap ts.h
    rw [hb] at this
    exact this
  unfold Q3
  rw [X9 (v := .bool b) (w' := w) (by simp [eqGuard, Go.binOp, h1])]
  exact hk
theorem Jy {xs : List X0} {v : Value} (hs : X6 w σ) (hv : Sl 1 U5 σ v xs) (hl : xs.length ≤ 1000000)
    (h : ∀ v' w' σ', Stp w σ w' σ' → Sl 1 U5 σ' v' xs → K v' w') : Q1 P F.a0 [v] w K := Uz (by
  unfold I9
  have hv0 := hv
  obtain ⟨a, cap, rfl, h2, h3, h4, h5⟩ := hv
  refine Pu rfl ?_
  refine Q4 (fun hc => ?_) (fun hc => ?_)
  · have : a = none := by simpa using hc
    have h0 := h4 this
    have hx : xs = [] := List.eq_nil_of_length_eq_zero (by omega)
    subst hx
    exact h _ w σ (Stp.refl hs) Sl.nil
  · refine Qq (R := U5) (sz := 1) (Stp.refl hs) [] [] rfl rfl (by simp) (by rfl) trivial fun v1 w1 hk ha _ => ?_
    refine app hk ha hv0 (by rfl) (by simp only [List.length_nil]; omega) (by simp only [List.length_nil]; omega) fun v2 w2 hg hS ha2 _ => ?_
    obtain ⟨σ', q1, q2, _⟩ := ha2.keep hS
    exact h _ w2 σ' q1 q2)
theorem Mg {xs : List Fld} {v : Value} (hs : X6 w σ) (hv : Sl 3 D7 σ v xs) (hl : xs.length ≤ 1000000)
    (h : ∀ v' w' σ', Stp w σ w' σ' → Sl 3 D7 σ' v' xs → K v' w') : Q1 P F.a5 [v] w K := Ye (by
  unfold C2
  have hv0 := hv
  obtain ⟨a, cap, rfl, h2, h3, h4, h5⟩ := hv
  refine Pu rfl ?_
  refine Q4 (fun hc => ?_) (fun hc => ?_)
  · have : a = none := by simpa using hc
    have h0 := h4 this
    have hx : xs = [] := List.eq_nil_of_length_eq_zero (by omega)
    subst hx
    exact h _ w σ (Stp.refl hs) Sl.nil
  · refine Qq (R := D7) (sz := 3) (Stp.refl hs) [] [] rfl rfl (by simp) (by rfl) trivial fun v1 w1 hk ha _ => ?_
    refine app hk ha hv0 (by rfl) (by simp only [List.length_nil]; omega) (by simp only [List.length_nil]; omega) fun v2 w2 hg hS ha2 _ => ?_
    obtain ⟨σ', q1, q2, _⟩ := ha2.keep hS
    exact h _ w2 σ' q1 q2)
theorem Lt {xs : List Ins} {v : Value} (hs : X6 w σ) (hv : Sl 3 F5 σ v xs) (hl : xs.length ≤ 1000000)
    (h : ∀ v' w' σ', Stp w σ w' σ' → Sl 3 F5 σ' v' xs → K v' w') : Q1 P F.a6 [v] w K := Xs (by
  unfold C1
  have hv0 := hv
  obtain ⟨a, cap, rfl, h2, h3, h4, h5⟩ := hv
  refine Pu rfl ?_
  refine Q4 (fun hc => ?_) (fun hc => ?_)
  · have : a = none := by simpa using hc
    have h0 := h4 this
    have hx : xs = [] := List.eq_nil_of_length_eq_zero (by omega)
    subst hx
    exact h _ w σ (Stp.refl hs) Sl.nil
  · refine Qq (R := F5) (sz := 3) (Stp.refl hs) [] [] rfl rfl (by simp) (by rfl) trivial fun v1 w1 hk ha _ => ?_
    refine app hk ha hv0 (by rfl) (by simp only [List.length_nil]; omega) (by simp only [List.length_nil]; omega) fun v2 w2 hg hS ha2 _ => ?_
    obtain ⟨σ', q1, q2, _⟩ := ha2.keep hS
    exact h _ w2 σ' q1 q2)
theorem Lv {xs : List Cat} {v : Value} (hs : X6 w σ) (hv : Sl 4 Qr σ v xs) (hl : xs.length ≤ 1000000)
    (h : ∀ v' w' σ', Stp w σ w' σ' → Sl 4 Qr σ' v' xs → K v' w') : Q1 P F.a7 [v] w K := Yi (by
  unfold S9
  have hv0 := hv
  obtain ⟨a, cap, rfl, h2, h3, h4, h5⟩ := hv
  refine Pu rfl ?_
  refine Q4 (fun hc => ?_) (fun hc => ?_)
  · have : a = none := by simpa using hc
    have h0 := h4 this
    have hx : xs = [] := List.eq_nil_of_length_eq_zero (by omega)
    subst hx
    exact h _ w σ (Stp.refl hs) Sl.nil
  · refine Qq (R := Qr) (sz := 4) (Stp.refl hs) [] [] rfl rfl (by simp) (by rfl) trivial fun v1 w1 hk ha _ => ?_
    refine app hk ha hv0 (by rfl) (by simp only [List.length_nil]; omega) (by simp only [List.length_nil]; omega) fun v2 w2 hg hS ha2 _ => ?_
    obtain ⟨σ', q1, q2, _⟩ := ha2.keep hS
    exact h _ w2 σ' q1 q2)
end Go.Proofs.YtdnfaboigajkhaaGreatDoor

namespace Go.Hm
open Go.Kd
structure Opr where
  name : X0
  number : Bool
  text : Bool
deriving DecidableEq
def Yd : List Opr := [
  ⟨[105, 110, 116], true, false⟩,
  ⟨[116, 114, 117, 101], false, false⟩,
  ⟨[102, 97, 108, 115, 101], false, false⟩,
  ⟨[119, 111, 114, 100], false, true⟩,
  ⟨[110, 117, 108, 108], false, false⟩,
  ⟨[108, 111, 97, 100], true, false⟩,
  ⟨[115, 116, 111, 114, 101], true, false⟩,
  ⟨[112, 111, 112], false, false⟩,
  ⟨[100, 117, 112], false, false⟩,
  ⟨[115, 119, 97, 112], false, false⟩,
  ⟨[97, 100, 100], false, false⟩,
  ⟨[115, 117, 98], false, false⟩,
  ⟨[109, 117, 108], false, false⟩,
  ⟨[100, 105, 118], false, false⟩,
  ⟨[114, 101, 109], false, false⟩,
  ⟨[110, 101, 103], false, false⟩,
  ⟨[108, 101, 115, 115], false, false⟩,
  ⟨[115, 97, 109, 101], false, false⟩,
  ⟨[110, 111, 116], false, false⟩,
  ⟨[98, 111, 116, 104], false, false⟩,
  ⟨[106, 111, 105, 110], false, false⟩,
  ⟨[115, 105, 122, 101], false, false⟩,
  ⟨[106, 117, 109, 112], true, false⟩,
  ⟨[98, 114, 97, 110, 99, 104], true, false⟩,
  ⟨[110, 101, 119], false, true⟩,
  ⟨[103, 101, 116], false, true⟩,
  ⟨[112, 117, 116], false, true⟩,
  ⟨[99, 97, 108, 108], false, true⟩,
  ⟨[97, 114, 114, 97, 121], false, true⟩,
  ⟨[97, 116], false, false⟩,
  ⟨[115, 101, 116], false, false⟩,
  ⟨[105, 115], false, true⟩,
  ⟨[99, 97, 115, 116], false, true⟩,
  ⟨[114, 101, 116, 117, 114, 110], false, false⟩,
  ⟨[116, 104, 114, 111, 119], false, false⟩,
  ⟨[111, 117, 116], false, false⟩,
  ⟨[101, 113, 117, 97, 108], false, false⟩,
  ⟨[97, 110, 100], false, false⟩,
  ⟨[111, 114], false, false⟩,
  ⟨[120, 111, 114], false, false⟩,
  ⟨[115, 104, 108], false, false⟩,
  ⟨[115, 104, 114], false, false⟩]
end Go.Hm
namespace Go.Emb
open Go.Hm
def ROp (_ : Q5) (o : Opr) (cs : List Value) : Prop := cs = [S o.name, .bool o.number, .bool o.text]
def Ag (o : Opr) : List Value := [S o.name, .bool o.number, .bool o.text]
instance : Rep ROp := ⟨fun _ h => h, fun h u hu => by rw [h] at hu; simp at hu; rcases hu with rfl | rfl | rfl <;> rfl⟩
end Go.Emb
namespace Go.Proofs.YtdnfaboigajkhaaGreatDoor
open Go.Emb Go.RowKit Go.Kd Go.Hm
variable {w : World} {K : Value → World → Prop} {σ : Q5}
theorem Q2x {a : X0} (ha : a.length ≤ W3) (h : ∀ w', Below w.heap.size w w' → K (.bool (M7 a)) w') : Q1 P F.bq [S a] w K := Q0N (by
  unfold Sa
  have ha' : a.length ≤ 140737488355328 := by simp only [W3] at ha; omega
  refine Q2C a ha' fun w1 h1 => ?_
  cases hn : name a
  · (try simp only [↓Mm, Mm, ↓Mr, Mr, Mb, reduceIte])
    have := h w1 h1
    rwa [show M7 a = false by cases a with | nil => rfl | cons c r => simp [M7, hn]] at this
  · (try simp only [↓Mm, Mm, ↓Mr, Mr, Mb, reduceIte])
    refine Ny a ha' fun w2 h2 => ?_
    (try simp only [↓Mm, Mm, ↓Mr, Mr, Mb, reduceIte])
    have := h w2 (bt h1 h2)
    rwa [show M7 a = !L4 a by
      cases a with
      | nil => simp [name] at hn
      | cons c r =>
        obtain ⟨q1, q2⟩ := Cz hn
        simp only [L4, M7, hn, Bool.true_and]
        simp only [D9, q2, Bool.or_false] at q1
        cases hg : P4 c.toNat <;> cases hs : G2 c.toNat
        · simp [hg, hs] at q1
        · rfl
        · rfl
        · exfalso
          simp only [P4, G2, Bool.and_eq_true, decide_eq_true_eq] at hg hs
          omega] at this)
theorem Q7Q {t e : TypeId} {n sz by_ : Nat} {z : Value} [ta : TA P t n e] [tz : TZ P e sz by_ z] {a : Addr} (hk : K (.slice (some a) n n) w) : R7 P t (.pointer (some a)) none none none w K := by
  unfold R7
  have : (Instr.sliceAt t (.pointer (some a)) none none none).run P w = .ok (.slice (some (if n = 0 then a else a.add (0 * sz))) (n - 0) (n - 0)) w := by
    simp [Instr.sliceAt, run_underlying ta.h, Instr.sureAddr, Instr.sliceBounds, M2 tz]
  rw [X9 this]
  have e1 : (if n = 0 then a else a.add (0 * sz)) = a := by
    by_cases h : n = 0
    · rw [if_pos h]
    · rw [if_neg h, Nat.zero_mul, add_zero]
  rw [e1]; exact hk
def Ak (σ : Q5) : Prop := U0 σ ⟨G.a, 0, none⟩ (Yd.flatMap Ag)
theorem Q4s (i : Nat) (o : Opr) (h : Yd[i]? = some o) : ((Yd.flatMap Ag).drop (i * 3)).take 3 = Ag o := by
  have hi : i < 42 := (List.getElem?_eq_some_iff.1 h).1
  have key : ∀ l : List Opr, ∀ i o, l[i]? = some o → ((l.flatMap Ag).drop (i * 3)).take 3 = Ag o := by
    intro l
    induction l with
    | nil => intro i o h; simp at h
    | cons a r ih =>
      intro i o h
      cases i with
      | zero => simp at h; subst h; rfl
      | succ i =>
        have := ih i o (by simpa using h)
        rw [List.flatMap_cons, show (i + 1) * 3 = (Ag a).length + i * 3 by simp [Ag]; omega, List.drop_append]
        simpa [List.drop_eq_nil_of_le] using this
  exact key _ i o h
theorem Q0J {σ : Q5} {a : Addr} {cs : List Value} (h : U0 σ a cs) (i n : Nat) : U0 σ (a.add i) ((cs.drop i).take n) := by
  obtain ⟨h1, D6, e, fr, h2, h3⟩ := h
  refine ⟨F0 h1 _, D6, e, fr, by rw [R8]; exact h2, fun j v hv => ?_⟩
  rw [List.getElem?_take] at hv
  split at hv
  · rw [List.getElem?_drop] at hv
    rw [Qy, Nat.add_assoc]; exact h3 _ _ hv
  · cases hv
theorem Q8Z (h : Ak σ) : Sl 3 ROp σ (.slice (some ⟨G.a, 0, none⟩) 42 42) Yd := by
  refine ⟨_, 42, rfl, by decide, by decide, by simp, ?_⟩
  rintro _ ⟨⟩
  refine ⟨fun _ => rfl, fun i x hx => ⟨Ag x, ?_, rfl, rfl⟩⟩
  rw [← Q4s i x hx]
  exact Q0J h (i * 3) 3
theorem Fx {β : Type} {xs : List Opr} {v f : Value} (stp : β → Opr → Bool × β) (s0 : β) (Inv : β → World → Prop) (D : Nat → Prop) (hsat : ∀ s w, Inv s w → X6 w σ) (h0 : Inv s0 w) (hv : Sl 3 ROp σ v xs)
    (hf : ∀ s x cs (w1 : World) (K : Value → World → Prop), x ∈ xs → Kpt D w w1 → Inv s w1 → ROp σ x cs → cs.length = 3 → (∀ w', Kpt D w w' → Inv (stp s x).2 w' → K (.bool (stp s x).1) w') → Z7 P f [.agg cs.toArray] w1 K)
    (h : ∀ w', Kpt D w w' → Inv (V0 stp s0 xs 0).2 w' → K (I (L6 (V0 stp s0 xs 0).1)) w') : Q1 P F.p [v, f] w K := Yj (by
  unfold C0
  ((try simp only [↓Mm, Mm, ↓Mr, Mr, Mb, reduceIte]); repeat ((first | refine ld (by assumption) (by assumption) rfl ?_ | refine X8 (by assumption) (by assumption) rfl ?_ | refine Q6 (by assumption) ?_); (try simp only [↓Mm, Mm, ↓Mr, Mr, Mb, reduceIte])))
  refine V2 xs.length (fun n w' => Kpt D w w' ∧ ∃ s, Inv s w' ∧ V0 stp s0 xs 0 = V0 stp s (xs.drop n) n) ⟨Kpt.refl, s0, h0, rfl⟩ fun n w1 d hn hi => ?_
  obtain ⟨hk, s, hi, he⟩ := hi
  have hs1 := hsat s w1 hi
  ((try simp only [↓Mm, Mm, ↓Mr, Mr, Mb, reduceIte]); repeat ((first | refine ld (by assumption) (by assumption) rfl ?_ | refine X8 (by assumption) (by assumption) rfl ?_ | refine Q6 (by assumption) ?_); (try simp only [↓Mm, Mm, ↓Mr, Mr, Mb, reduceIte])))
  refine Q4 (fun hc => ?_) (fun hc => ?_)
  · have hn' : n < xs.length := by simpa using hc
    refine L2 hv hn' fun p cs hl hlen hr => ?_
    refine Y3 hs1 hl hlen ?_
    refine hf s xs[n] cs w1 _ (List.getElem_mem hn') hk hi hr hlen fun w2 hk2 hi2 => ?_
    rw [List.drop_eq_getElem_cons hn'] at he
    simp only [V0] at he
    refine Q4 (fun hb => ?_) (fun hb => ?_)
    · rw [hb] at he
      have := h w2 hk2
      rw [he] at this
      exact this hi2
    · rw [hb] at he
      ((try simp only [↓Mm, Mm, ↓Mr, Mr, Mb, reduceIte]); repeat ((first | refine ld (by assumption) (by assumption) rfl ?_ | refine X8 (by assumption) (by assumption) rfl ?_ | refine Q6 (by assumption) ?_); (try simp only [↓Mm, Mm, ↓Mr, Mr, Mb, reduceIte])))
      exact Y5 hv.max hn' ⟨hk2, _, hi2, by simpa using he⟩
  · have hn' : ¬ n < xs.length := by simpa using hc
    rw [List.drop_eq_nil_of_le (by omega)] at he
    have := h w1 hk
    rw [he] at this
    exact this hi)
theorem Gj {xs : List Opr} {v f : Value} (p : Opr → Bool) (hs : X6 w σ) (hv : Sl 3 ROp σ v xs)
    (hf : ∀ x cs (w1 : World) (K : Value → World → Prop), x ∈ xs → X6 w1 σ → ROp σ x cs → cs.length = 3 → (∀ w', Below w1.heap.size w1 w' → K (.bool (p x)) w') → Z7 P f [.agg cs.toArray] w1 K)
    (h : ∀ w', Below w.heap.size w w' → K (I (L6 (xs.findIdx? p))) w') : Q1 P F.p [v, f] w K := by
  refine Fx (fun (_ : Unit) x => (p x, ())) () (fun _ w' => Below w.heap.size w w') (fun _ => False) (fun _ w' hb => hs.below hb) (Below.refl _ _) hv (fun s x cs w1 K hx hk hi hr hl hK => hf x cs w1 K hx (hs.below hi) hr hl fun w' hb => hK w' (.of_below (bt hi hb)) (bt hi hb)) fun w' hk hi => ?_
  rw [I3]
  simpa using h w' hi
theorem Ak.le {σ σ' : Q5} (h : Ak σ) (hk : ∀ b o, σ b = some o → σ' b = some o) : Ak σ' := U0.le h hk
def G7 (n : X0) : Option Nat := Yd.findIdx? fun o => decide (o.name = n)
theorem Q99 {a : X0} (hs : X6 w σ) (hg : Ak σ) (h : ∀ w', Below w.heap.size w w' → K (I (L6 (G7 a))) w') : Q1 P F.ce [S a] w K := Q3I (by
  unfold Ae
  refine N4 hs fun p w1 σ1 hk hp => ?_
  simp only [Value.cells] at hp
  refine Q7Q ?_
  ((try simp only [↓Mm, Mm, ↓Mr, Mr, Mb, reduceIte]); repeat ((first | refine ld (by assumption) (by assumption) rfl ?_ | refine X8 (by assumption) (by assumption) rfl ?_ | refine Q6 (by assumption) ?_); (try simp only [↓Mm, Mm, ↓Mr, Mr, Mb, reduceIte])))
  refine Gj (fun o => decide (o.name = a)) hk.sat (Q8Z (hg.le hk.le)) (fun x cs w2 K hx hs2 hr hl hK => ?_) fun w2 hb => ?_
  · refine J4 (Q23 ?_)
    unfold Fg
    refine N4 hs2 fun q w3 σ3 hk3 hq => ?_
    have hr' : cs = [S x.name, .bool x.number, .bool x.text] := hr
    subst hr'
    have hs3 := hk3.sat
    have hp3 := hp.up hk3
    simp only [Value.cells] at hq
    ((try simp only [↓Mm, Mm, ↓Mr, Mr, Mb, reduceIte]); repeat ((first | refine ld (by assumption) (by assumption) rfl ?_ | refine X8 (by assumption) (by assumption) rfl ?_ | refine Q6 (by assumption) ?_); (try simp only [↓Mm, Mm, ↓Mr, Mr, Mb, reduceIte])))
    exact hK w3 hk3.bel
  · (try simp only [↓Mm, Mm, ↓Mr, Mr, Mb, reduceIte])
    exact h w2 (bt hk.bel hb))
def D2 (n : X0) : Bool × Bool × Bool := match G7 n with
  | none => (false, false, false)
  | some i => ((Yd.getD i ⟨[], false, false⟩).number, (Yd.getD i ⟨[], false, false⟩).text, true)
theorem Q80 {a : X0} (hs : X6 w σ) (hg : Ak σ) (h : ∀ w', Below w.heap.size w w' → K (.tuple #[.bool (D2 a).1, .bool (D2 a).2.1, .bool (D2 a).2.2]) w') : Q1 P F.bS [S a] w K := Q3d (by
  unfold Pe
  refine Q99 hs hg fun w1 hb => ?_
  have hs1 := hs.below hb
  unfold D2 at h
  cases hf : G7 a with
  | none =>
    rw [hf] at h
    simp only [L6]
    (try simp only [↓Mm, Mm, ↓Mr, Mr, Mb, reduceIte])
    simp only [show decide ((-1 : Int) < 0) = true from rfl, ↓Mm, Mm, ↓Mr, Mr, Mb, reduceIte]
    exact h w1 hb
  | some i =>
    rw [hf] at h
    simp only at h
    have hi : i < 42 := (List.findIdx?_eq_some_iff_getElem.1 hf).1
    have ho : Yd[i]? = some (Yd.getD i ⟨[], false, false⟩) := by
      rw [List.getD, List.getElem?_eq_getElem (by exact hi)]; rfl
    generalize Yd.getD i ⟨[], false, false⟩ = o at h ho
    have hl := Q0J hg (i * 3) 3
    rw [Q4s i o ho] at hl
    simp only [L6]
    have e1 : decide ((i : Int) < 0) = false := by simp
    simp only [e1, ↓Mm, Mm, ↓Mr, Mr, Mb, reduceIte]
    have A : ∀ {w : World} {K : Value → World → Prop}, K (.pointer (some ((⟨G.a, 0, none⟩ : Addr).add (i * 3)))) w → indexAddr P T.a5 (.pointer (some ⟨G.a, 0, none⟩)) (I i) w K := by
      intro w K h
      rw [Q5O (by omega) (by omega)]
      simpa using h
    refine Lq (Below.refl _ _) ?_
    refine X2 (.pointer (some ((⟨G.a, 0, none⟩ : Addr).add (i * 3)))) (fun w hb => A (X5 rfl)) ?_
    refine X2 (.pointer (some (((⟨G.a, 0, none⟩ : Addr).add (i * 3)).add 1))) (fun t w hb e => by rw [e, fa]; exact X5 rfl) ?_
    refine X2 (.pointer (some ((⟨G.a, 0, none⟩ : Addr).add (i * 3)))) (fun w hb => A (X5 rfl)) ?_
    refine X2 (.pointer (some (((⟨G.a, 0, none⟩ : Addr).add (i * 3)).add 2))) (fun t w hb e => by rw [e, fa]; exact X5 rfl) ?_
    refine X2 (.bool o.number) (fun t w hb e => by rw [e]; exact ld (hs1.below hb) hl rfl (X5 rfl)) ?_
    refine X2 (.bool o.text) (fun t w hb e => by rw [e]; exact ld (hs1.below hb) hl rfl (X5 rfl)) ?_
    rintro _ _ _ _ _ _ w2 hb2 rfl rfl rfl rfl rfl rfl
    exact h w2 (bt hb hb2))
end Go.Proofs.YtdnfaboigajkhaaGreatDoor

namespace Go.Emb
open Go.RowKit Go.Hm
variable {P : Program} {w w0 w1 w' w'' : World} {K : Value → World → Prop} {σ σ0 σ1 σ' : Q5}
structure SLe (σ σ' : Q5) : Prop where
  le : ∀ b o, σ b = some o → σ' b = some o
theorem SLe.refl (σ : Q5) : SLe σ σ := ⟨fun _ _ h => h⟩
theorem SLe.step {w w' : World} (h : SLe σ0 σ) (k : Stp w σ w' σ') : SLe σ0 σ' := ⟨fun b o e => k.le b o (h.le b o e)⟩
theorem SLe.of (k : ∀ b o, σ b = some o → σ' b = some o) : SLe σ σ' := ⟨k⟩
theorem SLe.more (h : SLe σ0 σ) (k : SLe σ σ') : SLe σ0 σ' := ⟨fun b o e => k.le b o (h.le b o e)⟩
structure Hst (w : World) (σ : Q5) (w' : World) (σ' : Q5) : Prop where
  stp : Stp w σ w' σ'
theorem Hst.sat (h : Hst w σ w' σ') : X6 w' σ' := h.stp.sat
section lifts
variable {α : Type} {R : Q5 → α → List Value → Prop} {sz : Nat} {v : Value} {xs : List α} {a : Addr} {cs : List Value}
theorem Sl.lift [Rep R] (h : Sl sz R σ0 v xs) (k : SLe σ0 σ) : Sl sz R σ v xs := h.le k.le
theorem U0.lift (h : U0 σ0 a cs) (k : SLe σ0 σ) : U0 σ a cs := h.le k.le
theorem P5.lift {r : Nat} {m : List (List UInt8 × Value)} (h : P5 σ0 r m) (k : SLe σ0 σ) : P5 σ r m := h.le k.le
theorem S6 {x : Hm.Met} (h : M9 σ0 x cs) (k : SLe σ0 σ) : M9 σ x cs := Rep.up k.le h
theorem H2 {x : Cla} (h : U7 σ0 x cs) (k : SLe σ0 σ) : U7 σ x cs := Rep.up k.le h
theorem Q1b {x : Fld} (h : D7 σ0 x cs) : D7 σ x cs := h
theorem Q13 {x : Ins} (h : F5 σ0 x cs) : F5 σ x cs := h
theorem Q11 {x : Cat} (h : Qr σ0 x cs) : Qr σ x cs := h
theorem V4.step {b : Nat} (h : V4 σ w b cs) (k : Stp w σ w' σ') : V4 σ' w' b cs := h.up k
theorem N5.step {r : Nat} {m : List (List UInt8 × Value)} (h : N5 σ w r m) (k : Stp w σ w' σ') : N5 σ' w' r m := h.up k
theorem W5.step [Rep R] {B : Nat} {e : TypeId} (h : W5 B e sz R σ w v xs) (k : Stp w σ w' σ') : W5 B e sz R σ' w' v xs := h.up k
end lifts
theorem W7 {Q : World → Prop} (hs : X6 w σ) (h : ∀ w' σ', Stp w σ w' σ' → Q w') : ∀ w', Below w.heap.size w w' → Q w' := fun w' hb => h w' σ (Stp.of_below hs hb)
section plain
variable {k : IntKind} {t : TypeId} {ox oy : Operand} {a b : Int} {x y : Bool} {s u : List UInt8}
theorem O5 (h : K (.int k (k.wrap (a + b))) w) : Q3 P .add t ox oy (.int k a) (.int k b) w K := by rw [Sc]; exact h
theorem Se (h0 : -9223372036854775808 ≤ a + b ∧ a + b ≤ 9223372036854775807) (h : K (I (a + b)) w) : Q3 P .add t ox oy (I a) (I b) w K := by rw [Sc, B6 h0.1 h0.2]; exact h
theorem Nx (h0 : -9223372036854775808 ≤ a - b ∧ a - b ≤ 9223372036854775807) (h : K (I (a - b)) w) : Q3 P .sub t ox oy (I a) (I b) w K := by rw [Q0Y, B6 h0.1 h0.2]; exact h
theorem Z5 (h : K (.bool (decide (a < b))) w) : Q3 P .lss t ox oy (.int k a) (.int k b) w K := by rw [Q0Q]; exact h
theorem Q7D (h : K (.bool (decide (b < a))) w) : Q3 P .gtr t ox oy (.int k a) (.int k b) w K := by rw [Q15]; exact h
theorem Vh (h : K (.bool (decide (b ≤ a))) w) : Q3 P .geq t ox oy (.int k a) (.int k b) w K := by rw [Pm]; exact h
theorem Q2c (h : K (.bool (decide (a = b))) w) : Q3 P .eql t ox oy (.int k a) (.int k b) w K := by rw [Pn]; exact h
theorem Na (h : K (.bool (!decide (a = b))) w) : Q3 P .neq t ox oy (.int k a) (.int k b) w K := by rw [Q10]; exact h
theorem U3 (h : K (.bool (!x)) w) : U6 P .not (.bool x) w K := by rw [Q12]; exact h
theorem Nr (h : K (.bool (decide (s = u))) w) : Q3 P .eql t ox oy (S s) (S u) w K := by rw [Ht]; exact h
theorem Nd (h : K (.bool (!decide (s = u))) w) : Q3 P .neq t ox oy (S s) (S u) w K := by rw [Hn]; exact h
theorem H5 (h0 : s.length + u.length ≤ 9223372036854775807) (h : K (S (s ++ u)) w) : Q3 P .add t ox oy (S s) (S u) w K := by rw [Q44 h0]; exact h
theorem Q5W {cs : List Bool} {r : TypeId} (hu : P.underlying t = some .string) (h : K (I s.length) w) : X4 P .len [t] r cs [S s] w K := by rw [D3 hu]; exact h
theorem Y9 {v u : Value} (h : K v w) : pick P (.bool true) v u w K := by rw [Et]; exact h
theorem Z0 {v u : Value} (h : K u w) : pick P (.bool false) v u w K := by rw [Nq]; exact h
theorem W8 {v u : Value} (h : K (if x = true then v else u) w) : pick P (.bool x) v u w K := by rw [Mh]; exact h
theorem M5 {vs : List Value} {i : Nat} {v : Value} (hv : vs[i]? = some v) (h : K v w) : ext P (.tuple vs.toArray) i w K := by rw [Yo hv]; exact h
theorem F6 {t e : Prop} (h : t) : X1 (.bool true) t e := by rw [Sr]; exact h
theorem I7 {t e : Prop} (h : e) : X1 (.bool false) t e := by rw [Ek]; exact h
theorem Z8 {run : World → (Value → World → Prop) → Prop} (h : run w K) : Q0 (.bool true) true w run K := by rw [F2]; exact h
theorem J0 {run : World → (Value → World → Prop) → Prop} (h : run w K) : Q0 (.bool false) false w run K := by rw [Uj]; exact h
theorem Y8 {run : World → (Value → World → Prop) → Prop} (h : K undef w) : Q0 (.bool true) false w run K := by rw [Kz]; exact h
theorem Z3 {run : World → (Value → World → Prop) → Prop} (h : K undef w) : Q0 (.bool false) true w run K := by rw [Zz]; exact h
end plain
section mem
variable {α : Type} {R : Q5 → α → List Value → Prop} {sz : Nat} {v : Value} {xs : List α} {a : Addr} {cs : List Value}
theorem Z4 {t : TypeId} (hs : X6 w σ) (h : ∀ a w' σ', Stp w σ w' σ' → U0 σ' a cs → K (.pointer (some a)) w') : box P t (.agg cs.toArray) w K :=
  N4 hs fun a w' σ' hk hl => h a w' σ' hk (by simpa [Value.cells] using hl)
theorem U2 {t : TypeId} (hs : X6 w σ) (hc : v.cells = #[v]) (h : ∀ a w' σ', Stp w σ w' σ' → U0 σ' a [v] → K (.pointer (some a)) w') : box P t v w K :=
  N4 hs fun a w' σ' hk hl => h a w' σ' hk (by rw [hc] at hl; exact hl)
theorem Jr (h : Sl sz R σ v xs) : v.cells = #[v] := by
  obtain ⟨a, cap, rfl, _⟩ := h; rfl
theorem W4 {t : TypeId} {k off : Nat} {ft : TypeId} {sz by_ : Nat} {z : Value} [tf : TF P t k off ft] [tz : TZ P ft sz by_ z] [nz : NZ sz] (h : K (.pointer (some (a.add off))) w) : fieldAddr P t (.pointer (some a)) k w K := by
  rw [fa]; exact h
theorem Y6 {t : TypeId} {k off : Nat} {ft : TypeId} [tf : TF P t k off ft] [tg : TG P ft false] {cs : List Value} {v : Value} (hv : cs[off]? = some v) (h : K v w) : D1 P t (.agg cs.toArray) k w K := by
  rw [Q8q (v := v) (by simpa using hv)]; exact h
end mem
theorem W1 {A : (World → World → Prop) → (World → Prop) → Prop} (hs : X6 w σ) (h : A (fun w w' => Below w.heap.size w w') (fun w' => Hst w σ w' σ)) : dr w A :=
  Q0b _ _ ⟨Stp.of_below hs (Below.refl _ _).drew⟩ (fun _ _ h1 h2 => ⟨h1.stp.trans (Stp.of_below h1.sat h2)⟩) h
theorem L1 {α : Type} {R : Q5 → α → List Value → Prop} {sz : Nat} {v : Value} {xs : List α} {t : TypeId} (hs : X6 w σ) (hv : Sl sz R σ v xs) (h : ∀ a w' σ', Stp w σ w' σ' → U0 σ' a [v] → K (.pointer (some a)) w') : box P t v w K :=
  U2 hs (Jr hv) h
section elems
variable {v : Value} {t e : TypeId} {by_ : Nat} {z : Value} {n : Nat}
theorem Q2F {xs : List Kd.X0} [TS P t e] [TZ P e 1 by_ z] (h : Sl 1 U5 σ v xs) (hn : n < xs.length) (hk : ∀ a, U0 σ a [S xs[n]] → xs[n].length ≤ W3 → K (.pointer (some a)) w) : indexAddr P t v (I n) w K :=
  L2 h hn fun a cs h1 h2 h3 => by obtain ⟨rfl, h4⟩ := h3; exact hk a h1 h4
theorem Q3k {xs : List Fld} [TS P t e] [TZ P e 3 by_ z] (h : Sl 3 D7 σ v xs) (hn : n < xs.length) (hk : ∀ a, U0 σ a [S xs[n].name, S xs[n].kind, .bool xs[n].tr] → D7 σ xs[n] [S xs[n].name, S xs[n].kind, .bool xs[n].tr] → K (.pointer (some a)) w) : indexAddr P t v (I n) w K :=
  L2 h hn fun a cs h1 h2 h3 => by obtain ⟨rfl, h4⟩ := h3; exact hk a h1 ⟨rfl, h4⟩
end elems
end Go.Emb

namespace Go.Hm
open Go.Kd
abbrev Xf := X0 → Option Cla
def Y7 (l : List Cla) (n : X0) : Option Nat := l.findIdx? fun c => decide (c.name = n)
def lk (l : List Cla) : Xf := fun n => (Y7 l n).bind (l[·]?)
def U9 (c : Cla) : List X0 := c.super :: c.like
def U4 : X0 := [79, 98, 106, 101, 99, 116]
def L3 : X0 := [70, 97, 117, 108, 116]
def Yw : X0 := [110, 117, 108, 108]
def C3 : X0 := [116, 101, 120, 116]
def I8 : X0 := [119, 104, 97, 116]
def V1 : List X0 := [[78, 117, 108, 108, 70, 97, 117, 108, 116], [73, 110, 100, 101, 120, 70, 97, 117, 108, 116], [67, 97, 115, 116, 70, 97, 117, 108, 116], [90, 101, 114, 111, 70, 97, 117, 108, 116], [82, 111, 111, 109, 70, 97, 117, 108, 116], [67, 97, 108, 108, 70, 97, 117, 108, 116]]
def R5 : List Cla := [⟨U4, [], [], false, false, false, [], []⟩, ⟨L3, U4, [], false, false, false, [⟨I8, C3, false⟩], []⟩] ++ V1.map fun n => ⟨n, L3, [], false, false, true, [], []⟩
def Zg (L : Xf) : Nat → List X0 → List X0 → List X0
  | 0, _, seen => seen
  | _, [], seen => seen
  | f + 1, n :: todo, seen => match L n with
    | none => Zg L f todo seen
    | some c => if n ∈ seen then Zg L f todo seen else Zg L f (todo ++ U9 c) (seen ++ [n])
def weigh (l : List Cla) (seen : List X0) : Nat := (l.map fun c => if c.name ∈ seen then 0 else (U9 c).length).sum
def visits (l : List Cla) (n : X0) : List X0 := Zg (lk l) (1 + weigh l []) [n] []
def hasM (l : List Cla) (n : X0) : Bool := (Y7 l n).isSome
def kindM (l : List Cla) (s : X0) : Bool := decide (s = Yw) || (right s && (plain (V8 s).1 || hasM l (V8 s).1))
def subM (l : List Cla) (a b : X0) : Bool :=
  if !kindM l a || !kindM l b then false else if a = b then true else if plain a || plain b then false else if a = Yw then true
  else if Hb a ≠ [] then decide (b = U4) else (visits l a).contains b
def R9 (L : Xf) : Nat → X0 → List Cla
  | 0, _ => []
  | f + 1, n => match L n with
    | none => []
    | some c => c :: R9 L f c.super
def chain (l : List Cla) (n : X0) : List Cla := R9 (lk l) (l.length + 1) n
def Q0p (l : List Cla) (a b : X0) : X0 :=
  if subM l a b then b else if subM l b a then a else if !kindM l a || !kindM l b || plain a || plain b then []
  else match (chain l a).find? fun c => subM l b c.name with
    | some c => c.name
    | none => U4
def fieldsM (l : List Cla) (n : X0) : List Fld := (chain l n).reverse.flatMap (·.fields)
def placeM (l : List Cla) (n f : X0) : Option Nat := (fieldsM l n).findIdx? fun x => decide (x.name = f)
def H8 (c : Cla) (n : X0) : Option Hm.Met := c.methods.find? fun m => decide (m.name = n)
def Dn (L : Xf) : Nat → Cla → X0 → Option (X0 × Hm.Met)
  | 0, _, _ => none
  | f + 1, c, n => c.like.findSome? fun u => match L u with
    | none => none
    | some d => match H8 d n with
      | some m => some (u, m)
      | none => Dn L f d n
def methodM (l : List Cla) (k n : X0) : Option (X0 × Hm.Met) :=
  match (chain l k).findSome? fun c => (H8 c n).map (c.name, ·) with
  | some r => some r
  | none => (chain l k).findSome? fun c => Dn (lk l) (l.length + 1) c n
def Dm (l : List Cla) (n : X0) : Bool := match lk l n with
  | some c => !c.abs
  | none => false
def D4 (f : Fld) : X0 := if f.tr then [] else [32] ++ f.name ++ [58] ++ f.kind
def B0 (L : Xf) : Nat → X0 → X0
  | 0, _ => []
  | f + 1, n => match L n with
    | none => []
    | some c => if n = U4 then [] else n ++ [40] ++ B0 L f c.super ++ [41] ++ c.fields.flatMap D4 ++ [46]
def printM (l : List Cla) (n : X0) : X0 := B0 (lk l) (l.length + 1) n
def O3 : List X0 → X0
  | [] => []
  | [a] => a
  | a :: b :: r => a ++ [44] ++ O3 (b :: r)
def K1 (m : Hm.Met) : X0 := [40] ++ O3 m.params ++ [41] ++ m.result
def thereM (l : List Cla) (s : X0) : Bool := !decide (s = Yw) && kindM l s
def C9 (l : List Cla) (c : Cla) : Bool := c.fields.any fun f => (placeM l c.super f.name).isSome
def E0 (l : List Cla) (c : Cla) : Bool := c.fields.any (fun f => !thereM l f.kind) || c.methods.any fun m => (!thereM l m.result && !decide (m.result = [])) || m.params.any fun s => !thereM l s
def allMets (l : List Cla) (n : X0) : List Hm.Met := (visits l n).flatMap fun u => ((lk l u).map (·.methods)).getD []
def Uw (ms : List Hm.Met) : Bool := ms.any fun x => ms.any fun y => decide (x.name = y.name) && !decide (K1 x = K1 y)
def B9 (l : List Cla) (c : Cla) : Bool := Uw (allMets l c.name)
def F9 (l : List Cla) (k n : X0) : Bool := match methodM l k n with
  | none => true
  | some r => r.2.abs
def Qf (l : List Cla) (c : Cla) : Bool := !c.abs && (allMets l c.name).any fun m => F9 l c.name m.name
def membersM (l : List Cla) (c : Cla) : Nat := if C9 l c then 64 else if E0 l c then 65 else if B9 l c then 66 else if Qf l c then 67 else 0
def F8 (l : List Cla) (n : X0) : Bool := match lk l n with
  | none => true
  | some d => d.iface || d.fin
def N0 (l : List Cla) (n : X0) : Bool := match lk l n with
  | none => true
  | some d => !d.iface
def uppersM (l : List Cla) (c : Cla) : Nat := if F8 l c.super then 61 else if c.like.any (N0 l) then 62 else 0
def loopsM (l : List Cla) (c : Cla) : Bool := (U9 c).any fun n => (visits l n).contains c.name
def F4 (l : List Cla) (frm : Nat) : Nat → List Nat → Nat → List Nat
  | 0, out, _ => out
  | f + 1, out, i => if i < frm then out else if i ∈ out then out else ((U9 (l.getD i Cla.zero)).foldl (fun out n => F4 l frm f out ((Y7 l n).getD 0)) out) ++ [i]
def W0 (l : List Cla) (frm : Nat) : List Nat := ((List.range l.length).drop frm).foldl (fun out i => F4 l frm (l.length + 1) out i) []
end Go.Hm

namespace Go.Emb
open Go.RowKit Go.Hm
variable {P : Program} {w w0 w1 w' w'' : World} {K : Value → World → Prop} {σ σ0 σ1 σ' : Q5}
def L7 {α : Type} (B : Nat) (e : TypeId) (sz : Nat) (R : Q5 → α → List Value → Prop) (σ : Q5) (w : World) (v : Value) (xs : List α) : Prop :=
  ∃ a cap, v = .slice a xs.length cap ∧ xs.length ≤ cap ∧ cap ≤ maxLen ∧ (∀ b, a = some b → b.spot = none ∧ B ≤ b.block ∧ b.block < w.heap.size ∧ σ b.block = none) ∧ (0 < cap → ∃ g off cur, a = some ⟨g, off, none⟩ ∧ B ≤ g ∧ σ g = none ∧ w.heap[g]? = some (.cells cur e (0, 0)) ∧ off + cap * sz ≤ cur.size ∧ ∀ i x, xs[i]? = some x → R σ x ((cur.toList.drop (off + i * sz)).take sz))
section
variable {α : Type} {R : Q5 → α → List Value → Prop} {B sz : Nat} {e : TypeId} {v u : Value} {xs ys : List α}
theorem L7.of_acc (h : W5 B e sz R σ w v xs) : L7 B e sz R σ w v xs := by
  obtain ⟨cells, h1, h2, h3⟩ := h
  rcases h1.2 with ⟨rfl, h0⟩ | ⟨g, cap, cur, rfl, hb, hg, hle, hmax, hsz, htk⟩
  · exact ⟨none, 0, by rw [h0], by omega, by simp, by simp, fun h => by omega⟩
  · refine ⟨_, cap, rfl, hle, hmax, by rintro _ ⟨⟩; exact ⟨rfl, hb, (Array.getElem?_eq_some_iff.1 hg).1, h2 g rfl⟩, fun _ => ⟨g, 0, cur, rfl, hb, h2 g rfl, hg, by omega, fun i x hx => ?_⟩⟩
    have hi : i < xs.length := (List.getElem?_eq_some_iff.1 hx).1
    have hh : i * sz + sz ≤ xs.length * sz := by rw [← Nat.succ_mul]; exact Nat.mul_le_mul_right _ hi
    have := h3 i x hx
    rw [← htk, List.drop_take, List.take_take] at this
    rw [Nat.zero_add]
    rwa [show min sz (xs.length * sz - i * sz) = sz by omega] at this
theorem L7.mem (h : L7 B e sz R σ w v xs) {k : Nat} (hv : v.ownBlock = some k) : B ≤ k ∧ k < w.heap.size ∧ σ k = none := by
  obtain ⟨a, cap, rfl, h1, h2, hsp, h3⟩ := h
  cases a with
  | none => cases hv
  | some a => cases hv; exact (hsp a rfl).2
theorem L7.lt (h : L7 B e sz R σ w v xs) {k : Nat} (hv : v.ownBlock = some k) (hx : 0 < xs.length) : B ≤ k ∧ k < w.heap.size ∧ σ k = none := h.mem hv
theorem L7.up [hr : Rep R] (h : L7 B e sz R σ w v xs) (hk : Stp w σ w' σ') : L7 B e sz R σ' w' v xs := by
  obtain ⟨a, cap, rfl, h1, h2, hsp, h3⟩ := h
  refine ⟨a, cap, rfl, h1, h2, fun b hb => ⟨(hsp b hb).1, (hsp b hb).2.1, Nat.lt_of_lt_of_le (hsp b hb).2.2.1 hk.bel.size, (hk.old _ (hsp b hb).2.2.1).trans (hsp b hb).2.2.2⟩, fun hc => ?_⟩
  obtain ⟨g, off, cur, rfl, q1, q2, q3, q4, q5⟩ := h3 hc
  have hl := (Array.getElem?_eq_some_iff.1 q3).1
  exact ⟨g, off, cur, rfl, q1, (hk.old g hl).trans q2, (hk.bel.block g hl).trans q3, q4, fun i x hx => hr.up hk.le (q5 i x hx)⟩
theorem L7.step [hr : Rep R] (h : L7 B e sz R σ w v xs) (hk : Stp w σ w' σ') : L7 B e sz R σ' w' v xs := h.up hk
theorem L7.kp {D : Nat → Prop} (h : L7 B e sz R σ w v xs) (hk : Kpt D w w') (hne : ∀ k, v.ownBlock = some k → ¬ D k) : L7 B e sz R σ w' v xs := by
  obtain ⟨a, cap, rfl, h1, h2, hsp, h3⟩ := h
  refine ⟨a, cap, rfl, h1, h2, fun b hb => ⟨(hsp b hb).1, (hsp b hb).2.1, Nat.lt_of_lt_of_le (hsp b hb).2.2.1 hk.size, (hsp b hb).2.2.2⟩, fun hc => ?_⟩
  obtain ⟨g, off, cur, rfl, q1, q2, q3, q4, q5⟩ := h3 hc
  have hl := (Array.getElem?_eq_some_iff.1 q3).1
  exact ⟨g, off, cur, rfl, q1, q2, (hk.block g hl (hne g rfl)).trans q3, q4, q5⟩
theorem Q2a {t0 t : TypeId} {cs : List Bool} [ts : TS P t0 e] (h : L7 B e sz R σ w v xs) (hk : K (I xs.length) w) : X4 P .len [t0] t cs [v] w K := by
  obtain ⟨a, cap, rfl, _⟩ := h
  rw [Q4w]; exact hk
theorem Q2y {t : TypeId} {by_ : Nat} {z : Value} [TS P t e] [TZ P e sz by_ z] (h : L7 B e sz R σ w v xs) {n : Nat} (hn : n < xs.length)
    (hk : ∀ a cs, (∀ j u, cs[j]? = some u → w.cell? (a.add j) = some u) → cs.length = sz → R σ xs[n] cs → K (.pointer (some a)) w) : indexAddr P t v (I n) w K := by
  obtain ⟨a, cap, rfl, h1, h2, hsp, h3⟩ := h
  obtain ⟨g, off, cur, rfl, q1, q2, q3, q4, q5⟩ := h3 (by omega)
  rw [Rh (by omega) (by omega)]
  have hh : n * sz + sz ≤ cap * sz := by rw [← Nat.succ_mul]; exact Nat.mul_le_mul_right _ (by omega)
  refine hk _ ((cur.toList.drop (off + n * sz)).take sz) ?_ ?_ (q5 n _ (by simp [hn]))
  · intro j u hu
    rw [List.getElem?_take] at hu
    split at hu
    · rw [List.getElem?_drop] at hu
      unfold World.cell?
      rw [R8, R8, Qy, Qy, F0 (F0 rfl _)]
      simp only [q3]
      simpa using hu
    · cases hu
  · rw [List.length_take, List.length_drop, Array.length_toList]; omega
theorem Q9E {t : TypeId} {by_ : Nat} {z : Value} [ts : TS P t e] [tz : TZ P e sz by_ z] (h : L7 B e sz R σ w v xs) (l : Nat) (hl : l ≤ xs.length)
    (hk : ∀ v', L7 B e sz R σ w v' (xs.drop l) → (v'.ownBlock = v.ownBlock ∨ v'.ownBlock = none) → K v' w) : R7 P t v (some (I l)) none none w K := by
  obtain ⟨a, cap, rfl, h1, h2, hsp, h3⟩ := h
  have hh : ∀ w : World, (Instr.sliceBounds true xs.length cap (some (I l)) none none).run P w = .ok (l, xs.length, cap) w := by
    intro w
    have c1 : (l : Int) ≤ xs.length := by omega
    simp [Instr.sliceBounds, Instr.sliceBound, asIntOf, h1, c1]
    intros; omega
  unfold R7
  have : (Instr.sliceAt t (.slice a xs.length cap) (some (I l)) none none).run P w = .ok (.slice (if cap = l then a else a.map (·.add (l * sz))) (xs.length - l) (cap - l)) w := by
    simp [Instr.sliceAt, run_underlying ts.h, Instr.slice, hh, M2 tz]
  rw [X9 this]
  refine hk _ ⟨_, cap - l, by rw [List.length_drop], by rw [List.length_drop]; omega, by omega, ?_, fun hc => ?_⟩ ?_
  · intro b hb
    split at hb
    · exact hsp b hb
    · cases a with
      | none => cases hb
      | some a => cases hb; exact ⟨F0 (hsp a rfl).1 _, by rw [R8]; exact (hsp a rfl).2⟩
  · have h4 := h3 (by omega)
    clear h3
    obtain ⟨g, off, cur, rfl, q1, q2, q3, q4, q5⟩ := h4
    refine ⟨g, off + l * sz, cur, ?_, q1, q2, q3, ?_, fun i x hx => ?_⟩
    · rw [if_neg (by omega)]; simp only [Option.map_some]; congr 1; unfold Addr.add; split <;> simp_all
    · have : l * sz + (cap - l) * sz = cap * sz := by rw [← Nat.add_mul]; congr 1; omega
      omega
    · rw [List.getElem?_drop] at hx
      have := q5 _ _ hx
      rwa [Nat.add_mul, ← Nat.add_assoc] at this
  · left
    by_cases hcl : cap = l
    · rw [if_pos hcl]; cases a <;> rfl
    · rw [if_neg hcl]
      cases a with
      | none => rfl
      | some a => simp only [Option.map_some, Value.ownBlock, R8]
theorem Q7p {t ty : TypeId} {by_ : Nat} {z : Value} {cs : List Bool} [ts : TS P t e] [tz : TZ P e sz by_ z] [hr : Rep R] (hs : X6 w σ) (hB : B ≤ w.heap.size) (ha : L7 B e sz R σ w v xs) (hu : Sl sz R σ u ys) (hz : (z.cells.size == sz && decide (0 < sz)) = true)
    (hb : (xs.length + ys.length) * by_ ≤ 140737488355328) (hm : xs.length + ys.length ≤ 1000000000000)
    (h : ∀ v' w', Kpt (fun k => v.ownBlock = some k ∧ B ≤ k ∧ σ k = none) w w' → X6 w' σ → L7 B e sz R σ w' v' (xs ++ ys) → ((∃ a cap, v = .slice a xs.length cap ∧ v' = .slice a (xs.length + ys.length) cap) ∨ (Below w.heap.size w w' ∧ ∀ k, v'.ownBlock = some k → w.heap.size ≤ k)) → K v' w') : X4 P .append [t, t] ty cs [v, u] w K := by
  obtain ⟨ac, acap, rfl, c1, c2, csp, c3⟩ := ha
  obtain ⟨a, cap, news, rfl, n1, n2, n3, n4, n5⟩ := hu.cells hs
  obtain ⟨i, hi, hsz, hby, hzero⟩ := tz.info
  simp only [Bool.and_eq_true, beq_iff_eq, decide_eq_true_eq] at hz
  obtain ⟨hz1, hz2⟩ := hz
  have fin : ∀ v' w', (Builtin.append_ #[t, t] ty #[.slice ac xs.length acap, .slice a ys.length cap]).run P w = .ok v' w' → Kpt (fun k => (Value.slice ac xs.length acap).ownBlock = some k ∧ B ≤ k ∧ σ k = none) w w' → L7 B e sz R σ w' v' (xs ++ ys) → ((∃ a cap, (Value.slice ac xs.length acap) = .slice a xs.length cap ∧ v' = .slice a (xs.length + ys.length) cap) ∨ (Below w.heap.size w w' ∧ ∀ k, v'.ownBlock = some k → w.heap.size ≤ k)) → X4 P .append [t, t] ty cs [.slice ac xs.length acap, .slice a ys.length cap] w K := by
    intro v' w' hrun hk hq hat
    have hrun' : (builtin .append #[t, t] ty cs.toArray #[.slice ac xs.length acap, .slice a ys.length cap]).run P w = .ok (.value v') w' := by
      simp [builtin, hrun]
    unfold X4
    rw [Ze]; unfold Xm
    rw [hrun']
    exact h v' w' hk (fun k o ho => by rw [hk.block k (hs.lt ho) fun e => by rw [e.2.2] at ho; cases ho]; exact hs k o ho) hq hat
  have hsrc : Src P i.size t (.slice a ys.length cap) ys.length news w := by
    cases a with
    | some b => exact Src.ofSlice w ts.h b ys.length cap news (by rw [hsz]; exact n2) (n3 b rfl) n4
    | none =>
      have hy : ys.length = 0 := by
        obtain ⟨a', cap', e', q1, _, q3, _⟩ := hu; injection e' with e1 e2 e3; have := n1 rfl; omega
      have hn : news = [] := List.eq_nil_of_length_eq_zero (by rw [n2, hy]; simp)
      subst hn
      rw [hy]; exact Src.ofNil w ts.h cap
  by_cases hroom : xs.length + ys.length ≤ acap
  · by_cases hc0 : acap = 0
    · -- nothing at all
      subst hc0
      have hx : xs = [] := List.eq_nil_of_length_eq_zero (by omega)
      have hy : ys = [] := List.eq_nil_of_length_eq_zero (by omega)
      subst hx hy
      have hn : news = [] := List.eq_nil_of_length_eq_zero (by simpa using n2)
      subst hn
      refine fin (.slice ac 0 0) w ?_ Kpt.refl ⟨ac, 0, rfl, by simp, by simp, csp, fun h => by omega⟩ (.inl ⟨_, _, rfl, rfl⟩)
      have hl := hsrc.len w
      have hcs := hsrc.cells
      simp only [List.length_nil] at hl hcs ⊢
      cases ac <;> simp [Builtin.append_, run_underlying ts.h, sizeOf, typeInfo, hi, hl, hcs, storeCells]
    · obtain ⟨g, off, cur, rfl, q1, q2, q3, q4, q5⟩ := c3 (by omega)
      have e1 : (xs.length + ys.length) * sz ≤ acap * sz := Nat.mul_le_mul_right _ hroom
      rw [Nat.add_mul] at e1
      have hst := run_storeCells_at P g (off + xs.length * sz) e news 0 cur w q3 (by omega) n4
      simp only [Nat.add_zero] at hst
      obtain ⟨hu1, hu2⟩ := Nk (cs := (cur.toList.take (off + xs.length * sz) ++ news ++ cur.toList.drop (off + xs.length * sz + news.length)).toArray) q3
      refine fin (.slice (some ⟨g, off, none⟩) (xs.length + ys.length) acap) _ ?_ (Kpt.of_upd hu1 ⟨rfl, q1, q2⟩) ?_ (.inl ⟨_, _, rfl, rfl⟩)
      · have hl := hsrc.len w
        have hcs := hsrc.cells
        rw [hsz] at hcs
        simp [Builtin.append_, run_underlying ts.h, sizeOf, typeInfo, hi, hl, hcs, hsz, hroom, Addr.add_lit, hst]
      · refine ⟨_, acap, by rw [List.length_append], by rw [List.length_append]; exact hroom, c2, fun b hb => ⟨(csp b hb).1, (csp b hb).2.1, by rw [hu1.size]; exact (csp b hb).2.2.1, (csp b hb).2.2.2⟩, fun _ => ⟨g, off, _, rfl, q1, q2, hu2, ?_, fun j x hx => ?_⟩⟩
        · simp; omega
        · by_cases hj : j < xs.length
          · rw [List.getElem?_append_left hj] at hx
            have := q5 j x hx
            have hh : j * sz + sz ≤ xs.length * sz := by rw [← Nat.succ_mul]; exact Nat.mul_le_mul_right _ hj
            have e2 : ((cur.toList.take (off + xs.length * sz) ++ news ++ cur.toList.drop (off + xs.length * sz + news.length)).toArray.toList.drop (off + j * sz)).take sz = (cur.toList.drop (off + j * sz)).take sz := by
              rw [List.toList_toArray, List.append_assoc]
              rw [List.drop_append_of_le_length (by rw [List.length_take, Array.length_toList (xs := cur)]; omega), List.take_append_of_le_length (by rw [List.length_drop, List.length_take, Array.length_toList (xs := cur)]; omega), List.drop_take, List.take_take]
              congr 1; omega
            rw [e2]; exact this
          · rw [List.getElem?_append_right (by omega)] at hx
            have := n5 _ _ hx
            have hjl : j - xs.length < ys.length := (List.getElem?_eq_some_iff.1 hx).1
            have hh : (j - xs.length) * sz + sz ≤ ys.length * sz := by rw [← Nat.succ_mul]; exact Nat.mul_le_mul_right _ hjl
            have hjs : j * sz = xs.length * sz + (j - xs.length) * sz := by rw [← Nat.add_mul]; congr 1; omega
            have e2 : ((cur.toList.take (off + xs.length * sz) ++ news ++ cur.toList.drop (off + xs.length * sz + news.length)).toArray.toList.drop (off + j * sz)).take sz = (news.drop ((j - xs.length) * sz)).take sz := by
              rw [List.toList_toArray, List.append_assoc]
              rw [List.drop_append, List.drop_eq_nil_of_le (by rw [List.length_take, Array.length_toList (xs := cur)]; omega), List.nil_append, List.length_take, Array.length_toList (xs := cur),
                show off + j * sz - min (off + xs.length * sz) cur.size = (j - xs.length) * sz by omega,
                List.drop_append_of_le_length (by omega), List.take_append_of_le_length (by rw [List.length_drop]; omega)]
            rw [e2]; exact this
  · -- a new row
    have holds : ∃ olds : List Value, olds.length = xs.length * sz ∧ (Builtin.firstCells i.size xs.length (.slice ac xs.length acap)).run P w.drew = .ok olds.toArray w.drew ∧ ∀ j x, xs[j]? = some x → R σ x ((olds.drop (j * sz)).take sz) := by
      by_cases hc0 : acap = 0
      · subst hc0
        have hx : xs = [] := List.eq_nil_of_length_eq_zero (by omega)
        subst hx
        refine ⟨[], by simp, ?_, by simp⟩
        cases ac with
        | none => exact run_firstCells_none w.drew i.size 0 0 0
        | some a' => exact run_firstCells_some w.drew i.size 0 a' 0 0 [] (by simp) (by intro _ _ h'; simp at h')
      · obtain ⟨g, off, cur, rfl, q1, q2, q3, q4, q5⟩ := c3 (by omega)
        have e1 : xs.length * sz ≤ acap * sz := Nat.mul_le_mul_right _ c1
        refine ⟨(cur.toList.drop off).take (xs.length * sz), by rw [List.length_take, List.length_drop, Array.length_toList (xs := cur)]; omega, ?_, fun j x hx => ?_⟩
        · refine run_firstCells_some w.drew i.size xs.length ⟨g, off, none⟩ xs.length acap _ (by rw [List.length_take, List.length_drop, Array.length_toList (xs := cur), hsz]; omega) (fun j u hu => ?_)
          rw [List.getElem?_take] at hu
          split at hu
          · rw [List.getElem?_drop] at hu
            have q3' : w.drew.heap[g]? = some (.cells cur e (0, 0)) := q3
            unfold World.cell?
            rw [R8, Qy, F0 rfl]
            simp only [q3']
            simpa using hu
          · cases hu
        · have hj : j < xs.length := (List.getElem?_eq_some_iff.1 hx).1
          have hh : j * sz + sz ≤ xs.length * sz := by rw [← Nat.succ_mul]; exact Nat.mul_le_mul_right _ hj
          have := q5 j x hx
          rw [List.drop_take, List.take_take, List.drop_drop, show min sz (xs.length * sz - j * sz) = sz by omega]
          exact this
    obtain ⟨olds, o1, o2, o3⟩ := holds
    have hg : acap < xs.length + ys.length := by omega
    have hrun := run_append_grow_src (P := P) w t t ty e i z ts.h hi hzero ac xs.length acap olds o2 (.slice a ys.length cap) ys.length news hsrc hg (by omega) (growslice_fits hg (by rw [hby]; exact hb))
    have hcm := grownCap_le_maxLen w (xs.length + ys.length) acap e (by simp only [maxLen]; omega)
    have hge := grownCap_ge w (xs.length + ys.length) acap e
    have hL : (olds ++ news).length = (xs.length + ys.length) * sz := by rw [List.length_append, o1, n2, Nat.add_mul]
    refine fin _ _ hrun ?_ ?_ (.inr ⟨(Below.refl _ _).drew.alloc (Nat.le_refl _) _, by intro k hk; cases hk; exact Nat.le_refl _⟩)
    · exact Kpt.of_below ((Below.refl _ _).drew.alloc (Nat.le_refl _) _)
    · refine ⟨_, _, by rw [List.length_append], by rw [List.length_append]; exact hge, hcm, by rintro _ ⟨⟩; exact ⟨rfl, hB, (Array.getElem?_eq_some_iff.1 (heap_alloc_new w.drew _)).1, hs.none (Nat.le_refl _)⟩, fun _ => ⟨w.heap.size, 0, _, rfl, hB, hs.none (Nat.le_refl _), heap_alloc_new w.drew _, ?_, fun j x hx => ?_⟩⟩
      · rw [Array.size_append, List.size_toArray, hL, size_zeroCells, hz1, ← Nat.add_mul]
        rw [Nat.zero_add]; exact Nat.mul_le_mul_right _ (by omega)
      · rw [Nat.zero_add, Array.toList_append]
        have hj : j < xs.length + ys.length := by have := (List.getElem?_eq_some_iff.1 hx).1; rwa [List.length_append] at this
        have hh : j * sz + sz ≤ (xs.length + ys.length) * sz := by rw [← Nat.succ_mul]; exact Nat.mul_le_mul_right _ hj
        rw [List.drop_append_of_le_length (by simp only [List.toList_toArray]; omega), List.take_append_of_le_length (by rw [List.length_drop]; simp only [List.toList_toArray]; omega)]
        simp only [List.toList_toArray]
        by_cases hjx : j < xs.length
        · rw [List.getElem?_append_left hjx] at hx
          rw [De olds news xs.length j o1 hjx]
          exact o3 j x hx
        · rw [List.getElem?_append_right (by omega)] at hx
          have := n5 _ _ hx
          rw [show j * sz = olds.length + (j - xs.length) * sz by rw [o1, ← Nat.add_mul]; congr 1; omega, List.drop_append]
          simpa [List.drop_eq_nil_of_le] using this
end
theorem Yn {b : Nat} (h : w1.heap.size ≤ b) (k : Stp w σ w1 σ1) : w.heap.size ≤ b := Nat.le_trans k.bel.size h
theorem T7 {t : TypeId} {sz by_ : Nat} {z : Value} [tz : TZ P t sz by_ z] (hs : X6 w σ) (h : ∀ b w' σ', w.heap.size ≤ b → Stp w σ w' σ' → V4 σ' w' b z.cells.toList → K (.pointer (some ⟨b, 0, none⟩)) w') : M0 P t w K :=
  Su hs fun b w' hb hk hm => h b w' σ hb hk hm
theorem Q37 {t : TypeId} {cs : List Value} (hs : X6 w σ) (h : ∀ b w' σ', w.heap.size ≤ b → Stp w σ w' σ' → V4 σ' w' b cs → K (.pointer (some ⟨b, 0, none⟩)) w') : box P t (.agg cs.toArray) w K :=
  Q7j hs fun b w' hb hk hm => h b w' σ hb hk (by simpa [Value.cells] using hm)
theorem I5 {t : TypeId} {sz by_ : Nat} {z : Value} [tz : TZ P t sz by_ z] {b : Nat} {cs ds : List Value} (hm : V4 σ w b cs) (hS : Stp w0 σ0 w σ) (hb : w0.heap.size ≤ b) (hl : cs.length = sz) (hd : ds.length = sz) (h1 : ∀ u ∈ ds, u.oneCell' = true)
    (h : ∀ w', Hst w0 σ0 w' σ → V4 σ w' b ds → K undef w') : V5 P t (.pointer (some ⟨b, 0, none⟩)) (.agg ds.toArray) w K :=
  sta hm hl hd (by rw [List.all_toArray]; exact List.all_eq_true.2 h1) fun w' hu hm' => h w' ⟨hu.stp hS hb hm.1⟩ hm'
structure Nxt (D : Nat → Prop) (w : World) (σ : Q5) (w' : World) (σ' : Q5) : Prop where
  kp : Kpt D w w'
  le : SLe σ σ'
  old : ∀ k, k < w.heap.size → σ' k = σ k
  sat : X6 w' σ'
theorem Nxt.of_stp {D : Nat → Prop} (h : Stp w σ w' σ') : Nxt D w σ w' σ' := ⟨Kpt.of_below h.bel, ⟨h.le⟩, h.old, h.sat⟩
theorem Nxt.mono {D D' : Nat → Prop} (h : Nxt D w σ w' σ') (hd : ∀ k, k < w.heap.size → D k → D' k) : Nxt D' w σ w' σ' := ⟨h.kp.mono hd, h.le, h.old, h.sat⟩
theorem Nxt.trans {D : Nat → Prop} (h : Nxt D w σ w' σ') (k : Nxt D w' σ' w'' σ1) : Nxt D w σ w'' σ1 :=
  ⟨h.kp.trans k.kp, h.le.more k.le, fun i hi => (k.old i (Nat.lt_of_lt_of_le hi h.kp.size)).trans (h.old i hi), k.sat⟩
theorem V4.nx {D : Nat → Prop} {b : Nat} {cs : List Value} (h : V4 σ w b cs) (k : Nxt D w σ w' σ') (hd : ¬ D b) : V4 σ' w' b cs := by
  have hl := h.lt
  obtain ⟨h1, e, h2⟩ := h
  exact ⟨(k.old b hl).trans h1, e, (k.kp.block b hl hd).trans h2⟩
theorem N5.nx {D : Nat → Prop} {r : Nat} {m : List (List UInt8 × Value)} (h : N5 σ w r m) (k : Nxt D w σ w' σ') (hd : ¬ D r) : N5 σ' w' r m :=
  ⟨(k.old r h.lt).trans h.1, (k.kp.block r h.lt hd).symm ▸ h.2⟩
section
variable {α : Type} {R : Q5 → α → List Value → Prop} {B sz : Nat} {e : TypeId} {v u : Value} {xs : List α} {x : α}
theorem W5.nx [hr : Rep R] {D : Nat → Prop} (h : W5 B e sz R σ w v xs) (k : Nxt D w σ w' σ') (hd : ∀ k, v.ownBlock = some k → ¬ D k) : W5 B e sz R σ' w' v xs := by
  have h' := h.kp k.kp hd
  obtain ⟨cells, h1, h2, h3⟩ := h'
  refine ⟨cells, h1, fun i hi => (k.old i (h.mem i hi).2.1).trans (h2 i hi), fun i x hx => hr.up k.le.le (h3 i x hx)⟩
theorem L7.nx [hr : Rep R] {D : Nat → Prop} (h : L7 B e sz R σ w v xs) (k : Nxt D w σ w' σ') (hd : ∀ k, v.ownBlock = some k → ¬ D k) : L7 B e sz R σ' w' v xs := by
  obtain ⟨a, cap, rfl, h1, h2, hsp, h3⟩ := h
  refine ⟨a, cap, rfl, h1, h2, fun b hb => ⟨(hsp b hb).1, (hsp b hb).2.1, Nat.lt_of_lt_of_le (hsp b hb).2.2.1 k.kp.size, (k.old _ (hsp b hb).2.2.1).trans (hsp b hb).2.2.2⟩, fun hc => ?_⟩
  obtain ⟨g, off, cur, rfl, q1, q2, q3, q4, q5⟩ := h3 hc
  have hl := (Array.getElem?_eq_some_iff.1 q3).1
  exact ⟨g, off, cur, rfl, q1, (k.old g hl).trans q2, (k.kp.block g hl (hd g rfl)).trans q3, q4, fun i x hx => hr.up k.le.le (q5 i x hx)⟩
theorem Ys {t ty : TypeId} {by_ : Nat} {z : Value} {cs : List Bool} {A : Value → Value → World → Prop} [ts : TS P t e] [tz : TZ P e sz by_ z] [hr : Rep R] (hS : Stp w0 σ0 w σ) (ha : W5 w0.heap.size e sz R σ w v xs) (hu : R σ x u.cells.toList) (hc : u.cells.size = sz) (hz : (z.cells.size == sz && decide (0 < sz)) = true) (hz2 : (decide (0 < sz) && decide ([u].length * sz ≤ 16777216)) = true)
    (hb : (xs.length + 1) * by_ ≤ 140737488355328) (hm : xs.length + 1 ≤ 9223372036854775807)
    (h : ∀ s v' w' σ', Nxt (fun k => v.ownBlock = some k) w σ w' σ' → Stp w0 σ0 w' σ' → W5 w0.heap.size e sz R σ' w' v' (xs ++ [x]) → (v'.ownBlock = v.ownBlock ∨ ∀ k, v'.ownBlock = some k → w.heap.size ≤ k) → A s v' w') :
    buildSlice P t 1 [(0, u)] w (fun s w => X4 P .append [t, t] ty cs [v, s] w (fun v' w => A s v' w)) := by
  refine Nc hS.sat [u] [x] rfl rfl (by simpa using hc) hz2 ⟨hu, trivial⟩ fun s w1 σ1 hk hsl => ?_
  refine app (hS.trans hk) (ha.up hk) hsl hz (by simpa using hb) (by simpa using hm) fun v' w2 hg hS2 ha2 hat => ?_
  have hkp : Kpt (fun k => v.ownBlock = some k) w w2 := (Kpt.of_below hk.bel).trans (Kpt.of_grown hg fun k hk => hk)
  refine h s v' w2 σ1 ⟨hkp, ⟨hk.le⟩, hk.old, hS2.sat⟩ hS2 ha2 ?_
  rcases hat with hat | hat
  · exact .inl hat
  · exact .inr fun k hk' => Nat.le_trans hk.bel.size (hat k hk')
theorem Nv {t ty : TypeId} {by_ : Nat} {z : Value} {cs : List Bool} {ys : List α} [ts : TS P t e] [tz : TZ P e sz by_ z] [hr : Rep R] (hS : Stp w0 σ0 w σ) (ha : W5 w0.heap.size e sz R σ w v xs) (hu : Sl sz R σ u ys) (hz : (z.cells.size == sz && decide (0 < sz)) = true)
    (hb : (xs.length + ys.length) * by_ ≤ 140737488355328) (hm : xs.length + ys.length ≤ 9223372036854775807)
    (h : ∀ v' w', Nxt (fun k => v.ownBlock = some k) w σ w' σ → Stp w0 σ0 w' σ → W5 w0.heap.size e sz R σ w' v' (xs ++ ys) → (v'.ownBlock = v.ownBlock ∨ ∀ k, v'.ownBlock = some k → w.heap.size ≤ k) → K v' w') : X4 P .append [t, t] ty cs [v, u] w K :=
  app hS ha hu hz hb hm fun v' w2 hg hS2 ha2 hat => h v' w2 ⟨Kpt.of_grown hg fun k hk => hk, SLe.refl _, fun _ _ => rfl, hS2.sat⟩ hS2 ha2 hat
end
section
variable {α : Type} {R : Q5 → α → List Value → Prop} {B sz : Nat} {e : TypeId} {v u : Value} {xs : List α} {x : α}
theorem L7.mono {B' : Nat} (h : L7 B e sz R σ w v xs) (hb : B' ≤ B) : L7 B' e sz R σ w v xs := by
  obtain ⟨a, cap, rfl, h1, h2, hsp, h3⟩ := h
  refine ⟨a, cap, rfl, h1, h2, fun b hb' => ⟨(hsp b hb').1, Nat.le_trans hb (hsp b hb').2.1, (hsp b hb').2.2⟩, fun hc => ?_⟩
  obtain ⟨g, off, cur, rfl, q1, q⟩ := h3 hc
  exact ⟨g, off, cur, rfl, Nat.le_trans hb q1, q⟩
theorem L7.own (h : L7 B e sz R σ w v xs) {k : Nat} (hv : v.ownBlock = some k) : B ≤ k := (h.mem hv).1
theorem L7.keep [hr : Rep R] (h : L7 w0.heap.size e sz R σ w v xs) (hS : Stp w0 σ0 w σ) : ∃ σ', Stp w0 σ0 w σ' ∧ Sl sz R σ' v xs ∧ SLe σ σ' ∧ (∀ k, some k ≠ v.ownBlock → σ' k = σ k) := by
  obtain ⟨a, cap, rfl, h1, h2, hsp, h3⟩ := h
  by_cases hc : cap = 0
  · have hx : xs = [] := List.eq_nil_of_length_eq_zero (by omega)
    subst hc hx
    exact ⟨σ, hS, ⟨a, 0, rfl, by simp, by simp, fun _ => rfl, fun b hb => ⟨fun _ => (hsp b hb).1, by simp⟩⟩, SLe.refl _, fun _ _ => rfl⟩
  · obtain ⟨g, off, cur, rfl, q1, q2, q3, q4, q5⟩ := h3 (by omega)
    have hle' := Q5.put_le hS.sat q2 (.cells cur e (0, 0))
    refine ⟨σ.put g (.cells cur e (0, 0)), hS.put q2 q1 q3, ⟨_, cap, rfl, h1, h2, by simp, ?_⟩, ⟨hle'⟩, ?_⟩
    · rintro _ ⟨⟩
      refine ⟨fun _ => rfl, fun i x hx => ⟨(cur.toList.drop (off + i * sz)).take sz, ⟨F0 rfl _, cur, e, (0, 0), by rw [R8]; simp [Q5.put], ?_⟩, ?_, hr.up hle' (q5 i x hx)⟩⟩
      · intro j u hu
        rw [Qy]
        rw [List.getElem?_take] at hu
        split at hu
        · rw [List.getElem?_drop] at hu; simpa using hu
        · cases hu
      · have hi : i < xs.length := (List.getElem?_eq_some_iff.1 hx).1
        have h : i * sz + sz ≤ cap * sz := by rw [← Nat.succ_mul]; exact Nat.mul_le_mul_right _ (by omega)
        rw [List.length_take, List.length_drop, Array.length_toList (xs := cur)]; omega
    · intro k hk
      have : k ≠ g := by intro e; subst e; exact hk rfl
      simp only [Q5.put, if_neg this]
theorem Q7B {t t' : TypeId} {by_ : Nat} {z : Value} {A : Value → Value → World → Prop} {ds : List Value} [ts : TS P t e] [tz : TZ P e sz by_ z] {by' : Nat} {z' : Value} [tz' : TZ P t' sz by' z'] (hS : Stp w0 σ0 w σ) (ha : L7 w0.heap.size e sz R σ w v xs) {n : Nat} (hn : n < xs.length) (hd : ds.length = sz) (hx : R σ x ds) (h1 : ∀ u ∈ ds, u.oneCell' = true)
    (h : ∀ p u w', Kpt (fun k => v.ownBlock = some k) w w' → Hst w0 σ0 w' σ → L7 w0.heap.size e sz R σ w' v (xs.set n x) → A p u w') :
    indexAddr P t v (I n) w (fun p w => V5 P t' p (.agg ds.toArray) w (fun u w => A p u w)) := by
  obtain ⟨a, cap, rfl, c1, c2, hsp, c3⟩ := ha
  obtain ⟨g, off, cur, rfl, q1, q2, q3, q4, q5⟩ := c3 (by omega)
  rw [Rh (by omega) (by omega)]
  have hh : n * sz + sz ≤ cap * sz := by rw [← Nat.succ_mul]; exact Nat.mul_le_mul_right _ (by omega)
  have hadd : (⟨g, off, none⟩ : Addr).add ((n : Int).toNat * sz) = ⟨g, off + n * sz, none⟩ := by unfold Addr.add; split <;> simp_all
  rw [hadd]
  have hst := run_storeCells_at P g (off + n * sz) e ds 0 cur w q3 (by omega) h1
  simp only [Nat.add_zero] at hst
  obtain ⟨hu1, hu2⟩ := Nk (cs := (cur.toList.take (off + n * sz) ++ ds ++ cur.toList.drop (off + n * sz + ds.length)).toArray) q3
  unfold V5
  rw [Ln (w' := w.setRow g (cur.toList.take (off + n * sz) ++ ds ++ cur.toList.drop (off + n * sz + ds.length)).toArray) (by
    simp [Instr.storeAt, Instr.sureAddr, storeVar, M2 tz', Value.cells, hd]
    simpa [hd] using hst)]
  have hk : Kpt (fun k => (Value.slice (some ⟨g, off, none⟩) xs.length cap).ownBlock = some k) w (w.setRow g (cur.toList.take (off + n * sz) ++ ds ++ cur.toList.drop (off + n * sz + ds.length)).toArray) := Kpt.of_upd hu1 rfl
  refine h _ _ _ hk ⟨hu1.stp hS q1 q2⟩ ⟨_, cap, by rw [List.length_set], by rw [List.length_set]; exact c1, c2, fun b hb => ⟨(hsp b hb).1, (hsp b hb).2.1, by rw [hu1.size]; exact (hsp b hb).2.2.1, (hsp b hb).2.2.2⟩, fun _ => ⟨g, off, _, rfl, q1, q2, hu2, ?_, fun j y hy => ?_⟩⟩
  · simp; omega
  · rw [List.toList_toArray]
    have hcl := Array.length_toList (xs := cur)
    have hjl : j < xs.length := by have := (List.getElem?_eq_some_iff.1 hy).1; simpa using this
    have hj2 : j * sz + sz ≤ cap * sz := by rw [← Nat.succ_mul]; exact Nat.mul_le_mul_right _ (by omega)
    by_cases hj : j = n
    · subst hj
      rw [List.getElem?_set_self hjl] at hy
      cases hy
      rw [List.append_assoc, List.drop_append, List.drop_eq_nil_of_le (by rw [List.length_take]; omega), List.nil_append, List.length_take, show off + j * sz - min (off + j * sz) cur.toList.length = 0 by omega, List.drop_zero, List.take_append_of_le_length (by omega), List.take_of_length_le (by omega)]
      exact hx
    · rw [List.getElem?_set_ne (by omega)] at hy
      have := q5 j y hy
      rcases Nat.lt_or_gt_of_ne hj with hlt | hgt
      · have hh3 : j * sz + sz ≤ n * sz := by rw [← Nat.succ_mul]; exact Nat.mul_le_mul_right _ hlt
        rw [List.append_assoc, List.drop_append_of_le_length (by rw [List.length_take]; omega), List.take_append_of_le_length (by rw [List.length_drop, List.length_take]; omega), List.drop_take, List.take_take]
        rwa [show min sz (off + n * sz - (off + j * sz)) = sz by omega]
      · have hh3 : n * sz + sz ≤ j * sz := by rw [← Nat.succ_mul]; exact Nat.mul_le_mul_right _ hgt
        rw [List.drop_append, List.drop_eq_nil_of_le (by rw [List.length_append, List.length_take]; omega), List.nil_append, List.length_append, List.length_take, List.drop_drop, hd]
        rwa [show off + n * sz + sz + (off + j * sz - (min (off + n * sz) cur.toList.length + sz)) = off + j * sz by omega]
end
theorem Q2h (p : Nat → Prop) : ∀ n, p n → ∃ m, p m ∧ ∀ k, p k → m ≤ k := by
  intro n
  induction n using Nat.strongRecOn with
  | _ n ih =>
    intro h
    by_cases hk : ∃ k, k < n ∧ p k
    · obtain ⟨k, h1, h2⟩ := hk; exact ih k h1 h2
    · exact ⟨n, h, fun k hp => Nat.le_of_not_lt fun hlt => hk ⟨k, hlt, hp⟩⟩
noncomputable def Ta (p : Nat → Prop) : Nat := open Classical in if h : ∃ m, p m ∧ ∀ k, p k → m ≤ k then Classical.choose h else 0
theorem Ih {p : Nat → Prop} {n : Nat} (h : p n) : p (Ta p) ∧ Ta p ≤ n := by
  have he := Q2h p n h
  unfold Ta
  rw [dif_pos he]
  exact ⟨(Classical.choose_spec he).1, (Classical.choose_spec he).2 n h⟩
theorem Ct {α : Type} {x0 : α} {A : (α → World → Prop) → α → (Nat → Value) → World → Prop} (I : Nat → α → World → Prop) (n : Nat) (h0 : I n x0 w)
    (hr : ∀ again n x d w, I n x w → (∀ n' x' w', n' < n → I n' x' w' → again x' w') → A again x d w) : lp x0 w A := by
  refine Jm (fun x w => ∃ n, I n x w) (fun x w => Ta fun n => I n x w) ⟨n, h0⟩ ?_
  rintro x d w ⟨n, hn⟩
  obtain ⟨h1, h2⟩ := Ih (p := fun n => I n x w) hn
  refine hr _ _ x d w h1 fun n' x' w' hlt h' => ⟨⟨n', h'⟩, ?_⟩
  exact Nat.lt_of_le_of_lt (Ih (p := fun n => I n x' w') h').2 hlt
section
variable {α : Type} {R : Q5 → α → List Value → Prop} {B sz : Nat} {e : TypeId} {v u : Value} {xs ys : List α} {x : α}
theorem L7.below (h : L7 B e sz R σ w v xs) (hb : Below w.heap.size w w') : L7 B e sz R σ w' v xs := h.kp (D := fun _ => False) (.of_below hb) fun _ _ => id
theorem L7.pre {a : Option Addr} {n m cap : Nat} (h : L7 B e sz R σ w (.slice a m cap) (xs ++ ys)) (hn : n = xs.length) : L7 B e sz R σ w (.slice a n cap) xs := by
  obtain ⟨a', cap', he, h1, h2, hsp, h3⟩ := h
  injection he with e1 e2 e3
  subst e1 e3 hn
  rw [List.length_append] at h1
  refine ⟨a, cap, rfl, by omega, h2, hsp, fun hc => ?_⟩
  obtain ⟨g, off, cur, q0, q1, q2, q3, q4, q5⟩ := h3 hc
  exact ⟨g, off, cur, q0, q1, q2, q3, q4, fun i x hx => q5 i x (by rw [List.getElem?_append_left (List.getElem?_eq_some_iff.1 hx).1]; exact hx)⟩
def Hy (B : Nat) (e : TypeId) (sz : Nat) (R : Q5 → α → List Value → Prop) (σ : Q5) (v : Value) (xs : List α) (x : α) (w1 w2 : World) : Prop :=
  Kpt (fun k => v.ownBlock = some k) w1 w2 ∧ (L7 B e sz R σ w1 v xs → L7 B e sz R σ w2 v xs) ∧
    ∀ a cap, v = .slice a xs.length cap → L7 B e sz R σ w1 (.slice a (xs.length + 1) cap) (xs ++ [x]) → L7 B e sz R σ w2 (.slice a (xs.length + 1) cap) (xs ++ [x])
theorem Hy.below (hb : Below w.heap.size w w') : Hy B e sz R σ v xs x w w' := ⟨.of_below hb, fun h => h.below hb, fun _ _ _ h => h.below hb⟩
theorem Hy.refl : Hy B e sz R σ v xs x w w := Hy.below (Below.refl _ _)
def VQa (N B : Nat) (e : TypeId) (sz : Nat) (R : Q5 → α → List Value → Prop) (σ : Q5) (v : Value) (xs : List α) (x : α) (v' : Value) (w : World) : Prop :=
  L7 B e sz R σ w v' (xs ++ [x]) ∧ ((∃ a cap, v = .slice a xs.length cap ∧ v' = .slice a (xs.length + 1) cap) ∨ ((∀ k, v'.ownBlock = some k → N ≤ k) ∧ ∀ k, v.ownBlock = some k → k < N))
theorem VQa.stable {N : Nat} {v' : Value} (h : VQa N B e sz R σ v xs x v' w) (ht : Hy B e sz R σ v xs x w w') : VQa N B e sz R σ v xs x v' w' := by
  obtain ⟨h1, h2⟩ := h
  refine ⟨?_, h2⟩
  rcases h2 with ⟨a, cap, h3, rfl⟩ | ⟨h2, h3⟩
  · exact ht.2.2 a cap h3 h1
  · exact h1.kp ht.1 fun k hk hk' => by have := h2 k hk; have := h3 k hk'; omega
theorem Kpt.more {D E : Nat → Prop} (h : Kpt D w w') (k : Kpt E w' w'') (hE : ∀ j, E j → w.heap.size ≤ j) : Kpt D w w'' :=
  ⟨k.os.trans h.os, k.tape.trans h.tape, k.output.trans h.output, Nat.le_trans h.size k.size, fun i hi hd => (k.block i (Nat.lt_of_lt_of_le hi h.size) fun e => by have := hE i e; omega).trans (h.block i hi hd)⟩
end
end Go.Emb

namespace Go.Hm
open Go.Kd
theorem V6 {l : List Cla} {n : X0} {c : Cla} (h : lk l n = some c) : c.name = n ∧ c ∈ l ∧ ∃ i, Y7 l n = some i ∧ l[i]? = some c := by
  unfold lk at h
  cases hf : Y7 l n with
  | none => rw [hf] at h; cases h
  | some i =>
    rw [hf] at h
    obtain ⟨hi, hp, _⟩ := List.findIdx?_eq_some_iff_getElem.1 hf
    have h' : l[i]? = some c := h
    rw [List.getElem?_eq_getElem hi] at h'
    cases h'
    exact ⟨by simpa using hp, List.getElem_mem hi, i, rfl, List.getElem?_eq_getElem hi⟩
theorem Xc {l : List Cla} {n : X0} {i : Nat} (h : Y7 l n = some i) : ∃ c, lk l n = some c ∧ l[i]? = some c ∧ c.name = n := by
  obtain ⟨hi, hp, _⟩ := List.findIdx?_eq_some_iff_getElem.1 h
  refine ⟨l[i], ?_, List.getElem?_eq_getElem hi, by simpa using hp⟩
  unfold lk; rw [h]; simp [hi]
theorem Ro {l : List Cla} {n : X0} : hasM l n = (lk l n).isSome := by
  unfold hasM
  cases hf : Y7 l n with
  | none => simp [lk, hf]
  | some i => obtain ⟨c, h, _⟩ := Xc hf; simp [h]
theorem Q6C {l : List Cla} {c : Cla} (h : c ∈ l) : ∃ d, lk l c.name = some d := by
  cases hf : Y7 l c.name with
  | none =>
    have := List.findIdx?_eq_none_iff.1 hf c h
    simp at this
  | some i => obtain ⟨d, h, _⟩ := Xc hf; exact ⟨d, h⟩
inductive Reach (L : Xf) : X0 → X0 → Prop
  | refl {a : X0} {c : Cla} : L a = some c → Reach L a a
  | step {a u b : X0} {c : Cla} : L a = some c → u ∈ U9 c → Reach L u b → Reach L a b
theorem Reach.trans {L : Xf} {a b d : X0} (h : Reach L a b) (k : Reach L b d) : Reach L a d := by
  induction h with
  | refl _ => exact k
  | step h1 h2 _ ih => exact .step h1 h2 (ih k)
theorem Reach.right {L : Xf} {a b : X0} (h : Reach L a b) : ∃ c, L b = some c := by
  induction h with
  | refl h => exact ⟨_, h⟩
  | step _ _ _ ih => exact ih
theorem Reach.left {L : Xf} {a b : X0} (h : Reach L a b) : ∃ c, L a = some c := by
  cases h with
  | refl h => exact ⟨_, h⟩
  | step h _ _ => exact ⟨_, h⟩
theorem Reach.snoc {L : Xf} {a b u : X0} {c d : Cla} (h : Reach L a b) (hb : L b = some c) (hu : u ∈ U9 c) (hd : L u = some d) : Reach L a u :=
  h.trans (.step hb hu (.refl hd))
theorem Pv (L : Xf) : ∀ (f : Nat) (todo seen : List X0), ∃ r, Zg L f todo seen = seen ++ r := by
  intro f
  induction f with
  | zero => intro todo seen; exact ⟨[], by simp [Zg]⟩
  | succ f ih =>
    intro todo seen
    cases todo with
    | nil => exact ⟨[], by simp [Zg]⟩
    | cons n todo =>
      simp only [Zg]
      split
      · exact ih _ _
      · split
        · exact ih _ _
        · obtain ⟨r, hr⟩ := ih (todo ++ U9 ‹_›) (seen ++ [n])
          exact ⟨n :: r, by rw [hr]; simp⟩
theorem Q6F (L : Xf) : ∀ (f : Nat) (todo seen : List X0) (x : X0), x ∈ Zg L f todo seen → x ∈ seen ∨ ∃ t ∈ todo, Reach L t x := by
  intro f
  induction f with
  | zero => intro todo seen x h; exact .inl h
  | succ f ih =>
    intro todo seen x h
    cases todo with
    | nil => exact .inl h
    | cons n todo =>
      simp only [Zg] at h
      split at h
      · rcases ih _ _ _ h with h | ⟨t, ht, h⟩
        · exact .inl h
        · exact .inr ⟨t, by simp [ht], h⟩
      · rename_i c hc
        split at h
        · rcases ih _ _ _ h with h | ⟨t, ht, h⟩
          · exact .inl h
          · exact .inr ⟨t, by simp [ht], h⟩
        · rcases ih _ _ _ h with h | ⟨t, ht, h⟩
          · rcases List.mem_append.1 h with h | h
            · exact .inl h
            · simp at h; subst h; exact .inr ⟨x, by simp, .refl hc⟩
          · rcases List.mem_append.1 ht with ht | ht
            · exact .inr ⟨t, by simp [ht], h⟩
            · exact .inr ⟨n, by simp, .step hc ht h⟩
theorem Q6H (l : List Cla) (seen seen' : List X0) (h : ∀ x ∈ seen, x ∈ seen') : weigh l seen' ≤ weigh l seen := by
  unfold weigh
  induction l with
  | nil => simp
  | cons c r ih =>
    simp only [List.map_cons, List.sum_cons]
    by_cases h1 : c.name ∈ seen
    · rw [if_pos h1, if_pos (h _ h1)]; omega
    · rw [if_neg h1]; split <;> omega
theorem Ck (l : List Cla) (seen : List X0) (c : Cla) (hc : c ∈ l) (hn : c.name ∉ seen) : weigh l (seen ++ [c.name]) + (U9 c).length ≤ weigh l seen := by
  unfold weigh
  induction l with
  | nil => simp at hc
  | cons d r ih =>
    simp only [List.map_cons, List.sum_cons]
    have hle : weigh r (seen ++ [c.name]) ≤ weigh r seen := Q6H _ _ _ (by simp; intro x hx; exact .inl hx)
    unfold weigh at hle
    rcases List.mem_cons.1 hc with rfl | hc
    · rw [if_pos (by simp), if_neg hn]; omega
    · have := ih hc
      by_cases h1 : d.name ∈ seen
      · rw [if_pos (by simp [h1]), if_pos h1]; omega
      · rw [if_neg h1]; split <;> omega
theorem Q70 (l : List Cla) : ∀ (f : Nat) (todo seen : List X0), todo.length + weigh l seen ≤ f →
    (∀ x ∈ seen, ∀ c, lk l x = some c → ∀ u ∈ U9 c, ∀ d, lk l u = some d → u ∈ seen ∨ u ∈ todo) →
    (∀ t ∈ todo, ∀ d, lk l t = some d → t ∈ Zg (lk l) f todo seen) ∧ ∀ x ∈ Zg (lk l) f todo seen, ∀ c, lk l x = some c → ∀ u ∈ U9 c, ∀ d, lk l u = some d → u ∈ Zg (lk l) f todo seen := by
  intro f
  induction f with
  | zero =>
    intro todo seen hf hs
    have : todo = [] := List.eq_nil_of_length_eq_zero (by omega)
    subst this
    refine ⟨by simp, fun x hx c hc u hu d hd => ?_⟩
    rcases hs x hx c hc u hu d hd with h | h
    · exact h
    · simp at h
  | succ f ih =>
    intro todo seen hf hs
    cases todo with
    | nil =>
      refine ⟨by simp, fun x hx c hc u hu d hd => ?_⟩
      rcases hs x hx c hc u hu d hd with h | h
      · exact h
      · simp at h
    | cons n todo =>
      simp only [List.length_cons] at hf
      simp only [Zg]
      split
      · rename_i hn
        obtain ⟨h1, h2⟩ := ih todo seen (by omega) (fun x hx c hc u hu d hd => by
          rcases hs x hx c hc u hu d hd with h | h
          · exact .inl h
          · rcases List.mem_cons.1 h with rfl | h
            · rw [hn] at hd; cases hd
            · exact .inr h)
        refine ⟨fun t ht d hd => ?_, h2⟩
        rcases List.mem_cons.1 ht with rfl | ht
        · rw [hn] at hd; cases hd
        · exact h1 t ht d hd
      · rename_i c hc
        split
        · rename_i hin
          obtain ⟨r, hr⟩ := Pv (lk l) f todo seen
          obtain ⟨h1, h2⟩ := ih todo seen (by omega) (fun x hx c hc u hu d hd => by
            rcases hs x hx c hc u hu d hd with h | h
            · exact .inl h
            · rcases List.mem_cons.1 h with rfl | h
              · exact .inl hin
              · exact .inr h)
          refine ⟨fun t ht d hd => ?_, h2⟩
          rcases List.mem_cons.1 ht with rfl | ht
          · rw [hr]; simp [hin]
          · exact h1 t ht d hd
        · rename_i hin
          obtain ⟨e, hm, _⟩ := V6 hc
          have hw := Ck l seen c hm (by rw [e]; exact hin)
          rw [e] at hw
          obtain ⟨h1, h2⟩ := ih (todo ++ U9 c) (seen ++ [n]) (by rw [List.length_append]; omega) (fun x hx c' hc' u hu d hd => by
            rcases List.mem_append.1 hx with hx | hx
            · rcases hs x hx c' hc' u hu d hd with h | h
              · exact .inl (by simp [h])
              · rcases List.mem_cons.1 h with rfl | h
                · exact .inl (by simp)
                · exact .inr (by simp [h])
            · simp at hx; subst hx
              rw [hc] at hc'; cases hc'
              exact .inr (by simp [hu]))
          refine ⟨fun t ht d hd => ?_, h2⟩
          rcases List.mem_cons.1 ht with rfl | ht
          · obtain ⟨r, hr⟩ := Pv (lk l) f (todo ++ U9 c) (seen ++ [t])
            rw [hr]; simp
          · exact h1 t (by simp [ht]) d hd
theorem Zd {l : List Cla} {a b : X0} : b ∈ visits l a ↔ Reach (lk l) a b := by
  obtain ⟨h1, h2⟩ := Q70 l (1 + weigh l []) [a] [] (by simp) (by simp)
  constructor
  · intro h
    rcases Q6F _ _ _ _ _ h with h | ⟨t, ht, h'⟩
    · simp at h
    · simp at ht; subst ht; exact h'
  · intro h
    have key : ∀ {x y : X0}, Reach (lk l) x y → x ∈ visits l a → y ∈ visits l a := by
      intro x y h
      induction h with
      | refl _ => exact id
      | step hc hu hr ih =>
        intro hx
        obtain ⟨d, hd⟩ := hr.left
        exact ih (h2 _ hx _ hc _ hu _ hd)
    obtain ⟨d, hd⟩ := h.left
    exact key h (h1 a (by simp) d hd)
theorem Q71 (l : List Cla) : ∀ (f : Nat) (todo seen : List X0), todo.length + weigh l seen ≤ f → ∀ k, Zg (lk l) (f + k) todo seen = Zg (lk l) f todo seen := by
  intro f
  induction f with
  | zero =>
    intro todo seen hf k
    have : todo = [] := List.eq_nil_of_length_eq_zero (by omega)
    subst this
    cases k <;> rfl
  | succ f ih =>
    intro todo seen hf k
    cases todo with
    | nil => rw [Nat.succ_add]; rfl
    | cons n todo =>
      simp only [List.length_cons] at hf
      rw [Nat.succ_add]
      simp only [Zg]
      split
      · exact ih _ _ (by omega) k
      · rename_i c hc
        split
        · exact ih _ _ (by omega) k
        · rename_i hin
          obtain ⟨e, hm, _⟩ := V6 hc
          have hw := Ck l seen c hm (by rw [e]; exact hin)
          rw [e] at hw
          exact ih _ _ (by rw [List.length_append]; omega) k
end Go.Hm

namespace Go.Hm
open Go.Kd
def Yl (L : Xf) (a b : X0) : Prop := ∃ c, L a = some c ∧ ∃ u ∈ U9 c, Reach L u b
def Qv (l : List Cla) : Prop := ∀ a, ¬ Yl (lk l) a a
theorem Yl.reach {L : Xf} {a b : X0} (h : Yl L a b) : Reach L a b := by
  obtain ⟨c, hc, u, hu, hr⟩ := h; exact .step hc hu hr
theorem Yl.trans {L : Xf} {a b d : X0} (h : Yl L a b) (k : Reach L b d) : Yl L a d := by
  obtain ⟨c, hc, u, hu, hr⟩ := h; exact ⟨c, hc, u, hu, hr.trans k⟩
theorem Reach.over {L : Xf} {a b d : X0} (h : Reach L a b) (k : Yl L b d) : Yl L a d := by
  cases h with
  | refl _ => exact k
  | step h1 h2 h3 => exact ⟨_, h1, _, h2, h3.trans k.reach⟩
theorem Q1w {L : Xf} {a b : X0} : Reach L a b ↔ (a = b ∧ (∃ c, L a = some c)) ∨ Yl L a b := by
  constructor
  · intro h
    cases h with
    | refl h => exact .inl ⟨rfl, _, h⟩
    | step h1 h2 h3 => exact .inr ⟨_, h1, _, h2, h3⟩
  · rintro (⟨rfl, c, h⟩ | h)
    · exact .refl h
    · exact h.reach
def Zf (l : List Cla) (a b : X0) : Bool := match lk l a with
  | none => false
  | some c => (U9 c).any fun u => (visits l u).contains b
theorem Jx {l : List Cla} {a b : X0} : Zf l a b = true ↔ Yl (lk l) a b := by
  unfold Zf Yl
  cases h : lk l a with
  | none => simp
  | some c =>
    simp only [List.any_eq_true, List.contains_iff_mem, Zd]
    constructor
    · rintro ⟨u, hu, hr⟩; exact ⟨c, rfl, u, hu, hr⟩
    · rintro ⟨_, ⟨⟩, u, hu, hr⟩; exact ⟨u, hu, hr⟩
def H7 (l : List Cla) (n : X0) : Nat := l.countP fun m => Zf l n m.name
theorem Re (l : List Cla) (n : X0) : H7 l n ≤ l.length := List.countP_le_length
theorem Q1o {α : Type} {p q : α → Bool} : ∀ {l : List α}, (∀ x ∈ l, p x = true → q x = true) → (∃ x ∈ l, q x = true ∧ p x = false) → l.countP p < l.countP q := by
  intro l
  induction l with
  | nil => rintro _ ⟨x, hx, _⟩; simp at hx
  | cons a r ih =>
    rintro h ⟨x, hx, hq, hp⟩
    have hle : r.countP p ≤ r.countP q := List.countP_mono_left fun x hx => h x (by simp [hx])
    rw [List.countP_cons, List.countP_cons]
    rcases List.mem_cons.1 hx with rfl | hx
    · rw [hq, hp]; simp; omega
    · have := ih (fun x hx => h x (by simp [hx])) ⟨x, hx, hq, hp⟩
      have ha := h a (by simp)
      cases hpa : p a
      · simp; split <;> omega
      · rw [ha hpa]; simp; omega
theorem Q7N {l : List Cla} (ha : Qv l) {a b : X0} (h : Yl (lk l) a b) : H7 l b < H7 l a := by
  unfold H7
  refine Q1o (fun x _ hx => ?_) ?_
  · rw [Jx] at *
    exact h.trans hx.reach
  · obtain ⟨d, hd⟩ := (Reach.right (h.reach))
    obtain ⟨e, hm, _⟩ := V6 hd
    refine ⟨d, hm, ?_, ?_⟩
    · rw [Jx, e]; exact h
    · cases hb : Zf l b d.name with
      | false => rfl
      | true => rw [Jx, e] at hb; exact absurd hb (ha b)
theorem B8 {l : List Cla} (ha : Qv l) {a u : X0} {c d : Cla} (hc : lk l a = some c) (hu : u ∈ U9 c) (hd : lk l u = some d) : H7 l u < H7 l a :=
  Q7N ha ⟨c, hc, u, hu, .refl hd⟩
theorem Q48 {l : List Cla} (ha : Qv l) : ∀ (f g : Nat) (n : X0), H7 l n < f → H7 l n < g → R9 (lk l) f n = R9 (lk l) g n := by
  intro f
  induction f with
  | zero => intro g n h; omega
  | succ f ih =>
    intro g n hf hg
    obtain ⟨g, rfl⟩ : ∃ m, g = m + 1 := ⟨g - 1, by omega⟩
    simp only [R9]
    cases hc : lk l n with
    | none => rfl
    | some c =>
      simp only
      congr 1
      cases hd : lk l c.super with
      | none => cases f <;> cases g <;> simp [R9, hd]
      | some d =>
        have := B8 ha hc (by simp [U9]) hd
        exact ih g c.super (by omega) (by omega)
theorem F7 {l : List Cla} (ha : Qv l) (n : X0) : chain l n = match lk l n with | none => [] | some c => c :: chain l c.super := by
  have := Re l n
  unfold chain
  rw [R9]
  cases hc : lk l n with
  | none => rfl
  | some c =>
    simp only
    congr 1
    cases hd : lk l c.super with
    | none => cases l.length <;> simp [R9, hd]
    | some d =>
      have := B8 ha hc (by simp [U9]) hd
      exact Q48 ha _ _ _ (by omega) (by omega)
theorem Qk {l : List Cla} {n : X0} (h : lk l n = none) : chain l n = [] := by simp [chain, R9, h]
theorem Lr {α β : Type} {f g : α → Option β} : ∀ {l : List α}, (∀ x ∈ l, f x = g x) → l.findSome? f = l.findSome? g
  | [], _ => rfl
  | a :: r, h => by
    rw [List.findSome?_cons, List.findSome?_cons, h a (by simp), Lr fun x hx => h x (by simp [hx])]
theorem Q3R {l : List Cla} (ha : Qv l) (n : X0) : ∀ (f g : Nat) (c : Cla), lk l c.name = some c → H7 l c.name < f → H7 l c.name < g → Dn (lk l) f c n = Dn (lk l) g c n := by
  intro f
  induction f with
  | zero => intro g c _ h; omega
  | succ f ih =>
    intro g c hc hf hg
    obtain ⟨g, rfl⟩ : ∃ m, g = m + 1 := ⟨g - 1, by omega⟩
    simp only [Dn]
    refine Lr fun u hu => ?_
    cases hd : lk l u with
    | none => rfl
    | some d =>
      simp only
      cases H8 d n with
      | some m => rfl
      | none =>
        simp only
        have := B8 ha hc (by simp [U9, hu]) hd
        have e := (V6 hd).1
        exact ih g d (by rw [e]; exact hd) (by rw [e]; omega) (by rw [e]; omega)
def V7 (l : List Cla) (c : Cla) (n : X0) : Option (X0 × Hm.Met) := Dn (lk l) (l.length + 1) c n
theorem Q1Q {l : List Cla} (ha : Qv l) {c : Cla} (hc : lk l c.name = some c) (n : X0) : V7 l c n = c.like.findSome? fun u => match lk l u with
    | none => none
    | some d => match H8 d n with
      | some m => some (u, m)
      | none => V7 l d n := by
  have := Re l c.name
  unfold V7
  rw [Dn]
  refine Lr fun u hu => ?_
  cases hd : lk l u with
  | none => rfl
  | some d =>
    simp only
    cases H8 d n with
    | some m => rfl
    | none =>
      have := B8 ha hc (by simp [U9, hu]) hd
      have e := (V6 hd).1
      exact Q3R ha n _ _ d (by rw [e]; exact hd) (by rw [e]; omega) (by rw [e]; omega)
theorem Q4c {l : List Cla} (ha : Qv l) : ∀ (f g : Nat) (n : X0), H7 l n < f → H7 l n < g → B0 (lk l) f n = B0 (lk l) g n := by
  intro f
  induction f with
  | zero => intro g n h; omega
  | succ f ih =>
    intro g n hf hg
    obtain ⟨g, rfl⟩ : ∃ m, g = m + 1 := ⟨g - 1, by omega⟩
    simp only [B0]
    cases hc : lk l n with
    | none => rfl
    | some c =>
      simp only
      have : B0 (lk l) f c.super = B0 (lk l) g c.super := by
        cases hd : lk l c.super with
        | none => cases f <;> cases g <;> simp [B0, hd]
        | some d =>
          have := B8 ha hc (by simp [U9]) hd
          exact ih g c.super (by omega) (by omega)
      rw [this]
theorem Q1h {l : List Cla} (ha : Qv l) (n : X0) : printM l n = match lk l n with
    | none => []
    | some c => if n = U4 then [] else n ++ [40] ++ printM l c.super ++ [41] ++ c.fields.flatMap D4 ++ [46] := by
  have := Re l n
  unfold printM
  rw [B0]
  cases hc : lk l n with
  | none => rfl
  | some c =>
    simp only
    have : B0 (lk l) l.length c.super = B0 (lk l) (l.length + 1) c.super := by
      cases hd : lk l c.super with
      | none => cases l.length <;> simp [B0, hd]
      | some d =>
        have := B8 ha hc (by simp [U9]) hd
        exact Q4c ha _ _ _ (by omega) (by omega)
    rw [this]
theorem Hh {l : List Cla} {n : X0} (h : lk l n = none) : printM l n = [] := by simp [printM, B0, h]
def B5 (l : List Cla) : Prop := (l.map (·.name)).Nodup
theorem B5.lk {l : List Cla} (h : B5 l) {c : Cla} (hc : c ∈ l) : Go.Hm.lk l c.name = some c := by
  obtain ⟨d, hd⟩ := Q6C hc
  obtain ⟨e, hm, i, hi, hd'⟩ := V6 hd
  obtain ⟨j, hj, rfl⟩ := List.getElem_of_mem hc
  obtain ⟨hil, he⟩ := List.getElem?_eq_some_iff.1 hd'
  have : i = j := by
    have h1 : (l.map (·.name))[i]'(by simpa using hil) = (l.map (·.name))[j]'(by simpa using hj) := by simp [he, e]
    exact (List.getElem_inj h).1 h1
  subst this
  rw [hd, ← he]
theorem B5.find {l : List Cla} (h : B5 l) {i : Nat} {c : Cla} (hc : l[i]? = some c) : Y7 l c.name = some i := by
  obtain ⟨hi, rfl⟩ := List.getElem?_eq_some_iff.1 hc
  have := h.lk (List.getElem_mem hi)
  obtain ⟨e, hm, j, hj, hd⟩ := V6 this
  obtain ⟨hjl, he⟩ := List.getElem?_eq_some_iff.1 hd
  have : j = i := by
    have h1 : (l.map (·.name))[j]'(by simpa using hjl) = (l.map (·.name))[i]'(by simpa using hi) := by simp [he]
    exact (List.getElem_inj h).1 h1
  rw [hj, this]
end Go.Hm

namespace Go.Emb
open Go.RowKit Go.Hm
variable {P : Program} {w w0 w1 w' w'' : World} {K : Value → World → Prop} {σ σ0 σ1 σ2 σ' : Q5}
theorem Stp.join (h1 : Stp w σ w' σ1) (h2 : Stp w σ w' σ2) : ∃ σ3, Stp w σ w' σ3 ∧ SLe σ1 σ3 ∧ SLe σ2 σ3 := by
  have l1 : ∀ b o, σ1 b = some o → (fun b => (σ1 b).or (σ2 b)) b = some o := fun b o e => by simp [e]
  have l2 : ∀ b o, σ2 b = some o → (fun b => (σ1 b).or (σ2 b)) b = some o := by
    intro b o e
    cases hb : σ1 b with
    | none => simp [hb, e]
    | some p =>
      have a1 := h1.sat b p hb
      have a2 := h2.sat b o e
      rw [a1] at a2; cases a2; simp only [hb, Option.some_or]
  refine ⟨fun b => (σ1 b).or (σ2 b), ⟨h1.bel, ?_, fun b o e => l1 b o (h1.le b o e), ?_⟩, ⟨l1⟩, ⟨l2⟩⟩
  · intro b o e
    cases hb : σ1 b with
    | none => simp only [hb, Option.none_or] at e; exact h2.sat b o e
    | some p => simp only [hb, Option.some_or] at e; cases e; exact h1.sat b _ hb
  · intro b hb
    simp only [h1.old b hb, h2.old b hb]; cases σ b <;> rfl
theorem Ee {Φ : Q5 → Value → Prop} {A rest : (Value → World → Prop) → Prop} (h : A (fun v w' => ∃ σ', Stp w σ w' σ' ∧ Φ σ' v)) (hr : rest (fun v w' => ∃ σ', Stp w σ w' σ' ∧ Φ σ' v)) : Q7 (fun w w' => Below w.heap.size w w') A rest :=
  O4 _ (fun _ _ _ ⟨σ', h1, h2⟩ hb => ⟨σ', h1.trans (Stp.of_below h1.sat hb), h2⟩) h hr
theorem Ax {Φ : Q5 → Value → Prop} {v : Value} (h0 : Hst w σ w1 σ) (h : Stp w1 σ w' σ') (hv : Φ σ' v) : dk (fun w w' => Below w.heap.size w w') (fun v w' => ∃ σ', Stp w σ w' σ' ∧ Φ σ' v) w1 v w' :=
  ⟨h.bel, σ', h0.stp.trans h, hv⟩
theorem M9.mk {m : Hm.Met} {pv cv hv : Value} (h1 : Sl 1 U5 σ pv m.params) (h2 : Sl 3 F5 σ cv m.code) (h3 : Sl 4 Qr σ hv m.catches) (h4 : m.name.length ≤ W3) (h5 : m.result.length ≤ W3) (h6 : Ke m.locals) : M9 σ m [S m.name, pv, S m.result, .bool m.abs, I m.locals, cv, hv] :=
  ⟨pv, cv, hv, rfl, h1, h2, h3, h4, h5, h6⟩
theorem U7.mk {c : Cla} {lv fv mv : Value} (h1 : Sl 1 U5 σ lv c.like) (h2 : Sl 3 D7 σ fv c.fields) (h3 : Sl 7 M9 σ mv c.methods) (h4 : c.name.length ≤ W3) (h5 : c.super.length ≤ W3) : U7 σ c [S c.name, S c.super, lv, .bool c.iface, .bool c.abs, .bool c.fin, fv, mv] :=
  ⟨lv, fv, mv, rfl, h1, h2, h3, h4, h5⟩
end Go.Emb
namespace Go.Hm
def SmM (m : Hm.Met) : Prop := m.params.length ≤ 1000000 ∧ m.code.length ≤ 1000000 ∧ m.catches.length ≤ 1000000
def G3 (c : Cla) : Prop := c.like.length ≤ 1000000 ∧ c.fields.length ≤ 1000000 ∧ c.methods.length ≤ 1000000 ∧ ∀ m ∈ c.methods, SmM m
end Go.Hm
namespace Go.Proofs.YtdnfaboigajkhaaGreatDoor
open Go.Emb Go.RowKit Go.Kd Go.Hm
variable {w : World} {K : Value → World → Prop} {σ : Q5}
theorem Q1p {m : Hm.Met} {cs : List Value} (hs : X6 w σ) (hm : M9 σ m cs) (hsm : SmM m)
    (h : ∀ pv cv hv w' σ', Stp w σ w' σ' → M9 σ' m [S m.name, pv, S m.result, .bool m.abs, I m.locals, cv, hv] → K (.agg [S m.name, pv, S m.result, .bool m.abs, I m.locals, cv, hv].toArray) w') : Q1 P F.bD [.agg cs.toArray] w K := Q20 (by
  obtain ⟨pv, cv, hv, rfl, g1, g2, g3, g4, g5, g6⟩ := hm
  obtain ⟨s1, s2, s3⟩ := hsm
  unfold Fb
  refine Q37 hs fun b w1 σ1 hb hk1 hm1 => ?_
  refine T7 hk1.sat fun b2 w2 σ2 hb2 hk2 hm2 => ?_
  have hlt := hm1.lt
  replace hm1 := hm1.step hk2
  have hs2 := hk2.sat
  have g1 := (g1.up hk1).up hk2
  have g2 := (g2.up hk1).up hk2
  have g3 := (g3.up hk1).up hk2
  have L : ∀ {w' : World} (i : Nat) (v : Value), [S m.name, pv, S m.result, .bool m.abs, I m.locals, cv, hv][i]? = some v → Hst w2 σ2 w' σ2 → w'.cell? ((⟨b, 0, none⟩ : Addr).add i) = some v := fun i v hv hh => (hm1.step hh.stp).cell hv
  refine W1 hs2 ?_
  refine X2 (.pointer (some ((⟨b, 0, none⟩ : Addr).add 1))) (fun w hb => by rw [fa]; exact X5 rfl) ?_
  refine X2 (.pointer (some ((⟨b, 0, none⟩ : Addr).add 5))) (fun w hb => by rw [fa]; exact X5 rfl) ?_
  refine X2 (.pointer (some ((⟨b, 0, none⟩ : Addr).add 6))) (fun w hb => by rw [fa]; exact X5 rfl) ?_
  refine X2 pv (fun t w hb e => by rw [e]; exact T8 (L 1 pv rfl hb) (X5 rfl)) ?_
  refine Ee (Φ := fun σ' v => Sl 1 U5 σ' v m.params) (fun t w hb e => by rw [e]; exact Jy hb.sat g1 s1 fun v' w' σ' hk hv => Ax hb hk hv) ?_
  refine X2 cv (fun t w hb e => by rw [e]; exact T8 (L 5 cv rfl hb) (X5 rfl)) ?_
  refine Ee (Φ := fun σ' v => Sl 3 F5 σ' v m.code) (fun t w hb e => by rw [e]; exact Lt hb.sat g2 s2 fun v' w' σ' hk hv => Ax hb hk hv) ?_
  refine X2 hv (fun t w hb e => by rw [e]; exact T8 (L 6 hv rfl hb) (X5 rfl)) ?_
  refine X2 (.pointer (some ((⟨b, 0, none⟩ : Addr).add 1))) (fun w hb => by rw [fa]; exact X5 rfl) ?_
  refine Ee (Φ := fun σ' v => Sl 4 Qr σ' v m.catches) (fun t w hb e => by rw [e]; exact Lv hb.sat g3 s3 fun v' w' σ' hk hv => Ax hb hk hv) ?_
  rintro t1 t2 t3 t4 t5 t6 t8 t9 t10 t11 w3 hb3 e1 e2 e3 e4 ⟨σ5, k5, f5⟩ e6 ⟨σ8, k8, f8⟩ e9 e10 ⟨σ11, k11, f11⟩
  subst e10
  obtain ⟨σa, ka, la1, la2⟩ := k5.join k8
  obtain ⟨σ3, k3, l1, l2⟩ := ka.join k11
  have f5 := (f5.lift la1).lift l1
  have f8 := (f8.lift la2).lift l1
  have f11 := f11.lift l2
  have hm1 := hm1.step k3
  have hm2 := hm2.step k3
  have hne : b2 ≠ b := by omega
  have hS := (hk1.trans hk2).trans k3
  refine Pb hm1 (by simp) (Jr f5) (Qo f5) fun w4 u4 hm1 => ?_
  rw [fa]
  have hS := u4.stp hS hb hm1.1
  have hm2 := hm2.upd u4 hne
  refine Pb hm1 (by simp) (Jr f8) (Qo f8) fun w5 u5 hm1 => ?_
  rw [fa]
  have hS := u5.stp hS hb hm1.1
  have hm2 := hm2.upd u5 hne
  refine Pb hm1 (by simp) (Jr f11) (Qo f11) fun w6 u6 hm1 => ?_
  have hS := u6.stp hS hb hm1.1
  have hm2 := hm2.upd u6 hne
  refine Q8H hm1 rfl ?_
  have hr := M9.mk f5 f8 f11 g4 g5 g6
  have hb2' := Yn hb2 hk1
  refine sta hm2 rfl rfl (by rw [List.all_toArray]; exact List.all_eq_true.2 (Rep.one hr)) fun w7 u7 hm2 => ?_
  have hS := u7.stp hS hb2' hm2.1
  refine M6 hm2 rfl ?_
  exact h t5 t8 t11 w7 σ3 hS hr)
theorem Q3i {c : Cla} {cs : List Value} (hs : X6 w σ) (hc : U7 σ c cs) (hsm : G3 c)
    (h : ∀ lv fv mv w' σ', Stp w σ w' σ' → U7 σ' c [S c.name, S c.super, lv, .bool c.iface, .bool c.abs, .bool c.fin, fv, mv] → K (.agg [S c.name, S c.super, lv, .bool c.iface, .bool c.abs, .bool c.fin, fv, mv].toArray) w') : Q1 P F.bC [.agg cs.toArray] w K := Q1T (by
  obtain ⟨lv, fv, mv, rfl, g1, g2, g3, g4, g5⟩ := hc
  obtain ⟨s1, s2, s3, s4⟩ := hsm
  unfold Ff
  refine Q37 hs fun b w1 σ1 hb hk1 hm1 => ?_
  refine T7 hk1.sat fun b2 w2 σ2 hb2 hk2 hm2 => ?_
  have hlt := hm1.lt
  replace hm1 := hm1.step hk2
  have hs2 := hk2.sat
  have g1 := (g1.up hk1).up hk2
  have g2 := (g2.up hk1).up hk2
  have g3 := (g3.up hk1).up hk2
  have L : ∀ {w' : World} (i : Nat) (v : Value), [S c.name, S c.super, lv, .bool c.iface, .bool c.abs, .bool c.fin, fv, mv][i]? = some v → Hst w2 σ2 w' σ2 → w'.cell? ((⟨b, 0, none⟩ : Addr).add i) = some v := fun i v hv hh => (hm1.step hh.stp).cell hv
  refine W1 hs2 ?_
  refine X2 (.pointer (some ((⟨b, 0, none⟩ : Addr).add 2))) (fun w hb => by rw [fa]; exact X5 rfl) ?_
  refine X2 (.pointer (some ((⟨b, 0, none⟩ : Addr).add 6))) (fun w hb => by rw [fa]; exact X5 rfl) ?_
  refine X2 lv (fun t w hb e => by rw [e]; exact T8 (L 2 lv rfl hb) (X5 rfl)) ?_
  refine Ee (Φ := fun σ' v => Sl 1 U5 σ' v c.like) (fun t w hb e => by rw [e]; exact Jy hb.sat g1 s1 fun v' w' σ' hk hv => Ax hb hk hv) ?_
  refine X2 fv (fun t w hb e => by rw [e]; exact T8 (L 6 fv rfl hb) (X5 rfl)) ?_
  refine X2 (.pointer (some ((⟨b, 0, none⟩ : Addr).add 2))) (fun w hb => by rw [fa]; exact X5 rfl) ?_
  refine Ee (Φ := fun σ' v => Sl 3 D7 σ' v c.fields) (fun t w hb e => by rw [e]; exact Mg hb.sat g2 s2 fun v' w' σ' hk hv => Ax hb hk hv) ?_
  rintro t6 t9 t7 t8 t10 t12 t11 w3 hb3 e6 e9 e7 ⟨σ8, k8, f8⟩ e10 e12 ⟨σ11, k11, f11⟩
  subst e12
  obtain ⟨σ3, k3, l1, l2⟩ := k8.join k11
  have f8 := f8.lift l1
  have f11 := f11.lift l2
  have g3 := g3.up k3
  have hm1 := hm1.step k3
  have hm2 := hm2.step k3
  have hne : b2 ≠ b := by omega
  have hS := (hk1.trans hk2).trans k3
  refine Pb hm1 (by simp) (Jr f8) (Qo f8) fun w4 u4 hm1 => ?_
  rw [fa]
  have hS := u4.stp hS hb hm1.1
  have hm2 := hm2.upd u4 hne
  refine Pb hm1 (by simp) (Jr f11) (Qo f11) fun w5 u5 hm1 => ?_
  rw [fa]
  have hS := u5.stp hS hb hm1.1
  have hm2 := hm2.upd u5 hne
  refine ldm hm1 rfl ?_
  refine Q6 g3 ?_
  refine N1 c.methods.length (fun n a w' => ∃ σ', Stp w σ w' σ' ∧ SLe σ3 σ' ∧ W5 w.heap.size T.c 7 M9 σ' w' a (c.methods.take n) ∧ V4 σ' w' b [S c.name, S c.super, t8, .bool c.iface, .bool c.abs, .bool c.fin, t11, mv] ∧ V4 σ' w' b2 [S [], S [], .slice none 0 0, .bool false, .bool false, .bool false, .slice none 0 0, .slice none 0 0] ∧ ∀ k, a.ownBlock = some k → k ≠ b ∧ k ≠ b2)
    ⟨σ3, hS, SLe.refl _, W5.nil, hm1, hm2, fun k hk => by cases hk⟩ fun n a w6 d hn hi => ?_
  obtain ⟨σ6, hS6, le6, ha, hm1, hm2, hne6⟩ := hi
  refine Z5 ?_
  refine Q4 (fun hh => ?_) (fun hh => ?_)
  · have hn' : n < c.methods.length := by simpa using hh
    have hmax : c.methods.length ≤ 9223372036854775807 := by omega
    refine L2 (g3.lift le6) hn' fun p cs hl hlen hr => ?_
    refine Y3 hS6.sat hl hlen ?_
    refine Y0 hS6.sat (by rfl) hlen (Rep.one hr) fun q w7 σ7 hk7 hq => ?_
    refine Y3 hk7.sat hq hlen ?_
    refine Q1p hk7.sat (Rep.up hk7.le hr) (s4 _ (List.getElem_mem hn')) fun pv cv hv w8 σ8 hk8 hr8 => ?_
    have hn8 := (Nxt.of_stp (D := fun k => a.ownBlock = some k) hk7).trans (Nxt.of_stp hk8)
    have ha8 := (ha.up hk7).up hk8
    have hlt1 := (hm1.nx hn8 fun e => (hne6 _ e).1 rfl).lt
    have hlt2 := (hm2.nx hn8 fun e => (hne6 _ e).2 rfl).lt
    refine Ys ((hS6.trans hk7).trans hk8) ha8 hr8 rfl rfl rfl (by rw [List.length_take]; omega) (by rw [List.length_take]; omega) fun s v' w9 σ9 hnx hS9 ha9 hat => ?_
    refine O5 ?_
    have hnx := hn8.trans hnx
    refine Z6 hmax hn' ⟨σ9, hS9, le6.more hnx.le, ?_, hm1.nx hnx fun e => (hne6 _ e).1 rfl, hm2.nx hnx fun e => (hne6 _ e).2 rfl, ?_⟩
    · rw [List.take_add_one, List.getElem?_eq_getElem hn']; exact ha9
    · intro k hk
      rcases hat with hat | hat
      · exact hne6 k (hat ▸ hk)
      · have := hat k hk
        constructor <;> omega
  · have hn' : ¬ n < c.methods.length := by simpa using hh
    rw [List.take_of_length_le (by omega)] at ha
    obtain ⟨σ7, hS7, ha7, le7, old7⟩ := ha.keep hS6
    have hm1 : V4 σ7 w6 b _ := ⟨(old7 b fun e => (hne6 b e.symm).1 rfl).trans hm1.1, hm1.2⟩
    have hm2 : V4 σ7 w6 b2 _ := ⟨(old7 b2 fun e => (hne6 b2 e.symm).2 rfl).trans hm2.1, hm2.2⟩
    rw [fa]
    refine Pb hm1 (by simp) (Jr ha7) (Qo ha7) fun w7 u7 hm1 => ?_
    have hS7 := u7.stp hS7 hb hm1.1
    have hm2 := hm2.upd u7 hne
    refine Q8H hm1 rfl ?_
    have hr := U7.mk (f8.lift (le6.more ⟨le7⟩)) (f11.lift (le6.more ⟨le7⟩)) ha7 g4 g5
    have hb2' := Yn hb2 hk1
    refine sta hm2 rfl rfl (by rw [List.all_toArray]; exact List.all_eq_true.2 (Rep.one hr)) fun w8 u8 hm2 => ?_
    have hS8 := u8.stp hS7 hb2' hm2.1
    refine M6 hm2 rfl ?_
    exact h t8 t11 a w8 σ7 hS8 hr)
end Go.Proofs.YtdnfaboigajkhaaGreatDoor

namespace Go.Hm
open Go.Kd
def E4 {α : Type} : Nat → List α → List α
  | 0, xs => xs
  | i + 1, xs => match (E4 i xs)[i]?, (E4 i xs)[xs.length - 1 - i]? with
    | some a, some b => ((E4 i xs).set i b).set (xs.length - 1 - i) a
    | _, _ => E4 i xs
theorem Pj {α : Type} (xs : List α) : ∀ i, 2 * i ≤ xs.length → (E4 i xs).length = xs.length ∧ ∀ k, k < xs.length → (E4 i xs)[k]? = if k < i ∨ xs.length - 1 - k < i then xs[xs.length - 1 - k]? else xs[k]?
  | 0, _ => ⟨rfl, fun k hk => by simp [E4]⟩
  | i + 1, h => by
    obtain ⟨hl, hg⟩ := Pj xs i (by omega)
    have h1 := hg i (by omega)
    have h2 := hg (xs.length - 1 - i) (by omega)
    rw [if_neg (by omega)] at h1 h2
    have hi : i < xs.length := by omega
    have hi2 : xs.length - 1 - i < xs.length := by omega
    rw [List.getElem?_eq_getElem (l := xs) hi] at h1
    rw [List.getElem?_eq_getElem (l := xs) hi2] at h2
    simp only [E4, h1, h2]
    refine ⟨by simp [hl], fun k hk => ?_⟩
    by_cases hk1 : k = xs.length - 1 - i
    · subst hk1
      rw [List.getElem?_set_self (by simp [hl]; omega), if_pos (by omega)]
      rw [show xs.length - 1 - (xs.length - 1 - i) = i by omega, List.getElem?_eq_getElem (by omega)]
    · rw [List.getElem?_set_ne (by omega)]
      by_cases hk2 : k = i
      · subst hk2
        rw [List.getElem?_set_self (by omega), if_pos (by omega), List.getElem?_eq_getElem (by omega)]
      · rw [List.getElem?_set_ne (by omega), hg k hk]
        by_cases hc : k < i ∨ xs.length - 1 - k < i
        · rw [if_pos hc, if_pos (by omega)]
        · rw [if_neg hc, if_neg (by omega)]
theorem Q5D {α : Type} (xs : List α) (i : Nat) (h1 : 2 * i ≤ xs.length) (h2 : xs.length ≤ 2 * i + 1) : E4 i xs = xs.reverse := by
  obtain ⟨hl, hg⟩ := Pj xs i h1
  apply List.ext_getElem?
  intro k
  by_cases hk : k < xs.length
  · rw [hg k hk, List.getElem?_reverse hk]
    by_cases hc : k < i ∨ xs.length - 1 - k < i
    · rw [if_pos hc]
    · rw [if_neg hc]; congr 1; omega
  · rw [List.getElem?_eq_none (by omega), List.getElem?_eq_none (by simp; omega)]
theorem Cb (L : Xf) : ∀ (f : Nat) (n : X0), (R9 L f n).length ≤ f
  | 0, _ => by simp [R9]
  | f + 1, n => by
    simp only [R9]
    split
    · simp
    · have := Cb L f (by rename_i c _; exact c.super)
      simp only [List.length_cons]; rename_i c _ ; have := Cb L f c.super; omega
theorem Eu (l : List Cla) (n : X0) : (chain l n).length ≤ l.length + 1 := Cb _ _ _
theorem Ir {l : List Cla} {n : X0} {c : Cla} (h : c ∈ chain l n) : c ∈ l := by
  have key : ∀ (f : Nat) (n : X0), c ∈ R9 (lk l) f n → c ∈ l := by
    intro f
    induction f with
    | zero => intro n h; simp [R9] at h
    | succ f ih =>
      intro n h
      simp only [R9] at h
      split at h
      · simp at h
      · rename_i d hd
        rcases List.mem_cons.1 h with rfl | h
        · exact (V6 hd).2.1
        · exact ih _ h
  exact key _ _ h
theorem K0 {α β : Type} (f : α → List β) (k : Nat) : ∀ (xs : List α), (∀ x ∈ xs, (f x).length ≤ k) → (xs.flatMap f).length ≤ xs.length * k
  | [], _ => by simp
  | x :: r, h => by
    have h1 := h x (by simp)
    have h2 := K0 f k r fun y hy => h y (by simp [hy])
    simp only [List.flatMap_cons, List.length_append, List.length_cons, Nat.add_mul]; omega
end Go.Hm

namespace Go.Hm
open Go.Kd
def Y1 (l : List Cla) (i : Nat) : X0 := (l.getD i Cla.zero).name
theorem A6 {l : List Cla} (ho : B5 l) {i : Nat} (hi : i < l.length) : lk l (Y1 l i) = some (l.getD i Cla.zero) := by
  have e : l.getD i Cla.zero = l[i] := by rw [List.getD_eq_getElem?_getD, List.getElem?_eq_getElem hi]; rfl
  unfold Y1
  rw [e]; exact ho.lk (List.getElem_mem hi)
theorem R4 {l : List Cla} {u : X0} {j : Nat} (h : Y7 l u = some j) : j < l.length ∧ Y1 l j = u := by
  obtain ⟨hj, hp, _⟩ := List.findIdx?_eq_some_iff_getElem.1 h
  refine ⟨hj, ?_⟩
  unfold Y1
  rw [List.getD_eq_getElem?_getD, List.getElem?_eq_getElem hj]
  simpa using hp
theorem Td {l : List Cla} (ha : Qv l) (ho : B5 l) {i j : Nat} (hi : i < l.length) {u : X0} (hu : u ∈ U9 (l.getD i Cla.zero)) (hj : Y7 l u = some j) : H7 l (Y1 l j) < H7 l (Y1 l i) := by
  obtain ⟨c, hc, _⟩ := Xc hj
  rw [(R4 hj).2]
  exact B8 ha (A6 ho hi) hu hc
theorem Hp {α β : Type} {f g : β → α → β} : ∀ (xs : List α) (b : β), (∀ b x, x ∈ xs → f b x = g b x) → xs.foldl f b = xs.foldl g b
  | [], _, _ => rfl
  | x :: r, b, h => by
    rw [List.foldl_cons, List.foldl_cons, h b x (by simp)]
    exact Hp r _ fun b y hy => h b y (by simp [hy])
theorem Ql {l : List Cla} {frm : Nat} (f : Nat) (out : List Nat) {i : Nat} (h : i < frm) : F4 l frm f out i = out := by
  cases f <;> simp [F4, h]
theorem Q5R {l : List Cla} (ha : Qv l) (ho : B5 l) {frm : Nat} (hf : 0 < frm) : ∀ (f g : Nat) (out : List Nat) (i : Nat), i < l.length → H7 l (Y1 l i) < f → H7 l (Y1 l i) < g → F4 l frm f out i = F4 l frm g out i := by
  intro f
  induction f with
  | zero => intro g out i _ h; omega
  | succ f ih =>
    intro g out i hi h1 h2
    obtain ⟨g, rfl⟩ : ∃ m, g = m + 1 := ⟨g - 1, by omega⟩
    simp only [F4]
    split
    · rfl
    · split
      · rfl
      · congr 1
        refine Hp _ _ fun b u hu => ?_
        cases hj : Y7 l u with
        | none => simp only [Option.getD_none]; rw [Ql f b hf, Ql g b hf]
        | some j =>
          simp only [Option.getD_some]
          have := Td ha ho hi hu hj
          exact ih g b j (R4 hj).1 (by omega) (by omega)
def T5 (l : List Cla) (frm : Nat) (out : List Nat) (i : Nat) : List Nat := F4 l frm (l.length + 1) out i
theorem Q4o {l : List Cla} (ha : Qv l) (ho : B5 l) {frm : Nat} (hf : 0 < frm) (out : List Nat) {i : Nat} (hi : i < l.length) : T5 l frm out i = if i < frm then out else if i ∈ out then out else
    ((U9 (l.getD i Cla.zero)).foldl (fun out n => T5 l frm out ((Y7 l n).getD 0)) out) ++ [i] := by
  have hr := Re l (Y1 l i)
  unfold T5
  rw [F4]
  split
  · rfl
  · split
    · rfl
    · congr 1
      refine Hp _ _ fun b u hu => ?_
      cases hj : Y7 l u with
      | none => simp only [Option.getD_none]; rw [Ql _ b hf, Ql _ b hf]
      | some j =>
        simp only [Option.getD_some]
        have := Td ha ho hi hu hj
        exact Q5R ha ho hf _ _ b j (R4 hj).1 (by omega) (by omega)
theorem Ui {α : Type} {p : Nat → Prop} {f : List Nat → α → List Nat} : ∀ (xs : List α) (b : List Nat), (∀ b x, x ∈ xs → ∀ y ∈ f b x, y ∈ b ∨ p y) → ∀ y ∈ xs.foldl f b, y ∈ b ∨ p y
  | [], b, _ => fun y hy => .inl hy
  | x :: r, b, h => fun y hy => by
    rw [List.foldl_cons] at hy
    rcases Ui r _ (fun b z hz => h b z (by simp [hz])) y hy with h1 | h1
    · exact h b x (by simp) y h1
    · exact .inr h1
theorem Q3o {l : List Cla} (ho : B5 l) {frm : Nat} (hf : 0 < frm) : ∀ (f : Nat) (out : List Nat) (i : Nat), i < l.length → ∀ y ∈ F4 l frm f out i, y ∈ out ∨ (y < l.length ∧ (y = i ∨ Yl (lk l) (Y1 l i) (Y1 l y))) := by
  intro f
  induction f with
  | zero => intro out i _ y hy; exact .inl hy
  | succ f ih =>
    intro out i hi y hy
    simp only [F4] at hy
    split at hy
    · exact .inl hy
    · split at hy
      · exact .inl hy
      · rcases List.mem_append.1 hy with hy | hy
        · refine Ui (p := fun y => y < l.length ∧ (y = i ∨ Yl (lk l) (Y1 l i) (Y1 l y))) _ _ (fun b u hu y hy => ?_) y hy
          cases hj : Y7 l u with
          | none =>
            rw [hj] at hy
            simp only [Option.getD_none] at hy
            rw [Ql f b hf] at hy
            exact .inl hy
          | some j =>
            rw [hj] at hy
            simp only [Option.getD_some] at hy
            obtain ⟨hjl, hjn⟩ := R4 hj
            obtain ⟨c, hc, _⟩ := Xc hj
            rcases ih b j hjl y hy with h | ⟨h1, rfl | h2⟩
            · exact .inl h
            · exact .inr ⟨h1, .inr ⟨_, A6 ho hi, u, hu, by rw [hjn]; exact .refl hc⟩⟩
            · exact .inr ⟨h1, .inr ⟨_, A6 ho hi, u, hu, by rw [← hjn]; exact h2.reach⟩⟩
        · simp at hy; subst hy; exact .inr ⟨hi, .inl rfl⟩
theorem Q0i {α : Type} {q : List Nat → Prop} {f : List Nat → α → List Nat} : ∀ (xs : List α) (b : List Nat), (∀ b x, x ∈ xs → q b → q (f b x)) → q b → q (xs.foldl f b)
  | [], b, _, h => h
  | x :: r, b, hs, h => by
    rw [List.foldl_cons]
    exact Q0i r _ (fun b z hz => hs b z (by simp [hz])) (hs b x (by simp) h)
def Ip (l : List Cla) (out : List Nat) : Prop := out.Nodup ∧ ∀ y ∈ out, y < l.length
theorem Ip.len {l : List Cla} {out : List Nat} (h : Ip l out) : out.length ≤ l.length := by
  have key : ∀ (n : Nat) (out : List Nat), out.Nodup → (∀ y ∈ out, y < n) → out.length ≤ n := by
    intro n
    induction n with
    | zero =>
      intro out _ h
      cases out with
      | nil => simp
      | cons a r => have := h a (by simp); omega
    | succ n ih =>
      intro out hn h
      have h1 := ih (out.filter (fun y => !decide (y = n))) (hn.sublist List.filter_sublist) (fun y hy => by
        have := List.mem_filter.1 hy
        have h2 := h y this.1
        have h3 : y ≠ n := by simpa using this.2
        omega)
      have h2 : out.length ≤ (out.filter (fun y => !decide (y = n))).length + 1 := by
        clear h1 h
        induction out with
        | nil => simp
        | cons a r ih2 =>
          obtain ⟨ha, hr⟩ := List.nodup_cons.1 hn
          by_cases e : a = n
          · subst e
            have : r.filter (fun y => !decide (y = a)) = r := List.filter_eq_self.2 fun y hy => by simp; rintro rfl; exact ha hy
            simp [this]
          · have := ih2 hr
            simp [e]; exact this
      omega
  exact key _ _ h.1 h.2
theorem Bc {l : List Cla} (ha : Qv l) (ho : B5 l) {frm : Nat} (hf : 0 < frm) : ∀ (f : Nat) (out : List Nat) (i : Nat), i < l.length → Ip l out → Ip l (F4 l frm f out i) := by
  intro f
  induction f with
  | zero => intro out i _ h; exact h
  | succ f ih =>
    intro out i hi h
    simp only [F4]
    split
    · exact h
    · split
      · exact h
      · rename_i hin
        have hk : Ip l ((U9 (l.getD i Cla.zero)).foldl (fun out n => F4 l frm f out ((Y7 l n).getD 0)) out) := by
          refine Q0i _ _ (fun b u hu hb => ?_) h
          cases hj : Y7 l u with
          | none => simp only [Option.getD_none]; rw [Ql f b hf]; exact hb
          | some j => exact ih b j (R4 hj).1 hb
        have hni : i ∉ (U9 (l.getD i Cla.zero)).foldl (fun out n => F4 l frm f out ((Y7 l n).getD 0)) out := by
          intro hmem
          rcases Ui (p := fun y => Yl (lk l) (Y1 l i) (Y1 l y)) _ _ (fun b u hu y hy => by
            cases hj : Y7 l u with
            | none =>
              rw [hj] at hy
              simp only [Option.getD_none] at hy
              rw [Ql f b hf] at hy
              exact .inl hy
            | some j =>
              rw [hj] at hy
              simp only [Option.getD_some] at hy
              obtain ⟨hjl, hjn⟩ := R4 hj
              obtain ⟨c, hc, _⟩ := Xc hj
              rcases Q3o ho hf f b j hjl y hy with h | ⟨h1, rfl | h2⟩
              · exact .inl h
              · exact .inr ⟨_, A6 ho hi, u, hu, by rw [hjn]; exact .refl hc⟩
              · exact .inr ⟨_, A6 ho hi, u, hu, by rw [← hjn]; exact h2.reach⟩) i hmem with h1 | h1
          · exact hin h1
          · exact ha _ h1
        refine ⟨?_, fun y hy => ?_⟩
        · rw [List.nodup_append]
          exact ⟨hk.1, by simp, by rintro a ha b hb rfl; simp at hb; subst hb; exact hni ha⟩
        · rcases List.mem_append.1 hy with hy | hy
          · exact hk.2 y hy
          · simp at hy; omega
end Go.Hm

namespace Go.Emb
open Go.RowKit Go.Hm
variable {P : Program} {w w0 w1 w' w'' : World} {K : Value → World → Prop} {σ σ0 σ1 σ' : Q5}
def Aj (sz : Nat) (v : Value) (i : Nat) : Addr := match v with
  | .slice (some b) _ _ => b.add (i * sz)
  | _ => ⟨0, 0, none⟩
section
variable {α : Type} {R : Q5 → α → List Value → Prop} {sz : Nat} {v : Value} {xs : List α}
theorem Sl.el (h : Sl sz R σ v xs) {i : Nat} (hi : i < xs.length) : ∃ cs, U0 σ (Aj sz v i) cs ∧ cs.length = sz ∧ R σ xs[i] cs := by
  obtain ⟨a, cap, rfl, h2, h3, h4, h5⟩ := h
  cases a with
  | none => have := h4 rfl; omega
  | some b =>
    obtain ⟨cs, g1, g2, g3⟩ := (h5 b rfl).2 i xs[i] (by simp [hi])
    exact ⟨cs, g1, g2, g3⟩
theorem Y4 {t e : TypeId} {by_ : Nat} {z : Value} [TS P t e] [TZ P e sz by_ z] (h : Sl sz R σ v xs) {i : Nat} (hi : i < xs.length) (hk : K (.pointer (some (Aj sz v i))) w) : indexAddr P t v (I i) w K := by
  obtain ⟨a, cap, rfl, h2, h3, h4, h5⟩ := h
  cases a with
  | none => have := h4 rfl; omega
  | some b =>
    rw [Rh (by omega) (by omega)]
    simpa [Aj] using hk
theorem Sl.elS {xs : List Kd.X0} (h : Sl 1 U5 σ v xs) {i : Nat} (hi : i < xs.length) : U0 σ (Aj 1 v i) [S xs[i]] ∧ xs[i].length ≤ W3 := by
  obtain ⟨cs, h1, h2, rfl, h4⟩ := h.el hi; exact ⟨h1, h4⟩
theorem Sl.elF {xs : List Fld} (h : Sl 3 D7 σ v xs) {i : Nat} (hi : i < xs.length) : U0 σ (Aj 3 v i) [S xs[i].name, S xs[i].kind, .bool xs[i].tr] ∧ D7 σ xs[i] [S xs[i].name, S xs[i].kind, .bool xs[i].tr] := by
  obtain ⟨cs, h1, h2, rfl, h4⟩ := h.el hi; exact ⟨h1, rfl, h4⟩
theorem Sl.elI {xs : List Ins} (h : Sl 3 F5 σ v xs) {i : Nat} (hi : i < xs.length) : U0 σ (Aj 3 v i) [S xs[i].op, I xs[i].n, S xs[i].s] ∧ F5 σ xs[i] [S xs[i].op, I xs[i].n, S xs[i].s] := by
  obtain ⟨cs, h1, h2, rfl, h4⟩ := h.el hi; exact ⟨h1, rfl, h4⟩
theorem Sl.elK {xs : List Cat} (h : Sl 4 Qr σ v xs) {i : Nat} (hi : i < xs.length) : U0 σ (Aj 4 v i) [I xs[i].frm, I xs[i].to, I xs[i].at_, S xs[i].cls] ∧ Qr σ xs[i] [I xs[i].frm, I xs[i].to, I xs[i].at_, S xs[i].cls] := by
  obtain ⟨cs, h1, h2, rfl, h4⟩ := h.el hi; exact ⟨h1, rfl, h4⟩
theorem Sl.conv {α β : Type} {R : Q5 → α → List Value → Prop} {R' : Q5 → β → List Value → Prop} {sz : Nat} {v : Value} {xs : List α} {ys : List β} (h : Sl sz R σ v xs) (hl : ys.length = xs.length) (hc : ∀ i (hi : i < xs.length) (hj : i < ys.length) cs, R σ xs[i] cs → R' σ ys[i] cs) : Sl sz R' σ v ys := by
  obtain ⟨a, cap, rfl, h2, h3, h4, h5⟩ := h
  refine ⟨a, cap, by rw [hl], by rw [hl]; exact h2, h3, h4, fun b hb => ⟨fun hp => (h5 b hb).1 (by omega), fun i x hx => ?_⟩⟩
  obtain ⟨hi, rfl⟩ := List.getElem?_eq_some_iff.1 hx
  have hi' : i < xs.length := by omega
  obtain ⟨cs, g1, g2, g3⟩ := (h5 b hb).2 i xs[i] (List.getElem?_eq_getElem hi')
  exact ⟨cs, g1, g2, hc i hi' hi cs g3⟩
theorem Sl.elM {xs : List Hm.Met} (h : Sl 7 M9 σ v xs) {i : Nat} (hi : i < xs.length) : ∃ pv cv hv, U0 σ (Aj 7 v i) [S xs[i].name, pv, S xs[i].result, .bool xs[i].abs, I xs[i].locals, cv, hv] ∧ M9 σ xs[i] [S xs[i].name, pv, S xs[i].result, .bool xs[i].abs, I xs[i].locals, cv, hv] := by
  obtain ⟨cs, h1, h2, pv, cv, hv, rfl, h4⟩ := h.el hi; exact ⟨pv, cv, hv, h1, pv, cv, hv, rfl, h4⟩
theorem Sl.elC {xs : List Cla} (h : Sl 8 U7 σ v xs) {i : Nat} (hi : i < xs.length) : ∃ lv fv mv, U0 σ (Aj 8 v i) [S xs[i].name, S xs[i].super, lv, .bool xs[i].iface, .bool xs[i].abs, .bool xs[i].fin, fv, mv] ∧ U7 σ xs[i] [S xs[i].name, S xs[i].super, lv, .bool xs[i].iface, .bool xs[i].abs, .bool xs[i].fin, fv, mv] := by
  obtain ⟨cs, h1, h2, lv, fv, mv, rfl, h4⟩ := h.el hi; exact ⟨lv, fv, mv, h1, lv, fv, mv, rfl, h4⟩
end
theorem L9 {Tr : World → World → Prop} {A rest : (Value → World → Prop) → Prop} {V : Value} (h : A (fun v _ => V = v)) (hr : rest (fun v _ => V = v)) : Q7 Tr A rest := O4 _ (fun _ _ _ h _ => h) h hr
theorem U8 {v V : Value} (h : V = v) : dk (fun w w' => Below w.heap.size w w') (fun v _ => V = v) w v w := ⟨Below.refl _ _, h⟩
theorem V9 {v V : Value} (hb : Below w.heap.size w w') (h : V = v) : dk (fun w w' => Below w.heap.size w w') (fun v _ => V = v) w v w' := ⟨hb, h⟩
theorem W9 {c b : Bool} {V : Value} {run : World → (Value → World → Prop) → Prop} (h : c = b → run w (dk (fun w w' => Below w.heap.size w w') (fun v _ => V = v) w)) : Q0 (.bool c) b w run (dk (fun w w' => Below w.heap.size w w') (fun v _ => (if c = b then V else undef) = v) w) := by
  by_cases e : c = b
  · simp only [e, if_true]
    subst e
    have := h rfl
    cases c
    · rw [Uj]; exact this
    · rw [F2]; exact this
  · have e2 : c = !b := by cases c <;> cases b <;> simp_all
    rw [if_neg e]; subst e2
    cases b
    · rw [Bool.not_false, Kz]; exact ⟨Below.refl _ _, rfl⟩
    · rw [Bool.not_true, Zz]; exact ⟨Below.refl _ _, rfl⟩
end Go.Emb

namespace Go.Emb
open Go.RowKit Go.Hm
variable {P : Program} {w w0 w1 w' w'' : World} {K : Value → World → Prop} {σ σ0 σ1 σ' : Q5}
section
variable {α : Type} {R : Q5 → α → List Value → Prop} {B sz : Nat} {e : TypeId} {v u : Value} {xs ys : List α}
def Emp (v : Value) : Prop := ∃ a, v = .slice a 0 0
theorem Q7K {t ty : TypeId} {by_ : Nat} {z : Value} {cs : List Bool} [ts : TS P t e] [tz : TZ P e sz by_ z] [hr : Rep R] (hS : Stp w0 σ0 w σ) (ha : W5 w0.heap.size e sz R σ w v []) (hv : Emp v) (hs' : X6 w σ') (hu : Sl sz R σ' u ys) (hR : ∀ x cs, R σ' x cs → R σ x cs) (hz : (z.cells.size == sz && decide (0 < sz)) = true)
    (hb : ys.length * by_ ≤ 140737488355328) (hm : ys.length ≤ 1000000000000)
    (h : ∀ v' w', Stp w σ w' σ → W5 w0.heap.size e sz R σ w' v' ys → K v' w') : X4 P .append [t, t] ty cs [v, u] w K := by
  obtain ⟨ac, rfl⟩ := hv
  have hs := hS.sat
  obtain ⟨a, cap, news, rfl, n1, n2, n3, n4, n5⟩ := hu.cells hs'
  obtain ⟨i, hi, hsz, hby, hzero⟩ := tz.info
  simp only [Bool.and_eq_true, beq_iff_eq, decide_eq_true_eq] at hz
  obtain ⟨hz1, hz2⟩ := hz
  have hsrc : Src P i.size t (.slice a ys.length cap) ys.length news w := by
    cases a with
    | some b => exact Src.ofSlice w ts.h b ys.length cap news (by rw [hsz]; exact n2) (n3 b rfl) n4
    | none =>
      have hy : ys.length = 0 := by
        obtain ⟨a', cap', e', q1, _, q3, _⟩ := hu; injection e' with e1 e2 e3; have := n1 rfl; omega
      have hn : news = [] := List.eq_nil_of_length_eq_zero (by rw [n2, hy]; simp)
      subst hn
      rw [hy]; exact Src.ofNil w ts.h cap
  have fin : ∀ v' w', (Builtin.append_ #[t, t] ty #[.slice ac 0 0, .slice a ys.length cap]).run P w = .ok v' w' → Stp w σ w' σ → W5 w0.heap.size e sz R σ w' v' ys → X4 P .append [t, t] ty cs [.slice ac 0 0, .slice a ys.length cap] w K := by
    intro v' w' hrun hk hq
    have hrun' : (builtin .append #[t, t] ty cs.toArray #[.slice ac 0 0, .slice a ys.length cap]).run P w = .ok (.value v') w' := by
      simp [builtin, hrun]
    unfold X4
    rw [Ze]; unfold Xm
    rw [hrun']
    exact h v' w' hk hq
  by_cases hy : ys = []
  · subst hy
    have hn : news = [] := List.eq_nil_of_length_eq_zero (by simpa using n2)
    subst hn
    refine fin (.slice ac 0 0) w ?_ (Stp.refl hs) ha
    have hl := hsrc.len w
    have hcs := hsrc.cells
    simp only [List.length_nil] at hl hcs ⊢
    cases ac <;> simp [Builtin.append_, run_underlying ts.h, sizeOf, typeInfo, hi, hl, hcs, storeCells]
  · have hy' : 0 < ys.length := List.length_pos_iff.2 hy
    have holds : (Builtin.firstCells i.size 0 (.slice ac 0 0)).run P w.drew = .ok (#[] : Array Value) w.drew := by
      cases ac with
      | none => exact run_firstCells_none w.drew i.size 0 0 0
      | some a' => exact run_firstCells_some w.drew i.size 0 a' 0 0 [] (by simp) (by intro _ _ h'; simp at h')
    have hg : 0 < 0 + ys.length := by omega
    have hrun := run_append_grow_src (P := P) w t t ty e i z ts.h hi hzero ac 0 0 [] holds (.slice a ys.length cap) ys.length news hsrc hg (by omega) (growslice_fits hg (by rw [hby, Nat.zero_add]; exact hb))
    simp only [Nat.zero_add] at hrun
    have hcm := grownCap_le_maxLen w ys.length 0 e (by simp only [maxLen]; omega)
    have hge := grownCap_ge w ys.length 0 e
    refine fin _ _ hrun (Stp.of_below hs ((Below.refl _ _).drew.alloc (Nat.le_refl _) _)) ⟨news, ⟨n2, .inr ⟨w.heap.size, _, _, rfl, hS.bel.size, heap_alloc_new w.drew _, hge, hcm, ?_, ?_⟩⟩, ?_, fun i x hx => hR _ _ (n5 i x hx)⟩
    · simp only [List.nil_append]
      rw [Array.size_append, List.size_toArray, n2, size_zeroCells, hz1, ← Nat.add_mul]
      congr 1; omega
    · simp only [List.nil_append]
      rw [Array.toList_append]
      rw [List.take_append_of_le_length (by simp only [List.toList_toArray]; omega), List.take_of_length_le (by simp only [List.toList_toArray]; omega)]
    · intro k hk; cases hk; exact hs.none (Nat.le_refl _)
end
def Q6N {α : Type} (w0 : World) (σ : Q5) (e : TypeId) (sz : Nat) (R : Q5 → α → List Value → Prop) (xs : List α) (v : Value) (w' : World) : Prop := Stp w0 σ w' σ ∧ W5 w0.heap.size e sz R σ w' v xs
def Q5z {α : Type} (w0 : World) (σ : Q5) (e : TypeId) (sz : Nat) (R : Q5 → α → List Value → Prop) (v : Value) (w' : World) : Prop := Stp w0 σ w' σ ∧ W5 w0.heap.size e sz R σ w' v ([] : List α) ∧ Emp v
section
variable {α : Type} {R : Q5 → α → List Value → Prop} {sz : Nat} {e : TypeId} {v u : Value} {xs ys : List α} {A rest : (Value → World → Prop) → Prop}
theorem Q17 [Rep R] (xs : List α) (h : A (Q6N w σ e sz R xs)) (hr : rest (Q6N w σ e sz R xs)) : Q7 (fun w w' => Below w.heap.size w w') A rest :=
  O4 _ (fun _ _ _ ⟨h1, h2⟩ hb => ⟨h1.trans (Stp.of_below h1.sat hb), h2.up (Stp.of_below h1.sat hb)⟩) h hr
theorem Q7Y [Rep R] (h : A (Q5z w σ e sz R)) (hr : rest (Q5z w σ e sz R)) : Q7 (fun w w' => Below w.heap.size w w') A rest :=
  O4 _ (fun _ _ _ ⟨h1, h2, h3⟩ hb => ⟨h1.trans (Stp.of_below h1.sat hb), h2.up (Stp.of_below h1.sat hb), h3⟩) h hr
theorem Q2i (h0 : Hst w σ w1 σ) (h : Stp w1 σ w' σ) (ha : W5 w.heap.size e sz R σ w' v xs) : dk (fun w w' => Below w.heap.size w w') (Q6N w σ e sz R xs) w1 v w' := ⟨h.bel, h0.stp.trans h, ha⟩
theorem Q9h (h0 : Hst w σ w1 σ) (h : Stp w1 σ w' σ) (ha : W5 w.heap.size e sz R σ w' v ([] : List α)) (hv : Emp v) : dk (fun w w' => Below w.heap.size w w') (Q5z w σ e sz R) w1 v w' := ⟨h.bel, h0.stp.trans h, ha, hv⟩
theorem Ky {t : TypeId} {by_ : Nat} {z : Value} [ts : TS P t e] [tz : TZ P e sz by_ z] (R : Q5 → α → List Value → Prop) (hS : Stp w0 σ0 w σ) (hsz : 0 < sz)
    (h : ∀ v w', Stp w σ w' σ → W5 w0.heap.size e sz R σ w' v ([] : List α) → Emp v → K v w') : buildSlice P t 0 [] w K := by
  obtain ⟨cells, h1, h2⟩ := My (P := P) (t := t) (sz := sz) (e := e) [] (by simp) (by simp) w
  unfold buildSlice
  have h1' : (Instr.buildSlice t 0 ([] : List (Nat × Value)).toArray).run P w = _ := h1
  rw [X9 h1']
  refine h _ _ (Stp.own hS.sat _) ⟨[], ⟨by simp, .inr ⟨_, _, cells, rfl, hS.bel.size, heap_alloc_new w _, by simp, by simp [maxLen], ?_, by simp⟩⟩, ?_, by simp⟩ ⟨_, rfl⟩
  · have : cells.size = 0 := by rw [← Array.length_toList, h2]; rfl
    simp [this]
  · intro k hk; cases hk; exact hS.sat.none (Nat.le_refl _)
theorem Q51 [Rep R] {t : TypeId} {by_ : Nat} {z : Value} [ts : TS P t e] [tz : TZ P e sz by_ z] (hsz : (decide (0 < sz)) = true) (hr : rest (Q5z w σ e sz R)) :
    Q7 (fun w w' => Below w.heap.size w w') (fun φ => ∀ w1 : World, Hst w σ w1 σ → buildSlice P t 0 [] w1 (dk (fun w w' => Below w.heap.size w w') φ w1)) rest :=
  Q7Y (fun w1 hb => Ky R hb.stp (by simpa using hsz) fun v w' hk ha he => Q9h hb hk ha he) hr
end
theorem U7.parts {c : Cla} {a b lv d e f fv mv : Value} (h : U7 σ c [a, b, lv, d, e, f, fv, mv]) : Sl 1 U5 σ lv c.like ∧ Sl 3 D7 σ fv c.fields ∧ Sl 7 M9 σ mv c.methods ∧ c.name.length ≤ W3 ∧ c.super.length ≤ W3 := by
  obtain ⟨_, _, _, he, h1⟩ := h
  simp only [List.cons.injEq, and_true] at he
  obtain ⟨_, _, rfl, _, _, _, rfl, rfl⟩ := he
  exact h1
theorem M9.parts {m : Hm.Met} {a pv b d e cv hv : Value} (h : M9 σ m [a, pv, b, d, e, cv, hv]) : Sl 1 U5 σ pv m.params ∧ Sl 3 F5 σ cv m.code ∧ Sl 4 Qr σ hv m.catches ∧ m.name.length ≤ W3 ∧ m.result.length ≤ W3 ∧ Ke m.locals := by
  obtain ⟨_, _, _, he, h1⟩ := h
  simp only [List.cons.injEq, and_true] at he
  obtain ⟨_, rfl, _, _, _, rfl, rfl⟩ := he
  exact h1
end Go.Emb
