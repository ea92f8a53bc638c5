/- Parts of a proof about the given program: its functions as texts of their own, what each computes, plain laws of that. The conditions of each stand in its statement. -/
import Derived.Test.YtdnfaboigajkhaaGreatDoorB2
import Derived.Below
import Derived.Maps.AppendAt
import Derived.Test.YtdnfaboigajkhaaGreatDoorB1
import Derived.ChangeArms
import Derived.DataReads
import Derived.SizedLaws
import Derived.Shelf.Strings.Builder1
import Derived.Shelf.Strings.Builder2
import Derived.Shelf.Strings.OnBuilder
import Derived.Shelf.Strings.Trim
import Derived.Shelf.Small.Utf8
import Derived.Shelf.Small.Strs
import Derived.Shelf.Small.Wraps
import Derived.Shelf.Strings.BuilderF
import Derived.Shelf.Strings.BuilderK
import Derived.Shelf.Strings.Builder2Cap
import Derived.Shelf.Strings.Search1
import Derived.Shelf.Strings.Search2
import Derived.Shelf.Strings.Search3
import Derived.Shelf.Strings.Cut
import Derived.Shelf.LaysM
import Derived.Shelf.Strings.Shaped
import Derived.Shelf.Strings.Prefix
import Derived.Shelf.Unicode.Decode
import Derived.Shelf.Strings.Runes
import Derived.Shelf.Strings.AsciiSet
import Derived.Shelf.Unicode.DecodeSlow
import Derived.Shelf.Unicode.DecodeAny
import Derived.Shelf.Unicode.DecodeLast
import Derived.Shelf.Slices.Turned
import Derived.Ground.Names2Prog
import Derived.Shelf.Slices.Clone
import Derived.Ground.SlgnProg
import Derived.Shelf.SlicesE.Clone
import Derived.Shelf.Unicode.ValidAny
import Derived.Test.YtdnfaboigajkhaaGreatDoorProg
import Derived.Test.YtdnfaboigajkhaaGreatDoorRows
import Derived.Lib.LaidU8T
import Derived.OpenShut
import Derived.MakeChecks
import Derived.WideShapes
import Derived.Deep.AppendSrc
set_option linter.unnecessarySimpa false
set_option linter.defProp false
set_option linter.unusedSectionVars false
set_option linter.unusedVariables false
set_option linter.unusedSimpArgs false
namespace Go.Emb
open Go.RowKit
class TZ (P : Program) (t : TypeId) (sz b : outParam Nat) (z : outParam Value) : Prop where
  h : (P.info? t).map (fun i => (i.size, i.bytes, i.zero)) = some (sz, b, some z)
def Q65 : Option TypeDesc → Bool
  | some (.struct _) => true
  | some (.array _ _) => true
  | none => true
  | _ => false
class TG (P : Program) (t : TypeId) (g : outParam Bool) : Prop where
  h : (Q65 (P.underlying t), (P.underlying t).isSome) = (g, true)
class TS (P : Program) (t : TypeId) (e : outParam TypeId) : Prop where
  h : P.underlying t = some (.slice e)
class TA (P : Program) (t : TypeId) (n : outParam Nat) (e : outParam TypeId) : Prop where
  h : P.underlying t = some (.array n e)
class TM (P : Program) (t : TypeId) (k e : outParam TypeId) : Prop where
  h : P.underlying t = some (.map k e)
def Q16 (d : Option TypeDesc) (k : Nat) : Option (Nat × TypeId) := match d with
  | some (.struct fs) => (fs[k]?).map fun f => (f.offset, f.type)
  | _ => none
class TF (P : Program) (t : TypeId) (k : Nat) (off : outParam Nat) (ft : outParam TypeId) : Prop where
  h : Q16 (P.underlying t) k = some (off, ft)
variable {P : Program} {w w0 w1 w' w'' : World} {K : Value → World → Prop}
theorem TZ.info {t : TypeId} {sz b : Nat} {z : Value} (h : TZ P t sz b z) : ∃ i, P.info? t = some i ∧ i.size = sz ∧ i.bytes = b ∧ i.zero = some z := by
  obtain ⟨i, hi, e⟩ := Option.map_eq_some_iff.1 h.h
  simp only [Prod.mk.injEq] at e
  exact ⟨i, hi, e.1, e.2.1, e.2.2⟩
theorem M1 {t : TypeId} {sz b : Nat} {z : Value} (h : TZ P t sz b z) (w : World) : (sizeOf t).run P w = .ok sz w := by
  obtain ⟨i, hi, rfl, _⟩ := h.info
  simp [sizeOf, typeInfo, hi]
theorem Qz {t : TypeId} {sz b : Nat} {z : Value} (h : TZ P t sz b z) (w : World) : (zeroValue t).run P w = .ok z w := by
  obtain ⟨i, hi, _, _, hz⟩ := h.info
  simp [zeroValue, typeInfo, hi, hz]
theorem T8 {t : TypeId} {g : Bool} (h : TG P t g) (w : World) : (isAgg t).run P w = .ok g w := by
  have hh := h.h
  simp only [Prod.mk.injEq] at hh
  obtain ⟨h1, h2⟩ := hh
  cases hu : P.underlying t with
  | none => rw [hu] at h2; cases h2
  | some d =>
    rw [hu] at h1
    have := run_underlying (P := P) (w := w) hu
    simp only [isAgg, Sem.run_bind, this, Result.andThen_ok]
    cases d <;> simp_all [Q65]
theorem Q4D (a : Addr) (i j : Nat) : (a.add i).add j = a.add (i + j) := by
  unfold Addr.add
  by_cases hi : i = 0
  · simp [hi]
  · by_cases hj : j = 0
    · simp [hj]
    · simp [hi, hj, Nat.add_assoc]
theorem add_zero (a : Addr) : a.add 0 = a := by simp [Addr.add]
theorem R6 (a : Addr) (i : Nat) : (a.add i).block = a.block := by unfold Addr.add; split <;> rfl
theorem Qx (a : Addr) (i : Nat) : (a.add i).off = a.off + i := by unfold Addr.add; split <;> simp_all
theorem F2 {a : Addr} (h : a.spot = none) (i : Nat) : (a.add i).spot = none := by unfold Addr.add; split <;> simp_all
abbrev Q5 := Nat → Option Obj
def X6 (w : World) (σ : Q5) : Prop := ∀ b o, σ b = some o → w.heap[b]? = some o
structure Stp (w : World) (σ : Q5) (w' : World) (σ' : Q5) : Prop where
  bel : Below w.heap.size w w'
  sat : X6 w' σ'
  le : ∀ b o, σ b = some o → σ' b = some o
  old : ∀ b, b < w.heap.size → σ' b = σ b
theorem X6.lt {σ : Q5} (h : X6 w σ) {b : Nat} {o : Obj} (hb : σ b = some o) : b < w.heap.size := (Array.getElem?_eq_some_iff.1 (h b o hb)).1
theorem X6.below {σ : Q5} (h : X6 w σ) (hb : Below w.heap.size w w') : X6 w' σ := fun b o e => (hb.block b (h.lt e)).trans (h b o e)
theorem Stp.refl {σ : Q5} (h : X6 w σ) : Stp w σ w σ := ⟨Below.refl _ _, h, fun _ _ e => e, fun _ _ => rfl⟩
theorem Stp.trans {σ0 σ1 σ2 : Q5} (h : Stp w σ0 w' σ1) (k : Stp w' σ1 w'' σ2) : Stp w σ0 w'' σ2 :=
  ⟨h.bel.trans (k.bel.mono h.bel.size), k.sat, fun b o e => k.le b o (h.le b o e), fun b hb => (k.old b (Nat.lt_of_lt_of_le hb h.bel.size)).trans (h.old b hb)⟩
theorem Stp.of_below {σ : Q5} (h : X6 w σ) (hb : Below w.heap.size w w') : Stp w σ w' σ := ⟨hb, h.below hb, fun _ _ e => e, fun _ _ => rfl⟩
def Q5.put (σ : Q5) (b : Nat) (o : Obj) : Q5 := fun k => if k = b then some o else σ k
theorem X6.none {σ : Q5} (h : X6 w σ) {b : Nat} (hb : w.heap.size ≤ b) : σ b = none := by
  cases e : σ b with
  | none => rfl
  | some o => have := h.lt e; omega
theorem Stp.alloc {σ : Q5} (h : X6 w σ) (o : Obj) : Stp w σ (w.alloc o) (σ.put w.heap.size o) := by
  refine ⟨(Below.refl _ _).alloc (Nat.le_refl _) o, ?_, ?_, ?_⟩
  · intro b p e
    by_cases hb : b = w.heap.size
    · subst hb
      simp only [Q5.put, if_true] at e
      cases e
      exact heap_alloc_new w o
    · simp only [Q5.put, if_neg hb] at e
      rw [Below.heap_alloc w o b (h.lt e)]; exact h b p e
  · intro b p e
    have := h.lt e
    simp only [Q5.put]; rw [if_neg (by omega)]; exact e
  · intro b hb
    simp only [Q5.put]; rw [if_neg (by omega)]
theorem Stp.own {σ : Q5} (h : X6 w σ) (o : Obj) : Stp w σ (w.alloc o) σ := Stp.of_below h ((Below.refl _ _).alloc (Nat.le_refl _) o)
def U0 (σ : Q5) (a : Addr) (cs : List Value) : Prop := a.spot = none ∧ ∃ D6 e fr, σ a.block = some (.cells D6 e fr) ∧ ∀ i v, cs[i]? = some v → D6[a.off + i]? = some v
theorem U0.up {σ σ' : Q5} {a : Addr} {cs : List Value} (h : U0 σ a cs) (hk : Stp w σ w' σ') : U0 σ' a cs := by
  obtain ⟨h1, D6, e, fr, h2, h3⟩ := h
  exact ⟨h1, D6, e, fr, hk.le _ _ h2, h3⟩
theorem U0.cell {σ : Q5} {a : Addr} {cs : List Value} (h : U0 σ a cs) (hs : X6 w σ) {i : Nat} {v : Value} (hv : cs[i]? = some v) : w.cell? (a.add i) = some v := by
  obtain ⟨h1, D6, e, fr, h2, h3⟩ := h
  have := hs _ _ h2
  unfold World.cell?
  rw [R6, this, Qx, F2 h1]
  exact h3 i v hv
def V4 (σ : Q5) (w : World) (b : Nat) (cs : List Value) : Prop := σ b = none ∧ ∃ e, w.heap[b]? = some (.cells cs.toArray e (0, 0))
theorem V4.lt {σ : Q5} {b : Nat} {cs : List Value} (h : V4 σ w b cs) : b < w.heap.size := by
  obtain ⟨_, e, h⟩ := h
  exact (Array.getElem?_eq_some_iff.1 h).1
theorem V4.up {σ σ' : Q5} {b : Nat} {cs : List Value} (h : V4 σ w b cs) (hk : Stp w σ w' σ') : V4 σ' w' b cs := by
  have hl := h.lt
  obtain ⟨h1, e, h2⟩ := h
  exact ⟨(hk.old b hl).trans h1, e, (hk.bel.block b hl).trans h2⟩
theorem V4.cell {σ : Q5} {b : Nat} {cs : List Value} (h : V4 σ w b cs) {i : Nat} {v : Value} (hv : cs[i]? = some v) : w.cell? ((⟨b, 0, none⟩ : Addr).add i) = some v := by
  obtain ⟨_, e, h2⟩ := h
  unfold World.cell?
  rw [R6, Qx, F2 rfl]
  simp only [h2]
  simpa using hv
theorem V4.keep {σ σ0 : Q5} {b : Nat} {cs : List Value} (h : V4 σ w b cs) (hk : Stp w0 σ0 w σ) (hb : w0.heap.size ≤ b) : ∃ σ', Stp w0 σ0 w σ' ∧ U0 σ' ⟨b, 0, none⟩ cs ∧ (∀ k o, σ k = some o → σ' k = some o) ∧ (∀ k, k ≠ b → σ' k = σ k) := by
  obtain ⟨h1, e, h2⟩ := h
  refine ⟨σ.put b (.cells cs.toArray e (0, 0)), ⟨hk.bel, ?_, ?_, ?_⟩, ⟨rfl, cs.toArray, e, (0, 0), by simp [Q5.put], ?_⟩, ?_, ?_⟩
  · intro k o ho
    by_cases hkb : k = b
    · subst hkb; simp only [Q5.put, if_true] at ho; cases ho; exact h2
    · simp only [Q5.put, if_neg hkb] at ho; exact hk.sat k o ho
  · intro k o ho
    by_cases hkb : k = b
    · subst hkb; have := hk.le _ _ ho; rw [h1] at this; cases this
    · simp only [Q5.put, if_neg hkb]; exact hk.le _ _ ho
  · intro k hlt
    simp only [Q5.put]; rw [if_neg (by omega)]; exact hk.old k hlt
  · intro i v hv; simpa using hv
  · intro k o ho
    by_cases hkb : k = b
    · subst hkb; rw [h1] at ho; cases ho
    · simp only [Q5.put, if_neg hkb]; exact ho
  · intro k hkb; simp only [Q5.put, if_neg hkb]
theorem Q4o (t : TypeId) (v : Value) (w : World) : (Instr.box t v).run P w = .ok (.pointer (some ⟨w.heap.size, 0, none⟩)) (w.alloc (.cells v.cells t)) := by
  simp [Instr.box, newVar, newRow]
theorem Q0H {σ : Q5} (hs : X6 w σ) (cs : Array Value) (t : TypeId) : V4 σ (w.alloc (.cells cs t)) w.heap.size cs.toList :=
  ⟨hs.none (Nat.le_refl _), t, by simpa using heap_alloc_new w (.cells cs t)⟩
theorem Q59 {σ : Q5} (cs : Array Value) (t : TypeId) : U0 (σ.put w.heap.size (.cells cs t)) ⟨w.heap.size, 0, none⟩ cs.toList :=
  ⟨rfl, cs, t, (0, 0), by simp [Q5.put], fun i v h => by simpa using h⟩
theorem N3 {σ : Q5} {t : TypeId} {v : Value} (hs : X6 w σ) (h : ∀ a w' σ', Stp w σ w' σ' → U0 σ' a v.cells.toList → K (.pointer (some a)) w') : box P t v w K := by
  unfold box; rw [X9 (Q4o t v w)]
  exact h _ _ _ (Stp.alloc hs _) (Q59 _ t)
theorem Q77 {σ : Q5} {t : TypeId} {v : Value} (hs : X6 w σ) (h : ∀ b w', w.heap.size ≤ b → Stp w σ w' σ → V4 σ w' b v.cells.toList → K (.pointer (some ⟨b, 0, none⟩)) w') : box P t v w K := by
  unfold box; rw [X9 (Q4o t v w)]
  exact h _ _ (Nat.le_refl _) (Stp.own hs _) (Q0H hs _ t)
theorem Sv {σ : Q5} {t : TypeId} {sz by_ : Nat} {z : Value} [tz : TZ P t sz by_ z] (hs : X6 w σ) (h : ∀ b w', w.heap.size ≤ b → Stp w σ w' σ → V4 σ w' b z.cells.toList → K (.pointer (some ⟨b, 0, none⟩)) w') : M0 P t w K := by
  unfold M0
  have : (Instr.alloc t true (.tuple #[])).run P w = .ok (.pointer (some ⟨w.heap.size, 0, none⟩)) (w.alloc (.cells z.cells t)) := by
    simp [Instr.alloc, Qz tz, newVar, newRow]
  rw [X9 this]
  exact h _ _ (Nat.le_refl _) (Stp.own hs _) (Q0H hs _ t)
theorem T4 {t : TypeId} [tg : TG P t false] {a : Addr} {v : Value} (hc : w.cell? a = some v) (h : K v w) : Q2 P t (.pointer (some a)) w K := by
  unfold Q2
  rw [X9 (v := v) (w' := w) (by simp [Instr.loadAt, Instr.sureAddr, loadVar, T8 tg, hc])]
  exact h
theorem Cn {t : TypeId} {sz by_ : Nat} {z : Value} [tg : TG P t true] [tz : TZ P t sz by_ z] {a : Addr} {cs : List Value} (hl : cs.length = sz) (hc : ∀ j v, cs[j]? = some v → w.cell? (a.add j) = some v) (h : K (.agg cs.toArray) w) : Q2 P t (.pointer (some a)) w K := by
  unfold Q2
  have := run_loadCells_list (P := P) w a cs hc
  rw [hl] at this
  rw [X9 (v := .agg cs.toArray) (w' := w) (by simp [Instr.loadAt, Instr.sureAddr, loadVar, T8 tg, M1 tz, this])]
  exact h
theorem ld {σ : Q5} {t : TypeId} [TG P t false] {a : Addr} {cs : List Value} {i : Nat} {v : Value} (hs : X6 w σ) (ha : U0 σ a cs) (hv : cs[i]? = some v) (h : K v w) : Q2 P t (.pointer (some (a.add i))) w K :=
  T4 (ha.cell hs hv) h
theorem X8 {σ : Q5} {t : TypeId} [TG P t false] {a : Addr} {cs : List Value} {v : Value} (hs : X6 w σ) (ha : U0 σ a cs) (hv : cs[0]? = some v) (h : K v w) : Q2 P t (.pointer (some a)) w K := by
  have := ld (P := P) (t := t) hs ha hv h
  rwa [add_zero] at this
theorem Y3 {σ : Q5} {t : TypeId} {sz by_ : Nat} {z : Value} [TG P t true] [TZ P t sz by_ z] {a : Addr} {cs : List Value} (hs : X6 w σ) (ha : U0 σ a cs) (hl : cs.length = sz) (h : K (.agg cs.toArray) w) : Q2 P t (.pointer (some a)) w K :=
  Cn hl (fun _ _ hv => ha.cell hs hv) h
theorem ldm {σ : Q5} {t : TypeId} [TG P t false] {b : Nat} {cs : List Value} {i : Nat} {v : Value} (hm : V4 σ w b cs) (hv : cs[i]? = some v) (h : K v w) : Q2 P t (.pointer (some ((⟨b, 0, none⟩ : Addr).add i))) w K :=
  T4 (hm.cell hv) h
theorem Q72 {σ : Q5} {t : TypeId} [TG P t false] {b : Nat} {cs : List Value} {v : Value} (hm : V4 σ w b cs) (hv : cs[0]? = some v) (h : K v w) : Q2 P t (.pointer (some ⟨b, 0, none⟩)) w K := by
  have := ldm (P := P) (t := t) hm hv h
  rwa [add_zero] at this
theorem Q8G {σ : Q5} {t : TypeId} {sz by_ : Nat} {z : Value} [TG P t true] [TZ P t sz by_ z] {b : Nat} {cs : List Value} (hm : V4 σ w b cs) (hl : cs.length = sz) (h : K (.agg cs.toArray) w) : Q2 P t (.pointer (some ⟨b, 0, none⟩)) w K :=
  Cn hl (fun _ _ hv => hm.cell hv) h
theorem M5 {t : TypeId} {sz by_ : Nat} {z : Value} [tg : TG P t true] [tz : TZ P t sz by_ z] {σ : Q5} {b : Nat} {cs : List Value} {K : Value → Prop} (hm : V4 σ w b cs) (hl : cs.length = sz) (h : K (.agg cs.toArray)) : N2 P t (.pointer (some ⟨b, 0, none⟩)) w K := by
  rw [Q0F]
  refine ⟨_, ?_, h⟩
  have := run_loadCells_list (P := P) w ⟨b, 0, none⟩ cs (fun _ _ hv => hm.cell hv)
  rw [hl] at this
  simp [asAddr, loadVar, T8 tg, M1 tz, this]
structure Upd (w : World) (b : Nat) (w' : World) : Prop where
  os : w'.os = w.os
  tape : w'.tape = w.tape
  output : w'.output = w.output
  size : w'.heap.size = w.heap.size
  block : ∀ k, k ≠ b → w'.heap[k]? = w.heap[k]?
theorem Upd.stp {σ0 σ : Q5} {b : Nat} (hu : Upd w b w') (hS : Stp w0 σ0 w σ) (hb : w0.heap.size ≤ b) (hσ : σ b = none) : Stp w0 σ0 w' σ := by
  refine ⟨⟨hu.os.trans hS.bel.os, hu.tape.trans hS.bel.tape, hu.output.trans hS.bel.output, by rw [hu.size]; exact hS.bel.size, fun k hk => (hu.block k (by omega)).trans (hS.bel.block k hk)⟩, ?_, hS.le, hS.old⟩
  intro k o ho
  rw [hu.block k (by intro e; subst e; rw [hσ] at ho; cases ho)]
  exact hS.sat k o ho
theorem V4.upd {σ : Q5} {b k : Nat} {cs : List Value} (h : V4 σ w k cs) (hu : Upd w b w') (hne : k ≠ b) : V4 σ w' k cs := by
  obtain ⟨h1, e, h2⟩ := h
  exact ⟨h1, e, (hu.block k hne).trans h2⟩
theorem Na {b : Nat} {cs : Array Value} {old : Array Value} {e : TypeId} (h : w.heap[b]? = some (.cells old e (0, 0))) : Upd w b (w.setRow b cs) ∧ (w.setRow b cs).heap[b]? = some (.cells cs e (0, 0)) := by
  have hl := (Array.getElem?_eq_some_iff.1 h).1
  refine ⟨⟨rfl, rfl, rfl, by simp [World.setRow], fun k hk => ?_⟩, ?_⟩
  · simp only [World.setRow, Array.getElem?_modify]
    rw [if_neg (by omega)]
  · simp only [World.setRow, Array.getElem?_modify, if_true, h]
    rfl
theorem sta {t : TypeId} {sz by_ : Nat} {z : Value} [tz : TZ P t sz by_ z] {σ : Q5} {b : Nat} {cs ds : List Value} (hm : V4 σ w b cs) (hl : cs.length = sz) (hd : ds.length = sz) (h1 : ds.toArray.all (·.oneCell') = true)
    (h : ∀ w', Upd w b w' → V4 σ w' b ds → K undef w') : V5 P t (.pointer (some ⟨b, 0, none⟩)) (.agg ds.toArray) w K := by
  obtain ⟨hσ, e, hb⟩ := hm
  unfold V5
  obtain ⟨i, hi, hsz, _⟩ := tz.info
  have := run_storeVar_row (P := P) w b e t cs.toArray ds.toArray hb (by simp [hi, hsz, hd]) (by simp [hl, hd]) h1
  rw [Lq (w' := w.setRow b ds.toArray) (by simpa [Instr.storeAt, Instr.sureAddr] using this)]
  obtain ⟨hu, hh⟩ := Na (cs := ds.toArray) hb
  exact h _ hu ⟨hσ, e, hh⟩
theorem Q8s {cs : List Value} {i : Nat} {v : Value} (hi : i < cs.length) : (cs.take i ++ [v] ++ cs.drop (i + 1)) = cs.set i v := by
  rw [List.set_eq_take_append_cons_drop, if_pos hi]; simp
theorem Iz {t : TypeId} {by_ : Nat} {z : Value} [tz : TZ P t 1 by_ z] {σ : Q5} {b i : Nat} {cs : List Value} {v : Value} (hm : V4 σ w b cs) (hi : i < cs.length) (hc : v.cells = #[v]) (h1 : v.oneCell' = true)
    (h : ∀ w', Upd w b w' → V4 σ w' b (cs.set i v) → K undef w') : V5 P t (.pointer (some ((⟨b, 0, none⟩ : Addr).add i))) v w K := by
  obtain ⟨hσ, e, hb⟩ := hm
  unfold V5
  have hadd : (⟨b, 0, none⟩ : Addr).add i = ⟨b, i, none⟩ := by unfold Addr.add; split <;> simp_all
  have := run_storeCells_at P b i e [v] 0 cs.toArray w hb (by simp; omega) (by simpa using h1)
  simp only [Nat.add_zero] at this
  obtain ⟨hu, hh⟩ := Na (cs := (cs.set i v).toArray) hb
  have e2 : (List.take i cs.toArray.toList ++ [v] ++ List.drop (i + [v].length) cs.toArray.toList).toArray = (cs.set i v).toArray := by
    rw [← Q8s hi]; simp
  rw [e2] at this
  rw [Lq (w' := w.setRow b (cs.set i v).toArray) (by simp [Instr.storeAt, Instr.sureAddr, hadd, storeVar, M1 tz, hc, this])]
  exact h _ hu ⟨hσ, e, hh⟩
theorem st0 {t : TypeId} {by_ : Nat} {z : Value} [tz : TZ P t 1 by_ z] {σ : Q5} {b : Nat} {cs : List Value} {v : Value} (hm : V4 σ w b cs) (hi : 0 < cs.length) (hc : v.cells = #[v]) (h1 : v.oneCell' = true)
    (h : ∀ w', Upd w b w' → V4 σ w' b (cs.set 0 v) → K undef w') : V5 P t (.pointer (some ⟨b, 0, none⟩)) v w K := by
  have := Iz (P := P) (t := t) hm hi hc h1 h
  rwa [add_zero] at this
class NZ (n : Nat) : Prop where
  h : (n == 0) = false
instance (n : Nat) : NZ (n + 1) := ⟨rfl⟩
theorem fa {t : TypeId} {k off : Nat} {ft : TypeId} {sz by_ : Nat} {z : Value} [tf : TF P t k off ft] [tz : TZ P ft sz by_ z] [nz : NZ sz] {a : Addr} : fieldAddr P t (.pointer (some a)) k w K = K (.pointer (some (a.add off))) w := by
  unfold fieldAddr
  have hh := tf.h
  unfold Q16 at hh
  split at hh
  · rename_i fs hu
    obtain ⟨f, hf, he⟩ := Option.map_eq_some_iff.1 hh
    simp only [Prod.mk.injEq] at he
    obtain ⟨h1, h2⟩ := he
    subst h2 h1
    have h0 : ¬ sz = 0 := by simpa using nz.h
    exact X9 (by simp [Instr.fieldAt, run_underlying hu, hf, Instr.sureAddr, fieldPlace, M1 tz, h0])
  · cases hh
theorem Rg {t e : TypeId} {sz by_ : Nat} {z : Value} [ts : TS P t e] [tz : TZ P e sz by_ z] {a : Addr} {n cap : Nat} {k : IntKind} {i : Int} (h0 : 0 ≤ i) (h1 : i < n) : indexAddr P t (.slice (some a) n cap) (.int k i) w K = K (.pointer (some (a.add (i.toNat * sz)))) w := by
  unfold indexAddr
  exact X9 (by simp [Instr.indexAt, run_underlying ts.h, asIntOf, M1 tz, h0, h1])
theorem Q5O {t e : TypeId} {n sz by_ : Nat} {z : Value} [ta : TA P t n e] [tz : TZ P e sz by_ z] {a : Addr} {k : IntKind} {i : Int} (h0 : 0 ≤ i) (h1 : i < n) : indexAddr P t (.pointer (some a)) (.int k i) w K = K (.pointer (some (a.add (i.toNat * sz)))) w := by
  unfold indexAddr
  exact X9 (by simp [Instr.indexAt, run_underlying ta.h, asIntOf, Instr.sureAddr, M1 tz, h0, h1])
theorem H3 {a : Addr} : nilCheck P (.pointer (some a)) w K = K (.pointer (some a)) w := by
  unfold nilCheck
  rw [Zf]; unfold Xj
  simp [execOp]
class Rep {α : Type} (R : Q5 → α → List Value → Prop) : Prop where
  up : ∀ {σ σ' : Q5} {x : α} {cs : List Value}, (∀ b o, σ b = some o → σ' b = some o) → R σ x cs → R σ' x cs
  one : ∀ {σ : Q5} {x : α} {cs : List Value}, R σ x cs → ∀ u ∈ cs, u.oneCell' = true
def Sl {α : Type} (sz : Nat) (R : Q5 → α → List Value → Prop) (σ : Q5) (v : Value) (xs : List α) : Prop :=
  ∃ a cap, v = .slice a xs.length cap ∧ xs.length ≤ cap ∧ cap ≤ maxLen ∧ (a = none → cap = 0) ∧
    ∀ b, a = some b → (0 < xs.length → b.spot = none) ∧ ∀ i x, xs[i]? = some x → ∃ cs, U0 σ (b.add (i * sz)) cs ∧ cs.length = sz ∧ R σ x cs
theorem U0.le {σ σ' : Q5} {a : Addr} {cs : List Value} (h : U0 σ a cs) (hk : ∀ b o, σ b = some o → σ' b = some o) : U0 σ' a cs := by
  obtain ⟨h1, D6, e, fr, h2, h3⟩ := h
  exact ⟨h1, D6, e, fr, hk _ _ h2, h3⟩
section
variable {α : Type} {R : Q5 → α → List Value → Prop} {sz : Nat} {σ σ' : Q5} {v : Value} {xs : List α}
theorem Sl.le [hr : Rep R] (h : Sl sz R σ v xs) (hk : ∀ b o, σ b = some o → σ' b = some o) : Sl sz R σ' v xs := by
  obtain ⟨a, cap, h1, h2, h3, h4, h5⟩ := h
  refine ⟨a, cap, h1, h2, h3, h4, fun b hb => ⟨(h5 b hb).1, fun i x hx => ?_⟩⟩
  obtain ⟨cs, g1, g2, g3⟩ := (h5 b hb).2 i x hx
  exact ⟨cs, g1.le hk, g2, hr.up hk g3⟩
theorem Sl.up [Rep R] (h : Sl sz R σ v xs) (hk : Stp w σ w' σ') : Sl sz R σ' v xs := h.le hk.le
theorem Sl.max (h : Sl sz R σ v xs) : xs.length ≤ 9223372036854775807 := by
  obtain ⟨a, cap, h1, h2, h3, h4⟩ := h
  simp only [maxLen] at h3; omega
theorem Sl.nil : Sl sz R σ (.slice none 0 0) ([] : List α) := ⟨none, 0, rfl, by simp, by simp, fun _ => rfl, fun b hb => by cases hb⟩
theorem Q4C {t0 e t : TypeId} {cs : List Bool} [ts : TS P t0 e] {a : Option Addr} {n cap : Nat} : X4 P .len [t0] t cs [.slice a n cap] w K = K (I n) w := by
  have h : (Builtin.len_ #[t0] t #[.slice a n cap]).run P w = .ok (I n) w := by
    simp [Builtin.len_, run_underlying ts.h, goInt]
  exact X9 h
theorem Q8T {t0 e t : TypeId} {cs : List Bool} [ts : TS P t0 e] (h : Sl sz R σ v xs) : X4 P .len [t0] t cs [v] w K = K (I xs.length) w := by
  obtain ⟨a, cap, rfl, _⟩ := h
  exact Q4C
theorem Q9p {t e : TypeId} {by_ : Nat} {z : Value} [TS P t e] [TZ P e sz by_ z] (h : Sl sz R σ v xs) {k : IntKind} {i : Int} (h0 : 0 ≤ i) (h1 : i.toNat < xs.length)
    (hk : ∀ a cs, U0 σ a cs → cs.length = sz → R σ xs[i.toNat] cs → K (.pointer (some a)) w) : indexAddr P t v (.int k i) w K := by
  obtain ⟨a, cap, rfl, h2, h3, h4, h5⟩ := h
  cases a with
  | none => have := h4 rfl; omega
  | some b =>
    rw [Rg h0 (by omega)]
    obtain ⟨cs, g1, g2, g3⟩ := (h5 b rfl).2 i.toNat xs[i.toNat] (by simp [h1])
    exact hk _ cs g1 g2 g3
end
theorem Stp.turn {σ0 σ : Q5} {row : Option Nat} (hg : w.grownBy w' row) (hS : Stp w0 σ0 w σ) (hr : ∀ k, row = some k → w0.heap.size ≤ k ∧ σ k = none) : Stp w0 σ0 w' σ := by
  refine ⟨⟨hg.os.trans hS.bel.os, hg.tape.trans hS.bel.tape, hg.output.trans hS.bel.output, Nat.le_trans hS.bel.size hg.size, fun k hk => ?_⟩, ?_, hS.le, hS.old⟩
  · refine (hg.block k (Nat.lt_of_lt_of_le hk hS.bel.size) ?_).trans (hS.bel.block k hk)
    intro e; have := (hr k e.symm).1; omega
  · intro k o ho
    refine (hg.block k (hS.sat.lt ho) ?_).trans (hS.sat k o ho)
    intro e; rw [(hr k e.symm).2] at ho; cases ho
theorem V4.turn {σ : Q5} {row : Option Nat} {k : Nat} {cs : List Value} (h : V4 σ w k cs) (hg : w.grownBy w' row) (hne : some k ≠ row) : V4 σ w' k cs := by
  have hl := h.lt
  obtain ⟨h1, e, h2⟩ := h
  exact ⟨h1, e, (hg.block k hl hne).trans h2⟩
def W6 {α : Type} (B : Nat) (e : TypeId) (sz : Nat) (R : Q5 → α → List Value → Prop) (σ : Q5) (w : World) (v : Value) (xs : List α) : Prop :=
  ∃ cells, w.ownsRow B e sz v xs.length cells ∧ (∀ k, v.ownBlock = some k → σ k = none) ∧ ∀ i x, xs[i]? = some x → R σ x ((cells.drop (i * sz)).take sz)
section
variable {α : Type} {R : Q5 → α → List Value → Prop} {B sz : Nat} {e : TypeId} {σ σ' : Q5} {v u : Value} {xs ys : List α}
theorem W6.nil : W6 B e sz R σ w (.slice none 0 0) ([] : List α) := ⟨[], World.ownsRow_nil w B e sz, by intro k hk; simp [Value.ownBlock] at hk, by intro i x h; simp at h⟩
theorem W6.mem (h : W6 B e sz R σ w v xs) : ∀ k, v.ownBlock = some k → B ≤ k ∧ k < w.heap.size ∧ σ k = none := by
  obtain ⟨cells, h1, h2, _⟩ := h
  intro k hk
  obtain ⟨a, b⟩ := h1.lt k hk
  exact ⟨a, b, h2 k hk⟩
theorem W6.up [hr : Rep R] (h : W6 B e sz R σ w v xs) (hk : Stp w σ w' σ') : W6 B e sz R σ' w' v xs := by
  obtain ⟨cells, h1, h2, h3⟩ := h
  refine ⟨cells, h1.kept ⟨hk.bel.os, hk.bel.tape, hk.bel.output, hk.bel.size, fun k hl _ => hk.bel.block k hl⟩ (by cases hv : v.ownBlock <;> simp) (row := none), ?_, fun i x hx => hr.up hk.le (h3 i x hx)⟩
  intro k hv
  rw [hk.old k (h1.lt k hv).2]; exact h2 k hv
theorem W6.turn {row : Option Nat} (h : W6 B e sz R σ w v xs) (hg : w.grownBy w' row) (hne : v.ownBlock = none ∨ v.ownBlock ≠ row) : W6 B e sz R σ w' v xs := by
  obtain ⟨cells, h1, h2, h3⟩ := h
  exact ⟨cells, h1.kept hg hne, h2, h3⟩
theorem Sl.cells (h : Sl sz R σ v xs) (hs : X6 w σ) [hr : Rep R] : ∃ (a : Option Addr) (cap : Nat) (news : List Value), v = .slice a xs.length cap ∧ (a = none → cap = 0) ∧ news.length = xs.length * sz ∧ (∀ b, a = some b → ∀ j u, news[j]? = some u → w.cell? (b.add j) = some u) ∧ (∀ u ∈ news, u.oneCell' = true) ∧
    ∀ i x, xs[i]? = some x → R σ x ((news.drop (i * sz)).take sz) := by
  obtain ⟨a, cap, rfl, h2, h3, h4, h5⟩ := h
  cases a with
  | none =>
    have h0 := h4 rfl
    have hx : xs = [] := List.eq_nil_of_length_eq_zero (by omega)
    subst hx
    exact ⟨none, cap, [], rfl, h4, by simp, fun b hb => (by cases hb), by simp, by simp⟩
  | some b =>
    obtain ⟨hsp, hel⟩ := h5 b rfl
    clear h5
    have key : ∀ (ys : List α) (k : Nat), (∀ i x, ys[i]? = some x → ∃ cs, U0 σ (b.add ((k + i) * sz)) cs ∧ cs.length = sz ∧ R σ x cs) →
        ∃ news : List Value, news.length = ys.length * sz ∧ (∀ j u, news[j]? = some u → w.cell? (b.add (k * sz + j)) = some u) ∧ (∀ u ∈ news, u.oneCell' = true) ∧ ∀ i x, ys[i]? = some x → R σ x ((news.drop (i * sz)).take sz) := by
      intro ys
      induction ys with
      | nil => intro k _; exact ⟨[], by simp, by simp, by simp, by simp⟩
      | cons y r ih =>
        intro k hy
        obtain ⟨cs, g1, g2, g3⟩ := hy 0 y rfl
        obtain ⟨news, n1, n2, n3, n4⟩ := ih (k + 1) (fun i x hx => by
          have := hy (i + 1) x (by simpa using hx)
          rwa [show k + 1 + i = k + (i + 1) by omega])
        refine ⟨cs ++ news, by simp [n1, g2, Nat.add_mul, Nat.add_comm], ?_, ?_, ?_⟩
        · intro j u hu
          by_cases hj : j < sz
          · rw [List.getElem?_append_left (by omega)] at hu
            have := g1.cell hs hu
            rwa [Q4D, Nat.add_zero] at this
          · rw [List.getElem?_append_right (by omega)] at hu
            have := n2 _ _ hu
            rwa [g2, show (k + 1) * sz + (j - sz) = k * sz + j by rw [Nat.add_mul]; omega] at this
        · intro u hu
          rcases List.mem_append.1 hu with hu | hu
          · exact hr.one g3 u hu
          · exact n3 u hu
        · intro i x hx
          cases i with
          | zero =>
            simp at hx; subst hx
            simp only [Nat.zero_mul, List.drop_zero]
            rw [List.take_append_of_le_length (by omega), List.take_of_length_le (by omega)]; exact g3
          | succ i =>
            have := n4 i x (by simpa using hx)
            rw [show (i + 1) * sz = cs.length + i * sz by rw [Nat.add_mul]; omega, List.drop_append]
            simpa [List.drop_eq_nil_of_le] using this
    obtain ⟨news, n1, n2, n3, n4⟩ := key xs 0 (fun i x hx => by rw [Nat.zero_add]; exact hel i x hx)
    refine ⟨some b, cap, news, rfl, h4, n1, ?_, n3, n4⟩
    intro b' hb' j u hu
    cases hb'
    have := n2 j u hu
    rwa [Nat.zero_mul, Nat.zero_add] at this
end
section
variable {α : Type} {R : Q5 → α → List Value → Prop} {sz : Nat} {e : TypeId} {σ σ0 : Q5} {v u : Value} {xs ys : List α}
theorem Ob (cells news : List Value) (n i : Nat) (hl : cells.length = n * sz) (hi : i < n) : ((cells ++ news).drop (i * sz)).take sz = (cells.drop (i * sz)).take sz := by
  have h : i * sz + sz ≤ n * sz := by rw [← Nat.succ_mul]; exact Nat.mul_le_mul_right _ hi
  rw [List.drop_append_of_le_length (by omega), List.take_append_of_le_length (by simp only [List.length_drop]; omega)]
theorem app {t ty : TypeId} {by_ : Nat} {z : Value} {cs : List Bool} [ts : TS P t e] [tz : TZ P e sz by_ z] [hr : Rep R] (hS : Stp w0 σ0 w σ) (ha : W6 w0.heap.size e sz R σ w v xs) (hu : Sl sz R σ u ys) (hz : (z.cells.size == sz && decide (0 < sz)) = true)
    (hb : (xs.length + ys.length) * by_ ≤ 140737488355328) (hm : xs.length + ys.length ≤ 9223372036854775807)
    (h : ∀ v' w', w.grownBy w' v.ownBlock → Stp w0 σ0 w' σ → W6 w0.heap.size e sz R σ w' v' (xs ++ ys) → (v'.ownBlock = v.ownBlock ∨ ∀ k, v'.ownBlock = some k → w.heap.size ≤ k) → K v' w') : X4 P .append [t, t] ty cs [v, u] w K := by
  obtain ⟨cells, h1, h2, h3⟩ := ha
  obtain ⟨a, cap, news, rfl, n1, n2, n3, n4, n5⟩ := hu.cells hS.sat
  obtain ⟨i, hi, hsz, hby, hzero⟩ := tz.info
  have fin : ∀ v' w', (Builtin.append_ #[t, t] ty #[v, .slice a ys.length cap]).run P w = .ok v' w' → w'.ownsRow w0.heap.size e sz v' (xs.length + ys.length) (cells ++ news) → w.grownBy w' v.ownBlock → (v'.ownBlock = v.ownBlock ∨ v'.ownBlock = some w.heap.size) → X4 P .append [t, t] ty cs [v, .slice a ys.length cap] w K := by
    intro v' w' hrun hown hgrow hat
    have hrun' : (builtin .append #[t, t] ty cs.toArray #[v, .slice a ys.length cap]).run P w = .ok (.value v') w' := by
      simp [builtin, hrun]
    unfold X4
    rw [Zf]; unfold Xj
    rw [hrun']
    refine h v' w' hgrow (Stp.turn hgrow hS fun k hk => ⟨(h1.lt k hk).1, h2 k hk⟩) ⟨cells ++ news, by rw [List.length_append]; exact hown, ?_, ?_⟩ ?_
    · intro k hk
      rcases hat with hat | hat
      · exact h2 k (hat ▸ hk)
      · rw [hat] at hk; cases hk; exact hS.sat.none (Nat.le_refl _)
    · intro j x hx
      by_cases hj : j < xs.length
      · rw [List.getElem?_append_left hj] at hx
        rw [Ob cells news xs.length j h1.1 hj]
        exact h3 j x hx
      · rw [List.getElem?_append_right (by omega)] at hx
        have := n5 _ _ hx
        rw [show j * sz = cells.length + (j - xs.length) * sz by rw [h1.1, ← Nat.add_mul]; congr 1; omega, List.drop_append]
        simpa [List.drop_eq_nil_of_le] using this
    · rcases hat with hat | hat
      · exact .inl hat
      · right; intro k hk; rw [hat] at hk; cases hk; exact Nat.le_refl _
  simp only [Bool.and_eq_true, beq_iff_eq, decide_eq_true_eq] at hz
  cases a with
  | some b =>
    obtain ⟨v', w', g1, g2, g3, _, g5⟩ := run_append_own_at (P := P) w w0.heap.size t ty e i z sz by_ ts.h hi hzero hsz hby hz.1 hz.2 v xs.length cells h1 b ys.length cap news n2 (n3 b rfl) n4 (by simp only [maxLen]; omega) hb hS.bel.size
    exact fin v' w' g1 g2 g3 g5
  | none =>
    have hy : ys = [] := List.eq_nil_of_length_eq_zero (by obtain ⟨a', cap', e', q1, _, q3, _⟩ := hu; injection e' with _ e2 e3; have := n1 rfl; subst e3; omega)
    have hc0 := n1 rfl
    subst hy hc0
    have hn : news = [] := List.eq_nil_of_length_eq_zero (by simpa using n2)
    subst hn
    have hown := h1
    rcases h1.2 with ⟨rfl, h0⟩ | ⟨g, cap, cur, rfl, hb1, hg, hle, _⟩
    · refine fin (.slice none 0 0) w ?_ (by simpa using hown) (World.grownBy.refl w _) (.inl rfl)
      simp [Builtin.append_, run_underlying ts.h, sizeOf, typeInfo, hi, Builtin.lenOf, Builtin.firstCells]
    · refine fin _ w ?_ (by simpa using hown) (World.grownBy.refl w _) (.inl rfl)
      simp [Builtin.append_, run_underlying ts.h, sizeOf, typeInfo, hi, Builtin.lenOf, Builtin.firstCells, hle, storeCells]
end
section
variable {α : Type} {R : Q5 → α → List Value → Prop} {sz : Nat} {e : TypeId} {σ σ0 : Q5} {v u : Value} {xs ys : List α}
theorem Q5.put_le {w : World} (hs : X6 w σ) {b : Nat} (h : σ b = none) (o : Obj) : ∀ k p, σ k = some p → (σ.put b o) k = some p := by
  intro k p hk
  by_cases hkb : k = b
  · subst hkb; rw [h] at hk; cases hk
  · simp only [Q5.put, if_neg hkb]; exact hk
theorem Stp.put {b : Nat} {o : Obj} (hS : Stp w0 σ0 w σ) (hσ : σ b = none) (hb : w0.heap.size ≤ b) (ho : w.heap[b]? = some o) : Stp w0 σ0 w (σ.put b o) := by
  refine ⟨hS.bel, ?_, fun k p hk => Q5.put_le hS.sat hσ o k p (hS.le k p hk), ?_⟩
  · intro k p hk
    by_cases hkb : k = b
    · subst hkb; simp only [Q5.put, if_true] at hk; cases hk; exact ho
    · simp only [Q5.put, if_neg hkb] at hk; exact hS.sat k p hk
  · intro k hk
    simp only [Q5.put]; rw [if_neg (by omega)]; exact hS.old k hk
theorem W6.keep [hr : Rep R] (h : W6 w0.heap.size e sz R σ w v xs) (hS : Stp w0 σ0 w σ) : ∃ σ', Stp w0 σ0 w σ' ∧ Sl sz R σ' v xs ∧ (∀ k o, σ k = some o → σ' k = some o) ∧ (∀ k, some k ≠ v.ownBlock → σ' k = σ k) := by
  obtain ⟨cells, h1, h2, h3⟩ := h
  rcases h1.2 with ⟨rfl, h0⟩ | ⟨g, cap, cur, rfl, hb, hg, hle, hmax, hsz, htk⟩
  · have : xs = [] := List.eq_nil_of_length_eq_zero h0
    subst this
    exact ⟨σ, hS, Sl.nil, fun _ _ h => h, fun _ _ => rfl⟩
  · have hσ := h2 g rfl
    have hle' := Q5.put_le hS.sat hσ (.cells cur e (0, 0))
    refine ⟨σ.put g (.cells cur e (0, 0)), hS.put hσ hb hg, ⟨_, cap, rfl, hle, hmax, by simp, ?_⟩, hle', ?_⟩
    · intro b hbb
      cases hbb
      refine ⟨fun _ => rfl, fun i x hx => ⟨(cells.drop (i * sz)).take sz, ⟨F2 rfl _, cur, e, (0, 0), by rw [R6]; simp [Q5.put], ?_⟩, ?_, hr.up hle' (h3 i x hx)⟩⟩
      · intro j u hu
        rw [Qx]
        rw [List.getElem?_take] at hu
        split at hu
        · rw [List.getElem?_drop, ← htk, List.getElem?_take] at hu
          split at hu
          · simpa using hu
          · cases hu
        · cases hu
      · have hi : i < xs.length := (List.getElem?_eq_some_iff.1 hx).1
        have h : i * sz + sz ≤ xs.length * sz := by rw [← Nat.succ_mul]; exact Nat.mul_le_mul_right _ hi
        rw [List.length_take, List.length_drop, h1.1]; omega
    · intro k hk
      have : k ≠ g := by intro e; subst e; exact hk rfl
      simp only [Q5.put, if_neg this]
theorem Sl.piece {a : Option Addr} {n cap : Nat} (h : Sl sz R σ (.slice a n cap) xs) (l m : Nat) (hl : l + m ≤ xs.length) : Sl sz R σ (.slice (if cap = l then a else a.map (·.add (l * sz))) m (cap - l)) ((xs.drop l).take m) := by
  obtain ⟨a', cap', he, h2, h3, h4, h5⟩ := h
  injection he with e1 e2 e3
  subst e1 e2 e3
  have hlen : ((xs.drop l).take m).length = m := by simp; omega
  refine ⟨_, cap - l, by rw [hlen], by rw [hlen]; omega, by omega, ?_, ?_⟩
  · intro hn
    split at hn
    · omega
    · cases a with
      | none => have := h4 rfl; omega
      | some b => simp at hn
  · intro b hb
    split at hb
    · rename_i hcl
      obtain ⟨q1, q2⟩ := h5 b hb
      have hm : m = 0 := by omega
      subst hm
      exact ⟨fun h => by simp at h, by simp⟩
    · cases a with
      | none => simp at hb
      | some b' =>
        simp only [Option.map_some, Option.some.injEq] at hb
        obtain ⟨q1, q2⟩ := h5 b' rfl
        subst hb
        refine ⟨fun h => F2 (q1 (by rw [hlen] at h; omega)) _, fun i x hx => ?_⟩
        rw [List.getElem?_take] at hx
        split at hx
        · rw [List.getElem?_drop] at hx
          obtain ⟨cs, g1, g2, g3⟩ := q2 _ _ hx
          refine ⟨cs, ?_, g2, g3⟩
          rw [Q4D, ← Nat.add_mul]; exact g1
        · cases hx
theorem Ru {t : TypeId} {by_ : Nat} {z : Value} [ts : TS P t e] [tz : TZ P e sz by_ z] (h : Sl sz R σ v xs) (lo hi : Option Value) (l m : Nat) (hlo : lo = none ∧ l = 0 ∨ lo = some (I l)) (hhi : hi = none ∧ m = xs.length ∨ hi = some (I m)) (hlm : l ≤ m) (hm : m ≤ xs.length)
    (hk : ∀ v', Sl sz R σ v' ((xs.drop l).take (m - l)) → K v' w) : R7 P t v lo hi none w K := by
  have h0 := h
  obtain ⟨a, cap, rfl, h2, h3, h4, h5⟩ := h
  have hh : ∀ w : World, (Instr.sliceBounds true xs.length cap lo hi none).run P w = .ok (l, m, cap) w := by
    intro w
    have c1 : (m : Int) ≤ cap := by omega
    have c2 : (l : Int) ≤ m := by omega
    have c3 : m ≤ cap := by omega
    rcases hlo with ⟨rfl, rfl⟩ | rfl <;> rcases hhi with ⟨rfl, rfl⟩ | rfl <;>
      simp [Instr.sliceBounds, Instr.sliceBound, asIntOf, c3, hlm] <;> intros <;> omega
  unfold R7
  have : (Instr.sliceAt t (.slice a xs.length cap) lo hi none).run P w = .ok (.slice (if cap = l then a else a.map (·.add (l * sz))) (m - l) (cap - l)) w := by
    simp [Instr.sliceAt, run_underlying ts.h, Instr.slice, hh, M1 tz]
  rw [X9 this]
  exact hk _ (h0.piece l (m - l) (by omega))
def en : Nat → List Value → List (Nat × Value)
  | _, [] => []
  | i, v :: r => (i, v) :: en (i + 1) r
theorem Q5Q (off : Nat) : ∀ (vs : List Value) (k : Nat) (cs : Array Value), off + k + vs.length ≤ cs.size →
    ((vs.zipIdx k).foldl (fun cs (p : Value × Nat) => cs.setIfInBounds (off + p.2) p.1) cs).toList = cs.toList.take (off + k) ++ vs ++ cs.toList.drop (off + k + vs.length) := by
  intro vs
  induction vs with
  | nil => intro k cs _; simp
  | cons v r ih =>
    intro k cs h
    simp only [List.length_cons] at h
    rw [List.zipIdx_cons, List.foldl_cons, ih (k + 1) _ (by simp; omega)]
    simp only [Array.toList_setIfInBounds, List.length_cons]
    apply List.ext_getElem?
    intro i
    simp only [List.getElem?_append, List.length_take, List.length_set, Array.length_toList, List.getElem?_take, List.getElem?_drop, List.length_append, List.getElem?_set, List.length_cons]
    rcases Nat.lt_trichotomy i (off + k) with hi | hi | hi
    · simp [show i < off + (k + 1) by omega, hi, show i < min (off + (k + 1)) cs.size by omega, show i < min (off + (k + 1)) cs.size + r.length by omega, show i < min (off + k) cs.size by omega, show i < min (off + k) cs.size + (r.length + 1) by omega, show off + k ≠ i by omega]
    · subst hi
      simp [show off + k < off + (k + 1) by omega, show off + k < min (off + (k + 1)) cs.size by omega, show off + k < min (off + (k + 1)) cs.size + r.length by omega, show ¬ off + k < min (off + k) cs.size by omega, show off + k < min (off + k) cs.size + (r.length + 1) by omega, show off + k < cs.size by omega, show off + k - min (off + k) cs.size = 0 by omega]
    · by_cases h2 : i < off + (k + 1) + r.length
      · simp [show ¬ i < min (off + (k + 1)) cs.size by omega, show i < min (off + (k + 1)) cs.size + r.length by omega, show ¬ i < min (off + k) cs.size by omega, show i < min (off + k) cs.size + (r.length + 1) by omega, show i - min (off + k) cs.size = (i - min (off + (k + 1)) cs.size) + 1 by omega]
      · simp only [show ¬ i < min (off + (k + 1)) cs.size + r.length by omega, show ¬ i < min (off + k) cs.size + (r.length + 1) by omega, if_false]
        rw [show off + (k + 1) + r.length + (i - (min (off + (k + 1)) cs.size + r.length)) = i by omega, show off + k + (r.length + 1) + (i - (min (off + k) cs.size + (r.length + 1))) = i by omega, if_neg (by omega)]
theorem Q4l (sz : Nat) : ∀ (vs : List Value) (i : Nat) (cs : Array Value), (i + vs.length) * sz ≤ cs.size → (∀ v ∈ vs, v.cells.size = sz) →
    ∃ cs', Instr.fill (fun i => some (i * sz, sz)) cs (en i vs) = some cs' ∧ cs'.toList = cs.toList.take (i * sz) ++ vs.flatMap (·.cells.toList) ++ cs.toList.drop ((i + vs.length) * sz) := by
  intro vs
  induction vs with
  | nil => intro i cs _ _; exact ⟨cs, rfl, by simp⟩
  | cons v r ih =>
    intro i cs h hv
    have hv0 := hv v (by simp)
    simp only [List.length_cons] at h
    have h1 : i * sz + sz ≤ cs.size := by
      have : (i + 1) * sz ≤ (i + (r.length + 1)) * sz := Nat.mul_le_mul_right _ (by omega)
      rw [Nat.succ_mul] at this; omega
    have hset := Q5Q (i * sz) v.cells.toList 0 cs (by simp; omega)
    simp only [Nat.add_zero] at hset
    have e1 : v.cells.zipIdx.foldl (fun cs (p : Value × Nat) => cs.setIfInBounds (i * sz + p.2) p.1) cs = (v.cells.toList.zipIdx 0).foldl (fun cs (p : Value × Nat) => cs.setIfInBounds (i * sz + p.2) p.1) cs := by
      rw [← Array.foldl_toList, Array.toList_zipIdx]
    have hsz' : ((v.cells.toList.zipIdx 0).foldl (fun cs (p : Value × Nat) => cs.setIfInBounds (i * sz + p.2) p.1) cs).size = cs.size := by
      rw [← Array.length_toList, hset]
      simp; omega
    obtain ⟨cs', q1, q2⟩ := ih (i + 1) _ (by rw [hsz']; rw [show i + 1 + r.length = i + (r.length + 1) by omega]; exact h) (fun u hu => hv u (by simp [hu]))
    refine ⟨cs', ?_, ?_⟩
    · simp only [en, Instr.fill]
      rw [if_neg (by simp [hv0]; omega)]
      rw [e1]; exact q1
    · rw [q2, hset]
      simp only [List.flatMap_cons, List.length_cons, Array.length_toList, hv0]
      have e2 : (i + 1) * sz = i * sz + sz := by rw [Nat.succ_mul]
      have e3 : (i + (r.length + 1)) * sz = i * sz + sz + r.length * sz := by rw [Nat.add_mul, Nat.succ_mul]; omega
      have e4 : (i + 1 + r.length) * sz = i * sz + sz + r.length * sz := by rw [Nat.add_mul, Nat.succ_mul]
      rw [e2, e3, e4]
      have t1 : (cs.toList.take (i * sz)).length = i * sz := by simp; omega
      have t2 : (cs.toList.take (i * sz) ++ v.cells.toList).length = i * sz + sz := by rw [List.length_append, t1]; simp [hv0]
      have k1 : ∀ C : List Value, (cs.toList.take (i * sz) ++ v.cells.toList ++ C).take (i * sz + sz) = cs.toList.take (i * sz) ++ v.cells.toList := by
        intro C
        rw [List.take_append_of_le_length (by omega), List.take_of_length_le (by omega)]
      have k2 : ∀ (C : List Value) (n : Nat), (cs.toList.take (i * sz) ++ v.cells.toList ++ C).drop (i * sz + sz + n) = C.drop n := by
        intro C n
        rw [List.drop_append, t2, List.drop_eq_nil_of_le (by omega), List.nil_append]
        congr 1; omega
      rw [k1, k2, List.drop_drop]
      simp only [List.append_assoc]
theorem My {t : TypeId} {by_ : Nat} {z : Value} [ts : TS P t e] [tz : TZ P e sz by_ z] (vs : List Value) (hv : ∀ v ∈ vs, v.cells.size = sz) (hsm : vs.length * sz ≤ 16777216) (w : World) :
    ∃ cells : Array Value, (Instr.buildSlice t vs.length (en 0 vs).toArray).run P w = .ok (.slice (some ⟨w.heap.size, 0, none⟩) vs.length vs.length) (w.alloc (.cells cells e)) ∧ cells.toList = vs.flatMap (·.cells.toList) := by
  have h2 : ¬ vs.length * sz > 2 ^ 24 := by omega
  by_cases h : vs.length * sz = 0
  · obtain ⟨cells, hf, hl⟩ := Q4l sz vs 0 ((Array.range (vs.length * sz)).map ((#[] : Array Value)[· % (#[] : Array Value).size]!)) (by simp) hv
    refine ⟨cells, ?_, by rw [hl]; simp⟩
    simp only [Instr.buildSlice, Sem.run_bind, run_underlying ts.h, Result.andThen_ok, M1 tz, if_neg h2, if_pos h, Sem.run_pure, hf]
    simp [newRow]
  · obtain ⟨cells, hf, hl⟩ := Q4l sz vs 0 ((Array.range (vs.length * sz)).map (z.cells[· % z.cells.size]!)) (by simp) hv
    refine ⟨cells, ?_, by rw [hl]; simp⟩
    simp only [Instr.buildSlice, Sem.run_bind, run_underlying ts.h, Result.andThen_ok, M1 tz, if_neg h2, if_neg h, Sem.run_pure, Qz tz, hf]
    simp [newRow]
theorem Q4T {vs : List Value} (hv : ∀ v ∈ vs, v.cells.size = sz) (i : Nat) (v : Value) (h : vs[i]? = some v) : ((vs.flatMap (·.cells.toList)).drop (i * sz)).take sz = v.cells.toList := by
  induction vs generalizing i with
  | nil => simp at h
  | cons a r ih =>
    have ha := hv a (by simp)
    cases i with
    | zero =>
      simp at h; subst h
      rw [List.flatMap_cons, Nat.zero_mul, List.drop_zero, List.take_append_of_le_length (by simp [ha]), List.take_of_length_le (by simp [ha])]
    | succ i =>
      rw [List.flatMap_cons, Nat.succ_mul, List.drop_append, List.drop_eq_nil_of_le (by simp [ha]), List.nil_append]
      rw [show i * sz + sz - a.cells.toList.length = i * sz by simp [ha]]
      exact ih (fun v hv' => hv v (by simp [hv'])) i (by simpa using h)
theorem An {vs : List Value} (hv : ∀ v ∈ vs, v.cells.size = sz) : (vs.flatMap (·.cells.toList)).length = vs.length * sz := by
  induction vs with
  | nil => simp
  | cons a r ih =>
    rw [List.flatMap_cons, List.length_append, ih (fun v h => hv v (by simp [h]))]
    simp [hv a (by simp), Nat.succ_mul, Nat.add_comm]
def Pa (R : Q5 → α → List Value → Prop) (σ : Q5) : List Value → List α → Prop
  | [], [] => True
  | v :: vs, x :: xs => R σ x v.cells.toList ∧ Pa R σ vs xs
  | _, _ => False
theorem Pa.len {vs : List Value} (h : Pa R σ vs xs) : vs.length = xs.length := by
  induction vs generalizing xs with
  | nil => cases xs with
    | nil => rfl
    | cons => exact h.elim
  | cons v r ih => cases xs with
    | nil => exact h.elim
    | cons x y => simp [ih h.2]
theorem Pa.get {vs : List Value} (h : Pa R σ vs xs) {i : Nat} {x : α} (hx : xs[i]? = some x) : ∃ v, vs[i]? = some v ∧ R σ x v.cells.toList := by
  induction vs generalizing xs i with
  | nil => cases xs with
    | nil => simp at hx
    | cons => exact h.elim
  | cons v r ih => cases xs with
    | nil => exact h.elim
    | cons y ys =>
      cases i with
      | zero => simp at hx; subst hx; exact ⟨v, rfl, h.1⟩
      | succ i => obtain ⟨u, q1, q2⟩ := ih h.2 (i := i) (by simpa using hx); exact ⟨u, by simpa using q1, q2⟩
theorem Qt {t : TypeId} {by_ : Nat} {z : Value} {n : Nat} {parts : List (Nat × Value)} [ts : TS P t e] [tz : TZ P e sz by_ z] (hS : Stp w0 σ0 w σ) (vs : List Value) (xs : List α) (hn : n = vs.length) (hp : parts = en 0 vs) (hv : ∀ v ∈ vs, v.cells.size = sz) (hsm : (decide (0 < sz) && decide (vs.length * sz ≤ 16777216)) = true) (he : Pa R σ vs xs)
    (h : ∀ v w', Stp w σ w' σ → W6 w0.heap.size e sz R σ w' v xs → (∀ k, v.ownBlock = some k → w.heap.size ≤ k) → K v w') : buildSlice P t n parts w K := by
  subst hn hp
  simp only [Bool.and_eq_true, decide_eq_true_eq] at hsm
  obtain ⟨hsz, hsm⟩ := hsm
  obtain ⟨cells, h1, h2⟩ := My (P := P) (t := t) vs hv hsm w
  unfold buildSlice
  rw [X9 h1]
  have hl := he.len
  refine h _ _ (Stp.own hS.sat _) ⟨cells.toList, ⟨by rw [h2, An hv, hl], .inr ⟨_, _, cells, by rw [hl], hS.bel.size, heap_alloc_new w _, by omega, ?_, ?_, ?_⟩⟩, ?_, ?_⟩ ?_
  · simp only [maxLen]
    have : vs.length * 1 ≤ vs.length * sz := Nat.mul_le_mul_left _ hsz
    omega
  · rw [← Array.length_toList, h2, An hv, hl]
  · rw [List.take_of_length_le (by rw [h2, An hv, hl]; exact Nat.le_refl _)]
  · intro k hk; cases hk; exact hS.sat.none (Nat.le_refl _)
  · intro i x hx
    obtain ⟨v, q1, q2⟩ := he.get hx
    rw [h2, Q4T hv i v q1]; exact q2
  · intro k hk; cases hk; exact Nat.le_refl _
theorem Nl [Rep R] {t : TypeId} {by_ : Nat} {z : Value} {n : Nat} {parts : List (Nat × Value)} [ts : TS P t e] [tz : TZ P e sz by_ z] (hs : X6 w σ) (vs : List Value) (xs : List α) (hn : n = vs.length) (hp : parts = en 0 vs) (hv : ∀ v ∈ vs, v.cells.size = sz) (hsm : (decide (0 < sz) && decide (vs.length * sz ≤ 16777216)) = true) (he : Pa R σ vs xs)
    (h : ∀ v w' σ', Stp w σ w' σ' → Sl sz R σ' v xs → K v w') : buildSlice P t n parts w K := by
  refine Qt (Stp.refl hs) vs xs hn hp hv hsm he fun v w' hk ha _ => ?_
  obtain ⟨σ', g1, g2, _⟩ := ha.keep hk
  exact h v w' σ' g1 g2
theorem Q8h {t : TypeId} {k off : Nat} {ft : TypeId} [tf : TF P t k off ft] [tg : TG P ft false] {cs : Array Value} {v : Value} (hv : cs[off]? = some v) : D1 P t (.agg cs) k w K = K v w := by
  unfold D1
  have hh := tf.h
  unfold Q16 at hh
  split at hh
  · rename_i fs hu
    obtain ⟨f, hf, he⟩ := Option.map_eq_some_iff.1 hh
    simp only [Prod.mk.injEq] at he
    obtain ⟨h1, h2⟩ := he
    subst h2 h1
    exact X9 (by simp [Instr.field, run_underlying hu, hf, asAgg, part, T8 tg, hv])
  · cases hh
theorem Xa {f : Fn} {first caps : List Value} : O9 P f first caps w K = K (.func f first.toArray caps.toArray) w := X9 (by simp [Instr.makeFunc])
theorem B0 {t : TypeId} {parts : List (Nat × Value)} {cells : Array Value} (h : P.built t parts = some cells) (hk : K (.agg cells) w) : Qu P t parts w K := by
  unfold Qu
  rw [X9 (run_build w t parts.toArray cells h)]; exact hk
end
def N7 (o : Option Obj) (m : List (List UInt8 × Value)) : Prop :=
  ∃ es clock, o = some (.map es clock) ∧ es.toList.map (fun e => (e.key, e.val)) = m.map (fun p => (S p.1, p.2)) ∧ (es.toList.map (·.born)).Pairwise (· < ·) ∧ ∀ e ∈ es.toList, e.born < clock
def E4 (m : List (List UInt8 × Value)) (k : List UInt8) : Option Value := match m with
  | [] => none
  | p :: r => if p.1 = k then some p.2 else E4 r k
def Jr (m : List (List UInt8 × Value)) (k : List UInt8) (v : Value) : List (List UInt8 × Value) := match m with
  | [] => [(k, v)]
  | p :: r => if p.1 = k then (k, v) :: r else p :: Jr r k v
theorem Mg (a b : List UInt8) : ((⟨a.toArray⟩ : ByteArray) == ⟨b.toArray⟩) = decide (a = b) := by
  rw [← Q13]
  show (a.toArray == b.toArray) = _
  simp
theorem Eh (k : List UInt8) : ∀ (es : List MapEntry) (m : List (List UInt8 × Value)) (i : Nat), es.map (fun e => (e.key, e.val)) = m.map (fun p => (S p.1, p.2)) →
    ∃ r, Instr.findNow .string (S k) es i = some r ∧ r.map (·.2) = E4 m k ∧ (∀ j v, r = some (j, v) → i ≤ j ∧ (∃ e, es[j - i]? = some e ∧ e.key = S k) ∧ ∀ u, (es.modify (j - i) fun e => { e with key := S k, val := u }).map (fun e => (e.key, e.val)) = (Jr m k u).map (fun p => (S p.1, p.2))) ∧
      (r = none → ∀ u, Jr m k u = m ++ [(k, u)]) := by
  intro es
  induction es with
  | nil =>
    intro m i h
    cases m with
    | nil => exact ⟨none, rfl, rfl, (by simp), fun _ u => rfl⟩
    | cons => simp at h
  | cons e r ih =>
    intro m i h
    cases m with
    | nil => simp at h
    | cons p q =>
      simp only [List.map_cons, List.cons.injEq, Prod.mk.injEq] at h
      obtain ⟨⟨h1, h2⟩, h3⟩ := h
      simp only [Instr.findNow, h1, Instr.sameNow, Mg]
      by_cases hk : p.1 = k
      · have hd : decide (k = p.1) = true := by simp [hk]
        simp only [hd]
        refine ⟨_, rfl, by simp [E4, hk, h2], ?_, by simp⟩
        intro j v hjv
        cases hjv
        refine ⟨Nat.le_refl _, ⟨e, by simp, by rw [h1, hk]⟩, fun u => ?_⟩
        simp [Jr, hk, h3]
      · have hd : decide (k = p.1) = false := by simp; exact fun e => hk e.symm
        simp only [hd]
        obtain ⟨r', q1, q2, q3, q4⟩ := ih q (i + 1) h3
        refine ⟨r', q1, by simp [E4, hk, q2], ?_, ?_⟩
        · intro j v hjv
          obtain ⟨z1, z2, z3⟩ := q3 j v hjv
          refine ⟨by omega, by rw [show j - i = (j - (i + 1)) + 1 by omega]; simpa using z2, fun u => ?_⟩
          have := z3 u
          rw [show j - i = (j - (i + 1)) + 1 by omega]
          simp [Jr, hk, h1, h2, this]
        · intro hn u
          simp [Jr, hk, q4 hn u]
theorem S5 {t : TypeId} (ht : P.underlying t = some .string) (b : Bool) (k : List UInt8) (w : World) : (Instr.checkKey b 10000 t (S k)).run P w = .ok () w := by
  unfold Instr.checkKey
  simp [run_underlying ht]
theorem Bt {t kt et : TypeId} {sz by_ : Nat} {z : Value} [tm : TM P t kt et] [tz : TZ P et sz by_ z] (hk : P.underlying kt = some .string) {r : Nat} {m : List (List UInt8 × Value)} (hm : N7 (w.heap[r]?) m) (k : List UInt8) :
    lookup P t (.map (some r)) (S k) true w K = K (match E4 m k with | some v => .tuple #[v, .bool true] | none => .tuple #[z, .bool false]) w := by
  obtain ⟨es, clock, h1, h2, h3, h4⟩ := hm
  obtain ⟨r', q1, q2, q3, q4⟩ := Eh k es.toList m 0 h2
  unfold lookup
  refine X9 ?_
  simp only [Instr.lookup, Sem.run_bind, run_underlying tm.h, Result.andThen_ok, Instr.findKey, run_underlying hk, q1, S5 hk]
  have hg : (getObj r).run P w = .ok (.map es clock) w := by simp [getObj, Sem.run, h1]
  simp only [hg, Result.andThen_ok, Sem.run_bind, Sem.run_pure, S5 hk, run_underlying hk, q1]
  cases r' with
  | none => simp at q2; rw [← q2]; simp [Qz tz]
  | some p => simp at q2; rw [← q2]; simp
theorem Q1O {t kt et : TypeId} {sz by_ : Nat} {z : Value} [tm : TM P t kt et] [tz : TZ P et sz by_ z] (hk : P.underlying kt = some .string) {r : Nat} {m : List (List UInt8 × Value)} (hm : N7 (w.heap[r]?) m) (k : List UInt8) :
    lookup P t (.map (some r)) (S k) false w K = K ((E4 m k).getD z) w := by
  obtain ⟨es, clock, h1, h2, h3, h4⟩ := hm
  obtain ⟨r', q1, q2, q3, q4⟩ := Eh k es.toList m 0 h2
  unfold lookup
  refine X9 ?_
  have hg : (getObj r).run P w = .ok (.map es clock) w := by simp [getObj, Sem.run, h1]
  simp only [Instr.lookup, Sem.run_bind, run_underlying tm.h, Result.andThen_ok, Instr.findKey, run_underlying hk, q1, S5 hk, hg, Sem.run_pure]
  cases r' with
  | none => simp at q2; rw [← q2]; simp [Qz tz]
  | some p => simp at q2; rw [← q2]; simp
def N5 (σ : Q5) (w : World) (r : Nat) (m : List (List UInt8 × Value)) : Prop := σ r = none ∧ N7 (w.heap[r]?) m
def P6 (σ : Q5) (r : Nat) (m : List (List UInt8 × Value)) : Prop := N7 (σ r) m
theorem P6.is {σ : Q5} {r : Nat} {m : List (List UInt8 × Value)} (h : P6 σ r m) (hs : X6 w σ) : N7 (w.heap[r]?) m := by
  obtain ⟨es, clock, h1, h2⟩ := h
  exact ⟨es, clock, hs _ _ h1, h2⟩
theorem P6.le {σ σ' : Q5} {r : Nat} {m : List (List UInt8 × Value)} (h : P6 σ r m) (hk : ∀ b o, σ b = some o → σ' b = some o) : P6 σ' r m := by
  obtain ⟨es, clock, h1, h2⟩ := h
  exact ⟨es, clock, hk _ _ h1, h2⟩
theorem P6.up {σ σ' : Q5} {r : Nat} {m : List (List UInt8 × Value)} (h : P6 σ r m) (hk : Stp w σ w' σ') : P6 σ' r m := h.le hk.le
theorem N5.lt {σ : Q5} {r : Nat} {m : List (List UInt8 × Value)} (h : N5 σ w r m) : r < w.heap.size := by
  obtain ⟨_, es, clock, h1, _⟩ := h
  exact (Array.getElem?_eq_some_iff.1 h1).1
theorem N5.up {σ σ' : Q5} {r : Nat} {m : List (List UInt8 × Value)} (h : N5 σ w r m) (hk : Stp w σ w' σ') : N5 σ' w' r m := by
  have hl := h.lt
  exact ⟨(hk.old r hl).trans h.1, (hk.bel.block r hl).symm ▸ h.2⟩
theorem N5.turn {σ : Q5} {row : Option Nat} {r : Nat} {m : List (List UInt8 × Value)} (h : N5 σ w r m) (hg : w.grownBy w' row) (hne : some r ≠ row) : N5 σ w' r m :=
  ⟨h.1, (hg.block r h.lt hne).symm ▸ h.2⟩
theorem Q0c {t : TypeId} {σ : Q5} (hs : X6 w σ) (h : ∀ r w', w.heap.size ≤ r → Stp w σ w' σ → N5 σ w' r [] → K (.map (some r)) w') : Si P t none w K := by
  unfold Si
  rw [X9 (v := .map (some w.heap.size)) (w' := w.alloc (.map #[] 0)) (by simp [Instr.makeMap])]
  exact h _ _ (Nat.le_refl _) (Stp.own hs _) ⟨hs.none (Nat.le_refl _), #[], 0, heap_alloc_new w _, rfl, by simp, by simp⟩
theorem N5.keep {σ σ0 : Q5} {r : Nat} {m : List (List UInt8 × Value)} (h : N5 σ w r m) (hS : Stp w0 σ0 w σ) (hb : w0.heap.size ≤ r) : ∃ σ', Stp w0 σ0 w σ' ∧ P6 σ' r m ∧ (∀ k o, σ k = some o → σ' k = some o) ∧ (∀ k, k ≠ r → σ' k = σ k) := by
  obtain ⟨h0, es, clock, h1, h2⟩ := h
  exact ⟨σ.put r (.map es clock), hS.put h0 hb h1, ⟨es, clock, by simp [Q5.put], h2⟩, Q5.put_le hS.sat h0 _, fun k hk => by simp only [Q5.put, if_neg hk]⟩
theorem Be {t kt et : TypeId} [tm : TM P t kt et] (hk : P.underlying kt = some .string) {σ : Q5} {r : Nat} {m : List (List UInt8 × Value)} (hm : N5 σ w r m) (k : List UInt8) (v : Value)
    (h : ∀ w', Upd w r w' → N5 σ w' r (Jr m k v) → K undef w') : mapUpdate P t (.map (some r)) (S k) v w K := by
  obtain ⟨h0, es, clock, h1, h2, h3, h4⟩ := hm
  obtain ⟨r', q1, q2, q3, q4⟩ := Eh k es.toList m 0 h2
  have hg : (getObj r).run P w = .ok (.map es clock) w := by simp [getObj, Sem.run, h1]
  have hl := (Array.getElem?_eq_some_iff.1 h1).1
  have hset : ∀ o, o = Obj.map es clock ∨ True → (∀ c e f, o ≠ .cells c e f) → (setObj r o).run P w = .ok () { w with heap := w.heap.setIfInBounds r o } := by
    intro o _ _
    simp [setObj, Sem.run, h1]
  have upd : ∀ o, Upd w r { w with heap := w.heap.setIfInBounds r o } := fun o => ⟨rfl, rfl, rfl, by simp, fun k hk => by simp only [Array.getElem?_setIfInBounds]; rw [if_neg (by omega)]⟩
  have at_ : ∀ o, ({ w with heap := w.heap.setIfInBounds r o } : World).heap[r]? = some o := fun o => by simp [Array.getElem?_setIfInBounds, hl]
  unfold mapUpdate
  cases r' with
  | none =>
    rw [Lq (w' := { w with heap := w.heap.setIfInBounds r (.map (es.push { key := S k, val := v, born := clock }) (clock + 1)) }) (by
      simp only [Instr.mapUpdate, Sem.run_bind, run_underlying tm.h, Result.andThen_ok, Instr.findKey, run_underlying hk, q1, S5 hk, hg, Sem.run_pure]
      exact hset _ (.inr trivial) (by intros; simp))]
    refine h _ (upd _) ⟨h0, _, _, at_ _, ?_, ?_, ?_⟩
    · rw [q4 rfl]; simp [h2]
    · simp only [Array.toList_push, List.map_append, List.map_cons, List.map_nil]
      rw [List.pairwise_append]
      refine ⟨h3, by simp, ?_⟩
      intro a ha b hb
      simp at hb; subst hb
      obtain ⟨e, he, rfl⟩ := List.mem_map.1 ha
      exact h4 e he
    · intro e he
      simp at he
      rcases he with he | rfl
      · have := h4 e (by simpa using he); omega
      · simp
  | some p =>
    obtain ⟨j, u⟩ := p
    obtain ⟨z1, z2, z3⟩ := q3 j u rfl
    obtain ⟨e, e1, e2⟩ := z2
    simp only [Nat.sub_zero] at e1 z3
    have hborn : ((es.modify j fun e => { e with key := S k, val := v }).toList.map (·.born)) = es.toList.map (·.born) := by
      apply List.ext_getElem?
      intro i
      simp only [Array.toList_modify, List.getElem?_map, List.getElem?_modify]
      by_cases hij : j = i <;> cases es.toList[i]? <;> simp [hij]
    have hstay : (Instr.keyThatStays (S k) (S k)).run P w = .ok (S k) w := by
      simp [Instr.keyThatStays, Instr.sameBits, Mg]
    rw [Lq (w' := { w with heap := w.heap.setIfInBounds r (.map (es.modify j fun e => { e with key := S k, val := v }) clock) }) (by
      simp only [Instr.mapUpdate, Sem.run_bind, run_underlying tm.h, Result.andThen_ok, Instr.findKey, run_underlying hk, q1, S5 hk, hg, Sem.run_pure]
      rw [show ((es[j]?).map (·.key)).getD (S k) = S k by rw [← Array.getElem?_toList, e1]; simp [e2]]
      simp only [hstay, Result.andThen_ok]
      exact hset _ (.inr trivial) (by intros; simp))]
    refine h _ (upd _) ⟨h0, _, _, at_ _, ?_, ?_, ?_⟩
    · simp only [Array.toList_modify]; exact z3 v
    · rw [hborn]; exact h3
    · intro x hx
      have : x.born ∈ es.toList.map (·.born) := by rw [← hborn]; exact List.mem_map.2 ⟨x, hx, rfl⟩
      obtain ⟨y, hy, e⟩ := List.mem_map.1 this
      rw [← e]; exact h4 y hy
end Go.Emb

namespace Go.Emb
open Go.RowKit
variable {P : Program} {w w0 w1 w' w'' : World} {K : Value → World → Prop}
theorem Y2 {c b : Bool} {run : World → (Value → World → Prop) → Prop} (h1 : c = b → run w K) (h2 : c = (!b) → K undef w) : Q0 (.bool c) b w run K := by
  cases c <;> cases b
  · rw [Uk]; exact h1 rfl
  · rw [Zy]; exact h2 rfl
  · rw [Pd]; exact h2 rfl
  · rw [F9]; exact h1 rfl
theorem Q4 {c : Bool} {t e : Prop} (h1 : c = true → t) (h2 : c = false → e) : X1 (.bool c) t e := by
  cases c
  · rw [Ef]; exact h2 rfl
  · rw [Cs]; exact h1 rfl
theorem Q6 {α : Type} {R : Q5 → α → List Value → Prop} {sz : Nat} {σ : Q5} {v : Value} {xs : List α} {t0 e t : TypeId} {cs : List Bool} [ts : TS P t0 e] (h : Sl sz R σ v xs) (hk : K (I xs.length) w) : X4 P .len [t0] t cs [v] w K := by
  rw [Q8T h]; exact hk
structure Kpt (D : Nat → Prop) (w w' : World) : Prop where
  os : w'.os = w.os
  tape : w'.tape = w.tape
  output : w'.output = w.output
  size : w.heap.size ≤ w'.heap.size
  block : ∀ k, k < w.heap.size → ¬ D k → w'.heap[k]? = w.heap[k]?
theorem Kpt.refl {D : Nat → Prop} : Kpt D w w := ⟨rfl, rfl, rfl, Nat.le_refl _, fun _ _ _ => rfl⟩
theorem Kpt.trans {D : Nat → Prop} (h : Kpt D w w') (k : Kpt D w' w'') : Kpt D w w'' :=
  ⟨k.os.trans h.os, k.tape.trans h.tape, k.output.trans h.output, Nat.le_trans h.size k.size, fun i hi hd => (k.block i (Nat.lt_of_lt_of_le hi h.size) hd).trans (h.block i hi hd)⟩
theorem Kpt.of_below {D : Nat → Prop} (h : Below w.heap.size w w') : Kpt D w w' := ⟨h.os, h.tape, h.output, h.size, fun k hk _ => h.block k hk⟩
theorem Kpt.of_grown {D : Nat → Prop} {row : Option Nat} (h : w.grownBy w' row) (hr : ∀ k, row = some k → D k) : Kpt D w w' := ⟨h.os, h.tape, h.output, h.size, fun k hk hd => h.block k hk (fun e => hd (hr k e.symm))⟩
theorem Kpt.of_upd {D : Nat → Prop} {b : Nat} (h : Upd w b w') (hb : D b) : Kpt D w w' := ⟨h.os, h.tape, h.output, by rw [h.size]; exact Nat.le_refl _, fun k hk hd => h.block k (fun e => hd (e ▸ hb))⟩
theorem Kpt.mono {D D' : Nat → Prop} (h : Kpt D w w') (hd : ∀ k, k < w.heap.size → D k → D' k) : Kpt D' w w' := ⟨h.os, h.tape, h.output, h.size, fun k hk hn => h.block k hk (fun e => hn (hd k hk e))⟩
theorem Kpt.below {D : Nat → Prop} (h : Kpt D w w') (hd : ∀ k, ¬ D k) : Below w.heap.size w w' := ⟨h.os, h.tape, h.output, h.size, fun k hk => h.block k hk (hd k)⟩
theorem Stp.kp {σ0 σ : Q5} {D : Nat → Prop} (hS : Stp w0 σ0 w σ) (hk : Kpt D w w') (hr : ∀ k, D k → w0.heap.size ≤ k ∧ σ k = none) : Stp w0 σ0 w' σ := by
  refine ⟨⟨hk.os.trans hS.bel.os, hk.tape.trans hS.bel.tape, hk.output.trans hS.bel.output, Nat.le_trans hS.bel.size hk.size, fun k hlt => ?_⟩, ?_, hS.le, hS.old⟩
  · refine (hk.block k (Nat.lt_of_lt_of_le hlt hS.bel.size) ?_).trans (hS.bel.block k hlt)
    intro e; have := (hr k e).1; omega
  · intro k o ho
    refine (hk.block k (hS.sat.lt ho) ?_).trans (hS.sat k o ho)
    intro e; rw [(hr k e).2] at ho; cases ho
theorem V4.kp {σ : Q5} {D : Nat → Prop} {k : Nat} {cs : List Value} (h : V4 σ w k cs) (hk : Kpt D w w') (hne : ¬ D k) : V4 σ w' k cs := by
  have hl := h.lt
  obtain ⟨h1, e, h2⟩ := h
  exact ⟨h1, e, (hk.block k hl hne).trans h2⟩
theorem N5.kp {σ : Q5} {D : Nat → Prop} {r : Nat} {m : List (List UInt8 × Value)} (h : N5 σ w r m) (hk : Kpt D w w') (hne : ¬ D r) : N5 σ w' r m :=
  ⟨h.1, (hk.block r h.lt hne).symm ▸ h.2⟩
theorem W6.kp {α : Type} {R : Q5 → α → List Value → Prop} {B sz : Nat} {e : TypeId} {σ : Q5} {v : Value} {xs : List α} {D : Nat → Prop} (h : W6 B e sz R σ w v xs) (hk : Kpt D w w') (hne : ∀ k, v.ownBlock = some k → ¬ D k) : W6 B e sz R σ w' v xs := by
  obtain ⟨cells, h1, h2, h3⟩ := h
  refine ⟨cells, ⟨h1.1, ?_⟩, h2, h3⟩
  rcases h1.2 with hn | ⟨g, cap, cur, rfl, hb, hg, rest⟩
  · exact .inl hn
  · refine .inr ⟨g, cap, cur, rfl, hb, ?_, rest⟩
    rw [hk.block g (Array.getElem?_eq_some_iff.1 hg).1 (hne g rfl)]; exact hg
theorem bt {w w1 w2 : World} (h1 : Below w.heap.size w w1) (h2 : Below w1.heap.size w1 w2) : Below w.heap.size w w2 := h1.trans (h2.mono h1.size)
abbrev W3 : Nat := 140737488351232
def U5 (_ : Q5) (s : List UInt8) (cs : List Value) : Prop := cs = [S s] ∧ s.length ≤ W3
instance : Rep U5 := ⟨fun _ h => h, fun h u hu => by rw [h.1] at hu; simp at hu; subst hu; rfl⟩
def Jp (_ : Q5) (n : Int) (cs : List Value) : Prop := cs = [I n] ∧ -9223372036854775808 ≤ n ∧ n ≤ 9223372036854775807
instance : Rep Jp := ⟨fun _ h => h, fun h u hu => by rw [h.1] at hu; simp at hu; subst hu; rfl⟩
def Q5r (_ : Q5) (b : Bool) (cs : List Value) : Prop := cs = [.bool b]
instance : Rep Q5r := ⟨fun _ h => h, fun h u hu => by rw [h] at hu; simp at hu; subst hu; rfl⟩
def UpI (N : Nat) (Inv : Nat → World → Prop) (x : Value) (w : World) : Prop := ∃ n : Nat, x = I n ∧ n ≤ N ∧ Inv n w
def Ai (N : Nat) (x : Value) : Nat := match x with | .int _ n => N - n.toNat | _ => 0
theorem V1 {A : (Value → World → Prop) → Value → (Nat → Value) → World → Prop} (N : Nat) (Inv : Nat → World → Prop) (h0 : Inv 0 w)
    (hstep : ∀ n w d, n ≤ N → Inv n w → A (fun y w' => UpI N Inv y w' ∧ Ai N y < Ai N (I n)) (I n) d w) : lp (α := Value) (.int .i64 0) w A := by
  refine Jm (UpI N Inv) (fun x _ => Ai N x) ⟨0, rfl, Nat.zero_le _, h0⟩ ?_
  rintro _ d w' ⟨n, rfl, hn, hi⟩
  exact hstep n w' d hn hi
theorem Y5 {N n : Nat} {Inv : Nat → World → Prop} (hN : N ≤ 9223372036854775807) (hn : n < N) (hi : Inv (n + 1) w) : UpI N Inv (.int .i64 (IntKind.i64.wrap (n + 1))) w ∧ Ai N (.int .i64 (IntKind.i64.wrap (n + 1))) < Ai N (I n) := by
  rw [B6 (by omega) (by omega)]
  exact ⟨⟨n + 1, rfl, hn, hi⟩, by simp only [Ai]; omega⟩
def Hl {α : Type} (N : Nat) (Inv : Nat → α → World → Prop) (x : α × Value) (w : World) : Prop := ∃ n : Nat, x.2 = I n ∧ n ≤ N ∧ Inv n x.1 w
def Us {α : Type} (N : Nat) (x : α × Value) : Nat := Ai N x.2
theorem N1 {α : Type} {A : (α × Value → World → Prop) → α × Value → (Nat → Value) → World → Prop} {a : α} (N : Nat) (Inv : Nat → α → World → Prop) (h0 : Inv 0 a w)
    (hstep : ∀ n a w d, n ≤ N → Inv n a w → A (fun y w' => Hl N Inv y w' ∧ Us N y < Us N (a, I n)) (a, I n) d w) : lp (α := α × Value) (a, .int .i64 0) w A := by
  refine Jm (Hl N Inv) (fun x _ => Us N x) ⟨0, rfl, Nat.zero_le _, h0⟩ ?_
  rintro ⟨a, x⟩ d w' ⟨n, hx, hn, hi⟩
  simp only at hx hi
  subst hx
  exact hstep n a w' d hn hi
theorem Z6 {α : Type} {a a' : α} {N n : Nat} {Inv : Nat → α → World → Prop} (hN : N ≤ 9223372036854775807) (hn : n < N) (hi : Inv (n + 1) a' w) : Hl N Inv (a', .int .i64 (IntKind.i64.wrap (n + 1))) w ∧ Us N (a', .int .i64 (IntKind.i64.wrap (n + 1))) < Us N (a, I n) := by
  rw [B6 (by omega) (by omega)]
  exact ⟨⟨n + 1, rfl, hn, hi⟩, by simp only [Us, Ai]; omega⟩
theorem L2 {α : Type} {R : Q5 → α → List Value → Prop} {sz : Nat} {σ : Q5} {v : Value} {xs : List α} {t e : TypeId} {by_ : Nat} {z : Value} [TS P t e] [TZ P e sz by_ z] (h : Sl sz R σ v xs) {n : Nat} (hn : n < xs.length)
    (hk : ∀ a cs, U0 σ a cs → cs.length = sz → R σ xs[n] cs → K (.pointer (some a)) w) : indexAddr P t v (I n) w K :=
  Q9p h (by omega) (by simpa using hn) (fun a cs h1 h2 h3 => hk a cs h1 h2 (by simpa using h3))
theorem Y0 {t : TypeId} {sz by_ : Nat} {z : Value} {A : Value → Value → World → Prop} [tz : TZ P t sz by_ z] {σ : Q5} {cs : List Value} (hs : X6 w σ) (hz : z.cells.size = sz) (hl : cs.length = sz) (h1 : ∀ u ∈ cs, u.oneCell' = true)
    (h : ∀ a w' σ', Stp w σ w' σ' → U0 σ' a cs → A (.pointer (some a)) undef w') : M0 P t w (fun p w => V5 P t p (.agg cs.toArray) w (fun u w => A p u w)) := by
  refine Sv hs fun b w1 hb hk hm => ?_
  refine sta hm (by simpa using hz) hl (by rw [List.all_toArray]; exact List.all_eq_true.2 h1) fun w2 hu hm2 => ?_
  have hS : Stp w σ w2 σ := hu.stp hk hb hm.1
  obtain ⟨σ', g1, g2, _⟩ := hm2.keep hS hb
  exact h _ _ _ g1 g2
theorem U1 {t : TypeId} {by_ : Nat} {z : Value} {A : Value → Value → World → Prop} [tz : TZ P t 1 by_ z] {σ : Q5} {v : Value} (hs : X6 w σ) (hz : z.cells.size = 1) (hc : v.cells = #[v]) (h1 : v.oneCell' = true)
    (h : ∀ a w' σ', Stp w σ w' σ' → U0 σ' a [v] → A (.pointer (some a)) undef w') : M0 P t w (fun p w => V5 P t p v w (fun u w => A p u w)) := by
  refine Sv hs fun b w1 hb hk hm => ?_
  have hl : z.cells.toList.length = 1 := by simpa using hz
  refine st0 hm (by omega) hc h1 fun w2 hu hm2 => ?_
  have hS : Stp w σ w2 σ := hu.stp hk hb hm.1
  have e : z.cells.toList.set 0 v = [v] := by
    match hzl : z.cells.toList, hl with
    | [x], _ => rfl
  rw [e] at hm2
  obtain ⟨σ', g1, g2, _⟩ := hm2.keep hS hb
  exact h _ _ _ g1 g2
theorem M8 {α : Type} {xs : List α} {p : α → Bool} {n : Nat} (h : n < xs.length) : (xs.take (n + 1)).any p = ((xs.take n).any p || p xs[n]) := by
  rw [List.take_add_one, List.getElem?_eq_getElem h, List.any_append]; simp
theorem R8 {α : Type} {xs : List α} {p : α → Bool} {n : Nat} (h : n < xs.length) (hp : p xs[n] = true) : xs.any p = true := List.any_eq_true.2 ⟨_, List.getElem_mem h, hp⟩
theorem D0 {α : Type} {xs : List α} {p : α → Bool} {n : Nat} (h : ¬ n < xs.length) : (xs.take n).any p = xs.any p := by rw [List.take_of_length_le (by omega)]
end Go.Emb

namespace Go.Hm
open Go.Kd
structure Fld where
  name : X0
  kind : X0
  tr : Bool
deriving DecidableEq
structure Ins where
  op : X0
  n : Int
  s : X0
deriving DecidableEq
structure Cat where
  frm : Int
  to : Int
  at_ : Int
  cls : X0
deriving DecidableEq
structure Met where
  name : X0
  params : List X0
  result : X0
  abs : Bool
  locals : Int
  code : List Ins
  catches : List Cat
deriving DecidableEq
structure Cla where
  name : X0
  super : X0
  like : List X0
  iface : Bool
  abs : Bool
  fin : Bool
  fields : List Fld
  methods : List Hm.Met
deriving DecidableEq
def Ins.zero : Ins := ⟨[], 0, []⟩
def Fld.zero : Fld := ⟨[], [], false⟩
def Met.zero : Hm.Met := ⟨[], [], [], false, 0, [], []⟩
def Cla.zero : Cla := ⟨[], [], [], false, false, false, [], []⟩
end Go.Hm

namespace Go.Emb
open Go.RowKit Go.Hm
abbrev Kp (n : Int) : Prop := -9223372036854775808 ≤ n ∧ n ≤ 9223372036854775807
def D7 (_ : Q5) (f : Fld) (cs : List Value) : Prop := cs = [S f.name, S f.kind, .bool f.tr] ∧ f.name.length ≤ W3 ∧ f.kind.length ≤ W3
def F4 (_ : Q5) (i : Ins) (cs : List Value) : Prop := cs = [S i.op, I i.n, S i.s] ∧ i.op.length ≤ W3 ∧ Kp i.n ∧ i.s.length ≤ W3
def Qs (_ : Q5) (c : Cat) (cs : List Value) : Prop := cs = [I c.frm, I c.to, I c.at_, S c.cls] ∧ Kp c.frm ∧ Kp c.to ∧ Kp c.at_ ∧ c.cls.length ≤ W3
def N0 (σ : Q5) (m : Hm.Met) (cs : List Value) : Prop := ∃ pv cv hv, cs = [S m.name, pv, S m.result, .bool m.abs, I m.locals, cv, hv] ∧ Sl 1 U5 σ pv m.params ∧ Sl 3 F4 σ cv m.code ∧ Sl 4 Qs σ hv m.catches ∧ m.name.length ≤ W3 ∧ m.result.length ≤ W3 ∧ Kp m.locals
def U7 (σ : Q5) (c : Cla) (cs : List Value) : Prop := ∃ lv fv mv, cs = [S c.name, S c.super, lv, .bool c.iface, .bool c.abs, .bool c.fin, fv, mv] ∧ Sl 1 U5 σ lv c.like ∧ Sl 3 D7 σ fv c.fields ∧ Sl 7 N0 σ mv c.methods ∧ c.name.length ≤ W3 ∧ c.super.length ≤ W3
theorem Qp {α : Type} {sz : Nat} {R : Q5 → α → List Value → Prop} {σ : Q5} {v : Value} {xs : List α} (h : Sl sz R σ v xs) : v.oneCell' = true := by
  obtain ⟨a, cap, rfl, _⟩ := h; rfl
instance : Rep D7 := ⟨fun _ h => h, fun h u hu => by rw [h.1] at hu; simp at hu; rcases hu with rfl | rfl | rfl <;> rfl⟩
instance : Rep F4 := ⟨fun _ h => h, fun h u hu => by rw [h.1] at hu; simp at hu; rcases hu with rfl | rfl | rfl <;> rfl⟩
instance : Rep Qs := ⟨fun _ h => h, fun h u hu => by rw [h.1] at hu; simp at hu; rcases hu with rfl | rfl | rfl | rfl <;> rfl⟩
instance : Rep N0 := ⟨fun hk ⟨pv, cv, hv, h1, h2, h3, h4, h5⟩ => ⟨pv, cv, hv, h1, h2.le hk, h3.le hk, h4.le hk, h5⟩, fun ⟨pv, cv, hv, h1, h2, h3, h4, h5⟩ u hu => by
  rw [h1] at hu; simp at hu; rcases hu with rfl | rfl | rfl | rfl | rfl | rfl | rfl
  · rfl
  · exact Qp h2
  · rfl
  · rfl
  · rfl
  · exact Qp h3
  · exact Qp h4⟩
instance : Rep U7 := ⟨fun hk ⟨pv, cv, hv, h1, h2, h3, h4, h5⟩ => ⟨pv, cv, hv, h1, h2.le hk, h3.le hk, h4.le hk, h5⟩, fun ⟨pv, cv, hv, h1, h2, h3, h4, h5⟩ u hu => by
  rw [h1] at hu; simp at hu; rcases hu with rfl | rfl | rfl | rfl | rfl | rfl | rfl | rfl
  · rfl
  · rfl
  · exact Qp h2
  · rfl
  · rfl
  · rfl
  · exact Qp h3
  · exact Qp h4⟩
end Go.Emb

namespace Go.Proofs.YtdnfaboigajkhaaGreatDoor
open Go.Emb
instance z_x : TZ P T.x 1 0 (.tuple #[]) := ⟨by kernel_rfl⟩
instance g_x : TG P T.x false := ⟨by kernel_rfl⟩
instance z_int64 : TZ P T.af 1 8 (.int .i64 0) := ⟨by kernel_rfl⟩
instance g_int64 : TG P T.af false := ⟨by kernel_rfl⟩
instance z_int : TZ P T.d 1 8 (.int .i64 0) := ⟨by kernel_rfl⟩
instance g_int : TG P T.d false := ⟨by kernel_rfl⟩
instance z_bool : TZ P T.l 1 1 (.bool false) := ⟨by kernel_rfl⟩
instance g_bool : TG P T.l false := ⟨by kernel_rfl⟩
instance z_uint8 : TZ P T.s 1 1 (.int .u8 0) := ⟨by kernel_rfl⟩
instance g_uint8 : TG P T.s false := ⟨by kernel_rfl⟩
instance z_string : TZ P T.b 1 16 (.string ⟨#[]⟩) := ⟨by kernel_rfl⟩
instance g_string : TG P T.b false := ⟨by kernel_rfl⟩
instance z_uintptr : TZ P T.ak 1 8 (.int .u64 0) := ⟨by kernel_rfl⟩
instance g_uintptr : TG P T.ak false := ⟨by kernel_rfl⟩
instance z_int32 : TZ P T.ac 1 4 (.int .i32 0) := ⟨by kernel_rfl⟩
instance g_int32 : TG P T.ac false := ⟨by kernel_rfl⟩
instance z_S_api_Class : TZ P T.g 1 24 (.slice none 0 0) := ⟨by kernel_rfl⟩
instance g_S_api_Class : TG P T.g false := ⟨by kernel_rfl⟩
instance s_S_api_Class : TS P T.g 57 := ⟨by kernel_rfl⟩
instance z_P_hier_Table : TZ P T.p 1 8 (.pointer none) := ⟨by kernel_rfl⟩
instance g_P_hier_Table : TG P T.p false := ⟨by kernel_rfl⟩
instance z_api_Errno : TZ P T.t 1 8 (.int .i64 0) := ⟨by kernel_rfl⟩
instance g_api_Errno : TG P T.t false := ⟨by kernel_rfl⟩
instance z_func_string_bool : TZ P T.u 1 8 .nilFunc := ⟨by kernel_rfl⟩
instance g_func_string_bool : TG P T.u false := ⟨by kernel_rfl⟩
instance z_A3_string : TZ P T.ah 3 48 (.agg #[.string ⟨#[]⟩, .string ⟨#[]⟩, .string ⟨#[]⟩]) := ⟨by kernel_rfl⟩
instance g_A3_string : TG P T.ah true := ⟨by kernel_rfl⟩
instance a_A3_string : TA P T.ah 3 9 := ⟨by kernel_rfl⟩
instance z_S_api_Field : TZ P T.h 1 24 (.slice none 0 0) := ⟨by kernel_rfl⟩
instance g_S_api_Field : TG P T.h false := ⟨by kernel_rfl⟩
instance s_S_api_Field : TS P T.h 45 := ⟨by kernel_rfl⟩
instance z_api_Field : TZ P T.i 3 40 (.agg #[.string ⟨#[]⟩, .string ⟨#[]⟩, .bool false]) := ⟨by kernel_rfl⟩
instance g_api_Field : TG P T.i true := ⟨by kernel_rfl⟩
instance f_api_Field_0 : TF P T.i 0 0 9 := ⟨by kernel_rfl⟩
instance f_api_Field_1 : TF P T.i 1 1 9 := ⟨by kernel_rfl⟩
instance f_api_Field_2 : TF P T.i 2 2 4 := ⟨by kernel_rfl⟩
instance z_S_string : TZ P T.f 1 24 (.slice none 0 0) := ⟨by kernel_rfl⟩
instance g_S_string : TG P T.f false := ⟨by kernel_rfl⟩
instance s_S_string : TS P T.f 9 := ⟨by kernel_rfl⟩
instance z_S_api_Instr : TZ P T.k 1 24 (.slice none 0 0) := ⟨by kernel_rfl⟩
instance g_S_api_Instr : TG P T.k false := ⟨by kernel_rfl⟩
instance s_S_api_Instr : TS P T.k 141 := ⟨by kernel_rfl⟩
instance z_S_api_Catch : TZ P T.j 1 24 (.slice none 0 0) := ⟨by kernel_rfl⟩
instance g_S_api_Catch : TG P T.j false := ⟨by kernel_rfl⟩
instance s_S_api_Catch : TS P T.j 123 := ⟨by kernel_rfl⟩
instance z_api_Method : TZ P T.c 7 120 (.agg #[.string ⟨#[]⟩, .slice none 0 0, .string ⟨#[]⟩, .bool false, .int .i64 0, .slice none 0 0, .slice none 0 0]) := ⟨by kernel_rfl⟩
instance g_api_Method : TG P T.c true := ⟨by kernel_rfl⟩
instance f_api_Method_0 : TF P T.c 0 0 9 := ⟨by kernel_rfl⟩
instance f_api_Method_1 : TF P T.c 1 1 46 := ⟨by kernel_rfl⟩
instance f_api_Method_2 : TF P T.c 2 2 9 := ⟨by kernel_rfl⟩
instance f_api_Method_3 : TF P T.c 3 3 4 := ⟨by kernel_rfl⟩
instance f_api_Method_4 : TF P T.c 4 4 3 := ⟨by kernel_rfl⟩
instance f_api_Method_5 : TF P T.c 5 5 47 := ⟨by kernel_rfl⟩
instance f_api_Method_6 : TF P T.c 6 6 48 := ⟨by kernel_rfl⟩
instance z_S_api_Method : TZ P T.e 1 24 (.slice none 0 0) := ⟨by kernel_rfl⟩
instance g_S_api_Method : TG P T.e false := ⟨by kernel_rfl⟩
instance s_S_api_Method : TS P T.e 50 := ⟨by kernel_rfl⟩
instance z_api_Class : TZ P T.a 8 112 (.agg #[.string ⟨#[]⟩, .string ⟨#[]⟩, .slice none 0 0, .bool false, .bool false, .bool false, .slice none 0 0, .slice none 0 0]) := ⟨by kernel_rfl⟩
instance g_api_Class : TG P T.a true := ⟨by kernel_rfl⟩
instance f_api_Class_0 : TF P T.a 0 0 9 := ⟨by kernel_rfl⟩
instance f_api_Class_1 : TF P T.a 1 1 9 := ⟨by kernel_rfl⟩
instance f_api_Class_2 : TF P T.a 2 2 46 := ⟨by kernel_rfl⟩
instance f_api_Class_3 : TF P T.a 3 3 4 := ⟨by kernel_rfl⟩
instance f_api_Class_4 : TF P T.a 4 4 4 := ⟨by kernel_rfl⟩
instance f_api_Class_5 : TF P T.a 5 5 4 := ⟨by kernel_rfl⟩
instance f_api_Class_6 : TF P T.a 6 6 39 := ⟨by kernel_rfl⟩
instance f_api_Class_7 : TF P T.a 7 7 55 := ⟨by kernel_rfl⟩
instance z_func_string_string : TZ P T.a2 1 8 .nilFunc := ⟨by kernel_rfl⟩
instance g_func_string_string : TG P T.a2 false := ⟨by kernel_rfl⟩
instance z_func_api_Method_string : TZ P T.z 1 8 .nilFunc := ⟨by kernel_rfl⟩
instance g_func_api_Method_string : TG P T.z false := ⟨by kernel_rfl⟩
instance z_M_string_int : TZ P T.r 1 8 (.map none) := ⟨by kernel_rfl⟩
instance g_M_string_int : TG P T.r false := ⟨by kernel_rfl⟩
instance m_M_string_int : TM P T.r 9 3 := ⟨by kernel_rfl⟩
instance z_hier_Table : TZ P T.q 2 32 (.agg #[.slice none 0 0, .map none]) := ⟨by kernel_rfl⟩
instance g_hier_Table : TG P T.q true := ⟨by kernel_rfl⟩
instance f_hier_Table_0 : TF P T.q 0 0 22 := ⟨by kernel_rfl⟩
instance f_hier_Table_1 : TF P T.q 1 1 67 := ⟨by kernel_rfl⟩
instance z_S_int : TZ P T.v 1 24 (.slice none 0 0) := ⟨by kernel_rfl⟩
instance g_S_int : TG P T.v false := ⟨by kernel_rfl⟩
instance s_S_int : TS P T.v 3 := ⟨by kernel_rfl⟩
instance z_S_S_bool : TZ P T.y 1 24 (.slice none 0 0) := ⟨by kernel_rfl⟩
instance g_S_S_bool : TG P T.y false := ⟨by kernel_rfl⟩
instance s_S_S_bool : TS P T.y 80 := ⟨by kernel_rfl⟩
instance z_S_bool : TZ P T.w 1 24 (.slice none 0 0) := ⟨by kernel_rfl⟩
instance g_S_bool : TG P T.w false := ⟨by kernel_rfl⟩
instance s_S_bool : TS P T.w 4 := ⟨by kernel_rfl⟩
instance z_func_api_Field_bool : TZ P T.a6 1 8 .nilFunc := ⟨by kernel_rfl⟩
instance g_func_api_Field_bool : TG P T.a6 false := ⟨by kernel_rfl⟩
instance z_A6_string : TZ P T.ad 6 96 (.agg #[.string ⟨#[]⟩, .string ⟨#[]⟩, .string ⟨#[]⟩, .string ⟨#[]⟩, .string ⟨#[]⟩, .string ⟨#[]⟩]) := ⟨by kernel_rfl⟩
instance g_A6_string : TG P T.ad true := ⟨by kernel_rfl⟩
instance a_A6_string : TA P T.ad 6 9 := ⟨by kernel_rfl⟩
instance z_func_int : TZ P T.ae 1 8 .nilFunc := ⟨by kernel_rfl⟩
instance g_func_int : TG P T.ae false := ⟨by kernel_rfl⟩
instance z_M_string_string : TZ P T.o 1 8 (.map none) := ⟨by kernel_rfl⟩
instance g_M_string_string : TG P T.o false := ⟨by kernel_rfl⟩
instance m_M_string_string : TM P T.o 9 9 := ⟨by kernel_rfl⟩
instance z_func_api_Method_bool : TZ P T.a4 1 8 .nilFunc := ⟨by kernel_rfl⟩
instance g_func_api_Method_bool : TG P T.a4 false := ⟨by kernel_rfl⟩
instance g_strings_asciiSet : TG P T.a1 true := ⟨by kernel_rfl⟩
instance a_strings_asciiSet : TA P T.a1 256 4 := ⟨by kernel_rfl⟩
instance z_api_Catch : TZ P T.m 4 40 (.agg #[.int .i64 0, .int .i64 0, .int .i64 0, .string ⟨#[]⟩]) := ⟨by kernel_rfl⟩
instance g_api_Catch : TG P T.m true := ⟨by kernel_rfl⟩
instance f_api_Catch_0 : TF P T.m 0 0 3 := ⟨by kernel_rfl⟩
instance f_api_Catch_1 : TF P T.m 1 1 3 := ⟨by kernel_rfl⟩
instance f_api_Catch_2 : TF P T.m 2 2 3 := ⟨by kernel_rfl⟩
instance f_api_Catch_3 : TF P T.m 3 3 9 := ⟨by kernel_rfl⟩
instance z_S_uint8 : TZ P T.ai 1 24 (.slice none 0 0) := ⟨by kernel_rfl⟩
instance g_S_uint8 : TG P T.ai false := ⟨by kernel_rfl⟩
instance s_S_uint8 : TS P T.ai 5 := ⟨by kernel_rfl⟩
instance z_strings_Builder : TZ P T.aa 2 32 (.agg #[.pointer none, .slice none 0 0]) := ⟨by kernel_rfl⟩
instance g_strings_Builder : TG P T.aa true := ⟨by kernel_rfl⟩
instance f_strings_Builder_0 : TF P T.aa 0 0 124 := ⟨by kernel_rfl⟩
instance f_strings_Builder_1 : TF P T.aa 1 1 125 := ⟨by kernel_rfl⟩
instance z_func_api_Field_string : TZ P T.a0 1 8 .nilFunc := ⟨by kernel_rfl⟩
instance g_func_api_Field_string : TG P T.a0 false := ⟨by kernel_rfl⟩
instance z_api_Instr : TZ P T.n 3 40 (.agg #[.string ⟨#[]⟩, .int .i64 0, .string ⟨#[]⟩]) := ⟨by kernel_rfl⟩
instance g_api_Instr : TG P T.n true := ⟨by kernel_rfl⟩
instance f_api_Instr_0 : TF P T.n 0 0 9 := ⟨by kernel_rfl⟩
instance f_api_Instr_1 : TF P T.n 1 1 2 := ⟨by kernel_rfl⟩
instance f_api_Instr_2 : TF P T.n 2 2 9 := ⟨by kernel_rfl⟩
instance z_P_uint8 : TZ P T.al 1 8 (.pointer none) := ⟨by kernel_rfl⟩
instance g_P_uint8 : TG P T.al false := ⟨by kernel_rfl⟩
instance z_func_api_Catch_bool : TZ P T.a7 1 8 .nilFunc := ⟨by kernel_rfl⟩
instance g_func_api_Catch_bool : TG P T.a7 false := ⟨by kernel_rfl⟩
instance z_func_api_Instr_bool : TZ P T.a8 1 8 .nilFunc := ⟨by kernel_rfl⟩
instance g_func_api_Instr_bool : TG P T.a8 false := ⟨by kernel_rfl⟩
instance z_code_op : TZ P T.a3 3 24 (.agg #[.string ⟨#[]⟩, .bool false, .bool false]) := ⟨by kernel_rfl⟩
instance g_code_op : TG P T.a3 true := ⟨by kernel_rfl⟩
instance f_code_op_0 : TF P T.a3 0 0 9 := ⟨by kernel_rfl⟩
instance f_code_op_1 : TF P T.a3 1 1 4 := ⟨by kernel_rfl⟩
instance f_code_op_2 : TF P T.a3 2 2 4 := ⟨by kernel_rfl⟩
instance g_A42_code_op : TG P T.a5 true := ⟨by kernel_rfl⟩
instance a_A42_code_op : TA P T.a5 42 170 := ⟨by kernel_rfl⟩
instance g_A256_uint8 : TG P T.aj true := ⟨by kernel_rfl⟩
instance a_A256_uint8 : TA P T.aj 256 5 := ⟨by kernel_rfl⟩
instance z_utf8_acceptRange : TZ P T.a9 2 2 (.agg #[.int .u8 0, .int .u8 0]) := ⟨by kernel_rfl⟩
instance g_utf8_acceptRange : TG P T.a9 true := ⟨by kernel_rfl⟩
instance f_utf8_acceptRange_0 : TF P T.a9 0 0 5 := ⟨by kernel_rfl⟩
instance f_utf8_acceptRange_1 : TF P T.a9 1 1 5 := ⟨by kernel_rfl⟩
instance z_A16_utf8_acceptRange : TZ P T.ab 32 32 (.agg #[.int .u8 0, .int .u8 0, .int .u8 0, .int .u8 0, .int .u8 0, .int .u8 0, .int .u8 0, .int .u8 0, .int .u8 0, .int .u8 0, .int .u8 0, .int .u8 0, .int .u8 0, .int .u8 0, .int .u8 0, .int .u8 0, .int .u8 0, .int .u8 0, .int .u8 0, .int .u8 0, .int .u8 0, .int .u8 0, .int .u8 0, .int .u8 0, .int .u8 0, .int .u8 0, .int .u8 0, .int .u8 0, .int .u8 0, .int .u8 0, .int .u8 0, .int .u8 0]) := ⟨by kernel_rfl⟩
instance g_A16_utf8_acceptRange : TG P T.ab true := ⟨by kernel_rfl⟩
instance a_A16_utf8_acceptRange : TA P T.ab 16 179 := ⟨by kernel_rfl⟩
instance z_S_code_op : TZ P T.ag 1 24 (.slice none 0 0) := ⟨by kernel_rfl⟩
instance g_S_code_op : TG P T.ag false := ⟨by kernel_rfl⟩
instance s_S_code_op : TS P T.ag 170 := ⟨by kernel_rfl⟩
instance z_uint64 : TZ P T.am 1 8 (.int .u64 0) := ⟨by kernel_rfl⟩
instance g_uint64 : TG P T.am false := ⟨by kernel_rfl⟩
instance z_uint32 : TZ P T.an 1 4 (.int .u32 0) := ⟨by kernel_rfl⟩
instance g_uint32 : TG P T.an false := ⟨by kernel_rfl⟩
end Go.Proofs.YtdnfaboigajkhaaGreatDoor

namespace Go.Emb
theorem aS {p : Prop} (h : p := by (first | assumption | exact Stp.sat (by assumption) | exact Hst.sat (by assumption))) : p := h
theorem aL {p : Prop} (h : p := by (first | assumption | exact Sl.lift (by assumption) (by (repeat (first | exact SLe.refl _ | refine SLe.more ?_ (by assumption) | refine SLe.more ?_ (Nxt.le (by assumption)) | refine SLe.step ?_ (by assumption)))) | exact U0.lift (by assumption) (by (repeat (first | exact SLe.refl _ | refine SLe.more ?_ (by assumption) | refine SLe.more ?_ (Nxt.le (by assumption)) | refine SLe.step ?_ (by assumption)))) | exact P6.lift (by assumption) (by (repeat (first | exact SLe.refl _ | refine SLe.more ?_ (by assumption) | refine SLe.more ?_ (Nxt.le (by assumption)) | refine SLe.step ?_ (by assumption)))) | exact H2 (by assumption) (by (repeat (first | exact SLe.refl _ | refine SLe.more ?_ (by assumption) | refine SLe.more ?_ (Nxt.le (by assumption)) | refine SLe.step ?_ (by assumption)))) | exact S3 (by assumption) (by (repeat (first | exact SLe.refl _ | refine SLe.more ?_ (by assumption) | refine SLe.more ?_ (Nxt.le (by assumption)) | refine SLe.step ?_ (by assumption)))) | exact Glb.lift (by assumption) (by (repeat (first | exact SLe.refl _ | refine SLe.more ?_ (by assumption) | refine SLe.more ?_ (Nxt.le (by assumption)) | refine SLe.step ?_ (by assumption)))) | exact Tab.lift (by assumption) (by (repeat (first | exact SLe.refl _ | refine SLe.more ?_ (by assumption) | refine SLe.more ?_ (Nxt.le (by assumption)) | refine SLe.step ?_ (by assumption)))) | exact Q0U (by assumption) | exact Q0O (by assumption) | exact Q0W (by assumption))) : p := h
theorem aR {p : Prop} (h : p := by with_unfolding_all rfl) : p := h
theorem au {p : Prop} (h : p := by (first | assumption | (first | assumption | exact Stp.sat (by assumption) | exact Hst.sat (by assumption)) | (first | assumption | exact Sl.lift (by assumption) (by (repeat (first | exact SLe.refl _ | refine SLe.more ?_ (by assumption) | refine SLe.more ?_ (Nxt.le (by assumption)) | refine SLe.step ?_ (by assumption)))) | exact U0.lift (by assumption) (by (repeat (first | exact SLe.refl _ | refine SLe.more ?_ (by assumption) | refine SLe.more ?_ (Nxt.le (by assumption)) | refine SLe.step ?_ (by assumption)))) | exact P6.lift (by assumption) (by (repeat (first | exact SLe.refl _ | refine SLe.more ?_ (by assumption) | refine SLe.more ?_ (Nxt.le (by assumption)) | refine SLe.step ?_ (by assumption)))) | exact H2 (by assumption) (by (repeat (first | exact SLe.refl _ | refine SLe.more ?_ (by assumption) | refine SLe.more ?_ (Nxt.le (by assumption)) | refine SLe.step ?_ (by assumption)))) | exact S3 (by assumption) (by (repeat (first | exact SLe.refl _ | refine SLe.more ?_ (by assumption) | refine SLe.more ?_ (Nxt.le (by assumption)) | refine SLe.step ?_ (by assumption)))) | exact Glb.lift (by assumption) (by (repeat (first | exact SLe.refl _ | refine SLe.more ?_ (by assumption) | refine SLe.more ?_ (Nxt.le (by assumption)) | refine SLe.step ?_ (by assumption)))) | exact Tab.lift (by assumption) (by (repeat (first | exact SLe.refl _ | refine SLe.more ?_ (by assumption) | refine SLe.more ?_ (Nxt.le (by assumption)) | refine SLe.step ?_ (by assumption)))) | exact Q0U (by assumption) | exact Q0O (by assumption) | exact Q0W (by assumption)) | exact Nat.le_trans (by assumption) (by decide) | omega)) : p := h
end Go.Emb
namespace Go.Proofs.YtdnfaboigajkhaaGreatDoor
open Go.Emb
theorem Q9n {a : List UInt8} {cs : List Bool} {r : TypeId} {w : World} {K : Value → World → Prop} : X4 P .len [T.b] r cs [S a] w K = K (I a.length) w := D2 X7
theorem Q9I {ox oy : Operand} {a b : Bool} {w : World} {K : Value → World → Prop} : Q3 P .eql T.l ox oy (.bool a) (.bool b) w K = K (.bool (a == b)) w := Q2D Jb
theorem Q9u {ox oy : Operand} {a b : Bool} {w : World} {K : Value → World → Prop} : Q3 P .neq T.l ox oy (.bool a) (.bool b) w K = K (.bool (!(a == b))) w := Q2t Jb
def Mm := And.intro @fa <| And.intro @H3 <| And.intro @Xa <| And.intro @Q9n <| And.intro @Q9I @Q9u
end Go.Proofs.YtdnfaboigajkhaaGreatDoor

namespace Go.Proofs.YtdnfaboigajkhaaGreatDoor
open Go.Emb Go.RowKit Go.Kd Go.Hm
variable {w : World} {K : Value → World → Prop} {σ : Q5}
def Ji (m : Hm.Met) : Bool := decide (32 < m.params.length) || decide (32 < m.catches.length) || decide (200 < m.code.length) || decide (64 < m.locals)
def Xd (c : Cla) : Bool := c.methods.any Ji || decide (32 < c.like.length) || decide (32 < c.fields.length) || decide (32 < c.methods.length)
theorem Q98 {c : Cla} {cs : List Value} (hs : X6 w σ) (hc : U7 σ c cs) (h : ∀ w', Below w.heap.size w w' → K (.bool (Xd c)) w') : Q1 P F.c7 [.agg cs.toArray] w K := Q3e (by
  obtain ⟨lv, fv, mv, rfl, hl, hf, hm, hn, hsu⟩ := hc
  unfold Pg
  refine N3 hs fun a w1 σ1 hk ha => ?_
  have hs := hk.sat
  replace hl := hl.up hk
  replace hf := hf.up hk
  replace hm := hm.up hk
  simp only [Value.cells] at ha
  ((try simp only [↓Mm, Mm, ↓Mr, Mr, Mb, reduceIte]); repeat ((first | refine ld (by assumption) (by assumption) rfl ?_ | refine X8 (by assumption) (by assumption) rfl ?_ | refine Q6 (by assumption) ?_); (try simp only [↓Mm, Mm, ↓Mr, Mr, Mb, reduceIte])))
  refine V1 c.methods.length (fun n w' => Below w1.heap.size w1 w' ∧ ((c.methods.take n).any Ji) = false) ⟨Below.refl _ _, by simp⟩ fun n w2 d hn hi => ?_
  obtain ⟨hb, hp⟩ := hi
  have hs2 := hs.below hb
  ((try simp only [↓Mm, Mm, ↓Mr, Mr, Mb, reduceIte]); repeat ((first | refine ld (by assumption) (by assumption) rfl ?_ | refine X8 (by assumption) (by assumption) rfl ?_ | refine Q6 (by assumption) ?_); (try simp only [↓Mm, Mm, ↓Mr, Mr, Mb, reduceIte])))
  refine Q4 (fun hc => ?_) (fun hc => ?_)
  · have hn' : n < c.methods.length := by simpa using hc
    refine L2 hm hn' fun p cs hl1 hlen hr => ?_
    refine Y3 hs2 hl1 hlen ?_
    refine Y0 hs2 (by rfl) hlen (Rep.one hr) fun q w3 σ3 hk3 hq => ?_
    obtain ⟨pv, cv, hv, rfl, g1, g2, g3, g4⟩ := hr
    have hs3 := hk3.sat
    replace g1 := g1.up hk3
    replace g2 := g2.up hk3
    replace g3 := g3.up hk3
    ((try simp only [↓Mm, Mm, ↓Mr, Mr, Mb, reduceIte]); repeat ((first | refine ld (by assumption) (by assumption) rfl ?_ | refine X8 (by assumption) (by assumption) rfl ?_ | refine Q6 (by assumption) ?_); (try simp only [↓Mm, Mm, ↓Mr, Mr, Mb, reduceIte])))
    (repeat' ((first | refine Y2 (fun hh => ?_) (fun hh => ?_) | refine Q4 (fun hh => ?_) (fun hh => ?_)) <;> (try simp only [hh, Bool.not_true, Bool.not_false, ↓Mm, Mm, ↓Mr, Mr, Mb, reduceIte]) <;> ((try simp only [↓Mm, Mm, ↓Mr, Mr, Mb, reduceIte]); repeat ((first | refine ld (by assumption) (by assumption) rfl ?_ | refine X8 (by assumption) (by assumption) rfl ?_ | refine Q6 (by assumption) ?_); (try simp only [↓Mm, Mm, ↓Mr, Mr, Mb, reduceIte])))))
    all_goals first
      | refine Y5 hm.max hn' ⟨bt hb hk3.bel, ?_⟩
        rw [M8 hn', hp]; simp only [Ji]; (first | (simp only [decide_eq_true_eq, decide_eq_false_iff_not, Bool.not_true, Bool.not_false, Bool.not_eq_true', Bool.not_eq_false', Bool.or_eq_true, Bool.and_eq_true, Bool.or_eq_false_iff, Bool.and_eq_false_iff, Bool.false_or, Bool.true_and, Bool.or_false, Bool.and_true] at *; first | omega | (and_intros <;> omega)) | (rw [Bool.eq_iff_iff]; (simp only [decide_eq_true_eq, decide_eq_false_iff_not, Bool.not_true, Bool.not_false, Bool.not_eq_true', Bool.not_eq_false', Bool.or_eq_true, Bool.and_eq_true, Bool.or_eq_false_iff, Bool.and_eq_false_iff, Bool.false_or, Bool.true_and, Bool.or_false, Bool.and_true] at *; first | omega | (and_intros <;> omega))))
      | have e : Xd c = true := by
          have : Ji c.methods[n] = true := by simp only [Ji]; (first | (simp only [decide_eq_true_eq, decide_eq_false_iff_not, Bool.not_true, Bool.not_false, Bool.not_eq_true', Bool.not_eq_false', Bool.or_eq_true, Bool.and_eq_true, Bool.or_eq_false_iff, Bool.and_eq_false_iff, Bool.false_or, Bool.true_and, Bool.or_false, Bool.and_true] at *; first | omega | (and_intros <;> omega)) | (rw [Bool.eq_iff_iff]; (simp only [decide_eq_true_eq, decide_eq_false_iff_not, Bool.not_true, Bool.not_false, Bool.not_eq_true', Bool.not_eq_false', Bool.or_eq_true, Bool.and_eq_true, Bool.or_eq_false_iff, Bool.and_eq_false_iff, Bool.false_or, Bool.true_and, Bool.or_false, Bool.and_true] at *; first | omega | (and_intros <;> omega))))
          simp [Xd, R8 hn' this]
        rw [← e]; exact h _ (bt hk.bel (bt hb hk3.bel))
  · have hn' : ¬ n < c.methods.length := by simpa using hc
    rw [D0 hn'] at hp
    have h := h w2 (bt hk.bel hb)
    ((try simp only [↓Mm, Mm, ↓Mr, Mr, Mb, reduceIte]); repeat ((first | refine ld (by assumption) (by assumption) rfl ?_ | refine X8 (by assumption) (by assumption) rfl ?_ | refine Q6 (by assumption) ?_); (try simp only [↓Mm, Mm, ↓Mr, Mr, Mb, reduceIte])))
    (repeat' ((first | refine Y2 (fun hh => ?_) (fun hh => ?_) | refine Q4 (fun hh => ?_) (fun hh => ?_)) <;> (try simp only [hh, Bool.not_true, Bool.not_false, ↓Mm, Mm, ↓Mr, Mr, Mb, reduceIte]) <;> ((try simp only [↓Mm, Mm, ↓Mr, Mr, Mb, reduceIte]); repeat ((first | refine ld (by assumption) (by assumption) rfl ?_ | refine X8 (by assumption) (by assumption) rfl ?_ | refine Q6 (by assumption) ?_); (try simp only [↓Mm, Mm, ↓Mr, Mr, Mb, reduceIte])))))
    all_goals
      refine Eq.subst (motive := fun b => K (.bool b) w2) ?_ h
      simp only [Xd, hp]
      (first | (simp only [decide_eq_true_eq, decide_eq_false_iff_not, Bool.not_true, Bool.not_false, Bool.not_eq_true', Bool.not_eq_false', Bool.or_eq_true, Bool.and_eq_true, Bool.or_eq_false_iff, Bool.and_eq_false_iff, Bool.false_or, Bool.true_and, Bool.or_false, Bool.and_true] at *; first | omega | (and_intros <;> omega)) | (rw [Bool.eq_iff_iff]; (simp only [decide_eq_true_eq, decide_eq_false_iff_not, Bool.not_true, Bool.not_false, Bool.not_eq_true', Bool.not_eq_false', Bool.or_eq_true, Bool.and_eq_true, Bool.or_eq_false_iff, Bool.and_eq_false_iff, Bool.false_or, Bool.true_and, Bool.or_false, Bool.and_true] at *; first | omega | (and_intros <;> omega)))))
end Go.Proofs.YtdnfaboigajkhaaGreatDoor

namespace Go.Emb
open Go.RowKit Go.Hm
variable {H : Type} {enc : TypeId × Value → H} {P : Program} {W : World} {t : TypeId} {cs : List Value} {fuel : Nat} {x : DataW H × List MemPlace}
def I6 (W : World) : Q5 := fun b => W.heap[b]?
theorem Q6s : X6 W (I6 W) := fun b o h => h
def Wt (P : Program) (t : TypeId) (d : DataW H) : Prop := ∀ n ∈ d.weights P t, n ≤ reachBytes
theorem Q8y {a : Addr} {n : Nat} (h : W.cells? 0 a n = some cs) (hn : 0 < n) : cs.length = n ∧ U0 (I6 W) a cs := by
  obtain ⟨_, h1, h2⟩ := World.cells?_some h
  refine ⟨h1, ?_⟩
  have key : ∀ i v, cs[i]? = some v → ∃ D6 e fr, W.heap[a.block]? = some (.cells D6 e fr) ∧ (a.add i).spot = none ∧ D6[a.off + i]? = some v := by
    intro i v hv
    have hi : i < cs.length := (List.getElem?_eq_some_iff.1 hv).1
    have h3 := h2 i (by omega)
    rw [hv] at h3
    unfold World.cell? at h3
    rw [R6, Qx] at h3
    cases hb : W.heap[a.block]? with
    | none => rw [hb] at h3; cases h3
    | some o =>
      rw [hb] at h3
      cases o with
      | cells D6 e fr =>
        simp only at h3
        split at h3
        · cases h3
        · rename_i hs
          exact ⟨D6, e, fr, rfl, by simpa using hs, h3⟩
      | _ => cases h3
  cases hc : cs with
  | nil => subst hc; simp at h1; omega
  | cons c r =>
    obtain ⟨D6, e, fr, g1, g2, g3⟩ := key 0 c (by rw [hc]; rfl)
    refine ⟨by simpa [Addr.add] using g2, D6, e, fr, g1, fun i v hv => ?_⟩
    obtain ⟨arr', e', fr', k1, k2, k3⟩ := key i v (by rw [hc]; exact hv)
    rw [g1] at k1
    injection k1 with k1
    injection k1 with k1
    subst k1
    exact k3
theorem Zx (hu : P.underlying t = some .string) (h : DataW.trod enc P W 0 (fun _ => true) true fuel t cs = some x) (hw : Wt P t x.1) : ∃ s : Kd.X0, cs = [S s] ∧ s.length ≤ W3 := by
  obtain ⟨⟨⟨s⟩⟩, rfl, rfl, _⟩ := DataW.trod_string hu h
  refine ⟨s, rfl, ?_⟩
  have := hw s.length (by simp [DataW.weights])
  exact this
theorem Sd (hu : P.underlying t = some .bool) (h : DataW.trod enc P W 0 (fun _ => true) true fuel t cs = some x) : ∃ b, cs = [.bool b] := by
  obtain ⟨b, h1, _⟩ := DataW.trod_bool hu h; exact ⟨b, h1⟩
theorem Ky (hu : P.underlying t = some (.int .i64)) (h : DataW.trod enc P W 0 (fun _ => true) true fuel t cs = some x) : ∃ n, cs = [I n] ∧ Kp n := by
  obtain ⟨n, h1, _, h2⟩ := DataW.trod_int hu h
  refine ⟨n, h1, ?_⟩
  simp only [Lit.wf, Bool.and_eq_true, decide_eq_true_eq] at h2
  exact ⟨h2.1, h2.2⟩
theorem Q8w {α : Type} {Q : Nat → α → Prop} : ∀ (n : Nat), (∀ i, i < n → ∃ y, Q i y) → ∃ xs : List α, xs.length = n ∧ ∀ i y, xs[i]? = some y → Q i y := by
  intro n
  induction n with
  | zero => intro _; exact ⟨[], rfl, by simp⟩
  | succ n ih =>
    intro h
    obtain ⟨xs, h1, h2⟩ := ih fun i hi => h i (by omega)
    obtain ⟨y, hy⟩ := h n (by omega)
    refine ⟨xs ++ [y], by simp [h1], fun i z hz => ?_⟩
    by_cases hi : i < xs.length
    · rw [List.getElem?_append_left hi] at hz; exact h2 i z hz
    · rw [List.getElem?_append_right (by omega)] at hz
      have : i - xs.length = 0 := by
        have := (List.getElem?_eq_some_iff.1 hz).1
        simp at this; omega
      rw [this] at hz
      simp at hz
      subst hz
      rw [show i = n by omega]; exact hy
theorem Q8Q {e : TypeId} {d : DataW H} : ∀ {l : List (DataW H)}, d ∈ l → ∀ n ∈ d.weights P e, n ∈ DataW.weightsAll P e l := by
  intro l
  induction l with
  | nil => intro h; simp at h
  | cons a r ih =>
    intro h n hn
    simp only [DataW.weightsAll, List.mem_append]
    rcases List.mem_cons.1 h with rfl | h
    · exact .inl hn
    · exact .inr (ih h n hn)
theorem Bf {α : Type} {R : Q5 → α → List Value → Prop} {e : TypeId} {sz : Nat} (hu : P.underlying t = some (.slice e)) (hc : P.cellsOf e = sz) (hz : 0 < sz)
    (hel : ∀ fuel cs (x : DataW H × List MemPlace), DataW.trod enc P W 0 (fun _ => true) true fuel e cs = some x → Wt P e x.1 → ∃ y, R (I6 W) y cs)
    (h : DataW.trod enc P W 0 (fun _ => true) true fuel t cs = some x) (hw : Wt P t x.1) : ∃ v xs, cs = [v] ∧ Sl sz R (I6 W) v xs := by
  rcases DataW.trod_slice hu h with ⟨rfl, rfl⟩ | ⟨a, len, cap, elems, rest, n, _, rfl, rfl, _, hl, hm, hel2, hget, _⟩
  · exact ⟨_, [], rfl, Sl.nil⟩
  subst hc
  have step : ∀ i, i < len → ∃ y, ∃ cs', U0 (I6 W) (a.add (i * P.cellsOf e)) cs' ∧ cs'.length = P.cellsOf e ∧ R (I6 W) y cs' := by
    intro i hi
    have h1 := hget i hi
    have hi2 : i < elems.length := by omega
    rw [List.getElem?_eq_getElem hi2] at h1
    obtain ⟨cs', h2, h3⟩ := Option.bind_eq_some_iff.1 h1
    obtain ⟨h4, h5⟩ := Q8y h2 hz
    obtain ⟨y, hy⟩ := hel n cs' _ h3 (fun m hm => hw m (by
      simp only [DataW.weights, hu, List.mem_cons, List.mem_append]
      exact .inr (.inl (Q8Q (List.mem_map.2 ⟨_, List.getElem_mem hi2, rfl⟩) m hm))))
    exact ⟨y, cs', h5, h4, hy⟩
  obtain ⟨xs, hx1, hx2⟩ := Q8w len step
  refine ⟨_, xs, rfl, some a, cap, by rw [hx1], by rw [hx1]; exact hl, hm, by simp, fun b hb => ?_⟩
  cases hb
  refine ⟨fun h0 => ?_, fun i y hy => hx2 i y hy⟩
  obtain ⟨y, hy⟩ : ∃ y, xs[0]? = some y := ⟨xs[0], List.getElem?_eq_getElem h0⟩
  obtain ⟨cs', h5, _, _⟩ := hx2 0 y hy
  have := h5.1
  simpa [Addr.add] using this
theorem Q8b : ∀ {ts : List TypeId} {l : List (DataW H)} {i : Nat} {u : TypeId} {d : DataW H}, ts[i]? = some u → l[i]? = some d → ∀ n ∈ d.weights P u, n ∈ DataW.weightsEach P ts l :=
  fun h1 h2 n hn => DataW.weights_mem_each h1 h2 n hn
theorem M2 {fs : Array Field} (hu : P.underlying t = some (.struct fs)) (h : DataW.trod enc P W 0 (fun _ => true) true fuel t cs = some x) (hw : Wt P t x.1) (i : Nat) {o : Nat} {ft : TypeId}
    (hf : (fs[i]?).map (fun f => (f.type, f.offset)) = some (ft, o)) (hc : P.cellsOf ft = 1) : ∃ n y, DataW.trod enc P W 0 (fun _ => true) true n ft ((cs.drop o).take 1) = some y ∧ Wt P ft y.1 := by
  obtain ⟨xs, n, _, rfl, h1, h2, h3⟩ := DataW.trod_struct hu h
  obtain ⟨f, hf', he⟩ := Option.map_eq_some_iff.1 hf
  cases he
  have h4 := h3 i f hf'
  have hi : i < xs.length := by rw [h2]; exact (Array.getElem?_eq_some_iff.1 hf').1
  rw [List.getElem?_eq_getElem hi, hc] at h4
  refine ⟨n, _, h4, fun m hm => hw m ?_⟩
  simp only [DataW.weights, hu]
  exact Q8b (i := i) (u := f.type) (by rw [List.getElem?_map, Array.getElem?_toList, hf']; rfl) (by rw [List.getElem?_map, List.getElem?_eq_getElem hi]; rfl) m hm
theorem Pc {fs : Array Field} {k : Nat} (hu : P.underlying t = some (.struct fs)) (hk : P.cellsOf t = k) (h : DataW.trod enc P W 0 (fun _ => true) true fuel t cs = some x) : cs.length = k := by
  obtain ⟨_, _, _, _, h1, _, _⟩ := DataW.trod_struct hu h
  rw [h1, hk]
theorem Q26 {α : Type} {l : List α} (h : l.length = 3) : ∃ a b c, l = [a, b, c] := by
  match l, h with
  | [a, b, c], _ => exact ⟨a, b, c, rfl⟩
theorem Q9E {α : Type} {l : List α} (h : l.length = 4) : ∃ a b c d, l = [a, b, c, d] := by
  match l, h with
  | [a, b, c, d], _ => exact ⟨a, b, c, d, rfl⟩
theorem Q9s {α : Type} {l : List α} (h : l.length = 7) : ∃ a b c d e f g, l = [a, b, c, d, e, f, g] := by
  match l, h with
  | [a, b, c, d, e, f, g], _ => exact ⟨a, b, c, d, e, f, g, rfl⟩
theorem Q9A {α : Type} {l : List α} (h : l.length = 8) : ∃ a b c d e f g i, l = [a, b, c, d, e, f, g, i] := by
  match l, h with
  | [a, b, c, d, e, f, g, i], _ => exact ⟨a, b, c, d, e, f, g, i, rfl⟩
end Go.Emb
namespace Go.Proofs.YtdnfaboigajkhaaGreatDoor
open Go.Emb Go.RowKit Go.Kd Go.Hm
variable {H : Type} {enc : TypeId × Value → H} {W : World} {cs : List Value} {fuel : Nat} {x : DataW H × List MemPlace}
def Q9o : Array Field := #[⟨"Name", T.b, 0, false, "", "", 0⟩, ⟨"Kind", T.b, 1, false, "", "", 16⟩, ⟨"Transient", T.l, 2, false, "", "", 32⟩]
theorem Q2c : P.underlying T.i = some (.struct Q9o) := by kernel_rfl
theorem S7 : P.cellsOf T.b = 1 := by kernel_rfl
theorem Ro : P.cellsOf T.l = 1 := by kernel_rfl
theorem Q28 : P.cellsOf T.d = 1 := by kernel_rfl
theorem Q8N (h : DataW.trod enc P W 0 (fun _ => true) true fuel T.i cs = some x) (hw : Wt P T.i x.1) : ∃ y, D7 (I6 W) y cs := by
  obtain ⟨c0, c1, c2, rfl⟩ := Q26 (Pc Q2c (by kernel_rfl) h)
  obtain ⟨_, _, k0, w0⟩ := M2 (o := 0) Q2c h hw 0 rfl S7
  obtain ⟨_, _, k1, w1⟩ := M2 (o := 1) Q2c h hw 1 rfl S7
  obtain ⟨_, _, k2, w2⟩ := M2 (o := 2) Q2c h hw 2 rfl Ro
  obtain ⟨s0, q0, r0⟩ := Zx X7 k0 w0
  obtain ⟨s1, q1, r1⟩ := Zx X7 k1 w1
  obtain ⟨s2, q2⟩ := Sd Jb k2
  simp at q0 q1 q2
  subst q0 q1 q2
  exact ⟨⟨s0, s1, s2⟩, rfl, r0, r1⟩
theorem Q6o {t : TypeId} (hu : P.underlying t = some .string) (h : DataW.trod enc P W 0 (fun _ => true) true fuel t cs = some x) (hw : Wt P t x.1) : ∃ y, U5 (I6 W) y cs := by
  obtain ⟨s, q, r⟩ := Zx hu h hw; exact ⟨s, q, r⟩
def Q9q : Array Field := #[⟨"Op", T.b, 0, false, "", "", 0⟩, ⟨"N", T.af, 1, false, "", "", 16⟩, ⟨"S", T.b, 2, false, "", "", 24⟩]
theorem Q2f : P.underlying T.n = some (.struct Q9q) := by kernel_rfl
theorem Q95 (h : DataW.trod enc P W 0 (fun _ => true) true fuel T.n cs = some x) (hw : Wt P T.n x.1) : ∃ y, F4 (I6 W) y cs := by
  obtain ⟨c0, c1, c2, rfl⟩ := Q26 (Pc Q2f (by kernel_rfl) h)
  obtain ⟨_, _, k0, w0⟩ := M2 (o := 0) Q2f h hw 0 rfl S7
  obtain ⟨_, _, k1, w1⟩ := M2 (o := 1) Q2f h hw 1 rfl (by kernel_rfl)
  obtain ⟨_, _, k2, w2⟩ := M2 (o := 2) Q2f h hw 2 rfl S7
  obtain ⟨s0, q0, r0⟩ := Zx X7 k0 w0
  obtain ⟨s1, q1, r1⟩ := Ky (by kernel_rfl) k1
  obtain ⟨s2, q2, r2⟩ := Zx X7 k2 w2
  simp at q0 q1 q2
  subst q0 q1 q2
  exact ⟨⟨s0, s1, s2⟩, rfl, r0, r1, r2⟩
def Q9v : Array Field := #[⟨"From", T.d, 0, false, "", "", 0⟩, ⟨"To", T.d, 1, false, "", "", 8⟩, ⟨"At", T.d, 2, false, "", "", 16⟩, ⟨"Class", T.b, 3, false, "", "", 24⟩]
theorem Q0z : P.underlying T.m = some (.struct Q9v) := by kernel_rfl
theorem Q8F (h : DataW.trod enc P W 0 (fun _ => true) true fuel T.m cs = some x) (hw : Wt P T.m x.1) : ∃ y, Qs (I6 W) y cs := by
  obtain ⟨c0, c1, c2, c3, rfl⟩ := Q9E (Pc Q0z (by kernel_rfl) h)
  obtain ⟨_, _, k0, w0⟩ := M2 (o := 0) Q0z h hw 0 rfl Q28
  obtain ⟨_, _, k1, w1⟩ := M2 (o := 1) Q0z h hw 1 rfl Q28
  obtain ⟨_, _, k2, w2⟩ := M2 (o := 2) Q0z h hw 2 rfl Q28
  obtain ⟨_, _, k3, w3⟩ := M2 (o := 3) Q0z h hw 3 rfl S7
  obtain ⟨s0, q0, r0⟩ := Ky Q0d k0
  obtain ⟨s1, q1, r1⟩ := Ky Q0d k1
  obtain ⟨s2, q2, r2⟩ := Ky Q0d k2
  obtain ⟨s3, q3, r3⟩ := Zx X7 k3 w3
  simp at q0 q1 q2 q3
  subst q0 q1 q2 q3
  exact ⟨⟨s0, s1, s2, s3⟩, rfl, r0, r1, r2, r3⟩
theorem Q5E : P.underlying T.f = some (.slice T.b) := by kernel_rfl
theorem Q8B : P.underlying T.h = some (.slice T.i) := by kernel_rfl
theorem Q8K : P.underlying T.k = some (.slice T.n) := by kernel_rfl
theorem Q8P : P.underlying T.j = some (.slice T.m) := by kernel_rfl
theorem Q9b : P.underlying T.e = some (.slice T.c) := by kernel_rfl
theorem Q5X : P.underlying T.g = some (.slice T.a) := by kernel_rfl
def Q9m : Array Field := #[⟨"Name", T.b, 0, false, "", "", 0⟩, ⟨"Params", T.f, 1, false, "", "", 16⟩, ⟨"Result", T.b, 2, false, "", "", 40⟩, ⟨"Abstract", T.l, 3, false, "", "", 56⟩, ⟨"Locals", T.d, 4, false, "", "", 64⟩, ⟨"Code", T.k, 5, false, "", "", 72⟩, ⟨"Catches", T.j, 6, false, "", "", 96⟩]
theorem Ep : P.underlying T.c = some (.struct Q9m) := by kernel_rfl
theorem Q93 (h : DataW.trod enc P W 0 (fun _ => true) true fuel T.c cs = some x) (hw : Wt P T.c x.1) : ∃ y, N0 (I6 W) y cs := by
  obtain ⟨c0, c1, c2, c3, c4, c5, c6, rfl⟩ := Q9s (Pc Ep (by kernel_rfl) h)
  obtain ⟨_, _, k0, w0⟩ := M2 (o := 0) Ep h hw 0 rfl S7
  obtain ⟨_, _, k1, w1⟩ := M2 (o := 1) Ep h hw 1 rfl (by kernel_rfl)
  obtain ⟨_, _, k2, w2⟩ := M2 (o := 2) Ep h hw 2 rfl S7
  obtain ⟨_, _, k3, w3⟩ := M2 (o := 3) Ep h hw 3 rfl Ro
  obtain ⟨_, _, k4, w4⟩ := M2 (o := 4) Ep h hw 4 rfl Q28
  obtain ⟨_, _, k5, w5⟩ := M2 (o := 5) Ep h hw 5 rfl (by kernel_rfl)
  obtain ⟨_, _, k6, w6⟩ := M2 (o := 6) Ep h hw 6 rfl (by kernel_rfl)
  obtain ⟨s0, q0, r0⟩ := Zx X7 k0 w0
  obtain ⟨v1, s1, q1, r1⟩ := Bf (R := U5) Q5E S7 (by decide) (fun _ _ _ h hw => Q6o X7 h hw) k1 w1
  obtain ⟨s2, q2, r2⟩ := Zx X7 k2 w2
  obtain ⟨s3, q3⟩ := Sd Jb k3
  obtain ⟨s4, q4, r4⟩ := Ky Q0d k4
  obtain ⟨v5, s5, q5, r5⟩ := Bf (R := F4) (sz := 3) Q8K (by kernel_rfl) (by decide) (fun _ _ _ h hw => Q95 h hw) k5 w5
  obtain ⟨v6, s6, q6, r6⟩ := Bf (R := Qs) (sz := 4) Q8P (by kernel_rfl) (by decide) (fun _ _ _ h hw => Q8F h hw) k6 w6
  simp at q0 q1 q2 q3 q4 q5 q6
  subst q0 q1 q2 q3 q4 q5 q6
  exact ⟨⟨s0, s1, s2, s3, s4, s5, s6⟩, _, _, _, rfl, r1, r5, r6, r0, r2, r4⟩
def Q9K : Array Field := #[⟨"Name", T.b, 0, false, "", "", 0⟩, ⟨"Super", T.b, 1, false, "", "", 16⟩, ⟨"Like", T.f, 2, false, "", "", 32⟩, ⟨"Interface", T.l, 3, false, "", "", 56⟩, ⟨"Abstract", T.l, 4, false, "", "", 57⟩, ⟨"Final", T.l, 5, false, "", "", 58⟩, ⟨"Fields", T.h, 6, false, "", "", 64⟩, ⟨"Methods", T.e, 7, false, "", "", 88⟩]
theorem Nf : P.underlying T.a = some (.struct Q9K) := by kernel_rfl
theorem Q8R (h : DataW.trod enc P W 0 (fun _ => true) true fuel T.a cs = some x) (hw : Wt P T.a x.1) : ∃ y, U7 (I6 W) y cs := by
  obtain ⟨c0, c1, c2, c3, c4, c5, c6, c7, rfl⟩ := Q9A (Pc Nf (by kernel_rfl) h)
  obtain ⟨_, _, k0, w0⟩ := M2 (o := 0) Nf h hw 0 rfl S7
  obtain ⟨_, _, k1, w1⟩ := M2 (o := 1) Nf h hw 1 rfl S7
  obtain ⟨_, _, k2, w2⟩ := M2 (o := 2) Nf h hw 2 rfl (by kernel_rfl)
  obtain ⟨_, _, k3, w3⟩ := M2 (o := 3) Nf h hw 3 rfl Ro
  obtain ⟨_, _, k4, w4⟩ := M2 (o := 4) Nf h hw 4 rfl Ro
  obtain ⟨_, _, k5, w5⟩ := M2 (o := 5) Nf h hw 5 rfl Ro
  obtain ⟨_, _, k6, w6⟩ := M2 (o := 6) Nf h hw 6 rfl (by kernel_rfl)
  obtain ⟨_, _, k7, w7⟩ := M2 (o := 7) Nf h hw 7 rfl (by kernel_rfl)
  obtain ⟨s0, q0, r0⟩ := Zx X7 k0 w0
  obtain ⟨s1, q1, r1⟩ := Zx X7 k1 w1
  obtain ⟨v2, s2, q2, r2⟩ := Bf (R := U5) Q5E S7 (by decide) (fun _ _ _ h hw => Q6o X7 h hw) k2 w2
  obtain ⟨s3, q3⟩ := Sd Jb k3
  obtain ⟨s4, q4⟩ := Sd Jb k4
  obtain ⟨s5, q5⟩ := Sd Jb k5
  obtain ⟨v6, s6, q6, r6⟩ := Bf (R := D7) (sz := 3) Q8B (by kernel_rfl) (by decide) (fun _ _ _ h hw => Q8N h hw) k6 w6
  obtain ⟨v7, s7, q7, r7⟩ := Bf (R := N0) (sz := 7) Q9b (by kernel_rfl) (by decide) (fun _ _ _ h hw => Q93 h hw) k7 w7
  simp at q0 q1 q2 q3 q4 q5 q6 q7
  subst q0 q1 q2 q3 q4 q5 q6 q7
  exact ⟨⟨s0, s1, s2, s3, s4, s5, s6, s7⟩, _, _, _, rfl, r2, r6, r7, r0, r1⟩
theorem Q8n (h : DataW.trod enc P W 0 (fun _ => true) true fuel T.g cs = some x) (hw : Wt P T.g x.1) : ∃ v l, cs = [v] ∧ Sl 8 U7 (I6 W) v l :=
  Bf Q5X (by kernel_rfl) (by decide) (fun _ _ _ h hw => Q8R h hw) h hw
end Go.Proofs.YtdnfaboigajkhaaGreatDoor

namespace Go.Emb
def V0 {α β : Type} (stp : β → α → Bool × β) : β → List α → Nat → Option Nat × β
  | s, [], _ => (none, s)
  | s, x :: xs, i => if (stp s x).1 then (some i, (stp s x).2) else V0 stp (stp s x).2 xs (i + 1)
def L6 (o : Option Nat) : Int := match o with | some i => i | none => -1
theorem I1 {α : Type} (p : α → Bool) : ∀ (xs : List α) (i : Nat), (V0 (fun (_ : Unit) x => (p x, ())) () xs i).1 = (xs.findIdx? p).map (· + i) := by
  intro xs
  induction xs with
  | nil => intro i; rfl
  | cons x r ih =>
    intro i
    rw [List.findIdx?_cons]
    simp only [V0]
    cases p x with
    | true => simp
    | false =>
      simp only [Bool.false_eq_true, if_false]
      rw [ih (i + 1), Option.map_map]
      congr 1; funext n; simp only [Function.comp]; omega
theorem Sr {α β : Type} (stp : β → α → Bool × β) (s : β) (xs : List α) (i : Nat) : decide ((0 : Int) ≤ L6 (V0 stp s xs i).1) = (V0 stp s xs i).1.isSome := by
  cases (V0 stp s xs i).1 <;> simp [L6]
end Go.Emb
namespace Go.Proofs.YtdnfaboigajkhaaGreatDoor
open Go.Emb Go.RowKit Go.Kd Go.Hm
variable {w : World} {K : Value → World → Prop} {σ : Q5}
theorem Jc {β : Type} {xs : List Hm.Met} {v f : Value} (stp : β → Hm.Met → Bool × β) (s0 : β) (Inv : β → World → Prop) (D : Nat → Prop) (hsat : ∀ s w, Inv s w → X6 w σ) (h0 : Inv s0 w) (hv : Sl 7 N0 σ v xs)
    (hf : ∀ s x cs (w1 : World) (K : Value → World → Prop), x ∈ xs → Kpt D w w1 → Inv s w1 → N0 σ x cs → cs.length = 7 → (∀ w', Kpt D w w' → Inv (stp s x).2 w' → K (.bool (stp s x).1) w') → Z7 P f [.agg cs.toArray] w1 K)
    (h : ∀ w', Kpt D w w' → Inv (V0 stp s0 xs 0).2 w' → K (I (L6 (V0 stp s0 xs 0).1)) w') : Q1 P F.h [v, f] w K := T1 (by
  unfold H4
  ((try simp only [↓Mm, Mm, ↓Mr, Mr, Mb, reduceIte]); repeat ((first | refine ld (by assumption) (by assumption) rfl ?_ | refine X8 (by assumption) (by assumption) rfl ?_ | refine Q6 (by assumption) ?_); (try simp only [↓Mm, Mm, ↓Mr, Mr, Mb, reduceIte])))
  refine V1 xs.length (fun n w' => Kpt D w w' ∧ ∃ s, Inv s w' ∧ V0 stp s0 xs 0 = V0 stp s (xs.drop n) n) ⟨Kpt.refl, s0, h0, rfl⟩ fun n w1 d hn hi => ?_
  obtain ⟨hk, s, hi, he⟩ := hi
  have hs1 := hsat s w1 hi
  ((try simp only [↓Mm, Mm, ↓Mr, Mr, Mb, reduceIte]); repeat ((first | refine ld (by assumption) (by assumption) rfl ?_ | refine X8 (by assumption) (by assumption) rfl ?_ | refine Q6 (by assumption) ?_); (try simp only [↓Mm, Mm, ↓Mr, Mr, Mb, reduceIte])))
  refine Q4 (fun hc => ?_) (fun hc => ?_)
  · have hn' : n < xs.length := by simpa using hc
    refine L2 hv hn' fun p cs hl hlen hr => ?_
    refine Y3 hs1 hl hlen ?_
    refine hf s xs[n] cs w1 _ (List.getElem_mem hn') hk hi hr hlen fun w2 hk2 hi2 => ?_
    rw [List.drop_eq_getElem_cons hn'] at he
    simp only [V0] at he
    refine Q4 (fun hb => ?_) (fun hb => ?_)
    · rw [hb] at he
      have := h w2 hk2
      rw [he] at this
      exact this hi2
    · rw [hb] at he
      ((try simp only [↓Mm, Mm, ↓Mr, Mr, Mb, reduceIte]); repeat ((first | refine ld (by assumption) (by assumption) rfl ?_ | refine X8 (by assumption) (by assumption) rfl ?_ | refine Q6 (by assumption) ?_); (try simp only [↓Mm, Mm, ↓Mr, Mr, Mb, reduceIte])))
      exact Y5 hv.max hn' ⟨hk2, _, hi2, by simpa using he⟩
  · have hn' : ¬ n < xs.length := by simpa using hc
    rw [List.drop_eq_nil_of_le (by omega)] at he
    have := h w1 hk
    rw [he] at this
    exact this hi)
theorem Xm {β : Type} {xs : List Hm.Met} {v f : Value} (stp : β → Hm.Met → Bool × β) (s0 : β) (Inv : β → World → Prop) (D : Nat → Prop) (hsat : ∀ s w, Inv s w → X6 w σ) (h0 : Inv s0 w) (hv : Sl 7 N0 σ v xs)
    (hf : ∀ s x cs (w1 : World) (K : Value → World → Prop), x ∈ xs → Kpt D w w1 → Inv s w1 → N0 σ x cs → cs.length = 7 → (∀ w', Kpt D w w' → Inv (stp s x).2 w' → K (.bool (stp s x).1) w') → Z7 P f [.agg cs.toArray] w1 K)
    (h : ∀ w', Kpt D w w' → Inv (V0 stp s0 xs 0).2 w' → K (.bool (V0 stp s0 xs 0).1.isSome) w') : Q1 P F.a [v, f] w K := G9 (by
  unfold D8
  refine Jc stp s0 Inv D hsat h0 hv hf fun w1 hk hi => ?_
  (try simp only [↓Mm, Mm, ↓Mr, Mr, Mb, reduceIte])
  rw [Sr]
  exact h w1 hk hi)
theorem Ha {xs : List Hm.Met} {v f : Value} (p : Hm.Met → Bool) (hs : X6 w σ) (hv : Sl 7 N0 σ v xs)
    (hf : ∀ x cs (w1 : World) (K : Value → World → Prop), x ∈ xs → X6 w1 σ → N0 σ x cs → cs.length = 7 → (∀ w', Below w1.heap.size w1 w' → K (.bool (p x)) w') → Z7 P f [.agg cs.toArray] w1 K)
    (h : ∀ w', Below w.heap.size w w' → K (I (L6 (xs.findIdx? p))) w') : Q1 P F.h [v, f] w K := by
  refine Jc (fun (_ : Unit) x => (p x, ())) () (fun _ w' => Below w.heap.size w w') (fun _ => False) (fun _ w' hb => hs.below hb) (Below.refl _ _) hv (fun s x cs w1 K hx hk hi hr hl hK => hf x cs w1 K hx (hs.below hi) hr hl fun w' hb => hK w' (.of_below (bt hi hb)) (bt hi hb)) fun w' hk hi => ?_
  rw [I1]
  simpa using h w' hi
theorem H6 {xs : List Hm.Met} {v f : Value} (p : Hm.Met → Bool) (hs : X6 w σ) (hv : Sl 7 N0 σ v xs)
    (hf : ∀ x cs (w1 : World) (K : Value → World → Prop), x ∈ xs → X6 w1 σ → N0 σ x cs → cs.length = 7 → (∀ w', Below w1.heap.size w1 w' → K (.bool (p x)) w') → Z7 P f [.agg cs.toArray] w1 K)
    (h : ∀ w', Below w.heap.size w w' → K (.bool (xs.any p)) w') : Q1 P F.a [v, f] w K := by
  refine Xm (fun (_ : Unit) x => (p x, ())) () (fun _ w' => Below w.heap.size w w') (fun _ => False) (fun _ w' hb => hs.below hb) (Below.refl _ _) hv (fun s x cs w1 K hx hk hi hr hl hK => hf x cs w1 K hx (hs.below hi) hr hl fun w' hb => hK w' (.of_below (bt hi hb)) (bt hi hb)) fun w' hk hi => ?_
  rw [I1]
  simpa using h w' hi
theorem Jx {β : Type} {xs : List Fld} {v f : Value} (stp : β → Fld → Bool × β) (s0 : β) (Inv : β → World → Prop) (D : Nat → Prop) (hsat : ∀ s w, Inv s w → X6 w σ) (h0 : Inv s0 w) (hv : Sl 3 D7 σ v xs)
    (hf : ∀ s x cs (w1 : World) (K : Value → World → Prop), x ∈ xs → Kpt D w w1 → Inv s w1 → D7 σ x cs → cs.length = 3 → (∀ w', Kpt D w w' → Inv (stp s x).2 w' → K (.bool (stp s x).1) w') → Z7 P f [.agg cs.toArray] w1 K)
    (h : ∀ w', Kpt D w w' → Inv (V0 stp s0 xs 0).2 w' → K (I (L6 (V0 stp s0 xs 0).1)) w') : Q1 P F.j [v, f] w K := Qe (by
  unfold R2
  ((try simp only [↓Mm, Mm, ↓Mr, Mr, Mb, reduceIte]); repeat ((first | refine ld (by assumption) (by assumption) rfl ?_ | refine X8 (by assumption) (by assumption) rfl ?_ | refine Q6 (by assumption) ?_); (try simp only [↓Mm, Mm, ↓Mr, Mr, Mb, reduceIte])))
  refine V1 xs.length (fun n w' => Kpt D w w' ∧ ∃ s, Inv s w' ∧ V0 stp s0 xs 0 = V0 stp s (xs.drop n) n) ⟨Kpt.refl, s0, h0, rfl⟩ fun n w1 d hn hi => ?_
  obtain ⟨hk, s, hi, he⟩ := hi
  have hs1 := hsat s w1 hi
  ((try simp only [↓Mm, Mm, ↓Mr, Mr, Mb, reduceIte]); repeat ((first | refine ld (by assumption) (by assumption) rfl ?_ | refine X8 (by assumption) (by assumption) rfl ?_ | refine Q6 (by assumption) ?_); (try simp only [↓Mm, Mm, ↓Mr, Mr, Mb, reduceIte])))
  refine Q4 (fun hc => ?_) (fun hc => ?_)
  · have hn' : n < xs.length := by simpa using hc
    refine L2 hv hn' fun p cs hl hlen hr => ?_
    refine Y3 hs1 hl hlen ?_
    refine hf s xs[n] cs w1 _ (List.getElem_mem hn') hk hi hr hlen fun w2 hk2 hi2 => ?_
    rw [List.drop_eq_getElem_cons hn'] at he
    simp only [V0] at he
    refine Q4 (fun hb => ?_) (fun hb => ?_)
    · rw [hb] at he
      have := h w2 hk2
      rw [he] at this
      exact this hi2
    · rw [hb] at he
      ((try simp only [↓Mm, Mm, ↓Mr, Mr, Mb, reduceIte]); repeat ((first | refine ld (by assumption) (by assumption) rfl ?_ | refine X8 (by assumption) (by assumption) rfl ?_ | refine Q6 (by assumption) ?_); (try simp only [↓Mm, Mm, ↓Mr, Mr, Mb, reduceIte])))
      exact Y5 hv.max hn' ⟨hk2, _, hi2, by simpa using he⟩
  · have hn' : ¬ n < xs.length := by simpa using hc
    rw [List.drop_eq_nil_of_le (by omega)] at he
    have := h w1 hk
    rw [he] at this
    exact this hi)
theorem Dt {β : Type} {xs : List Fld} {v f : Value} (stp : β → Fld → Bool × β) (s0 : β) (Inv : β → World → Prop) (D : Nat → Prop) (hsat : ∀ s w, Inv s w → X6 w σ) (h0 : Inv s0 w) (hv : Sl 3 D7 σ v xs)
    (hf : ∀ s x cs (w1 : World) (K : Value → World → Prop), x ∈ xs → Kpt D w w1 → Inv s w1 → D7 σ x cs → cs.length = 3 → (∀ w', Kpt D w w' → Inv (stp s x).2 w' → K (.bool (stp s x).1) w') → Z7 P f [.agg cs.toArray] w1 K)
    (h : ∀ w', Kpt D w w' → Inv (V0 stp s0 xs 0).2 w' → K (.bool (V0 stp s0 xs 0).1.isSome) w') : Q1 P F.g [v, f] w K := P1 (by
  unfold H0
  refine Jx stp s0 Inv D hsat h0 hv hf fun w1 hk hi => ?_
  (try simp only [↓Mm, Mm, ↓Mr, Mr, Mb, reduceIte])
  rw [Sr]
  exact h w1 hk hi)
theorem Rf {xs : List Fld} {v f : Value} (p : Fld → Bool) (hs : X6 w σ) (hv : Sl 3 D7 σ v xs)
    (hf : ∀ x cs (w1 : World) (K : Value → World → Prop), x ∈ xs → X6 w1 σ → D7 σ x cs → cs.length = 3 → (∀ w', Below w1.heap.size w1 w' → K (.bool (p x)) w') → Z7 P f [.agg cs.toArray] w1 K)
    (h : ∀ w', Below w.heap.size w w' → K (I (L6 (xs.findIdx? p))) w') : Q1 P F.j [v, f] w K := by
  refine Jx (fun (_ : Unit) x => (p x, ())) () (fun _ w' => Below w.heap.size w w') (fun _ => False) (fun _ w' hb => hs.below hb) (Below.refl _ _) hv (fun s x cs w1 K hx hk hi hr hl hK => hf x cs w1 K hx (hs.below hi) hr hl fun w' hb => hK w' (.of_below (bt hi hb)) (bt hi hb)) fun w' hk hi => ?_
  rw [I1]
  simpa using h w' hi
theorem Xr {xs : List Fld} {v f : Value} (p : Fld → Bool) (hs : X6 w σ) (hv : Sl 3 D7 σ v xs)
    (hf : ∀ x cs (w1 : World) (K : Value → World → Prop), x ∈ xs → X6 w1 σ → D7 σ x cs → cs.length = 3 → (∀ w', Below w1.heap.size w1 w' → K (.bool (p x)) w') → Z7 P f [.agg cs.toArray] w1 K)
    (h : ∀ w', Below w.heap.size w w' → K (.bool (xs.any p)) w') : Q1 P F.g [v, f] w K := by
  refine Dt (fun (_ : Unit) x => (p x, ())) () (fun _ w' => Below w.heap.size w w') (fun _ => False) (fun _ w' hb => hs.below hb) (Below.refl _ _) hv (fun s x cs w1 K hx hk hi hr hl hK => hf x cs w1 K hx (hs.below hi) hr hl fun w' hb => hK w' (.of_below (bt hi hb)) (bt hi hb)) fun w' hk hi => ?_
  rw [I1]
  simpa using h w' hi
theorem Sa {β : Type} {xs : List Ins} {v f : Value} (stp : β → Ins → Bool × β) (s0 : β) (Inv : β → World → Prop) (D : Nat → Prop) (hsat : ∀ s w, Inv s w → X6 w σ) (h0 : Inv s0 w) (hv : Sl 3 F4 σ v xs)
    (hf : ∀ s x cs (w1 : World) (K : Value → World → Prop), x ∈ xs → Kpt D w w1 → Inv s w1 → F4 σ x cs → cs.length = 3 → (∀ w', Kpt D w w' → Inv (stp s x).2 w' → K (.bool (stp s x).1) w') → Z7 P f [.agg cs.toArray] w1 K)
    (h : ∀ w', Kpt D w w' → Inv (V0 stp s0 xs 0).2 w' → K (I (L6 (V0 stp s0 xs 0).1)) w') : Q1 P F.y [v, f] w K := Qh (by
  unfold R4
  ((try simp only [↓Mm, Mm, ↓Mr, Mr, Mb, reduceIte]); repeat ((first | refine ld (by assumption) (by assumption) rfl ?_ | refine X8 (by assumption) (by assumption) rfl ?_ | refine Q6 (by assumption) ?_); (try simp only [↓Mm, Mm, ↓Mr, Mr, Mb, reduceIte])))
  refine V1 xs.length (fun n w' => Kpt D w w' ∧ ∃ s, Inv s w' ∧ V0 stp s0 xs 0 = V0 stp s (xs.drop n) n) ⟨Kpt.refl, s0, h0, rfl⟩ fun n w1 d hn hi => ?_
  obtain ⟨hk, s, hi, he⟩ := hi
  have hs1 := hsat s w1 hi
  ((try simp only [↓Mm, Mm, ↓Mr, Mr, Mb, reduceIte]); repeat ((first | refine ld (by assumption) (by assumption) rfl ?_ | refine X8 (by assumption) (by assumption) rfl ?_ | refine Q6 (by assumption) ?_); (try simp only [↓Mm, Mm, ↓Mr, Mr, Mb, reduceIte])))
  refine Q4 (fun hc => ?_) (fun hc => ?_)
  · have hn' : n < xs.length := by simpa using hc
    refine L2 hv hn' fun p cs hl hlen hr => ?_
    refine Y3 hs1 hl hlen ?_
    refine hf s xs[n] cs w1 _ (List.getElem_mem hn') hk hi hr hlen fun w2 hk2 hi2 => ?_
    rw [List.drop_eq_getElem_cons hn'] at he
    simp only [V0] at he
    refine Q4 (fun hb => ?_) (fun hb => ?_)
    · rw [hb] at he
      have := h w2 hk2
      rw [he] at this
      exact this hi2
    · rw [hb] at he
      ((try simp only [↓Mm, Mm, ↓Mr, Mr, Mb, reduceIte]); repeat ((first | refine ld (by assumption) (by assumption) rfl ?_ | refine X8 (by assumption) (by assumption) rfl ?_ | refine Q6 (by assumption) ?_); (try simp only [↓Mm, Mm, ↓Mr, Mr, Mb, reduceIte])))
      exact Y5 hv.max hn' ⟨hk2, _, hi2, by simpa using he⟩
  · have hn' : ¬ n < xs.length := by simpa using hc
    rw [List.drop_eq_nil_of_le (by omega)] at he
    have := h w1 hk
    rw [he] at this
    exact this hi)
theorem Df {β : Type} {xs : List Ins} {v f : Value} (stp : β → Ins → Bool × β) (s0 : β) (Inv : β → World → Prop) (D : Nat → Prop) (hsat : ∀ s w, Inv s w → X6 w σ) (h0 : Inv s0 w) (hv : Sl 3 F4 σ v xs)
    (hf : ∀ s x cs (w1 : World) (K : Value → World → Prop), x ∈ xs → Kpt D w w1 → Inv s w1 → F4 σ x cs → cs.length = 3 → (∀ w', Kpt D w w' → Inv (stp s x).2 w' → K (.bool (stp s x).1) w') → Z7 P f [.agg cs.toArray] w1 K)
    (h : ∀ w', Kpt D w w' → Inv (V0 stp s0 xs 0).2 w' → K (.bool (V0 stp s0 xs 0).1.isSome) w') : Q1 P F.k [v, f] w K := P2 (by
  unfold E8
  refine Sa stp s0 Inv D hsat h0 hv hf fun w1 hk hi => ?_
  (try simp only [↓Mm, Mm, ↓Mr, Mr, Mb, reduceIte])
  rw [Sr]
  exact h w1 hk hi)
theorem Dr {xs : List Ins} {v f : Value} (p : Ins → Bool) (hs : X6 w σ) (hv : Sl 3 F4 σ v xs)
    (hf : ∀ x cs (w1 : World) (K : Value → World → Prop), x ∈ xs → X6 w1 σ → F4 σ x cs → cs.length = 3 → (∀ w', Below w1.heap.size w1 w' → K (.bool (p x)) w') → Z7 P f [.agg cs.toArray] w1 K)
    (h : ∀ w', Below w.heap.size w w' → K (.bool (xs.any p)) w') : Q1 P F.k [v, f] w K := by
  refine Df (fun (_ : Unit) x => (p x, ())) () (fun _ w' => Below w.heap.size w w') (fun _ => False) (fun _ w' hb => hs.below hb) (Below.refl _ _) hv (fun s x cs w1 K hx hk hi hr hl hK => hf x cs w1 K hx (hs.below hi) hr hl fun w' hb => hK w' (.of_below (bt hi hb)) (bt hi hb)) fun w' hk hi => ?_
  rw [I1]
  simpa using h w' hi
theorem Re {β : Type} {xs : List Cat} {v f : Value} (stp : β → Cat → Bool × β) (s0 : β) (Inv : β → World → Prop) (D : Nat → Prop) (hsat : ∀ s w, Inv s w → X6 w σ) (h0 : Inv s0 w) (hv : Sl 4 Qs σ v xs)
    (hf : ∀ s x cs (w1 : World) (K : Value → World → Prop), x ∈ xs → Kpt D w w1 → Inv s w1 → Qs σ x cs → cs.length = 4 → (∀ w', Kpt D w w' → Inv (stp s x).2 w' → K (.bool (stp s x).1) w') → Z7 P f [.agg cs.toArray] w1 K)
    (h : ∀ w', Kpt D w w' → Inv (V0 stp s0 xs 0).2 w' → K (I (L6 (V0 stp s0 xs 0).1)) w') : Q1 P F.z [v, f] w K := Qf (by
  unfold R1
  ((try simp only [↓Mm, Mm, ↓Mr, Mr, Mb, reduceIte]); repeat ((first | refine ld (by assumption) (by assumption) rfl ?_ | refine X8 (by assumption) (by assumption) rfl ?_ | refine Q6 (by assumption) ?_); (try simp only [↓Mm, Mm, ↓Mr, Mr, Mb, reduceIte])))
  refine V1 xs.length (fun n w' => Kpt D w w' ∧ ∃ s, Inv s w' ∧ V0 stp s0 xs 0 = V0 stp s (xs.drop n) n) ⟨Kpt.refl, s0, h0, rfl⟩ fun n w1 d hn hi => ?_
  obtain ⟨hk, s, hi, he⟩ := hi
  have hs1 := hsat s w1 hi
  ((try simp only [↓Mm, Mm, ↓Mr, Mr, Mb, reduceIte]); repeat ((first | refine ld (by assumption) (by assumption) rfl ?_ | refine X8 (by assumption) (by assumption) rfl ?_ | refine Q6 (by assumption) ?_); (try simp only [↓Mm, Mm, ↓Mr, Mr, Mb, reduceIte])))
  refine Q4 (fun hc => ?_) (fun hc => ?_)
  · have hn' : n < xs.length := by simpa using hc
    refine L2 hv hn' fun p cs hl hlen hr => ?_
    refine Y3 hs1 hl hlen ?_
    refine hf s xs[n] cs w1 _ (List.getElem_mem hn') hk hi hr hlen fun w2 hk2 hi2 => ?_
    rw [List.drop_eq_getElem_cons hn'] at he
    simp only [V0] at he
    refine Q4 (fun hb => ?_) (fun hb => ?_)
    · rw [hb] at he
      have := h w2 hk2
      rw [he] at this
      exact this hi2
    · rw [hb] at he
      ((try simp only [↓Mm, Mm, ↓Mr, Mr, Mb, reduceIte]); repeat ((first | refine ld (by assumption) (by assumption) rfl ?_ | refine X8 (by assumption) (by assumption) rfl ?_ | refine Q6 (by assumption) ?_); (try simp only [↓Mm, Mm, ↓Mr, Mr, Mb, reduceIte])))
      exact Y5 hv.max hn' ⟨hk2, _, hi2, by simpa using he⟩
  · have hn' : ¬ n < xs.length := by simpa using hc
    rw [List.drop_eq_nil_of_le (by omega)] at he
    have := h w1 hk
    rw [he] at this
    exact this hi)
theorem Di {β : Type} {xs : List Cat} {v f : Value} (stp : β → Cat → Bool × β) (s0 : β) (Inv : β → World → Prop) (D : Nat → Prop) (hsat : ∀ s w, Inv s w → X6 w σ) (h0 : Inv s0 w) (hv : Sl 4 Qs σ v xs)
    (hf : ∀ s x cs (w1 : World) (K : Value → World → Prop), x ∈ xs → Kpt D w w1 → Inv s w1 → Qs σ x cs → cs.length = 4 → (∀ w', Kpt D w w' → Inv (stp s x).2 w' → K (.bool (stp s x).1) w') → Z7 P f [.agg cs.toArray] w1 K)
    (h : ∀ w', Kpt D w w' → Inv (V0 stp s0 xs 0).2 w' → K (.bool (V0 stp s0 xs 0).1.isSome) w') : Q1 P F.l [v, f] w K := P3 (by
  unfold E9
  refine Re stp s0 Inv D hsat h0 hv hf fun w1 hk hi => ?_
  (try simp only [↓Mm, Mm, ↓Mr, Mr, Mb, reduceIte])
  rw [Sr]
  exact h w1 hk hi)
theorem Ox {xs : List Cat} {v f : Value} (p : Cat → Bool) (hs : X6 w σ) (hv : Sl 4 Qs σ v xs)
    (hf : ∀ x cs (w1 : World) (K : Value → World → Prop), x ∈ xs → X6 w1 σ → Qs σ x cs → cs.length = 4 → (∀ w', Below w1.heap.size w1 w' → K (.bool (p x)) w') → Z7 P f [.agg cs.toArray] w1 K)
    (h : ∀ w', Below w.heap.size w w' → K (.bool (xs.any p)) w') : Q1 P F.l [v, f] w K := by
  refine Di (fun (_ : Unit) x => (p x, ())) () (fun _ w' => Below w.heap.size w w') (fun _ => False) (fun _ w' hb => hs.below hb) (Below.refl _ _) hv (fun s x cs w1 K hx hk hi hr hl hK => hf x cs w1 K hx (hs.below hi) hr hl fun w' hb => hK w' (.of_below (bt hi hb)) (bt hi hb)) fun w' hk hi => ?_
  rw [I1]
  simpa using h w' hi
theorem Rs {β : Type} {xs : List Cla} {v f : Value} (stp : β → Cla → Bool × β) (s0 : β) (Inv : β → World → Prop) (D : Nat → Prop) (hsat : ∀ s w, Inv s w → X6 w σ) (h0 : Inv s0 w) (hv : Sl 8 U7 σ v xs)
    (hf : ∀ s x cs (w1 : World) (K : Value → World → Prop), x ∈ xs → Kpt D w w1 → Inv s w1 → U7 σ x cs → cs.length = 8 → (∀ w', Kpt D w w' → Inv (stp s x).2 w' → K (.bool (stp s x).1) w') → Z7 P f [.agg cs.toArray] w1 K)
    (h : ∀ w', Kpt D w w' → Inv (V0 stp s0 xs 0).2 w' → K (I (L6 (V0 stp s0 xs 0).1)) w') : Q1 P F.m [v, f] w K := Qc (by
  unfold H9
  ((try simp only [↓Mm, Mm, ↓Mr, Mr, Mb, reduceIte]); repeat ((first | refine ld (by assumption) (by assumption) rfl ?_ | refine X8 (by assumption) (by assumption) rfl ?_ | refine Q6 (by assumption) ?_); (try simp only [↓Mm, Mm, ↓Mr, Mr, Mb, reduceIte])))
  refine V1 xs.length (fun n w' => Kpt D w w' ∧ ∃ s, Inv s w' ∧ V0 stp s0 xs 0 = V0 stp s (xs.drop n) n) ⟨Kpt.refl, s0, h0, rfl⟩ fun n w1 d hn hi => ?_
  obtain ⟨hk, s, hi, he⟩ := hi
  have hs1 := hsat s w1 hi
  ((try simp only [↓Mm, Mm, ↓Mr, Mr, Mb, reduceIte]); repeat ((first | refine ld (by assumption) (by assumption) rfl ?_ | refine X8 (by assumption) (by assumption) rfl ?_ | refine Q6 (by assumption) ?_); (try simp only [↓Mm, Mm, ↓Mr, Mr, Mb, reduceIte])))
  refine Q4 (fun hc => ?_) (fun hc => ?_)
  · have hn' : n < xs.length := by simpa using hc
    refine L2 hv hn' fun p cs hl hlen hr => ?_
    refine Y3 hs1 hl hlen ?_
    refine hf s xs[n] cs w1 _ (List.getElem_mem hn') hk hi hr hlen fun w2 hk2 hi2 => ?_
    rw [List.drop_eq_getElem_cons hn'] at he
    simp only [V0] at he
    refine Q4 (fun hb => ?_) (fun hb => ?_)
    · rw [hb] at he
      have := h w2 hk2
      rw [he] at this
      exact this hi2
    · rw [hb] at he
      ((try simp only [↓Mm, Mm, ↓Mr, Mr, Mb, reduceIte]); repeat ((first | refine ld (by assumption) (by assumption) rfl ?_ | refine X8 (by assumption) (by assumption) rfl ?_ | refine Q6 (by assumption) ?_); (try simp only [↓Mm, Mm, ↓Mr, Mr, Mb, reduceIte])))
      exact Y5 hv.max hn' ⟨hk2, _, hi2, by simpa using he⟩
  · have hn' : ¬ n < xs.length := by simpa using hc
    rw [List.drop_eq_nil_of_le (by omega)] at he
    have := h w1 hk
    rw [he] at this
    exact this hi)
theorem Rn {xs : List Cla} {v f : Value} (p : Cla → Bool) (hs : X6 w σ) (hv : Sl 8 U7 σ v xs)
    (hf : ∀ x cs (w1 : World) (K : Value → World → Prop), x ∈ xs → X6 w1 σ → U7 σ x cs → cs.length = 8 → (∀ w', Below w1.heap.size w1 w' → K (.bool (p x)) w') → Z7 P f [.agg cs.toArray] w1 K)
    (h : ∀ w', Below w.heap.size w w' → K (I (L6 (xs.findIdx? p))) w') : Q1 P F.m [v, f] w K := by
  refine Rs (fun (_ : Unit) x => (p x, ())) () (fun _ w' => Below w.heap.size w w') (fun _ => False) (fun _ w' hb => hs.below hb) (Below.refl _ _) hv (fun s x cs w1 K hx hk hi hr hl hK => hf x cs w1 K hx (hs.below hi) hr hl fun w' hb => hK w' (.of_below (bt hi hb)) (bt hi hb)) fun w' hk hi => ?_
  rw [I1]
  simpa using h w' hi
theorem Km {β : Type} {xs : List X0} {v f : Value} (stp : β → X0 → Bool × β) (s0 : β) (Inv : β → World → Prop) (D : Nat → Prop) (hsat : ∀ s w, Inv s w → X6 w σ) (h0 : Inv s0 w) (hv : Sl 1 U5 σ v xs)
    (hf : ∀ s x (w1 : World) (K : Value → World → Prop), x ∈ xs → Kpt D w w1 → Inv s w1 → x.length ≤ W3 → (∀ w', Kpt D w w' → Inv (stp s x).2 w' → K (.bool (stp s x).1) w') → Z7 P f [S x] w1 K)
    (h : ∀ w', Kpt D w w' → Inv (V0 stp s0 xs 0).2 w' → K (I (L6 (V0 stp s0 xs 0).1)) w') : Q1 P F.r [v, f] w K := Zr (by
  unfold B2
  ((try simp only [↓Mm, Mm, ↓Mr, Mr, Mb, reduceIte]); repeat ((first | refine ld (by assumption) (by assumption) rfl ?_ | refine X8 (by assumption) (by assumption) rfl ?_ | refine Q6 (by assumption) ?_); (try simp only [↓Mm, Mm, ↓Mr, Mr, Mb, reduceIte])))
  refine V1 xs.length (fun n w' => Kpt D w w' ∧ ∃ s, Inv s w' ∧ V0 stp s0 xs 0 = V0 stp s (xs.drop n) n) ⟨Kpt.refl, s0, h0, rfl⟩ fun n w1 d hn hi => ?_
  obtain ⟨hk, s, hi, he⟩ := hi
  have hs1 := hsat s w1 hi
  ((try simp only [↓Mm, Mm, ↓Mr, Mr, Mb, reduceIte]); repeat ((first | refine ld (by assumption) (by assumption) rfl ?_ | refine X8 (by assumption) (by assumption) rfl ?_ | refine Q6 (by assumption) ?_); (try simp only [↓Mm, Mm, ↓Mr, Mr, Mb, reduceIte])))
  refine Q4 (fun hc => ?_) (fun hc => ?_)
  · have hn' : n < xs.length := by simpa using hc
    refine L2 hv hn' fun p cs hl hlen hr => ?_
    obtain ⟨rfl, hbig⟩ := hr
    refine X8 hs1 hl rfl ?_
    refine hf s xs[n] w1 _ (List.getElem_mem hn') hk hi hbig fun w2 hk2 hi2 => ?_
    rw [List.drop_eq_getElem_cons hn'] at he
    simp only [V0] at he
    refine Q4 (fun hb => ?_) (fun hb => ?_)
    · rw [hb] at he
      have := h w2 hk2
      rw [he] at this
      exact this hi2
    · rw [hb] at he
      ((try simp only [↓Mm, Mm, ↓Mr, Mr, Mb, reduceIte]); repeat ((first | refine ld (by assumption) (by assumption) rfl ?_ | refine X8 (by assumption) (by assumption) rfl ?_ | refine Q6 (by assumption) ?_); (try simp only [↓Mm, Mm, ↓Mr, Mr, Mb, reduceIte])))
      exact Y5 hv.max hn' ⟨hk2, _, hi2, by simpa using he⟩
  · have hn' : ¬ n < xs.length := by simpa using hc
    rw [List.drop_eq_nil_of_le (by omega)] at he
    have := h w1 hk
    rw [he] at this
    exact this hi)
theorem Iy {xs : List X0} {v f : Value} (p : X0 → Bool) (hs : X6 w σ) (hv : Sl 1 U5 σ v xs)
    (hf : ∀ x (w1 : World) (K : Value → World → Prop), x ∈ xs → X6 w1 σ → x.length ≤ W3 → (∀ w', Below w1.heap.size w1 w' → K (.bool (p x)) w') → Z7 P f [S x] w1 K)
    (h : ∀ w', Below w.heap.size w w' → K (I (L6 (xs.findIdx? p))) w') : Q1 P F.r [v, f] w K := by
  refine Km (fun (_ : Unit) x => (p x, ())) () (fun _ w' => Below w.heap.size w w') (fun _ => False) (fun _ w' hb => hs.below hb) (Below.refl _ _) hv (fun s x w1 K hx hk hi hr hK => hf x w1 K hx (hs.below hi) hr fun w' hb => hK w' (.of_below (bt hi hb)) (bt hi hb)) fun w' hk hi => ?_
  rw [I1]
  simpa using h w' hi
theorem Q2n {α : Type} (p : α → Bool) (xs : List α) : decide ((0 : Int) ≤ L6 (xs.findIdx? p)) = xs.any p := by
  rw [Bool.eq_iff_iff, List.any_eq_true]
  simp only [decide_eq_true_eq]
  cases h : xs.findIdx? p with
  | none =>
    simp only [L6]
    constructor
    · intro h; omega
    · rintro ⟨x, hx, hp⟩; have := List.findIdx?_eq_none_iff.1 h x hx; rw [hp] at this; cases this
  | some i =>
    simp only [L6]
    obtain ⟨hi, hp, _⟩ := List.findIdx?_eq_some_iff_getElem.1 h
    exact ⟨fun _ => ⟨xs[i], List.getElem_mem hi, hp⟩, fun _ => by omega⟩
theorem C5 {xs : List X0} {v f : Value} (p : X0 → Bool) (hs : X6 w σ) (hv : Sl 1 U5 σ v xs)
    (hf : ∀ x (w1 : World) (K : Value → World → Prop), x ∈ xs → X6 w1 σ → x.length ≤ W3 → (∀ w', Below w1.heap.size w1 w' → K (.bool (p x)) w') → Z7 P f [S x] w1 K)
    (h : ∀ w', Below w.heap.size w w' → K (.bool (xs.any p)) w') : Q1 P F.c [v, f] w K := Xq (by
  unfold S8
  refine Iy p hs hv hf fun w1 hb => ?_
  (try simp only [↓Mm, Mm, ↓Mr, Mr, Mb, reduceIte])
  rw [Q2n]
  exact h w1 hb)
theorem Q0Y {xs : List X0} {v : Value} {x : X0} (hs : X6 w σ) (hv : Sl 1 U5 σ v xs)
    (h : K (I (L6 (xs.findIdx? fun y => decide (x = y)))) w) : Q1 P F.am [v, S x] w K := Wi (by
  unfold I7
  ((try simp only [↓Mm, Mm, ↓Mr, Mr, Mb, reduceIte]); repeat ((first | refine ld (by assumption) (by assumption) rfl ?_ | refine X8 (by assumption) (by assumption) rfl ?_ | refine Q6 (by assumption) ?_); (try simp only [↓Mm, Mm, ↓Mr, Mr, Mb, reduceIte])))
  refine V1 xs.length (fun n w' => w = w' ∧ (xs.take n).any (fun y => decide (x = y)) = false) ⟨rfl, rfl⟩ fun n w1 d hn hi => ?_
  obtain ⟨rfl, hi⟩ := hi
  ((try simp only [↓Mm, Mm, ↓Mr, Mr, Mb, reduceIte]); repeat ((first | refine ld (by assumption) (by assumption) rfl ?_ | refine X8 (by assumption) (by assumption) rfl ?_ | refine Q6 (by assumption) ?_); (try simp only [↓Mm, Mm, ↓Mr, Mr, Mb, reduceIte])))
  refine Q4 (fun hc => ?_) (fun hc => ?_)
  · have hn' : n < xs.length := by simpa using hc
    refine L2 hv hn' fun p cs hl hlen hr => ?_
    obtain ⟨rfl, hbig⟩ := hr
    ((try simp only [↓Mm, Mm, ↓Mr, Mr, Mb, reduceIte]); repeat ((first | refine ld (by assumption) (by assumption) rfl ?_ | refine X8 (by assumption) (by assumption) rfl ?_ | refine Q6 (by assumption) ?_); (try simp only [↓Mm, Mm, ↓Mr, Mr, Mb, reduceIte])))
    refine Q4 (fun hb => ?_) (fun hb => ?_)
    · have : xs.findIdx? (fun y => decide (x = y)) = some n := by
        rw [List.findIdx?_eq_some_iff_getElem]
        refine ⟨hn', hb, fun j hj => ?_⟩
        have := List.any_eq_false.1 hi (xs[j]) (List.mem_take_iff_getElem.2 ⟨j, by omega, rfl⟩)
        exact this
      rw [this] at h; exact h
    · ((try simp only [↓Mm, Mm, ↓Mr, Mr, Mb, reduceIte]); repeat ((first | refine ld (by assumption) (by assumption) rfl ?_ | refine X8 (by assumption) (by assumption) rfl ?_ | refine Q6 (by assumption) ?_); (try simp only [↓Mm, Mm, ↓Mr, Mr, Mb, reduceIte])))
      exact Y5 hv.max hn' ⟨rfl, by rw [M8 hn', hi, hb]; rfl⟩
  · have hn' : ¬ n < xs.length := by simpa using hc
    rw [D0 hn'] at hi
    have : xs.findIdx? (fun y => decide (x = y)) = none := by
      rw [List.findIdx?_eq_none_iff]; intro y hy; simpa using List.any_eq_false.1 hi y hy
    rw [this] at h; exact h)
theorem Ti {xs : List X0} {v : Value} {x : X0} (hs : X6 w σ) (hv : Sl 1 U5 σ v xs)
    (h : K (.bool (xs.any fun y => decide (x = y))) w) : Q1 P F.a9 [v, S x] w K := Ja (by
  unfold B7
  refine Q0Y hs hv ?_
  (try simp only [↓Mm, Mm, ↓Mr, Mr, Mb, reduceIte])
  rw [Q2n]
  exact h)
end Go.Proofs.YtdnfaboigajkhaaGreatDoor

namespace Go.Emb
abbrev Q5.Le (σ σ' : Q5) : Prop := ∀ b o, σ b = some o → σ' b = some o
def E6 {α : Type} (f : α → List UInt8) : List α → List α → Bool
  | _, [] => true
  | seen, x :: r => !(seen.any fun y => decide (f y = f x)) && E6 f (seen ++ [x]) r
theorem Jf {α : Type} (p : α → Bool) (xs : List α) : (!xs.any fun x => !p x) = xs.all p := by
  rw [List.all_eq_not_any_not]
end Go.Emb
namespace Go.Proofs.YtdnfaboigajkhaaGreatDoor
open Go.Emb Go.RowKit Go.Kd Go.Hm
variable {w : World} {K : Value → World → Prop} {σ : Q5}
theorem Pf {xs : List Hm.Met} {v : Value} {fn : Fn} {fs cps : Array Value} (p : Hm.Met → Bool) (hs : X6 w σ) (hv : Sl 7 N0 σ v xs)
    (hf : ∀ (σ1 : Q5) x cs (w1 : World) (K : Value → World → Prop), σ.Le σ1 → x ∈ xs → X6 w1 σ1 → N0 σ1 x cs → cs.length = 7 → (∀ w', Below w1.heap.size w1 w' → K (.bool (p x)) w') → Z7 P (.func fn fs cps) [.agg cs.toArray] w1 K)
    (h : ∀ w', Below w.heap.size w w' → K (.bool (xs.all p)) w') : Q1 P F.ah [v, .func fn fs cps] w K := Oj (by
  unfold Yr
  refine N3 hs fun a w1 σ1 hk ha => ?_
  simp only [Value.cells] at ha
  ((try simp only [↓Mm, Mm, ↓Mr, Mr, Mb, reduceIte]); repeat ((first | refine ld (by assumption) (by assumption) rfl ?_ | refine X8 (by assumption) (by assumption) rfl ?_ | refine Q6 (by assumption) ?_); (try simp only [↓Mm, Mm, ↓Mr, Mr, Mb, reduceIte])))
  refine H6 (fun x => !p x) hk.sat (hv.up hk) (fun x cs w2 K hx hs2 hr hl hK => ?_) fun w2 hb => ?_
  · refine J4 (Mu ?_)
    unfold Qn
    refine N3 hs2 fun b w3 σ3 hk3 hb3 => ?_
    refine X8 hk3.sat (ha.up hk3) rfl ?_
    refine Y3 hk3.sat hb3 hl ?_
    refine hf σ3 x _ w3 _ (fun b o e => hk3.le b o (hk.le b o e)) hx hk3.sat (Rep.up hk3.le hr) hl fun w4 hb4 => ?_
    (try simp only [↓Mm, Mm, ↓Mr, Mr, Mb, reduceIte])
    exact hK w4 (bt hk3.bel hb4)
  · (try simp only [↓Mm, Mm, ↓Mr, Mr, Mb, reduceIte])
    rw [Jf]
    exact h w2 (bt hk.bel hb))
theorem Tm {xs : List Fld} {v : Value} {fn : Fn} {fs cps : Array Value} (p : Fld → Bool) (hs : X6 w σ) (hv : Sl 3 D7 σ v xs)
    (hf : ∀ (σ1 : Q5) x cs (w1 : World) (K : Value → World → Prop), σ.Le σ1 → x ∈ xs → X6 w1 σ1 → D7 σ1 x cs → cs.length = 3 → (∀ w', Below w1.heap.size w1 w' → K (.bool (p x)) w') → Z7 P (.func fn fs cps) [.agg cs.toArray] w1 K)
    (h : ∀ w', Below w.heap.size w w' → K (.bool (xs.all p)) w') : Q1 P F.al [v, .func fn fs cps] w K := Dx (by
  unfold Zh
  refine N3 hs fun a w1 σ1 hk ha => ?_
  simp only [Value.cells] at ha
  ((try simp only [↓Mm, Mm, ↓Mr, Mr, Mb, reduceIte]); repeat ((first | refine ld (by assumption) (by assumption) rfl ?_ | refine X8 (by assumption) (by assumption) rfl ?_ | refine Q6 (by assumption) ?_); (try simp only [↓Mm, Mm, ↓Mr, Mr, Mb, reduceIte])))
  refine Xr (fun x => !p x) hk.sat (hv.up hk) (fun x cs w2 K hx hs2 hr hl hK => ?_) fun w2 hb => ?_
  · refine J4 (Nd ?_)
    unfold Xo
    refine N3 hs2 fun b w3 σ3 hk3 hb3 => ?_
    refine X8 hk3.sat (ha.up hk3) rfl ?_
    refine Y3 hk3.sat hb3 hl ?_
    refine hf σ3 x _ w3 _ (fun b o e => hk3.le b o (hk.le b o e)) hx hk3.sat (Rep.up hk3.le hr) hl fun w4 hb4 => ?_
    (try simp only [↓Mm, Mm, ↓Mr, Mr, Mb, reduceIte])
    exact hK w4 (bt hk3.bel hb4)
  · (try simp only [↓Mm, Mm, ↓Mr, Mr, Mb, reduceIte])
    rw [Jf]
    exact h w2 (bt hk.bel hb))
theorem Tf {xs : List Ins} {v : Value} {fn : Fn} {fs cps : Array Value} (p : Ins → Bool) (hs : X6 w σ) (hv : Sl 3 F4 σ v xs)
    (hf : ∀ (σ1 : Q5) x cs (w1 : World) (K : Value → World → Prop), σ.Le σ1 → x ∈ xs → X6 w1 σ1 → F4 σ1 x cs → cs.length = 3 → (∀ w', Below w1.heap.size w1 w' → K (.bool (p x)) w') → Z7 P (.func fn fs cps) [.agg cs.toArray] w1 K)
    (h : ∀ w', Below w.heap.size w w' → K (.bool (xs.all p)) w') : Q1 P F.an [v, .func fn fs cps] w K := Eb (by
  unfold Zj
  refine N3 hs fun a w1 σ1 hk ha => ?_
  simp only [Value.cells] at ha
  ((try simp only [↓Mm, Mm, ↓Mr, Mr, Mb, reduceIte]); repeat ((first | refine ld (by assumption) (by assumption) rfl ?_ | refine X8 (by assumption) (by assumption) rfl ?_ | refine Q6 (by assumption) ?_); (try simp only [↓Mm, Mm, ↓Mr, Mr, Mb, reduceIte])))
  refine Dr (fun x => !p x) hk.sat (hv.up hk) (fun x cs w2 K hx hs2 hr hl hK => ?_) fun w2 hb => ?_
  · refine J4 (Nv ?_)
    unfold Xk
    refine N3 hs2 fun b w3 σ3 hk3 hb3 => ?_
    refine X8 hk3.sat (ha.up hk3) rfl ?_
    refine Y3 hk3.sat hb3 hl ?_
    refine hf σ3 x _ w3 _ (fun b o e => hk3.le b o (hk.le b o e)) hx hk3.sat (Rep.up hk3.le hr) hl fun w4 hb4 => ?_
    (try simp only [↓Mm, Mm, ↓Mr, Mr, Mb, reduceIte])
    exact hK w4 (bt hk3.bel hb4)
  · (try simp only [↓Mm, Mm, ↓Mr, Mr, Mb, reduceIte])
    rw [Jf]
    exact h w2 (bt hk.bel hb))
theorem Tg {xs : List Cat} {v : Value} {fn : Fn} {fs cps : Array Value} (p : Cat → Bool) (hs : X6 w σ) (hv : Sl 4 Qs σ v xs)
    (hf : ∀ (σ1 : Q5) x cs (w1 : World) (K : Value → World → Prop), σ.Le σ1 → x ∈ xs → X6 w1 σ1 → Qs σ1 x cs → cs.length = 4 → (∀ w', Below w1.heap.size w1 w' → K (.bool (p x)) w') → Z7 P (.func fn fs cps) [.agg cs.toArray] w1 K)
    (h : ∀ w', Below w.heap.size w w' → K (.bool (xs.all p)) w') : Q1 P F.ao [v, .func fn fs cps] w K := Dy (by
  unfold Zo
  refine N3 hs fun a w1 σ1 hk ha => ?_
  simp only [Value.cells] at ha
  ((try simp only [↓Mm, Mm, ↓Mr, Mr, Mb, reduceIte]); repeat ((first | refine ld (by assumption) (by assumption) rfl ?_ | refine X8 (by assumption) (by assumption) rfl ?_ | refine Q6 (by assumption) ?_); (try simp only [↓Mm, Mm, ↓Mr, Mr, Mb, reduceIte])))
  refine Ox (fun x => !p x) hk.sat (hv.up hk) (fun x cs w2 K hx hs2 hr hl hK => ?_) fun w2 hb => ?_
  · refine J4 (Nw ?_)
    unfold Xn
    refine N3 hs2 fun b w3 σ3 hk3 hb3 => ?_
    refine X8 hk3.sat (ha.up hk3) rfl ?_
    refine Y3 hk3.sat hb3 hl ?_
    refine hf σ3 x _ w3 _ (fun b o e => hk3.le b o (hk.le b o e)) hx hk3.sat (Rep.up hk3.le hr) hl fun w4 hb4 => ?_
    (try simp only [↓Mm, Mm, ↓Mr, Mr, Mb, reduceIte])
    exact hK w4 (bt hk3.bel hb4)
  · (try simp only [↓Mm, Mm, ↓Mr, Mr, Mb, reduceIte])
    rw [Jf]
    exact h w2 (bt hk.bel hb))
theorem Rw {xs : List X0} {v : Value} {fn : Fn} {fs cps : Array Value} (p : X0 → Bool) (hs : X6 w σ) (hv : Sl 1 U5 σ v xs)
    (hf : ∀ (σ1 : Q5) x (w1 : World) (K : Value → World → Prop), σ.Le σ1 → x ∈ xs → X6 w1 σ1 → x.length ≤ W3 → (∀ w', Below w1.heap.size w1 w' → K (.bool (p x)) w') → Z7 P (.func fn fs cps) [S x] w1 K)
    (h : ∀ w', Below w.heap.size w w' → K (.bool (xs.all p)) w') : Q1 P F.a3 [v, .func fn fs cps] w K := Sj (by
  unfold Wd
  refine N3 hs fun a w1 σ1 hk ha => ?_
  simp only [Value.cells] at ha
  ((try simp only [↓Mm, Mm, ↓Mr, Mr, Mb, reduceIte]); repeat ((first | refine ld (by assumption) (by assumption) rfl ?_ | refine X8 (by assumption) (by assumption) rfl ?_ | refine Q6 (by assumption) ?_); (try simp only [↓Mm, Mm, ↓Mr, Mr, Mb, reduceIte])))
  refine C5 (fun x => !p x) hk.sat (hv.up hk) (fun x w2 K hx hs2 hr hK => ?_) fun w2 hb => ?_
  · refine J4 (Hr ?_)
    unfold Jg
    refine X8 hs2 ha rfl ?_
    refine hf σ1 x w2 _ hk.le hx hs2 hr fun w4 hb4 => ?_
    (try simp only [↓Mm, Mm, ↓Mr, Mr, Mb, reduceIte])
    exact hK w4 hb4
  · (try simp only [↓Mm, Mm, ↓Mr, Mr, Mb, reduceIte])
    rw [Jf]
    exact h w2 (bt hk.bel hb))
theorem Th {xs : List Hm.Met} {v : Value} {fn : Fn} {fs cps : Array Value} (f : Hm.Met → X0) (hs : X6 w σ) (hv : Sl 7 N0 σ v xs)
    (hf : ∀ (σ1 : Q5) x cs (w1 : World) (K : Value → World → Prop), σ.Le σ1 → X6 w1 σ1 → N0 σ1 x cs → cs.length = 7 → (∀ w', Below w1.heap.size w1 w' → K (S (f x)) w') → Z7 P (.func fn fs cps) [.agg cs.toArray] w1 K)
    (h : ∀ w', Below w.heap.size w w' → K (.bool (E6 f [] xs)) w') : Q1 P F.ak [v, .func fn fs cps] w K := Ea (by
  unfold Zn
  refine N3 hs fun a w1 σ1 hk ha => ?_
  simp only [Value.cells] at ha
  have hs1 := hk.sat
  replace hv := hv.up hk
  ((try simp only [↓Mm, Mm, ↓Mr, Mr, Mb, reduceIte]); repeat ((first | refine ld (by assumption) (by assumption) rfl ?_ | refine X8 (by assumption) (by assumption) rfl ?_ | refine Q6 (by assumption) ?_); (try simp only [↓Mm, Mm, ↓Mr, Mr, Mb, reduceIte])))
  refine V1 xs.length (fun n w' => Below w1.heap.size w1 w' ∧ E6 f [] xs = E6 f (xs.take n) (xs.drop n)) ⟨Below.refl _ _, rfl⟩ fun n w2 d hn hi => ?_
  obtain ⟨hb, he⟩ := hi
  have hs2 := hs1.below hb
  ((try simp only [↓Mm, Mm, ↓Mr, Mr, Mb, reduceIte]); repeat ((first | refine ld (by assumption) (by assumption) rfl ?_ | refine X8 (by assumption) (by assumption) rfl ?_ | refine Q6 (by assumption) ?_); (try simp only [↓Mm, Mm, ↓Mr, Mr, Mb, reduceIte])))
  refine Q4 (fun hc => ?_) (fun hc => ?_)
  · have hn' : n < xs.length := by simpa using hc
    rw [List.drop_eq_getElem_cons hn'] at he
    simp only [E6] at he
    refine L2 hv hn' fun p cs hl hlen hr => ?_
    refine Y3 hs2 hl hlen ?_
    refine Y0 hs2 (by rfl) hlen (Rep.one hr) fun q w3 σ3 hk3 hq => ?_
    refine Ru (hv.up hk3) none (some (I n)) 0 n (.inl ⟨rfl, rfl⟩) (.inr rfl) (by omega) (by omega) fun v' hv' => ?_
    ((try simp only [↓Mm, Mm, ↓Mr, Mr, Mb, reduceIte]); repeat ((first | refine ld (by assumption) (by assumption) rfl ?_ | refine X8 (by assumption) (by assumption) rfl ?_ | refine Q6 (by assumption) ?_); (try simp only [↓Mm, Mm, ↓Mr, Mr, Mb, reduceIte])))
    refine H6 (fun y => decide (f y = f xs[n])) hk3.sat hv' (fun y ys w4 K hy hs4 hry hyl hK => ?_) fun w4 hb4 => ?_
    · refine J4 (Nt ?_)
      unfold Xl
      refine N3 hs4 fun b w5 σ5 hk5 hb5 => ?_
      have ha5 := (ha.up hk3).up hk5
      have hq5 := hq.up hk5
      have hle5 : σ.Le σ5 := fun b o e => hk5.le b o (hk3.le b o (hk.le b o e))
      refine Ln (Below.refl _ _) ?_
      refine X2 (.func fn fs cps) (fun w hb => X8 (hk5.sat.below hb) ha5 rfl (X5 rfl)) ?_
      refine X2 (.agg ys.toArray) (fun w hb => Y3 (hk5.sat.below hb) hb5 hyl (X5 rfl)) ?_
      refine X2 (S (f y)) (fun t t' w hb e e' => by rw [e, e']; exact hf σ5 y ys w _ hle5 (hk5.sat.below hb) (Rep.up hk5.le hry) hyl fun w' hb' => Q0A hb' rfl) ?_
      refine X2 (.func fn fs cps) (fun w hb => X8 (hk5.sat.below hb) ha5 rfl (X5 rfl)) ?_
      refine X2 (.agg cs.toArray) (fun w hb => Y3 (hk5.sat.below hb) hq5 hlen (X5 rfl)) ?_
      rintro _ _ _ _ _ w6 hb6 rfl rfl rfl rfl rfl
      refine hf σ5 xs[n] cs w6 _ hle5 (hk5.sat.below hb6) (Rep.up (fun b o e => hk5.le b o (hk3.le b o e)) hr) hlen fun w7 hb7 => ?_
      (try simp only [↓Mm, Mm, ↓Mr, Mr, Mb, reduceIte])
      exact hK w7 (bt (bt hk5.bel hb6) hb7)
    · have hb4' := bt hb (bt hk3.bel hb4)
      simp only [List.drop_zero, Nat.sub_zero] at *
      refine Q4 (fun hh => ?_) (fun hh => ?_)
      · rw [hh] at he
        have := h w4 (bt hk.bel hb4')
        rw [he] at this; exact this
      · rw [hh] at he
        ((try simp only [↓Mm, Mm, ↓Mr, Mr, Mb, reduceIte]); repeat ((first | refine ld (by assumption) (by assumption) rfl ?_ | refine X8 (by assumption) (by assumption) rfl ?_ | refine Q6 (by assumption) ?_); (try simp only [↓Mm, Mm, ↓Mr, Mr, Mb, reduceIte])))
        refine Y5 hv.max hn' ⟨hb4', ?_⟩
        rw [he, List.take_add_one, List.getElem?_eq_getElem hn']; rfl
  · have hn' : ¬ n < xs.length := by simpa using hc
    rw [List.drop_eq_nil_of_le (by omega)] at he
    have := h w2 (bt hk.bel hb)
    rw [he] at this; exact this)
theorem Aw {xs : List Fld} {v : Value} {fn : Fn} {fs cps : Array Value} (f : Fld → X0) (hs : X6 w σ) (hv : Sl 3 D7 σ v xs)
    (hf : ∀ (σ1 : Q5) x cs (w1 : World) (K : Value → World → Prop), σ.Le σ1 → X6 w1 σ1 → D7 σ1 x cs → cs.length = 3 → (∀ w', Below w1.heap.size w1 w' → K (S (f x)) w') → Z7 P (.func fn fs cps) [.agg cs.toArray] w1 K)
    (h : ∀ w', Below w.heap.size w w' → K (.bool (E6 f [] xs)) w') : Q1 P F.au [v, .func fn fs cps] w K := Hi (by
  unfold Jd
  refine N3 hs fun a w1 σ1 hk ha => ?_
  simp only [Value.cells] at ha
  have hs1 := hk.sat
  replace hv := hv.up hk
  ((try simp only [↓Mm, Mm, ↓Mr, Mr, Mb, reduceIte]); repeat ((first | refine ld (by assumption) (by assumption) rfl ?_ | refine X8 (by assumption) (by assumption) rfl ?_ | refine Q6 (by assumption) ?_); (try simp only [↓Mm, Mm, ↓Mr, Mr, Mb, reduceIte])))
  refine V1 xs.length (fun n w' => Below w1.heap.size w1 w' ∧ E6 f [] xs = E6 f (xs.take n) (xs.drop n)) ⟨Below.refl _ _, rfl⟩ fun n w2 d hn hi => ?_
  obtain ⟨hb, he⟩ := hi
  have hs2 := hs1.below hb
  ((try simp only [↓Mm, Mm, ↓Mr, Mr, Mb, reduceIte]); repeat ((first | refine ld (by assumption) (by assumption) rfl ?_ | refine X8 (by assumption) (by assumption) rfl ?_ | refine Q6 (by assumption) ?_); (try simp only [↓Mm, Mm, ↓Mr, Mr, Mb, reduceIte])))
  refine Q4 (fun hc => ?_) (fun hc => ?_)
  · have hn' : n < xs.length := by simpa using hc
    rw [List.drop_eq_getElem_cons hn'] at he
    simp only [E6] at he
    refine L2 hv hn' fun p cs hl hlen hr => ?_
    refine Y3 hs2 hl hlen ?_
    refine Y0 hs2 (by rfl) hlen (Rep.one hr) fun q w3 σ3 hk3 hq => ?_
    refine Ru (hv.up hk3) none (some (I n)) 0 n (.inl ⟨rfl, rfl⟩) (.inr rfl) (by omega) (by omega) fun v' hv' => ?_
    ((try simp only [↓Mm, Mm, ↓Mr, Mr, Mb, reduceIte]); repeat ((first | refine ld (by assumption) (by assumption) rfl ?_ | refine X8 (by assumption) (by assumption) rfl ?_ | refine Q6 (by assumption) ?_); (try simp only [↓Mm, Mm, ↓Mr, Mr, Mb, reduceIte])))
    refine Xr (fun y => decide (f y = f xs[n])) hk3.sat hv' (fun y ys w4 K hy hs4 hry hyl hK => ?_) fun w4 hb4 => ?_
    · refine J4 (Dg ?_)
      unfold Yo
      refine N3 hs4 fun b w5 σ5 hk5 hb5 => ?_
      have ha5 := (ha.up hk3).up hk5
      have hq5 := hq.up hk5
      have hle5 : σ.Le σ5 := fun b o e => hk5.le b o (hk3.le b o (hk.le b o e))
      refine Ln (Below.refl _ _) ?_
      refine X2 (.func fn fs cps) (fun w hb => X8 (hk5.sat.below hb) ha5 rfl (X5 rfl)) ?_
      refine X2 (.agg ys.toArray) (fun w hb => Y3 (hk5.sat.below hb) hb5 hyl (X5 rfl)) ?_
      refine X2 (S (f y)) (fun t t' w hb e e' => by rw [e, e']; exact hf σ5 y ys w _ hle5 (hk5.sat.below hb) (Rep.up hk5.le hry) hyl fun w' hb' => Q0A hb' rfl) ?_
      refine X2 (.func fn fs cps) (fun w hb => X8 (hk5.sat.below hb) ha5 rfl (X5 rfl)) ?_
      refine X2 (.agg cs.toArray) (fun w hb => Y3 (hk5.sat.below hb) hq5 hlen (X5 rfl)) ?_
      rintro _ _ _ _ _ w6 hb6 rfl rfl rfl rfl rfl
      refine hf σ5 xs[n] cs w6 _ hle5 (hk5.sat.below hb6) (Rep.up (fun b o e => hk5.le b o (hk3.le b o e)) hr) hlen fun w7 hb7 => ?_
      (try simp only [↓Mm, Mm, ↓Mr, Mr, Mb, reduceIte])
      exact hK w7 (bt (bt hk5.bel hb6) hb7)
    · have hb4' := bt hb (bt hk3.bel hb4)
      simp only [List.drop_zero, Nat.sub_zero] at *
      refine Q4 (fun hh => ?_) (fun hh => ?_)
      · rw [hh] at he
        have := h w4 (bt hk.bel hb4')
        rw [he] at this; exact this
      · rw [hh] at he
        ((try simp only [↓Mm, Mm, ↓Mr, Mr, Mb, reduceIte]); repeat ((first | refine ld (by assumption) (by assumption) rfl ?_ | refine X8 (by assumption) (by assumption) rfl ?_ | refine Q6 (by assumption) ?_); (try simp only [↓Mm, Mm, ↓Mr, Mr, Mb, reduceIte])))
        refine Y5 hv.max hn' ⟨hb4', ?_⟩
        rw [he, List.take_add_one, List.getElem?_eq_getElem hn']; rfl
  · have hn' : ¬ n < xs.length := by simpa using hc
    rw [List.drop_eq_nil_of_le (by omega)] at he
    have := h w2 (bt hk.bel hb)
    rw [he] at this; exact this)
theorem Q1W {xs : List X0} {v : Value} {fn : Fn} {fs cps : Array Value} (f : X0 → X0) (hs : X6 w σ) (hv : Sl 1 U5 σ v xs)
    (hf : ∀ (σ1 : Q5) x (w1 : World) (K : Value → World → Prop), σ.Le σ1 → X6 w1 σ1 → x.length ≤ W3 → (∀ w', Below w1.heap.size w1 w' → K (S (f x)) w') → Z7 P (.func fn fs cps) [S x] w1 K)
    (h : ∀ w', Below w.heap.size w w' → K (.bool (E6 f [] xs)) w') : Q1 P F.aG [v, .func fn fs cps] w K := Fq (by
  unfold Li
  refine N3 hs fun a w1 σ1 hk ha => ?_
  simp only [Value.cells] at ha
  have hs1 := hk.sat
  replace hv := hv.up hk
  ((try simp only [↓Mm, Mm, ↓Mr, Mr, Mb, reduceIte]); repeat ((first | refine ld (by assumption) (by assumption) rfl ?_ | refine X8 (by assumption) (by assumption) rfl ?_ | refine Q6 (by assumption) ?_); (try simp only [↓Mm, Mm, ↓Mr, Mr, Mb, reduceIte])))
  refine V1 xs.length (fun n w' => Below w1.heap.size w1 w' ∧ E6 f [] xs = E6 f (xs.take n) (xs.drop n)) ⟨Below.refl _ _, rfl⟩ fun n w2 d hn hi => ?_
  obtain ⟨hb, he⟩ := hi
  have hs2 := hs1.below hb
  ((try simp only [↓Mm, Mm, ↓Mr, Mr, Mb, reduceIte]); repeat ((first | refine ld (by assumption) (by assumption) rfl ?_ | refine X8 (by assumption) (by assumption) rfl ?_ | refine Q6 (by assumption) ?_); (try simp only [↓Mm, Mm, ↓Mr, Mr, Mb, reduceIte])))
  refine Q4 (fun hc => ?_) (fun hc => ?_)
  · have hn' : n < xs.length := by simpa using hc
    rw [List.drop_eq_getElem_cons hn'] at he
    simp only [E6] at he
    refine L2 hv hn' fun p cs hl hlen hr => ?_
    obtain ⟨rfl, hbig⟩ := hr
    refine X8 hs2 hl rfl ?_
    refine U1 hs2 (by rfl) rfl rfl fun q w3 σ3 hk3 hq => ?_
    refine Ru (hv.up hk3) none (some (I n)) 0 n (.inl ⟨rfl, rfl⟩) (.inr rfl) (by omega) (by omega) fun v' hv' => ?_
    ((try simp only [↓Mm, Mm, ↓Mr, Mr, Mb, reduceIte]); repeat ((first | refine ld (by assumption) (by assumption) rfl ?_ | refine X8 (by assumption) (by assumption) rfl ?_ | refine Q6 (by assumption) ?_); (try simp only [↓Mm, Mm, ↓Mr, Mr, Mb, reduceIte])))
    refine C5 (fun y => decide (f y = f xs[n])) hk3.sat hv' (fun y w4 K hy hs4 hry hK => ?_) fun w4 hb4 => ?_
    · refine J4 (Ri ?_)
      unfold Jz
      have ha5 := ha.up hk3
      have hle5 : σ.Le σ3 := fun b o e => hk3.le b o (hk.le b o e)
      refine Ln (Below.refl _ _) ?_
      refine X2 (.func fn fs cps) (fun w hb => X8 (hs4.below hb) ha5 rfl (X5 rfl)) ?_
      refine X2 (S (f y)) (fun t w hb e => by rw [e]; exact hf σ3 y w _ hle5 (hs4.below hb) hry fun w' hb' => Q0A hb' rfl) ?_
      refine X2 (.func fn fs cps) (fun w hb => X8 (hs4.below hb) ha5 rfl (X5 rfl)) ?_
      refine X2 (S xs[n]) (fun w hb => X8 (hs4.below hb) hq rfl (X5 rfl)) ?_
      rintro _ _ _ _ w6 hb6 rfl rfl rfl rfl
      refine hf σ3 xs[n] w6 _ hle5 (hs4.below hb6) hbig fun w7 hb7 => ?_
      (try simp only [↓Mm, Mm, ↓Mr, Mr, Mb, reduceIte])
      exact hK w7 (bt hb6 hb7)
    · have hb4' := bt hb (bt hk3.bel hb4)
      simp only [List.drop_zero, Nat.sub_zero] at *
      refine Q4 (fun hh => ?_) (fun hh => ?_)
      · rw [hh] at he
        have := h w4 (bt hk.bel hb4')
        rw [he] at this; exact this
      · rw [hh] at he
        ((try simp only [↓Mm, Mm, ↓Mr, Mr, Mb, reduceIte]); repeat ((first | refine ld (by assumption) (by assumption) rfl ?_ | refine X8 (by assumption) (by assumption) rfl ?_ | refine Q6 (by assumption) ?_); (try simp only [↓Mm, Mm, ↓Mr, Mr, Mb, reduceIte])))
        refine Y5 hv.max hn' ⟨hb4', ?_⟩
        rw [he, List.take_add_one, List.getElem?_eq_getElem hn']; rfl
  · have hn' : ¬ n < xs.length := by simpa using hc
    rw [List.drop_eq_nil_of_le (by omega)] at he
    have := h w2 (bt hk.bel hb)
    rw [he] at this; exact this)
theorem Q3O {P : Program} {w : World} (d : Nat) (t e : TypeId) (a : Option Addr) (n c : Nat) (h : P.underlying t = some (.slice e)) :
    (Op.equalIn (d + 1) t (.slice a n c) (.slice none 0 0)).run P w = .ok a.isNone w := by
  cases a <;> simp [Op.equalIn, run_underlying h]
theorem Ta {t e : TypeId} {ox oy : Operand} [ts : TS P t e] {a : Option Addr} {n cap : Nat} {b : Bool} (hb : a.isNone = b) (hk : K (.bool b) w) : Q3 P .eql t ox oy (.slice a n cap) (.slice none 0 0) w K := by
  have h1 : (Op.equal t (.slice a n cap) (.slice none 0 0)).run P w = .ok b w := by
    have := Q3O (P := P) (w := w) 9999 t e a n cap ts.h
    rw [hb] at this
    exact this
  unfold Q3
  rw [X9 (v := .bool b) (w' := w) (by simp [eqGuard, Go.binOp, h1])]
  exact hk
theorem Jt {xs : List X0} {v : Value} (hs : X6 w σ) (hv : Sl 1 U5 σ v xs) (hl : xs.length ≤ 1000000)
    (h : ∀ v' w' σ', Stp w σ w' σ' → Sl 1 U5 σ' v' xs → K v' w') : Q1 P F.a0 [v] w K := Vg (by
  unfold I5
  have hv0 := hv
  obtain ⟨a, cap, rfl, h2, h3, h4, h5⟩ := hv
  refine Ta rfl ?_
  refine Q4 (fun hc => ?_) (fun hc => ?_)
  · have : a = none := by simpa using hc
    have h0 := h4 this
    have hx : xs = [] := List.eq_nil_of_length_eq_zero (by omega)
    subst hx
    exact h _ w σ (Stp.refl hs) Sl.nil
  · refine Qt (R := U5) (sz := 1) (Stp.refl hs) [] [] rfl rfl (by simp) (by rfl) trivial fun v1 w1 hk ha _ => ?_
    refine app hk ha hv0 (by rfl) (by simp only [List.length_nil]; omega) (by simp only [List.length_nil]; omega) fun v2 w2 hg hS ha2 _ => ?_
    obtain ⟨σ', q1, q2, _⟩ := ha2.keep hS
    exact h _ w2 σ' q1 q2)
theorem Mj {xs : List Fld} {v : Value} (hs : X6 w σ) (hv : Sl 3 D7 σ v xs) (hl : xs.length ≤ 1000000)
    (h : ∀ v' w' σ', Stp w σ w' σ' → Sl 3 D7 σ' v' xs → K v' w') : Q1 P F.a5 [v] w K := Yi (by
  unfold S9
  have hv0 := hv
  obtain ⟨a, cap, rfl, h2, h3, h4, h5⟩ := hv
  refine Ta rfl ?_
  refine Q4 (fun hc => ?_) (fun hc => ?_)
  · have : a = none := by simpa using hc
    have h0 := h4 this
    have hx : xs = [] := List.eq_nil_of_length_eq_zero (by omega)
    subst hx
    exact h _ w σ (Stp.refl hs) Sl.nil
  · refine Qt (R := D7) (sz := 3) (Stp.refl hs) [] [] rfl rfl (by simp) (by rfl) trivial fun v1 w1 hk ha _ => ?_
    refine app hk ha hv0 (by rfl) (by simp only [List.length_nil]; omega) (by simp only [List.length_nil]; omega) fun v2 w2 hg hS ha2 _ => ?_
    obtain ⟨σ', q1, q2, _⟩ := ha2.keep hS
    exact h _ w2 σ' q1 q2)
theorem Lu {xs : List Ins} {v : Value} (hs : X6 w σ) (hv : Sl 3 F4 σ v xs) (hl : xs.length ≤ 1000000)
    (h : ∀ v' w' σ', Stp w σ w' σ' → Sl 3 F4 σ' v' xs → K v' w') : Q1 P F.a6 [v] w K := Ym (by
  unfold C0
  have hv0 := hv
  obtain ⟨a, cap, rfl, h2, h3, h4, h5⟩ := hv
  refine Ta rfl ?_
  refine Q4 (fun hc => ?_) (fun hc => ?_)
  · have : a = none := by simpa using hc
    have h0 := h4 this
    have hx : xs = [] := List.eq_nil_of_length_eq_zero (by omega)
    subst hx
    exact h _ w σ (Stp.refl hs) Sl.nil
  · refine Qt (R := F4) (sz := 3) (Stp.refl hs) [] [] rfl rfl (by simp) (by rfl) trivial fun v1 w1 hk ha _ => ?_
    refine app hk ha hv0 (by rfl) (by simp only [List.length_nil]; omega) (by simp only [List.length_nil]; omega) fun v2 w2 hg hS ha2 _ => ?_
    obtain ⟨σ', q1, q2, _⟩ := ha2.keep hS
    exact h _ w2 σ' q1 q2)
theorem Mn {xs : List Cat} {v : Value} (hs : X6 w σ) (hv : Sl 4 Qs σ v xs) (hl : xs.length ≤ 1000000)
    (h : ∀ v' w' σ', Stp w σ w' σ' → Sl 4 Qs σ' v' xs → K v' w') : Q1 P F.a7 [v] w K := Xu (by
  unfold C1
  have hv0 := hv
  obtain ⟨a, cap, rfl, h2, h3, h4, h5⟩ := hv
  refine Ta rfl ?_
  refine Q4 (fun hc => ?_) (fun hc => ?_)
  · have : a = none := by simpa using hc
    have h0 := h4 this
    have hx : xs = [] := List.eq_nil_of_length_eq_zero (by omega)
    subst hx
    exact h _ w σ (Stp.refl hs) Sl.nil
  · refine Qt (R := Qs) (sz := 4) (Stp.refl hs) [] [] rfl rfl (by simp) (by rfl) trivial fun v1 w1 hk ha _ => ?_
    refine app hk ha hv0 (by rfl) (by simp only [List.length_nil]; omega) (by simp only [List.length_nil]; omega) fun v2 w2 hg hS ha2 _ => ?_
    obtain ⟨σ', q1, q2, _⟩ := ha2.keep hS
    exact h _ w2 σ' q1 q2)
end Go.Proofs.YtdnfaboigajkhaaGreatDoor

namespace Go.Hm
open Go.Kd
structure Opr where
  name : X0
  number : Bool
  text : Bool
deriving DecidableEq
def Xy : List Opr := [
  ⟨[105, 110, 116], true, false⟩,
  ⟨[116, 114, 117, 101], false, false⟩,
  ⟨[102, 97, 108, 115, 101], false, false⟩,
  ⟨[119, 111, 114, 100], false, true⟩,
  ⟨[110, 117, 108, 108], false, false⟩,
  ⟨[108, 111, 97, 100], true, false⟩,
  ⟨[115, 116, 111, 114, 101], true, false⟩,
  ⟨[112, 111, 112], false, false⟩,
  ⟨[100, 117, 112], false, false⟩,
  ⟨[115, 119, 97, 112], false, false⟩,
  ⟨[97, 100, 100], false, false⟩,
  ⟨[115, 117, 98], false, false⟩,
  ⟨[109, 117, 108], false, false⟩,
  ⟨[100, 105, 118], false, false⟩,
  ⟨[114, 101, 109], false, false⟩,
  ⟨[110, 101, 103], false, false⟩,
  ⟨[108, 101, 115, 115], false, false⟩,
  ⟨[115, 97, 109, 101], false, false⟩,
  ⟨[110, 111, 116], false, false⟩,
  ⟨[98, 111, 116, 104], false, false⟩,
  ⟨[106, 111, 105, 110], false, false⟩,
  ⟨[115, 105, 122, 101], false, false⟩,
  ⟨[106, 117, 109, 112], true, false⟩,
  ⟨[98, 114, 97, 110, 99, 104], true, false⟩,
  ⟨[110, 101, 119], false, true⟩,
  ⟨[103, 101, 116], false, true⟩,
  ⟨[112, 117, 116], false, true⟩,
  ⟨[99, 97, 108, 108], false, true⟩,
  ⟨[97, 114, 114, 97, 121], false, true⟩,
  ⟨[97, 116], false, false⟩,
  ⟨[115, 101, 116], false, false⟩,
  ⟨[105, 115], false, true⟩,
  ⟨[99, 97, 115, 116], false, true⟩,
  ⟨[114, 101, 116, 117, 114, 110], false, false⟩,
  ⟨[116, 104, 114, 111, 119], false, false⟩,
  ⟨[111, 117, 116], false, false⟩,
  ⟨[101, 113, 117, 97, 108], false, false⟩,
  ⟨[97, 110, 100], false, false⟩,
  ⟨[111, 114], false, false⟩,
  ⟨[120, 111, 114], false, false⟩,
  ⟨[115, 104, 108], false, false⟩,
  ⟨[115, 104, 114], false, false⟩]
end Go.Hm
namespace Go.Emb
open Go.Hm
def ROp (_ : Q5) (o : Opr) (cs : List Value) : Prop := cs = [S o.name, .bool o.number, .bool o.text]
def Tu (o : Opr) : List Value := [S o.name, .bool o.number, .bool o.text]
instance : Rep ROp := ⟨fun _ h => h, fun h u hu => by rw [h] at hu; simp at hu; rcases hu with rfl | rfl | rfl <;> rfl⟩
end Go.Emb
namespace Go.Proofs.YtdnfaboigajkhaaGreatDoor
open Go.Emb Go.RowKit Go.Kd Go.Hm
variable {w : World} {K : Value → World → Prop} {σ : Q5}
theorem Q2X {a : X0} (ha : a.length ≤ W3) (h : ∀ w', Below w.heap.size w w' → K (.bool (M7 a)) w') : Q1 P F.bq [S a] w K := Q0X (by
  unfold Rd
  have ha' : a.length ≤ 140737488355328 := by simp only [W3] at ha; omega
  refine Q2k a ha' fun w1 h1 => ?_
  cases hn : name a
  · (try simp only [↓Mm, Mm, ↓Mr, Mr, Mb, reduceIte])
    have := h w1 h1
    rwa [show M7 a = false by cases a with | nil => rfl | cons c r => simp [M7, hn]] at this
  · (try simp only [↓Mm, Mm, ↓Mr, Mr, Mb, reduceIte])
    refine Nz a ha' fun w2 h2 => ?_
    (try simp only [↓Mm, Mm, ↓Mr, Mr, Mb, reduceIte])
    have := h w2 (bt h1 h2)
    rwa [show M7 a = !L3 a by
      cases a with
      | nil => simp [name] at hn
      | cons c r =>
        obtain ⟨q1, q2⟩ := Cu hn
        simp only [L3, M7, hn, Bool.true_and]
        simp only [D9, q2, Bool.or_false] at q1
        cases hg : P4 c.toNat <;> cases hs : G1 c.toNat
        · simp [hg, hs] at q1
        · rfl
        · rfl
        · exfalso
          simp only [P4, G1, Bool.and_eq_true, decide_eq_true_eq] at hg hs
          omega] at this)
theorem Q8e {t e : TypeId} {n sz by_ : Nat} {z : Value} [ta : TA P t n e] [tz : TZ P e sz by_ z] {a : Addr} (hk : K (.slice (some a) n n) w) : R7 P t (.pointer (some a)) none none none w K := by
  unfold R7
  have : (Instr.sliceAt t (.pointer (some a)) none none none).run P w = .ok (.slice (some (if n = 0 then a else a.add (0 * sz))) (n - 0) (n - 0)) w := by
    simp [Instr.sliceAt, run_underlying ta.h, Instr.sureAddr, Instr.sliceBounds, M1 tz]
  rw [X9 this]
  have e1 : (if n = 0 then a else a.add (0 * sz)) = a := by
    by_cases h : n = 0
    · rw [if_pos h]
    · rw [if_neg h, Nat.zero_mul, add_zero]
  rw [e1]; exact hk
def Am (σ : Q5) : Prop := U0 σ ⟨G.a, 0, none⟩ (Xy.flatMap Tu)
theorem Q4n (i : Nat) (o : Opr) (h : Xy[i]? = some o) : ((Xy.flatMap Tu).drop (i * 3)).take 3 = Tu o := by
  have hi : i < 42 := (List.getElem?_eq_some_iff.1 h).1
  have key : ∀ l : List Opr, ∀ i o, l[i]? = some o → ((l.flatMap Tu).drop (i * 3)).take 3 = Tu o := by
    intro l
    induction l with
    | nil => intro i o h; simp at h
    | cons a r ih =>
      intro i o h
      cases i with
      | zero => simp at h; subst h; rfl
      | succ i =>
        have := ih i o (by simpa using h)
        rw [List.flatMap_cons, show (i + 1) * 3 = (Tu a).length + i * 3 by simp [Tu]; omega, List.drop_append]
        simpa [List.drop_eq_nil_of_le] using this
  exact key _ i o h
theorem Q0m {σ : Q5} {a : Addr} {cs : List Value} (h : U0 σ a cs) (i n : Nat) : U0 σ (a.add i) ((cs.drop i).take n) := by
  obtain ⟨h1, D6, e, fr, h2, h3⟩ := h
  refine ⟨F2 h1 _, D6, e, fr, by rw [R6]; exact h2, fun j v hv => ?_⟩
  rw [List.getElem?_take] at hv
  split at hv
  · rw [List.getElem?_drop] at hv
    rw [Qx, Nat.add_assoc]; exact h3 _ _ hv
  · cases hv
theorem Q8O (h : Am σ) : Sl 3 ROp σ (.slice (some ⟨G.a, 0, none⟩) 42 42) Xy := by
  refine ⟨_, 42, rfl, by decide, by decide, by simp, ?_⟩
  rintro _ ⟨⟩
  refine ⟨fun _ => rfl, fun i x hx => ⟨Tu x, ?_, rfl, rfl⟩⟩
  rw [← Q4n i x hx]
  exact Q0m h (i * 3) 3
theorem Gr {β : Type} {xs : List Opr} {v f : Value} (stp : β → Opr → Bool × β) (s0 : β) (Inv : β → World → Prop) (D : Nat → Prop) (hsat : ∀ s w, Inv s w → X6 w σ) (h0 : Inv s0 w) (hv : Sl 3 ROp σ v xs)
    (hf : ∀ s x cs (w1 : World) (K : Value → World → Prop), x ∈ xs → Kpt D w w1 → Inv s w1 → ROp σ x cs → cs.length = 3 → (∀ w', Kpt D w w' → Inv (stp s x).2 w' → K (.bool (stp s x).1) w') → Z7 P f [.agg cs.toArray] w1 K)
    (h : ∀ w', Kpt D w w' → Inv (V0 stp s0 xs 0).2 w' → K (I (L6 (V0 stp s0 xs 0).1)) w') : Q1 P F.p [v, f] w K := Xz (by
  unfold C2
  ((try simp only [↓Mm, Mm, ↓Mr, Mr, Mb, reduceIte]); repeat ((first | refine ld (by assumption) (by assumption) rfl ?_ | refine X8 (by assumption) (by assumption) rfl ?_ | refine Q6 (by assumption) ?_); (try simp only [↓Mm, Mm, ↓Mr, Mr, Mb, reduceIte])))
  refine V1 xs.length (fun n w' => Kpt D w w' ∧ ∃ s, Inv s w' ∧ V0 stp s0 xs 0 = V0 stp s (xs.drop n) n) ⟨Kpt.refl, s0, h0, rfl⟩ fun n w1 d hn hi => ?_
  obtain ⟨hk, s, hi, he⟩ := hi
  have hs1 := hsat s w1 hi
  ((try simp only [↓Mm, Mm, ↓Mr, Mr, Mb, reduceIte]); repeat ((first | refine ld (by assumption) (by assumption) rfl ?_ | refine X8 (by assumption) (by assumption) rfl ?_ | refine Q6 (by assumption) ?_); (try simp only [↓Mm, Mm, ↓Mr, Mr, Mb, reduceIte])))
  refine Q4 (fun hc => ?_) (fun hc => ?_)
  · have hn' : n < xs.length := by simpa using hc
    refine L2 hv hn' fun p cs hl hlen hr => ?_
    refine Y3 hs1 hl hlen ?_
    refine hf s xs[n] cs w1 _ (List.getElem_mem hn') hk hi hr hlen fun w2 hk2 hi2 => ?_
    rw [List.drop_eq_getElem_cons hn'] at he
    simp only [V0] at he
    refine Q4 (fun hb => ?_) (fun hb => ?_)
    · rw [hb] at he
      have := h w2 hk2
      rw [he] at this
      exact this hi2
    · rw [hb] at he
      ((try simp only [↓Mm, Mm, ↓Mr, Mr, Mb, reduceIte]); repeat ((first | refine ld (by assumption) (by assumption) rfl ?_ | refine X8 (by assumption) (by assumption) rfl ?_ | refine Q6 (by assumption) ?_); (try simp only [↓Mm, Mm, ↓Mr, Mr, Mb, reduceIte])))
      exact Y5 hv.max hn' ⟨hk2, _, hi2, by simpa using he⟩
  · have hn' : ¬ n < xs.length := by simpa using hc
    rw [List.drop_eq_nil_of_le (by omega)] at he
    have := h w1 hk
    rw [he] at this
    exact this hi)
theorem Fm {xs : List Opr} {v f : Value} (p : Opr → Bool) (hs : X6 w σ) (hv : Sl 3 ROp σ v xs)
    (hf : ∀ x cs (w1 : World) (K : Value → World → Prop), x ∈ xs → X6 w1 σ → ROp σ x cs → cs.length = 3 → (∀ w', Below w1.heap.size w1 w' → K (.bool (p x)) w') → Z7 P f [.agg cs.toArray] w1 K)
    (h : ∀ w', Below w.heap.size w w' → K (I (L6 (xs.findIdx? p))) w') : Q1 P F.p [v, f] w K := by
  refine Gr (fun (_ : Unit) x => (p x, ())) () (fun _ w' => Below w.heap.size w w') (fun _ => False) (fun _ w' hb => hs.below hb) (Below.refl _ _) hv (fun s x cs w1 K hx hk hi hr hl hK => hf x cs w1 K hx (hs.below hi) hr hl fun w' hb => hK w' (.of_below (bt hi hb)) (bt hi hb)) fun w' hk hi => ?_
  rw [I1]
  simpa using h w' hi
theorem Am.le {σ σ' : Q5} (h : Am σ) (hk : ∀ b o, σ b = some o → σ' b = some o) : Am σ' := U0.le h hk
def I9 (n : X0) : Option Nat := Xy.findIdx? fun o => decide (o.name = n)
theorem Q8M {a : X0} (hs : X6 w σ) (hg : Am σ) (h : ∀ w', Below w.heap.size w w' → K (I (L6 (I9 a))) w') : Q1 P F.ce [S a] w K := Q47 (by
  unfold Ab
  refine N3 hs fun p w1 σ1 hk hp => ?_
  simp only [Value.cells] at hp
  refine Q8e ?_
  ((try simp only [↓Mm, Mm, ↓Mr, Mr, Mb, reduceIte]); repeat ((first | refine ld (by assumption) (by assumption) rfl ?_ | refine X8 (by assumption) (by assumption) rfl ?_ | refine Q6 (by assumption) ?_); (try simp only [↓Mm, Mm, ↓Mr, Mr, Mb, reduceIte])))
  refine Fm (fun o => decide (o.name = a)) hk.sat (Q8O (hg.le hk.le)) (fun x cs w2 K hx hs2 hr hl hK => ?_) fun w2 hb => ?_
  · refine J4 (Q1V ?_)
    unfold Fh
    refine N3 hs2 fun q w3 σ3 hk3 hq => ?_
    have hr' : cs = [S x.name, .bool x.number, .bool x.text] := hr
    subst hr'
    have hs3 := hk3.sat
    have hp3 := hp.up hk3
    simp only [Value.cells] at hq
    ((try simp only [↓Mm, Mm, ↓Mr, Mr, Mb, reduceIte]); repeat ((first | refine ld (by assumption) (by assumption) rfl ?_ | refine X8 (by assumption) (by assumption) rfl ?_ | refine Q6 (by assumption) ?_); (try simp only [↓Mm, Mm, ↓Mr, Mr, Mb, reduceIte])))
    exact hK w3 hk3.bel
  · (try simp only [↓Mm, Mm, ↓Mr, Mr, Mb, reduceIte])
    exact h w2 (bt hk.bel hb))
def D4 (n : X0) : Bool × Bool × Bool := match I9 n with
  | none => (false, false, false)
  | some i => ((Xy.getD i ⟨[], false, false⟩).number, (Xy.getD i ⟨[], false, false⟩).text, true)
theorem Q7P {a : X0} (hs : X6 w σ) (hg : Am σ) (h : ∀ w', Below w.heap.size w w' → K (.tuple #[.bool (D4 a).1, .bool (D4 a).2.1, .bool (D4 a).2.2]) w') : Q1 P F.bS [S a] w K := Q3d (by
  unfold Kl
  refine Q8M hs hg fun w1 hb => ?_
  have hs1 := hs.below hb
  unfold D4 at h
  cases hf : I9 a with
  | none =>
    rw [hf] at h
    simp only [L6]
    (try simp only [↓Mm, Mm, ↓Mr, Mr, Mb, reduceIte])
    simp only [show decide ((-1 : Int) < 0) = true from rfl, ↓Mm, Mm, ↓Mr, Mr, Mb, reduceIte]
    exact h w1 hb
  | some i =>
    rw [hf] at h
    simp only at h
    have hi : i < 42 := (List.findIdx?_eq_some_iff_getElem.1 hf).1
    have ho : Xy[i]? = some (Xy.getD i ⟨[], false, false⟩) := by
      rw [List.getD, List.getElem?_eq_getElem (by exact hi)]; rfl
    generalize Xy.getD i ⟨[], false, false⟩ = o at h ho
    have hl := Q0m hg (i * 3) 3
    rw [Q4n i o ho] at hl
    simp only [L6]
    have e1 : decide ((i : Int) < 0) = false := by simp
    simp only [e1, ↓Mm, Mm, ↓Mr, Mr, Mb, reduceIte]
    have A : ∀ {w : World} {K : Value → World → Prop}, K (.pointer (some ((⟨G.a, 0, none⟩ : Addr).add (i * 3)))) w → indexAddr P T.a5 (.pointer (some ⟨G.a, 0, none⟩)) (I i) w K := by
      intro w K h
      rw [Q5O (by omega) (by omega)]
      simpa using h
    refine Ln (Below.refl _ _) ?_
    refine X2 (.pointer (some ((⟨G.a, 0, none⟩ : Addr).add (i * 3)))) (fun w hb => A (X5 rfl)) ?_
    refine X2 (.pointer (some (((⟨G.a, 0, none⟩ : Addr).add (i * 3)).add 1))) (fun t w hb e => by rw [e, fa]; exact X5 rfl) ?_
    refine X2 (.pointer (some ((⟨G.a, 0, none⟩ : Addr).add (i * 3)))) (fun w hb => A (X5 rfl)) ?_
    refine X2 (.pointer (some (((⟨G.a, 0, none⟩ : Addr).add (i * 3)).add 2))) (fun t w hb e => by rw [e, fa]; exact X5 rfl) ?_
    refine X2 (.bool o.number) (fun t w hb e => by rw [e]; exact ld (hs1.below hb) hl rfl (X5 rfl)) ?_
    refine X2 (.bool o.text) (fun t w hb e => by rw [e]; exact ld (hs1.below hb) hl rfl (X5 rfl)) ?_
    rintro _ _ _ _ _ _ w2 hb2 rfl rfl rfl rfl rfl rfl
    exact h w2 (bt hb hb2))
end Go.Proofs.YtdnfaboigajkhaaGreatDoor

namespace Go.Emb
open Go.RowKit Go.Hm
variable {P : Program} {w w0 w1 w' w'' : World} {K : Value → World → Prop} {σ σ0 σ1 σ' : Q5}
structure SLe (σ σ' : Q5) : Prop where
  le : ∀ b o, σ b = some o → σ' b = some o
theorem SLe.refl (σ : Q5) : SLe σ σ := ⟨fun _ _ h => h⟩
theorem SLe.step {w w' : World} (h : SLe σ0 σ) (k : Stp w σ w' σ') : SLe σ0 σ' := ⟨fun b o e => k.le b o (h.le b o e)⟩
theorem SLe.of (k : ∀ b o, σ b = some o → σ' b = some o) : SLe σ σ' := ⟨k⟩
theorem SLe.more (h : SLe σ0 σ) (k : SLe σ σ') : SLe σ0 σ' := ⟨fun b o e => k.le b o (h.le b o e)⟩
structure Hst (w : World) (σ : Q5) (w' : World) (σ' : Q5) : Prop where
  stp : Stp w σ w' σ'
theorem Hst.sat (h : Hst w σ w' σ') : X6 w' σ' := h.stp.sat
section lifts
variable {α : Type} {R : Q5 → α → List Value → Prop} {sz : Nat} {v : Value} {xs : List α} {a : Addr} {cs : List Value}
theorem Sl.lift [Rep R] (h : Sl sz R σ0 v xs) (k : SLe σ0 σ) : Sl sz R σ v xs := h.le k.le
theorem U0.lift (h : U0 σ0 a cs) (k : SLe σ0 σ) : U0 σ a cs := h.le k.le
theorem P6.lift {r : Nat} {m : List (List UInt8 × Value)} (h : P6 σ0 r m) (k : SLe σ0 σ) : P6 σ r m := h.le k.le
theorem S3 {x : Hm.Met} (h : N0 σ0 x cs) (k : SLe σ0 σ) : N0 σ x cs := Rep.up k.le h
theorem H2 {x : Cla} (h : U7 σ0 x cs) (k : SLe σ0 σ) : U7 σ x cs := Rep.up k.le h
theorem Q0O {x : Fld} (h : D7 σ0 x cs) : D7 σ x cs := h
theorem Q0U {x : Ins} (h : F4 σ0 x cs) : F4 σ x cs := h
theorem Q0W {x : Cat} (h : Qs σ0 x cs) : Qs σ x cs := h
theorem V4.step {b : Nat} (h : V4 σ w b cs) (k : Stp w σ w' σ') : V4 σ' w' b cs := h.up k
theorem N5.step {r : Nat} {m : List (List UInt8 × Value)} (h : N5 σ w r m) (k : Stp w σ w' σ') : N5 σ' w' r m := h.up k
theorem W6.step [Rep R] {B : Nat} {e : TypeId} (h : W6 B e sz R σ w v xs) (k : Stp w σ w' σ') : W6 B e sz R σ' w' v xs := h.up k
end lifts
theorem W7 {Q : World → Prop} (hs : X6 w σ) (h : ∀ w' σ', Stp w σ w' σ' → Q w') : ∀ w', Below w.heap.size w w' → Q w' := fun w' hb => h w' σ (Stp.of_below hs hb)
section plain
variable {k : IntKind} {t : TypeId} {ox oy : Operand} {a b : Int} {x y : Bool} {s u : List UInt8}
theorem O4 (h : K (.int k (k.wrap (a + b))) w) : Q3 P .add t ox oy (.int k a) (.int k b) w K := by rw [Rr]; exact h
theorem Sc (h0 : -9223372036854775808 ≤ a + b ∧ a + b ≤ 9223372036854775807) (h : K (I (a + b)) w) : Q3 P .add t ox oy (I a) (I b) w K := by rw [Rr, B6 h0.1 h0.2]; exact h
theorem Nx (h0 : -9223372036854775808 ≤ a - b ∧ a - b ≤ 9223372036854775807) (h : K (I (a - b)) w) : Q3 P .sub t ox oy (I a) (I b) w K := by rw [Q11, B6 h0.1 h0.2]; exact h
theorem Z5 (h : K (.bool (decide (a < b))) w) : Q3 P .lss t ox oy (.int k a) (.int k b) w K := by rw [Q0Q]; exact h
theorem Q7C (h : K (.bool (decide (b < a))) w) : Q3 P .gtr t ox oy (.int k a) (.int k b) w K := by rw [Q0P]; exact h
theorem Uw (h : K (.bool (decide (b ≤ a))) w) : Q3 P .geq t ox oy (.int k a) (.int k b) w K := by rw [Px]; exact h
theorem Q25 (h : K (.bool (decide (a = b))) w) : Q3 P .eql t ox oy (.int k a) (.int k b) w K := by rw [Pu]; exact h
theorem Nq (h : K (.bool (!decide (a = b))) w) : Q3 P .neq t ox oy (.int k a) (.int k b) w K := by rw [Q1b]; exact h
theorem U3 (h : K (.bool (!x)) w) : U6 P .not (.bool x) w K := by rw [Q1f]; exact h
theorem Mz (h : K (.bool (decide (s = u))) w) : Q3 P .eql t ox oy (S s) (S u) w K := by rw [Hb]; exact h
theorem Ns (h : K (.bool (!decide (s = u))) w) : Q3 P .neq t ox oy (S s) (S u) w K := by rw [Ho]; exact h
theorem H5 (h0 : s.length + u.length ≤ 9223372036854775807) (h : K (S (s ++ u)) w) : Q3 P .add t ox oy (S s) (S u) w K := by rw [Q3P h0]; exact h
theorem Q6A {cs : List Bool} {r : TypeId} (hu : P.underlying t = some .string) (h : K (I s.length) w) : X4 P .len [t] r cs [S s] w K := by rw [D2 hu]; exact h
theorem Z1 {v u : Value} (h : K v w) : pick P (.bool true) v u w K := by rw [Eo]; exact h
theorem Z3 {v u : Value} (h : K u w) : pick P (.bool false) v u w K := by rw [Nu]; exact h
theorem W8 {v u : Value} (h : K (if x = true then v else u) w) : pick P (.bool x) v u w K := by rw [Ly]; exact h
theorem M4 {vs : List Value} {i : Nat} {v : Value} (hv : vs[i]? = some v) (h : K v w) : ext P (.tuple vs.toArray) i w K := by rw [Xv hv]; exact h
theorem F6 {t e : Prop} (h : t) : X1 (.bool true) t e := by rw [Cs]; exact h
theorem I2 {t e : Prop} (h : e) : X1 (.bool false) t e := by rw [Ef]; exact h
theorem Z8 {run : World → (Value → World → Prop) → Prop} (h : run w K) : Q0 (.bool true) true w run K := by rw [F9]; exact h
theorem J0 {run : World → (Value → World → Prop) → Prop} (h : run w K) : Q0 (.bool false) false w run K := by rw [Uk]; exact h
theorem Z2 {run : World → (Value → World → Prop) → Prop} (h : K undef w) : Q0 (.bool true) false w run K := by rw [Pd]; exact h
theorem Y8 {run : World → (Value → World → Prop) → Prop} (h : K undef w) : Q0 (.bool false) true w run K := by rw [Zy]; exact h
end plain
section mem
variable {α : Type} {R : Q5 → α → List Value → Prop} {sz : Nat} {v : Value} {xs : List α} {a : Addr} {cs : List Value}
theorem Z4 {t : TypeId} (hs : X6 w σ) (h : ∀ a w' σ', Stp w σ w' σ' → U0 σ' a cs → K (.pointer (some a)) w') : box P t (.agg cs.toArray) w K :=
  N3 hs fun a w' σ' hk hl => h a w' σ' hk (by simpa [Value.cells] using hl)
theorem U2 {t : TypeId} (hs : X6 w σ) (hc : v.cells = #[v]) (h : ∀ a w' σ', Stp w σ w' σ' → U0 σ' a [v] → K (.pointer (some a)) w') : box P t v w K :=
  N3 hs fun a w' σ' hk hl => h a w' σ' hk (by rw [hc] at hl; exact hl)
theorem Js (h : Sl sz R σ v xs) : v.cells = #[v] := by
  obtain ⟨a, cap, rfl, _⟩ := h; rfl
theorem W5 {t : TypeId} {k off : Nat} {ft : TypeId} {sz by_ : Nat} {z : Value} [tf : TF P t k off ft] [tz : TZ P ft sz by_ z] [nz : NZ sz] (h : K (.pointer (some (a.add off))) w) : fieldAddr P t (.pointer (some a)) k w K := by
  rw [fa]; exact h
theorem Y6 {t : TypeId} {k off : Nat} {ft : TypeId} [tf : TF P t k off ft] [tg : TG P ft false] {cs : List Value} {v : Value} (hv : cs[off]? = some v) (h : K v w) : D1 P t (.agg cs.toArray) k w K := by
  rw [Q8h (v := v) (by simpa using hv)]; exact h
end mem
theorem W1 {A : (World → World → Prop) → (World → Prop) → Prop} (hs : X6 w σ) (h : A (fun w w' => Below w.heap.size w w') (fun w' => Hst w σ w' σ)) : dr w A :=
  Q0t _ _ ⟨Stp.of_below hs (Below.refl _ _).drew⟩ (fun _ _ h1 h2 => ⟨h1.stp.trans (Stp.of_below h1.sat h2)⟩) h
theorem L1 {α : Type} {R : Q5 → α → List Value → Prop} {sz : Nat} {v : Value} {xs : List α} {t : TypeId} (hs : X6 w σ) (hv : Sl sz R σ v xs) (h : ∀ a w' σ', Stp w σ w' σ' → U0 σ' a [v] → K (.pointer (some a)) w') : box P t v w K :=
  U2 hs (Js hv) h
section elems
variable {v : Value} {t e : TypeId} {by_ : Nat} {z : Value} {n : Nat}
theorem Q2o {xs : List Kd.X0} [TS P t e] [TZ P e 1 by_ z] (h : Sl 1 U5 σ v xs) (hn : n < xs.length) (hk : ∀ a, U0 σ a [S xs[n]] → xs[n].length ≤ W3 → K (.pointer (some a)) w) : indexAddr P t v (I n) w K :=
  L2 h hn fun a cs h1 h2 h3 => by obtain ⟨rfl, h4⟩ := h3; exact hk a h1 h4
theorem Q2u {xs : List Fld} [TS P t e] [TZ P e 3 by_ z] (h : Sl 3 D7 σ v xs) (hn : n < xs.length) (hk : ∀ a, U0 σ a [S xs[n].name, S xs[n].kind, .bool xs[n].tr] → D7 σ xs[n] [S xs[n].name, S xs[n].kind, .bool xs[n].tr] → K (.pointer (some a)) w) : indexAddr P t v (I n) w K :=
  L2 h hn fun a cs h1 h2 h3 => by obtain ⟨rfl, h4⟩ := h3; exact hk a h1 ⟨rfl, h4⟩
end elems
end Go.Emb

namespace Go.Proofs
open Go.Shelf
def Tryz.lays156_ren : Go.Shelf.Ren := ⟨fun | 156 => 72 | 165 => 104 | 166 => 105 | 169 => 106 | 240 => 137 | 241 => 138 | 276 => 161 | 277 => 162 | n => n, fun | 31 => 46 | 9 => 9 | 3 => 3 | 4 => 4 | 0 => 0 | 20 => 20 | 72 => 127 | 76 => 130 | 70 => 124 | 37 => 125 | 75 => 129 | 127 => 150 | 164 => 160 | 5 => 5 | 80 => 132 | n => n, fun | n => n⟩
theorem Tryz.lays156 : Go.Proofs.Lays.n156 Tryz.prog Tryz.lays156_ren := {
  mixed := by kernel_rfl
  f156 := Tryz.func72.trans (congrArg some (by kernel_rfl))
  f165 := Tryz.func104.trans (congrArg some (by kernel_rfl))
  f166 := Tryz.func105.trans (congrArg some (by kernel_rfl))
  f169 := Tryz.func106.trans (congrArg some (by kernel_rfl))
  f240 := Tryz.func137.trans (congrArg some (by kernel_rfl))
  f241 := Tryz.func138.trans (congrArg some (by kernel_rfl))
  f276 := Tryz.func161.trans (congrArg some (by kernel_rfl))
  f277 := Tryz.func162.trans (congrArg some (by kernel_rfl))
  t0 := Tryz.underlying0
  a0 := Tryz.isAgg0
  z0 := Tryz.sizeOf0
  v0 := Tryz.zeroValue0
  t3 := Tryz.underlying3
  a3 := Tryz.isAgg3
  z3 := Tryz.sizeOf3
  v3 := Tryz.zeroValue3
  t4 := Tryz.underlying4
  a4 := Tryz.isAgg4
  z4 := Tryz.sizeOf4
  v4 := Tryz.zeroValue4
  t9 := Tryz.underlying9
  a9 := Tryz.isAgg9
  z9 := Tryz.sizeOf9
  v9 := Tryz.zeroValue9
  t20 := Tryz.underlying20
  a20 := Tryz.isAgg20
  z20 := Tryz.sizeOf20
  v20 := Tryz.zeroValue20
  t31 := Tryz.underlying46
  a31 := Tryz.isAgg46
  z31 := Tryz.sizeOf46
  v31 := Tryz.zeroValue46
  t37 := Tryz.underlying125
  a37 := Tryz.isAgg125
  z37 := Tryz.sizeOf125
  v37 := Tryz.zeroValue125
  t70 := Tryz.underlying124
  a70 := Tryz.isAgg124
  z70 := Tryz.sizeOf124
  v70 := Tryz.zeroValue124
  t72 := Tryz.underlying127
  a72 := Tryz.isAgg127
  z72 := Tryz.sizeOf127
  v72 := Tryz.zeroValue127
  t75 := Tryz.underlying129
  a75 := Tryz.isAgg129
  z75 := Tryz.sizeOf129
  v75 := Tryz.zeroValue129
  t76 := Tryz.underlying130
  a76 := Tryz.isAgg130
  z76 := Tryz.sizeOf130
  v76 := Tryz.zeroValue130
  t127 := Tryz.underlying150
  a127 := Tryz.isAgg150
  z127 := Tryz.sizeOf150
  v127 := Tryz.zeroValue150
  t164 := Tryz.underlying160
  a164 := Tryz.isAgg160
  z164 := Tryz.sizeOf160
  v164 := Tryz.zeroValue160 }
theorem Tryz.Builder_Extra_156 : Builder.Extra Tryz.prog Tryz.lays156_ren := {
  sizeBuilder := by kernel_rfl
  liesBuilder := by kernel_rfl
  t5 := Tryz.underlying5
  a5 := Tryz.isAgg5
  z5 := Tryz.sizeOf5
  v5 := Tryz.zeroValue5
  infoByte := by kernel_rfl
  cellsByte := by kernel_rfl
  sizeByte := by kernel_rfl
  neB5 := by decide }
open Go.RowKit in
theorem Tryz.strings_Join_none (a : Option Addr) (c : Nat) (sep : ByteArray) (w : World) :
    Calls Tryz.prog 72 #[.slice a 0 c, .string sep] w fun e w' => e = .returned (.string ⟨#[]⟩) ∧ w' = w := Any.strings_Join_none Tryz.lays156 Tryz.Builder_Extra_156 a c sep w
open Go.RowKit in
theorem Tryz.strings_Join (bk o c : Nat) (xs : List ByteArray) (sep : ByteArray) (w : World) (hcells : ∀ (j : Nat) x, xs[j]? = some x → w.cell? ⟨bk, o + j, none⟩ = some (.string x)) (hbk : bk < w.heap.size) (hN : xs.length ≤ 140737488355328) (hcap : xs.length ≤ c) (hlen : (Lib.join (xs.map (·.data.toList)) sep.data.toList).length ≤ 140737488355328) :
    Calls Tryz.prog 72 #[.slice (some ⟨bk, o, none⟩) xs.length c, .string sep] w fun e w' => e = .returned (.string ⟨(Lib.join (xs.map (·.data.toList)) sep.data.toList).toArray⟩) ∧ Below w.heap.size w w' := Any.strings_Join Tryz.lays156 Tryz.Builder_Extra_156 bk o c xs sep w hcells hbk hN hcap hlen
def Tryz.lays232_ren : Go.Shelf.Ren := ⟨fun | 232 => 93 | n => n, fun | 9 => 9 | 5 => 5 | 3 => 3 | 4 => 4 | n => n, fun | n => n⟩
theorem Tryz.lays232 : Go.Proofs.Lays.n232 Tryz.prog Tryz.lays232_ren := {
  mixed := by kernel_rfl
  f232 := Tryz.func93.trans (congrArg some (by kernel_rfl))
  t3 := Tryz.underlying3
  a3 := Tryz.isAgg3
  z3 := Tryz.sizeOf3
  v3 := Tryz.zeroValue3
  t4 := Tryz.underlying4
  a4 := Tryz.isAgg4
  z4 := Tryz.sizeOf4
  v4 := Tryz.zeroValue4
  t5 := Tryz.underlying5
  a5 := Tryz.isAgg5
  z5 := Tryz.sizeOf5
  v5 := Tryz.zeroValue5
  t9 := Tryz.underlying9
  a9 := Tryz.isAgg9
  z9 := Tryz.sizeOf9
  v9 := Tryz.zeroValue9 }
open Go.RowKit in
theorem Tryz.strings_trimRightByte (s : ByteArray) (c : UInt8) (w : World) (hs : s.size ≤ 9223372036854775807) :
    Calls Tryz.prog 93 #[.string s, .int .u8 c.toNat] w fun e w' => e = .returned (.string ⟨(Lib.trimRightB s.data.toList c).toArray⟩) ∧ w' = w := Any.strings_trimRightByte Tryz.lays232 s c w hs
def Tryz.lays144_ren : Go.Shelf.Ren := ⟨fun | 144 => 178 | 143 => 189 | 219 => 194 | 217 => 185 | 225 => 174 | 224 => 173 | 267 => 198 | 266 => 193 | 314 => 199 | n => n, fun | 9 => 9 | 4 => 4 | 3 => 3 | 5 => 5 | 46 => 167 | 146 => 189 | 51 => 188 | n => n, fun | 1 => 1 | n => n⟩
theorem Tryz.lays144 : Go.Proofs.Lays.n144 Tryz.prog Tryz.lays144_ren := {
  mixed := by kernel_rfl
  f143 := Tryz.func189.trans (congrArg some (by kernel_rfl))
  f144 := Tryz.func178.trans (congrArg some (by kernel_rfl))
  f217 := Tryz.func185.trans (congrArg some (by kernel_rfl))
  f219 := Tryz.func194.trans (congrArg some (by kernel_rfl))
  f224 := Tryz.func173.trans (congrArg some (by kernel_rfl))
  f225 := Tryz.func174.trans (congrArg some (by kernel_rfl))
  f266 := Tryz.func193.trans (congrArg some (by kernel_rfl))
  f267 := Tryz.func198.trans (congrArg some (by kernel_rfl))
  f314 := Tryz.func199.trans (congrArg some (by kernel_rfl))
  t3 := Tryz.underlying3
  a3 := Tryz.isAgg3
  z3 := Tryz.sizeOf3
  v3 := Tryz.zeroValue3
  t4 := Tryz.underlying4
  a4 := Tryz.isAgg4
  z4 := Tryz.sizeOf4
  v4 := Tryz.zeroValue4
  t5 := Tryz.underlying5
  a5 := Tryz.isAgg5
  z5 := Tryz.sizeOf5
  v5 := Tryz.zeroValue5
  t9 := Tryz.underlying9
  a9 := Tryz.isAgg9
  z9 := Tryz.sizeOf9
  v9 := Tryz.zeroValue9
  t46 := Tryz.underlying167
  a46 := Tryz.isAgg167
  z46 := Tryz.sizeOf167
  v46 := Tryz.zeroValue167
  t51 := Tryz.underlying188
  a51 := Tryz.isAgg188
  z51 := Tryz.sizeOf188
  v51 := Tryz.zeroValue188
  t146 := Tryz.underlying189
  a146 := Tryz.isAgg189
  z146 := Tryz.sizeOf189
  v146 := Tryz.zeroValue189
  g1 := by kernel_rfl }
open Go.RowKit Go.Lib in
theorem Tryz.strings_Contains_one (s : ByteArray) (c : UInt8) (w : World) :
    Calls Tryz.prog 178 #[.string s, .string ⟨#[c]⟩] w fun e w' => e = .returned (.bool (decide (0 ≤ Lib.indexByte s.data.toList c))) ∧ w' = w := Any.strings_Contains_one Tryz.lays144 s c w
def Tryz.lays227_ren : Go.Shelf.Ren := ⟨fun | 227 => 94 | n => n, fun | 9 => 9 | 116 => 112 | 4 => 4 | 0 => 0 | 3 => 3 | 5 => 5 | n => n, fun | n => n⟩
theorem Tryz.lays227 : Go.Proofs.Lays.n227 Tryz.prog Tryz.lays227_ren := {
  mixed := by kernel_rfl
  f227 := Tryz.func94.trans (congrArg some (by kernel_rfl))
  t0 := Tryz.underlying0
  a0 := Tryz.isAgg0
  z0 := Tryz.sizeOf0
  v0 := Tryz.zeroValue0
  t3 := Tryz.underlying3
  a3 := Tryz.isAgg3
  z3 := Tryz.sizeOf3
  v3 := Tryz.zeroValue3
  t4 := Tryz.underlying4
  a4 := Tryz.isAgg4
  z4 := Tryz.sizeOf4
  v4 := Tryz.zeroValue4
  t5 := Tryz.underlying5
  a5 := Tryz.isAgg5
  z5 := Tryz.sizeOf5
  v5 := Tryz.zeroValue5
  t9 := Tryz.underlying9
  a9 := Tryz.isAgg9
  z9 := Tryz.sizeOf9
  v9 := Tryz.zeroValue9
  t116 := Tryz.underlying112
  a116 := Tryz.isAgg112
  z116 := Tryz.sizeOf112 }
open Go.RowKit Go.Lib in
theorem Tryz.strings_makeASCIISet (hv116 : ∀ w, (zeroValue 112).run Tryz.prog w = .ok (.agg (Array.replicate 256 (.bool false))) w) (chars : ByteArray) (w : World) (hs : chars.size < 4294967281) (hascii : ∀ (j : Nat) b, chars.data.toList[j]? = some b → b.toNat < 128) :
    Calls Tryz.prog 94 #[.string chars] w fun e w' => e = .returned (.tuple #[.agg (Lib.setCells chars.data.toList), .bool true]) ∧ w' = w.alloc (.cells (Lib.setCells chars.data.toList) 112) := Any.strings_makeASCIISet Tryz.lays227 hv116 (by kernel_rfl) chars w hs hascii
open Go.RowKit Go.Lib in
def Tryz.lays196_ren : Go.Shelf.Ren := ⟨fun | 196 => 177 | 259 => 188 | n => n, fun | 9 => 9 | 4 => 4 | 3 => 3 | 5 => 5 | 12 => 12 | 119 => 177 | 0 => 0 | 46 => 167 | 139 => 180 | 138 => 179 | 53 => 186 | n => n, fun | 3 => 3 | 4 => 4 | n => n⟩
theorem Tryz.lays196 : Go.Proofs.Lays.n196 Tryz.prog Tryz.lays196_ren := {
  mixed := by kernel_rfl
  f196 := Tryz.func177.trans (congrArg some (by kernel_rfl))
  f259 := Tryz.func188.trans (congrArg some (by kernel_rfl))
  t0 := Tryz.underlying0
  a0 := Tryz.isAgg0
  z0 := Tryz.sizeOf0
  v0 := Tryz.zeroValue0
  t3 := Tryz.underlying3
  a3 := Tryz.isAgg3
  z3 := Tryz.sizeOf3
  v3 := Tryz.zeroValue3
  t4 := Tryz.underlying4
  a4 := Tryz.isAgg4
  z4 := Tryz.sizeOf4
  v4 := Tryz.zeroValue4
  t5 := Tryz.underlying5
  a5 := Tryz.isAgg5
  z5 := Tryz.sizeOf5
  v5 := Tryz.zeroValue5
  t9 := Tryz.underlying9
  a9 := Tryz.isAgg9
  z9 := Tryz.sizeOf9
  v9 := Tryz.zeroValue9
  t12 := Tryz.underlying12
  a12 := Tryz.isAgg12
  z12 := Tryz.sizeOf12
  v12 := Tryz.zeroValue12
  t46 := Tryz.underlying167
  a46 := Tryz.isAgg167
  z46 := Tryz.sizeOf167
  v46 := Tryz.zeroValue167
  t53 := Tryz.underlying186
  a53 := Tryz.isAgg186
  z53 := Tryz.sizeOf186
  v53 := Tryz.zeroValue186
  t119 := Tryz.underlying177
  a119 := Tryz.isAgg177
  z119 := Tryz.sizeOf177
  t138 := Tryz.underlying179
  a138 := Tryz.isAgg179
  z138 := Tryz.sizeOf179
  v138 := Tryz.zeroValue179
  t139 := Tryz.underlying180
  a139 := Tryz.isAgg180
  z139 := Tryz.sizeOf180
  v139 := Tryz.zeroValue180
  g3 := by kernel_rfl
  g4 := by kernel_rfl }
end Go.Proofs

namespace Go.Hm
open Go.Kd
abbrev Xg := X0 → Option Cla
def Y7 (l : List Cla) (n : X0) : Option Nat := l.findIdx? fun c => decide (c.name = n)
def lk (l : List Cla) : Xg := fun n => (Y7 l n).bind (l[·]?)
def U9 (c : Cla) : List X0 := c.super :: c.like
def U4 : X0 := [79, 98, 106, 101, 99, 116]
def L4 : X0 := [70, 97, 117, 108, 116]
def Yx : X0 := [110, 117, 108, 108]
def C6 : X0 := [116, 101, 120, 116]
def I3 : X0 := [119, 104, 97, 116]
def V2 : List X0 := [[78, 117, 108, 108, 70, 97, 117, 108, 116], [73, 110, 100, 101, 120, 70, 97, 117, 108, 116], [67, 97, 115, 116, 70, 97, 117, 108, 116], [90, 101, 114, 111, 70, 97, 117, 108, 116], [82, 111, 111, 109, 70, 97, 117, 108, 116], [67, 97, 108, 108, 70, 97, 117, 108, 116]]
def R0 : List Cla := [⟨U4, [], [], false, false, false, [], []⟩, ⟨L4, U4, [], false, false, false, [⟨I3, C6, false⟩], []⟩] ++ V2.map fun n => ⟨n, L4, [], false, false, true, [], []⟩
def Zi (L : Xg) : Nat → List X0 → List X0 → List X0
  | 0, _, seen => seen
  | _, [], seen => seen
  | f + 1, n :: todo, seen => match L n with
    | none => Zi L f todo seen
    | some c => if n ∈ seen then Zi L f todo seen else Zi L f (todo ++ U9 c) (seen ++ [n])
def weigh (l : List Cla) (seen : List X0) : Nat := (l.map fun c => if c.name ∈ seen then 0 else (U9 c).length).sum
def visits (l : List Cla) (n : X0) : List X0 := Zi (lk l) (1 + weigh l []) [n] []
def hasM (l : List Cla) (n : X0) : Bool := (Y7 l n).isSome
def kindM (l : List Cla) (s : X0) : Bool := decide (s = Yx) || (right s && (plain (V8 s).1 || hasM l (V8 s).1))
def subM (l : List Cla) (a b : X0) : Bool :=
  if !kindM l a || !kindM l b then false else if a = b then true else if plain a || plain b then false else if a = Yx then true
  else if Ez a ≠ [] then decide (b = U4) else (visits l a).contains b
def S2 (L : Xg) : Nat → X0 → List Cla
  | 0, _ => []
  | f + 1, n => match L n with
    | none => []
    | some c => c :: S2 L f c.super
def chain (l : List Cla) (n : X0) : List Cla := S2 (lk l) (l.length + 1) n
def Q0E (l : List Cla) (a b : X0) : X0 :=
  if subM l a b then b else if subM l b a then a else if !kindM l a || !kindM l b || plain a || plain b then []
  else match (chain l a).find? fun c => subM l b c.name with
    | some c => c.name
    | none => U4
def fieldsM (l : List Cla) (n : X0) : List Fld := (chain l n).reverse.flatMap (·.fields)
def placeM (l : List Cla) (n f : X0) : Option Nat := (fieldsM l n).findIdx? fun x => decide (x.name = f)
def H8 (c : Cla) (n : X0) : Option Hm.Met := c.methods.find? fun m => decide (m.name = n)
def Dh (L : Xg) : Nat → Cla → X0 → Option (X0 × Hm.Met)
  | 0, _, _ => none
  | f + 1, c, n => c.like.findSome? fun u => match L u with
    | none => none
    | some d => match H8 d n with
      | some m => some (u, m)
      | none => Dh L f d n
def methodM (l : List Cla) (k n : X0) : Option (X0 × Hm.Met) :=
  match (chain l k).findSome? fun c => (H8 c n).map (c.name, ·) with
  | some r => some r
  | none => (chain l k).findSome? fun c => Dh (lk l) (l.length + 1) c n
def Of (l : List Cla) (n : X0) : Bool := match lk l n with
  | some c => !c.abs
  | none => false
def D3 (f : Fld) : X0 := if f.tr then [] else [32] ++ f.name ++ [58] ++ f.kind
def B1 (L : Xg) : Nat → X0 → X0
  | 0, _ => []
  | f + 1, n => match L n with
    | none => []
    | some c => if n = U4 then [] else n ++ [40] ++ B1 L f c.super ++ [41] ++ c.fields.flatMap D3 ++ [46]
def printM (l : List Cla) (n : X0) : X0 := B1 (lk l) (l.length + 1) n
def O3 : List X0 → X0
  | [] => []
  | [a] => a
  | a :: b :: r => a ++ [44] ++ O3 (b :: r)
def K6 (m : Hm.Met) : X0 := [40] ++ O3 m.params ++ [41] ++ m.result
def thereM (l : List Cla) (s : X0) : Bool := !decide (s = Yx) && kindM l s
def C7 (l : List Cla) (c : Cla) : Bool := c.fields.any fun f => (placeM l c.super f.name).isSome
def E0 (l : List Cla) (c : Cla) : Bool := c.fields.any (fun f => !thereM l f.kind) || c.methods.any fun m => (!thereM l m.result && !decide (m.result = [])) || m.params.any fun s => !thereM l s
def allMets (l : List Cla) (n : X0) : List Hm.Met := (visits l n).flatMap fun u => ((lk l u).map (·.methods)).getD []
def Uo (ms : List Hm.Met) : Bool := ms.any fun x => ms.any fun y => decide (x.name = y.name) && !decide (K6 x = K6 y)
def B8 (l : List Cla) (c : Cla) : Bool := Uo (allMets l c.name)
def G0 (l : List Cla) (k n : X0) : Bool := match methodM l k n with
  | none => true
  | some r => r.2.abs
def A8 (l : List Cla) (c : Cla) : Bool := !c.abs && (allMets l c.name).any fun m => G0 l c.name m.name
def membersM (l : List Cla) (c : Cla) : Nat := if C7 l c then 64 else if E0 l c then 65 else if B8 l c then 66 else if A8 l c then 67 else 0
def F3 (l : List Cla) (n : X0) : Bool := match lk l n with
  | none => true
  | some d => d.iface || d.fin
def M9 (l : List Cla) (n : X0) : Bool := match lk l n with
  | none => true
  | some d => !d.iface
def uppersM (l : List Cla) (c : Cla) : Nat := if F3 l c.super then 61 else if c.like.any (M9 l) then 62 else 0
def loopsM (l : List Cla) (c : Cla) : Bool := (U9 c).any fun n => (visits l n).contains c.name
def F5 (l : List Cla) (frm : Nat) : Nat → List Nat → Nat → List Nat
  | 0, out, _ => out
  | f + 1, out, i => if i < frm then out else if i ∈ out then out else ((U9 (l.getD i Cla.zero)).foldl (fun out n => F5 l frm f out ((Y7 l n).getD 0)) out) ++ [i]
def W0 (l : List Cla) (frm : Nat) : List Nat := ((List.range l.length).drop frm).foldl (fun out i => F5 l frm (l.length + 1) out i) []
end Go.Hm

namespace Go.Proofs.YtdnfaboigajkhaaGreatDoor
open Go.Emb Go.RowKit Go.Kd Go.Hm
variable {w : World} {K : Value → World → Prop} {σ : Q5}
theorem Q6W {f : FuncId} {fn : Func} {args : List Value} {V : Value} (hf : P.funcs[f]? = some fn) (hb : fn.body.isSome = true) (hn : (fn.name == "runtime.NumGoroutine") = false)
    (h : Calls P f args.toArray w fun e w' => e = .returned V ∧ Below w.heap.size w w') (hk : ∀ w', Below w.heap.size w w' → K V w') : Q1 P f args w K := by
  refine Jn hf hb hn (Calls.mono h ?_)
  rintro e w' ⟨rfl, hb⟩
  exact hk w' hb
theorem Q20 {a : X0} (ha : a.length ≤ W3) (ht : Lib.Utf8Tabs G.e G.d w) (h : ∀ w', Below w.heap.size w w' → K (.bool (Lib.validD a)) w') : Q1 P F.bs [S a] w K :=
  Q6W Tryz.func177 (by kernel_rfl) (by kernel_rfl) (by
    have := Any.utf8_ValidString Tryz.lays196 ⟨a.toArray⟩ w (by rw [S4]; simp only [W3] at ha; omega) ht
    simp only [List.toList_toArray] at this
    exact this) h
theorem Q49 {a : X0} {c : UInt8} (h : K (.bool (decide (0 ≤ Lib.indexByte a c))) w) : Q1 P F.c6 [S a, S [c]] w K := by
  refine Jn (fn := Tryz.f178) Tryz.func178 (by kernel_rfl) (by kernel_rfl) (Calls.mono (Tryz.strings_Contains_one ⟨a.toArray⟩ c w) ?_)
  rintro e w' ⟨rfl, rfl⟩
  exact h
structure Glb (σ : Q5) : Prop where
  ops : Am σ
  tabs : ∀ w, X6 w σ → Lib.Utf8Tabs G.e G.d w
  flt : U0 σ ⟨G.b, 0, none⟩ (V2.map S)
theorem Glb.lift {σ0 : Q5} (h : Glb σ0) (k : SLe σ0 σ) : Glb σ := ⟨h.ops.le k.le, fun w hs => h.tabs w fun b o e => hs b o (k.le b o e), h.flt.le k.le⟩
def txt (n s : X0) : Bool :=
  if n = [119, 111, 114, 100] then decide (s.length ≤ 64) && Lib.validD s && !decide (0 ≤ Lib.indexByte s 10)
  else if n = [110, 101, 119] then L3 s
  else if n = [105, 115] ∨ n = [99, 97, 115, 116] then right s && !plain s
  else if n = [97, 114, 114, 97, 121] then right s && decide (Aq s < 3)
  else Qy s
theorem Q9a {n a : X0} (ha : a.length ≤ W3) (hs : X6 w σ) (hg : Glb σ) (h : ∀ w' σ', Stp w σ w' σ' → K (.bool (txt n a)) w') : Q1 P F.cd [S n, S a] w K := Q3G (by
  unfold Ty
  have ha' : a.length ≤ 140737488355320 := by simp only [W3] at ha; omega
  have ha2 : a.length ≤ 140737488355328 := by simp only [W3] at ha; omega
  have hv : ∀ {w1 : World} {K : Value → World → Prop}, X6 w1 σ → (∀ w', Below w1.heap.size w1 w' → K (.bool (Lib.validD a)) w') → Q1 P F.bs [S a] w1 K := fun hk h => Q20 ha (hg.tabs _ hk) h
  unfold txt at h
  have e : decide ((a.length : Int) ≤ 64) = decide (a.length ≤ 64) := by rw [Bool.eq_iff_iff]; simp only [decide_eq_true_eq]; omega
  have e3 : decide ((Aq a : Int) < 3) = decide (Aq a < 3) := by rw [Bool.eq_iff_iff]; simp only [decide_eq_true_eq]; omega
  by_cases h1 : n = [119, 111, 114, 100]
  · rw [if_pos h1] at h
    simp only [decide_eq_true h1, ↓Mm, Mm, ↓Mr, Mr, Mb, reduceIte, e]
    by_cases h2 : a.length ≤ 64
    · simp only [decide_eq_true h2, ↓Mm, Mm, ↓Mr, Mr, Mb, reduceIte] at h ⊢
      refine hv hs (W7 hs ?_)
      intro w1 σ1 hk
      by_cases h3 : Lib.validD a = true
      · simp only [h3, ↓Mm, Mm, ↓Mr, Mr, Mb, reduceIte] at h ⊢
        refine Q49 ?_
        (repeat' (first | (with_reducible intro _) | (with_reducible refine V3 ?_) | (simp only [↓Mm, Mm, ↓Mp, Mp, Mb, reduceIte]) | (with_reducible first | refine ld aS aL aR ?_ | refine X8 aS aL aR ?_ | refine Y3 aS aL aR ?_ | refine Q6 aL ?_ | refine Y6 aR ?_ | refine Z4 aS ?_ | refine L1 aS aL ?_ | refine U2 aS aR ?_ | refine Y0 aS aR aR (Rep.one (by assumption)) ?_ | refine U1 aS aR aR aR ?_ | (refine Y2 (fun hh => ?_) (fun hh => ?_) <;> (try simp only [hh, Bool.not_true, Bool.not_false, ↓Mm, Mm, ↓Mp, Mp, Mb, reduceIte])) | (refine Q4 (fun hh => ?_) (fun hh => ?_) <;> (try simp only [hh, Bool.not_true, Bool.not_false, ↓Mm, Mm, ↓Mp, Mp, Mb, reduceIte])))))
        all_goals (refine Eq.subst (motive := fun b => K b _) ?_ (h _ _ (by (repeat (first | exact Stp.refl (by (first | assumption | exact Stp.sat (by assumption) | exact Hst.sat (by assumption))) | assumption | refine Stp.trans ?_ (by first | assumption | exact Hst.stp (by assumption)))))); clear h; (try clear hA); (try clear hB); (try clear hC); first | rfl | ((try simp only [Bool.not_eq_true', Bool.not_eq_false', Bool.not_true, Bool.not_false, Bool.not_eq_true] at *); simp only [*, Mb, reduceIte]; done) | (simp [*]; done) | simp_all)
      · simp only [eq_false_of_ne_true h3, ↓Mm, Mm, ↓Mr, Mr, Mb, reduceIte] at h ⊢
        (repeat' (first | (with_reducible intro _) | (with_reducible refine V3 ?_) | (simp only [↓Mm, Mm, ↓Mp, Mp, Mb, reduceIte]) | (with_reducible first | refine ld aS aL aR ?_ | refine X8 aS aL aR ?_ | refine Y3 aS aL aR ?_ | refine Q6 aL ?_ | refine Y6 aR ?_ | refine Z4 aS ?_ | refine L1 aS aL ?_ | refine U2 aS aR ?_ | refine Y0 aS aR aR (Rep.one (by assumption)) ?_ | refine U1 aS aR aR aR ?_ | (refine Y2 (fun hh => ?_) (fun hh => ?_) <;> (try simp only [hh, Bool.not_true, Bool.not_false, ↓Mm, Mm, ↓Mp, Mp, Mb, reduceIte])) | (refine Q4 (fun hh => ?_) (fun hh => ?_) <;> (try simp only [hh, Bool.not_true, Bool.not_false, ↓Mm, Mm, ↓Mp, Mp, Mb, reduceIte])))))
        all_goals (refine Eq.subst (motive := fun b => K b _) ?_ (h _ _ (by (repeat (first | exact Stp.refl (by (first | assumption | exact Stp.sat (by assumption) | exact Hst.sat (by assumption))) | assumption | refine Stp.trans ?_ (by first | assumption | exact Hst.stp (by assumption)))))); clear h; (try clear hA); (try clear hB); (try clear hC); first | rfl | ((try simp only [Bool.not_eq_true', Bool.not_eq_false', Bool.not_true, Bool.not_false, Bool.not_eq_true] at *); simp only [*, Mb, reduceIte]; done) | (simp [*]; done) | simp_all)
    · simp only [decide_eq_false h2, ↓Mm, Mm, ↓Mr, Mr, Mb, reduceIte] at h ⊢
      (repeat' (first | (with_reducible intro _) | (with_reducible refine V3 ?_) | (simp only [↓Mm, Mm, ↓Mp, Mp, Mb, reduceIte]) | (with_reducible first | refine ld aS aL aR ?_ | refine X8 aS aL aR ?_ | refine Y3 aS aL aR ?_ | refine Q6 aL ?_ | refine Y6 aR ?_ | refine Z4 aS ?_ | refine L1 aS aL ?_ | refine U2 aS aR ?_ | refine Y0 aS aR aR (Rep.one (by assumption)) ?_ | refine U1 aS aR aR aR ?_ | (refine Y2 (fun hh => ?_) (fun hh => ?_) <;> (try simp only [hh, Bool.not_true, Bool.not_false, ↓Mm, Mm, ↓Mp, Mp, Mb, reduceIte])) | (refine Q4 (fun hh => ?_) (fun hh => ?_) <;> (try simp only [hh, Bool.not_true, Bool.not_false, ↓Mm, Mm, ↓Mp, Mp, Mb, reduceIte])))))
      all_goals (refine Eq.subst (motive := fun b => K b _) ?_ (h _ _ (by (repeat (first | exact Stp.refl (by (first | assumption | exact Stp.sat (by assumption) | exact Hst.sat (by assumption))) | assumption | refine Stp.trans ?_ (by first | assumption | exact Hst.stp (by assumption)))))); clear h; (try clear hA); (try clear hB); (try clear hC); first | rfl | ((try simp only [Bool.not_eq_true', Bool.not_eq_false', Bool.not_true, Bool.not_false, Bool.not_eq_true] at *); simp only [*, Mb, reduceIte]; done) | (simp [*]; done) | simp_all)
  rw [if_neg h1] at h
  simp only [decide_eq_false h1, ↓Mm, Mm, ↓Mr, Mr, Mb, reduceIte]
  by_cases h2 : n = [110, 101, 119]
  · rw [if_pos h2] at h
    simp only [decide_eq_true h2, ↓Mm, Mm, ↓Mr, Mr, Mb, reduceIte]
    (repeat' (first | (with_reducible intro _) | (with_reducible refine V3 ?_) | (simp only [↓Mm, Mm, ↓Mp, Mp, Mb, reduceIte]) | (with_reducible first | refine ld aS aL aR ?_ | refine X8 aS aL aR ?_ | refine Y3 aS aL aR ?_ | refine Q6 aL ?_ | refine Y6 aR ?_ | refine Z4 aS ?_ | refine L1 aS aL ?_ | refine U2 aS aR ?_ | refine Y0 aS aR aR (Rep.one (by assumption)) ?_ | refine U1 aS aR aR aR ?_ | refine Nz _ au (W7 aS ?_) | (refine Y2 (fun hh => ?_) (fun hh => ?_) <;> (try simp only [hh, Bool.not_true, Bool.not_false, ↓Mm, Mm, ↓Mp, Mp, Mb, reduceIte])) | (refine Q4 (fun hh => ?_) (fun hh => ?_) <;> (try simp only [hh, Bool.not_true, Bool.not_false, ↓Mm, Mm, ↓Mp, Mp, Mb, reduceIte])))))
    all_goals (refine Eq.subst (motive := fun b => K b _) ?_ (h _ _ (by (repeat (first | exact Stp.refl (by (first | assumption | exact Stp.sat (by assumption) | exact Hst.sat (by assumption))) | assumption | refine Stp.trans ?_ (by first | assumption | exact Hst.stp (by assumption)))))); clear h; (try clear hA); (try clear hB); (try clear hC); first | rfl | ((try simp only [Bool.not_eq_true', Bool.not_eq_false', Bool.not_true, Bool.not_false, Bool.not_eq_true] at *); simp only [*, Mb, reduceIte]; done) | (simp [*]; done) | simp_all)
  rw [if_neg h2] at h
  simp only [decide_eq_false h2, ↓Mm, Mm, ↓Mr, Mr, Mb, reduceIte]
  by_cases h3 : n = [105, 115] ∨ n = [99, 97, 115, 116]
  · rw [if_pos h3] at h
    have e4 : (decide (n = [105, 115]) || decide (n = [99, 97, 115, 116])) = true := by simpa using h3
    refine V3 ?_
    refine Q4 (fun h4 => ?_) (fun h4 => ?_)
    · simp only [h4, ↓Mm, Mm, ↓Mr, Mr, Mb, reduceIte]
      (repeat' (first | (with_reducible intro _) | (with_reducible refine V3 ?_) | (simp only [↓Mm, Mm, ↓Mp, Mp, Mb, reduceIte]) | (with_reducible first | refine ld aS aL aR ?_ | refine X8 aS aL aR ?_ | refine Y3 aS aL aR ?_ | refine Q6 aL ?_ | refine Y6 aR ?_ | refine Z4 aS ?_ | refine L1 aS aL ?_ | refine U2 aS aR ?_ | refine Y0 aS aR aR (Rep.one (by assumption)) ?_ | refine U1 aS aR aR aR ?_ | refine Zd _ au (W7 aS ?_) | refine Uf _ ?_ | (refine Y2 (fun hh => ?_) (fun hh => ?_) <;> (try simp only [hh, Bool.not_true, Bool.not_false, ↓Mm, Mm, ↓Mp, Mp, Mb, reduceIte])) | (refine Q4 (fun hh => ?_) (fun hh => ?_) <;> (try simp only [hh, Bool.not_true, Bool.not_false, ↓Mm, Mm, ↓Mp, Mp, Mb, reduceIte])))))
      all_goals (refine Eq.subst (motive := fun b => K b _) ?_ (h _ _ (by (repeat (first | exact Stp.refl (by (first | assumption | exact Stp.sat (by assumption) | exact Hst.sat (by assumption))) | assumption | refine Stp.trans ?_ (by first | assumption | exact Hst.stp (by assumption)))))); clear h; (try clear hA); (try clear hB); (try clear hC); first | rfl | ((try simp only [Bool.not_eq_true', Bool.not_eq_false', Bool.not_true, Bool.not_false, Bool.not_eq_true] at *); simp only [*, Mb, reduceIte]; done) | (simp [*]; done) | simp_all)
    · rw [h4, Bool.false_or] at e4
      simp only [e4, ↓Mm, Mm, ↓Mr, Mr, Mb, reduceIte]
      (repeat' (first | (with_reducible intro _) | (with_reducible refine V3 ?_) | (simp only [↓Mm, Mm, ↓Mp, Mp, Mb, reduceIte]) | (with_reducible first | refine ld aS aL aR ?_ | refine X8 aS aL aR ?_ | refine Y3 aS aL aR ?_ | refine Q6 aL ?_ | refine Y6 aR ?_ | refine Z4 aS ?_ | refine L1 aS aL ?_ | refine U2 aS aR ?_ | refine Y0 aS aR aR (Rep.one (by assumption)) ?_ | refine U1 aS aR aR aR ?_ | refine Zd _ au (W7 aS ?_) | refine Uf _ ?_ | (refine Y2 (fun hh => ?_) (fun hh => ?_) <;> (try simp only [hh, Bool.not_true, Bool.not_false, ↓Mm, Mm, ↓Mp, Mp, Mb, reduceIte])) | (refine Q4 (fun hh => ?_) (fun hh => ?_) <;> (try simp only [hh, Bool.not_true, Bool.not_false, ↓Mm, Mm, ↓Mp, Mp, Mb, reduceIte])))))
      all_goals (refine Eq.subst (motive := fun b => K b _) ?_ (h _ _ (by (repeat (first | exact Stp.refl (by (first | assumption | exact Stp.sat (by assumption) | exact Hst.sat (by assumption))) | assumption | refine Stp.trans ?_ (by first | assumption | exact Hst.stp (by assumption)))))); clear h; (try clear hA); (try clear hB); (try clear hC); first | rfl | ((try simp only [Bool.not_eq_true', Bool.not_eq_false', Bool.not_true, Bool.not_false, Bool.not_eq_true] at *); simp only [*, Mb, reduceIte]; done) | (simp [*]; done) | simp_all)
  rw [if_neg h3] at h
  obtain ⟨h3, h4⟩ := not_or.1 h3
  refine V3 ?_
  simp only [decide_eq_false h3, decide_eq_false h4, ↓Mm, Mm, ↓Mr, Mr, Mb, reduceIte]
  by_cases h5 : n = [97, 114, 114, 97, 121]
  · rw [if_pos h5] at h
    simp only [decide_eq_true h5, ↓Mm, Mm, ↓Mr, Mr, Mb, reduceIte]
    (repeat' (first | (with_reducible intro _) | (with_reducible refine V3 ?_) | (simp only [↓Mm, Mm, ↓Mp, Mp, Mb, reduceIte]) | (with_reducible first | refine ld aS aL aR ?_ | refine X8 aS aL aR ?_ | refine Y3 aS aL aR ?_ | refine Q6 aL ?_ | refine Y6 aR ?_ | refine Z4 aS ?_ | refine L1 aS aL ?_ | refine U2 aS aR ?_ | refine Y0 aS aR aR (Rep.one (by assumption)) ?_ | refine U1 aS aR aR aR ?_ | refine Zd _ au (W7 aS ?_) | refine Q8U _ au (W7 aS ?_) | (refine Y2 (fun hh => ?_) (fun hh => ?_) <;> (try simp only [hh, Bool.not_true, Bool.not_false, ↓Mm, Mm, ↓Mp, Mp, Mb, reduceIte])) | (refine Q4 (fun hh => ?_) (fun hh => ?_) <;> (try simp only [hh, Bool.not_true, Bool.not_false, ↓Mm, Mm, ↓Mp, Mp, Mb, reduceIte])))))
    all_goals (try rw [e3])
    all_goals (refine Eq.subst (motive := fun b => K b _) ?_ (h _ _ (by (repeat (first | exact Stp.refl (by (first | assumption | exact Stp.sat (by assumption) | exact Hst.sat (by assumption))) | assumption | refine Stp.trans ?_ (by first | assumption | exact Hst.stp (by assumption)))))); clear h; (try clear hA); (try clear hB); (try clear hC); first | rfl | ((try simp only [Bool.not_eq_true', Bool.not_eq_false', Bool.not_true, Bool.not_false, Bool.not_eq_true] at *); simp only [*, Mb, reduceIte]; done) | (simp [*]; done) | simp_all)
  rw [if_neg h5] at h
  simp only [decide_eq_false h5, ↓Mm, Mm, ↓Mr, Mr, Mb, reduceIte]
  intro _
  refine Q89 a ha2 (W7 hs fun w1 σ1 hk => ?_)
  by_cases hp : Qy a = true
  · simp only [hp, if_true] at h ⊢
    (repeat' (first | (with_reducible intro _) | (with_reducible refine V3 ?_) | (simp only [↓Mm, Mm, ↓Mp, Mp, Mb, reduceIte]) | (with_reducible first | refine ld aS aL aR ?_ | refine X8 aS aL aR ?_ | refine Y3 aS aL aR ?_ | refine Q6 aL ?_ | refine Y6 aR ?_ | refine Z4 aS ?_ | refine L1 aS aL ?_ | refine U2 aS aR ?_ | refine Y0 aS aR aR (Rep.one (by assumption)) ?_ | refine U1 aS aR aR aR ?_ | (refine Y2 (fun hh => ?_) (fun hh => ?_) <;> (try simp only [hh, Bool.not_true, Bool.not_false, ↓Mm, Mm, ↓Mp, Mp, Mb, reduceIte])) | (refine Q4 (fun hh => ?_) (fun hh => ?_) <;> (try simp only [hh, Bool.not_true, Bool.not_false, ↓Mm, Mm, ↓Mp, Mp, Mb, reduceIte])))))
    all_goals (refine Eq.subst (motive := fun b => K b _) ?_ (h _ _ (by (repeat (first | exact Stp.refl (by (first | assumption | exact Stp.sat (by assumption) | exact Hst.sat (by assumption))) | assumption | refine Stp.trans ?_ (by first | assumption | exact Hst.stp (by assumption)))))); clear h; (try clear hA); (try clear hB); (try clear hC); first | rfl | ((try simp only [Bool.not_eq_true', Bool.not_eq_false', Bool.not_true, Bool.not_false, Bool.not_eq_true] at *); simp only [*, Mb, reduceIte]; done) | (simp [*]; done) | simp_all)
  · simp only [eq_false_of_ne_true hp, Bool.false_eq_true, if_false] at h ⊢
    (repeat' (first | (with_reducible intro _) | (with_reducible refine V3 ?_) | (simp only [↓Mm, Mm, ↓Mp, Mp, Mb, reduceIte]) | (with_reducible first | refine ld aS aL aR ?_ | refine X8 aS aL aR ?_ | refine Y3 aS aL aR ?_ | refine Q6 aL ?_ | refine Y6 aR ?_ | refine Z4 aS ?_ | refine L1 aS aL ?_ | refine U2 aS aR ?_ | refine Y0 aS aR aR (Rep.one (by assumption)) ?_ | refine U1 aS aR aR aR ?_ | (refine Y2 (fun hh => ?_) (fun hh => ?_) <;> (try simp only [hh, Bool.not_true, Bool.not_false, ↓Mm, Mm, ↓Mp, Mp, Mb, reduceIte])) | (refine Q4 (fun hh => ?_) (fun hh => ?_) <;> (try simp only [hh, Bool.not_true, Bool.not_false, ↓Mm, Mm, ↓Mp, Mp, Mb, reduceIte])))))
    all_goals (refine Eq.subst (motive := fun b => K b _) ?_ (h _ _ (by (repeat (first | exact Stp.refl (by (first | assumption | exact Stp.sat (by assumption) | exact Hst.sat (by assumption))) | assumption | refine Stp.trans ?_ (by first | assumption | exact Hst.stp (by assumption)))))); clear h; (try clear hA); (try clear hB); (try clear hC); first | rfl | ((try simp only [Bool.not_eq_true', Bool.not_eq_false', Bool.not_true, Bool.not_false, Bool.not_eq_true] at *); simp only [*, Mb, reduceIte]; done) | (simp [*]; done) | simp_all))
def N8 (i : Ins) : Int := if !(D4 i.op).2.2 then 40 else if (!(D4 i.op).1 && decide (i.n ≠ 0)) || (!(D4 i.op).2.1 && decide (i.s ≠ [])) || ((D4 i.op).2.1 && !txt i.op i.s) then 41 else 0
theorem Q71 {a : X0} (hs : X6 w σ) (hg : Glb σ) (h : ∀ w', Below w.heap.size w w' → K (.tuple #[.bool (D4 a).1, .bool (D4 a).2.1, .bool (D4 a).2.2]) w') : Q1 P F.bS [S a] w K := Q7P hs hg.ops h
theorem Q43 {i : Ins} {cs : List Value} (hs : X6 w σ) (hg : Glb σ) (hi : F4 σ i cs) (h : ∀ w' σ', Stp w σ w' σ' → K (I (N8 i)) w') : Q1 P F.c8 [.agg cs.toArray] w K := Q2M (by
  obtain ⟨rfl, h1, h2, h3⟩ := hi
  unfold Gy
  unfold N8 at h
  (repeat' (first | (with_reducible intro _) | (with_reducible refine V3 ?_) | (simp only [↓Mm, Mm, ↓Mp, Mp, Mb, reduceIte]) | (with_reducible first | refine ld aS aL aR ?_ | refine X8 aS aL aR ?_ | refine Y3 aS aL aR ?_ | refine Q6 aL ?_ | refine Y6 aR ?_ | refine Z4 aS ?_ | refine L1 aS aL ?_ | refine U2 aS aR ?_ | refine Y0 aS aR aR (Rep.one (by assumption)) ?_ | refine U1 aS aR aR aR ?_ | refine Q71 au au (W7 aS ?_) | refine Q9a au au au ?_ | (refine Y2 (fun hh => ?_) (fun hh => ?_) <;> (try simp only [hh, Bool.not_true, Bool.not_false, ↓Mm, Mm, ↓Mp, Mp, Mb, reduceIte])) | (refine Q4 (fun hh => ?_) (fun hh => ?_) <;> (try simp only [hh, Bool.not_true, Bool.not_false, ↓Mm, Mm, ↓Mp, Mp, Mb, reduceIte])))))
  all_goals (refine Eq.subst (motive := fun b => K b _) ?_ (h _ _ (by (repeat (first | exact Stp.refl (by (first | assumption | exact Stp.sat (by assumption) | exact Hst.sat (by assumption))) | assumption | refine Stp.trans ?_ (by first | assumption | exact Hst.stp (by assumption)))))); clear h; (try clear hA); (try clear hB); (try clear hC); first | rfl | ((try simp only [Bool.not_eq_true', Bool.not_eq_false', Bool.not_true, Bool.not_false, Bool.not_eq_true] at *); simp only [*, Mb, reduceIte]; done) | (simp [*]; done) | simp_all))
end Go.Proofs.YtdnfaboigajkhaaGreatDoor

namespace Go.Emb
open Go.RowKit Go.Hm
variable {P : Program} {W : World}
theorem Al {w : World} (hs : X6 w (I6 W)) {a : Addr} {v : Value} (h : W.cell? a = some v) : w.cell? a = some v := by
  unfold World.cell? at h ⊢
  cases hb : W.heap[a.block]? with
  | none => rw [hb] at h; cases h
  | some o => rw [hb] at h; rw [hs _ o hb]; exact h
theorem Q8H {α : Type} {f : α → List Value} {sz : Nat} (hf : ∀ a, (f a).length = sz) : ∀ (l : List α) (cs : List Value), cs.length = l.length * sz → (∀ i a, l[i]? = some a → (cs.drop (i * sz)).take sz = f a) → cs = l.flatMap f := by
  intro l
  induction l with
  | nil => intro cs h _; simp at h; simp [h]
  | cons a r ih =>
    intro cs h hh
    have h0 := hh 0 a rfl
    have h1 := ih (cs.drop sz) (by rw [List.length_drop, h, List.length_cons, Nat.succ_mul]; omega) (fun i b hb => by
      have := hh (i + 1) b (by simpa using hb)
      rw [List.drop_drop]
      rwa [Nat.succ_mul, Nat.add_comm] at this)
    rw [List.flatMap_cons, ← h1, ← h0]
    simp
theorem Q1H {α H : Type} {enc : TypeId × Value → H} {V8 : Nat} {sp : Nat → Bool} {held : Bool} {f : α → List Value} {fd : α → DataW H} {n sz : Nat} {t e : TypeId} {fuel : Nat} {cs : List Value} {p : List MemPlace} (ht : P.underlying t = some (.array n e)) (hc : P.cellsOf e = sz) (hct : P.cellsOf t = n * sz)
    (l : List α) (hf : ∀ a, (f a).length = sz) (hel : ∀ m cs a q, DataW.trod enc P W V8 sp held m e cs = some (fd a, q) → cs = f a)
    (h : DataW.trod enc P W V8 sp held fuel t cs = some (.agg (l.map fd), p)) : cs = l.flatMap f := by
  obtain ⟨xs, m, _, he, h1, h2, h3⟩ := DataW.trod_array ht h
  simp only [Prod.mk.injEq, DataW.agg.injEq] at he
  have hl : l.length = n := by have := congrArg List.length he.1; simp at this; omega
  refine Q8H hf l cs (by rw [h1, hct, hl]) fun i a ha => ?_
  have hi : i < l.length := (List.getElem?_eq_some_iff.1 ha).1
  have h4 := h3 i (by omega)
  have hx : i < xs.length := by omega
  rw [List.getElem?_eq_getElem hx, hc] at h4
  have h5 : (xs[i]).1 = fd a := by
    have := congrArg (·[i]?) he.1
    simp only [List.getElem?_map, ha, List.getElem?_eq_getElem hx, Option.map_some, Option.some.injEq] at this
    exact this.symm
  exact hel m _ a _ (by rw [h4]; congr 1; exact Prod.ext h5 rfl)
theorem Q3s {n : String} {g : Nat} {cs : Array Value} {l : List Value} (hg : P.globalNamed n = some g) (hv : W.var? P n = some cs) (hl : cs.toList = l) : U0 (I6 W) ⟨g, 0, none⟩ l := by
  unfold World.var? at hv
  rw [hg] at hv
  simp only [Option.bind_some] at hv
  cases hb : W.heap[g]? with
  | none => rw [hb] at hv; cases hv
  | some o =>
    rw [hb] at hv
    cases o with
    | cells D6 e fr =>
      cases hv
      refine ⟨rfl, cs, e, fr, hb, fun i v hi => ?_⟩
      subst hl
      simpa using hi
    | _ => cases hv
end Go.Emb
namespace Go.Proofs.YtdnfaboigajkhaaGreatDoor
open Go.Emb Go.RowKit Go.Kd Go.Hm
variable {W : World}
def laidAll : List (String × DataW Unit) := [("unicode/utf8.acceptRanges", Rows.laid_unicode_utf8_acceptRanges), ("squinch/code.ops", Rows.laid_squinch_code_ops), ("squinch/hier.faults", Rows.laid_squinch_hier_faults), ("unicode/utf8.first", Rows.laid_unicode_utf8_first)]
theorem Q9k : Rows.laid_squinch_code_ops = (.agg (Xy.map fun o => .agg [.lit (.string o.name), .lit (.bool o.number), .lit (.bool o.text)]) : DataW Unit) := by rfl
theorem Q6P : Rows.laid_squinch_hier_faults = (.agg (V2.map fun s => .lit (.string s)) : DataW Unit) := by rfl
theorem Q9D : (Rows.laid_unicode_utf8_acceptRanges : DataW Unit) = Lib.acceptData := by rfl
theorem Q8j : Rows.laid_unicode_utf8_first = Lib.firstData := by kernel_rfl
def Q9S : Array Field := #[⟨"name", T.b, 0, false, "", "squinch/code", 0⟩, ⟨"number", T.l, 1, false, "", "squinch/code", 16⟩, ⟨"text", T.l, 2, false, "", "squinch/code", 17⟩]
theorem Q9Q : P.underlying T.a3 = some (.struct Q9S) := by kernel_rfl
theorem Q90 (h : laidMetH P laidAll W) : Glb (I6 W) := by
  rw [Go.MakeChecks.laidMetH_plain _ _ _ (by kernel_rfl)] at h
  refine ⟨?_, fun w hs => ?_, ?_⟩
  · obtain ⟨g, t, cs, fuel, p, hg, hty, hvar, hd⟩ := Lib.laidMet.reads h (.tail _ (.head _))
    obtain rfl := Option.some.inj ((show P.globalNamed "squinch/code.ops" = some G.a by kernel_rfl).symm.trans hg)
    obtain rfl := Option.some.inj ((show (P.globals[G.a]?).map (·.type) = some T.a5 by kernel_rfl).symm.trans hty)
    rw [Q9k] at hd
    refine Q3s hg hvar (Q1H (f := Tu) (sz := 3) (n := 42) (e := T.a3) (by kernel_rfl) (by kernel_rfl) (by kernel_rfl) Xy (fun _ => rfl) (fun m cs a q h => by
    obtain ⟨xs, n, _, he, h1, h2, h3⟩ := DataW.trod_struct Q9Q h
    simp only [Prod.mk.injEq, DataW.agg.injEq] at he
    have hlen : cs.length = 3 := by rw [h1]; kernel_rfl
    obtain ⟨c0, c1, c2, rfl⟩ := Q26 hlen
    obtain ⟨x0, x1, x2, rfl⟩ := Q26 (show xs.length = 3 by rw [h2]; rfl)
    have he := he.1
    simp only [List.map_cons, List.map_nil, List.cons.injEq, and_true] at he
    obtain ⟨e0, e1, e2⟩ := he
    have h0 : DataW.trod (fun _ => ()) P W 0 (fun _ => true) false n T.b (List.take (P.cellsOf T.b) (List.drop 0 [c0, c1, c2])) = some x0 := h3 0 _ rfl
    have h4 : DataW.trod (fun _ => ()) P W 0 (fun _ => true) false n T.l (List.take (P.cellsOf T.l) (List.drop 1 [c0, c1, c2])) = some x1 := h3 1 _ rfl
    have h5 : DataW.trod (fun _ => ()) P W 0 (fun _ => true) false n T.l (List.take (P.cellsOf T.l) (List.drop 2 [c0, c1, c2])) = some x2 := h3 2 _ rfl
    rw [S7] at h0
    rw [Ro] at h4 h5
    obtain ⟨⟨⟨s0⟩⟩, q0, r0, _⟩ := DataW.trod_string X7 h0
    obtain ⟨b1, q1, r1⟩ := DataW.trod_bool Jb h4
    obtain ⟨b2, q2, r2⟩ := DataW.trod_bool Jb h5
    simp at q0 q1 q2
    subst q0 q1 q2 r0 r1 r2
    simp at e0 e1 e2
    simp [Tu, ← e0, ← e1, ← e2]) hd)
  · have := utf8Tabs_of_readsT (U8Types.of196 Tryz.lays196) ⟨by kernel_rfl, by kernel_rfl, by kernel_rfl, by kernel_rfl, by kernel_rfl, by kernel_rfl, by kernel_rfl⟩ (Q8j ▸ Lib.laidMet.reads h (.tail _ (.tail _ (.tail _ (.head _))))) (Q9D ▸ Lib.laidMet.reads h (.head _))
    exact ⟨fun c hc => Al hs (this.1 c hc), fun i hi => ⟨Al hs (this.2 i hi).1, Al hs (this.2 i hi).2⟩⟩
  · obtain ⟨g, t, cs, fuel, p, hg, hty, hvar, hd⟩ := Lib.laidMet.reads h (.tail _ (.tail _ (.head _)))
    obtain rfl := Option.some.inj ((show P.globalNamed "squinch/hier.faults" = some G.b by kernel_rfl).symm.trans hg)
    obtain rfl := Option.some.inj ((show (P.globals[G.b]?).map (·.type) = some T.ad by kernel_rfl).symm.trans hty)
    rw [Q6P] at hd
    have := Q1H (f := fun s => [S s]) (sz := 1) (n := 6) (e := T.b) (by kernel_rfl) S7 (by kernel_rfl) V2 (fun _ => rfl) (fun m cs a q h => by
      obtain ⟨⟨⟨s⟩⟩, rfl, he, _⟩ := DataW.trod_string X7 h
      cases he; rfl) hd
    exact Q3s hg hvar (this.trans (by rfl))
end Go.Proofs.YtdnfaboigajkhaaGreatDoor
namespace Go.Emb
open Go.RowKit Go.Hm
theorem Q8L {H : Type} {P : Program} {ts : List TypeId} {ds : List (DataW H)} (h : (DataW.weightsEach P ts ds).all (· ≤ reachBytes) = true) {j : Nat} {t : TypeId} {d : DataW H} (ht : ts[j]? = some t) (hd : ds[j]? = some d) : Wt P t d := fun n hn => by
  have := List.all_eq_true.1 h _ (DataW.weights_mem_each ht hd n hn)
  simpa using this
end Go.Emb
namespace Go.Proofs.YtdnfaboigajkhaaGreatDoor
open Go.Emb Go.RowKit Go.Kd Go.Hm
section
variable {H : Type} {enc : TypeId × Value → H} {W : World} {v : Value} {d : DataW H} {p : List MemPlace}
set_option maxRecDepth 100000 in
theorem Q83 {V8 : Nat} (hv : Value.okWide P W .any V8 T.g v) (h : DataW.Trod enc P W 0 (fun _ => true) true T.g v d p) (hw : Wt P T.g d) : ∃ l, Sl 8 U7 (I6 W) v l := by
  obtain ⟨a, n, c, rfl⟩ := WideShapes.okWide_slice Q5X hv
  unfold DataW.Trod at h
  obtain ⟨fuel, h⟩ := h
  obtain ⟨u, l, e, hl⟩ := Q8n h hw
  simp [Value.cells] at e
  subst e
  exact ⟨l, hl⟩
end
end Go.Proofs.YtdnfaboigajkhaaGreatDoor

namespace Go.Emb
open Go.RowKit Go.Hm
variable {P : Program} {w w0 w1 w' w'' : World} {K : Value → World → Prop} {σ σ0 σ1 σ' : Q5}
def L7 {α : Type} (B : Nat) (e : TypeId) (sz : Nat) (R : Q5 → α → List Value → Prop) (σ : Q5) (w : World) (v : Value) (xs : List α) : Prop :=
  ∃ a cap, v = .slice a xs.length cap ∧ xs.length ≤ cap ∧ cap ≤ maxLen ∧ (∀ b, a = some b → b.spot = none ∧ B ≤ b.block ∧ b.block < w.heap.size ∧ σ b.block = none) ∧ (0 < cap → ∃ g off cur, a = some ⟨g, off, none⟩ ∧ B ≤ g ∧ σ g = none ∧ w.heap[g]? = some (.cells cur e (0, 0)) ∧ off + cap * sz ≤ cur.size ∧ ∀ i x, xs[i]? = some x → R σ x ((cur.toList.drop (off + i * sz)).take sz))
section
variable {α : Type} {R : Q5 → α → List Value → Prop} {B sz : Nat} {e : TypeId} {v u : Value} {xs ys : List α}
theorem L7.of_acc (h : W6 B e sz R σ w v xs) : L7 B e sz R σ w v xs := by
  obtain ⟨cells, h1, h2, h3⟩ := h
  rcases h1.2 with ⟨rfl, h0⟩ | ⟨g, cap, cur, rfl, hb, hg, hle, hmax, hsz, htk⟩
  · exact ⟨none, 0, by rw [h0], by omega, by simp, by simp, fun h => by omega⟩
  · refine ⟨_, cap, rfl, hle, hmax, by rintro _ ⟨⟩; exact ⟨rfl, hb, (Array.getElem?_eq_some_iff.1 hg).1, h2 g rfl⟩, fun _ => ⟨g, 0, cur, rfl, hb, h2 g rfl, hg, by omega, fun i x hx => ?_⟩⟩
    have hi : i < xs.length := (List.getElem?_eq_some_iff.1 hx).1
    have hh : i * sz + sz ≤ xs.length * sz := by rw [← Nat.succ_mul]; exact Nat.mul_le_mul_right _ hi
    have := h3 i x hx
    rw [← htk, List.drop_take, List.take_take] at this
    rw [Nat.zero_add]
    rwa [show min sz (xs.length * sz - i * sz) = sz by omega] at this
theorem L7.mem (h : L7 B e sz R σ w v xs) {k : Nat} (hv : v.ownBlock = some k) : B ≤ k ∧ k < w.heap.size ∧ σ k = none := by
  obtain ⟨a, cap, rfl, h1, h2, hsp, h3⟩ := h
  cases a with
  | none => cases hv
  | some a => cases hv; exact (hsp a rfl).2
theorem L7.lt (h : L7 B e sz R σ w v xs) {k : Nat} (hv : v.ownBlock = some k) (hx : 0 < xs.length) : B ≤ k ∧ k < w.heap.size ∧ σ k = none := h.mem hv
theorem L7.up [hr : Rep R] (h : L7 B e sz R σ w v xs) (hk : Stp w σ w' σ') : L7 B e sz R σ' w' v xs := by
  obtain ⟨a, cap, rfl, h1, h2, hsp, h3⟩ := h
  refine ⟨a, cap, rfl, h1, h2, fun b hb => ⟨(hsp b hb).1, (hsp b hb).2.1, Nat.lt_of_lt_of_le (hsp b hb).2.2.1 hk.bel.size, (hk.old _ (hsp b hb).2.2.1).trans (hsp b hb).2.2.2⟩, fun hc => ?_⟩
  obtain ⟨g, off, cur, rfl, q1, q2, q3, q4, q5⟩ := h3 hc
  have hl := (Array.getElem?_eq_some_iff.1 q3).1
  exact ⟨g, off, cur, rfl, q1, (hk.old g hl).trans q2, (hk.bel.block g hl).trans q3, q4, fun i x hx => hr.up hk.le (q5 i x hx)⟩
theorem L7.step [hr : Rep R] (h : L7 B e sz R σ w v xs) (hk : Stp w σ w' σ') : L7 B e sz R σ' w' v xs := h.up hk
theorem L7.kp {D : Nat → Prop} (h : L7 B e sz R σ w v xs) (hk : Kpt D w w') (hne : ∀ k, v.ownBlock = some k → ¬ D k) : L7 B e sz R σ w' v xs := by
  obtain ⟨a, cap, rfl, h1, h2, hsp, h3⟩ := h
  refine ⟨a, cap, rfl, h1, h2, fun b hb => ⟨(hsp b hb).1, (hsp b hb).2.1, Nat.lt_of_lt_of_le (hsp b hb).2.2.1 hk.size, (hsp b hb).2.2.2⟩, fun hc => ?_⟩
  obtain ⟨g, off, cur, rfl, q1, q2, q3, q4, q5⟩ := h3 hc
  have hl := (Array.getElem?_eq_some_iff.1 q3).1
  exact ⟨g, off, cur, rfl, q1, q2, (hk.block g hl (hne g rfl)).trans q3, q4, q5⟩
theorem Q2g {t0 t : TypeId} {cs : List Bool} [ts : TS P t0 e] (h : L7 B e sz R σ w v xs) (hk : K (I xs.length) w) : X4 P .len [t0] t cs [v] w K := by
  obtain ⟨a, cap, rfl, _⟩ := h
  rw [Q4C]; exact hk
theorem Q2E {t : TypeId} {by_ : Nat} {z : Value} [TS P t e] [TZ P e sz by_ z] (h : L7 B e sz R σ w v xs) {n : Nat} (hn : n < xs.length)
    (hk : ∀ a cs, (∀ j u, cs[j]? = some u → w.cell? (a.add j) = some u) → cs.length = sz → R σ xs[n] cs → K (.pointer (some a)) w) : indexAddr P t v (I n) w K := by
  obtain ⟨a, cap, rfl, h1, h2, hsp, h3⟩ := h
  obtain ⟨g, off, cur, rfl, q1, q2, q3, q4, q5⟩ := h3 (by omega)
  rw [Rg (by omega) (by omega)]
  have hh : n * sz + sz ≤ cap * sz := by rw [← Nat.succ_mul]; exact Nat.mul_le_mul_right _ (by omega)
  refine hk _ ((cur.toList.drop (off + n * sz)).take sz) ?_ ?_ (q5 n _ (by simp [hn]))
  · intro j u hu
    rw [List.getElem?_take] at hu
    split at hu
    · rw [List.getElem?_drop] at hu
      unfold World.cell?
      rw [R6, R6, Qx, Qx, F2 (F2 rfl _)]
      simp only [q3]
      simpa using hu
    · cases hu
  · rw [List.length_take, List.length_drop, Array.length_toList]; omega
theorem Q9G {t : TypeId} {by_ : Nat} {z : Value} [ts : TS P t e] [tz : TZ P e sz by_ z] (h : L7 B e sz R σ w v xs) (l : Nat) (hl : l ≤ xs.length)
    (hk : ∀ v', L7 B e sz R σ w v' (xs.drop l) → (v'.ownBlock = v.ownBlock ∨ v'.ownBlock = none) → K v' w) : R7 P t v (some (I l)) none none w K := by
  obtain ⟨a, cap, rfl, h1, h2, hsp, h3⟩ := h
  have hh : ∀ w : World, (Instr.sliceBounds true xs.length cap (some (I l)) none none).run P w = .ok (l, xs.length, cap) w := by
    intro w
    have c1 : (l : Int) ≤ xs.length := by omega
    simp [Instr.sliceBounds, Instr.sliceBound, asIntOf, h1, c1]
    intros; omega
  unfold R7
  have : (Instr.sliceAt t (.slice a xs.length cap) (some (I l)) none none).run P w = .ok (.slice (if cap = l then a else a.map (·.add (l * sz))) (xs.length - l) (cap - l)) w := by
    simp [Instr.sliceAt, run_underlying ts.h, Instr.slice, hh, M1 tz]
  rw [X9 this]
  refine hk _ ⟨_, cap - l, by rw [List.length_drop], by rw [List.length_drop]; omega, by omega, ?_, fun hc => ?_⟩ ?_
  · intro b hb
    split at hb
    · exact hsp b hb
    · cases a with
      | none => cases hb
      | some a => cases hb; exact ⟨F2 (hsp a rfl).1 _, by rw [R6]; exact (hsp a rfl).2⟩
  · have h4 := h3 (by omega)
    clear h3
    obtain ⟨g, off, cur, rfl, q1, q2, q3, q4, q5⟩ := h4
    refine ⟨g, off + l * sz, cur, ?_, q1, q2, q3, ?_, fun i x hx => ?_⟩
    · rw [if_neg (by omega)]; simp only [Option.map_some]; congr 1; unfold Addr.add; split <;> simp_all
    · have : l * sz + (cap - l) * sz = cap * sz := by rw [← Nat.add_mul]; congr 1; omega
      omega
    · rw [List.getElem?_drop] at hx
      have := q5 _ _ hx
      rwa [Nat.add_mul, ← Nat.add_assoc] at this
  · left
    by_cases hcl : cap = l
    · rw [if_pos hcl]; cases a <;> rfl
    · rw [if_neg hcl]
      cases a with
      | none => rfl
      | some a => simp only [Option.map_some, Value.ownBlock, R6]
theorem Q7p {t ty : TypeId} {by_ : Nat} {z : Value} {cs : List Bool} [ts : TS P t e] [tz : TZ P e sz by_ z] [hr : Rep R] (hs : X6 w σ) (hB : B ≤ w.heap.size) (ha : L7 B e sz R σ w v xs) (hu : Sl sz R σ u ys) (hz : (z.cells.size == sz && decide (0 < sz)) = true)
    (hb : (xs.length + ys.length) * by_ ≤ 140737488355328) (hm : xs.length + ys.length ≤ 1000000000000)
    (h : ∀ v' w', Kpt (fun k => v.ownBlock = some k ∧ B ≤ k ∧ σ k = none) w w' → X6 w' σ → L7 B e sz R σ w' v' (xs ++ ys) → ((∃ a cap, v = .slice a xs.length cap ∧ v' = .slice a (xs.length + ys.length) cap) ∨ (Below w.heap.size w w' ∧ ∀ k, v'.ownBlock = some k → w.heap.size ≤ k)) → K v' w') : X4 P .append [t, t] ty cs [v, u] w K := by
  obtain ⟨ac, acap, rfl, c1, c2, csp, c3⟩ := ha
  obtain ⟨a, cap, news, rfl, n1, n2, n3, n4, n5⟩ := hu.cells hs
  obtain ⟨i, hi, hsz, hby, hzero⟩ := tz.info
  simp only [Bool.and_eq_true, beq_iff_eq, decide_eq_true_eq] at hz
  obtain ⟨hz1, hz2⟩ := hz
  have fin : ∀ v' w', (Builtin.append_ #[t, t] ty #[.slice ac xs.length acap, .slice a ys.length cap]).run P w = .ok v' w' → Kpt (fun k => (Value.slice ac xs.length acap).ownBlock = some k ∧ B ≤ k ∧ σ k = none) w w' → L7 B e sz R σ w' v' (xs ++ ys) → ((∃ a cap, (Value.slice ac xs.length acap) = .slice a xs.length cap ∧ v' = .slice a (xs.length + ys.length) cap) ∨ (Below w.heap.size w w' ∧ ∀ k, v'.ownBlock = some k → w.heap.size ≤ k)) → X4 P .append [t, t] ty cs [.slice ac xs.length acap, .slice a ys.length cap] w K := by
    intro v' w' hrun hk hq hat
    have hrun' : (builtin .append #[t, t] ty cs.toArray #[.slice ac xs.length acap, .slice a ys.length cap]).run P w = .ok (.value v') w' := by
      simp [builtin, hrun]
    unfold X4
    rw [Zf]; unfold Xj
    rw [hrun']
    exact h v' w' hk (fun k o ho => by rw [hk.block k (hs.lt ho) fun e => by rw [e.2.2] at ho; cases ho]; exact hs k o ho) hq hat
  have hsrc : Src P i.size t (.slice a ys.length cap) ys.length news w := by
    cases a with
    | some b => exact Src.ofSlice w ts.h b ys.length cap news (by rw [hsz]; exact n2) (n3 b rfl) n4
    | none =>
      have hy : ys.length = 0 := by
        obtain ⟨a', cap', e', q1, _, q3, _⟩ := hu; injection e' with e1 e2 e3; have := n1 rfl; omega
      have hn : news = [] := List.eq_nil_of_length_eq_zero (by rw [n2, hy]; simp)
      subst hn
      rw [hy]; exact Src.ofNil w ts.h cap
  by_cases hroom : xs.length + ys.length ≤ acap
  · by_cases hc0 : acap = 0
    · -- nothing at all
      subst hc0
      have hx : xs = [] := List.eq_nil_of_length_eq_zero (by omega)
      have hy : ys = [] := List.eq_nil_of_length_eq_zero (by omega)
      subst hx hy
      have hn : news = [] := List.eq_nil_of_length_eq_zero (by simpa using n2)
      subst hn
      refine fin (.slice ac 0 0) w ?_ Kpt.refl ⟨ac, 0, rfl, by simp, by simp, csp, fun h => by omega⟩ (.inl ⟨_, _, rfl, rfl⟩)
      have hl := hsrc.len w
      have hcs := hsrc.cells
      simp only [List.length_nil] at hl hcs ⊢
      cases ac <;> simp [Builtin.append_, run_underlying ts.h, sizeOf, typeInfo, hi, hl, hcs, storeCells]
    · obtain ⟨g, off, cur, rfl, q1, q2, q3, q4, q5⟩ := c3 (by omega)
      have e1 : (xs.length + ys.length) * sz ≤ acap * sz := Nat.mul_le_mul_right _ hroom
      rw [Nat.add_mul] at e1
      have hst := run_storeCells_at P g (off + xs.length * sz) e news 0 cur w q3 (by omega) n4
      simp only [Nat.add_zero] at hst
      obtain ⟨hu1, hu2⟩ := Na (cs := (cur.toList.take (off + xs.length * sz) ++ news ++ cur.toList.drop (off + xs.length * sz + news.length)).toArray) q3
      refine fin (.slice (some ⟨g, off, none⟩) (xs.length + ys.length) acap) _ ?_ (Kpt.of_upd hu1 ⟨rfl, q1, q2⟩) ?_ (.inl ⟨_, _, rfl, rfl⟩)
      · have hl := hsrc.len w
        have hcs := hsrc.cells
        rw [hsz] at hcs
        simp [Builtin.append_, run_underlying ts.h, sizeOf, typeInfo, hi, hl, hcs, hsz, hroom, Addr.add_lit, hst]
      · refine ⟨_, acap, by rw [List.length_append], by rw [List.length_append]; exact hroom, c2, fun b hb => ⟨(csp b hb).1, (csp b hb).2.1, by rw [hu1.size]; exact (csp b hb).2.2.1, (csp b hb).2.2.2⟩, fun _ => ⟨g, off, _, rfl, q1, q2, hu2, ?_, fun j x hx => ?_⟩⟩
        · simp; omega
        · by_cases hj : j < xs.length
          · rw [List.getElem?_append_left hj] at hx
            have := q5 j x hx
            have hh : j * sz + sz ≤ xs.length * sz := by rw [← Nat.succ_mul]; exact Nat.mul_le_mul_right _ hj
            have e2 : ((cur.toList.take (off + xs.length * sz) ++ news ++ cur.toList.drop (off + xs.length * sz + news.length)).toArray.toList.drop (off + j * sz)).take sz = (cur.toList.drop (off + j * sz)).take sz := by
              rw [List.toList_toArray, List.append_assoc]
              rw [List.drop_append_of_le_length (by rw [List.length_take, Array.length_toList (xs := cur)]; omega), List.take_append_of_le_length (by rw [List.length_drop, List.length_take, Array.length_toList (xs := cur)]; omega), List.drop_take, List.take_take]
              congr 1; omega
            rw [e2]; exact this
          · rw [List.getElem?_append_right (by omega)] at hx
            have := n5 _ _ hx
            have hjl : j - xs.length < ys.length := (List.getElem?_eq_some_iff.1 hx).1
            have hh : (j - xs.length) * sz + sz ≤ ys.length * sz := by rw [← Nat.succ_mul]; exact Nat.mul_le_mul_right _ hjl
            have hjs : j * sz = xs.length * sz + (j - xs.length) * sz := by rw [← Nat.add_mul]; congr 1; omega
            have e2 : ((cur.toList.take (off + xs.length * sz) ++ news ++ cur.toList.drop (off + xs.length * sz + news.length)).toArray.toList.drop (off + j * sz)).take sz = (news.drop ((j - xs.length) * sz)).take sz := by
              rw [List.toList_toArray, List.append_assoc]
              rw [List.drop_append, List.drop_eq_nil_of_le (by rw [List.length_take, Array.length_toList (xs := cur)]; omega), List.nil_append, List.length_take, Array.length_toList (xs := cur),
                show off + j * sz - min (off + xs.length * sz) cur.size = (j - xs.length) * sz by omega,
                List.drop_append_of_le_length (by omega), List.take_append_of_le_length (by rw [List.length_drop]; omega)]
            rw [e2]; exact this
  · -- a new row
    have holds : ∃ olds : List Value, olds.length = xs.length * sz ∧ (Builtin.firstCells i.size xs.length (.slice ac xs.length acap)).run P w.drew = .ok olds.toArray w.drew ∧ ∀ j x, xs[j]? = some x → R σ x ((olds.drop (j * sz)).take sz) := by
      by_cases hc0 : acap = 0
      · subst hc0
        have hx : xs = [] := List.eq_nil_of_length_eq_zero (by omega)
        subst hx
        refine ⟨[], by simp, ?_, by simp⟩
        cases ac with
        | none => exact run_firstCells_none w.drew i.size 0 0 0
        | some a' => exact run_firstCells_some w.drew i.size 0 a' 0 0 [] (by simp) (by intro _ _ h'; simp at h')
      · obtain ⟨g, off, cur, rfl, q1, q2, q3, q4, q5⟩ := c3 (by omega)
        have e1 : xs.length * sz ≤ acap * sz := Nat.mul_le_mul_right _ c1
        refine ⟨(cur.toList.drop off).take (xs.length * sz), by rw [List.length_take, List.length_drop, Array.length_toList (xs := cur)]; omega, ?_, fun j x hx => ?_⟩
        · refine run_firstCells_some w.drew i.size xs.length ⟨g, off, none⟩ xs.length acap _ (by rw [List.length_take, List.length_drop, Array.length_toList (xs := cur), hsz]; omega) (fun j u hu => ?_)
          rw [List.getElem?_take] at hu
          split at hu
          · rw [List.getElem?_drop] at hu
            have q3' : w.drew.heap[g]? = some (.cells cur e (0, 0)) := q3
            unfold World.cell?
            rw [R6, Qx, F2 rfl]
            simp only [q3']
            simpa using hu
          · cases hu
        · have hj : j < xs.length := (List.getElem?_eq_some_iff.1 hx).1
          have hh : j * sz + sz ≤ xs.length * sz := by rw [← Nat.succ_mul]; exact Nat.mul_le_mul_right _ hj
          have := q5 j x hx
          rw [List.drop_take, List.take_take, List.drop_drop, show min sz (xs.length * sz - j * sz) = sz by omega]
          exact this
    obtain ⟨olds, o1, o2, o3⟩ := holds
    have hg : acap < xs.length + ys.length := by omega
    have hrun := run_append_grow_src (P := P) w t t ty e i z ts.h hi hzero ac xs.length acap olds o2 (.slice a ys.length cap) ys.length news hsrc hg (by omega) (growslice_fits hg (by rw [hby]; exact hb))
    have hcm := grownCap_le_maxLen w (xs.length + ys.length) acap e (by simp only [maxLen]; omega)
    have hge := grownCap_ge w (xs.length + ys.length) acap e
    have hL : (olds ++ news).length = (xs.length + ys.length) * sz := by rw [List.length_append, o1, n2, Nat.add_mul]
    refine fin _ _ hrun ?_ ?_ (.inr ⟨(Below.refl _ _).drew.alloc (Nat.le_refl _) _, by intro k hk; cases hk; exact Nat.le_refl _⟩)
    · exact Kpt.of_below ((Below.refl _ _).drew.alloc (Nat.le_refl _) _)
    · refine ⟨_, _, by rw [List.length_append], by rw [List.length_append]; exact hge, hcm, by rintro _ ⟨⟩; exact ⟨rfl, hB, (Array.getElem?_eq_some_iff.1 (heap_alloc_new w.drew _)).1, hs.none (Nat.le_refl _)⟩, fun _ => ⟨w.heap.size, 0, _, rfl, hB, hs.none (Nat.le_refl _), heap_alloc_new w.drew _, ?_, fun j x hx => ?_⟩⟩
      · rw [Array.size_append, List.size_toArray, hL, size_zeroCells, hz1, ← Nat.add_mul]
        rw [Nat.zero_add]; exact Nat.mul_le_mul_right _ (by omega)
      · rw [Nat.zero_add, Array.toList_append]
        have hj : j < xs.length + ys.length := by have := (List.getElem?_eq_some_iff.1 hx).1; rwa [List.length_append] at this
        have hh : j * sz + sz ≤ (xs.length + ys.length) * sz := by rw [← Nat.succ_mul]; exact Nat.mul_le_mul_right _ hj
        rw [List.drop_append_of_le_length (by simp only [List.toList_toArray]; omega), List.take_append_of_le_length (by rw [List.length_drop]; simp only [List.toList_toArray]; omega)]
        simp only [List.toList_toArray]
        by_cases hjx : j < xs.length
        · rw [List.getElem?_append_left hjx] at hx
          rw [Ob olds news xs.length j o1 hjx]
          exact o3 j x hx
        · rw [List.getElem?_append_right (by omega)] at hx
          have := n5 _ _ hx
          rw [show j * sz = olds.length + (j - xs.length) * sz by rw [o1, ← Nat.add_mul]; congr 1; omega, List.drop_append]
          simpa [List.drop_eq_nil_of_le] using this
end
theorem Yu {b : Nat} (h : w1.heap.size ≤ b) (k : Stp w σ w1 σ1) : w.heap.size ≤ b := Nat.le_trans k.bel.size h
theorem A0 {t : TypeId} {sz by_ : Nat} {z : Value} [tz : TZ P t sz by_ z] (hs : X6 w σ) (h : ∀ b w' σ', w.heap.size ≤ b → Stp w σ w' σ' → V4 σ' w' b z.cells.toList → K (.pointer (some ⟨b, 0, none⟩)) w') : M0 P t w K :=
  Sv hs fun b w' hb hk hm => h b w' σ hb hk hm
theorem Q2Q {t : TypeId} {cs : List Value} (hs : X6 w σ) (h : ∀ b w' σ', w.heap.size ≤ b → Stp w σ w' σ' → V4 σ' w' b cs → K (.pointer (some ⟨b, 0, none⟩)) w') : box P t (.agg cs.toArray) w K :=
  Q77 hs fun b w' hb hk hm => h b w' σ hb hk (by simpa [Value.cells] using hm)
theorem I8 {t : TypeId} {sz by_ : Nat} {z : Value} [tz : TZ P t sz by_ z] {b : Nat} {cs ds : List Value} (hm : V4 σ w b cs) (hS : Stp w0 σ0 w σ) (hb : w0.heap.size ≤ b) (hl : cs.length = sz) (hd : ds.length = sz) (h1 : ∀ u ∈ ds, u.oneCell' = true)
    (h : ∀ w', Hst w0 σ0 w' σ → V4 σ w' b ds → K undef w') : V5 P t (.pointer (some ⟨b, 0, none⟩)) (.agg ds.toArray) w K :=
  sta hm hl hd (by rw [List.all_toArray]; exact List.all_eq_true.2 h1) fun w' hu hm' => h w' ⟨hu.stp hS hb hm.1⟩ hm'
structure Nxt (D : Nat → Prop) (w : World) (σ : Q5) (w' : World) (σ' : Q5) : Prop where
  kp : Kpt D w w'
  le : SLe σ σ'
  old : ∀ k, k < w.heap.size → σ' k = σ k
  sat : X6 w' σ'
theorem Nxt.of_stp {D : Nat → Prop} (h : Stp w σ w' σ') : Nxt D w σ w' σ' := ⟨Kpt.of_below h.bel, ⟨h.le⟩, h.old, h.sat⟩
theorem Nxt.mono {D D' : Nat → Prop} (h : Nxt D w σ w' σ') (hd : ∀ k, k < w.heap.size → D k → D' k) : Nxt D' w σ w' σ' := ⟨h.kp.mono hd, h.le, h.old, h.sat⟩
theorem Nxt.trans {D : Nat → Prop} (h : Nxt D w σ w' σ') (k : Nxt D w' σ' w'' σ1) : Nxt D w σ w'' σ1 :=
  ⟨h.kp.trans k.kp, h.le.more k.le, fun i hi => (k.old i (Nat.lt_of_lt_of_le hi h.kp.size)).trans (h.old i hi), k.sat⟩
theorem V4.nx {D : Nat → Prop} {b : Nat} {cs : List Value} (h : V4 σ w b cs) (k : Nxt D w σ w' σ') (hd : ¬ D b) : V4 σ' w' b cs := by
  have hl := h.lt
  obtain ⟨h1, e, h2⟩ := h
  exact ⟨(k.old b hl).trans h1, e, (k.kp.block b hl hd).trans h2⟩
theorem N5.nx {D : Nat → Prop} {r : Nat} {m : List (List UInt8 × Value)} (h : N5 σ w r m) (k : Nxt D w σ w' σ') (hd : ¬ D r) : N5 σ' w' r m :=
  ⟨(k.old r h.lt).trans h.1, (k.kp.block r h.lt hd).symm ▸ h.2⟩
section
variable {α : Type} {R : Q5 → α → List Value → Prop} {B sz : Nat} {e : TypeId} {v u : Value} {xs : List α} {x : α}
theorem W6.nx [hr : Rep R] {D : Nat → Prop} (h : W6 B e sz R σ w v xs) (k : Nxt D w σ w' σ') (hd : ∀ k, v.ownBlock = some k → ¬ D k) : W6 B e sz R σ' w' v xs := by
  have h' := h.kp k.kp hd
  obtain ⟨cells, h1, h2, h3⟩ := h'
  refine ⟨cells, h1, fun i hi => (k.old i (h.mem i hi).2.1).trans (h2 i hi), fun i x hx => hr.up k.le.le (h3 i x hx)⟩
theorem L7.nx [hr : Rep R] {D : Nat → Prop} (h : L7 B e sz R σ w v xs) (k : Nxt D w σ w' σ') (hd : ∀ k, v.ownBlock = some k → ¬ D k) : L7 B e sz R σ' w' v xs := by
  obtain ⟨a, cap, rfl, h1, h2, hsp, h3⟩ := h
  refine ⟨a, cap, rfl, h1, h2, fun b hb => ⟨(hsp b hb).1, (hsp b hb).2.1, Nat.lt_of_lt_of_le (hsp b hb).2.2.1 k.kp.size, (k.old _ (hsp b hb).2.2.1).trans (hsp b hb).2.2.2⟩, fun hc => ?_⟩
  obtain ⟨g, off, cur, rfl, q1, q2, q3, q4, q5⟩ := h3 hc
  have hl := (Array.getElem?_eq_some_iff.1 q3).1
  exact ⟨g, off, cur, rfl, q1, (k.old g hl).trans q2, (k.kp.block g hl (hd g rfl)).trans q3, q4, fun i x hx => hr.up k.le.le (q5 i x hx)⟩
theorem Xs {t ty : TypeId} {by_ : Nat} {z : Value} {cs : List Bool} {A : Value → Value → World → Prop} [ts : TS P t e] [tz : TZ P e sz by_ z] [hr : Rep R] (hS : Stp w0 σ0 w σ) (ha : W6 w0.heap.size e sz R σ w v xs) (hu : R σ x u.cells.toList) (hc : u.cells.size = sz) (hz : (z.cells.size == sz && decide (0 < sz)) = true) (hz2 : (decide (0 < sz) && decide ([u].length * sz ≤ 16777216)) = true)
    (hb : (xs.length + 1) * by_ ≤ 140737488355328) (hm : xs.length + 1 ≤ 9223372036854775807)
    (h : ∀ s v' w' σ', Nxt (fun k => v.ownBlock = some k) w σ w' σ' → Stp w0 σ0 w' σ' → W6 w0.heap.size e sz R σ' w' v' (xs ++ [x]) → (v'.ownBlock = v.ownBlock ∨ ∀ k, v'.ownBlock = some k → w.heap.size ≤ k) → A s v' w') :
    buildSlice P t 1 [(0, u)] w (fun s w => X4 P .append [t, t] ty cs [v, s] w (fun v' w => A s v' w)) := by
  refine Nl hS.sat [u] [x] rfl rfl (by simpa using hc) hz2 ⟨hu, trivial⟩ fun s w1 σ1 hk hsl => ?_
  refine app (hS.trans hk) (ha.up hk) hsl hz (by simpa using hb) (by simpa using hm) fun v' w2 hg hS2 ha2 hat => ?_
  have hkp : Kpt (fun k => v.ownBlock = some k) w w2 := (Kpt.of_below hk.bel).trans (Kpt.of_grown hg fun k hk => hk)
  refine h s v' w2 σ1 ⟨hkp, ⟨hk.le⟩, hk.old, hS2.sat⟩ hS2 ha2 ?_
  rcases hat with hat | hat
  · exact .inl hat
  · exact .inr fun k hk' => Nat.le_trans hk.bel.size (hat k hk')
theorem Nj {t ty : TypeId} {by_ : Nat} {z : Value} {cs : List Bool} {ys : List α} [ts : TS P t e] [tz : TZ P e sz by_ z] [hr : Rep R] (hS : Stp w0 σ0 w σ) (ha : W6 w0.heap.size e sz R σ w v xs) (hu : Sl sz R σ u ys) (hz : (z.cells.size == sz && decide (0 < sz)) = true)
    (hb : (xs.length + ys.length) * by_ ≤ 140737488355328) (hm : xs.length + ys.length ≤ 9223372036854775807)
    (h : ∀ v' w', Nxt (fun k => v.ownBlock = some k) w σ w' σ → Stp w0 σ0 w' σ → W6 w0.heap.size e sz R σ w' v' (xs ++ ys) → (v'.ownBlock = v.ownBlock ∨ ∀ k, v'.ownBlock = some k → w.heap.size ≤ k) → K v' w') : X4 P .append [t, t] ty cs [v, u] w K :=
  app hS ha hu hz hb hm fun v' w2 hg hS2 ha2 hat => h v' w2 ⟨Kpt.of_grown hg fun k hk => hk, SLe.refl _, fun _ _ => rfl, hS2.sat⟩ hS2 ha2 hat
end
section
variable {α : Type} {R : Q5 → α → List Value → Prop} {B sz : Nat} {e : TypeId} {v u : Value} {xs : List α} {x : α}
theorem L7.mono {B' : Nat} (h : L7 B e sz R σ w v xs) (hb : B' ≤ B) : L7 B' e sz R σ w v xs := by
  obtain ⟨a, cap, rfl, h1, h2, hsp, h3⟩ := h
  refine ⟨a, cap, rfl, h1, h2, fun b hb' => ⟨(hsp b hb').1, Nat.le_trans hb (hsp b hb').2.1, (hsp b hb').2.2⟩, fun hc => ?_⟩
  obtain ⟨g, off, cur, rfl, q1, q⟩ := h3 hc
  exact ⟨g, off, cur, rfl, Nat.le_trans hb q1, q⟩
theorem L7.own (h : L7 B e sz R σ w v xs) {k : Nat} (hv : v.ownBlock = some k) : B ≤ k := (h.mem hv).1
theorem L7.keep [hr : Rep R] (h : L7 w0.heap.size e sz R σ w v xs) (hS : Stp w0 σ0 w σ) : ∃ σ', Stp w0 σ0 w σ' ∧ Sl sz R σ' v xs ∧ SLe σ σ' ∧ (∀ k, some k ≠ v.ownBlock → σ' k = σ k) := by
  obtain ⟨a, cap, rfl, h1, h2, hsp, h3⟩ := h
  by_cases hc : cap = 0
  · have hx : xs = [] := List.eq_nil_of_length_eq_zero (by omega)
    subst hc hx
    exact ⟨σ, hS, ⟨a, 0, rfl, by simp, by simp, fun _ => rfl, fun b hb => ⟨fun _ => (hsp b hb).1, by simp⟩⟩, SLe.refl _, fun _ _ => rfl⟩
  · obtain ⟨g, off, cur, rfl, q1, q2, q3, q4, q5⟩ := h3 (by omega)
    have hle' := Q5.put_le hS.sat q2 (.cells cur e (0, 0))
    refine ⟨σ.put g (.cells cur e (0, 0)), hS.put q2 q1 q3, ⟨_, cap, rfl, h1, h2, by simp, ?_⟩, ⟨hle'⟩, ?_⟩
    · rintro _ ⟨⟩
      refine ⟨fun _ => rfl, fun i x hx => ⟨(cur.toList.drop (off + i * sz)).take sz, ⟨F2 rfl _, cur, e, (0, 0), by rw [R6]; simp [Q5.put], ?_⟩, ?_, hr.up hle' (q5 i x hx)⟩⟩
      · intro j u hu
        rw [Qx]
        rw [List.getElem?_take] at hu
        split at hu
        · rw [List.getElem?_drop] at hu; simpa using hu
        · cases hu
      · have hi : i < xs.length := (List.getElem?_eq_some_iff.1 hx).1
        have h : i * sz + sz ≤ cap * sz := by rw [← Nat.succ_mul]; exact Nat.mul_le_mul_right _ (by omega)
        rw [List.length_take, List.length_drop, Array.length_toList (xs := cur)]; omega
    · intro k hk
      have : k ≠ g := by intro e; subst e; exact hk rfl
      simp only [Q5.put, if_neg this]
theorem Q7x {t t' : TypeId} {by_ : Nat} {z : Value} {A : Value → Value → World → Prop} {ds : List Value} [ts : TS P t e] [tz : TZ P e sz by_ z] {by' : Nat} {z' : Value} [tz' : TZ P t' sz by' z'] (hS : Stp w0 σ0 w σ) (ha : L7 w0.heap.size e sz R σ w v xs) {n : Nat} (hn : n < xs.length) (hd : ds.length = sz) (hx : R σ x ds) (h1 : ∀ u ∈ ds, u.oneCell' = true)
    (h : ∀ p u w', Kpt (fun k => v.ownBlock = some k) w w' → Hst w0 σ0 w' σ → L7 w0.heap.size e sz R σ w' v (xs.set n x) → A p u w') :
    indexAddr P t v (I n) w (fun p w => V5 P t' p (.agg ds.toArray) w (fun u w => A p u w)) := by
  obtain ⟨a, cap, rfl, c1, c2, hsp, c3⟩ := ha
  obtain ⟨g, off, cur, rfl, q1, q2, q3, q4, q5⟩ := c3 (by omega)
  rw [Rg (by omega) (by omega)]
  have hh : n * sz + sz ≤ cap * sz := by rw [← Nat.succ_mul]; exact Nat.mul_le_mul_right _ (by omega)
  have hadd : (⟨g, off, none⟩ : Addr).add ((n : Int).toNat * sz) = ⟨g, off + n * sz, none⟩ := by unfold Addr.add; split <;> simp_all
  rw [hadd]
  have hst := run_storeCells_at P g (off + n * sz) e ds 0 cur w q3 (by omega) h1
  simp only [Nat.add_zero] at hst
  obtain ⟨hu1, hu2⟩ := Na (cs := (cur.toList.take (off + n * sz) ++ ds ++ cur.toList.drop (off + n * sz + ds.length)).toArray) q3
  unfold V5
  rw [Lq (w' := w.setRow g (cur.toList.take (off + n * sz) ++ ds ++ cur.toList.drop (off + n * sz + ds.length)).toArray) (by
    simp [Instr.storeAt, Instr.sureAddr, storeVar, M1 tz', Value.cells, hd]
    simpa [hd] using hst)]
  have hk : Kpt (fun k => (Value.slice (some ⟨g, off, none⟩) xs.length cap).ownBlock = some k) w (w.setRow g (cur.toList.take (off + n * sz) ++ ds ++ cur.toList.drop (off + n * sz + ds.length)).toArray) := Kpt.of_upd hu1 rfl
  refine h _ _ _ hk ⟨hu1.stp hS q1 q2⟩ ⟨_, cap, by rw [List.length_set], by rw [List.length_set]; exact c1, c2, fun b hb => ⟨(hsp b hb).1, (hsp b hb).2.1, by rw [hu1.size]; exact (hsp b hb).2.2.1, (hsp b hb).2.2.2⟩, fun _ => ⟨g, off, _, rfl, q1, q2, hu2, ?_, fun j y hy => ?_⟩⟩
  · simp; omega
  · rw [List.toList_toArray]
    have hcl := Array.length_toList (xs := cur)
    have hjl : j < xs.length := by have := (List.getElem?_eq_some_iff.1 hy).1; simpa using this
    have hj2 : j * sz + sz ≤ cap * sz := by rw [← Nat.succ_mul]; exact Nat.mul_le_mul_right _ (by omega)
    by_cases hj : j = n
    · subst hj
      rw [List.getElem?_set_self hjl] at hy
      cases hy
      rw [List.append_assoc, List.drop_append, List.drop_eq_nil_of_le (by rw [List.length_take]; omega), List.nil_append, List.length_take, show off + j * sz - min (off + j * sz) cur.toList.length = 0 by omega, List.drop_zero, List.take_append_of_le_length (by omega), List.take_of_length_le (by omega)]
      exact hx
    · rw [List.getElem?_set_ne (by omega)] at hy
      have := q5 j y hy
      rcases Nat.lt_or_gt_of_ne hj with hlt | hgt
      · have hh3 : j * sz + sz ≤ n * sz := by rw [← Nat.succ_mul]; exact Nat.mul_le_mul_right _ hlt
        rw [List.append_assoc, List.drop_append_of_le_length (by rw [List.length_take]; omega), List.take_append_of_le_length (by rw [List.length_drop, List.length_take]; omega), List.drop_take, List.take_take]
        rwa [show min sz (off + n * sz - (off + j * sz)) = sz by omega]
      · have hh3 : n * sz + sz ≤ j * sz := by rw [← Nat.succ_mul]; exact Nat.mul_le_mul_right _ hgt
        rw [List.drop_append, List.drop_eq_nil_of_le (by rw [List.length_append, List.length_take]; omega), List.nil_append, List.length_append, List.length_take, List.drop_drop, hd]
        rwa [show off + n * sz + sz + (off + j * sz - (min (off + n * sz) cur.toList.length + sz)) = off + j * sz by omega]
end
theorem Q2s (p : Nat → Prop) : ∀ n, p n → ∃ m, p m ∧ ∀ k, p k → m ≤ k := by
  intro n
  induction n using Nat.strongRecOn with
  | _ n ih =>
    intro h
    by_cases hk : ∃ k, k < n ∧ p k
    · obtain ⟨k, h1, h2⟩ := hk; exact ih k h1 h2
    · exact ⟨n, h, fun k hp => Nat.le_of_not_lt fun hlt => hk ⟨k, hlt, hp⟩⟩
noncomputable def Ps (p : Nat → Prop) : Nat := open Classical in if h : ∃ m, p m ∧ ∀ k, p k → m ≤ k then Classical.choose h else 0
theorem Ia {p : Nat → Prop} {n : Nat} (h : p n) : p (Ps p) ∧ Ps p ≤ n := by
  have he := Q2s p n h
  unfold Ps
  rw [dif_pos he]
  exact ⟨(Classical.choose_spec he).1, (Classical.choose_spec he).2 n h⟩
theorem Bq {α : Type} {x0 : α} {A : (α → World → Prop) → α → (Nat → Value) → World → Prop} (I : Nat → α → World → Prop) (n : Nat) (h0 : I n x0 w)
    (hr : ∀ again n x d w, I n x w → (∀ n' x' w', n' < n → I n' x' w' → again x' w') → A again x d w) : lp x0 w A := by
  refine Jm (fun x w => ∃ n, I n x w) (fun x w => Ps fun n => I n x w) ⟨n, h0⟩ ?_
  rintro x d w ⟨n, hn⟩
  obtain ⟨h1, h2⟩ := Ia (p := fun n => I n x w) hn
  refine hr _ _ x d w h1 fun n' x' w' hlt h' => ⟨⟨n', h'⟩, ?_⟩
  exact Nat.lt_of_le_of_lt (Ia (p := fun n => I n x' w') h').2 hlt
section
variable {α : Type} {R : Q5 → α → List Value → Prop} {B sz : Nat} {e : TypeId} {v u : Value} {xs ys : List α} {x : α}
theorem L7.below (h : L7 B e sz R σ w v xs) (hb : Below w.heap.size w w') : L7 B e sz R σ w' v xs := h.kp (D := fun _ => False) (.of_below hb) fun _ _ => id
theorem L7.pre {a : Option Addr} {n m cap : Nat} (h : L7 B e sz R σ w (.slice a m cap) (xs ++ ys)) (hn : n = xs.length) : L7 B e sz R σ w (.slice a n cap) xs := by
  obtain ⟨a', cap', he, h1, h2, hsp, h3⟩ := h
  injection he with e1 e2 e3
  subst e1 e3 hn
  rw [List.length_append] at h1
  refine ⟨a, cap, rfl, by omega, h2, hsp, fun hc => ?_⟩
  obtain ⟨g, off, cur, q0, q1, q2, q3, q4, q5⟩ := h3 hc
  exact ⟨g, off, cur, q0, q1, q2, q3, q4, fun i x hx => q5 i x (by rw [List.getElem?_append_left (List.getElem?_eq_some_iff.1 hx).1]; exact hx)⟩
def Hz (B : Nat) (e : TypeId) (sz : Nat) (R : Q5 → α → List Value → Prop) (σ : Q5) (v : Value) (xs : List α) (x : α) (w1 w2 : World) : Prop :=
  Kpt (fun k => v.ownBlock = some k) w1 w2 ∧ (L7 B e sz R σ w1 v xs → L7 B e sz R σ w2 v xs) ∧
    ∀ a cap, v = .slice a xs.length cap → L7 B e sz R σ w1 (.slice a (xs.length + 1) cap) (xs ++ [x]) → L7 B e sz R σ w2 (.slice a (xs.length + 1) cap) (xs ++ [x])
theorem Hz.below (hb : Below w.heap.size w w') : Hz B e sz R σ v xs x w w' := ⟨.of_below hb, fun h => h.below hb, fun _ _ _ h => h.below hb⟩
theorem Hz.refl : Hz B e sz R σ v xs x w w := Hz.below (Below.refl _ _)
def VQa (N B : Nat) (e : TypeId) (sz : Nat) (R : Q5 → α → List Value → Prop) (σ : Q5) (v : Value) (xs : List α) (x : α) (v' : Value) (w : World) : Prop :=
  L7 B e sz R σ w v' (xs ++ [x]) ∧ ((∃ a cap, v = .slice a xs.length cap ∧ v' = .slice a (xs.length + 1) cap) ∨ ((∀ k, v'.ownBlock = some k → N ≤ k) ∧ ∀ k, v.ownBlock = some k → k < N))
theorem VQa.stable {N : Nat} {v' : Value} (h : VQa N B e sz R σ v xs x v' w) (ht : Hz B e sz R σ v xs x w w') : VQa N B e sz R σ v xs x v' w' := by
  obtain ⟨h1, h2⟩ := h
  refine ⟨?_, h2⟩
  rcases h2 with ⟨a, cap, h3, rfl⟩ | ⟨h2, h3⟩
  · exact ht.2.2 a cap h3 h1
  · exact h1.kp ht.1 fun k hk hk' => by have := h2 k hk; have := h3 k hk'; omega
theorem Kpt.more {D E : Nat → Prop} (h : Kpt D w w') (k : Kpt E w' w'') (hE : ∀ j, E j → w.heap.size ≤ j) : Kpt D w w'' :=
  ⟨k.os.trans h.os, k.tape.trans h.tape, k.output.trans h.output, Nat.le_trans h.size k.size, fun i hi hd => (k.block i (Nat.lt_of_lt_of_le hi h.size) fun e => by have := hE i e; omega).trans (h.block i hi hd)⟩
end
end Go.Emb

namespace Go.Proofs.YtdnfaboigajkhaaGreatDoor
open Go.Emb Go.RowKit Go.Kd Go.Hm
variable {w : World} {K : Value → World → Prop} {σ : Q5}
def S1 (n : Int) (x : Cat) : Bool := decide (0 ≤ x.frm) && decide (x.frm < x.to) && decide (x.to ≤ n) && decide (0 ≤ x.at_) && decide (x.at_ < n) && L3 x.cls
theorem Q5A {cs : List Value} {c : Cat} {q : Addr} {n : Int} (hs : X6 w σ) (hc : Qs σ c cs) (hq : U0 σ q [I n]) (h : ∀ w' σ', Stp w σ w' σ' → K (.bool (S1 n c)) w') : Q1 P F.aX [.agg cs.toArray, .pointer (some q)] w K := Q01 (by
  obtain ⟨rfl, h1, h2, h3, h4⟩ := hc
  unfold Oe
  unfold S1 at h
  (repeat' (first | (with_reducible intro _) | (with_reducible refine V3 ?_) | (simp only [↓Mm, Mm, ↓Mp, Mp, Mb, reduceIte]) | (with_reducible first | refine ld aS aL aR ?_ | refine X8 aS aL aR ?_ | refine Y3 aS aL aR ?_ | refine Q6 aL ?_ | refine Y6 aR ?_ | refine Z4 aS ?_ | refine L1 aS aL ?_ | refine U2 aS aR ?_ | refine Y0 aS aR aR (Rep.one (by assumption)) ?_ | refine U1 aS aR aR aR ?_ | refine Nz _ au (W7 aS ?_) | (refine Y2 (fun hh => ?_) (fun hh => ?_) <;> (try simp only [hh, Bool.not_true, Bool.not_false, ↓Mm, Mm, ↓Mp, Mp, Mb, reduceIte])) | (refine Q4 (fun hh => ?_) (fun hh => ?_) <;> (try simp only [hh, Bool.not_true, Bool.not_false, ↓Mm, Mm, ↓Mp, Mp, Mb, reduceIte])))))
  all_goals (refine Eq.subst (motive := fun b => K b _) ?_ (h _ _ (by (repeat (first | exact Stp.refl (by (first | assumption | exact Stp.sat (by assumption) | exact Hst.sat (by assumption))) | assumption | refine Stp.trans ?_ (by first | assumption | exact Hst.stp (by assumption)))))); clear h; (try clear hA); (try clear hB); (try clear hC); first | rfl | ((try simp only [Bool.not_eq_true', Bool.not_eq_false', Bool.not_true, Bool.not_false, Bool.not_eq_true] at *); simp only [*, Mb, reduceIte]; done) | (simp [*]; done) | simp_all))
theorem Q4K {cs : List Value} {i : Ins} (hs : X6 w σ) (hg : Glb σ) (hc : F4 σ i cs) (h : ∀ w' σ', Stp w σ w' σ' → K (.bool (decide (N8 i = 0))) w') : Q1 P F.aY [.agg cs.toArray] w K := Q03 (by
  obtain ⟨rfl, h1, h2, h3⟩ := hc
  have hc : F4 σ i [S i.op, I i.n, S i.s] := ⟨rfl, h1, h2, h3⟩
  unfold Dn
  (repeat' (first | (with_reducible intro _) | (with_reducible refine V3 ?_) | (simp only [↓Mm, Mm, ↓Mp, Mp, Mb, reduceIte]) | (with_reducible first | refine ld aS aL aR ?_ | refine X8 aS aL aR ?_ | refine Y3 aS aL aR ?_ | refine Q6 aL ?_ | refine Y6 aR ?_ | refine Z4 aS ?_ | refine L1 aS aL ?_ | refine U2 aS aR ?_ | refine Y0 aS aR aR (Rep.one (by assumption)) ?_ | refine U1 aS aR aR aR ?_ | refine Q43 au au au ?_ | (refine Y2 (fun hh => ?_) (fun hh => ?_) <;> (try simp only [hh, Bool.not_true, Bool.not_false, ↓Mm, Mm, ↓Mp, Mp, Mb, reduceIte])) | (refine Q4 (fun hh => ?_) (fun hh => ?_) <;> (try simp only [hh, Bool.not_true, Bool.not_false, ↓Mm, Mm, ↓Mp, Mp, Mb, reduceIte])))))
  all_goals (refine Eq.subst (motive := fun b => K b _) ?_ (h _ _ (by (repeat (first | exact Stp.refl (by (first | assumption | exact Stp.sat (by assumption) | exact Hst.sat (by assumption))) | assumption | refine Stp.trans ?_ (by first | assumption | exact Hst.stp (by assumption)))))); clear h; (try clear hA); (try clear hB); (try clear hC); first | rfl | ((try simp only [Bool.not_eq_true', Bool.not_eq_false', Bool.not_true, Bool.not_false, Bool.not_eq_true] at *); simp only [*, Mb, reduceIte]; done) | (simp [*]; done) | simp_all))
def S6 (m : Hm.Met) : Bool := M7 m.name && m.params.all right && (decide (m.result = []) || right m.result) &&
  if m.abs then decide (m.locals = 0) && decide (m.code = []) && decide (m.catches = [])
  else decide (m.code ≠ []) && decide ((m.params.length : Int) < m.locals) && m.code.all (fun i => decide (N8 i = 0)) && m.catches.all (S1 m.code.length)
theorem Q6J {cs : List Value} {m : Hm.Met} (hs : X6 w σ) (hg : Glb σ) (hm : N0 σ m cs) (h : ∀ w' σ', Stp w σ w' σ' → K (.bool (S6 m)) w') : Q1 P F.aQ [.agg cs.toArray] w K := Q0N (by
  obtain ⟨pv, cv, hv, rfl, g1, g2, g3, g4, g5, g6⟩ := hm
  unfold Ry
  unfold S6 at h
  have e1 : decide ((0 : Int) < m.code.length) = decide (m.code ≠ []) := by cases m.code <;> simp
  have e2 : decide ((m.code.length : Int) = 0) = decide (m.code = []) := by cases m.code <;> simp; omega
  have e3 : decide ((m.catches.length : Int) = 0) = decide (m.catches = []) := by cases m.catches <;> simp; omega
  have hA : ∀ {w1 : World} {σ1 : Q5} {K : Value → World → Prop}, X6 w1 σ1 → Sl 1 U5 σ1 pv m.params → (∀ w' σ', Stp w1 σ1 w' σ' → K (.bool (m.params.all right)) w') → Q1 P F.a3 [pv, .func (.func F.a1) #[] #[]] w1 K :=
    fun hs hv h => Rw right hs hv (fun σ1 x w1 K _ _ hs hl hK => J4 (Zd x (Nat.le_trans hl (by decide)) hK)) (W7 hs h)
  have hB : ∀ {w1 : World} {σ1 : Q5} {K : Value → World → Prop}, X6 w1 σ1 → Glb σ1 → Sl 3 F4 σ1 cv m.code → (∀ w' σ', Stp w1 σ1 w' σ' → K (.bool (m.code.all fun i => decide (N8 i = 0))) w') → Q1 P F.an [cv, .func (.func F.aY) #[] #[]] w1 K :=
    fun hs hg hv h => Tf (fun i => decide (N8 i = 0)) hs hv (fun σ1 x cs w1 K le _ hs hr hl hK => J4 (Q4K hs (hg.lift ⟨le⟩) hr fun w' σ' hk => hK w' hk.bel)) (W7 hs h)
  have hC : ∀ {w1 : World} {σ1 : Q5} {K : Value → World → Prop} {q : Addr}, X6 w1 σ1 → Sl 4 Qs σ1 hv m.catches → U0 σ1 q [I m.code.length] → (∀ w' σ', Stp w1 σ1 w' σ' → K (.bool (m.catches.all (S1 m.code.length))) w') → Q1 P F.ao [hv, .func (.func F.aX) #[] #[.pointer (some q)]] w1 K :=
    fun hs hv hq h => Tg (S1 m.code.length) hs hv (fun σ1 x cs w1 K le _ hs hr hl hK => J4 (Q5A hs hr (hq.le le) fun w' σ' hk => hK w' hk.bel)) (W7 hs h)
  refine Z4 hs fun a w1 σ1 hk1 ha1 => ?_
  (repeat' (first | (with_reducible intro _) | (with_reducible refine V3 ?_) | (simp only [↓Mm, Mm, ↓Mp, Mp, Mb, reduceIte]) | (with_reducible first | refine ld aS aL aR ?_ | refine X8 aS aL aR ?_ | refine Y3 aS aL aR ?_ | refine Q6 aL ?_ | refine Y6 aR ?_ | refine Z4 aS ?_ | refine L1 aS aL ?_ | refine U2 aS aR ?_ | refine Y0 aS aR aR (Rep.one (by assumption)) ?_ | refine U1 aS aR aR aR ?_ | refine Q2X au (W7 aS ?_) | refine Zd _ au (W7 aS ?_) | refine hA au au ?_ | refine hB au au au ?_ | refine hC au au au ?_ | (refine Y2 (fun hh => ?_) (fun hh => ?_) <;> (try simp only [hh, Bool.not_true, Bool.not_false, ↓Mm, Mm, ↓Mp, Mp, Mb, reduceIte])) | (refine Q4 (fun hh => ?_) (fun hh => ?_) <;> (try simp only [hh, Bool.not_true, Bool.not_false, ↓Mm, Mm, ↓Mp, Mp, Mb, reduceIte])))))
  all_goals (simp only [← e1, ← e2, ← e3] at h; clear e1 e2 e3; (refine Eq.subst (motive := fun b => K b _) ?_ (h _ _ (by (repeat (first | exact Stp.refl (by (first | assumption | exact Stp.sat (by assumption) | exact Hst.sat (by assumption))) | assumption | refine Stp.trans ?_ (by first | assumption | exact Hst.stp (by assumption)))))); clear h; (try clear hA); (try clear hB); (try clear hC); first | rfl | ((try simp only [Bool.not_eq_true', Bool.not_eq_false', Bool.not_true, Bool.not_false, Bool.not_eq_true] at *); simp only [*, Mb, reduceIte]; done) | (simp [*]; done) | simp_all)))
theorem Q6k {cs : List Value} {m : Hm.Met} (hs : X6 w σ) (hg : Glb σ) (hm : N0 σ m cs) (h : ∀ w' σ', Stp w σ w' σ' → K (.bool (S6 m)) w') : Z7 P (.func (.func F.aQ) #[] #[]) [.agg cs.toArray] w K := J4 (Q6J hs hg hm h)
def Mh (f : Fld) : Bool := M7 f.name && right f.kind
def Vd (c : Cla) : Bool := (c.name :: c.super :: c.like).all L3 && !((c.super :: c.like).any fun y => decide (c.name = y)) && E6 id [] c.like &&
  !(c.iface && (!c.abs || !decide (c.super = U4) || !decide (c.fields = []) || c.methods.any (fun m => !m.abs))) &&
  !((c.abs && c.fin) || (c.methods.any (·.abs) && !c.abs)) && E6 Fld.name [] c.fields && E6 Hm.Met.name [] c.methods && c.fields.all Mh && c.methods.all S6
def L5 (c : Cla) : Int := if Xd c then 51 else if Vd c then 0 else 50
theorem Q6y {cs : List Value} {f : Fld} (hs : X6 w σ) (hf : D7 σ f cs) (h : ∀ w' σ', Stp w σ w' σ' → K (.bool (Mh f)) w') : Q1 P F.be [.agg cs.toArray] w K := Q0C (by
  obtain ⟨rfl, h1, h2⟩ := hf
  unfold Eg
  unfold Mh at h
  (repeat' (first | (with_reducible intro _) | (with_reducible refine V3 ?_) | (simp only [↓Mm, Mm, ↓Mp, Mp, Mb, reduceIte]) | (with_reducible first | refine ld aS aL aR ?_ | refine X8 aS aL aR ?_ | refine Y3 aS aL aR ?_ | refine Q6 aL ?_ | refine Y6 aR ?_ | refine Z4 aS ?_ | refine L1 aS aL ?_ | refine U2 aS aR ?_ | refine Y0 aS aR aR (Rep.one (by assumption)) ?_ | refine U1 aS aR aR aR ?_ | refine Q2X au (W7 aS ?_) | refine Zd _ au (W7 aS ?_) | (refine Y2 (fun hh => ?_) (fun hh => ?_) <;> (try simp only [hh, Bool.not_true, Bool.not_false, ↓Mm, Mm, ↓Mp, Mp, Mb, reduceIte])) | (refine Q4 (fun hh => ?_) (fun hh => ?_) <;> (try simp only [hh, Bool.not_true, Bool.not_false, ↓Mm, Mm, ↓Mp, Mp, Mb, reduceIte])))))
  all_goals (refine Eq.subst (motive := fun b => K b _) ?_ (h _ _ (by (repeat (first | exact Stp.refl (by (first | assumption | exact Stp.sat (by assumption) | exact Hst.sat (by assumption))) | assumption | refine Stp.trans ?_ (by first | assumption | exact Hst.stp (by assumption)))))); clear h; (try clear hA); (try clear hB); (try clear hC); first | rfl | ((try simp only [Bool.not_eq_true', Bool.not_eq_false', Bool.not_true, Bool.not_false, Bool.not_eq_true] at *); simp only [*, Mb, reduceIte]; done) | (simp [*]; done) | simp_all))
set_option maxHeartbeats 1600000 in
theorem Q81 {cs : List Value} {c : Cla} (hs : X6 w σ) (hg : Glb σ) (hc : U7 σ c cs) (hl : c.like.length ≤ 1000000) (h : ∀ w' σ', Stp w σ w' σ' → K (.bool (Vd c)) w') : Q1 P F.c2 [.agg cs.toArray] w K := Q1Z (by
  obtain ⟨lv, fv, mv, rfl, g1, g2, g3, g4, g5⟩ := hc
  unfold Fi
  unfold Vd at h
  refine Z4 hs fun a w1 σ1 hk1 ha1 => ?_
  rw [fa]
  refine ld hk1.sat ha1 rfl ?_
  rw [fa]
  refine ld hk1.sat ha1 rfl ?_
  refine Qt (R := U5) (sz := 1) (xs := [c.name, c.super]) hk1 [_, _] rfl rfl (by simp; exact ⟨rfl, rfl⟩) rfl ⟨⟨rfl, g4⟩, ⟨rfl, g5⟩, trivial⟩ fun v w2 hk2 hacc _ => ?_
  rw [fa]
  refine ld hk2.sat ha1 rfl ?_
  refine Nj (hk1.trans hk2) hacc (g1.up hk1) rfl (by simp; omega) (by simp; omega) fun v' w3 hn3 hS3 hacc3 _ => ?_
  obtain ⟨σ3, hS3, hv3, le3, _⟩ := hacc3.keep hS3
  have hv3 : Sl 1 U5 σ3 v' (c.name :: c.super :: c.like) := hv3
  have ha3 := ha1.le le3
  have le13 : SLe σ σ3 := ⟨hS3.le⟩
  have g1 := g1.lift le13
  have g2 := g2.lift le13
  have g3 := g3.lift le13
  have hg := hg.lift le13
  refine W1 hS3.sat ?_
  refine O5 (fun v _ => Sl 1 U5 σ3 v (c.super :: c.like)) (fun _ _ _ h _ => h) (fun w hb => ?_) ?_
  · refine Ru hv3 (some (I 1)) none 1 (c.like.length + 2) (.inr rfl) (.inl ⟨rfl, by simp⟩) (by omega) (by simp) fun v' hv' => ⟨Below.refl _ _, ?_⟩
    simpa using hv'
  refine X2 (.pointer (some (a.add 0))) (fun w hb => by rw [fa]; exact X5 rfl) ?_
  refine X2 (S c.name) (fun t w hb e => by rw [e]; exact ld hb.sat ha3 rfl (X5 rfl)) ?_
  rintro t16 t17 t18 w4 hb4 f16 rfl rfl
  have hS4 := hS3.trans hb4.stp
  clear hb4 hk1 hk2 hn3
  have hs4 := hS4.sat
  refine Ti hs4 f16 ?_
  have hA : ∀ {w1 : World} {σ1 : Q5} {K : Value → World → Prop}, X6 w1 σ1 → Sl 7 N0 σ1 mv c.methods → (∀ w' σ', Stp w1 σ1 w' σ' → K (.bool (c.methods.any (·.abs))) w') → Q1 P F.a [mv, .func (.func F.bT) #[] #[]] w1 K :=
    fun hs hv h => H6 (·.abs) hs hv (fun x cs w1 K _ hs hr hl hK => J4 (Q0b (by
      obtain ⟨pv, cv, hv, rfl, _⟩ := hr
      unfold Eu
      refine Z4 hs fun a w1 σ1 hk1 ha1 => ?_
      (repeat' (first | (with_reducible intro _) | (with_reducible refine V3 ?_) | (simp only [↓Mm, Mm, ↓Mp, Mp, Mb, reduceIte]) | (with_reducible first | refine ld aS aL aR ?_ | refine X8 aS aL aR ?_ | refine Y3 aS aL aR ?_ | refine Q6 aL ?_ | refine Y6 aR ?_ | refine Z4 aS ?_ | refine L1 aS aL ?_ | refine U2 aS aR ?_ | refine Y0 aS aR aR (Rep.one (by assumption)) ?_ | refine U1 aS aR aR aR ?_ | (refine Y2 (fun hh => ?_) (fun hh => ?_) <;> (try simp only [hh, Bool.not_true, Bool.not_false, ↓Mm, Mm, ↓Mp, Mp, Mb, reduceIte])) | (refine Q4 (fun hh => ?_) (fun hh => ?_) <;> (try simp only [hh, Bool.not_true, Bool.not_false, ↓Mm, Mm, ↓Mp, Mp, Mb, reduceIte])))))
      exact hK _ hk1.bel))) (W7 hs h)
  have hB : ∀ {w1 : World} {σ1 : Q5} {K : Value → World → Prop}, X6 w1 σ1 → Sl 7 N0 σ1 mv c.methods → (∀ w' σ', Stp w1 σ1 w' σ' → K (.bool (c.methods.any fun m => !m.abs)) w') → Q1 P F.a [mv, .func (.func F.bU) #[] #[]] w1 K :=
    fun hs hv h => H6 (fun m => !m.abs) hs hv (fun x cs w1 K _ hs hr hl hK => J4 (Q0y (by
      obtain ⟨pv, cv, hv, rfl, _⟩ := hr
      unfold Es
      refine Z4 hs fun a w1 σ1 hk1 ha1 => ?_
      (repeat' (first | (with_reducible intro _) | (with_reducible refine V3 ?_) | (simp only [↓Mm, Mm, ↓Mp, Mp, Mb, reduceIte]) | (with_reducible first | refine ld aS aL aR ?_ | refine X8 aS aL aR ?_ | refine Y3 aS aL aR ?_ | refine Q6 aL ?_ | refine Y6 aR ?_ | refine Z4 aS ?_ | refine L1 aS aL ?_ | refine U2 aS aR ?_ | refine Y0 aS aR aR (Rep.one (by assumption)) ?_ | refine U1 aS aR aR aR ?_ | (refine Y2 (fun hh => ?_) (fun hh => ?_) <;> (try simp only [hh, Bool.not_true, Bool.not_false, ↓Mm, Mm, ↓Mp, Mp, Mb, reduceIte])) | (refine Q4 (fun hh => ?_) (fun hh => ?_) <;> (try simp only [hh, Bool.not_true, Bool.not_false, ↓Mm, Mm, ↓Mp, Mp, Mb, reduceIte])))))
      exact hK _ hk1.bel))) (W7 hs h)
  have hC : ∀ {w1 : World} {σ1 : Q5} {K : Value → World → Prop}, X6 w1 σ1 → Sl 1 U5 σ1 v' (c.name :: c.super :: c.like) → (∀ w' σ', Stp w1 σ1 w' σ' → K (.bool ((c.name :: c.super :: c.like).all L3)) w') → Q1 P F.a3 [v', .func (.func F.ac) #[] #[]] w1 K :=
    fun hs hv h => Rw L3 hs hv (fun σ1 x w1 K _ _ hs hl hK => J4 (Nz x (Nat.le_trans hl (by decide)) hK)) (W7 hs h)
  have hD : ∀ {w1 : World} {σ1 : Q5} {K : Value → World → Prop}, X6 w1 σ1 → Sl 1 U5 σ1 lv c.like → (∀ w' σ', Stp w1 σ1 w' σ' → K (.bool (E6 id [] c.like)) w') → Q1 P F.aG [lv, .func (.func F.bV) #[] #[]] w1 K :=
    fun hs hv h => Q1W id hs hv (fun σ1 x w1 K _ hs hl hK => J4 (Q06 (hK _ (Below.refl _ _)))) (W7 hs h)
  have hE : ∀ {w1 : World} {σ1 : Q5} {K : Value → World → Prop}, X6 w1 σ1 → Sl 3 D7 σ1 fv c.fields → (∀ w' σ', Stp w1 σ1 w' σ' → K (.bool (E6 Fld.name [] c.fields)) w') → Q1 P F.au [fv, .func (.func F.bW) #[] #[]] w1 K :=
    fun hs hv h => Aw Fld.name hs hv (fun σ1 x cs w1 K _ hs hr hl hK => J4 (Q0D (by
      obtain ⟨rfl, _⟩ := hr
      unfold Ee
      refine Z4 hs fun a w1 σ1 hk1 ha1 => ?_
      (repeat' (first | (with_reducible intro _) | (with_reducible refine V3 ?_) | (simp only [↓Mm, Mm, ↓Mp, Mp, Mb, reduceIte]) | (with_reducible first | refine ld aS aL aR ?_ | refine X8 aS aL aR ?_ | refine Y3 aS aL aR ?_ | refine Q6 aL ?_ | refine Y6 aR ?_ | refine Z4 aS ?_ | refine L1 aS aL ?_ | refine U2 aS aR ?_ | refine Y0 aS aR aR (Rep.one (by assumption)) ?_ | refine U1 aS aR aR aR ?_ | (refine Y2 (fun hh => ?_) (fun hh => ?_) <;> (try simp only [hh, Bool.not_true, Bool.not_false, ↓Mm, Mm, ↓Mp, Mp, Mb, reduceIte])) | (refine Q4 (fun hh => ?_) (fun hh => ?_) <;> (try simp only [hh, Bool.not_true, Bool.not_false, ↓Mm, Mm, ↓Mp, Mp, Mb, reduceIte])))))
      exact hK _ hk1.bel))) (W7 hs h)
  have hF : ∀ {w1 : World} {σ1 : Q5} {K : Value → World → Prop}, X6 w1 σ1 → Sl 7 N0 σ1 mv c.methods → (∀ w' σ', Stp w1 σ1 w' σ' → K (.bool (E6 Hm.Met.name [] c.methods)) w') → Q1 P F.ak [mv, .func (.func F.bX) #[] #[]] w1 K :=
    fun hs hv h => Th Hm.Met.name hs hv (fun σ1 x cs w1 K _ hs hr hl hK => J4 (Q0I (by
      obtain ⟨pv, cv, hv, rfl, _⟩ := hr
      unfold Ej
      refine Z4 hs fun a w1 σ1 hk1 ha1 => ?_
      (repeat' (first | (with_reducible intro _) | (with_reducible refine V3 ?_) | (simp only [↓Mm, Mm, ↓Mp, Mp, Mb, reduceIte]) | (with_reducible first | refine ld aS aL aR ?_ | refine X8 aS aL aR ?_ | refine Y3 aS aL aR ?_ | refine Q6 aL ?_ | refine Y6 aR ?_ | refine Z4 aS ?_ | refine L1 aS aL ?_ | refine U2 aS aR ?_ | refine Y0 aS aR aR (Rep.one (by assumption)) ?_ | refine U1 aS aR aR aR ?_ | (refine Y2 (fun hh => ?_) (fun hh => ?_) <;> (try simp only [hh, Bool.not_true, Bool.not_false, ↓Mm, Mm, ↓Mp, Mp, Mb, reduceIte])) | (refine Q4 (fun hh => ?_) (fun hh => ?_) <;> (try simp only [hh, Bool.not_true, Bool.not_false, ↓Mm, Mm, ↓Mp, Mp, Mb, reduceIte])))))
      exact hK _ hk1.bel))) (W7 hs h)
  have hG : ∀ {w1 : World} {σ1 : Q5} {K : Value → World → Prop}, X6 w1 σ1 → Sl 3 D7 σ1 fv c.fields → (∀ w' σ', Stp w1 σ1 w' σ' → K (.bool (c.fields.all Mh)) w') → Q1 P F.al [fv, .func (.func F.be) #[] #[]] w1 K :=
    fun hs hv h => Tm Mh hs hv (fun σ1 x cs w1 K _ _ hs hr hl hK => J4 (Q6y hs hr fun w' σ' hk => hK w' hk.bel)) (W7 hs h)
  have hH : ∀ {w1 : World} {σ1 : Q5} {K : Value → World → Prop}, X6 w1 σ1 → Glb σ1 → Sl 7 N0 σ1 mv c.methods → (∀ w' σ', Stp w1 σ1 w' σ' → K (.bool (c.methods.all S6)) w') → Q1 P F.ah [mv, .func (.func F.aQ) #[] #[]] w1 K :=
    fun hs hg hv h => Pf S6 hs hv (fun σ1 x cs w1 K le _ hs hr hl hK => Q6k hs (hg.lift ⟨le⟩) hr fun w' σ' hk => hK w' hk.bel) (W7 hs h)
  have e1 : decide ((0 : Int) < c.fields.length) = !decide (c.fields = []) := by cases c.fields <;> simp
  have e2 : decide (c.super = [79, 98, 106, 101, 99, 116]) = decide (c.super = U4) := rfl
  (repeat' (first | (with_reducible intro _) | (with_reducible refine V3 ?_) | (simp only [↓Mm, Mm, ↓Mp, Mp, Mb, reduceIte]) | (with_reducible first | refine ld aS aL aR ?_ | refine X8 aS aL aR ?_ | refine Y3 aS aL aR ?_ | refine Q6 aL ?_ | refine Y6 aR ?_ | refine Z4 aS ?_ | refine L1 aS aL ?_ | refine U2 aS aR ?_ | refine Y0 aS aR aR (Rep.one (by assumption)) ?_ | refine U1 aS aR aR aR ?_ | refine hA au au ?_ | refine hB au au ?_ | refine hC au au ?_ | refine hD au au ?_ | refine hE au au ?_ | refine hF au au ?_ | refine hG au au ?_ | refine hH au au au ?_ | (refine Y2 (fun hh => ?_) (fun hh => ?_) <;> (try simp only [hh, Bool.not_true, Bool.not_false, ↓Mm, Mm, ↓Mp, Mp, Mb, reduceIte])) | (refine Q4 (fun hh => ?_) (fun hh => ?_) <;> (try simp only [hh, Bool.not_true, Bool.not_false, ↓Mm, Mm, ↓Mp, Mp, Mb, reduceIte])))))
  all_goals (simp only [← e1, ← e2] at h; clear hA hB hC hD hE hF hG hH e1 e2; (refine Eq.subst (motive := fun b => K b _) ?_ (h _ _ (by (repeat (first | exact Stp.refl (by (first | assumption | exact Stp.sat (by assumption) | exact Hst.sat (by assumption))) | assumption | refine Stp.trans ?_ (by first | assumption | exact Hst.stp (by assumption)))))); clear h; (try clear hA); (try clear hB); (try clear hC); first | rfl | ((try simp only [Bool.not_eq_true', Bool.not_eq_false', Bool.not_true, Bool.not_false, Bool.not_eq_true] at *); simp only [*, Mb, reduceIte]; done) | (simp [*]; done) | simp_all)))
theorem Q8u {cs : List Value} {c : Cla} (hs : X6 w σ) (hg : Glb σ) (hc : U7 σ c cs) (hl : c.like.length ≤ 1000000) (h : ∀ w' σ', Stp w σ w' σ' → K (I (L5 c)) w') : Q1 P F.c1 [.agg cs.toArray] w K := Q1X (by
  have hc0 := hc
  obtain ⟨lv, fv, mv, rfl, g1, g2, g3, g4, g5⟩ := hc
  unfold Fe
  unfold L5 at h
  (repeat' (first | (with_reducible intro _) | (with_reducible refine V3 ?_) | (simp only [↓Mm, Mm, ↓Mp, Mp, Mb, reduceIte]) | (with_reducible first | refine ld aS aL aR ?_ | refine X8 aS aL aR ?_ | refine Y3 aS aL aR ?_ | refine Q6 aL ?_ | refine Y6 aR ?_ | refine Z4 aS ?_ | refine L1 aS aL ?_ | refine U2 aS aR ?_ | refine Y0 aS aR aR (Rep.one (by assumption)) ?_ | refine U1 aS aR aR aR ?_ | refine Q98 au au (W7 aS ?_) | refine Q81 au au au au ?_ | (refine Y2 (fun hh => ?_) (fun hh => ?_) <;> (try simp only [hh, Bool.not_true, Bool.not_false, ↓Mm, Mm, ↓Mp, Mp, Mb, reduceIte])) | (refine Q4 (fun hh => ?_) (fun hh => ?_) <;> (try simp only [hh, Bool.not_true, Bool.not_false, ↓Mm, Mm, ↓Mp, Mp, Mb, reduceIte])))))
  all_goals (refine Eq.subst (motive := fun b => K b _) ?_ (h _ _ (by (repeat (first | exact Stp.refl (by (first | assumption | exact Stp.sat (by assumption) | exact Hst.sat (by assumption))) | assumption | refine Stp.trans ?_ (by first | assumption | exact Hst.stp (by assumption)))))); clear h; (try clear hA); (try clear hB); (try clear hC); first | rfl | ((try simp only [Bool.not_eq_true', Bool.not_eq_false', Bool.not_true, Bool.not_false, Bool.not_eq_true] at *); simp only [*, Mb, reduceIte]; done) | (simp [*]; done) | simp_all))
end Go.Proofs.YtdnfaboigajkhaaGreatDoor
