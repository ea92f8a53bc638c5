/- Parts of a proof about the given program: its functions as texts of their own, what each computes, plain laws of that. The conditions of each stand in its statement. -/
import Derived.Test.YtdnfaboigajkhaaGreatDoorB3
import Derived.Laws.StructEq
import Derived.Test.YtdnfaboigajkhaaGreatDoorB2
import Derived.Test.YtdnfaboigajkhaaGreatDoorB1
set_option linter.unnecessarySimpa false
set_option linter.defProp false
set_option linter.unusedSectionVars false
set_option linter.unusedVariables false
set_option linter.unusedSimpArgs false
namespace Go.Emb
open Go.RowKit
variable {P : Program} {w : World} {K : Value → World → Prop}
theorem Q0W {d : Nat} {xs ys : Array Value} : (Op.eqFields d xs ys []).run P w = .ok true w := by simp [Op.eqFields]
theorem K7 {d : Nat} {xs ys : Array Value} {f : Field} {fs : List Field} {u v : Value} {b c : Bool} (hn : f.name ≠ "_") [tg : TG P f.type false] (hu : xs[f.offset]? = some u) (hv : ys[f.offset]? = some v)
    (h1 : (Op.equalIn d f.type u v).run P w = .ok b w) (h2 : (Op.eqFields d xs ys fs).run P w = .ok c w) : (Op.eqFields d xs ys (f :: fs)).run P w = .ok (b && c) w := by
  simp only [Op.eqFields, if_pos hn]
  simp [part, P7 tg, hu, hv, h1]
  cases b
  · simp
  · simp [h2]
theorem Ru {d : Nat} {t : TypeId} (ht : P.underlying t = some .string) (a b : List UInt8) : (Op.equalIn (d + 1) t (S a) (S b)).run P w = .ok (decide (a = b)) w := by
  simp [Op.equalIn, run_underlying ht, Lu]
theorem Q6G {d : Nat} {t : TypeId} (ht : P.underlying t = some .bool) (a b : Bool) : (Op.equalIn (d + 1) t (.bool a) (.bool b)).run P w = .ok (decide (a = b)) w := by
  simp [Op.equalIn, run_underlying ht]
  cases a <;> cases b <;> rfl
theorem Pz {d : Nat} {t : TypeId} {k k' : IntKind} (ht : P.underlying t = some (.int k)) (a b : Int) : (Op.equalIn (d + 1) t (.int k' a) (.int k' b)).run P w = .ok (decide (a = b)) w := by
  simp [Op.equalIn, run_underlying ht]
  by_cases e : a = b <;> simp [e]
theorem Q16 {t : TypeId} {ox oy : Operand} {xs ys : List Value} {b : Bool} (hu : P.underlying t = some (.struct (P.fieldsOf t))) (hp : P.stoodInHeld t = false) (hm : P.eqGuardType P.depth t = false)
    (he : (Op.eqFields 9999 xs.toArray ys.toArray (P.fieldsOf t).toList).run P w = .ok b w) (h : K (.bool (!b)) w) : Q3 P .neq t ox oy (.agg xs.toArray) (.agg ys.toArray) w K := by
  have e : Q3 P .neq t ox oy (.agg xs.toArray) (.agg ys.toArray) w K = K (.bool (!b)) w := X9 (by
    simp only [Sem.run_bind, run_eqGuard_agg w .neq t ox oy xs.toArray ys.toArray hm, Result.andThen_ok]
    rw [run_neq_struct, run_equalIn_struct w 9999 t _ _ hu hp, he]; rfl)
  rw [e]; exact h
end Go.Emb
namespace Go.Proofs.YtdnfaboigajkhaaGreatDoor
open Go.Emb Go.RowKit Go.Kd Go.Hm
variable {w : World} {K : Value → World → Prop} {σ : Q5}
theorem Q8W : (P.fieldsOf T.i).toList = [⟨"Name", T.b, 0, false, "", "", 0⟩, ⟨"Kind", T.b, 1, false, "", "", 16⟩, ⟨"Transient", T.l, 2, false, "", "", 32⟩] := by kernel_rfl
set_option maxRecDepth 100000 in
theorem Q8c {ox oy : Operand} {f g : Fld} (h : K (.bool (!decide (f = g))) w) : Q3 P .neq T.i ox oy (.agg [S f.name, S f.kind, .bool f.tr].toArray) (.agg [S g.name, S g.kind, .bool g.tr].toArray) w K := by
  refine Q16 (b := decide (f = g)) (by kernel_rfl) (by kernel_rfl) (by kernel_rfl) ?_ h
  rw [Q8W]
  have := K7 (P := P) (w := w) (d := 9999) (xs := [S f.name, S f.kind, .bool f.tr].toArray) (ys := [S g.name, S g.kind, .bool g.tr].toArray) (f := ⟨"Name", T.b, 0, false, "", "", 0⟩) (by decide) rfl rfl (Ru X7 _ _)
    (K7 (f := ⟨"Kind", T.b, 1, false, "", "", 16⟩) (by decide) rfl rfl (Ru X7 _ _) (K7 (f := ⟨"Transient", T.l, 2, false, "", "", 32⟩) (by decide) rfl rfl (Q6G Jd _ _) Q0W))
  rw [this]
  congr 1
  obtain ⟨a1, a2, a3⟩ := f
  obtain ⟨b1, b2, b3⟩ := g
  simp [Bool.decide_and]
theorem Q8S : (P.fieldsOf T.n).toList = [⟨"Op", T.b, 0, false, "", "", 0⟩, ⟨"N", T.af, 1, false, "", "", 16⟩, ⟨"S", T.b, 2, false, "", "", 24⟩] := by kernel_rfl
set_option maxRecDepth 100000 in
theorem Q8n {ox oy : Operand} {f g : Ins} (h : K (.bool (!decide (f = g))) w) : Q3 P .neq T.n ox oy (.agg [S f.op, I f.n, S f.s].toArray) (.agg [S g.op, I g.n, S g.s].toArray) w K := by
  refine Q16 (b := decide (f = g)) (by kernel_rfl) (by kernel_rfl) (by kernel_rfl) ?_ h
  rw [Q8S]
  have := K7 (P := P) (w := w) (d := 9999) (xs := [S f.op, I f.n, S f.s].toArray) (ys := [S g.op, I g.n, S g.s].toArray) (f := ⟨"Op", T.b, 0, false, "", "", 0⟩) (by decide) rfl rfl (Ru X7 _ _)
    (K7 (f := ⟨"N", T.af, 1, false, "", "", 16⟩) (by decide) rfl rfl (Pz (k := .i64) (by kernel_rfl) _ _) (K7 (f := ⟨"S", T.b, 2, false, "", "", 24⟩) (by decide) rfl rfl (Ru X7 _ _) Q0W))
  rw [this]
  congr 1
  obtain ⟨a1, a2, a3⟩ := f
  obtain ⟨b1, b2, b3⟩ := g
  simp [Bool.decide_and]
theorem Q8X : (P.fieldsOf T.m).toList = [⟨"From", T.d, 0, false, "", "", 0⟩, ⟨"To", T.d, 1, false, "", "", 8⟩, ⟨"At", T.d, 2, false, "", "", 16⟩, ⟨"Class", T.b, 3, false, "", "", 24⟩] := by kernel_rfl
set_option maxRecDepth 100000 in
theorem Q8j {ox oy : Operand} {f g : Cat} (h : K (.bool (!decide (f = g))) w) : Q3 P .neq T.m ox oy (.agg [I f.frm, I f.to, I f.at_, S f.cls].toArray) (.agg [I g.frm, I g.to, I g.at_, S g.cls].toArray) w K := by
  refine Q16 (b := decide (f = g)) (by kernel_rfl) (by kernel_rfl) (by kernel_rfl) ?_ h
  rw [Q8X]
  have := K7 (P := P) (w := w) (d := 9999) (xs := [I f.frm, I f.to, I f.at_, S f.cls].toArray) (ys := [I g.frm, I g.to, I g.at_, S g.cls].toArray) (f := ⟨"From", T.d, 0, false, "", "", 0⟩) (by decide) rfl rfl (Pz (k := .i64) (by kernel_rfl) _ _)
    (K7 (f := ⟨"To", T.d, 1, false, "", "", 8⟩) (by decide) rfl rfl (Pz (k := .i64) (by kernel_rfl) _ _) (K7 (f := ⟨"At", T.d, 2, false, "", "", 16⟩) (by decide) rfl rfl (Pz (k := .i64) (by kernel_rfl) _ _) (K7 (f := ⟨"Class", T.b, 3, false, "", "", 24⟩) (by decide) rfl rfl (Ru X7 _ _) Q0W)))
  rw [this]
  congr 1
  obtain ⟨a1, a2, a3, a4⟩ := f
  obtain ⟨b1, b2, b3, b4⟩ := g
  simp [Bool.decide_and]
end Go.Proofs.YtdnfaboigajkhaaGreatDoor

namespace Go.Proofs.YtdnfaboigajkhaaGreatDoor
open Go.Emb Go.RowKit Go.Kd
variable {w : World} {K : Value → World → Prop}
theorem bt {w w1 w2 : World} (h1 : Below w.heap.size w w1) (h2 : Below w1.heap.size w1 w2) : Below w.heap.size w w2 := h1.trans (h2.mono h1.size)
theorem Q86 {a : List UInt8} (h : D6 a = true) : Kd.O6 a ++ [91, 93] = a := by
  simp only [D6, Bool.and_eq_true, decide_eq_true_eq] at h
  rw [← h.2, Kd.O6, List.take_append_drop]
theorem Tk {a : List UInt8} (h : name a = true) : D6 a = false := by
  cases a with
  | nil => rfl
  | cons c r =>
    cases he : D6 (c :: r) with
    | false => rfl
    | true =>
      exfalso
      simp only [name, Bool.and_eq_true, List.all_eq_true] at h
      have hc := Q86 he
      have : (93 : UInt8) ∈ (c :: r) := by rw [← hc]; simp
      have := h.2 _ this
      revert this; decide
theorem Q6q {a : List UInt8} (h : name a = true) : V8 a = (a, 0) := by rw [Za, Tk h]; simp
theorem Q1r {a : List UInt8} (h : L4 a = true) : name a = true ∧ right a = true ∧ plain a = false := by
  cases a with
  | nil => simp [L4] at h
  | cons c r =>
    have hn : name (c :: r) = true := by simp only [L4, Bool.and_eq_true] at h; exact h.1
    refine ⟨hn, ?_, ?_⟩
    · rw [right, Q6q hn]; simp [h]
    · simp only [L4, Bool.and_eq_true] at h
      have hg := h.2
      simp only [plain, Bool.or_eq_false_iff, decide_eq_false_iff_not]
      refine ⟨⟨?_, ?_⟩, ?_⟩ <;> intro e <;> injection e with e1 e2 <;> subst e1 <;> revert hg <;> decide
end Go.Proofs.YtdnfaboigajkhaaGreatDoor
