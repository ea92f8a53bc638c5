/- Parts of a proof about the given program: its functions as texts of their own, what each computes, plain laws of that. The conditions of each stand in its statement. -/
import Derived.Test.YtdnfaboigajkhaaGreatDoorB6
import Derived.Test.YtdnfaboigajkhaaGreatDoorB4
import Derived.Test.YtdnfaboigajkhaaGreatDoorB3
import Derived.Test.YtdnfaboigajkhaaGreatDoorRows
import Derived.Test.YtdnfaboigajkhaaGreatDoorB5
import Derived.WalkKit
import Derived.ProofKit
import Derived.OpenShut
import Derived.ShutString
import Derived.ChangeOld
import Derived.Below
import Derived.SizedLaws
import Derived.Lay
import Derived.Carry
import Derived.MakeChecks
import Derived.PinnedBridge
set_option linter.unnecessarySimpa false
set_option linter.defProp false
set_option linter.unusedSectionVars false
set_option linter.unusedVariables false
set_option linter.unusedSimpArgs false
namespace Go.Hm
open Go.Kd
def Wc (c : Cla) (i : Nat) : Bool := L4 (c.like.getD i []) && !decide (c.like.getD i [] = c.name)
def G1 (c : Cla) (i k : Nat) : Bool := !decide (c.like.getD k [] = c.like.getD i [])
def Er (c : Cla) (i : Nat) : Fld := c.fields.getD i Fld.zero
def Np (c : Cla) (i : Nat) : Hm.Met := c.methods.getD i Hm.Met.zero
def Lp (c : Cla) (i : Nat) : Bool := M7 (Er c i).name && right (Er c i).kind && !c.iface
def T2 (c : Cla) (i k : Nat) : Bool := !decide ((Er c k).name = (Er c i).name)
def Q5t (c : Cla) : Bool := (!c.iface || (c.abs && decide (c.super = U4))) && !(c.abs && c.fin)
def A0 (c : Cla) (i k : Nat) : Bool := !decide ((Np c k).name = (Np c i).name)
theorem Jv {p : Nat → Bool} {n : Nat} : (List.range (n + 1)).all p = ((List.range n).all p && p n) := by rw [List.range_succ, List.all_append]; simp
theorem E1 {α : Type} {xs : List α} {i : Nat} {d : α} (h : i < xs.length) : xs.getD i d = xs[i] := by rw [List.getD_eq_getElem?_getD, List.getElem?_eq_getElem h]; rfl
end Go.Hm
namespace Go.Proofs.YtdnfaboigajkhaaGreatDoor
open Go.Emb Go.RowKit Go.Kd Go.Hm
variable {w : World} {K : Value → World → Prop} {σ : Q5}
def Uq (c : Cla) (i : Nat) : Bool := S3 (Np c i) && (!(Np c i).abs || c.abs) && (!c.iface || (Np c i).abs)
set_option maxHeartbeats 2000000 in
theorem Q19 {c : Cla} {lv fv mv : Value} {w1 : World} {σ1 : Q5} {q : Addr} {ok : Bool} (hs1 : X6 w1 σ1) (hq : U0 σ1 q [S c.name, S c.super, lv, .bool c.iface, .bool c.abs, .bool c.fin, fv, mv]) {i : Nat} {N m0 : Nat} {Inv : Nat → Value → World → Prop} (g1 : Sl 1 U5 σ1 lv c.like) (hi : i < c.like.length)
    (h : ∀ w' σ', Stp w1 σ1 w' σ' → Hi N Inv (Value.bool (ok && (List.range i).all (G1 c i)), .int .i64 (IntKind.i64.wrap (i + 1))) w' ∧ Vu N (Value.bool (ok && (List.range i).all (G1 c i)), .int .i64 (IntKind.i64.wrap (i + 1))) < m0) :
    lp (α := Value × Value) (Value.bool ok, (.int .i64 0)) w1 fun again10 x10 d_ w =>
        Q3 P .lss T.d (.tmp 52) (.tmp 53) x10.2 (I i) w fun t54 w =>
        X1 t54 (
          dr w fun Tr Br =>
          Q7 Tr (fun φ59 => ∀ w : World, Br w → Q0 x10.1 true w (fieldAddr P T.a (.pointer (some q)) 2) (dk Tr φ59 w)) fun φ59 =>
          Q7 Tr (fun φ61 => ∀ w : World, Br w → Q0 x10.1 true w (fun w J => J x10.2 w) (dk Tr φ61 w)) fun φ61 =>
          Q7 Tr (fun φ64 => ∀ w : World, Br w → Q0 x10.1 true w (fieldAddr P T.a (.pointer (some q)) 2) (dk Tr φ64 w)) fun φ64 =>
          Q7 Tr (fun φ66 => ∀ w : World, Br w → Q0 x10.1 true w (fun w J => J (I i) w) (dk Tr φ66 w)) fun φ66 =>
          Q7 Tr (fun φ60 => ∀ t59 : Value, ∀ w : World, Br w → φ59 t59 w → Q0 x10.1 true w (Q2 P T.f t59) (dk Tr φ60 w)) fun φ60 =>
          Q7 Tr (fun φ62 => ∀ t60 : Value, ∀ t61 : Value, ∀ w : World, Br w → φ60 t60 w → φ61 t61 w → Q0 x10.1 true w (indexAddr P T.f t60 t61) (dk Tr φ62 w)) fun φ62 =>
          Q7 Tr (fun φ63 => ∀ t62 : Value, ∀ w : World, Br w → φ62 t62 w → Q0 x10.1 true w (Q2 P T.b t62) (dk Tr φ63 w)) fun φ63 =>
          Q7 Tr (fun φ65 => ∀ t64 : Value, ∀ w : World, Br w → φ64 t64 w → Q0 x10.1 true w (Q2 P T.f t64) (dk Tr φ65 w)) fun φ65 =>
          Q7 Tr (fun φ67 => ∀ t65 : Value, ∀ t66 : Value, ∀ w : World, Br w → φ65 t65 w → φ66 t66 w → Q0 x10.1 true w (indexAddr P T.f t65 t66) (dk Tr φ67 w)) fun φ67 =>
          Q7 Tr (fun φ68 => ∀ t67 : Value, ∀ w : World, Br w → φ67 t67 w → Q0 x10.1 true w (Q2 P T.b t67) (dk Tr φ68 w)) fun φ68 =>
          ∀ t59 : Value, ∀ t61 : Value, ∀ t64 : Value, ∀ t66 : Value, ∀ t60 : Value, ∀ t62 : Value, ∀ t63 : Value, ∀ t65 : Value, ∀ t67 : Value, ∀ t68 : Value, ∀ w : World, Br w → φ59 t59 w → φ61 t61 w → φ64 t64 w → φ66 t66 w → φ60 t60 w → φ62 t62 w → φ63 t63 w → φ65 t65 w → φ67 t67 w → φ68 t68 w → 
          Q0 x10.1 true w (Q3 P .neq T.b (.tmp 63) (.tmp 68) t63 t68) fun t69 w =>
          pick P x10.1 t69 (.bool false) w fun t70 w =>
          Q3 P .add T.d (.tmp 55) (.const (.int .i64 1)) x10.2 (.int .i64 1) w fun t56 w =>
          again10 (t70, t56) w) (
          Q3 P .add T.d (.tmp 31) (.const (.int .i64 1)) (I i) (.int .i64 1) w fun t32 w =>
          (Hi N Inv (x10.1, t32) w ∧ Vu N (x10.1, t32) < m0)) := by
  have hmax := g1.max
  refine N1 (a := Value.bool ok) i (fun k x w' => ∃ σ', Stp w1 σ1 w' σ' ∧ x = Value.bool (ok && (List.range k).all (G1 c i))) ⟨σ1, Stp.refl hs1, by simp⟩ fun k x w2 d hk hinv => ?_
  obtain ⟨σ2, hk2, rfl⟩ := hinv
  have hq2 := hq.up hk2
  have g12 := g1.up hk2
  have hs2 := hk2.sat
  refine Z5 ?_
  refine Q4 (fun hc => ?_) (fun hc => ?_)
  · have hk' : k < i := by simpa using hc
    have hk3 : k < c.like.length := by omega
    have hnx : (ok && (List.range (k + 1)).all (G1 c i)) = ((ok && (List.range k).all (G1 c i)) && G1 c i k) := by rw [Jv, Bool.and_assoc]
    have hQ : G1 c i k = !decide (c.like[k] = c.like[i]) := by unfold G1; rw [E1 hk3, E1 hi]
    rw [hQ] at hnx
    obtain ⟨p1, _⟩ := g12.elS hk3
    obtain ⟨p2, _⟩ := g12.elS hi
    generalize (ok && (List.range k).all (G1 c i)) = acc at hnx ⊢
    clear h hQ hc
    cases acc
    all_goals
      refine W1 hs2 ?_
      (repeat (apply L9; (· intros; (repeat (rename_i hx; subst hx)); (repeat' (first | (with_reducible exact U8 rfl) | (with_reducible exact V9 (Stp.bel (by (repeat (first | exact Stp.refl (by (first | assumption | exact Stp.sat (by assumption) | exact Hst.sat (by assumption))) | assumption | refine Stp.trans ?_ (by first | assumption | exact Hst.stp (by assumption)))))) rfl) | (with_reducible intro _) | (simp only [↓Mm, Mm, ↓Mp, Mp, Mb, reduceIte])  | (with_reducible show Q2 _ _ _ _ _; first | refine X8 aS aL aR ?_ | refine Y3 aS aL aR ?_ | refine ld aS aL aR ?_) | (with_reducible show indexAddr _ _ _ _ _ _; refine Y4 aL au ?_) | (with_reducible show X4 _ _ _ _ _ _ _ _; refine Q6 aL ?_) | (with_reducible show D1 _ _ _ _ _ _; refine Y6 aR ?_) | (with_reducible show pick _ _ _ _ _ _; refine W8 ?_) | (apply W9; intro hh; (try simp only [hh, reduceIte, ↓Mm, Mm, ↓Mp, Mp, Mb, reduceIte])))); done)))
      (intros; (repeat (rename_i hx; subst hx)); (try simp only [↓Mm, Mm, ↓Mp, Mp, Mb, reduceIte]))
      rename_i w3 hb3
      exact Z6 (by omega) hk' ⟨σ2, hk2.trans hb3.stp, by rw [hnx]; rfl⟩
  · have hk0 : k = i := by have : ¬ k < i := by simpa using hc
                           omega
    subst hk0
    (try simp only [↓Mm, Mm, ↓Mr, Mr, Mb, reduceIte])
    exact h _ _ hk2
set_option maxHeartbeats 4000000 in
theorem Q7d {c : Cla} {lv fv mv : Value} {w1 : World} {σ1 : Q5} {q : Addr} {ok : Bool} (hs1 : X6 w1 σ1) (hq : U0 σ1 q [S c.name, S c.super, lv, .bool c.iface, .bool c.abs, .bool c.fin, fv, mv]) {J : Value → World → Prop} (hn : c.name.length ≤ W3) (g1 : Sl 1 U5 σ1 lv c.like)
    (h : ∀ w' σ', Stp w1 σ1 w' σ' → J (.bool (ok && (List.range c.like.length).all fun i => Wc c i && (List.range i).all (G1 c i))) w') :
    lp (α := Value × Value) (Value.bool ok, (.int .i64 0)) w1 fun again4 x4 d_ w =>
    fieldAddr P T.a (.pointer (some q)) 2 w fun t27 w =>
    Q2 P T.f t27 w fun t28 w =>
    X4 P .len [T.f] T.d [false] [t28] w fun t29 w =>
    Q3 P .lss T.d (.tmp 26) (.tmp 29) x4.2 t29 w fun t30 w =>
    X1 t30 (
      dr w fun Tr Br =>
      Q7 Tr (fun φ35 => ∀ w : World, Br w → Q0 x4.1 true w (fieldAddr P T.a (.pointer (some q)) 2) (dk Tr φ35 w)) fun φ35 =>
      Q7 Tr (fun φ37 => ∀ w : World, Br w → Q0 x4.1 true w (fun w J => J x4.2 w) (dk Tr φ37 w)) fun φ37 =>
      Q7 Tr (fun φ36 => ∀ t35 : Value, ∀ w : World, Br w → φ35 t35 w → Q0 x4.1 true w (Q2 P T.f t35) (dk Tr φ36 w)) fun φ36 =>
      Q7 Tr (fun φ38 => ∀ t36 : Value, ∀ t37 : Value, ∀ w : World, Br w → φ36 t36 w → φ37 t37 w → Q0 x4.1 true w (indexAddr P T.f t36 t37) (dk Tr φ38 w)) fun φ38 =>
      Q7 Tr (fun φ39 => ∀ t38 : Value, ∀ w : World, Br w → φ38 t38 w → Q0 x4.1 true w (Q2 P T.b t38) (dk Tr φ39 w)) fun φ39 =>
      Q7 Tr (fun φ40 => ∀ t39 : Value, ∀ w : World, Br w → φ39 t39 w → Q0 x4.1 true w (Q1 P F.e [t39]) (dk Tr φ40 w)) fun φ40 =>
      Q7 Tr (fun φ41 => ∀ t40 : Value, ∀ w : World, Br w → φ40 t40 w → pick P x4.1 t40 (.bool false) w (dk Tr φ41 w)) fun φ41 =>
      Q7 Tr (fun φ43 => ∀ t41 : Value, ∀ w : World, Br w → φ41 t41 w → Q0 t41 true w (fieldAddr P T.a (.pointer (some q)) 2) (dk Tr φ43 w)) fun φ43 =>
      Q7 Tr (fun φ45 => ∀ t41 : Value, ∀ w : World, Br w → φ41 t41 w → Q0 t41 true w (fun w J => J x4.2 w) (dk Tr φ45 w)) fun φ45 =>
      Q7 Tr (fun φ48 => ∀ t41 : Value, ∀ w : World, Br w → φ41 t41 w → Q0 t41 true w (fieldAddr P T.a (.pointer (some q)) 0) (dk Tr φ48 w)) fun φ48 =>
      Q7 Tr (fun φ44 => ∀ t41 : Value, ∀ t43 : Value, ∀ w : World, Br w → φ41 t41 w → φ43 t43 w → Q0 t41 true w (Q2 P T.f t43) (dk Tr φ44 w)) fun φ44 =>
      Q7 Tr (fun φ46 => ∀ t41 : Value, ∀ t44 : Value, ∀ t45 : Value, ∀ w : World, Br w → φ41 t41 w → φ44 t44 w → φ45 t45 w → Q0 t41 true w (indexAddr P T.f t44 t45) (dk Tr φ46 w)) fun φ46 =>
      Q7 Tr (fun φ47 => ∀ t41 : Value, ∀ t46 : Value, ∀ w : World, Br w → φ41 t41 w → φ46 t46 w → Q0 t41 true w (Q2 P T.b t46) (dk Tr φ47 w)) fun φ47 =>
      Q7 Tr (fun φ49 => ∀ t41 : Value, ∀ t48 : Value, ∀ w : World, Br w → φ41 t41 w → φ48 t48 w → Q0 t41 true w (Q2 P T.b t48) (dk Tr φ49 w)) fun φ49 =>
      ∀ t35 : Value, ∀ t37 : Value, ∀ t36 : Value, ∀ t38 : Value, ∀ t39 : Value, ∀ t40 : Value, ∀ t41 : Value, ∀ t43 : Value, ∀ t45 : Value, ∀ t48 : Value, ∀ t44 : Value, ∀ t46 : Value, ∀ t47 : Value, ∀ t49 : Value, ∀ w : World, Br w → φ35 t35 w → φ37 t37 w → φ36 t36 w → φ38 t38 w → φ39 t39 w → φ40 t40 w → φ41 t41 w → φ43 t43 w → φ45 t45 w → φ48 t48 w → φ44 t44 w → φ46 t46 w → φ47 t47 w → φ49 t49 w → 
      Q0 t41 true w (Q3 P .neq T.b (.tmp 47) (.tmp 49) t47 t49) fun t50 w =>
      pick P t41 t50 (.bool false) w fun t51 w =>
      lp (α := Value × Value) (t51, (.int .i64 0)) w fun again10 x10 d_ w =>
        Q3 P .lss T.d (.tmp 52) (.tmp 53) x10.2 x4.2 w fun t54 w =>
        X1 t54 (
          dr w fun Tr Br =>
          Q7 Tr (fun φ59 => ∀ w : World, Br w → Q0 x10.1 true w (fieldAddr P T.a (.pointer (some q)) 2) (dk Tr φ59 w)) fun φ59 =>
          Q7 Tr (fun φ61 => ∀ w : World, Br w → Q0 x10.1 true w (fun w J => J x10.2 w) (dk Tr φ61 w)) fun φ61 =>
          Q7 Tr (fun φ64 => ∀ w : World, Br w → Q0 x10.1 true w (fieldAddr P T.a (.pointer (some q)) 2) (dk Tr φ64 w)) fun φ64 =>
          Q7 Tr (fun φ66 => ∀ w : World, Br w → Q0 x10.1 true w (fun w J => J x4.2 w) (dk Tr φ66 w)) fun φ66 =>
          Q7 Tr (fun φ60 => ∀ t59 : Value, ∀ w : World, Br w → φ59 t59 w → Q0 x10.1 true w (Q2 P T.f t59) (dk Tr φ60 w)) fun φ60 =>
          Q7 Tr (fun φ62 => ∀ t60 : Value, ∀ t61 : Value, ∀ w : World, Br w → φ60 t60 w → φ61 t61 w → Q0 x10.1 true w (indexAddr P T.f t60 t61) (dk Tr φ62 w)) fun φ62 =>
          Q7 Tr (fun φ63 => ∀ t62 : Value, ∀ w : World, Br w → φ62 t62 w → Q0 x10.1 true w (Q2 P T.b t62) (dk Tr φ63 w)) fun φ63 =>
          Q7 Tr (fun φ65 => ∀ t64 : Value, ∀ w : World, Br w → φ64 t64 w → Q0 x10.1 true w (Q2 P T.f t64) (dk Tr φ65 w)) fun φ65 =>
          Q7 Tr (fun φ67 => ∀ t65 : Value, ∀ t66 : Value, ∀ w : World, Br w → φ65 t65 w → φ66 t66 w → Q0 x10.1 true w (indexAddr P T.f t65 t66) (dk Tr φ67 w)) fun φ67 =>
          Q7 Tr (fun φ68 => ∀ t67 : Value, ∀ w : World, Br w → φ67 t67 w → Q0 x10.1 true w (Q2 P T.b t67) (dk Tr φ68 w)) fun φ68 =>
          ∀ t59 : Value, ∀ t61 : Value, ∀ t64 : Value, ∀ t66 : Value, ∀ t60 : Value, ∀ t62 : Value, ∀ t63 : Value, ∀ t65 : Value, ∀ t67 : Value, ∀ t68 : Value, ∀ w : World, Br w → φ59 t59 w → φ61 t61 w → φ64 t64 w → φ66 t66 w → φ60 t60 w → φ62 t62 w → φ63 t63 w → φ65 t65 w → φ67 t67 w → φ68 t68 w → 
          Q0 x10.1 true w (Q3 P .neq T.b (.tmp 63) (.tmp 68) t63 t68) fun t69 w =>
          pick P x10.1 t69 (.bool false) w fun t70 w =>
          Q3 P .add T.d (.tmp 55) (.const (.int .i64 1)) x10.2 (.int .i64 1) w fun t56 w =>
          again10 (t70, t56) w) (
          Q3 P .add T.d (.tmp 31) (.const (.int .i64 1)) x4.2 (.int .i64 1) w fun t32 w =>
          again4 (x10.1, t32) w)) (
      J x4.1 w) := by
  have hmax := g1.max
  refine N1 (a := Value.bool ok) c.like.length (fun n x w' => ∃ σ', Stp w1 σ1 w' σ' ∧ x = Value.bool (ok && (List.range n).all fun i => Wc c i && (List.range i).all (G1 c i))) ⟨σ1, Stp.refl hs1, by simp⟩ fun n x w2 d hn2 hinv => ?_
  obtain ⟨σ2, hk2, rfl⟩ := hinv
  have hq2 := hq.up hk2
  have g12 := g1.up hk2
  have hs2 := hk2.sat
  (repeat (with_reducible first | refine Z2 ?_ | refine Z1 ?_ | refine Y8 ?_ | refine Z3 ?_ | refine Z8 ?_ | refine J0 ?_ | refine Y9 ?_ | refine Z0 ?_ | refine W4 ?_ | refine Z9 ?_ | refine U3 ?_))
  refine ld hs2 hq2 rfl ?_
  refine Q6 g12 ?_
  refine Z5 ?_
  refine Q4 (fun hc => ?_) (fun hc => ?_)
  · have hn' : n < c.like.length := by simpa using hc
    have hnx : (ok && (List.range (n + 1)).all fun i => Wc c i && (List.range i).all (G1 c i)) = ((ok && (List.range n).all fun i => Wc c i && (List.range i).all (G1 c i)) && (Wc c n && (List.range n).all (G1 c n))) := by rw [Jv, Bool.and_assoc]
    have hP : Wc c n = (L4 c.like[n] && !decide (c.like[n] = c.name)) := by unfold Wc; rw [E1 hn']
    obtain ⟨p1, p2⟩ := g12.elS hn'
    have p2 : c.like[n].length ≤ 140737488355328 := by simp only [W3] at p2; omega
    generalize (ok && (List.range n).all fun i => Wc c i && (List.range i).all (G1 c i)) = acc at hnx ⊢
    clear h hc
    cases hacc : acc with
    | false =>
      refine W1 hs2 ?_
      (repeat (apply L9; (· intros; (repeat (rename_i hx; subst hx)); (repeat' (first | (with_reducible exact U8 rfl) | (with_reducible exact V9 (Stp.bel (by (repeat (first | exact Stp.refl (by (first | assumption | exact Stp.sat (by assumption) | exact Hst.sat (by assumption))) | assumption | refine Stp.trans ?_ (by first | assumption | exact Hst.stp (by assumption)))))) rfl) | (with_reducible intro _) | (simp only [↓Mm, Mm, ↓Mp, Mp, Mb, reduceIte])  | (with_reducible show Q2 _ _ _ _ _; first | refine X8 aS aL aR ?_ | refine Y3 aS aL aR ?_ | refine ld aS aL aR ?_) | (with_reducible show indexAddr _ _ _ _ _ _; refine Y4 aL au ?_) | (with_reducible show X4 _ _ _ _ _ _ _ _; refine Q6 aL ?_) | (with_reducible show D1 _ _ _ _ _ _; refine Y6 aR ?_) | (with_reducible show pick _ _ _ _ _ _; refine W8 ?_) | (apply W9; intro hh; (try simp only [hh, reduceIte, ↓Mm, Mm, ↓Mp, Mp, Mb, reduceIte])))); done)))
      intros; (repeat (rename_i hx; subst hx))
      rename_i w3 hb3
      (repeat (with_reducible first | refine Z2 ?_ | refine Z1 ?_ | refine Y8 ?_ | refine Z3 ?_ | refine Z8 ?_ | refine J0 ?_ | refine Y9 ?_ | refine Z0 ?_ | refine W4 ?_ | refine Z9 ?_ | refine U3 ?_))
      refine Q19 hb3.sat hq2 g12 hn' fun w4 σ4 hk4 => ?_
      exact Z6 hmax hn' ⟨σ4, hk2.trans (hb3.stp.trans hk4), by rw [hnx, hacc]; rfl⟩
    | true =>
      cases hcl : L4 c.like[n] with
      | false =>
        refine W1 hs2 ?_
        have hrc : ∀ {w' : World} {K : Value → World → Prop}, K (.bool false) w' → Q1 P F.e [S c.like[n]] w' K := fun hK => A5 _ p2 (by rw [hcl]; exact hK)
        (repeat (apply L9; (· intros; (repeat (rename_i hx; subst hx)); (repeat' (first | (with_reducible exact U8 rfl) | (with_reducible exact V9 (Stp.bel (by (repeat (first | exact Stp.refl (by (first | assumption | exact Stp.sat (by assumption) | exact Hst.sat (by assumption))) | assumption | refine Stp.trans ?_ (by first | assumption | exact Hst.stp (by assumption)))))) rfl) | (with_reducible intro _) | (simp only [↓Mm, Mm, ↓Mp, Mp, Mb, reduceIte]) | (with_reducible refine hrc  ?_)  | (with_reducible show Q2 _ _ _ _ _; first | refine X8 aS aL aR ?_ | refine Y3 aS aL aR ?_ | refine ld aS aL aR ?_) | (with_reducible show indexAddr _ _ _ _ _ _; refine Y4 aL au ?_) | (with_reducible show X4 _ _ _ _ _ _ _ _; refine Q6 aL ?_) | (with_reducible show D1 _ _ _ _ _ _; refine Y6 aR ?_) | (with_reducible show pick _ _ _ _ _ _; refine W8 ?_) | (apply W9; intro hh; (try simp only [hh, reduceIte, ↓Mm, Mm, ↓Mp, Mp, Mb, reduceIte])))); done)))
        intros; (repeat (rename_i hx; subst hx))
        rename_i w3 hb3
        (repeat (with_reducible first | refine Z2 ?_ | refine Z1 ?_ | refine Y8 ?_ | refine Z3 ?_ | refine Z8 ?_ | refine J0 ?_ | refine Y9 ?_ | refine Z0 ?_ | refine W4 ?_ | refine Z9 ?_ | refine U3 ?_))
        refine Q19 hb3.sat hq2 g12 hn' fun w4 σ4 hk4 => ?_
        exact Z6 hmax hn' ⟨σ4, hk2.trans (hb3.stp.trans hk4), by rw [hnx, hacc, hP, hcl]; rfl⟩
      | true =>
        refine W1 hs2 ?_
        have hrc : ∀ {w' : World} {K : Value → World → Prop}, K (.bool true) w' → Q1 P F.e [S c.like[n]] w' K := fun hK => A5 _ p2 (by rw [hcl]; exact hK)
        (repeat (apply L9; (· intros; (repeat (rename_i hx; subst hx)); (repeat' (first | (with_reducible exact U8 rfl) | (with_reducible exact V9 (Stp.bel (by (repeat (first | exact Stp.refl (by (first | assumption | exact Stp.sat (by assumption) | exact Hst.sat (by assumption))) | assumption | refine Stp.trans ?_ (by first | assumption | exact Hst.stp (by assumption)))))) rfl) | (with_reducible intro _) | (simp only [↓Mm, Mm, ↓Mp, Mp, Mb, reduceIte]) | (with_reducible refine hrc  ?_)  | (with_reducible show Q2 _ _ _ _ _; first | refine X8 aS aL aR ?_ | refine Y3 aS aL aR ?_ | refine ld aS aL aR ?_) | (with_reducible show indexAddr _ _ _ _ _ _; refine Y4 aL au ?_) | (with_reducible show X4 _ _ _ _ _ _ _ _; refine Q6 aL ?_) | (with_reducible show D1 _ _ _ _ _ _; refine Y6 aR ?_) | (with_reducible show pick _ _ _ _ _ _; refine W8 ?_) | (apply W9; intro hh; (try simp only [hh, reduceIte, ↓Mm, Mm, ↓Mp, Mp, Mb, reduceIte])))); done)))
        intros; (repeat (rename_i hx; subst hx))
        rename_i w3 hb3
        (repeat (with_reducible first | refine Z2 ?_ | refine Z1 ?_ | refine Y8 ?_ | refine Z3 ?_ | refine Z8 ?_ | refine J0 ?_ | refine Y9 ?_ | refine Z0 ?_ | refine W4 ?_ | refine Z9 ?_ | refine U3 ?_))
        refine Nd ?_
        (repeat (with_reducible first | refine Z2 ?_ | refine Z1 ?_ | refine Y8 ?_ | refine Z3 ?_ | refine Z8 ?_ | refine J0 ?_ | refine Y9 ?_ | refine Z0 ?_ | refine W4 ?_ | refine Z9 ?_ | refine U3 ?_))
        refine Q19 hb3.sat hq2 g12 hn' fun w4 σ4 hk4 => ?_
        exact Z6 hmax hn' ⟨σ4, hk2.trans (hb3.stp.trans hk4), by rw [hnx, hacc, hP, hcl]; simp⟩
  · have hn' : ¬ n < c.like.length := by simpa using hc
    obtain rfl : n = c.like.length := by omega
    exact h _ _ hk2
set_option maxHeartbeats 2000000 in
theorem Q0D {c : Cla} {lv fv mv : Value} {w1 : World} {σ1 : Q5} {q : Addr} {ok : Bool} (hs1 : X6 w1 σ1) (hq : U0 σ1 q [S c.name, S c.super, lv, .bool c.iface, .bool c.abs, .bool c.fin, fv, mv]) {i : Nat} {N m0 : Nat} {Inv : Nat → Value → World → Prop} (g2 : Sl 3 D7 σ1 fv c.fields) (hi : i < c.fields.length)
    (h : ∀ w' σ', Stp w1 σ1 w' σ' → Hi N Inv (Value.bool (ok && (List.range i).all (T2 c i)), .int .i64 (IntKind.i64.wrap (i + 1))) w' ∧ Vu N (Value.bool (ok && (List.range i).all (T2 c i)), .int .i64 (IntKind.i64.wrap (i + 1))) < m0) :
    lp (α := Value × Value) (Value.bool ok, (.int .i64 0)) w1 fun again22 x22 d_ w =>
            Q3 P .lss T.d (.tmp 102) (.tmp 103) x22.2 (I i) w fun t104 w =>
            X1 t104 (
              dr w fun Tr Br =>
              Q7 Tr (fun φ109 => ∀ w : World, Br w → Q0 x22.1 true w (fieldAddr P T.a (.pointer (some q)) 6) (dk Tr φ109 w)) fun φ109 =>
              Q7 Tr (fun φ111 => ∀ w : World, Br w → Q0 x22.1 true w (fun w J => J x22.2 w) (dk Tr φ111 w)) fun φ111 =>
              Q7 Tr (fun φ115 => ∀ w : World, Br w → Q0 x22.1 true w (fieldAddr P T.a (.pointer (some q)) 6) (dk Tr φ115 w)) fun φ115 =>
              Q7 Tr (fun φ117 => ∀ w : World, Br w → Q0 x22.1 true w (fun w J => J (I i) w) (dk Tr φ117 w)) fun φ117 =>
              Q7 Tr (fun φ110 => ∀ t109 : Value, ∀ w : World, Br w → φ109 t109 w → Q0 x22.1 true w (Q2 P T.h t109) (dk Tr φ110 w)) fun φ110 =>
              Q7 Tr (fun φ112 => ∀ t110 : Value, ∀ t111 : Value, ∀ w : World, Br w → φ110 t110 w → φ111 t111 w → Q0 x22.1 true w (indexAddr P T.h t110 t111) (dk Tr φ112 w)) fun φ112 =>
              Q7 Tr (fun φ113 => ∀ t112 : Value, ∀ w : World, Br w → φ112 t112 w → Q0 x22.1 true w (fieldAddr P T.i t112 0) (dk Tr φ113 w)) fun φ113 =>
              Q7 Tr (fun φ114 => ∀ t113 : Value, ∀ w : World, Br w → φ113 t113 w → Q0 x22.1 true w (Q2 P T.b t113) (dk Tr φ114 w)) fun φ114 =>
              Q7 Tr (fun φ116 => ∀ t115 : Value, ∀ w : World, Br w → φ115 t115 w → Q0 x22.1 true w (Q2 P T.h t115) (dk Tr φ116 w)) fun φ116 =>
              Q7 Tr (fun φ118 => ∀ t116 : Value, ∀ t117 : Value, ∀ w : World, Br w → φ116 t116 w → φ117 t117 w → Q0 x22.1 true w (indexAddr P T.h t116 t117) (dk Tr φ118 w)) fun φ118 =>
              Q7 Tr (fun φ119 => ∀ t118 : Value, ∀ w : World, Br w → φ118 t118 w → Q0 x22.1 true w (fieldAddr P T.i t118 0) (dk Tr φ119 w)) fun φ119 =>
              Q7 Tr (fun φ120 => ∀ t119 : Value, ∀ w : World, Br w → φ119 t119 w → Q0 x22.1 true w (Q2 P T.b t119) (dk Tr φ120 w)) fun φ120 =>
              ∀ t109 : Value, ∀ t111 : Value, ∀ t115 : Value, ∀ t117 : Value, ∀ t110 : Value, ∀ t112 : Value, ∀ t113 : Value, ∀ t114 : Value, ∀ t116 : Value, ∀ t118 : Value, ∀ t119 : Value, ∀ t120 : Value, ∀ w : World, Br w → φ109 t109 w → φ111 t111 w → φ115 t115 w → φ117 t117 w → φ110 t110 w → φ112 t112 w → φ113 t113 w → φ114 t114 w → φ116 t116 w → φ118 t118 w → φ119 t119 w → φ120 t120 w → 
              Q0 x22.1 true w (Q3 P .neq T.b (.tmp 114) (.tmp 120) t114 t120) fun t121 w =>
              pick P x22.1 t121 (.bool false) w fun t122 w =>
              Q3 P .add T.d (.tmp 105) (.const (.int .i64 1)) x22.2 (.int .i64 1) w fun t106 w =>
              again22 (t122, t106) w) (
              Q3 P .add T.d (.tmp 76) (.const (.int .i64 1)) (I i) (.int .i64 1) w fun t77 w =>
              (Hi N Inv (x22.1, t77) w ∧ Vu N (x22.1, t77) < m0)) := by
  have hmax := g2.max
  refine N1 (a := Value.bool ok) i (fun k x w' => ∃ σ', Stp w1 σ1 w' σ' ∧ x = Value.bool (ok && (List.range k).all (T2 c i))) ⟨σ1, Stp.refl hs1, by simp⟩ fun k x w2 d hk hinv => ?_
  obtain ⟨σ2, hk2, rfl⟩ := hinv
  have hq2 := hq.up hk2
  have g22 := g2.up hk2
  have hs2 := hk2.sat
  refine Z5 ?_
  refine Q4 (fun hc => ?_) (fun hc => ?_)
  · have hk' : k < i := by simpa using hc
    have hk3 : k < c.fields.length := by omega
    have hnx : (ok && (List.range (k + 1)).all (T2 c i)) = ((ok && (List.range k).all (T2 c i)) && T2 c i k) := by rw [Jv, Bool.and_assoc]
    have hQ : T2 c i k = !decide (c.fields[k].name = c.fields[i].name) := by unfold T2 Er; rw [E1 hk3, E1 hi]
    rw [hQ] at hnx
    obtain ⟨p1, _⟩ := g22.elF hk3
    obtain ⟨p2, _⟩ := g22.elF hi
    generalize (ok && (List.range k).all (T2 c i)) = acc at hnx ⊢
    clear h hQ hc
    cases acc
    all_goals
      refine W1 hs2 ?_
      (repeat (apply L9; (· intros; (repeat (rename_i hx; subst hx)); (repeat' (first | (with_reducible exact U8 rfl) | (with_reducible exact V9 (Stp.bel (by (repeat (first | exact Stp.refl (by (first | assumption | exact Stp.sat (by assumption) | exact Hst.sat (by assumption))) | assumption | refine Stp.trans ?_ (by first | assumption | exact Hst.stp (by assumption)))))) rfl) | (with_reducible intro _) | (simp only [↓Mm, Mm, ↓Mp, Mp, Mb, reduceIte])  | (with_reducible show Q2 _ _ _ _ _; first | refine X8 aS aL aR ?_ | refine Y3 aS aL aR ?_ | refine ld aS aL aR ?_) | (with_reducible show indexAddr _ _ _ _ _ _; refine Y4 aL au ?_) | (with_reducible show X4 _ _ _ _ _ _ _ _; refine Q6 aL ?_) | (with_reducible show D1 _ _ _ _ _ _; refine Y6 aR ?_) | (with_reducible show pick _ _ _ _ _ _; refine W8 ?_) | (apply W9; intro hh; (try simp only [hh, reduceIte, ↓Mm, Mm, ↓Mp, Mp, Mb, reduceIte])))); done)))
      (intros; (repeat (rename_i hx; subst hx)); (try simp only [↓Mm, Mm, ↓Mp, Mp, Mb, reduceIte]))
      rename_i w3 hb3
      exact Z6 (by omega) hk' ⟨σ2, hk2.trans hb3.stp, by rw [hnx]; rfl⟩
  · have hk0 : k = i := by have : ¬ k < i := by simpa using hc
                           omega
    subst hk0
    (try simp only [↓Mm, Mm, ↓Mr, Mr, Mb, reduceIte])
    exact h _ _ hk2
set_option maxHeartbeats 4000000 in
theorem Q8y {c : Cla} {lv fv mv : Value} {w1 : World} {σ1 : Q5} {q : Addr} {ok : Bool} (hs1 : X6 w1 σ1) (hq : U0 σ1 q [S c.name, S c.super, lv, .bool c.iface, .bool c.abs, .bool c.fin, fv, mv]) {J : Value → World → Prop} (g2 : Sl 3 D7 σ1 fv c.fields)
    (h : ∀ w' σ', Stp w1 σ1 w' σ' → J (.bool (ok && (List.range c.fields.length).all fun i => Lp c i && (List.range i).all (T2 c i))) w') :
    lp (α := Value × Value) (Value.bool ok, (.int .i64 0)) w1 fun again16 x16 d_ w =>
        fieldAddr P T.a (.pointer (some q)) 6 w fun t72 w =>
        Q2 P T.h t72 w fun t73 w =>
        X4 P .len [T.h] T.d [false] [t73] w fun t74 w =>
        Q3 P .lss T.d (.tmp 71) (.tmp 74) x16.2 t74 w fun t75 w =>
        X1 t75 (
          Q0 x16.1 true w (fieldAddr P T.a (.pointer (some q)) 6) fun t80 w =>
          Q0 x16.1 true w (Q2 P T.h t80) fun t81 w =>
          Q0 x16.1 true w (fun w J => J x16.2 w) fun t82 w =>
          Q0 x16.1 true w (indexAddr P T.h t81 t82) fun t83 w =>
          Q0 x16.1 true w (fieldAddr P T.i t83 0) fun t84 w =>
          Q0 x16.1 true w (Q2 P T.b t84) fun t85 w =>
          Q0 x16.1 true w (Q1 P F.q [t85]) fun t86 w =>
          pick P x16.1 t86 (.bool false) w fun t87 w =>
          Q0 t87 true w (fieldAddr P T.a (.pointer (some q)) 6) fun t89 w =>
          Q0 t87 true w (Q2 P T.h t89) fun t90 w =>
          Q0 t87 true w (fun w J => J x16.2 w) fun t91 w =>
          Q0 t87 true w (indexAddr P T.h t90 t91) fun t92 w =>
          Q0 t87 true w (fieldAddr P T.i t92 1) fun t93 w =>
          Q0 t87 true w (Q2 P T.b t93) fun t94 w =>
          Q0 t87 true w (Q1 P F.i [t94]) fun t95 w =>
          pick P t87 t95 (.bool false) w fun t96 w =>
          Q0 t96 true w (fieldAddr P T.a (.pointer (some q)) 3) fun t98 w =>
          Q0 t96 true w (Q2 P T.l t98) fun t99 w =>
          Q0 t96 true w (U6 P .not t99) fun t100 w =>
          pick P t96 t100 (.bool false) w fun t101 w =>
          lp (α := Value × Value) (t101, (.int .i64 0)) w fun again22 x22 d_ w =>
            Q3 P .lss T.d (.tmp 102) (.tmp 103) x22.2 x16.2 w fun t104 w =>
            X1 t104 (
              dr w fun Tr Br =>
              Q7 Tr (fun φ109 => ∀ w : World, Br w → Q0 x22.1 true w (fieldAddr P T.a (.pointer (some q)) 6) (dk Tr φ109 w)) fun φ109 =>
              Q7 Tr (fun φ111 => ∀ w : World, Br w → Q0 x22.1 true w (fun w J => J x22.2 w) (dk Tr φ111 w)) fun φ111 =>
              Q7 Tr (fun φ115 => ∀ w : World, Br w → Q0 x22.1 true w (fieldAddr P T.a (.pointer (some q)) 6) (dk Tr φ115 w)) fun φ115 =>
              Q7 Tr (fun φ117 => ∀ w : World, Br w → Q0 x22.1 true w (fun w J => J x16.2 w) (dk Tr φ117 w)) fun φ117 =>
              Q7 Tr (fun φ110 => ∀ t109 : Value, ∀ w : World, Br w → φ109 t109 w → Q0 x22.1 true w (Q2 P T.h t109) (dk Tr φ110 w)) fun φ110 =>
              Q7 Tr (fun φ112 => ∀ t110 : Value, ∀ t111 : Value, ∀ w : World, Br w → φ110 t110 w → φ111 t111 w → Q0 x22.1 true w (indexAddr P T.h t110 t111) (dk Tr φ112 w)) fun φ112 =>
              Q7 Tr (fun φ113 => ∀ t112 : Value, ∀ w : World, Br w → φ112 t112 w → Q0 x22.1 true w (fieldAddr P T.i t112 0) (dk Tr φ113 w)) fun φ113 =>
              Q7 Tr (fun φ114 => ∀ t113 : Value, ∀ w : World, Br w → φ113 t113 w → Q0 x22.1 true w (Q2 P T.b t113) (dk Tr φ114 w)) fun φ114 =>
              Q7 Tr (fun φ116 => ∀ t115 : Value, ∀ w : World, Br w → φ115 t115 w → Q0 x22.1 true w (Q2 P T.h t115) (dk Tr φ116 w)) fun φ116 =>
              Q7 Tr (fun φ118 => ∀ t116 : Value, ∀ t117 : Value, ∀ w : World, Br w → φ116 t116 w → φ117 t117 w → Q0 x22.1 true w (indexAddr P T.h t116 t117) (dk Tr φ118 w)) fun φ118 =>
              Q7 Tr (fun φ119 => ∀ t118 : Value, ∀ w : World, Br w → φ118 t118 w → Q0 x22.1 true w (fieldAddr P T.i t118 0) (dk Tr φ119 w)) fun φ119 =>
              Q7 Tr (fun φ120 => ∀ t119 : Value, ∀ w : World, Br w → φ119 t119 w → Q0 x22.1 true w (Q2 P T.b t119) (dk Tr φ120 w)) fun φ120 =>
              ∀ t109 : Value, ∀ t111 : Value, ∀ t115 : Value, ∀ t117 : Value, ∀ t110 : Value, ∀ t112 : Value, ∀ t113 : Value, ∀ t114 : Value, ∀ t116 : Value, ∀ t118 : Value, ∀ t119 : Value, ∀ t120 : Value, ∀ w : World, Br w → φ109 t109 w → φ111 t111 w → φ115 t115 w → φ117 t117 w → φ110 t110 w → φ112 t112 w → φ113 t113 w → φ114 t114 w → φ116 t116 w → φ118 t118 w → φ119 t119 w → φ120 t120 w → 
              Q0 x22.1 true w (Q3 P .neq T.b (.tmp 114) (.tmp 120) t114 t120) fun t121 w =>
              pick P x22.1 t121 (.bool false) w fun t122 w =>
              Q3 P .add T.d (.tmp 105) (.const (.int .i64 1)) x22.2 (.int .i64 1) w fun t106 w =>
              again22 (t122, t106) w) (
              Q3 P .add T.d (.tmp 76) (.const (.int .i64 1)) x16.2 (.int .i64 1) w fun t77 w =>
              again16 (x22.1, t77) w)) (
          J x16.1 w) := by
  have hmax := g2.max
  refine N1 (a := Value.bool ok) c.fields.length (fun n x w' => ∃ σ', Stp w1 σ1 w' σ' ∧ x = Value.bool (ok && (List.range n).all fun i => Lp c i && (List.range i).all (T2 c i))) ⟨σ1, Stp.refl hs1, by simp⟩ fun n x w2 d hn2 hinv => ?_
  obtain ⟨σ2, hk2, rfl⟩ := hinv
  have hq2 := hq.up hk2
  have g22 := g2.up hk2
  have hs2 := hk2.sat
  (repeat (with_reducible first | refine Z2 ?_ | refine Z1 ?_ | refine Y8 ?_ | refine Z3 ?_ | refine Z8 ?_ | refine J0 ?_ | refine Y9 ?_ | refine Z0 ?_ | refine W4 ?_ | refine Z9 ?_ | refine U3 ?_))
  refine ld hs2 hq2 rfl ?_
  refine Q6 g22 ?_
  refine Z5 ?_
  refine Q4 (fun hc => ?_) (fun hc => ?_)
  · have hn' : n < c.fields.length := by simpa using hc
    have hnx : (ok && (List.range (n + 1)).all fun i => Lp c i && (List.range i).all (T2 c i)) = ((ok && (List.range n).all fun i => Lp c i && (List.range i).all (T2 c i)) && (Lp c n && (List.range n).all (T2 c n))) := by rw [Jv, Bool.and_assoc]
    have hP : Lp c n = (M7 c.fields[n].name && right c.fields[n].kind && !c.iface) := by unfold Lp Er; rw [E1 hn']
    obtain ⟨p1, r1⟩ := g22.elF hn'
    have b1 : c.fields[n].name.length ≤ 140737488355328 := by have := r1.2.1; simp only [W3] at this; omega
    have b2 : c.fields[n].kind.length ≤ 140737488355328 := by have := r1.2.2; simp only [W3] at this; omega
    generalize (ok && (List.range n).all fun i => Lp c i && (List.range i).all (T2 c i)) = acc at hnx ⊢
    clear h hc
    have step : ∀ b, b = (acc && Lp c n) → (acc && (Lp c n && (List.range n).all (T2 c n))) = (b && (List.range n).all (T2 c n)) := fun b e => by rw [e, Bool.and_assoc]
    cases acc with
    | false =>
      (repeat (with_reducible first | refine Z2 ?_ | refine Z1 ?_ | refine Y8 ?_ | refine Z3 ?_ | refine Z8 ?_ | refine J0 ?_ | refine Y9 ?_ | refine Z0 ?_ | refine W4 ?_ | refine Z9 ?_ | refine U3 ?_))
      refine Q0D hs2 hq2 g22 hn' fun w4 σ4 hk4 => ?_
      exact Z6 hmax hn' ⟨σ4, hk2.trans hk4, by rw [hnx]; rfl⟩
    | true =>
      (repeat (with_reducible first | refine Z2 ?_ | refine Z1 ?_ | refine Y8 ?_ | refine Z3 ?_ | refine Z8 ?_ | refine J0 ?_ | refine Y9 ?_ | refine Z0 ?_ | refine W4 ?_ | refine Z9 ?_ | refine U3 ?_))
      refine ld hs2 hq2 rfl ?_
      (repeat (with_reducible first | refine Z2 ?_ | refine Z1 ?_ | refine Y8 ?_ | refine Z3 ?_ | refine Z8 ?_ | refine J0 ?_ | refine Y9 ?_ | refine Z0 ?_ | refine W4 ?_ | refine Z9 ?_ | refine U3 ?_))
      refine Y4 g22 hn' ?_
      (repeat (with_reducible first | refine Z2 ?_ | refine Z1 ?_ | refine Y8 ?_ | refine Z3 ?_ | refine Z8 ?_ | refine J0 ?_ | refine Y9 ?_ | refine Z0 ?_ | refine W4 ?_ | refine Z9 ?_ | refine U3 ?_))
      refine ld hs2 p1 rfl ?_
      (repeat (with_reducible first | refine Z2 ?_ | refine Z1 ?_ | refine Y8 ?_ | refine Z3 ?_ | refine Z8 ?_ | refine J0 ?_ | refine Y9 ?_ | refine Z0 ?_ | refine W4 ?_ | refine Z9 ?_ | refine U3 ?_))
      refine Sk _ b1 ?_
      cases d1 : M7 c.fields[n].name with
      | false =>
        (repeat (with_reducible first | refine Z2 ?_ | refine Z1 ?_ | refine Y8 ?_ | refine Z3 ?_ | refine Z8 ?_ | refine J0 ?_ | refine Y9 ?_ | refine Z0 ?_ | refine W4 ?_ | refine Z9 ?_ | refine U3 ?_))
        refine Q0D hs2 hq2 g22 hn' fun w4 σ4 hk4 => ?_
        exact Z6 hmax hn' ⟨σ4, hk2.trans hk4, by rw [hnx, step false (by rw [hP, d1]; rfl)]⟩
      | true =>
        (repeat (with_reducible first | refine Z2 ?_ | refine Z1 ?_ | refine Y8 ?_ | refine Z3 ?_ | refine Z8 ?_ | refine J0 ?_ | refine Y9 ?_ | refine Z0 ?_ | refine W4 ?_ | refine Z9 ?_ | refine U3 ?_))
        refine ld hs2 hq2 rfl ?_
        (repeat (with_reducible first | refine Z2 ?_ | refine Z1 ?_ | refine Y8 ?_ | refine Z3 ?_ | refine Z8 ?_ | refine J0 ?_ | refine Y9 ?_ | refine Z0 ?_ | refine W4 ?_ | refine Z9 ?_ | refine U3 ?_))
        refine Y4 g22 hn' ?_
        (repeat (with_reducible first | refine Z2 ?_ | refine Z1 ?_ | refine Y8 ?_ | refine Z3 ?_ | refine Z8 ?_ | refine J0 ?_ | refine Y9 ?_ | refine Z0 ?_ | refine W4 ?_ | refine Z9 ?_ | refine U3 ?_))
        refine ld hs2 p1 rfl ?_
        (repeat (with_reducible first | refine Z2 ?_ | refine Z1 ?_ | refine Y8 ?_ | refine Z3 ?_ | refine Z8 ?_ | refine J0 ?_ | refine Y9 ?_ | refine Z0 ?_ | refine W4 ?_ | refine Z9 ?_ | refine U3 ?_))
        refine Jt _ b2 ?_
        cases d2 : right c.fields[n].kind with
        | false =>
          (repeat (with_reducible first | refine Z2 ?_ | refine Z1 ?_ | refine Y8 ?_ | refine Z3 ?_ | refine Z8 ?_ | refine J0 ?_ | refine Y9 ?_ | refine Z0 ?_ | refine W4 ?_ | refine Z9 ?_ | refine U3 ?_))
          refine Q0D hs2 hq2 g22 hn' fun w4 σ4 hk4 => ?_
          exact Z6 hmax hn' ⟨σ4, hk2.trans hk4, by rw [hnx, step false (by rw [hP, d1, d2]; rfl)]⟩
        | true =>
          (repeat (with_reducible first | refine Z2 ?_ | refine Z1 ?_ | refine Y8 ?_ | refine Z3 ?_ | refine Z8 ?_ | refine J0 ?_ | refine Y9 ?_ | refine Z0 ?_ | refine W4 ?_ | refine Z9 ?_ | refine U3 ?_))
          refine ld hs2 hq2 rfl ?_
          (repeat (with_reducible first | refine Z2 ?_ | refine Z1 ?_ | refine Y8 ?_ | refine Z3 ?_ | refine Z8 ?_ | refine J0 ?_ | refine Y9 ?_ | refine Z0 ?_ | refine W4 ?_ | refine Z9 ?_ | refine U3 ?_))
          refine Q0D hs2 hq2 g22 hn' fun w4 σ4 hk4 => ?_
          exact Z6 hmax hn' ⟨σ4, hk2.trans hk4, by rw [hnx, step (!c.iface) (by rw [hP, d1, d2]; rfl)]⟩
  · have hn' : ¬ n < c.fields.length := by simpa using hc
    obtain rfl : n = c.fields.length := by omega
    exact h _ _ hk2
set_option maxHeartbeats 2000000 in
theorem Dd {c : Cla} {lv fv mv : Value} {w1 : World} {σ1 : Q5} {q : Addr} {ok : Bool} (hs1 : X6 w1 σ1) (hq : U0 σ1 q [S c.name, S c.super, lv, .bool c.iface, .bool c.abs, .bool c.fin, fv, mv]) {i : Nat} {q9 : Addr} {pv cv hv : Value} {N m0 : Nat} {Inv : Nat → Value → World → Prop} (g3 : Sl 7 M9 σ1 mv c.methods) (hi : i < c.methods.length) (hq9 : U0 σ1 q9 [S c.methods[i].name, pv, S c.methods[i].result, .bool c.methods[i].abs, I c.methods[i].locals, cv, hv])
    (h : ∀ w' σ', Stp w1 σ1 w' σ' → Hi N Inv (Value.bool (ok && (List.range i).all (A0 c i)), .int .i64 (IntKind.i64.wrap (i + 1))) w' ∧ Vu N (Value.bool (ok && (List.range i).all (A0 c i)), .int .i64 (IntKind.i64.wrap (i + 1))) < m0) :
    lp (α := Value × Value) (Value.bool ok, (.int .i64 0)) w1 fun again35 x35 d_ w =>
                Q3 P .lss T.d (.tmp 158) (.tmp 159) x35.2 (I i) w fun t160 w =>
                X1 t160 (
                  dr w fun Tr Br =>
                  Q7 Tr (fun φ165 => ∀ w : World, Br w → Q0 x35.1 true w (fieldAddr P T.a (.pointer (some q)) 7) (dk Tr φ165 w)) fun φ165 =>
                  Q7 Tr (fun φ167 => ∀ w : World, Br w → Q0 x35.1 true w (fun w J => J x35.2 w) (dk Tr φ167 w)) fun φ167 =>
                  Q7 Tr (fun φ171 => ∀ w : World, Br w → Q0 x35.1 true w (fieldAddr P T.c (.pointer (some q9)) 0) (dk Tr φ171 w)) fun φ171 =>
                  Q7 Tr (fun φ166 => ∀ t165 : Value, ∀ w : World, Br w → φ165 t165 w → Q0 x35.1 true w (Q2 P T.e t165) (dk Tr φ166 w)) fun φ166 =>
                  Q7 Tr (fun φ168 => ∀ t166 : Value, ∀ t167 : Value, ∀ w : World, Br w → φ166 t166 w → φ167 t167 w → Q0 x35.1 true w (indexAddr P T.e t166 t167) (dk Tr φ168 w)) fun φ168 =>
                  Q7 Tr (fun φ169 => ∀ t168 : Value, ∀ w : World, Br w → φ168 t168 w → Q0 x35.1 true w (fieldAddr P T.c t168 0) (dk Tr φ169 w)) fun φ169 =>
                  Q7 Tr (fun φ170 => ∀ t169 : Value, ∀ w : World, Br w → φ169 t169 w → Q0 x35.1 true w (Q2 P T.b t169) (dk Tr φ170 w)) fun φ170 =>
                  Q7 Tr (fun φ172 => ∀ t171 : Value, ∀ w : World, Br w → φ171 t171 w → Q0 x35.1 true w (Q2 P T.b t171) (dk Tr φ172 w)) fun φ172 =>
                  ∀ t165 : Value, ∀ t167 : Value, ∀ t171 : Value, ∀ t166 : Value, ∀ t168 : Value, ∀ t169 : Value, ∀ t170 : Value, ∀ t172 : Value, ∀ w : World, Br w → φ165 t165 w → φ167 t167 w → φ171 t171 w → φ166 t166 w → φ168 t168 w → φ169 t169 w → φ170 t170 w → φ172 t172 w → 
                  Q0 x35.1 true w (Q3 P .neq T.b (.tmp 170) (.tmp 172) t170 t172) fun t173 w =>
                  pick P x35.1 t173 (.bool false) w fun t174 w =>
                  Q3 P .add T.d (.tmp 161) (.const (.int .i64 1)) x35.2 (.int .i64 1) w fun t162 w =>
                  again35 (t174, t162) w) (
                  Q3 P .add T.d (.tmp 128) (.const (.int .i64 1)) (I i) (.int .i64 1) w fun t129 w =>
                  (Hi N Inv (x35.1, t129) w ∧ Vu N (x35.1, t129) < m0)) := by
  have hmax := g3.max
  refine N1 (a := Value.bool ok) i (fun k x w' => ∃ σ', Stp w1 σ1 w' σ' ∧ x = Value.bool (ok && (List.range k).all (A0 c i))) ⟨σ1, Stp.refl hs1, by simp⟩ fun k x w2 d hk hinv => ?_
  obtain ⟨σ2, hk2, rfl⟩ := hinv
  have hq2 := hq.up hk2
  have hq92 := hq9.up hk2
  have g32 := g3.up hk2
  have hs2 := hk2.sat
  refine Z5 ?_
  refine Q4 (fun hc => ?_) (fun hc => ?_)
  · have hk' : k < i := by simpa using hc
    have hk3 : k < c.methods.length := by omega
    have hnx : (ok && (List.range (k + 1)).all (A0 c i)) = ((ok && (List.range k).all (A0 c i)) && A0 c i k) := by rw [Jv, Bool.and_assoc]
    have hQ : A0 c i k = !decide (c.methods[k].name = c.methods[i].name) := by unfold A0 Np; rw [E1 hk3, E1 hi]
    rw [hQ] at hnx
    obtain ⟨pv1, cv1, hv1, p1, _⟩ := g32.elM hk3
    generalize (ok && (List.range k).all (A0 c i)) = acc at hnx ⊢
    clear h hQ hc
    cases acc
    all_goals
      refine W1 hs2 ?_
      (repeat (apply L9; (· intros; (repeat (rename_i hx; subst hx)); (repeat' (first | (with_reducible exact U8 rfl) | (with_reducible exact V9 (Stp.bel (by (repeat (first | exact Stp.refl (by (first | assumption | exact Stp.sat (by assumption) | exact Hst.sat (by assumption))) | assumption | refine Stp.trans ?_ (by first | assumption | exact Hst.stp (by assumption)))))) rfl) | (with_reducible intro _) | (simp only [↓Mm, Mm, ↓Mp, Mp, Mb, reduceIte])  | (with_reducible show Q2 _ _ _ _ _; first | refine X8 aS aL aR ?_ | refine Y3 aS aL aR ?_ | refine ld aS aL aR ?_) | (with_reducible show indexAddr _ _ _ _ _ _; refine Y4 aL au ?_) | (with_reducible show X4 _ _ _ _ _ _ _ _; refine Q6 aL ?_) | (with_reducible show D1 _ _ _ _ _ _; refine Y6 aR ?_) | (with_reducible show pick _ _ _ _ _ _; refine W8 ?_) | (apply W9; intro hh; (try simp only [hh, reduceIte, ↓Mm, Mm, ↓Mp, Mp, Mb, reduceIte])))); done)))
      (intros; (repeat (rename_i hx; subst hx)); (try simp only [↓Mm, Mm, ↓Mp, Mp, Mb, reduceIte]))
      rename_i w3 hb3
      exact Z6 (by omega) hk' ⟨σ2, hk2.trans hb3.stp, by rw [hnx]; rfl⟩
  · have hk0 : k = i := by have : ¬ k < i := by simpa using hc
                           omega
    subst hk0
    (try simp only [↓Mm, Mm, ↓Mr, Mr, Mb, reduceIte])
    exact h _ _ hk2
set_option maxHeartbeats 4000000 in
theorem Q8g {c : Cla} {lv fv mv : Value} {w1 : World} {σ1 : Q5} {q : Addr} {ok : Bool} (hs1 : X6 w1 σ1) (hq : U0 σ1 q [S c.name, S c.super, lv, .bool c.iface, .bool c.abs, .bool c.fin, fv, mv]) {J : Value → World → Prop} (g3 : Sl 7 M9 σ1 mv c.methods)
    (h : ∀ w' σ', Stp w1 σ1 w' σ' → J (.bool (ok && (List.range c.methods.length).all fun i => Uq c i && (List.range i).all (A0 c i))) w') :
    lp (α := Value × Value) (Value.bool ok, (.int .i64 0)) w1 fun again28 x28 d_ w =>
            fieldAddr P T.a (.pointer (some q)) 7 w fun t124 w =>
            Q2 P T.e t124 w fun t125 w =>
            X4 P .len [T.e] T.d [false] [t125] w fun t126 w =>
            Q3 P .lss T.d (.tmp 123) (.tmp 126) x28.2 t126 w fun t127 w =>
            X1 t127 (
              fieldAddr P T.a (.pointer (some q)) 7 w fun t130 w =>
              Q2 P T.e t130 w fun t131 w =>
              indexAddr P T.e t131 x28.2 w fun t133 w =>
              Q2 P T.c t133 w fun t134 w =>
              M0 P T.c w fun t9 w =>
              V5 P T.c t9 t134 w fun _u w =>
              Q0 x28.1 true w (Q2 P T.c t9) fun t137 w =>
              Q0 x28.1 true w (Q1 P F.x [t137]) fun t138 w =>
              pick P x28.1 t138 (.bool false) w fun t139 w =>
              Q0 t139 true w (fieldAddr P T.c t9 3) fun t141 w =>
              Q0 t139 true w (Q2 P T.l t141) fun t142 w =>
              Q0 t139 true w (U6 P .not t142) fun t143 w =>
              Q0 t139 true w (fun w J => J t143 w) fun t144 w =>
              Q0 t144 false w (fieldAddr P T.a (.pointer (some q)) 4) fun t145 w =>
              Q0 t144 false w (Q2 P T.l t145) fun t146 w =>
              Q0 t139 true w (pick P t144 (.bool true) t146) fun t147 w =>
              pick P t139 t147 (.bool false) w fun t148 w =>
              Q0 t148 true w (fieldAddr P T.a (.pointer (some q)) 3) fun t150 w =>
              Q0 t148 true w (Q2 P T.l t150) fun t151 w =>
              Q0 t148 true w (U6 P .not t151) fun t152 w =>
              Q0 t148 true w (fun w J => J t152 w) fun t153 w =>
              Q0 t153 false w (fieldAddr P T.c t9 3) fun t154 w =>
              Q0 t153 false w (Q2 P T.l t154) fun t155 w =>
              Q0 t148 true w (pick P t153 (.bool true) t155) fun t156 w =>
              pick P t148 t156 (.bool false) w fun t157 w =>
              lp (α := Value × Value) (t157, (.int .i64 0)) w fun again35 x35 d_ w =>
                Q3 P .lss T.d (.tmp 158) (.tmp 159) x35.2 x28.2 w fun t160 w =>
                X1 t160 (
                  dr w fun Tr Br =>
                  Q7 Tr (fun φ165 => ∀ w : World, Br w → Q0 x35.1 true w (fieldAddr P T.a (.pointer (some q)) 7) (dk Tr φ165 w)) fun φ165 =>
                  Q7 Tr (fun φ167 => ∀ w : World, Br w → Q0 x35.1 true w (fun w J => J x35.2 w) (dk Tr φ167 w)) fun φ167 =>
                  Q7 Tr (fun φ171 => ∀ w : World, Br w → Q0 x35.1 true w (fieldAddr P T.c t9 0) (dk Tr φ171 w)) fun φ171 =>
                  Q7 Tr (fun φ166 => ∀ t165 : Value, ∀ w : World, Br w → φ165 t165 w → Q0 x35.1 true w (Q2 P T.e t165) (dk Tr φ166 w)) fun φ166 =>
                  Q7 Tr (fun φ168 => ∀ t166 : Value, ∀ t167 : Value, ∀ w : World, Br w → φ166 t166 w → φ167 t167 w → Q0 x35.1 true w (indexAddr P T.e t166 t167) (dk Tr φ168 w)) fun φ168 =>
                  Q7 Tr (fun φ169 => ∀ t168 : Value, ∀ w : World, Br w → φ168 t168 w → Q0 x35.1 true w (fieldAddr P T.c t168 0) (dk Tr φ169 w)) fun φ169 =>
                  Q7 Tr (fun φ170 => ∀ t169 : Value, ∀ w : World, Br w → φ169 t169 w → Q0 x35.1 true w (Q2 P T.b t169) (dk Tr φ170 w)) fun φ170 =>
                  Q7 Tr (fun φ172 => ∀ t171 : Value, ∀ w : World, Br w → φ171 t171 w → Q0 x35.1 true w (Q2 P T.b t171) (dk Tr φ172 w)) fun φ172 =>
                  ∀ t165 : Value, ∀ t167 : Value, ∀ t171 : Value, ∀ t166 : Value, ∀ t168 : Value, ∀ t169 : Value, ∀ t170 : Value, ∀ t172 : Value, ∀ w : World, Br w → φ165 t165 w → φ167 t167 w → φ171 t171 w → φ166 t166 w → φ168 t168 w → φ169 t169 w → φ170 t170 w → φ172 t172 w → 
                  Q0 x35.1 true w (Q3 P .neq T.b (.tmp 170) (.tmp 172) t170 t172) fun t173 w =>
                  pick P x35.1 t173 (.bool false) w fun t174 w =>
                  Q3 P .add T.d (.tmp 161) (.const (.int .i64 1)) x35.2 (.int .i64 1) w fun t162 w =>
                  again35 (t174, t162) w) (
                  Q3 P .add T.d (.tmp 128) (.const (.int .i64 1)) x28.2 (.int .i64 1) w fun t129 w =>
                  again28 (x35.1, t129) w)) (
              J x28.1 w) := by
  have hmax := g3.max
  refine N1 (a := Value.bool ok) c.methods.length (fun n x w' => ∃ σ', Stp w1 σ1 w' σ' ∧ x = Value.bool (ok && (List.range n).all fun i => Uq c i && (List.range i).all (A0 c i))) ⟨σ1, Stp.refl hs1, by simp⟩ fun n x w2 d hn2 hinv => ?_
  obtain ⟨σ2, hk2, rfl⟩ := hinv
  have hq2 := hq.up hk2
  have g32 := g3.up hk2
  have hs2 := hk2.sat
  (repeat (with_reducible first | refine Z2 ?_ | refine Z1 ?_ | refine Y8 ?_ | refine Z3 ?_ | refine Z8 ?_ | refine J0 ?_ | refine Y9 ?_ | refine Z0 ?_ | refine W4 ?_ | refine Z9 ?_ | refine U3 ?_))
  refine ld hs2 hq2 rfl ?_
  refine Q6 g32 ?_
  refine Z5 ?_
  refine Q4 (fun hc => ?_) (fun hc => ?_)
  · have hn' : n < c.methods.length := by simpa using hc
    have hnx : (ok && (List.range (n + 1)).all fun i => Uq c i && (List.range i).all (A0 c i)) = ((ok && (List.range n).all fun i => Uq c i && (List.range i).all (A0 c i)) && (Uq c n && (List.range n).all (A0 c n))) := by rw [Jv, Bool.and_assoc]
    have hP : Uq c n = (S3 c.methods[n] && (!c.methods[n].abs || c.abs) && (!c.iface || c.methods[n].abs)) := by unfold Uq Np; rw [E1 hn']
    obtain ⟨pv, cv, hv, p1, r1⟩ := g32.elM hn'
    generalize (ok && (List.range n).all fun i => Uq c i && (List.range i).all (A0 c i)) = acc at hnx ⊢
    clear h hc
    have step : ∀ b, b = (acc && Uq c n) → (acc && (Uq c n && (List.range n).all (A0 c n))) = (b && (List.range n).all (A0 c n)) := fun b e => by rw [e, Bool.and_assoc]
    (repeat (with_reducible first | refine Z2 ?_ | refine Z1 ?_ | refine Y8 ?_ | refine Z3 ?_ | refine Z8 ?_ | refine J0 ?_ | refine Y9 ?_ | refine Z0 ?_ | refine W4 ?_ | refine Z9 ?_ | refine U3 ?_))
    refine ld hs2 hq2 rfl ?_
    refine Y4 g32 hn' ?_
    refine Y3 hs2 p1 rfl ?_
    refine Y0 hs2 (by rfl) rfl (Rep.one r1) fun q9 w3 σ3 hk3 hq9 => ?_
    have hs3 := hk3.sat
    have hq3 := hq2.up hk3
    have g33 := g32.up hk3
    have r3 := S6 r1 ⟨hk3.le⟩
    have hk23 := hk2.trans hk3
    cases acc with
    | false =>
      (repeat (with_reducible first | refine Z2 ?_ | refine Z1 ?_ | refine Y8 ?_ | refine Z3 ?_ | refine Z8 ?_ | refine J0 ?_ | refine Y9 ?_ | refine Z0 ?_ | refine W4 ?_ | refine Z9 ?_ | refine U3 ?_))
      refine Dd hs3 hq3 g33 hn' hq9 fun w4 σ4 hk4 => ?_
      exact Z6 hmax hn' ⟨σ4, hk23.trans hk4, by rw [hnx]; rfl⟩
    | true =>
      (repeat (with_reducible first | refine Z2 ?_ | refine Z1 ?_ | refine Y8 ?_ | refine Z3 ?_ | refine Z8 ?_ | refine J0 ?_ | refine Y9 ?_ | refine Z0 ?_ | refine W4 ?_ | refine Z9 ?_ | refine U3 ?_))
      refine Y3 hs3 hq9 rfl ?_
      (repeat (with_reducible first | refine Z2 ?_ | refine Z1 ?_ | refine Y8 ?_ | refine Z3 ?_ | refine Z8 ?_ | refine J0 ?_ | refine Y9 ?_ | refine Z0 ?_ | refine W4 ?_ | refine Z9 ?_ | refine U3 ?_))
      refine Q5n hs3 r3 fun w5 σ5 hk5 => ?_
      have hs5 := hk5.sat
      have hq5 := hq3.up hk5
      have hq95 := hq9.up hk5
      have g35 := g33.up hk5
      have hk25 := hk23.trans hk5
      cases d1 : S3 c.methods[n] with
      | false =>
        (repeat (with_reducible first | refine Z2 ?_ | refine Z1 ?_ | refine Y8 ?_ | refine Z3 ?_ | refine Z8 ?_ | refine J0 ?_ | refine Y9 ?_ | refine Z0 ?_ | refine W4 ?_ | refine Z9 ?_ | refine U3 ?_))
        refine Dd hs5 hq5 g35 hn' hq95 fun w4 σ4 hk4 => ?_
        exact Z6 hmax hn' ⟨σ4, hk25.trans hk4, by rw [hnx, step false (by rw [hP, d1]; rfl)]⟩
      | true =>
        (repeat (with_reducible first | refine Z2 ?_ | refine Z1 ?_ | refine Y8 ?_ | refine Z3 ?_ | refine Z8 ?_ | refine J0 ?_ | refine Y9 ?_ | refine Z0 ?_ | refine W4 ?_ | refine Z9 ?_ | refine U3 ?_))
        refine ld hs5 hq95 rfl ?_
        (repeat (with_reducible first | refine Z2 ?_ | refine Z1 ?_ | refine Y8 ?_ | refine Z3 ?_ | refine Z8 ?_ | refine J0 ?_ | refine Y9 ?_ | refine Z0 ?_ | refine W4 ?_ | refine Z9 ?_ | refine U3 ?_))
        have tail2 : ∀ b1 : Bool, b1 = (!c.methods[n].abs || c.abs) → Uq c n = (b1 && (!c.iface || c.methods[n].abs)) := fun b1 e => by rw [hP, d1, e]; rfl
        cases d2 : c.methods[n].abs with
        | false =>
          rw [d2] at tail2 hq95
          simp only [Bool.not_true, Bool.not_false]
          (repeat (with_reducible first | refine Z2 ?_ | refine Z1 ?_ | refine Y8 ?_ | refine Z3 ?_ | refine Z8 ?_ | refine J0 ?_ | refine Y9 ?_ | refine Z0 ?_ | refine W4 ?_ | refine Z9 ?_ | refine U3 ?_))
          refine ld hs5 hq5 rfl ?_
          (repeat (with_reducible first | refine Z2 ?_ | refine Z1 ?_ | refine Y8 ?_ | refine Z3 ?_ | refine Z8 ?_ | refine J0 ?_ | refine Y9 ?_ | refine Z0 ?_ | refine W4 ?_ | refine Z9 ?_ | refine U3 ?_))
          cases d4 : c.iface with
          | false =>
            simp only [Bool.not_true, Bool.not_false]
            (repeat (with_reducible first | refine Z2 ?_ | refine Z1 ?_ | refine Y8 ?_ | refine Z3 ?_ | refine Z8 ?_ | refine J0 ?_ | refine Y9 ?_ | refine Z0 ?_ | refine W4 ?_ | refine Z9 ?_ | refine U3 ?_))
            refine Dd hs5 hq5 g35 hn' (by rw [d2]; exact hq95) fun w4 σ4 hk4 => ?_
            exact Z6 hmax hn' ⟨σ4, hk25.trans hk4, by rw [hnx, step true (by rw [tail2 true rfl, d4]; rfl)]⟩
          | true =>
            simp only [Bool.not_true, Bool.not_false]
            (repeat (with_reducible first | refine Z2 ?_ | refine Z1 ?_ | refine Y8 ?_ | refine Z3 ?_ | refine Z8 ?_ | refine J0 ?_ | refine Y9 ?_ | refine Z0 ?_ | refine W4 ?_ | refine Z9 ?_ | refine U3 ?_))
            refine ld hs5 hq95 rfl ?_
            (repeat (with_reducible first | refine Z2 ?_ | refine Z1 ?_ | refine Y8 ?_ | refine Z3 ?_ | refine Z8 ?_ | refine J0 ?_ | refine Y9 ?_ | refine Z0 ?_ | refine W4 ?_ | refine Z9 ?_ | refine U3 ?_))
            refine Dd hs5 hq5 g35 hn' (by rw [d2]; exact hq95) fun w4 σ4 hk4 => ?_
            exact Z6 hmax hn' ⟨σ4, hk25.trans hk4, by rw [hnx, step false (by rw [tail2 true rfl, d4]; rfl)]⟩
        | true =>
          rw [d2] at tail2 hq95
          simp only [Bool.not_true, Bool.not_false]
          (repeat (with_reducible first | refine Z2 ?_ | refine Z1 ?_ | refine Y8 ?_ | refine Z3 ?_ | refine Z8 ?_ | refine J0 ?_ | refine Y9 ?_ | refine Z0 ?_ | refine W4 ?_ | refine Z9 ?_ | refine U3 ?_))
          refine ld hs5 hq5 rfl ?_
          cases d3 : c.abs with
          | false =>
            (repeat (with_reducible first | refine Z2 ?_ | refine Z1 ?_ | refine Y8 ?_ | refine Z3 ?_ | refine Z8 ?_ | refine J0 ?_ | refine Y9 ?_ | refine Z0 ?_ | refine W4 ?_ | refine Z9 ?_ | refine U3 ?_))
            refine Dd hs5 hq5 g35 hn' (by rw [d2]; exact hq95) fun w4 σ4 hk4 => ?_
            exact Z6 hmax hn' ⟨σ4, hk25.trans hk4, by rw [hnx, step false (by rw [tail2 false (by rw [d3]; rfl)]; rfl)]⟩
          | true =>
            (repeat (with_reducible first | refine Z2 ?_ | refine Z1 ?_ | refine Y8 ?_ | refine Z3 ?_ | refine Z8 ?_ | refine J0 ?_ | refine Y9 ?_ | refine Z0 ?_ | refine W4 ?_ | refine Z9 ?_ | refine U3 ?_))
            refine ld hs5 hq5 rfl ?_
            (repeat (with_reducible first | refine Z2 ?_ | refine Z1 ?_ | refine Y8 ?_ | refine Z3 ?_ | refine Z8 ?_ | refine J0 ?_ | refine Y9 ?_ | refine Z0 ?_ | refine W4 ?_ | refine Z9 ?_ | refine U3 ?_))
            cases d4 : c.iface with
            | false =>
              simp only [Bool.not_true, Bool.not_false]
              (repeat (with_reducible first | refine Z2 ?_ | refine Z1 ?_ | refine Y8 ?_ | refine Z3 ?_ | refine Z8 ?_ | refine J0 ?_ | refine Y9 ?_ | refine Z0 ?_ | refine W4 ?_ | refine Z9 ?_ | refine U3 ?_))
              refine Dd hs5 hq5 g35 hn' (by rw [d2]; exact hq95) fun w4 σ4 hk4 => ?_
              exact Z6 hmax hn' ⟨σ4, hk25.trans hk4, by rw [hnx, step true (by rw [tail2 true (by rw [d3]; rfl), d4]; rfl)]⟩
            | true =>
              simp only [Bool.not_true, Bool.not_false]
              (repeat (with_reducible first | refine Z2 ?_ | refine Z1 ?_ | refine Y8 ?_ | refine Z3 ?_ | refine Z8 ?_ | refine J0 ?_ | refine Y9 ?_ | refine Z0 ?_ | refine W4 ?_ | refine Z9 ?_ | refine U3 ?_))
              refine ld hs5 hq95 rfl ?_
              (repeat (with_reducible first | refine Z2 ?_ | refine Z1 ?_ | refine Y8 ?_ | refine Z3 ?_ | refine Z8 ?_ | refine J0 ?_ | refine Y9 ?_ | refine Z0 ?_ | refine W4 ?_ | refine Z9 ?_ | refine U3 ?_))
              refine Dd hs5 hq5 g35 hn' (by rw [d2]; exact hq95) fun w4 σ4 hk4 => ?_
              exact Z6 hmax hn' ⟨σ4, hk25.trans hk4, by rw [hnx, step true (by rw [tail2 true (by rw [d3]; rfl), d4]; rfl)]⟩
  · have hn' : ¬ n < c.methods.length := by simpa using hc
    obtain rfl : n = c.methods.length := by omega
    exact h _ _ hk2
theorem Q8u {c : Cla} {lv fv mv : Value} {w1 : World} {σ1 : Q5} {q : Addr} {ok : Bool} (hs1 : X6 w1 σ1) (hq : U0 σ1 q [S c.name, S c.super, lv, .bool c.iface, .bool c.abs, .bool c.fin, fv, mv]) (h : K (.bool (ok && Q5t c)) w1) :
    Q0 (Value.bool ok) true w1 (fieldAddr P T.a (.pointer (some q)) 3) fun t177 w =>
              Q0 (Value.bool ok) true w (Q2 P T.l t177) fun t178 w =>
              Q0 (Value.bool ok) true w (U6 P .not t178) fun t179 w =>
              Q0 (Value.bool ok) true w (fun w J => J t179 w) fun t180 w =>
              Q0 t180 false w (fieldAddr P T.a (.pointer (some q)) 4) fun t181 w =>
              Q0 t180 false w (Q2 P T.l t181) fun t182 w =>
              Q0 t180 false w (fun w J => J t182 w) fun t183 w =>
              Q0 t183 true w (fieldAddr P T.a (.pointer (some q)) 1) fun t184 w =>
              Q0 t183 true w (Q2 P T.b t184) fun t185 w =>
              Q0 t183 true w (Q3 P .eql T.b (.tmp 185) (.const (.string ⟨#[79, 98, 106, 101, 99, 116]⟩)) t185 (.string ⟨#[79, 98, 106, 101, 99, 116]⟩)) fun t186 w =>
              Q0 t180 false w (pick P t183 t186 (.bool false)) fun t187 w =>
              Q0 (Value.bool ok) true w (pick P t180 (.bool true) t187) fun t188 w =>
              pick P (Value.bool ok) t188 (.bool false) w fun t189 w =>
              Q0 t189 true w (fieldAddr P T.a (.pointer (some q)) 4) fun t191 w =>
              Q0 t189 true w (Q2 P T.l t191) fun t192 w =>
              Q0 t189 true w (fun w J => J t192 w) fun t193 w =>
              Q0 t193 true w (fieldAddr P T.a (.pointer (some q)) 5) fun t194 w =>
              Q0 t193 true w (Q2 P T.l t194) fun t195 w =>
              Q0 t189 true w (pick P t193 t195 (.bool false)) fun t196 w =>
              Q0 t189 true w (U6 P .not t196) fun t197 w =>
              pick P t189 t197 (.bool false) w fun t198 w =>
              K t198 w := by
  unfold Q5t at h
  have er : decide (c.super = U4) = decide (c.super = [79, 98, 106, 101, 99, 116]) := rfl
  rw [er] at h
  cases ok with
  | false => (try simp only [↓Mm, Mm, ↓Mr, Mr, Mb, reduceIte]); simpa using h
  | true =>
    (try simp only [↓Mm, Mm, ↓Mr, Mr, Mb, reduceIte])
    refine ld hs1 hq rfl ?_
    (try simp only [↓Mm, Mm, ↓Mr, Mr, Mb, reduceIte])
    cases d1 : c.iface with
    | false =>
      rw [d1] at h
      (try simp only [↓Mm, Mm, ↓Mr, Mr, Mb, reduceIte])
      refine ld hs1 hq rfl ?_
      cases d2 : c.abs with
      | false => rw [d2] at h; (try simp only [↓Mm, Mm, ↓Mr, Mr, Mb, reduceIte]); simpa using h
      | true =>
        rw [d2] at h
        (try simp only [↓Mm, Mm, ↓Mr, Mr, Mb, reduceIte])
        refine ld hs1 hq rfl ?_
        (try simp only [↓Mm, Mm, ↓Mr, Mr, Mb, reduceIte])
        simpa using h
    | true =>
      rw [d1] at h
      (try simp only [↓Mm, Mm, ↓Mr, Mr, Mb, reduceIte])
      refine ld hs1 hq rfl ?_
      cases d2 : c.abs with
      | false => rw [d2] at h; (try simp only [↓Mm, Mm, ↓Mr, Mr, Mb, reduceIte]); simpa using h
      | true =>
        rw [d2] at h
        (try simp only [↓Mm, Mm, ↓Mr, Mr, Mb, reduceIte])
        refine ld hs1 hq rfl ?_
        (try simp only [↓Mm, Mm, ↓Mr, Mr, Mb, reduceIte])
        cases d3 : decide (c.super = [79, 98, 106, 101, 99, 116]) with
        | false => rw [d3] at h; (try simp only [↓Mm, Mm, ↓Mr, Mr, Mb, reduceIte]); simpa using h
        | true =>
          rw [d3] at h
          (try simp only [↓Mm, Mm, ↓Mr, Mr, Mb, reduceIte])
          refine ld hs1 hq rfl ?_
          simp only [d2, ↓Mm, Mm, ↓Mr, Mr, Mb, reduceIte]
          refine ld hs1 hq rfl ?_
          (try simp only [↓Mm, Mm, ↓Mr, Mr, Mb, reduceIte])
          simpa using h
end Go.Proofs.YtdnfaboigajkhaaGreatDoor

namespace Go.Proofs.YtdnfaboigajkhaaGreatDoor
open Go.Emb Go.RowKit Go.Kd Go.Hm
theorem Q3B {c : Cla} (h : L5 c = 0) : L4 c.name = true ∧ L4 c.super = true ∧ (c.iface = true → c.super = U4 ∧ c.fields = [] ∧ c.abs = true ∧ ∀ m ∈ c.methods, m.abs = true) ∧ (∀ m ∈ c.methods, m.abs = true → c.abs = true) ∧ c.fields.all Mk = true ∧ c.methods.all S3 = true ∧ E5 Fld.name [] c.fields = true ∧ E5 Hm.Met.name [] c.methods = true := by
  unfold L5 at h
  split at h
  · cases h
  split at h
  · rename_i hr
    simp only [Vm, Bool.and_eq_true] at hr
    obtain ⟨⟨⟨⟨⟨⟨⟨⟨q1, q2⟩, q3⟩, q4⟩, q5⟩, q6⟩, q7⟩, q8⟩, q9⟩ := hr
    refine ⟨List.all_eq_true.1 q1 c.name (by simp), List.all_eq_true.1 q1 c.super (by simp), fun hi => ?_, fun m hm ha => ?_, q8, q9, q6, q7⟩
    · rw [hi] at q4
      simp only [Bool.true_and, Bool.not_eq_true', Bool.or_eq_false_iff, Bool.not_eq_false', decide_eq_true_eq] at q4
      obtain ⟨⟨⟨a, b⟩, d⟩, e⟩ := q4
      refine ⟨b, d, a, fun m hm => ?_⟩
      have := List.any_eq_false.1 e m hm
      simpa using this
    · simp only [Bool.not_eq_true', Bool.or_eq_false_iff] at q5
      obtain ⟨_, q5⟩ := q5
      have h1 : c.methods.any (·.abs) = true := List.any_eq_true.2 ⟨m, hm, ha⟩
      rw [h1] at q5
      simpa using q5
  · cases h
theorem Q5f {l : List Cla} {c : Cla} (hc : c ∈ Q8 l) (hi : c.iface = true) : c ∈ l := by
  rcases List.mem_append.1 hc with h | h
  · have : ∀ c ∈ R5, c.iface = false := by decide
    rw [this c h] at hi; cases hi
  · exact h
section
variable {l : List Cla} (wf : Wf l)
include wf
theorem Wf.likes {c : Cla} (hc : c ∈ Q8 l) {u : X0} (hu : u ∈ c.like) : ∃ d, lk (Q8 l) u = some d ∧ d.iface = true := by
  rcases List.mem_append.1 hc with h | h
  · rw [(Yc c h).2.2] at hu; simp at hu
  · have := wf.up c h
    unfold uppersM at this
    split at this
    · cases this
    · split at this
      · cases this
      · rename_i hnb
        have hnb := List.any_eq_false.1 (eq_false_of_ne_true hnb) u hu
        unfold N0 at hnb
        cases hd : lk (Q8 l) u with
        | none => rw [hd] at hnb; simp at hnb
        | some d => rw [hd] at hnb; exact ⟨d, rfl, by simpa using hnb⟩
theorem Wf.above_iface {u b : X0} (h : Hm.Reach (lk (Q8 l)) u b) : ∀ d, lk (Q8 l) u = some d → d.iface = true → b = U4 ∨ ∃ e, lk (Q8 l) b = some e ∧ e.iface = true := by
  induction h with
  | refl h => intro d hd hi; exact .inr ⟨d, hd, hi⟩
  | step hc hu hr ih =>
    intro d hd hi
    rw [hc] at hd; cases hd
    obtain ⟨e, hm, _⟩ := V6 hc
    rcases List.mem_cons.1 hu with rfl | hu
    · rw [((Q3B (wf.ck _ (Q5f hm hi))).2.2.1 hi).1] at hr
      exact .inl (wf.atRoot hr)
    · obtain ⟨f, hf, hfi⟩ := wf.likes hm hu
      exact ih f hf hfi
theorem Wf.by_chain {n b : X0} (h : Hm.Reach (lk (Q8 l)) n b) : ∀ e, lk (Q8 l) b = some e → e.iface = false → b ≠ U4 → e ∈ chain (Q8 l) n := by
  induction h with
  | refl h =>
    intro e he _ _
    rw [F7 wf.acy, he]; simp
  | step hc hu hr ih =>
    intro e he hi hb
    obtain ⟨en, hm, _⟩ := V6 hc
    rcases List.mem_cons.1 hu with rfl | hu
    · rw [F7 wf.acy, hc]
      exact List.mem_cons_of_mem _ (ih e he hi hb)
    · obtain ⟨f, hf, hfi⟩ := wf.likes hm hu
      rcases wf.above_iface hr f hf hfi with h | ⟨g, hg, hgi⟩
      · exact absurd h hb
      · rw [he] at hg; cases hg; rw [hi] at hgi; cases hgi
theorem Wf.chain_tail : ∀ (k : Nat) {n : X0} {c : Cla}, H7 (Q8 l) n < k → c ∈ chain (Q8 l) n → ∃ pre, chain (Q8 l) n = pre ++ chain (Q8 l) c.name := by
  intro k
  induction k with
  | zero => intro n c h; omega
  | succ k ih =>
    intro n c hk hc
    rw [F7 wf.acy] at hc
    cases hd : lk (Q8 l) n with
    | none => rw [hd] at hc; simp at hc
    | some d =>
      rw [hd] at hc
      have hdn := (V6 hd).1
      rcases List.mem_cons.1 hc with rfl | hc
      · exact ⟨[], by rw [hdn]; rfl⟩
      · cases he : lk (Q8 l) d.super with
        | none => rw [Qk he] at hc; simp at hc
        | some e =>
          have hu : d.super ∈ U9 d := by simp [U9]
          obtain ⟨pre, h1⟩ := ih (by have := B8 wf.acy hd hu he; omega) hc
          exact ⟨d :: pre, by rw [F7 wf.acy, hd]; show d :: chain (Q8 l) d.super = _; rw [h1]; rfl⟩
theorem Wf.fields_tail {n : X0} {c : Cla} (h : c ∈ chain (Q8 l) n) : ∃ post, fieldsM (Q8 l) n = fieldsM (Q8 l) c.name ++ post := by
  obtain ⟨pre, h1⟩ := wf.chain_tail _ (Nat.lt_succ_self _) h
  exact ⟨pre.reverse.flatMap (·.fields), by unfold fieldsM; rw [h1]; simp⟩
theorem Wf.none_nil : lk (Q8 l) [] = none := by
  cases h : lk (Q8 l) [] with
  | none => rfl
  | some c => exact absurd (wf.lkn h) (by decide)
theorem Wf.fault_fields : fieldsM (Q8 l) L3 = [⟨I8, C3, false⟩] := by
  unfold fieldsM
  rw [F7 wf.acy, wf.fault]
  simp only
  rw [F7 wf.acy, wf.root]
  simp only
  rw [Qk wf.none_nil]
  rfl
theorem Wf.what {n : X0} (h : subM (Q8 l) n L3 = true) {c : Cla} (hn : lk (Q8 l) n = some c) : placeM (Q8 l) n I8 = some 0 := by
  have hr := (wf.sub_class hn).1 h
  have hm := wf.by_chain hr _ wf.fault rfl (by decide)
  obtain ⟨post, hp⟩ := wf.fields_tail hm
  unfold placeM
  rw [hp, show (Cla.mk L3 U4 [] false false false [⟨I8, C3, false⟩] []).name = L3 from rfl, wf.fault_fields]
  rfl
end
end Go.Proofs.YtdnfaboigajkhaaGreatDoor

namespace Go.Hm
open Go.Kd
end Go.Hm
namespace Go.Proofs.YtdnfaboigajkhaaGreatDoor
open Go.Emb Go.RowKit Go.Kd Go.Hm
section
variable {l : List Cla} (wf : Wf l)
include wf
end
end Go.Proofs.YtdnfaboigajkhaaGreatDoor
namespace Go.Proofs.YtdnfaboigajkhaaGreatDoor
open Go.Emb Go.RowKit Go.Kd Go.Hm
end Go.Proofs.YtdnfaboigajkhaaGreatDoor
namespace Go.Proofs.YtdnfaboigajkhaaGreatDoor
open Go.Emb Go.RowKit Go.Kd Go.Hm
section
variable {l : List Cla} (wf : Wf l)
include wf
end
end Go.Proofs.YtdnfaboigajkhaaGreatDoor

namespace Go.Proofs.YtdnfaboigajkhaaGreatDoor
open Go.Emb Go.RowKit Go.Kd Go.Hm
variable {w : World} {K : Value → World → Prop} {σ : Q5}
def Q2u (c : Cla) : Bool := ((((L4 c.name && L4 c.super && !decide (c.name = c.super)) && (List.range c.like.length).all fun i => Wc c i && (List.range i).all (G1 c i)) && (List.range c.fields.length).all fun i => Lp c i && (List.range i).all (T2 c i)) && (List.range c.methods.length).all fun i => Uq c i && (List.range i).all (A0 c i)) && Q5t c
theorem Q6P {α : Type} {f : α → X0} : ∀ (xs seen : List α), E5 f seen xs = true ↔ (xs.map f).Nodup ∧ ∀ x ∈ xs, ∀ y ∈ seen, f y ≠ f x := by
  intro xs
  induction xs with
  | nil => intro seen; simp [E5]
  | cons x r ih =>
    intro seen
    simp only [E5, Bool.and_eq_true, ih, Bool.not_eq_true', List.map_cons, List.nodup_cons]
    rw [← Bool.not_eq_true, List.any_eq_true]
    simp only [decide_eq_true_eq, not_exists, not_and, List.mem_append, List.mem_cons, List.not_mem_nil, or_false, List.mem_map]
    constructor
    · rintro ⟨h1, h2, h3⟩
      refine ⟨⟨fun y hy e => h3 y hy x (.inr rfl) e.symm, h2⟩, fun y hy z hz => ?_⟩
      rcases hy with rfl | hy
      · exact h1 z hz
      · exact h3 y hy z (.inl hz)
    · rintro ⟨⟨h1, h2⟩, h3⟩
      refine ⟨fun y hy => h3 x (.inl rfl) y hy, h2, fun y hy z hz => ?_⟩
      rcases hz with hz | rfl
      · exact h3 y (.inr hy) z hz
      · exact fun e => h1 y hy e.symm
theorem Il {α : Type} {f : α → X0} {xs : List α} {p : α → Bool} {P : Nat → Bool} {Q : Nat → Nat → Bool} (hP : ∀ i (h : i < xs.length), P i = p xs[i]) (hQ : ∀ i (h : i < xs.length) k (h' : k < xs.length), Q i k = !decide (f xs[k] = f xs[i])) :
    ((List.range xs.length).all fun i => P i && (List.range i).all (Q i)) = true ↔ (∀ x ∈ xs, p x = true) ∧ E5 f [] xs = true := by
  rw [Q6P, List.all_eq_true]
  simp only [List.mem_range, Bool.and_eq_true, List.all_eq_true, List.not_mem_nil, false_implies, implies_true, and_true]
  rw [List.nodup_iff_pairwise_ne, List.pairwise_iff_getElem]
  simp only [List.length_map, List.getElem_map]
  constructor
  · intro h
    refine ⟨fun x hx => ?_, fun i j hi hj hij => ?_⟩
    · obtain ⟨i, hi, rfl⟩ := List.getElem_of_mem hx
      rw [← hP i hi]; exact (h i hi).1
    · have := (h j hj).2 i hij
      rw [hQ j hj i hi] at this
      simpa using this
  · rintro ⟨h1, h2⟩ i hi
    refine ⟨by rw [hP i hi]; exact h1 _ (List.getElem_mem hi), fun k hk => ?_⟩
    rw [hQ i hi k (by omega)]
    simpa using h2 k i (by omega) hi hk
theorem Q75 (c : Cla) : Q2u c = Vm c := by
  have hl := Il (f := id) (xs := c.like) (p := fun y => L4 y && !decide (y = c.name)) (P := Wc c) (Q := G1 c) (fun i h => by unfold Wc; rw [E1 h]) (fun i h k h' => by unfold G1; rw [E1 h, E1 h']; rfl)
  have hf := Il (f := Fld.name) (xs := c.fields) (p := fun f => M7 f.name && right f.kind && !c.iface) (P := Lp c) (Q := T2 c) (fun i h => by unfold Lp Er; rw [E1 h]) (fun i h k h' => by unfold T2 Er; rw [E1 h, E1 h'])
  have hm := Il (f := Hm.Met.name) (xs := c.methods) (p := fun m => S3 m && (!m.abs || c.abs) && (!c.iface || m.abs)) (P := Uq c) (Q := A0 c) (fun i h => by unfold Uq Np; rw [E1 h]) (fun i h k h' => by unfold A0 Np; rw [E1 h, E1 h'])
  rw [Bool.eq_iff_iff]
  unfold Q2u Vm Q5t
  simp only [Bool.and_eq_true, hl, hf, hm]
  simp only [Bool.and_eq_true, Bool.not_eq_true', Bool.or_eq_true, Bool.and_eq_false_iff, Bool.or_eq_false_iff, decide_eq_true_eq, decide_eq_false_iff_not, List.all_eq_true, List.mem_cons, List.any_eq_false, Mk, Bool.not_eq_false']
  constructor
  · rintro ⟨⟨⟨⟨⟨⟨h1, h2⟩, h3⟩, h4, h5⟩, h6, h7⟩, h8, h9⟩, h10, h11⟩
    refine ⟨⟨⟨⟨⟨⟨⟨⟨?_, ?_⟩, h5⟩, ?_⟩, h11, ?_⟩, h7⟩, h9⟩, ?_⟩, fun m hm => (h8 m hm).1.1⟩
    · rintro x (rfl | rfl | hx)
      · exact h1
      · exact h2
      · exact (h4 x hx).1
    · rintro x (rfl | hx)
      · exact h3
      · exact fun e => (h4 x hx).2 e.symm
    · cases hi : c.iface with
      | false => exact .inl rfl
      | true =>
        rw [hi] at h10 h6 h8
        have h10 := h10.resolve_left (by decide)
        refine .inr ⟨⟨h10, ?_⟩, fun m hm e => ?_⟩
        · rw [List.eq_nil_iff_forall_not_mem]
          intro f hf
          exact absurd (h6 f hf).2 (by decide)
        · have := (h8 m hm).2.resolve_left (by decide)
          rw [this] at e; cases e
    · cases ha : c.abs with
      | true => exact .inr rfl
      | false =>
        rw [ha] at h8
        refine .inl fun m hm e => ?_
        have := (h8 m hm).1.2.resolve_right (by decide)
        rw [this] at e; cases e
    · exact fun f hf => (h6 f hf).1
  · rintro ⟨⟨⟨⟨⟨⟨⟨⟨h1, h2⟩, h3⟩, h4⟩, h5, h6⟩, h7⟩, h8⟩, h9⟩, h10⟩
    refine ⟨⟨⟨⟨⟨⟨h1 _ (.inl rfl), h1 _ (.inr (.inl rfl))⟩, h2 _ (.inl rfl)⟩, fun x hx => ⟨h1 x (.inr (.inr hx)), fun e => h2 x (.inr hx) e.symm⟩, h3⟩, fun f hf => ⟨h9 f hf, ?_⟩, h7⟩, fun m hm => ⟨⟨h10 m hm, ?_⟩, ?_⟩, h8⟩, ?_, h5⟩
    · rcases h4 with h4 | ⟨⟨_, h4⟩, _⟩
      · exact h4
      · rw [h4] at hf; simp at hf
    · rcases h6 with h6 | h6
      · left; exact eq_false_of_ne_true (h6 m hm)
      · exact .inr h6
    · rcases h4 with h4 | ⟨_, h4⟩
      · exact .inl h4
      · right
        cases hx : m.abs with
        | true => rfl
        | false => exact absurd hx (h4 m hm)
    · rcases h4 with h4 | ⟨⟨h4, _⟩, _⟩
      · exact .inl h4
      · exact .inr h4
set_option maxHeartbeats 4000000 in
theorem Q6e {c : Cla} {cs : List Value} (hs : X6 w σ) (hc : U7 σ c cs) (h : ∀ w' σ', Stp w σ w' σ' → K (.bool (Q2u c)) w') : Q1 P F.b7 [.agg cs.toArray] w K := Cj (by
  unfold Vb
  obtain ⟨lv, fv, mv, rfl, f1, f2, f3, f4, f5⟩ := hc
  have f4' : c.name.length ≤ 140737488355328 := by simp only [W3] at f4; omega
  have f5' : c.super.length ≤ 140737488355328 := by simp only [W3] at f5; omega
  refine Z4 hs fun q w1 σ1 hk1 hq => ?_
  have g1 := f1.up hk1
  have g2 := f2.up hk1
  have g3 := f3.up hk1
  have hs1 := hk1.sat
  have fin : ∀ ok : Bool, ok = (L4 c.name && L4 c.super && !decide (c.name = c.super)) → _ := fun ok e =>
    Q7d (w1 := w1) (σ1 := σ1) (ok := ok) hs1 hq (J := fun v w => lp (α := Value × Value) (v, (.int .i64 0)) w fun again16 x16 d_ w =>
        fieldAddr P T.a (.pointer (some q)) 6 w fun t72 w =>
        Q2 P T.h t72 w fun t73 w =>
        X4 P .len [T.h] T.d [false] [t73] w fun t74 w =>
        Q3 P .lss T.d (.tmp 71) (.tmp 74) x16.2 t74 w fun t75 w =>
        X1 t75 (
          Q0 x16.1 true w (fieldAddr P T.a (.pointer (some q)) 6) fun t80 w =>
          Q0 x16.1 true w (Q2 P T.h t80) fun t81 w =>
          Q0 x16.1 true w (fun w J => J x16.2 w) fun t82 w =>
          Q0 x16.1 true w (indexAddr P T.h t81 t82) fun t83 w =>
          Q0 x16.1 true w (fieldAddr P T.i t83 0) fun t84 w =>
          Q0 x16.1 true w (Q2 P T.b t84) fun t85 w =>
          Q0 x16.1 true w (Q1 P F.q [t85]) fun t86 w =>
          pick P x16.1 t86 (.bool false) w fun t87 w =>
          Q0 t87 true w (fieldAddr P T.a (.pointer (some q)) 6) fun t89 w =>
          Q0 t87 true w (Q2 P T.h t89) fun t90 w =>
          Q0 t87 true w (fun w J => J x16.2 w) fun t91 w =>
          Q0 t87 true w (indexAddr P T.h t90 t91) fun t92 w =>
          Q0 t87 true w (fieldAddr P T.i t92 1) fun t93 w =>
          Q0 t87 true w (Q2 P T.b t93) fun t94 w =>
          Q0 t87 true w (Q1 P F.i [t94]) fun t95 w =>
          pick P t87 t95 (.bool false) w fun t96 w =>
          Q0 t96 true w (fieldAddr P T.a (.pointer (some q)) 3) fun t98 w =>
          Q0 t96 true w (Q2 P T.l t98) fun t99 w =>
          Q0 t96 true w (U6 P .not t99) fun t100 w =>
          pick P t96 t100 (.bool false) w fun t101 w =>
          lp (α := Value × Value) (t101, (.int .i64 0)) w fun again22 x22 d_ w =>
            Q3 P .lss T.d (.tmp 102) (.tmp 103) x22.2 x16.2 w fun t104 w =>
            X1 t104 (
              dr w fun Tr Br =>
              Q7 Tr (fun φ109 => ∀ w : World, Br w → Q0 x22.1 true w (fieldAddr P T.a (.pointer (some q)) 6) (dk Tr φ109 w)) fun φ109 =>
              Q7 Tr (fun φ111 => ∀ w : World, Br w → Q0 x22.1 true w (fun w J => J x22.2 w) (dk Tr φ111 w)) fun φ111 =>
              Q7 Tr (fun φ115 => ∀ w : World, Br w → Q0 x22.1 true w (fieldAddr P T.a (.pointer (some q)) 6) (dk Tr φ115 w)) fun φ115 =>
              Q7 Tr (fun φ117 => ∀ w : World, Br w → Q0 x22.1 true w (fun w J => J x16.2 w) (dk Tr φ117 w)) fun φ117 =>
              Q7 Tr (fun φ110 => ∀ t109 : Value, ∀ w : World, Br w → φ109 t109 w → Q0 x22.1 true w (Q2 P T.h t109) (dk Tr φ110 w)) fun φ110 =>
              Q7 Tr (fun φ112 => ∀ t110 : Value, ∀ t111 : Value, ∀ w : World, Br w → φ110 t110 w → φ111 t111 w → Q0 x22.1 true w (indexAddr P T.h t110 t111) (dk Tr φ112 w)) fun φ112 =>
              Q7 Tr (fun φ113 => ∀ t112 : Value, ∀ w : World, Br w → φ112 t112 w → Q0 x22.1 true w (fieldAddr P T.i t112 0) (dk Tr φ113 w)) fun φ113 =>
              Q7 Tr (fun φ114 => ∀ t113 : Value, ∀ w : World, Br w → φ113 t113 w → Q0 x22.1 true w (Q2 P T.b t113) (dk Tr φ114 w)) fun φ114 =>
              Q7 Tr (fun φ116 => ∀ t115 : Value, ∀ w : World, Br w → φ115 t115 w → Q0 x22.1 true w (Q2 P T.h t115) (dk Tr φ116 w)) fun φ116 =>
              Q7 Tr (fun φ118 => ∀ t116 : Value, ∀ t117 : Value, ∀ w : World, Br w → φ116 t116 w → φ117 t117 w → Q0 x22.1 true w (indexAddr P T.h t116 t117) (dk Tr φ118 w)) fun φ118 =>
              Q7 Tr (fun φ119 => ∀ t118 : Value, ∀ w : World, Br w → φ118 t118 w → Q0 x22.1 true w (fieldAddr P T.i t118 0) (dk Tr φ119 w)) fun φ119 =>
              Q7 Tr (fun φ120 => ∀ t119 : Value, ∀ w : World, Br w → φ119 t119 w → Q0 x22.1 true w (Q2 P T.b t119) (dk Tr φ120 w)) fun φ120 =>
              ∀ t109 : Value, ∀ t111 : Value, ∀ t115 : Value, ∀ t117 : Value, ∀ t110 : Value, ∀ t112 : Value, ∀ t113 : Value, ∀ t114 : Value, ∀ t116 : Value, ∀ t118 : Value, ∀ t119 : Value, ∀ t120 : Value, ∀ w : World, Br w → φ109 t109 w → φ111 t111 w → φ115 t115 w → φ117 t117 w → φ110 t110 w → φ112 t112 w → φ113 t113 w → φ114 t114 w → φ116 t116 w → φ118 t118 w → φ119 t119 w → φ120 t120 w → 
              Q0 x22.1 true w (Q3 P .neq T.b (.tmp 114) (.tmp 120) t114 t120) fun t121 w =>
              pick P x22.1 t121 (.bool false) w fun t122 w =>
              Q3 P .add T.d (.tmp 105) (.const (.int .i64 1)) x22.2 (.int .i64 1) w fun t106 w =>
              again22 (t122, t106) w) (
              Q3 P .add T.d (.tmp 76) (.const (.int .i64 1)) x16.2 (.int .i64 1) w fun t77 w =>
              again16 (x22.1, t77) w)) (
          lp (α := Value × Value) (x16.1, (.int .i64 0)) w fun again28 x28 d_ w =>
            fieldAddr P T.a (.pointer (some q)) 7 w fun t124 w =>
            Q2 P T.e t124 w fun t125 w =>
            X4 P .len [T.e] T.d [false] [t125] w fun t126 w =>
            Q3 P .lss T.d (.tmp 123) (.tmp 126) x28.2 t126 w fun t127 w =>
            X1 t127 (
              fieldAddr P T.a (.pointer (some q)) 7 w fun t130 w =>
              Q2 P T.e t130 w fun t131 w =>
              indexAddr P T.e t131 x28.2 w fun t133 w =>
              Q2 P T.c t133 w fun t134 w =>
              M0 P T.c w fun t9 w =>
              V5 P T.c t9 t134 w fun _u w =>
              Q0 x28.1 true w (Q2 P T.c t9) fun t137 w =>
              Q0 x28.1 true w (Q1 P F.x [t137]) fun t138 w =>
              pick P x28.1 t138 (.bool false) w fun t139 w =>
              Q0 t139 true w (fieldAddr P T.c t9 3) fun t141 w =>
              Q0 t139 true w (Q2 P T.l t141) fun t142 w =>
              Q0 t139 true w (U6 P .not t142) fun t143 w =>
              Q0 t139 true w (fun w J => J t143 w) fun t144 w =>
              Q0 t144 false w (fieldAddr P T.a (.pointer (some q)) 4) fun t145 w =>
              Q0 t144 false w (Q2 P T.l t145) fun t146 w =>
              Q0 t139 true w (pick P t144 (.bool true) t146) fun t147 w =>
              pick P t139 t147 (.bool false) w fun t148 w =>
              Q0 t148 true w (fieldAddr P T.a (.pointer (some q)) 3) fun t150 w =>
              Q0 t148 true w (Q2 P T.l t150) fun t151 w =>
              Q0 t148 true w (U6 P .not t151) fun t152 w =>
              Q0 t148 true w (fun w J => J t152 w) fun t153 w =>
              Q0 t153 false w (fieldAddr P T.c t9 3) fun t154 w =>
              Q0 t153 false w (Q2 P T.l t154) fun t155 w =>
              Q0 t148 true w (pick P t153 (.bool true) t155) fun t156 w =>
              pick P t148 t156 (.bool false) w fun t157 w =>
              lp (α := Value × Value) (t157, (.int .i64 0)) w fun again35 x35 d_ w =>
                Q3 P .lss T.d (.tmp 158) (.tmp 159) x35.2 x28.2 w fun t160 w =>
                X1 t160 (
                  dr w fun Tr Br =>
                  Q7 Tr (fun φ165 => ∀ w : World, Br w → Q0 x35.1 true w (fieldAddr P T.a (.pointer (some q)) 7) (dk Tr φ165 w)) fun φ165 =>
                  Q7 Tr (fun φ167 => ∀ w : World, Br w → Q0 x35.1 true w (fun w J => J x35.2 w) (dk Tr φ167 w)) fun φ167 =>
                  Q7 Tr (fun φ171 => ∀ w : World, Br w → Q0 x35.1 true w (fieldAddr P T.c t9 0) (dk Tr φ171 w)) fun φ171 =>
                  Q7 Tr (fun φ166 => ∀ t165 : Value, ∀ w : World, Br w → φ165 t165 w → Q0 x35.1 true w (Q2 P T.e t165) (dk Tr φ166 w)) fun φ166 =>
                  Q7 Tr (fun φ168 => ∀ t166 : Value, ∀ t167 : Value, ∀ w : World, Br w → φ166 t166 w → φ167 t167 w → Q0 x35.1 true w (indexAddr P T.e t166 t167) (dk Tr φ168 w)) fun φ168 =>
                  Q7 Tr (fun φ169 => ∀ t168 : Value, ∀ w : World, Br w → φ168 t168 w → Q0 x35.1 true w (fieldAddr P T.c t168 0) (dk Tr φ169 w)) fun φ169 =>
                  Q7 Tr (fun φ170 => ∀ t169 : Value, ∀ w : World, Br w → φ169 t169 w → Q0 x35.1 true w (Q2 P T.b t169) (dk Tr φ170 w)) fun φ170 =>
                  Q7 Tr (fun φ172 => ∀ t171 : Value, ∀ w : World, Br w → φ171 t171 w → Q0 x35.1 true w (Q2 P T.b t171) (dk Tr φ172 w)) fun φ172 =>
                  ∀ t165 : Value, ∀ t167 : Value, ∀ t171 : Value, ∀ t166 : Value, ∀ t168 : Value, ∀ t169 : Value, ∀ t170 : Value, ∀ t172 : Value, ∀ w : World, Br w → φ165 t165 w → φ167 t167 w → φ171 t171 w → φ166 t166 w → φ168 t168 w → φ169 t169 w → φ170 t170 w → φ172 t172 w → 
                  Q0 x35.1 true w (Q3 P .neq T.b (.tmp 170) (.tmp 172) t170 t172) fun t173 w =>
                  pick P x35.1 t173 (.bool false) w fun t174 w =>
                  Q3 P .add T.d (.tmp 161) (.const (.int .i64 1)) x35.2 (.int .i64 1) w fun t162 w =>
                  again35 (t174, t162) w) (
                  Q3 P .add T.d (.tmp 128) (.const (.int .i64 1)) x28.2 (.int .i64 1) w fun t129 w =>
                  again28 (x35.1, t129) w)) (
              Q0 x28.1 true w (fieldAddr P T.a (.pointer (some q)) 3) fun t177 w =>
              Q0 x28.1 true w (Q2 P T.l t177) fun t178 w =>
              Q0 x28.1 true w (U6 P .not t178) fun t179 w =>
              Q0 x28.1 true w (fun w J => J t179 w) fun t180 w =>
              Q0 t180 false w (fieldAddr P T.a (.pointer (some q)) 4) fun t181 w =>
              Q0 t180 false w (Q2 P T.l t181) fun t182 w =>
              Q0 t180 false w (fun w J => J t182 w) fun t183 w =>
              Q0 t183 true w (fieldAddr P T.a (.pointer (some q)) 1) fun t184 w =>
              Q0 t183 true w (Q2 P T.b t184) fun t185 w =>
              Q0 t183 true w (Q3 P .eql T.b (.tmp 185) (.const (.string ⟨#[79, 98, 106, 101, 99, 116]⟩)) t185 (.string ⟨#[79, 98, 106, 101, 99, 116]⟩)) fun t186 w =>
              Q0 t180 false w (pick P t183 t186 (.bool false)) fun t187 w =>
              Q0 x28.1 true w (pick P t180 (.bool true) t187) fun t188 w =>
              pick P x28.1 t188 (.bool false) w fun t189 w =>
              Q0 t189 true w (fieldAddr P T.a (.pointer (some q)) 4) fun t191 w =>
              Q0 t189 true w (Q2 P T.l t191) fun t192 w =>
              Q0 t189 true w (fun w J => J t192 w) fun t193 w =>
              Q0 t193 true w (fieldAddr P T.a (.pointer (some q)) 5) fun t194 w =>
              Q0 t193 true w (Q2 P T.l t194) fun t195 w =>
              Q0 t189 true w (pick P t193 t195 (.bool false)) fun t196 w =>
              Q0 t189 true w (U6 P .not t196) fun t197 w =>
              pick P t189 t197 (.bool false) w fun t198 w =>
              K t198 w))) f4 g1 fun w2 σ2 hk2 =>
    Q8y (J := fun v w => lp (α := Value × Value) (v, (.int .i64 0)) w fun again28 x28 d_ w =>
            fieldAddr P T.a (.pointer (some q)) 7 w fun t124 w =>
            Q2 P T.e t124 w fun t125 w =>
            X4 P .len [T.e] T.d [false] [t125] w fun t126 w =>
            Q3 P .lss T.d (.tmp 123) (.tmp 126) x28.2 t126 w fun t127 w =>
            X1 t127 (
              fieldAddr P T.a (.pointer (some q)) 7 w fun t130 w =>
              Q2 P T.e t130 w fun t131 w =>
              indexAddr P T.e t131 x28.2 w fun t133 w =>
              Q2 P T.c t133 w fun t134 w =>
              M0 P T.c w fun t9 w =>
              V5 P T.c t9 t134 w fun _u w =>
              Q0 x28.1 true w (Q2 P T.c t9) fun t137 w =>
              Q0 x28.1 true w (Q1 P F.x [t137]) fun t138 w =>
              pick P x28.1 t138 (.bool false) w fun t139 w =>
              Q0 t139 true w (fieldAddr P T.c t9 3) fun t141 w =>
              Q0 t139 true w (Q2 P T.l t141) fun t142 w =>
              Q0 t139 true w (U6 P .not t142) fun t143 w =>
              Q0 t139 true w (fun w J => J t143 w) fun t144 w =>
              Q0 t144 false w (fieldAddr P T.a (.pointer (some q)) 4) fun t145 w =>
              Q0 t144 false w (Q2 P T.l t145) fun t146 w =>
              Q0 t139 true w (pick P t144 (.bool true) t146) fun t147 w =>
              pick P t139 t147 (.bool false) w fun t148 w =>
              Q0 t148 true w (fieldAddr P T.a (.pointer (some q)) 3) fun t150 w =>
              Q0 t148 true w (Q2 P T.l t150) fun t151 w =>
              Q0 t148 true w (U6 P .not t151) fun t152 w =>
              Q0 t148 true w (fun w J => J t152 w) fun t153 w =>
              Q0 t153 false w (fieldAddr P T.c t9 3) fun t154 w =>
              Q0 t153 false w (Q2 P T.l t154) fun t155 w =>
              Q0 t148 true w (pick P t153 (.bool true) t155) fun t156 w =>
              pick P t148 t156 (.bool false) w fun t157 w =>
              lp (α := Value × Value) (t157, (.int .i64 0)) w fun again35 x35 d_ w =>
                Q3 P .lss T.d (.tmp 158) (.tmp 159) x35.2 x28.2 w fun t160 w =>
                X1 t160 (
                  dr w fun Tr Br =>
                  Q7 Tr (fun φ165 => ∀ w : World, Br w → Q0 x35.1 true w (fieldAddr P T.a (.pointer (some q)) 7) (dk Tr φ165 w)) fun φ165 =>
                  Q7 Tr (fun φ167 => ∀ w : World, Br w → Q0 x35.1 true w (fun w J => J x35.2 w) (dk Tr φ167 w)) fun φ167 =>
                  Q7 Tr (fun φ171 => ∀ w : World, Br w → Q0 x35.1 true w (fieldAddr P T.c t9 0) (dk Tr φ171 w)) fun φ171 =>
                  Q7 Tr (fun φ166 => ∀ t165 : Value, ∀ w : World, Br w → φ165 t165 w → Q0 x35.1 true w (Q2 P T.e t165) (dk Tr φ166 w)) fun φ166 =>
                  Q7 Tr (fun φ168 => ∀ t166 : Value, ∀ t167 : Value, ∀ w : World, Br w → φ166 t166 w → φ167 t167 w → Q0 x35.1 true w (indexAddr P T.e t166 t167) (dk Tr φ168 w)) fun φ168 =>
                  Q7 Tr (fun φ169 => ∀ t168 : Value, ∀ w : World, Br w → φ168 t168 w → Q0 x35.1 true w (fieldAddr P T.c t168 0) (dk Tr φ169 w)) fun φ169 =>
                  Q7 Tr (fun φ170 => ∀ t169 : Value, ∀ w : World, Br w → φ169 t169 w → Q0 x35.1 true w (Q2 P T.b t169) (dk Tr φ170 w)) fun φ170 =>
                  Q7 Tr (fun φ172 => ∀ t171 : Value, ∀ w : World, Br w → φ171 t171 w → Q0 x35.1 true w (Q2 P T.b t171) (dk Tr φ172 w)) fun φ172 =>
                  ∀ t165 : Value, ∀ t167 : Value, ∀ t171 : Value, ∀ t166 : Value, ∀ t168 : Value, ∀ t169 : Value, ∀ t170 : Value, ∀ t172 : Value, ∀ w : World, Br w → φ165 t165 w → φ167 t167 w → φ171 t171 w → φ166 t166 w → φ168 t168 w → φ169 t169 w → φ170 t170 w → φ172 t172 w → 
                  Q0 x35.1 true w (Q3 P .neq T.b (.tmp 170) (.tmp 172) t170 t172) fun t173 w =>
                  pick P x35.1 t173 (.bool false) w fun t174 w =>
                  Q3 P .add T.d (.tmp 161) (.const (.int .i64 1)) x35.2 (.int .i64 1) w fun t162 w =>
                  again35 (t174, t162) w) (
                  Q3 P .add T.d (.tmp 128) (.const (.int .i64 1)) x28.2 (.int .i64 1) w fun t129 w =>
                  again28 (x35.1, t129) w)) (
              Q0 x28.1 true w (fieldAddr P T.a (.pointer (some q)) 3) fun t177 w =>
              Q0 x28.1 true w (Q2 P T.l t177) fun t178 w =>
              Q0 x28.1 true w (U6 P .not t178) fun t179 w =>
              Q0 x28.1 true w (fun w J => J t179 w) fun t180 w =>
              Q0 t180 false w (fieldAddr P T.a (.pointer (some q)) 4) fun t181 w =>
              Q0 t180 false w (Q2 P T.l t181) fun t182 w =>
              Q0 t180 false w (fun w J => J t182 w) fun t183 w =>
              Q0 t183 true w (fieldAddr P T.a (.pointer (some q)) 1) fun t184 w =>
              Q0 t183 true w (Q2 P T.b t184) fun t185 w =>
              Q0 t183 true w (Q3 P .eql T.b (.tmp 185) (.const (.string ⟨#[79, 98, 106, 101, 99, 116]⟩)) t185 (.string ⟨#[79, 98, 106, 101, 99, 116]⟩)) fun t186 w =>
              Q0 t180 false w (pick P t183 t186 (.bool false)) fun t187 w =>
              Q0 x28.1 true w (pick P t180 (.bool true) t187) fun t188 w =>
              pick P x28.1 t188 (.bool false) w fun t189 w =>
              Q0 t189 true w (fieldAddr P T.a (.pointer (some q)) 4) fun t191 w =>
              Q0 t189 true w (Q2 P T.l t191) fun t192 w =>
              Q0 t189 true w (fun w J => J t192 w) fun t193 w =>
              Q0 t193 true w (fieldAddr P T.a (.pointer (some q)) 5) fun t194 w =>
              Q0 t193 true w (Q2 P T.l t194) fun t195 w =>
              Q0 t189 true w (pick P t193 t195 (.bool false)) fun t196 w =>
              Q0 t189 true w (U6 P .not t196) fun t197 w =>
              pick P t189 t197 (.bool false) w fun t198 w =>
              K t198 w)) hk2.sat (hq.up hk2) (g2.up hk2) fun w3 σ3 hk3 =>
    Q8g (J := fun v w => Q0 v true w (fieldAddr P T.a (.pointer (some q)) 3) fun t177 w =>
              Q0 v true w (Q2 P T.l t177) fun t178 w =>
              Q0 v true w (U6 P .not t178) fun t179 w =>
              Q0 v true w (fun w J => J t179 w) fun t180 w =>
              Q0 t180 false w (fieldAddr P T.a (.pointer (some q)) 4) fun t181 w =>
              Q0 t180 false w (Q2 P T.l t181) fun t182 w =>
              Q0 t180 false w (fun w J => J t182 w) fun t183 w =>
              Q0 t183 true w (fieldAddr P T.a (.pointer (some q)) 1) fun t184 w =>
              Q0 t183 true w (Q2 P T.b t184) fun t185 w =>
              Q0 t183 true w (Q3 P .eql T.b (.tmp 185) (.const (.string ⟨#[79, 98, 106, 101, 99, 116]⟩)) t185 (.string ⟨#[79, 98, 106, 101, 99, 116]⟩)) fun t186 w =>
              Q0 t180 false w (pick P t183 t186 (.bool false)) fun t187 w =>
              Q0 v true w (pick P t180 (.bool true) t187) fun t188 w =>
              pick P v t188 (.bool false) w fun t189 w =>
              Q0 t189 true w (fieldAddr P T.a (.pointer (some q)) 4) fun t191 w =>
              Q0 t189 true w (Q2 P T.l t191) fun t192 w =>
              Q0 t189 true w (fun w J => J t192 w) fun t193 w =>
              Q0 t193 true w (fieldAddr P T.a (.pointer (some q)) 5) fun t194 w =>
              Q0 t193 true w (Q2 P T.l t194) fun t195 w =>
              Q0 t189 true w (pick P t193 t195 (.bool false)) fun t196 w =>
              Q0 t189 true w (U6 P .not t196) fun t197 w =>
              pick P t189 t197 (.bool false) w fun t198 w =>
              K t198 w) hk3.sat ((hq.up hk2).up hk3) ((g3.up hk2).up hk3) fun w4 σ4 hk4 =>
    Q8u (K := K) hk4.sat (((hq.up hk2).up hk3).up hk4) (by rw [e]; exact h _ _ (hk1.trans (hk2.trans (hk3.trans hk4))))
  (repeat (with_reducible first | refine Z2 ?_ | refine Z1 ?_ | refine Y8 ?_ | refine Z3 ?_ | refine Z8 ?_ | refine J0 ?_ | refine Y9 ?_ | refine Z0 ?_ | refine W4 ?_ | refine Z9 ?_ | refine U3 ?_))
  refine ld hs1 hq rfl ?_
  refine A5 c.name f4' ?_
  cases d1 : L4 c.name with
  | false => (repeat (with_reducible first | refine Z2 ?_ | refine Z1 ?_ | refine Y8 ?_ | refine Z3 ?_ | refine Z8 ?_ | refine J0 ?_ | refine Y9 ?_ | refine Z0 ?_ | refine W4 ?_ | refine Z9 ?_ | refine U3 ?_)); exact fin false (by rw [d1]; rfl)
  | true =>
    (repeat (with_reducible first | refine Z2 ?_ | refine Z1 ?_ | refine Y8 ?_ | refine Z3 ?_ | refine Z8 ?_ | refine J0 ?_ | refine Y9 ?_ | refine Z0 ?_ | refine W4 ?_ | refine Z9 ?_ | refine U3 ?_))
    refine ld hs1 hq rfl ?_
    (repeat (with_reducible first | refine Z2 ?_ | refine Z1 ?_ | refine Y8 ?_ | refine Z3 ?_ | refine Z8 ?_ | refine J0 ?_ | refine Y9 ?_ | refine Z0 ?_ | refine W4 ?_ | refine Z9 ?_ | refine U3 ?_))
    refine A5 c.super f5' ?_
    cases d2 : L4 c.super with
    | false => (repeat (with_reducible first | refine Z2 ?_ | refine Z1 ?_ | refine Y8 ?_ | refine Z3 ?_ | refine Z8 ?_ | refine J0 ?_ | refine Y9 ?_ | refine Z0 ?_ | refine W4 ?_ | refine Z9 ?_ | refine U3 ?_)); exact fin false (by rw [d1, d2]; rfl)
    | true =>
      (repeat (with_reducible first | refine Z2 ?_ | refine Z1 ?_ | refine Y8 ?_ | refine Z3 ?_ | refine Z8 ?_ | refine J0 ?_ | refine Y9 ?_ | refine Z0 ?_ | refine W4 ?_ | refine Z9 ?_ | refine U3 ?_))
      refine ld hs1 hq rfl ?_
      (repeat (with_reducible first | refine Z2 ?_ | refine Z1 ?_ | refine Y8 ?_ | refine Z3 ?_ | refine Z8 ?_ | refine J0 ?_ | refine Y9 ?_ | refine Z0 ?_ | refine W4 ?_ | refine Z9 ?_ | refine U3 ?_))
      refine ld hs1 hq rfl ?_
      (repeat (with_reducible first | refine Z2 ?_ | refine Z1 ?_ | refine Y8 ?_ | refine Z3 ?_ | refine Z8 ?_ | refine J0 ?_ | refine Y9 ?_ | refine Z0 ?_ | refine W4 ?_ | refine Z9 ?_ | refine U3 ?_))
      refine Nd ?_
      (repeat (with_reducible first | refine Z2 ?_ | refine Z1 ?_ | refine Y8 ?_ | refine Z3 ?_ | refine Z8 ?_ | refine J0 ?_ | refine Y9 ?_ | refine Z0 ?_ | refine W4 ?_ | refine Z9 ?_ | refine U3 ?_))
      exact fin _ (by rw [d1, d2]; rfl))
theorem Q1a {c : Cla} {cs : List Value} (hs : X6 w σ) (hc : U7 σ c cs) (h : ∀ w' σ', Stp w σ w' σ' → K (I (L5 c)) w') : Q1 P F.b5 [.agg cs.toArray] w K := Co (by
  unfold Vn
  have hone := Rep.one (R := U7) hc
  obtain ⟨lv, fv, mv, rfl, f1, f2, f3, f4, f5⟩ := hc
  have hc : U7 σ c _ := ⟨lv, fv, mv, rfl, f1, f2, f3, f4, f5⟩
  refine Z4 hs fun q w1 σ1 hk1 hq => ?_
  unfold L5 at h
  refine Y3 hk1.sat hq rfl ?_
  refine Q6O hk1.sat (H2 hc ⟨hk1.le⟩) fun w2 σ2 hk2 => ?_
  cases hm : Xe c with
  | true => simp only [hm, if_true] at h; (try simp only [↓Mm, Mm, ↓Mr, Mr, Mb, reduceIte]); exact h _ _ (hk1.trans hk2)
  | false =>
    simp only [hm, Bool.false_eq_true, if_false] at h
    (try simp only [↓Mm, Mm, ↓Mr, Mr, Mb, reduceIte])
    refine Y3 hk2.sat (hq.up hk2) rfl ?_
    refine Q6e hk2.sat (H2 hc ⟨(hk1.trans hk2).le⟩) fun w3 σ3 hk3 => ?_
    rw [Q75]
    cases hr : Vm c with
    | true => simp only [hr, if_true] at h; (try simp only [↓Mm, Mm, ↓Mr, Mr, Mb, reduceIte]); exact h _ _ (hk1.trans (hk2.trans hk3))
    | false => simp only [hr, Bool.false_eq_true, if_false] at h; (try simp only [↓Mm, Mm, ↓Mr, Mr, Mb, reduceIte]); exact h _ _ (hk1.trans (hk2.trans hk3)))
end Go.Proofs.YtdnfaboigajkhaaGreatDoor

namespace Go.Emb
open Go.RowKit Go.Hm
end Go.Emb
namespace Go.Hm
theorem Mu {α : Type} {f : α → Int} : ∀ {l : List α} {i j : Nat} {e : Int}, L8 f l i = some (j, e) → e ≠ 0
  | [], _, _, _, h => by cases h
  | x :: r, i, j, e, h => by
    simp only [L8] at h
    split at h
    · exact Mu h
    · rename_i h0; cases h; exact h0
theorem Q2U {ck : Cla → Int} {l : List Cla} {i e : Int} (h : Yt ck l = some (i, e)) : e ≠ 0 := by
  unfold Yt at h
  split at h
  · rename_i h1; cases h; exact Mu h1
  split at h
  · cases h; decide
  split at h
  · rename_i h1; cases h; exact Mu h1
  split at h
  · cases h; decide
  split at h
  · rename_i h1
    cases h
    have := List.find?_some h1
    simp only [Bool.not_eq_true', decide_eq_false_iff_not] at this
    omega
  · cases h
end Go.Hm
namespace Go.Proofs.YtdnfaboigajkhaaGreatDoor
open Go.Emb Go.RowKit Go.Kd Go.Hm
variable {w : World} {K : Value → World → Prop} {σ : Q5} {l : List Cla}
theorem Q9I {lv : Value} (hs : X6 w σ) (hg : Glb σ) (hl : Sl 8 U7 σ lv l) (hf : (!K5 l) = false)
    (k1 : ∀ i e w' σ', Yt L5 l = some (i, e) → ¬ e = 0 → Stp w σ w' σ' → K (.tuple #[.pointer none, I i, I e]) w')
    (k0 : ∀ a w' σ', Yt L5 l = none → Wf l → Ok (Q8 l) → Stp w σ w' σ' → Tab σ' (.pointer (some a)) (Q8 l) → K (.tuple #[.pointer (some a), I 0, I 0]) w') : Q1 P F.bK [lv] w K := by
  have hf' : K5 l = true := by simpa using hf
  refine Q7s hs hg hl (by have := (Iy hf').1; omega) (Q65 hf') (fun i e w' σ' hn hk => k1 i e w' σ' hn (Q2U hn) hk) fun v w' σ' hn hk ht ok own => ?_
  obtain ⟨a, _, _, _, rfl, _⟩ := ht.ex
  exact k0 a w' σ' hn (Q9x hn) ok hk ht
end Go.Proofs.YtdnfaboigajkhaaGreatDoor

namespace Go.Hm
open Go.Kd
structure Alike (l m : List Cla) : Prop where
  lk : lk l = lk m
  len : l.length = m.length
  weigh : weigh l [] = weigh m []
section
variable {l m : List Cla} (h : Alike l m)
include h
theorem Alike.visits (n : X0) : visits l n = visits m n := by unfold Hm.visits; rw [h.lk, h.weigh]
theorem Alike.hasM (n : X0) : hasM l n = hasM m n := by rw [Ro, Ro, h.lk]
theorem Alike.kindM (s : X0) : kindM l s = kindM m s := by unfold Hm.kindM; rw [h.hasM]
theorem Alike.subM (a b : X0) : subM l a b = subM m a b := by unfold Hm.subM; rw [h.kindM a, h.kindM b, h.visits]
theorem Alike.chain (n : X0) : chain l n = chain m n := by unfold Hm.chain; rw [h.lk, h.len]
theorem Alike.fieldsM (n : X0) : fieldsM l n = fieldsM m n := by unfold Hm.fieldsM; rw [h.chain]
theorem Alike.placeM (n f : X0) : placeM l n f = placeM m n f := by unfold Hm.placeM; rw [h.fieldsM]
theorem Alike.methodM (k n : X0) : methodM l k n = methodM m k n := by unfold Hm.methodM; rw [h.chain, h.lk, h.len]
theorem Alike.printM (n : X0) : printM l n = printM m n := by unfold Hm.printM; rw [h.lk, h.len]
theorem Alike.thereM (s : X0) : thereM l s = thereM m s := by unfold Hm.thereM; rw [h.kindM]
theorem Alike.uppersM (c : Cla) : uppersM l c = uppersM m c := by
  have e1 : N0 l = N0 m := by funext n; unfold N0; rw [h.lk]
  unfold Hm.uppersM F8; rw [h.lk, e1]
theorem Alike.loopsM (c : Cla) : loopsM l c = loopsM m c := by
  have e : (fun n => (Hm.visits l n).contains c.name) = fun n => (Hm.visits m n).contains c.name := by funext n; rw [h.visits]
  unfold Hm.loopsM; rw [e]
theorem Alike.allMets (n : X0) : allMets l n = allMets m n := by unfold Hm.allMets; rw [h.visits, h.lk]
theorem Alike.membersM (c : Cla) : membersM l c = membersM m c := by
  have e1 : C9 l c = C9 m c := by
    have : (fun f : Fld => (Hm.placeM l c.super f.name).isSome) = fun f => (Hm.placeM m c.super f.name).isSome := by funext f; rw [h.placeM]
    unfold C9; rw [this]
  have e0 : Hm.thereM l = Hm.thereM m := by funext s; exact h.thereM s
  have e2 : E0 l c = E0 m c := by unfold E0; rw [e0]
  have e3 : B9 l c = B9 m c := by unfold B9; rw [h.allMets]
  have e4 : Qf l c = Qf m c := by
    have : (fun x : Hm.Met => F9 l c.name x.name) = fun x => F9 m c.name x.name := by funext x; unfold F9; rw [h.methodM]
    unfold Qf; rw [h.allMets, this]
  unfold Hm.membersM; rw [e1, e2, e3, e4]
end
theorem Q85 {l : List Cla} {frm : Nat} : ∀ (f : Nat) (out : List Nat) (i : Nat), ∀ y ∈ F4 l frm f out i, y ∈ out ∨ frm ≤ y := by
  intro f
  induction f with
  | zero => intro out i y hy; exact .inl hy
  | succ f ih =>
    intro out i y hy
    simp only [F4] at hy
    split at hy
    · exact .inl hy
    · split at hy
      · exact .inl hy
      · rename_i h1 _
        rcases List.mem_append.1 hy with hy | hy
        · exact Ui (p := fun y => frm ≤ y) _ _ (fun b x _ z hz => ih b _ z hz) y hy
        · simp at hy; omega
theorem Q6U {all : List Cla} (ho : B5 all) : ∀ j ∈ W0 all 8, 8 ≤ j ∧ j < all.length := by
  intro j hj
  unfold W0 at hj
  have h1 := Ui (p := fun y => 8 ≤ y) _ _ (fun b x _ z hz => Q85 _ b x z hz) j hj
  have h2 := Ui (p := fun y => y < all.length) _ _ (fun b x hx z hz => (Q3o ho (by omega) _ b x (by
    have := List.mem_of_mem_drop hx
    simpa using this) z hz).imp id (·.1)) j hj
  exact ⟨h1.resolve_left (by simp), h2.resolve_left (by simp)⟩
end Go.Hm
namespace Go.Proofs.YtdnfaboigajkhaaGreatDoor
open Go.Emb Go.RowKit Go.Kd Go.Hm
end Go.Proofs.YtdnfaboigajkhaaGreatDoor

namespace Go.Hm
open Go.Kd
theorem Q5y {all : List Cla} {m : Nat} (hm : m < all.length) : Y7 all (Y1 all m) = some m ↔ Y7 (all.take m) (Y1 all m) = none := by
  have hn : Y1 all m = all[m].name := by unfold Y1; rw [List.getD_eq_getElem?_getD, List.getElem?_eq_getElem hm]; rfl
  unfold Y7
  rw [List.findIdx?_eq_some_iff_getElem, List.findIdx?_eq_none_iff]
  constructor
  · rintro ⟨h1, h2, h3⟩ c hc
    obtain ⟨j, hj, rfl⟩ := List.mem_take_iff_getElem.1 hc
    simpa using h3 j (by omega)
  · intro h
    refine ⟨hm, by simp [hn], fun j hj => ?_⟩
    simpa using h all[j] (List.mem_take_iff_getElem.2 ⟨j, by omega, rfl⟩)
theorem Q4U {all : List Cla} (ho : B5 all) {m : Nat} (hm : m < all.length) : Zf all (Y1 all m) (Y1 all m) = loopsM all all[m] := by
  have hn : Y1 all m = all[m].name := by unfold Y1; rw [List.getD_eq_getElem?_getD, List.getElem?_eq_getElem hm]; rfl
  unfold Zf loopsM
  rw [A6 ho hm, List.getD_eq_getElem?_getD, List.getElem?_eq_getElem hm]
  simp only [Option.getD_some, hn]
end Go.Hm
namespace Go.Proofs.YtdnfaboigajkhaaGreatDoor
open Go.Emb Go.RowKit Go.Kd Go.Hm
variable {w : World} {K : Value → World → Prop} {σ : Q5} {l : List Cla}
theorem Q5a : ∀ c ∈ R5, Xe c = false := by decide
theorem Q5w {c : Cla} (h : L5 c = 0) : Xe c = false := by
  unfold L5 at h
  split at h
  · cases h
  · rename_i hm; exact eq_false_of_ne_true hm
set_option maxHeartbeats 4000000 in
theorem Q7X {lv : Value} (hs : X6 w σ) (hl : Sl 8 U7 σ lv l) (hlen : l.length ≤ 900)
    (h1 : ∀ i e w' σ', Yt L5 l = some (i, e) → Stp w σ w' σ' → K (.tuple #[.slice none 0 0, I i, I e]) w')
    (h0 : ∀ v w' σ', Yt L5 l = none → Stp w σ w' σ' → Sl 8 U7 σ' v (Q8 l) → Ok (Q8 l) → B5 (Q8 l) → K (.tuple #[v, I 0, I 0]) w') : Q1 P F.aJ [lv] w K := Kb (by
  unfold Lz
  have hgl : R5.length = 8 := rfl
  have hal : (Q8 l).length = 8 + l.length := by simp [Q8, hgl]
  refine Q6p hs fun x0 w1 σ1 hk1 ha1 => ?_
  refine Q2g ha1 ?_
  rw [hgl]
  refine N1 l.length (fun n x w' => ∃ σ', Stp w σ w' σ' ∧ W5 w.heap.size T.a 8 U7 σ' w' x (R5 ++ l.take n) ∧ L8 L5 l 0 = L8 L5 (l.drop n) n)
    ⟨σ1, hk1, by simpa using ha1, rfl⟩ fun n x w4 d hn hinv => ?_
  obtain ⟨σ4, hS4, ha4, hfb⟩ := hinv
  have hl4 := hl.up hS4
  refine Q6 hl4 ?_
  refine Z5 ?_
  refine Q4 (fun hh => ?_) (fun hh => ?_)
  · have hn' : n < l.length := by simpa using hh
    obtain ⟨lv1, fv1, mv1, p1, r1⟩ := hl4.elC hn'
    refine Y4 hl4 hn' ?_
    refine Y3 hS4.sat p1 rfl ?_
    refine Q1a hS4.sat r1 fun w6 σ6 hk6 => ?_
    have hS6 := hS4.trans hk6
    have hfb2 := Jj hn' hfb
    refine Na ?_
    refine Q4 (fun hh2 => ?_) (fun hh2 => ?_)
    · have hne : ¬ L5 l[n] = 0 := by simpa using hh2
      rw [if_neg hne] at hfb2
      refine h1 _ _ _ _ ?_ hS6
      unfold Yt
      rw [hfb2]
    · have hz : L5 l[n] = 0 := by simpa using hh2
      rw [if_pos hz] at hfb2
      refine Y4 (hl4.up hk6) hn' ?_
      refine Y3 hk6.sat (p1.up hk6) rfl ?_
      have ha6 := ha4.up hk6
      have r6 := H2 r1 ⟨hk6.le⟩
      refine Ys (R := U7) (x := l[n]) hS6 ha6 (by simpa [Value.cells] using r6) rfl rfl rfl (by simp [hgl]; omega) (by simp [hgl]; omega) fun s v' w9 σ9 hnx hS9 ha9 hat => ?_
      refine O5 ?_
      refine Z6 hl4.max hn' ⟨σ9, hS9, ?_, hfb2⟩
      rw [List.take_add_one, List.getElem?_eq_getElem hn', ← List.append_assoc]
      exact ha9
  have hn' : ¬ n < l.length := by simpa using hh
  rw [List.take_of_length_le (by omega)] at ha4
  rw [List.drop_eq_nil_of_le (by omega)] at hfb
  have hfb : L8 L5 l 0 = none := hfb
  have hck := C8 hfb
  have hcf : ∀ c ∈ l, G3 c ∧ Nm c ∧ c.name ≠ [] := fun c hc => Ha (hck c hc)
  have hsmall : ∀ c ∈ Q8 l, G3 c := fun c hc => by
    rcases List.mem_append.1 hc with hc | hc
    · exact (Yc c hc).1
    · exact (hcf c hc).1
  have hnmall : ∀ c ∈ Q8 l, Nm c := fun c hc => by
    rcases List.mem_append.1 hc with hc | hc
    · exact (Yc c hc).2.1
    · exact (hcf c hc).2.1
  have hmanyall : ∀ c ∈ Q8 l, Xe c = false := fun c hc => by
    rcases List.mem_append.1 hc with hc | hc
    · exact Q5a c hc
    · exact Q5w (hck c hc)
  have hlenall : (Q8 l).length ≤ 100000 := by omega
  unfold Yt at h1 h0
  rw [hfb] at h1 h0
  simp only at h1 h0
  obtain ⟨σ5, hS5, hv5, le5, old5⟩ := ha4.keep hS4
  change Sl 8 U7 σ5 x (Q8 l) at hv5
  clear ha4 hS4 hl4 hn' hh hn hfb ha1 hk1
  have hat8 : ∀ {n : Nat} (hn : n < l.length), ∃ (h : 8 + n < (Q8 l).length), (Q8 l)[8 + n] = l[n] := fun {n} hn => ⟨by omega, by
    unfold Q8
    rw [List.getElem_append_right (by rw [hgl]; omega)]
    congr 1
    rw [hgl]; omega⟩
  have hna8 : ∀ {n : Nat} (hn : n < l.length), Y1 (Q8 l) (8 + n) = l[n].name := fun {n} hn => by
    obtain ⟨h1, h2⟩ := hat8 hn
    rw [Bq h1, h2]
  have hg0 : ∀ j, j < 8 → (Y7 ((Q8 l).take j) (Y1 (Q8 l) j)).isSome = false := by
    have hd : ∀ j, j < 8 → (Y7 (R5.take j) (Y1 R5 j)).isSome = false := by decide
    intro j hj
    have e1 : (Q8 l).take j = R5.take j := by unfold Q8; rw [List.take_append_of_le_length (by rw [hgl]; omega)]
    have e2 : Y1 (Q8 l) j = Y1 R5 j := by
      unfold Y1 Q8; rw [List.getD_eq_getElem?_getD, List.getD_eq_getElem?_getD, List.getElem?_append_left (by rw [hgl]; omega)]
    rw [e1, e2]; exact hd j hj
  refine V2 l.length (fun n w' => Stp w σ w' σ5 ∧ ∀ j, j < 8 + n → (Y7 ((Q8 l).take j) (Y1 (Q8 l) j)).isSome = false) ⟨hS5, by simpa using hg0⟩ fun n w5 d hn hinv => ?_
  clear hS5
  obtain ⟨hS5, hnd⟩ := hinv
  have hl5 := hl.up hS5
  refine Q6 hl5 ?_
  refine Z5 ?_
  refine Q4 (fun hh => ?_) (fun hh => ?_)
  · have hn' : n < l.length := by simpa using hh
    obtain ⟨lv1, fv1, mv1, p1, r1⟩ := hl5.elC hn'
    refine Y4 hl5 hn' ?_
    (try simp only [↓Mm, Mm, ↓Mr, Mr, Mb, reduceIte])
    refine ld hS5.sat p1 rfl ?_
    refine K3 hS5.sat hv5 ?_
    rw [B6 (by omega) (by omega)]
    refine Na ?_
    obtain ⟨h8, e8⟩ := hat8 hn'
    rw [← hna8 hn']
    have hff := Q5y h8
    cases hfc : Y7 ((Q8 l).take (8 + n)) (Y1 (Q8 l) (8 + n)) with
    | none =>
      rw [hff.2 hfc]
      have e : decide (L6 (some (8 + n)) = (8 : Nat) + (n : Int)) = true := by simp [L6]
      rw [e]
      (try simp only [↓Mm, Mm, ↓Mr, Mr, Mb, reduceIte])
      refine Y5 hl5.max hn' ⟨hS5, fun j hj => ?_⟩
      by_cases ej : j = 8 + n
      · rw [ej, hfc]; rfl
      · exact hnd j (by omega)
    | some i =>
      have hne : Y7 (Q8 l) (Y1 (Q8 l) (8 + n)) ≠ some (8 + n) := fun e => by rw [hff.1 e] at hfc; cases hfc
      have e : decide (L6 (Y7 (Q8 l) (Y1 (Q8 l) (8 + n))) = (8 : Nat) + (n : Int)) = false := by
        rw [decide_eq_false_iff_not]
        intro e
        cases hf : Y7 (Q8 l) (Y1 (Q8 l) (8 + n)) with
        | none => rw [hf] at e; simp only [L6] at e; omega
        | some k =>
          rw [hf] at e hne
          simp only [L6] at e
          apply hne
          congr 1; omega
      rw [e]
      (try simp only [↓Mm, Mm, ↓Mr, Mr, Mb, reduceIte])
      have hdup : Ot (Q8 l) = some (8 + n) := by
        unfold Ot
        rw [List.find?_range_eq_some]
        refine ⟨by rw [hfc]; rfl, by simpa using h8, fun j hj => by rw [hnd j hj]; rfl⟩
      refine h1 _ _ _ _ ?_ hS5
      rw [hdup]
      have : ((8 + n : Nat) : Int) - 8 = n := by omega
      simp only [this]
  have hn' : ¬ n < l.length := by simpa using hh
  have hdup : Ot (Q8 l) = none := by
    unfold Ot
    rw [List.find?_eq_none]
    intro j hj
    rw [hnd j (by have := List.mem_range.1 hj; omega)]; simp
  rw [hdup] at h1 h0
  simp only at h1 h0
  have hown := Bt hdup
  clear hnd hh hn' hn hl5 hg0
  refine V2 l.length (fun n w' => ∃ σ', Stp w σ w' σ' ∧ SLe σ5 σ' ∧ L8 (fun c => (uppersM (Q8 l) c : Int)) l 0 = L8 (fun c => (uppersM (Q8 l) c : Int)) (l.drop n) n) ⟨σ5, hS5, SLe.refl _, rfl⟩ fun n w6 d hn hinv => ?_
  obtain ⟨σ9, hS9, le9, hfu⟩ := hinv
  have hl9 := hl.up hS9
  refine Q6 hl9 ?_
  refine Z5 ?_
  refine Q4 (fun hh => ?_) (fun hh => ?_)
  · have hn' : n < l.length := by simpa using hh
    obtain ⟨lv1, fv1, mv1, p1, r1⟩ := hl9.elC hn'
    refine Y4 hl9 hn' ?_
    refine Y3 hS9.sat p1 rfl ?_
    have hfu2 := Jj hn' hfu
    refine Q4R hS9.sat (hv5.lift le9) r1 fun w8 σ11 hk11 => ?_
    refine Na ?_
    refine Q4 (fun hh2 => ?_) (fun hh2 => ?_)
    · have hne : ¬ (uppersM (Q8 l) l[n] : Int) = 0 := by simpa using hh2
      rw [if_neg hne] at hfu2
      refine h1 _ _ _ _ ?_ (hS9.trans hk11)
      rw [hfu2]
    · have hz : (uppersM (Q8 l) l[n] : Int) = 0 := by simpa using hh2
      rw [if_pos hz] at hfu2
      refine O5 ?_
      exact Y5 hl9.max hn' ⟨σ11, hS9.trans hk11, le9.more ⟨hk11.le⟩, hfu2⟩
  have hn' : ¬ n < l.length := by simpa using hh
  rw [List.drop_eq_nil_of_le (by omega)] at hfu
  have hfu : L8 (fun c => (uppersM (Q8 l) c : Int)) l 0 = none := hfu
  rw [hfu] at h1 h0
  simp only at h1 h0
  have hup := C8 hfu
  clear hh hn' hn hS5 hl9
  refine Q1v hS9.sat (hv5.lift le9) hown (by omega) (by omega) hsmall fun vb w10 σ10 hk10 hb10 => ?_
  have hS10 := hS9.trans hk10
  have le10 := le9.more ⟨hk10.le⟩
  have hbl : (Qm (Q8 l)).length = (Q8 l).length := by simp [Qm]
  refine V2 l.length (fun n w' => Stp w σ w' σ10 ∧ ∀ j (hj : j < l.length), j < n → loopsM (Q8 l) l[j] = false) ⟨hS10, fun j _ h => by omega⟩ fun n w11 d hn hinv => ?_
  clear hS10
  obtain ⟨hS10, hlo⟩ := hinv
  have hl10 := hl.up hS10
  refine Q6 hl10 ?_
  refine Z5 ?_
  refine Q4 (fun hh => ?_) (fun hh => ?_)
  · have hn' : n < l.length := by simpa using hh
    obtain ⟨h8, e8⟩ := hat8 hn'
    refine Se ⟨by omega, by omega⟩ ?_
    have ec : ((8 : Nat) : Int) + (n : Int) = ((8 + n : Nat) : Int) := by omega
    rw [ec]
    obtain ⟨cs1, pb, _, rv, rfl, rb⟩ := hb10.el (i := 8 + n) (by rw [hbl]; exact h8)
    have hrow : (Qm (Q8 l))[8 + n]'(by rw [hbl]; exact h8) = (List.range (Q8 l).length).map fun j => Zf (Q8 l) (Y1 (Q8 l) (8 + n)) (Y1 (Q8 l) j) := by simp [Qm]
    rw [hrow] at rb
    obtain ⟨cs2, pb2, _, hcs2⟩ := rb.el (i := 8 + n) (by simpa using h8)
    have hcs2 : cs2 = _ := hcs2
    subst hcs2
    simp only [List.getElem_map, List.getElem_range] at pb2
    rw [Q4U hown h8, e8] at pb2
    refine Y4 hb10 (by rw [hbl]; exact h8) ?_
    refine X8 hS10.sat pb rfl ?_
    refine Se ⟨by omega, by omega⟩ ?_
    rw [ec]
    refine Y4 rb (by simpa using h8) ?_
    refine X8 hS10.sat pb2 rfl ?_
    cases hln : loopsM (Q8 l) l[n] with
    | true =>
      (try simp only [↓Mm, Mm, ↓Mr, Mr, Mb, reduceIte])
      have hfi : l.findIdx? (loopsM (Q8 l)) = some n := by
        rw [List.findIdx?_eq_some_iff_getElem]
        exact ⟨hn', hln, fun j hj => by simpa using hlo j (by omega) hj⟩
      refine h1 _ _ _ _ ?_ hS10
      rw [hfi]
    | false =>
      (try simp only [↓Mm, Mm, ↓Mr, Mr, Mb, reduceIte])
      refine Y5 hl10.max hn' ⟨hS10, fun j hj hjn => ?_⟩
      by_cases e : j = n
      · subst e; exact hln
      · exact hlo j hj (by omega)
  have hn' : ¬ n < l.length := by simpa using hh
  have hlo' : ∀ c ∈ l, loopsM (Q8 l) c = false := fun c hc => by
    obtain ⟨j, hj, rfl⟩ := List.getElem_of_mem hc
    exact hlo j hj (by omega)
  have hfi : l.findIdx? (loopsM (Q8 l)) = none := by
    rw [List.findIdx?_eq_none_iff]; exact hlo'
  rw [hfi] at h1 h0
  simp only at h1 h0
  clear hlo hh hn' hn hl10 hb10 hk10 hS9 hbl
  have hacy := Q2I hown (fun c hc => (hcf c hc).2.2) hlo'
  have hfull : Q72 (Q8 l) := fun c hc u hu => by
    rcases List.mem_append.1 hc with hc | hc
    · rw [(Yc c hc).2.2] at hu; simp at hu
    · have := hup c hc
      unfold uppersM at this
      split at this
      · simp at this
      · split at this
        · simp at this
        · rename_i hnb
          have hnb : c.like.any (N0 (Q8 l)) = false := eq_false_of_ne_true hnb
          have := List.any_eq_false.1 hnb u hu
          unfold N0 at this
          cases hd : lk (Q8 l) u with
          | none => rw [hd] at this; simp at this
          | some d => exact ⟨d, rfl⟩
  have hok : Ok (Q8 l) := ⟨hacy, hlenall, hsmall, hfull, hnmall⟩
  have hups : ∀ i (hi : i < (Q8 l).length), 8 ≤ i → ∀ u ∈ U9 (Q8 l)[i], ∃ j, Y7 (Q8 l) u = some j := fun i hi h8 u hu => by
    have hil : i - 8 < l.length := by omega
    obtain ⟨h8', e8⟩ := hat8 hil
    have hi8 : (Q8 l)[i] = l[i - 8] := by rw [← e8]; congr 1; omega
    rw [hi8] at hu
    have hmem := List.getElem_mem hil
    rcases List.mem_cons.1 hu with hu | hu
    · have := hup _ hmem
      unfold uppersM at this
      split at this
      · simp at this
      · rename_i hnb
        unfold F8 at hnb
        rw [← hu] at hnb
        cases hd : lk (Q8 l) u with
        | none => rw [hd] at hnb; simp at hnb
        | some d => obtain ⟨_, _, j, hj, _⟩ := V6 hd; exact ⟨j, hj⟩
    · obtain ⟨d, hd⟩ := hfull _ (List.mem_append_right _ hmem) u hu
      obtain ⟨_, _, j, hj, _⟩ := V6 hd; exact ⟨j, hj⟩
  refine Ky (R := Jn) (e := T.d) hS10 (by decide) fun x12 w12 hk12 ha12 _ => ?_
  refine N1 l.length (fun n x' w' => ∃ σ' out, Stp w σ w' σ' ∧ SLe σ5 σ' ∧ W5 w.heap.size T.d 1 Jn σ' w' x' (G5 out) ∧ Ip (Q8 l) out ∧ out = (((List.range (Q8 l).length).drop 8).take n).foldl (fun out i => T5 (Q8 l) 8 out i) [])
    ⟨σ10, [], hS10.trans hk12, le10, ha12, ⟨List.nodup_nil, by simp⟩, rfl⟩ fun n x' w13 d hn hinv => ?_
  clear ha12 hk12 hS10 le10 le9
  obtain ⟨σ13, out, hS13, le13, ha13, hfew, hout⟩ := hinv
  have hl13 := hl.up hS13
  refine Q6 hl13 ?_
  refine Z5 ?_
  refine Q4 (fun hh => ?_) (fun hh => ?_)
  · have hn' : n < l.length := by simpa using hh
    obtain ⟨h8, e8⟩ := hat8 hn'
    refine Se ⟨by omega, by omega⟩ ?_
    have ec : ((8 : Nat) : Int) + (n : Int) = ((8 + n : Nat) : Int) := by omega
    rw [ec]
    refine Q8r hacy hown (by omega) hsmall (by omega) hups ((Q8 l).length + 1) h8 (Nat.lt_succ_of_le (Re _ _)) hfew hS13 (hv5.lift le13) ha13 fun x14 w14 σ14 hS14 le14 ha14 => ?_
    refine O5 ?_
    refine Z6 hl13.max hn' ⟨σ14, _, hS14, le13.more le14, ha14, Bc hacy hown (by omega) _ _ _ h8 hfew, ?_⟩
    rw [List.take_add_one, List.getElem?_drop, List.getElem?_range h8, List.foldl_append, ← hout]
    rfl
  have hn' : ¬ n < l.length := by simpa using hh
  have hnl : n = l.length := by omega
  subst hnl
  have hord : out = W0 (Q8 l) 8 := by
    rw [hout, List.take_of_length_le (by rw [List.length_drop, List.length_range]; omega)]; rfl
  subst hord
  clear hout hh hn' hn
  have hol := hfew.len
  have hoi := Q6U hown
  obtain ⟨σ15, hS15, hv15, le15, _⟩ := ha13.keep hS13
  have lex := le13.more ⟨le15⟩
  clear ha13 hS13 le15 le13 hl13
  have hil : (G5 (W0 (Q8 l) 8)).length = (W0 (Q8 l) 8).length := by simp
  refine V2 (W0 (Q8 l) 8).length (fun n w' => ∃ σ', Stp w σ w' σ' ∧ SLe σ15 σ' ∧ ∀ j ∈ (W0 (Q8 l) 8).take n, membersM (Q8 l) ((Q8 l).getD j Cla.zero) = 0) ⟨σ15, hS15, SLe.refl _, by simp⟩ fun n w16 d hn hinv => ?_
  obtain ⟨σ16, hS16, le16, hno⟩ := hinv
  have hv16 := hv15.lift le16
  refine Q6 hv16 ?_
  rw [hil]
  refine Z5 ?_
  refine Q4 (fun hh => ?_) (fun hh => ?_)
  · have hn' : n < (W0 (Q8 l) 8).length := by simpa using hh
    have hni : n < (G5 (W0 (Q8 l) 8)).length := by rw [hil]; exact hn'
    refine Y4 hv16 hni ?_
    obtain ⟨cs, pc, _, hcs⟩ := hv16.el hni
    obtain ⟨rfl, _⟩ := hcs
    simp only [List.getElem_map] at pc
    refine X8 hS16.sat pc rfl ?_
    have hji := (hoi _ (List.getElem_mem hn')).2
    have hat : (Q8 l).getD (W0 (Q8 l) 8)[n] Cla.zero = (Q8 l)[(W0 (Q8 l) 8)[n]] := by rw [List.getD_eq_getElem?_getD, List.getElem?_eq_getElem hji]; rfl
    refine Q3L hS16.sat (hv5.lift (lex.more le16)) hok hown (by omega) hmanyall hji fun w17 σ17 hk17 => ?_
    have hS17 := hS16.trans hk17
    refine Na ?_
    refine Q4 (fun hh2 => ?_) (fun hh2 => ?_)
    · have hne : ¬ membersM (Q8 l) (Q8 l)[(W0 (Q8 l) 8)[n]] = 0 := by simpa using hh2
      have hv17 := hv16.up hk17
      have pc17 := pc.up hk17
      refine W1 hk17.sat ?_
      (repeat (apply L9; (· intros; (repeat (rename_i hx; subst hx)); (repeat' (first | (with_reducible exact U8 rfl) | (with_reducible exact V9 (Stp.bel (by (repeat (first | exact Stp.refl (by (first | assumption | exact Stp.sat (by assumption) | exact Hst.sat (by assumption))) | assumption | refine Stp.trans ?_ (by first | assumption | exact Hst.stp (by assumption)))))) rfl) | (with_reducible intro _) | (simp only [↓Mm, Mm, ↓Mp, Mp, Mb, reduceIte])  | (with_reducible show Q2 _ _ _ _ _; first | refine X8 aS aL aR ?_ | refine Y3 aS aL aR ?_ | refine ld aS aL aR ?_) | (with_reducible show indexAddr _ _ _ _ _ _; refine Y4 aL au ?_) | (with_reducible show X4 _ _ _ _ _ _ _ _; refine Q6 aL ?_) | (with_reducible show D1 _ _ _ _ _ _; refine Y6 aR ?_) | (with_reducible show pick _ _ _ _ _ _; refine W8 ?_) | (apply W9; intro hh; (try simp only [hh, reduceIte, ↓Mm, Mm, ↓Mp, Mp, Mb, reduceIte])))); done)))
      (intros; (repeat (rename_i hx; subst hx)); (try simp only [↓Mm, Mm, ↓Mp, Mp, Mb, reduceIte]))
      rename_i w18 hb18
      refine X8 hb18.sat pc17 rfl ?_
      refine Nx ⟨by omega, by omega⟩ ?_
      have hfind : (W0 (Q8 l) 8).find? (fun j => !decide (membersM (Q8 l) ((Q8 l).getD j Cla.zero) = 0)) = some (W0 (Q8 l) 8)[n] := by
        rw [List.find?_eq_some_iff_getElem]
        refine ⟨by rw [hat]; simpa using hne, n, hn', rfl, fun j hj => ?_⟩
        have := hno _ (List.mem_take_iff_getElem.2 ⟨j, by omega, rfl⟩)
        rw [this]; simp
      have := h1 (((W0 (Q8 l) 8)[n] : Int) - 8) (membersM (Q8 l) (Q8 l)[(W0 (Q8 l) 8)[n]]) w18 σ17 (by rw [hfind]; simp only [hat]) (hS17.trans hb18.stp)
      exact this
    · have hz : membersM (Q8 l) (Q8 l)[(W0 (Q8 l) 8)[n]] = 0 := by simpa using hh2
      refine O5 ?_
      refine Y5 (by omega) hn' ⟨σ17, hS17, le16.more ⟨hk17.le⟩, fun j hj => ?_⟩
      rw [List.take_add_one, List.getElem?_eq_getElem hn'] at hj
      rcases List.mem_append.1 hj with hj | hj
      · exact hno j hj
      · simp at hj; subst hj; rw [hat]; exact hz
  · have hn' : ¬ n < (W0 (Q8 l) 8).length := by simpa using hh
    rw [List.take_of_length_le (by omega)] at hno
    have hfind : (W0 (Q8 l) 8).find? (fun j => !decide (membersM (Q8 l) ((Q8 l).getD j Cla.zero) = 0)) = none := by
      rw [List.find?_eq_none]
      intro j hj
      rw [hno j hj]; simp
    rw [hfind] at h0
    exact h0 _ _ _ rfl hS16 (hv5.lift (lex.more le16)) hok hown)
end Go.Proofs.YtdnfaboigajkhaaGreatDoor

namespace Go.Proofs.YtdnfaboigajkhaaGreatDoor
open Go.Emb Go.RowKit Go.Kd Go.Hm
variable {w : World} {K : Value → World → Prop} {σ : Q5} {l : List Cla} {v : Value}
end Go.Proofs.YtdnfaboigajkhaaGreatDoor

namespace Go.Proofs.YtdnfaboigajkhaaGreatDoor
open Go.Emb Go.RowKit Go.Kd Go.Hm
variable {w : World} {K : Value → World → Prop} {σ : Q5} {l : List Cla} {v : Value}
theorem Q5x (ok : Ok l) : ∀ (k : Nat) {n : X0} {w : World} {σ : Q5} {K : Value → World → Prop}, (lk l n = none ∨ H7 l n < k) → n.length ≤ W3 → X6 w σ → Sl 8 U7 σ v l → (∀ w' σ', Stp w σ w' σ' → K (S (printM l n)) w') → Q1 P F.a2 [v, S n] w K := by
  have hnone : ∀ {n : X0} {w : World} {σ : Q5} {K : Value → World → Prop}, lk l n = none → X6 w σ → Sl 8 U7 σ v l → (∀ w' σ', Stp w σ w' σ' → K (S (printM l n)) w') → Q1 P F.a2 [v, S n] w K := by
    intro n w σ K hd hs hv h
    refine Wa ?_
    unfold Qd
    rw [Hh hd] at h
    refine Eh hs hv hd ?_
    simp only [Q5k, ↓Mm, Mm, ↓Mr, Mr, Mb, reduceIte]
    exact h _ _ (Stp.refl hs)
  intro k
  induction k with
  | zero =>
    intro n w σ K hk hl hs hv h
    exact hnone (hk.resolve_right (by omega)) hs hv h
  | succ k ih =>
    intro n w σ K hk hl hs hv h
    cases hd : lk l n with
    | none => exact hnone hd hs hv h
    | some c =>
      refine Wa ?_
      unfold Qd
      have hp := Q1h ok.acy n
      rw [hd] at hp
      simp only at hp
      obtain ⟨hcn, hmem, _⟩ := V6 hd
      have hnm := ok.nm c hmem
      have hsm := ok.sm c hmem
      have hlen := Q0n ok c.super
      refine Ma hs hv hd fun i hi hf => ?_
      obtain ⟨hil, hid⟩ := List.getElem?_eq_some_iff.1 hi
      simp only [Q0E, ↓Mm, Mm, ↓Mr, Mr, Mb, reduceIte]
      refine Q4 (fun hh => ?_) (fun hh => ?_)
      · have : n = U4 := of_decide_eq_true hh
        rw [if_pos this] at hp
        rw [hp] at h
        exact h _ _ (Stp.refl hs)
      have : ¬ n = U4 := of_decide_eq_false hh
      rw [if_neg this] at hp
      obtain ⟨lv, fv, mv, p1, r1⟩ := hv.elC hil
      rw [hid] at p1 r1
      obtain ⟨_, f2, _, _, f5⟩ := r1.parts
      have hn100 : n.length ≤ 100 := by rw [← hcn]; exact hnm.1
      refine H5 (by simp only [List.length_cons, List.length_nil]; omega) ?_
      refine Y4 hv hil ?_
      (try simp only [↓Mm, Mm, ↓Mr, Mr, Mb, reduceIte])
      refine ld hs p1 rfl ?_
      have hk' : lk l c.super = none ∨ H7 l c.super < k := by
        cases hd2 : lk l c.super with
        | none => exact .inl rfl
        | some e =>
          right
          have := B8 ok.acy hd (by simp [U9]) hd2
          rcases hk with hk | hk
          · rw [hk] at hd; cases hd
          · omega
      refine ih hk' f5 hs hv fun w3 σ3 hk3 => ?_
      refine H5 (by simp only [List.length_append, List.length_cons, List.length_nil]; omega) ?_
      refine H5 (by simp only [List.length_append, List.length_cons, List.length_nil]; omega) ?_
      refine N1 c.fields.length (fun i a w' => ∃ σ', Stp w σ w' σ' ∧ a = S (n ++ [40] ++ printM l c.super ++ [41] ++ (c.fields.take i).flatMap D4)) ⟨σ3, hk3, by simp⟩ fun j a w4 d hj hinv => ?_
      obtain ⟨σ4, hS4, rfl⟩ := hinv
      have hfl := Fh hnm hsm j
      have hv4 := hv.up hS4
      have p4 := p1.up hS4
      have f24 := f2.up hS4
      have hs4 := hS4.sat
      refine Y4 hv4 hil ?_
      (try simp only [↓Mm, Mm, ↓Mr, Mr, Mb, reduceIte])
      refine ld hs4 p4 rfl ?_
      refine Q6 f24 ?_
      refine Z5 ?_
      refine Q4 (fun hh => ?_) (fun hh => ?_)
      · have hj' : j < c.fields.length := by simpa using hh
        have hff := hnm.2.1 _ (List.getElem_mem hj')
        have hmax : c.fields.length ≤ 9223372036854775807 := f2.max
        refine V3 ?_
        refine Y4 hv4 hil ?_
        (try simp only [↓Mm, Mm, ↓Mr, Mr, Mb, reduceIte])
        refine ld hs4 p4 rfl ?_
        refine Y4 f24 hj' ?_
        obtain ⟨hl1, hr1⟩ := f24.elF hj'
        refine Y3 hs4 hl1 rfl ?_
        refine Y0 hs4 (by rfl) rfl (Rep.one hr1) fun q5 w5 σ5 hk5 hq5 => ?_
        (try simp only [↓Mm, Mm, ↓Mr, Mr, Mb, reduceIte])
        refine ld hk5.sat hq5 rfl ?_
        have e5 : (c.fields.take (j + 1)).flatMap D4 = (c.fields.take j).flatMap D4 ++ D4 c.fields[j] := by
          rw [List.take_add_one, List.getElem?_eq_getElem hj', List.flatMap_append]; simp
        cases htr : c.fields[j].tr with
        | true =>
          simp only [↓Mm, Mm, ↓Mr, Mr, Mb, reduceIte]
          intro _
          refine Z6 hmax hj' ⟨σ5, hS4.trans hk5, ?_⟩
          rw [e5]; simp [D4, htr]
        | false =>
          simp only [↓Mm, Mm, ↓Mr, Mr, Mb, reduceIte]
          refine ld hk5.sat hq5 rfl ?_
          refine H5 (by simp only [List.length_append, List.length_cons, List.length_nil]; omega) ?_
          refine H5 (by simp only [List.length_append, List.length_cons, List.length_nil]; omega) ?_
          (try simp only [↓Mm, Mm, ↓Mr, Mr, Mb, reduceIte])
          refine ld hk5.sat hq5 rfl ?_
          refine H5 (by simp only [List.length_append, List.length_cons, List.length_nil]; omega) ?_
          refine H5 (by simp only [List.length_append, List.length_cons, List.length_nil]; omega) ?_
          intro _
          (try simp only [↓Mm, Mm, ↓Mr, Mr, Mb, reduceIte])
          refine Z6 hmax hj' ⟨σ5, hS4.trans hk5, ?_⟩
          rw [e5]; simp [D4, htr]
      · have hj' : ¬ j < c.fields.length := by simpa using hh
        rw [List.take_of_length_le (by omega)] at hfl ⊢
        refine H5 (by simp only [List.length_append, List.length_cons, List.length_nil]; omega) ?_
        rw [hp] at h
        exact h _ _ hS4
theorem Q69 {n : X0} (hs : X6 w σ) (hv : Sl 8 U7 σ v l) (ok : Ok l) (hn : n.length ≤ W3) (h : ∀ w' σ', Stp w σ w' σ' → K (S (printM l n)) w') : Q1 P F.a2 [v, S n] w K :=
  Q5x ok _ (.inr (Nat.lt_succ_self _)) hn hs hv h
end Go.Proofs.YtdnfaboigajkhaaGreatDoor

namespace Go.Proofs.YtdnfaboigajkhaaGreatDoor
open Go.Emb Go.RowKit Go.Kd Go.Hm
variable {w : World} {K : Value → World → Prop} {σ : Q5} {l : List Cla}
theorem Q2A {l : List Cla} (hf : (!K5 l) = false) : l.length ≤ 12 := (Iy (by simpa using hf)).1
theorem Q7L {l : List Cla} (hf : (!K5 l) = false) : (Q8 l).length ≤ 1000 := by
  have := Q2A hf
  have hgl : R5.length = 8 := rfl
  simp only [Q8, List.length_append, hgl]; omega
theorem Q9i {lv : Value} (hs : X6 w σ) (hl : Sl 8 U7 σ lv l) (hf : (!K5 l) = false)
    (k1 : ∀ i e w' σ', Yt L5 l = some (i, e) → ¬ e = 0 → Stp w σ w' σ' → K (.tuple #[.slice none 0 0, I i, I e]) w')
    (k0 : ∀ v w' σ', Yt L5 l = none → Stp w σ w' σ' → Sl 8 U7 σ' v (Q8 l) → K (.tuple #[v, I 0, I 0]) w') : Q1 P F.aJ [lv] w K :=
  Q7X hs hl (by have := Q2A hf; omega) (fun i e w' σ' hn hk => k1 i e w' σ' hn (Q2U hn) hk) fun v w' σ' hn hk hv _ _ => k0 v w' σ' hn hk hv
end Go.Proofs.YtdnfaboigajkhaaGreatDoor

namespace Go.Proofs.YtdnfaboigajkhaaGreatDoor
open Go.Emb Go.RowKit Go.Kd Go.Hm
variable {w : World} {K : Value → World → Prop} {σ : Q5}
theorem Ec {α : Type} {xs ys : List α} {n : Nat} (h : ¬ n < xs.length) (hl : xs.length = ys.length) (hp : xs.take n = ys.take n) : xs = ys := by
  rwa [List.take_of_length_le (by omega), List.take_of_length_le (by omega)] at hp
theorem Q40 {xs ys : List Ins} {v u : Value} (hs : X6 w σ) (hv : Sl 3 F5 σ v xs) (hu : Sl 3 F5 σ u ys) (h : ∀ w', Below w.heap.size w w' → K (.bool (decide (xs = ys))) w') : Q1 P F.bk [v, u] w K := Gc (by
  unfold Wz
  refine Q6 hv ?_
  refine Q6 hu ?_
  (try simp only [↓Mm, Mm, ↓Mr, Mr, Mb, reduceIte])
  refine Q4 (fun h1 => ?_) (fun h1 => ?_)
  · have : decide (xs = ys) = false := by
      rw [decide_eq_false_iff_not]; rintro rfl; simp at h1
    rw [this] at h; exact h _ (Below.refl _ _)
  have hl : xs.length = ys.length := by
    simp only [Bool.not_eq_false', decide_eq_true_eq] at h1; omega
  refine V2 xs.length (fun n w' => Below w.heap.size w w' ∧ xs.take n = ys.take n) ⟨Below.refl _ _, rfl⟩ fun n w1 d hn hi => ?_
  obtain ⟨hb, hp⟩ := hi
  have hs1 := hs.below hb
  refine Q6 hv ?_
  refine Z5 ?_
  refine Q4 (fun hc => ?_) (fun hc => ?_)
  · have hn' : n < xs.length := by simpa using hc
    have hn2 : n < ys.length := by omega
    obtain ⟨a1, a2⟩ := hv.elI hn'
    obtain ⟨b1, b2⟩ := hu.elI hn2
    refine W1 hs1 ?_
    (repeat (apply L9; (· intros; (repeat (rename_i hx; subst hx)); (repeat' (first | (with_reducible exact U8 rfl) | (with_reducible exact V9 (Stp.bel (by (repeat (first | exact Stp.refl (by (first | assumption | exact Stp.sat (by assumption) | exact Hst.sat (by assumption))) | assumption | refine Stp.trans ?_ (by first | assumption | exact Hst.stp (by assumption)))))) rfl) | (with_reducible intro _) | (simp only [↓Mm, Mm, ↓Mp, Mp, Mb, reduceIte])  | (with_reducible show Q2 _ _ _ _ _; first | refine X8 aS aL aR ?_ | refine Y3 aS aL aR ?_ | refine ld aS aL aR ?_) | (with_reducible show indexAddr _ _ _ _ _ _; refine Y4 aL au ?_) | (with_reducible show X4 _ _ _ _ _ _ _ _; refine Q6 aL ?_) | (with_reducible show D1 _ _ _ _ _ _; refine Y6 aR ?_) | (with_reducible show pick _ _ _ _ _ _; refine W8 ?_) | (apply W9; intro hh; (try simp only [hh, reduceIte, ↓Mm, Mm, ↓Mp, Mp, Mb, reduceIte])))); done)))
    (intros; (repeat (rename_i hx; subst hx)); (try simp only [↓Mm, Mm, ↓Mp, Mp, Mb, reduceIte]))
    rename_i w2 hb2
    have hbb := hb.trans (hb2.stp.bel.mono hb.size)
    refine Q8n ?_
    refine Q4 (fun he => ?_) (fun he => ?_)
    · have : decide (xs = ys) = false := by
        rw [decide_eq_false_iff_not]; rintro rfl; simp at he
      rw [this] at h; exact h _ hbb
    · (try simp only [↓Mm, Mm, ↓Mr, Mr, Mb, reduceIte])
      exact Y5 hv.max hn' ⟨hbb, (Mq hn' hn2 hp).2 (by simpa using he)⟩
  · have hn' : ¬ n < xs.length := by simpa using hc
    have : decide (xs = ys) = true := by rw [Ec hn' hl hp]; simp
    rw [this] at h; exact h _ hb)
set_option maxHeartbeats 1000000 in
theorem Q0O {m m' : Hm.Met} {cs ds : List Value} (hs : X6 w σ) (hm : M9 σ m cs) (hm' : M9 σ m' ds) (h : ∀ w' σ', Stp w σ w' σ' → K (.bool (decide (m = m'))) w') : Q1 P F.aB [.agg cs.toArray, .agg ds.toArray] w K := Nl (by
  unfold Xo
  obtain ⟨pv, cv, hv, rfl, f1, f2, f3, f4, f5, f6⟩ := hm
  obtain ⟨pv', cv', hv', rfl, g1, g2, g3, g4, g5, g6⟩ := hm'
  refine Z4 hs fun q w0 σ0 hk0 hq => ?_
  refine Z4 hk0.sat fun q2 w1 σ1 hk1 hq2 => ?_
  have hq1 := hq.up hk1
  have hS1 := hk0.trans hk1
  have f1 := f1.up hS1
  have f2 := f2.up hS1
  have f3 := f3.up hS1
  have g1 := g1.up hS1
  have g2 := g2.up hS1
  have g3 := g3.up hS1
  have hs1 := hS1.sat
  clear hq hk0 hk1
  (repeat' (first | (with_reducible intro _) | (with_reducible refine V3 ?_) | (simp only [↓Mm, Mm, ↓Mp, Mp, Mb, reduceIte]) | (with_reducible first | refine ld aS aL aR ?_ | refine X8 aS aL aR ?_ | refine Y3 aS aL aR ?_ | refine Q6 aL ?_ | refine Y6 aR ?_ | refine Z4 aS ?_ | refine L1 aS aL ?_ | refine U2 aS aR ?_ | refine Y0 aS aR aR (Rep.one (by assumption)) ?_ | refine U1 aS aR aR aR ?_ | refine Fi au au au (W7 aS ?_) | refine Q40 au au au (W7 aS ?_) | (refine Y2 (fun hh => ?_) (fun hh => ?_) <;> (try simp only [hh, Bool.not_true, Bool.not_false, ↓Mm, Mm, ↓Mp, Mp, Mb, reduceIte])) | (refine Q4 (fun hh => ?_) (fun hh => ?_) <;> (try simp only [hh, Bool.not_true, Bool.not_false, ↓Mm, Mm, ↓Mp, Mp, Mb, reduceIte])))))
  all_goals try (exact Eq.subst (motive := fun b => K (.bool b) _) (by rw [decide_eq_false_iff_not]; intro e; subst e; simp_all) (h _ _ (by (repeat (first | exact Stp.refl (by (first | assumption | exact Stp.sat (by assumption) | exact Hst.sat (by assumption))) | assumption | refine Stp.trans ?_ (by first | assumption | exact Hst.stp (by assumption)))))))
  rename_i e1 e2 e3 e4 wA σA kA e5 wB σB kB e6
  have hl : m.catches.length = m'.catches.length := by simp only [Bool.not_eq_false', decide_eq_true_eq] at hh; omega
  refine V2 m.catches.length (fun n w' => ∃ σ', Stp w1 σ1 w' σ' ∧ m.catches.take n = m'.catches.take n) ⟨σB, kA.trans kB, rfl⟩ fun n w4 d hn hi => ?_
  obtain ⟨σ4, k4, hp⟩ := hi
  have hq4 := hq1.up k4
  have hq5 := hq2.up k4
  have f34 := f3.up k4
  have g34 := g3.up k4
  have hs4 := k4.sat
  (try simp only [↓Mm, Mm, ↓Mr, Mr, Mb, reduceIte])
  refine ld hs4 hq4 rfl ?_
  refine Q6 f34 ?_
  refine Z5 ?_
  refine Q4 (fun hc => ?_) (fun hc => ?_)
  · have hn' : n < m.catches.length := by simpa using hc
    have hn2 : n < m'.catches.length := by omega
    obtain ⟨a1, a2⟩ := f34.elK hn'
    obtain ⟨b1, b2⟩ := g34.elK hn2
    clear kA kB
    refine W1 hs4 ?_
    (repeat (apply L9; (· intros; (repeat (rename_i hx; subst hx)); (repeat' (first | (with_reducible exact U8 rfl) | (with_reducible exact V9 (Stp.bel (by (repeat (first | exact Stp.refl (by (first | assumption | exact Stp.sat (by assumption) | exact Hst.sat (by assumption))) | assumption | refine Stp.trans ?_ (by first | assumption | exact Hst.stp (by assumption)))))) rfl) | (with_reducible intro _) | (simp only [↓Mm, Mm, ↓Mp, Mp, Mb, reduceIte])  | (with_reducible show Q2 _ _ _ _ _; first | refine X8 aS aL aR ?_ | refine Y3 aS aL aR ?_ | refine ld aS aL aR ?_) | (with_reducible show indexAddr _ _ _ _ _ _; refine Y4 aL au ?_) | (with_reducible show X4 _ _ _ _ _ _ _ _; refine Q6 aL ?_) | (with_reducible show D1 _ _ _ _ _ _; refine Y6 aR ?_) | (with_reducible show pick _ _ _ _ _ _; refine W8 ?_) | (apply W9; intro hh; (try simp only [hh, reduceIte, ↓Mm, Mm, ↓Mp, Mp, Mb, reduceIte])))); done)))
    (intros; (repeat (rename_i hx; subst hx)); (try simp only [↓Mm, Mm, ↓Mp, Mp, Mb, reduceIte]))
    rename_i w5 hb5
    refine Q8j ?_
    refine Q4 (fun he => ?_) (fun he => ?_)
    · have : decide (m = m') = false := by
        rw [decide_eq_false_iff_not]; rintro rfl; simp at he
      rw [this] at h; exact h _ _ (hS1.trans (k4.trans hb5.stp))
    · (try simp only [↓Mm, Mm, ↓Mr, Mr, Mb, reduceIte])
      exact Y5 f34.max hn' ⟨σ4, k4.trans hb5.stp, (Mq hn' hn2 hp).2 (by simpa using he)⟩
  · have hn' : ¬ n < m.catches.length := by simpa using hc
    have e7 := Ec hn' hl hp
    have : decide (m = m') = true := by
      rw [decide_eq_true_eq]
      obtain ⟨x1, x2, x3, x4, x5, x6, x7⟩ := m
      obtain ⟨y1, y2, y3, y4, y5, y6, y7⟩ := m'
      simp_all
    rw [this] at h; exact h _ _ (hS1.trans k4))
set_option maxHeartbeats 4000000 in
theorem Q3p {c c' : Cla} {cs ds : List Value} (hs : X6 w σ) (hc : U7 σ c cs) (hc' : U7 σ c' ds) (h : ∀ w' σ', Stp w σ w' σ' → K (.bool (decide (c = c'))) w') : Q1 P F.bg [.agg cs.toArray, .agg ds.toArray] w K := Fo (by
  unfold Lb
  obtain ⟨lv, fv, mv, rfl, f1, f2, f3, f4, f5⟩ := hc
  obtain ⟨lv', fv', mv', rfl, g1, g2, g3, g4, g5⟩ := hc'
  refine Z4 hs fun q w0 σ0 hk0 hq => ?_
  refine Z4 hk0.sat fun q2 w1 σ1 hk1 hq2 => ?_
  have hq1 := hq.up hk1
  have hS1 := hk0.trans hk1
  have f1 := f1.up hS1
  have f2 := f2.up hS1
  have f3 := f3.up hS1
  have g1 := g1.up hS1
  have g2 := g2.up hS1
  have g3 := g3.up hS1
  have hs1 := hS1.sat
  clear hq hk0 hk1
  (repeat' (first | (with_reducible intro _) | (with_reducible refine V3 ?_) | (simp only [↓Mm, Mm, ↓Mp, Mp, Mb, reduceIte]) | (with_reducible first | refine ld aS aL aR ?_ | refine X8 aS aL aR ?_ | refine Y3 aS aL aR ?_ | refine Q6 aL ?_ | refine Y6 aR ?_ | refine Z4 aS ?_ | refine L1 aS aL ?_ | refine U2 aS aR ?_ | refine Y0 aS aR aR (Rep.one (by assumption)) ?_ | refine U1 aS aR aR aR ?_ | refine Fi au au au (W7 aS ?_) | (refine Y2 (fun hh => ?_) (fun hh => ?_) <;> (try simp only [hh, Bool.not_true, Bool.not_false, ↓Mm, Mm, ↓Mp, Mp, Mb, reduceIte])) | (refine Q4 (fun hh => ?_) (fun hh => ?_) <;> (try simp only [hh, Bool.not_true, Bool.not_false, ↓Mm, Mm, ↓Mp, Mp, Mb, reduceIte])))))
  all_goals try (exact Eq.subst (motive := fun b => K (.bool b) _) (by rw [decide_eq_false_iff_not]; intro e; subst e; simp_all) (h _ _ (by (repeat (first | exact Stp.refl (by (first | assumption | exact Stp.sat (by assumption) | exact Hst.sat (by assumption))) | assumption | refine Stp.trans ?_ (by first | assumption | exact Hst.stp (by assumption)))))))
  rename_i e1 e2 e3 e4 e5 wA σA kA e6 e7
  have hl : c.fields.length = c'.fields.length := by simp only [Bool.not_eq_false', decide_eq_true_eq] at e7; omega
  have hl2 : c.methods.length = c'.methods.length := by simp only [Bool.not_eq_false', decide_eq_true_eq] at hh; omega
  refine V2 c.fields.length (fun n w' => ∃ σ', Stp w1 σ1 w' σ' ∧ c.fields.take n = c'.fields.take n) ⟨σA, kA, rfl⟩ fun n w4 d hn hi => ?_
  obtain ⟨σ4, k4, hp⟩ := hi
  have hq4 := hq1.up k4
  have hq5 := hq2.up k4
  have f24 := f2.up k4
  have g24 := g2.up k4
  have hs4 := k4.sat
  (try simp only [↓Mm, Mm, ↓Mr, Mr, Mb, reduceIte])
  refine ld hs4 hq4 rfl ?_
  refine Q6 f24 ?_
  refine Z5 ?_
  refine Q4 (fun hc => ?_) (fun hc => ?_)
  · have hn' : n < c.fields.length := by simpa using hc
    have hn2 : n < c'.fields.length := by omega
    obtain ⟨a1, a2⟩ := f24.elF hn'
    obtain ⟨b1, b2⟩ := g24.elF hn2
    clear kA
    refine W1 hs4 ?_
    (repeat (apply L9; (· intros; (repeat (rename_i hx; subst hx)); (repeat' (first | (with_reducible exact U8 rfl) | (with_reducible exact V9 (Stp.bel (by (repeat (first | exact Stp.refl (by (first | assumption | exact Stp.sat (by assumption) | exact Hst.sat (by assumption))) | assumption | refine Stp.trans ?_ (by first | assumption | exact Hst.stp (by assumption)))))) rfl) | (with_reducible intro _) | (simp only [↓Mm, Mm, ↓Mp, Mp, Mb, reduceIte])  | (with_reducible show Q2 _ _ _ _ _; first | refine X8 aS aL aR ?_ | refine Y3 aS aL aR ?_ | refine ld aS aL aR ?_) | (with_reducible show indexAddr _ _ _ _ _ _; refine Y4 aL au ?_) | (with_reducible show X4 _ _ _ _ _ _ _ _; refine Q6 aL ?_) | (with_reducible show D1 _ _ _ _ _ _; refine Y6 aR ?_) | (with_reducible show pick _ _ _ _ _ _; refine W8 ?_) | (apply W9; intro hh; (try simp only [hh, reduceIte, ↓Mm, Mm, ↓Mp, Mp, Mb, reduceIte])))); done)))
    (intros; (repeat (rename_i hx; subst hx)); (try simp only [↓Mm, Mm, ↓Mp, Mp, Mb, reduceIte]))
    rename_i w5 hb5
    refine Q8c ?_
    refine Q4 (fun he => ?_) (fun he => ?_)
    · have : decide (c = c') = false := by
        rw [decide_eq_false_iff_not]; rintro rfl; simp at he
      rw [this] at h; exact h _ _ (hS1.trans (k4.trans hb5.stp))
    · (try simp only [↓Mm, Mm, ↓Mr, Mr, Mb, reduceIte])
      exact Y5 f24.max hn' ⟨σ4, k4.trans hb5.stp, (Mq hn' hn2 hp).2 (by simpa using he)⟩
  · have hn' : ¬ n < c.fields.length := by simpa using hc
    have e8 := Ec hn' hl hp
    refine V2 c.methods.length (fun n w' => ∃ σ', Stp w1 σ1 w' σ' ∧ c.methods.take n = c'.methods.take n) ⟨σ4, k4, rfl⟩ fun n w6 d hn hi => ?_
    obtain ⟨σ6, k6, hp⟩ := hi
    have hq6 := hq1.up k6
    have hq7 := hq2.up k6
    have f36 := f3.up k6
    have g36 := g3.up k6
    have hs6 := k6.sat
    (try simp only [↓Mm, Mm, ↓Mr, Mr, Mb, reduceIte])
    refine ld hs6 hq6 rfl ?_
    refine Q6 f36 ?_
    refine Z5 ?_
    refine Q4 (fun hc => ?_) (fun hc => ?_)
    · have hn' : n < c.methods.length := by simpa using hc
      have hn2 : n < c'.methods.length := by omega
      obtain ⟨pv, cv, hv, a1, a2⟩ := f36.elM hn'
      obtain ⟨pv2, cv2, hv2, b1, b2⟩ := g36.elM hn2
      clear kA k4
      refine W1 hs6 ?_
      (repeat (apply L9; (· intros; (repeat (rename_i hx; subst hx)); (repeat' (first | (with_reducible exact U8 rfl) | (with_reducible exact V9 (Stp.bel (by (repeat (first | exact Stp.refl (by (first | assumption | exact Stp.sat (by assumption) | exact Hst.sat (by assumption))) | assumption | refine Stp.trans ?_ (by first | assumption | exact Hst.stp (by assumption)))))) rfl) | (with_reducible intro _) | (simp only [↓Mm, Mm, ↓Mp, Mp, Mb, reduceIte])  | (with_reducible show Q2 _ _ _ _ _; first | refine X8 aS aL aR ?_ | refine Y3 aS aL aR ?_ | refine ld aS aL aR ?_) | (with_reducible show indexAddr _ _ _ _ _ _; refine Y4 aL au ?_) | (with_reducible show X4 _ _ _ _ _ _ _ _; refine Q6 aL ?_) | (with_reducible show D1 _ _ _ _ _ _; refine Y6 aR ?_) | (with_reducible show pick _ _ _ _ _ _; refine W8 ?_) | (apply W9; intro hh; (try simp only [hh, reduceIte, ↓Mm, Mm, ↓Mp, Mp, Mb, reduceIte])))); done)))
      (intros; (repeat (rename_i hx; subst hx)); (try simp only [↓Mm, Mm, ↓Mp, Mp, Mb, reduceIte]))
      rename_i w7 hb7
      refine Q0O hb7.sat a2 b2 fun w8 σ8 k8 => ?_
      (try simp only [↓Mm, Mm, ↓Mr, Mr, Mb, reduceIte])
      refine Q4 (fun he => ?_) (fun he => ?_)
      · have : decide (c = c') = false := by
          rw [decide_eq_false_iff_not]; rintro rfl; simp at he
        rw [this] at h; exact h _ _ (hS1.trans (k6.trans (hb7.stp.trans k8)))
      · (try simp only [↓Mm, Mm, ↓Mr, Mr, Mb, reduceIte])
        exact Y5 f36.max hn' ⟨σ8, k6.trans (hb7.stp.trans k8), (Mq hn' hn2 hp).2 (by simpa using he)⟩
    · have hn' : ¬ n < c.methods.length := by simpa using hc
      have e9 := Ec hn' hl2 hp
      have : decide (c = c') = true := by
        rw [decide_eq_true_eq]
        obtain ⟨x1, x2, x3, x4, x5, x6, x7, x8⟩ := c
        obtain ⟨y1, y2, y3, y4, y5, y6, y7, y8⟩ := c'
        simp_all
      rw [this] at h; exact h _ _ (hS1.trans k6))
end Go.Proofs.YtdnfaboigajkhaaGreatDoor

namespace Go.Proofs.YtdnfaboigajkhaaGreatDoor
open Go.Emb Go.RowKit Go.Kd Go.Hm
variable {w : World} {K : Value → World → Prop} {σ : Q5} {l : List Cla}
end Go.Proofs.YtdnfaboigajkhaaGreatDoor

namespace Go.Emb
open Go.RowKit
end Go.Emb
namespace Go.Proofs.YtdnfaboigajkhaaGreatDoor
open Go.Emb Go.RowKit Go.Kd Go.Hm
variable {w : World} {K : Value → World → Prop} {σ : Q5} {l : List Cla}
theorem Q2P {v : Value} {n : X0} (hs : X6 w σ) (ht : Tab σ v l) (ok : Ok l) (hn : n.length ≤ W3) (h : ∀ w' σ', Stp w σ w' σ' → K (S (printM l n)) w') : Q1 P F.s [v, S n] w K :=
  Q1d ok _ (.inr (Nat.lt_succ_self _)) hn hs ht h
end Go.Proofs.YtdnfaboigajkhaaGreatDoor

namespace Go.Proofs.YtdnfaboigajkhaaGreatDoor
open Go.Emb Go.RowKit Go.Kd Go.Hm
variable {w : World} {K : Value → World → Prop} {σ : Q5} {l : List Cla}
set_option maxRecDepth 100000 in
set_option maxHeartbeats 4000000 in
theorem Q3x {lv : Value} (hs : X6 w σ) (hg : Glb σ) (hl : Sl 8 U7 σ lv l)
    (h : ∀ w' σ', Stp w σ w' σ' → K (.bool true) w') : Q1 P F.bB [lv] w K := Oz (by
  unfold Xw
  (repeat' (first | (with_reducible intro _) | (with_reducible refine V3 ?_) | (simp only [↓Mm, Mm, ↓Mp, Mp, Mb, reduceIte]) | (with_reducible first | refine ld aS aL aR ?_ | refine X8 aS aL aR ?_ | refine Y3 aS aL aR ?_ | refine Q6 aL ?_ | refine Y6 aR ?_ | refine Z4 aS ?_ | refine L1 aS aL ?_ | refine U2 aS aR ?_ | refine Y0 aS aR aR (Rep.one (by assumption)) ?_ | refine U1 aS aR aR aR ?_ | refine Q9q au au ?_ | refine Q4q au au ?_ | (refine Y2 (fun hh => ?_) (fun hh => ?_) <;> (try simp only [hh, Bool.not_true, Bool.not_false, ↓Mm, Mm, ↓Mp, Mp, Mb, reduceIte])) | (refine Q4 (fun hh => ?_) (fun hh => ?_) <;> (try simp only [hh, Bool.not_true, Bool.not_false, ↓Mm, Mm, ↓Mp, Mp, Mb, reduceIte])))))
  all_goals try exact h _ _ (by (repeat (first | exact Stp.refl (by (first | assumption | exact Stp.sat (by assumption) | exact Hst.sat (by assumption))) | assumption | refine Stp.trans ?_ (by first | assumption | exact Hst.stp (by assumption)))))
  (repeat' (first | (with_reducible intro _) | (with_reducible refine V3 ?_) | (simp only [↓Mm, Mm, ↓Mp, Mp, Mb, reduceIte]) | (with_reducible first | refine ld aS aL aR ?_ | refine X8 aS aL aR ?_ | refine Y3 aS aL aR ?_ | refine Q6 aL ?_ | refine Y6 aR ?_ | refine Z4 aS ?_ | refine L1 aS aL ?_ | refine U2 aS aR ?_ | refine Y0 aS aR aR (Rep.one (by assumption)) ?_ | refine U1 aS aR aR aR ?_ | refine Q9I au au au au ?_ ?_ | refine Q9i au au au ?_ ?_ | refine Q4q au au ?_ | refine Q8s  ?_ | refine Q5C  ?_ | (refine Y2 (fun hh => ?_) (fun hh => ?_) <;> (try simp only [hh, Bool.not_true, Bool.not_false, ↓Mm, Mm, ↓Mp, Mp, Mb, reduceIte])) | (refine Q4 (fun hh => ?_) (fun hh => ?_) <;> (try simp only [hh, Bool.not_true, Bool.not_false, ↓Mm, Mm, ↓Mp, Mp, Mb, reduceIte])))))
  all_goals try exact h _ _ (by (repeat (first | exact Stp.refl (by (first | assumption | exact Stp.sat (by assumption) | exact Hst.sat (by assumption))) | assumption | refine Stp.trans ?_ (by first | assumption | exact Hst.stp (by assumption)))))
  all_goals try (exfalso; clear h; simp_all; done)
  rename_i w1 σ1 hk1 hf tb w2 σ2 hn0 wf ok hk2 ht rv w3 σ3 _ hk3 hrv w4 σ4 hk4 _
  have hlen : (Q8 l).length ≤ 1000 := Q7L (by assumption)
  have hS4 := ((hk1.trans hk2).trans hk3).trans hk4
  have ht4 := (ht.lift ⟨hk3.le⟩).lift ⟨hk4.le⟩
  have hv4 := hrv.up hk4
  refine Q7W hk4.sat ht4 ok.len fun nv w5 σ5 hk5 hnv => ?_
  have hS5 := hS4.trans hk5
  have ht5 := ht4.lift ⟨hk5.le⟩
  have hv5 := hv4.up hk5
  have hml : ((Q8 l).map (·.name)).length = (Q8 l).length := by simp
  refine Q6 hnv ?_
  refine Q6 hv5 ?_
  refine Na ?_
  (try simp only [hml, decide_true, Bool.not_true, ↓Mm, Mm, ↓Mr, Mr, Mb, reduceIte])
  refine V2 (Q8 l).length (fun n w' => ∃ σ', Stp w5 σ5 w' σ') ⟨σ5, Stp.refl hk5.sat⟩ fun n w6 d hn hinv => ?_
  obtain ⟨σ6, hk6⟩ := hinv
  have hv6 := hv5.up hk6
  have hnv6 := hnv.up hk6
  refine Q6 hv6 ?_
  refine Z5 ?_
  refine Q4 (fun hc => ?_) (fun hc => ?_)
  · have hn' : n < (Q8 l).length := by simpa using hc
    have hn2 : n < ((Q8 l).map (·.name)).length := by rw [hml]; exact hn'
    refine Y4 hnv6 hn2 ?_
    obtain ⟨p1, b1⟩ := hnv6.elS hn2
    simp only [List.getElem_map] at p1 b1
    refine X8 hk6.sat p1 rfl ?_
    have hlk := wf.own.lk (List.getElem_mem hn')
    refine Q9n hk6.sat (ht5.lift ⟨hk6.le⟩) ok.sm fun lv fv mv w7 σ7 hk7 hr7 => ?_
    rw [hlk] at hr7 ⊢
    simp only [Option.getD_some, Option.isSome_some] at hr7 ⊢
    refine M5 (vs := [_, _]) rfl ?_
    refine M5 (vs := [_, _]) rfl ?_
    refine Y0 hk7.sat (by rfl) rfl (Rep.one hr7) fun q w8 σ8 hk8 hq8 => ?_
    have hk68 := (hk6.trans hk7).trans hk8
    have hr8 := H2 hr7 ⟨hk8.le⟩
    have hv8 := (hv6.up hk7).up hk8
    have hnv8 := (hnv6.up hk7).up hk8
    have ht8 : Tab σ8 (.pointer (some tb)) (Q8 l) := ht5.lift ⟨hk68.le⟩
    have hs8 := hk8.sat
    have p8 := (p1.up hk7).up hk8
    obtain ⟨lv2, fv2, mv2, p2, r2⟩ := hv8.elC hn'
    have hobj : Dm (Q8 l) (Q8 l)[n].name = !(Q8 l)[n].abs := by unfold Dm; rw [hlk]
    generalize (Q8 l)[n] = c at *
    clear hk6 hk7 hr7 p1 hv6 hnv6
    refine W1 hs8 ?_
    (repeat (apply L9; (· intros; (repeat (rename_i hx; subst hx)); (repeat' (first | (with_reducible exact U8 rfl) | (with_reducible exact V9 (Stp.bel (by (repeat (first | exact Stp.refl (by (first | assumption | exact Stp.sat (by assumption) | exact Hst.sat (by assumption))) | assumption | refine Stp.trans ?_ (by first | assumption | exact Hst.stp (by assumption)))))) rfl) | (with_reducible intro _) | (simp only [↓Mm, Mm, ↓Mp, Mp, Mb, reduceIte])  | (with_reducible show Q2 _ _ _ _ _; first | refine X8 aS aL aR ?_ | refine Y3 aS aL aR ?_ | refine ld aS aL aR ?_) | (with_reducible show indexAddr _ _ _ _ _ _; refine Y4 aL au ?_) | (with_reducible show X4 _ _ _ _ _ _ _ _; refine Q6 aL ?_) | (with_reducible show D1 _ _ _ _ _ _; refine Y6 aR ?_) | (with_reducible show pick _ _ _ _ _ _; refine W8 ?_) | (apply W9; intro hh; (try simp only [hh, reduceIte, ↓Mm, Mm, ↓Mp, Mp, Mb, reduceIte])))); done)))
    simp only [decide_true, Bool.not_true, Bool.not_false, Bool.false_eq_true, Bool.true_eq_false, reduceIte]
    (repeat (apply L9; (· intros; (repeat (rename_i hx; subst hx)); (repeat' (first | (with_reducible exact U8 rfl) | (with_reducible exact V9 (Stp.bel (by (repeat (first | exact Stp.refl (by (first | assumption | exact Stp.sat (by assumption) | exact Hst.sat (by assumption))) | assumption | refine Stp.trans ?_ (by first | assumption | exact Hst.stp (by assumption)))))) rfl) | (with_reducible intro _) | (simp only [↓Mm, Mm, ↓Mp, Mp, Mb, reduceIte])  | (with_reducible show Q2 _ _ _ _ _; first | refine X8 aS aL aR ?_ | refine Y3 aS aL aR ?_ | refine ld aS aL aR ?_) | (with_reducible show indexAddr _ _ _ _ _ _; refine Y4 aL au ?_) | (with_reducible show X4 _ _ _ _ _ _ _ _; refine Q6 aL ?_) | (with_reducible show D1 _ _ _ _ _ _; refine Y6 aR ?_) | (with_reducible show pick _ _ _ _ _ _; refine W8 ?_) | (with_reducible show Q1 _ _ _ _ _; first | refine Q3p au au au ?_ | refine Kn au au ?_ | refine Q2P au au au au ?_) | (apply W9; intro hh; (try simp only [hh, reduceIte, ↓Mm, Mm, ↓Mp, Mp, Mb, reduceIte])))); done)))
    simp only [decide_true, Bool.not_true, Bool.not_false, Bool.false_eq_true, Bool.true_eq_false, reduceIte]
    (repeat (apply L9; (· intros; (repeat (rename_i hx; subst hx)); (repeat' (first | (with_reducible exact U8 rfl) | (with_reducible exact V9 (Stp.bel (by (repeat (first | exact Stp.refl (by (first | assumption | exact Stp.sat (by assumption) | exact Hst.sat (by assumption))) | assumption | refine Stp.trans ?_ (by first | assumption | exact Hst.stp (by assumption)))))) rfl) | (with_reducible intro _) | (simp only [↓Mm, Mm, ↓Mp, Mp, Mb, reduceIte])  | (with_reducible show Q2 _ _ _ _ _; first | refine X8 aS aL aR ?_ | refine Y3 aS aL aR ?_ | refine ld aS aL aR ?_) | (with_reducible show indexAddr _ _ _ _ _ _; refine Y4 aL au ?_) | (with_reducible show X4 _ _ _ _ _ _ _ _; refine Q6 aL ?_) | (with_reducible show D1 _ _ _ _ _ _; refine Y6 aR ?_) | (with_reducible show pick _ _ _ _ _ _; refine W8 ?_) | (with_reducible show Q1 _ _ _ _ _; first | refine Q3p au au au ?_ | refine Kn au au ?_ | refine Q2P au au au au ?_) | (apply W9; intro hh; (try simp only [hh, reduceIte, ↓Mm, Mm, ↓Mp, Mp, Mb, reduceIte])))); done)))
    simp only [hobj, BEq.rfl, decide_true, Bool.not_true, Bool.not_false, Bool.false_eq_true, Bool.true_eq_false, reduceIte]
    (intros; (repeat (rename_i hx; subst hx)); (try simp only [↓Mm, Mm, ↓Mp, Mp, Mb, reduceIte]))
    rename_i w9 hb9
    refine Q69 hb9.sat (hv8.up hb9.stp) ok b1 fun w10 σ10 hk10 => ?_
    refine Nd ?_
    simp only [decide_true, Bool.not_true, ↓Mm, Mm, ↓Mr, Mr, Mb, reduceIte]
    exact Y5 (by omega) hn' ⟨σ10, (hk68.trans hb9.stp).trans hk10⟩
  · exact h _ _ (hS5.trans hk6))
end Go.Proofs.YtdnfaboigajkhaaGreatDoor

namespace Go.Proofs.YtdnfaboigajkhaaGreatDoor.hierMakes
open Go.ChangeShapes Go.WideShapes Go.ChangeAt Go.RowKit
open Go.Emb
theorem own : ownKnob Tryz.prog.godebug = none := by kernel_rfl
theorem lay : laidOutB Tryz.prog = true := by kernel_rfl
set_option maxRecDepth 100000 in
theorem Q9f (os : Os) (started : os.Started) (H : Type) (enc : TypeId × Value → H) :
    ReturnsInHanded {} Tryz.checked os 11 .any (fun w args => (Rows.hierMakesSpec.pre enc Tryz.prog Tryz.f11 [] false w args ∧ laidMetH Tryz.prog laidAll w) ∧ sizedMet enc Tryz.prog Tryz.f11 (OpenSpec.ofChange Rows.hierMakesSpec) false w args) (Rows.hierMakesSpec.post enc Tryz.prog Tryz.f11 false true false false) := by
  refine returnsInHanded_of_change_and (C := Tryz.checked) (X := fun w _ => laidMetH Tryz.prog laidAll w) (fun _ _ _ hh h => h.of_heap hh) own started (by kernel_rfl) Tryz.func11
    (ChangeSpec.witness_shaped (enc := enc) (C := Tryz.checked) (os := os) (X := fun w _ => laidMetH Tryz.prog laidAll w) false (World.laidAll Tryz.prog os laidAll) #[.slice none 0 0] 8 (World.laidAll_os _ _ _)
      (World.shaped_of_ZipB (by kernel_rfl) (by kernel_rfl)) (by kernel_rfl) (by kernel_rfl) (by kernel_rfl) (by rw [MakeChecks.laidMetH_plain _ _ _ (by kernel_rfl)]; exact laidMet_laidAll _ (by kernel_rfl) (by kernel_rfl))) ?_
  intro W V8 args ds gs before hval0 hW _ hsz0 hL _
  have hsz : (DataW.weightsEach Tryz.prog (Tryz.f11.params.toList ++ Rows.hierMakesSpec.plain.varTypes Tryz.prog) (ds ++ gs)).all (· ≤ reachBytes) = true := hsz0
  have hval : ∀ (j : Nat) t v, Tryz.f11.params[j]? = some t → args[j]? = some v → Value.okWide Tryz.prog W .any V8 t v := hval0
  have hW' := hW
  obtain ⟨p, q, hA0, hV, rfl, hfz, hnd⟩ := hW
  have hA : DataW.TrodAll enc Tryz.prog W 0 (fun _ => true) true Tryz.f11.params.toList args.toList ds p := hA0
  have hlt := DataW.TrodAll.lt hA
  rw [Tryz.params11] at hA hval hsz
  obtain ⟨v0, vs0, d0, ds0, p0, q0, hargs, rfl, rfl, h0, r0⟩ := trodAll_cons hA
  obtain ⟨rfl, rfl, rfl⟩ := trodAll_nil r0
  obtain rfl : args = #[v0] := by cases args; simp_all
  obtain ⟨rfl, rfl⟩ := trodVars_none hV
  have g0 : ∀ x ∈ p0, x.block < W.heap.size := fun x hx => hlt x (by simp [hx])
  have k0 := fun (W' : World) (bel : Below W.heap.size W W') => Below.trod lay (by kernel_rfl) (of_decide_eq_true (by kernel_rfl)) h0 bel g0
  obtain ⟨l0, e0⟩ := Q7S (hval 0 22 v0 rfl rfl) h0 (Q8T hsz (j := 0) (t := 22) rfl rfl)
  have hc : Q1 Tryz.prog 11 [v0] W (fun e w' => e = .bool true ∧ Below W.heap.size W w') := Q3x Q5Y (Q8U hL) e0 (fun w' σ' hb => ⟨rfl, hb.bel⟩)
  refine (Q0R Tryz.func11 (by kernel_rfl) (by kernel_rfl) hc).mono fun e W' he => ?_
  obtain ⟨v, rfl⟩ : ∃ v, e = .returned v := by cases e <;> first | exact ⟨_, rfl⟩ | exact he.elim
  obtain ⟨rfl, bel⟩ := he
  exact ⟨_, rfl, _, _, _, [], _, [], hW', trodAll_mk1 (shut_bool Tryz.underlying4 _), (trodAll_cons_mk (k0 W' bel) trodAll_mk0), rfl, bel.frame _, fun h => by cases h⟩
theorem over : Rows.hierMakesRow.holds Tryz.pinned (OpenSpec.ofChange Rows.hierMakesSpec) :=
  OpenClaim.holds_of_wide 11 Tryz.f11 rfl rfl rfl rfl rfl rfl rfl ⟨rfl, rfl, rfl, rfl, rfl⟩ rfl rfl rfl rfl rfl (by kernel_rfl) Tryz.func11 (by kernel_rfl)
    (of_decide_eq_true (by kernel_rfl)) (by unfold Func.isWrapper; first | (rw [if_pos (by decide +kernel)]; kernel_rfl) | (rw [if_neg (by decide +kernel)]; exact ⟨rfl, rfl⟩))
    (fun os started H enc _ => Q9f os started H enc)
end Go.Proofs.YtdnfaboigajkhaaGreatDoor.hierMakes
namespace Go.Proofs.YtdnfaboigajkhaaGreatDoor
theorem Q0y : Rows.HierMakesSaid := hierMakes.over
end Go.Proofs.YtdnfaboigajkhaaGreatDoor
