/- Parts of a proof about the given program: its functions as texts of their own, what each computes, plain laws of that. The conditions of each stand in its statement. -/
import Derived.Test.YtdnfaboigajkhaaGreatDoorB1
import Derived.Below
set_option linter.unnecessarySimpa false
set_option linter.defProp false
set_option linter.unusedSectionVars false
set_option linter.unusedVariables false
set_option linter.unusedSimpArgs false
set_option maxRecDepth 100000
namespace Go.Proofs.YtdnfaboigajkhaaGreatDoor
open Go.Emb
def Rv : W2 := [none, none, none, none, none, some ([26], [6, 8, 11, 12, 13, 26, 27, 28, 29, 30, 31, 32, 33, 34, 35, 36, 37, 38, 39, 40]), none, none, none, none, none, none, none, none, none, some ([43], [6, 8, 15, 16, 17, 18, 43, 44, 45, 46, 47, 48, 49, 50, 51, 52, 53, 54, 55, 56, 57, 58]), none, none, none, none, none, none, none, none]
def Um (a0 a1 a2 : Value) (w : World) (K : Value → World → Prop) : Prop :=
 M0 P T.c w fun t7 w =>
 Q1 P F.aD [a0, a1] w fun t21 w =>
 Q1 P F.n [t21] w fun t23 w =>
 X4 P .len [T.g] T.d [false] [t21] w fun t25 w =>
 lp (α := Value) (.int .i64 0) w fun again5 x5 d_ w =>
 Q3 P .lss T.d (.tmp 26) (.tmp 25) x5 t25 w fun t27 w =>
 X1 t27 (
 indexAddr P T.g t21 x5 w fun t28 w =>
 Q2 P T.a t28 w fun t29 w =>
 M0 P T.a w fun v_c_11 w =>
 V5 P T.a v_c_11 t29 w fun _u w =>
 Q2 P T.a v_c_11 w fun t31 w =>
 Q1 P F.c4 [t31, a2] w fun t33 w =>
 ext P t33 0 w fun t34 w =>
 ext P t33 1 w fun t35 w =>
 M0 P T.c w fun v_m_12 w =>
 V5 P T.c v_m_12 t34 w fun _u w =>
 X1 t35 (
 dr w fun Tr Br =>
 Q7 Tr (fun φ37 => ∀ w, Br w → fieldAddr P T.a v_c_11 0 w (dk Tr φ37 w)) fun φ37 =>
 Q7 Tr (fun φ38 => ∀ t37 w, Br w → φ37 t37 w → Q2 P T.b t37 w (dk Tr φ38 w)) fun φ38 =>
 Q7 Tr (fun φ39 => ∀ w, Br w → Q2 P T.c v_m_12 w (dk Tr φ39 w)) fun φ39 =>
 ∀ t37 t38 t39 w, Br w → φ37 t37 w → φ38 t38 w → φ39 t39 w → 
 V5 P T.c t7 t39 w fun _u w =>
 N2 P T.c t7 w fun r1 =>
 K (.tuple #[t38, r1, (.bool true)]) w) (
 Q3 P .add T.d (.tmp 26) (.const (.int .i64 1)) x5 (.int .i64 1) w fun t40 w =>
 again5 t40 w)) (
 X4 P .len [T.g] T.d [false] [t21] w fun t42 w =>
 lp (α := Value) (.int .i64 0) w fun again15 x15 d_ w =>
 Q3 P .lss T.d (.tmp 43) (.tmp 42) x15 t42 w fun t44 w =>
 X1 t44 (
 indexAddr P T.g t21 x15 w fun t45 w =>
 Q2 P T.a t45 w fun t46 w =>
 M0 P T.a w fun v_c_15 w =>
 V5 P T.a v_c_15 t46 w fun _u w =>
 Q2 P T.a v_c_15 w fun t49 w =>
 Q1 P F.aE [a0, t49, a2] w fun t51 w =>
 ext P t51 0 w fun t52 w =>
 ext P t51 1 w fun t53 w =>
 ext P t51 2 w fun t54 w =>
 M0 P T.c w fun v_m_17 w =>
 V5 P T.c v_m_17 t53 w fun _u w =>
 X1 t54 (
 dr w fun Tr Br =>
 Q7 Tr (fun φ57 => ∀ w, Br w → Q2 P T.c v_m_17 w (dk Tr φ57 w)) fun φ57 =>
 ∀ t57 w, Br w → φ57 t57 w → 
 V5 P T.c t7 t57 w fun _u w =>
 N2 P T.c t7 w fun r1 =>
 K (.tuple #[t52, r1, (.bool true)]) w) (
 Q3 P .add T.d (.tmp 43) (.const (.int .i64 1)) x15 (.int .i64 1) w fun t58 w =>
 again15 t58 w)) (
 Qu P T.c [] w fun t59 w =>
 V5 P T.c t7 t59 w fun _u w =>
 N2 P T.c t7 w fun r1 =>
 K (.tuple #[(.string ⟨#[]⟩), r1, (.bool false)]) w))
theorem Ri {a0 a1 a2 : Value} {w : World} {K : Value → World → Prop} (h : Um a0 a1 a2 w K) : Q1 P F.aS [a0, a1, a2] w K := Q9 Rv Tryz.func26 rfl (by decide) (by kernel_rfl) h
def P0 (a0 a1 : Value) (w : World) (K : Value → World → Prop) : Prop :=
 nilCheck P a0 w fun t7 w =>
 indexAddr P T.a1 t7 a1 w fun t8 w =>
 Q2 P T.l t8 w fun t9 w =>
 K t9 w
theorem Wn {a0 a1 : Value} {w : World} {K : Value → World → Prop} (h : P0 a0 a1 w K) : Q1 P F.aq [a0, a1] w K := Q9 (List.replicate 2 none) Tryz.func129 rfl (by decide) (by kernel_rfl) h
def Dg : W2 := [none, some ([0], [0, 5, 6, 7, 8, 9, 10, 11, 12, 13, 14, 15, 16, 17, 18, 19, 20]), some ([0], [0, 5, 6, 7, 8, 9, 10, 11, 12, 13, 14, 15, 16, 17, 18, 19, 20]), none, none, none, none, none]
def Yb (a0 a1 : Value) (w : World) (K : Value → World → Prop) : Prop :=
 jn (α := Value) w (fun J1 w =>
 lp (α := Value) a0 w fun again2 x2 d_ w =>
 X4 P .len [T.b] T.d [false] [x2] w fun t6 w =>
 Q3 P .gtr T.d (.tmp 6) (.const (.int .i64 0)) t6 (.int .i64 0) w fun t7 w =>
 X1 t7 (
 X4 P .len [T.b] T.d [false] [x2] w fun t11 w =>
 Q3 P .sub T.d (.tmp 11) (.const (.int .i64 1)) t11 (.int .i64 1) w fun t12 w =>
 E2 P T.b x2 t12 w fun t13 w =>
 Q1 P F.aq [a1, t13] w fun t14 w =>
 U6 P .not t14 w fun t15 w =>
 X1 t15 (
 J1 x2 w) (
 X4 P .len [T.b] T.d [false] [x2] w fun t18 w =>
 Q3 P .sub T.d (.tmp 18) (.const (.int .i64 1)) t18 (.int .i64 1) w fun t19 w =>
 R7 P T.b x2 none (some t19) none w fun t20 w =>
 again2 t20 w)) (
 J1 x2 w)) fun z1 d_ w =>
 K z1 w
theorem Oo {a0 a1 : Value} {w : World} {K : Value → World → Prop} (h : Yb a0 a1 w K) : Q1 P F.ag [a0, a1] w K := Q9 Dg Tryz.func95 rfl (by decide) (by kernel_rfl) h
def Wu (a0 a1 : Value) (w : World) (K : Value → World → Prop) : Prop :=
 Q3 P .eql T.b (.tmp 7) (.const (.string ⟨#[]⟩)) a0 (.string ⟨#[]⟩) w fun t8 w =>
 Q0 t8 false w (fun w J => J a1 w) fun t10 w =>
 Q0 t8 false w (Q3 P .eql T.b (.tmp 10) (.const (.string ⟨#[]⟩)) t10 (.string ⟨#[]⟩)) fun t11 w =>
 pick P t8 (.bool true) t11 w fun t12 w =>
 X1 t12 (
 K a0 w) (
 X4 P .len [T.b] T.d [false] [a1] w fun t15 w =>
 Q3 P .eql T.d (.tmp 15) (.const (.int .i64 1)) t15 (.int .i64 1) w fun t16 w =>
 Q0 t16 true w (fun w J => J a1 w) fun t18 w =>
 Q0 t16 true w (E2 P T.b t18 (.int .i64 0)) fun t19 w =>
 Q0 t16 true w (Q3 P .lss T.s (.tmp 19) (.const (.int .u8 128)) t19 (.int .u8 128)) fun t20 w =>
 pick P t16 t20 (.bool false) w fun t21 w =>
 X1 t21 (
 E2 P T.b a1 (.int .i64 0) w fun t24 w =>
 Q1 P F.cj [a0, t24] w fun t25 w =>
 K t25 w) (
 Q1 P F.bO [a1] w fun t28 w =>
 ext P t28 0 w fun t29 w =>
 ext P t28 1 w fun t30 w =>
 M0 P T.a1 w fun v_as_5 w =>
 V5 P T.a1 v_as_5 t29 w fun _u w =>
 X1 t30 (
 Q1 P F.ag [a0, v_as_5] w fun t33 w =>
 K t33 w) (
 Q1 P F.ch [a0, a1] w fun t36 w =>
 K t36 w)))
theorem Gr {a0 a1 : Value} {w : World} {K : Value → World → Prop} (h : Wu a0 a1 w K) : Q1 P F.bh [a0, a1] w K := Q9 (List.replicate 12 none) Tryz.func57 rfl (by decide) (by kernel_rfl) h
def Lg (a0 a1 : Value) (w : World) (K : Value → World → Prop) : Prop :=
 Q3 P .eql T.b (.tmp 6) (.const (.string ⟨#[110, 117, 108, 108]⟩)) a1 (.string ⟨#[110, 117, 108, 108]⟩) w fun t7 w =>
 X1 t7 (
 K (.bool true) w) (
 Q1 P F.bh [a1, (.string ⟨#[91, 93]⟩)] w fun t9 w =>
 Q1 P F.a1 [a1] w fun t11 w =>
 Q0 t11 true w (fun w J => J t9 w) fun t13 w =>
 Q0 t11 true w (Q1 P F.aa [t13]) fun t14 w =>
 Q0 t11 true w (fun w J => J t14 w) fun t15 w =>
 Q0 t15 false w (fun w J => J a0 w) fun t16 w =>
 Q0 t15 false w (fun w J => J t9 w) fun t17 w =>
 Q0 t15 false w (Q1 P F.f [t16, t17]) fun t18 w =>
 Q0 t11 true w (pick P t15 (.bool true) t18) fun t19 w =>
 pick P t11 t19 (.bool false) w fun t20 w =>
 K t20 w)
theorem Fz {a0 a1 : Value} {w : World} {K : Value → World → Prop} (h : Lg a0 a1 w K) : Q1 P F.v [a0, a1] w K := Q9 (List.replicate 6 none) Tryz.func18 rfl (by decide) (by kernel_rfl) h
def Yr (a0 a1 : Value) (w : World) (K : Value → World → Prop) : Prop :=
 Q3 P .neq T.b (.tmp 4) (.const (.string ⟨#[110, 117, 108, 108]⟩)) a0 (.string ⟨#[110, 117, 108, 108]⟩) w fun t5 w =>
 Q0 t5 true w (Q2 P T.p a1) fun t7 w =>
 Q0 t5 true w (fun w J => J a0 w) fun t8 w =>
 Q0 t5 true w (Q1 P F.v [t7, t8]) fun t9 w =>
 pick P t5 t9 (.bool false) w fun t10 w =>
 K t10 w
theorem Oa {a0 a1 : Value} {w : World} {K : Value → World → Prop} (h : Yr a0 a1 w K) : Q1 P F.ae [a0, a1] w K := Q9 (List.replicate 2 none) Tryz.func83 rfl (by decide) (by kernel_rfl) h
def Yk (a0 a1 : Value) (w : World) (K : Value → World → Prop) : Prop :=
 Q2 P T.u a1 w fun t4 w =>
 Z7 P t4 [a0] w fun t6 w =>
 U6 P .not t6 w fun t7 w =>
 K t7 w
theorem Dk {a0 a1 : Value} {w : World} {K : Value → World → Prop} (h : Yk a0 a1 w K) : Q1 P F.af [a0, a1] w K := Q9 (List.replicate 2 none) Tryz.func84 rfl (by decide) (by kernel_rfl) h
def Pc (a0 : Value) (w : World) (K : Value → World → Prop) : Prop :=
 box P T.c a0 w fun v_m_1 w =>
 dr w fun Tr Br =>
 Q7 Tr (fun φ3 => ∀ w, Br w → fieldAddr P T.c v_m_1 1 w (dk Tr φ3 w)) fun φ3 =>
 Q7 Tr (fun φ8 => ∀ w, Br w → fieldAddr P T.c v_m_1 2 w (dk Tr φ8 w)) fun φ8 =>
 Q7 Tr (fun φ4 => ∀ t3 w, Br w → φ3 t3 w → Q2 P T.f t3 w (dk Tr φ4 w)) fun φ4 =>
 Q7 Tr (fun φ5 => ∀ t4 w, Br w → φ4 t4 w → Q1 P F.cg [t4, (.string ⟨#[44]⟩)] w (dk Tr φ5 w)) fun φ5 =>
 Q7 Tr (fun φ6 => ∀ t5 w, Br w → φ5 t5 w → Q3 P .add T.b (.const (.string ⟨#[40]⟩)) (.tmp 5) (.string ⟨#[40]⟩) t5 w (dk Tr φ6 w)) fun φ6 =>
 Q7 Tr (fun φ7 => ∀ t6 w, Br w → φ6 t6 w → Q3 P .add T.b (.tmp 6) (.const (.string ⟨#[41]⟩)) t6 (.string ⟨#[41]⟩) w (dk Tr φ7 w)) fun φ7 =>
 Q7 Tr (fun φ9 => ∀ t8 w, Br w → φ8 t8 w → Q2 P T.b t8 w (dk Tr φ9 w)) fun φ9 =>
 ∀ t3 t8 t4 t5 t6 t7 t9 w, Br w → φ3 t3 w → φ8 t8 w → φ4 t4 w → φ5 t5 w → φ6 t6 w → φ7 t7 w → φ9 t9 w → 
 Q3 P .add T.b (.tmp 7) (.tmp 9) t7 t9 w fun t10 w =>
 K t10 w
theorem Q2K {a0 : Value} {w : World} {K : Value → World → Prop} (h : Pc a0 w K) : Q1 P F.bM [a0] w K := Q9 (List.replicate 2 none) Tryz.func33 rfl (by decide) (by kernel_rfl) h
def Qt (a0 a1 a2 a3 : Value) (w : World) (K : Value → World → Prop) : Prop :=
 box P T.c a0 w fun v_m_4 w =>
 Q2 P T.o a1 w fun t9 w =>
 fieldAddr P T.c v_m_4 0 w fun t10 w =>
 Q2 P T.b t10 w fun t11 w =>
 lookup P T.o t9 t11 true w fun t12 w =>
 ext P t12 0 w fun t13 w =>
 ext P t12 1 w fun t14 w =>
 dr w fun Tr Br =>
 Q7 Tr (fun φ16 => ∀ w, Br w → fieldAddr P T.c v_m_4 0 w (dk Tr φ16 w)) fun φ16 =>
 Q7 Tr (fun φ19 => ∀ w, Br w → fieldAddr P T.c v_m_4 0 w (dk Tr φ19 w)) fun φ19 =>
 Q7 Tr (fun φ23 => ∀ w, Br w → fieldAddr P T.a a2 0 w (dk Tr φ23 w)) fun φ23 =>
 Q7 Tr (fun φ15 => ∀ w, Br w → Q2 P T.o a1 w (dk Tr φ15 w)) fun φ15 =>
 Q7 Tr (fun φ17 => ∀ t16 w, Br w → φ16 t16 w → Q2 P T.b t16 w (dk Tr φ17 w)) fun φ17 =>
 Q7 Tr (fun φ18 => ∀ w, Br w → Q2 P T.o a3 w (dk Tr φ18 w)) fun φ18 =>
 Q7 Tr (fun φ20 => ∀ t19 w, Br w → φ19 t19 w → Q2 P T.b t19 w (dk Tr φ20 w)) fun φ20 =>
 Q7 Tr (fun φ21 => ∀ w, Br w → Q2 P T.c v_m_4 w (dk Tr φ21 w)) fun φ21 =>
 Q7 Tr (fun φ22 => ∀ t21 w, Br w → φ21 t21 w → Q1 P F.bM [t21] w (dk Tr φ22 w)) fun φ22 =>
 Q7 Tr (fun φ24 => ∀ t23 w, Br w → φ23 t23 w → Q2 P T.b t23 w (dk Tr φ24 w)) fun φ24 =>
 Q7 Tr (fun φ25 => ∀ t15 t17 w, Br w → φ15 t15 w → φ17 t17 w → mapEntry P T.o t15 t17 w (dk Tr φ25 w)) fun φ25 =>
 Q7 Tr (fun φ26 => ∀ t25 w, Br w → φ25 t25 w → ext P t25 1 w (dk Tr φ26 w)) fun φ26 =>
 Q7 Tr (fun φ_12 => ∀ t15 t26 t22 w, Br w → φ15 t15 w → φ26 t26 w → φ22 t22 w → entryStore P T.o t15 t26 t22 w (dk Tr φ_12 w)) fun φ_12 =>
 ∀ t16 t19 t23 t15 t17 t18 t20 t21 t22 t24 t25 t26 u12 w, Br w → φ16 t16 w → φ19 t19 w → φ23 t23 w → φ15 t15 w → φ17 t17 w → φ18 t18 w → φ20 t20 w → φ21 t21 w → φ22 t22 w → φ24 t24 w → φ25 t25 w → φ26 t26 w → φ_12 u12 w → 
 mapUpdate P T.o t18 t20 t24 w fun _u w =>
 Q0 t14 true w (fun w J => J t13 w) fun t29 w =>
 Q0 t14 true w (Q2 P T.c v_m_4) fun t30 w =>
 Q0 t14 true w (Q1 P F.bM [t30]) fun t31 w =>
 Q0 t14 true w (Q3 P .neq T.b (.tmp 29) (.tmp 31) t29 t31) fun t32 w =>
 pick P t14 t32 (.bool false) w fun t33 w =>
 K t33 w
theorem Mw {a0 a1 a2 a3 : Value} {w : World} {K : Value → World → Prop} (h : Qt a0 a1 a2 a3 w K) : Q1 P F.aA [a0, a1, a2, a3] w K := Q9 (List.replicate 4 none) Tryz.func87 rfl (by decide) (by kernel_rfl) h
def Yf (a0 a1 a2 : Value) (w : World) (K : Value → World → Prop) : Prop :=
 box P T.a a0 w fun v_d_3 w =>
 fieldAddr P T.a v_d_3 7 w fun t5 w =>
 Q2 P T.e t5 w fun t6 w =>
 D0 P (.func F.aA) [] [a1, v_d_3, a2] w fun t7 w =>
 Q1 P F.a [t6, t7] w fun t8 w =>
 K t8 w
theorem Di {a0 a1 a2 : Value} {w : World} {K : Value → World → Prop} (h : Yf a0 a1 a2 w K) : Q1 P F.aI [a0, a1, a2] w K := Q9 (List.replicate 2 none) Tryz.func85 rfl (by decide) (by kernel_rfl) h
def Hj : W2 := [none, none, none, some ([21], [4, 6, 21, 22, 23, 24, 25, 26, 27, 28, 29, 30, 31, 32]), none, none, none, none, none, none, none, none, none, some ([37], [4, 9, 37, 38, 39, 40, 41, 42, 43, 44, 45, 46]), none, none, none, none, none, none, none, none, some ([50], [4, 11, 50, 51, 52, 53, 54, 55, 56, 57, 58, 59, 60, 61, 62, 63, 64, 65, 66, 67, 68, 69, 70]), none, none, none, none, none, none, none, none, none, none, none, none, none, none, none, some ([], [4, 14, 15, 16, 17, 82, 83, 84, 85, 86, 87, 88, 89, 90, 91, 92, 93, 94, 95, 96, 97, 98, 99, 100]), none, none, none, none, none, none, none]
def Zv (a0 a1 : Value) (w : World) (K : Value → World → Prop) : Prop :=
 box P T.p a0 w fun t2 w =>
 box P T.a a1 w fun t3 w =>
 fieldAddr P T.a t3 6 w fun t18 w =>
 Q2 P T.h t18 w fun t19 w =>
 X4 P .len [T.h] T.d [false] [t19] w fun t20 w =>
 lp (α := Value) (.int .i64 0) w fun again3 x3 d_ w =>
 Q3 P .lss T.d (.tmp 21) (.tmp 20) x3 t20 w fun t22 w =>
 X1 t22 (
 indexAddr P T.h t19 x3 w fun t23 w =>
 Q2 P T.i t23 w fun t24 w =>
 M0 P T.i w fun t6 w =>
 V5 P T.i t6 t24 w fun _u w =>
 Q2 P T.p t2 w fun t25 w =>
 fieldAddr P T.a t3 1 w fun t26 w =>
 Q2 P T.b t26 w fun t27 w =>
 fieldAddr P T.i t6 0 w fun t28 w =>
 Q2 P T.b t28 w fun t29 w =>
 Q1 P F.ax [t25, t27, t29] w fun t30 w =>
 Q3 P .geq T.d (.tmp 30) (.const (.int .i64 0)) t30 (.int .i64 0) w fun t31 w =>
 X1 t31 (
 K (.int .i64 64) w) (
 Q3 P .add T.d (.tmp 21) (.const (.int .i64 1)) x3 (.int .i64 1) w fun t32 w =>
 again3 t32 w)) (
 D0 P (.func F.ae) [] [t2] w fun t33 w =>
 M0 P T.u w fun t7 w =>
 V5 P T.u t7 t33 w fun _u w =>
 fieldAddr P T.a t3 6 w fun t34 w =>
 Q2 P T.h t34 w fun t35 w =>
 X4 P .len [T.h] T.d [false] [t35] w fun t36 w =>
 lp (α := Value) (.int .i64 0) w fun again13 x13 d_ w =>
 Q3 P .lss T.d (.tmp 37) (.tmp 36) x13 t36 w fun t38 w =>
 X1 t38 (
 indexAddr P T.h t35 x13 w fun t39 w =>
 Q2 P T.i t39 w fun t40 w =>
 M0 P T.i w fun t9 w =>
 V5 P T.i t9 t40 w fun _u w =>
 Q2 P T.u t7 w fun t41 w =>
 fieldAddr P T.i t9 1 w fun t42 w =>
 Q2 P T.b t42 w fun t43 w =>
 Z7 P t41 [t43] w fun t44 w =>
 U6 P .not t44 w fun t45 w =>
 X1 t45 (
 K (.int .i64 65) w) (
 Q3 P .add T.d (.tmp 37) (.const (.int .i64 1)) x13 (.int .i64 1) w fun t46 w =>
 again13 t46 w)) (
 fieldAddr P T.a t3 7 w fun t47 w =>
 Q2 P T.e t47 w fun t48 w =>
 X4 P .len [T.e] T.d [false] [t48] w fun t49 w =>
 lp (α := Value) (.int .i64 0) w fun again22 x22 d_ w =>
 Q3 P .lss T.d (.tmp 50) (.tmp 49) x22 t49 w fun t51 w =>
 X1 t51 (
 indexAddr P T.e t48 x22 w fun t52 w =>
 Q2 P T.c t52 w fun t53 w =>
 M0 P T.c w fun t11 w =>
 V5 P T.c t11 t53 w fun _u w =>
 Q2 P T.u t7 w fun t54 w =>
 fieldAddr P T.c t11 2 w fun t55 w =>
 Q2 P T.b t55 w fun t56 w =>
 Z7 P t54 [t56] w fun t57 w =>
 U6 P .not t57 w fun t58 w =>
 Q0 t58 true w (fieldAddr P T.c t11 2) fun t60 w =>
 Q0 t58 true w (Q2 P T.b t60) fun t61 w =>
 Q0 t58 true w (Q3 P .neq T.b (.tmp 61) (.const (.string ⟨#[]⟩)) t61 (.string ⟨#[]⟩)) fun t62 w =>
 pick P t58 t62 (.bool false) w fun t63 w =>
 Q0 t63 false w (fieldAddr P T.c t11 1) fun t65 w =>
 Q0 t63 false w (Q2 P T.f t65) fun t66 w =>
 Q0 t63 false w (D0 P (.func F.af) [] [t7]) fun t67 w =>
 Q0 t63 false w (Q1 P F.c [t66, t67]) fun t68 w =>
 pick P t63 (.bool true) t68 w fun t69 w =>
 X1 t69 (
 K (.int .i64 65) w) (
 Q3 P .add T.d (.tmp 50) (.const (.int .i64 1)) x22 (.int .i64 1) w fun t70 w =>
 again22 t70 w)) (
 Sy P T.o none w fun t71 w =>
 Sy P T.o none w fun t72 w =>
 M0 P T.o w fun t12 w =>
 M0 P T.o w fun t13 w =>
 V5 P T.o t12 t71 w fun _u w =>
 V5 P T.o t13 t72 w fun _u w =>
 Q2 P T.p t2 w fun t73 w =>
 fieldAddr P T.a t3 0 w fun t74 w =>
 Q2 P T.b t74 w fun t75 w =>
 D0 P (.func F.aI) [] [t12, t13] w fun t76 w =>
 Q1 P F.t [t73, t75, t76] w fun t77 w =>
 X1 t77 (
 K (.int .i64 66) w) (
 fieldAddr P T.a t3 4 w fun t78 w =>
 Q2 P T.l t78 w fun t79 w =>
 X1 t79 (
 K (.int .i64 0) w) (
 Q2 P T.o t13 w fun t80 w =>
 rng P T.o t80 w fun t81 w =>
 lp (α := Unit) () w fun again38 x38 d_ w =>
 N6 P t81 false T.x w fun t82 w =>
 ext P t82 0 w fun t83 w =>
 X1 t83 (
 Q4W P t81 w fun t84 w =>
 ext P t84 0 w fun t85 w =>
 Q2 P T.p t2 w fun t87 w =>
 fieldAddr P T.a t3 0 w fun t88 w =>
 Q2 P T.b t88 w fun t89 w =>
 Q1 P F.aS [t87, t89, t85] w fun t91 w =>
 ext P t91 0 w fun t92 w =>
 ext P t91 1 w fun t93 w =>
 ext P t91 2 w fun t94 w =>
 M0 P T.c w fun t16 w =>
 V5 P T.c t16 t93 w fun _u w =>
 U6 P .not t94 w fun t96 w =>
 Q0 t96 false w (fieldAddr P T.c t16 3) fun t98 w =>
 Q0 t96 false w (Q2 P T.l t98) fun t99 w =>
 pick P t96 (.bool true) t99 w fun t100 w =>
 X1 t100 (
 K (.int .i64 67) w) (
 again38 () w)) (
 K (.int .i64 0) w))))))
theorem Hs {a0 a1 : Value} {w : World} {K : Value → World → Prop} (h : Zv a0 a1 w K) : Q1 P F.aN [a0, a1] w K := Q9 Hj Tryz.func45 rfl (by decide) (by kernel_rfl) h
def Q5h : W2 := [none, none, none, none, none, some ([30], [2, 3, 4, 7, 8, 9, 30, 31, 32, 33, 34, 35, 36, 37, 38, 39, 40, 41, 42, 43, 44, 45, 46, 47, 48, 49, 50, 51, 52]), none, none, none, none, none, none, none, none, none, none, some ([58], [2, 3, 4, 10, 11, 58, 59, 60, 61, 62, 63, 64, 65, 66, 67, 68, 69, 70, 71, 72, 73, 74, 75, 76, 77]), none, none, none, none, none, none, none, none, none, some ([85], [2, 3, 4, 12, 13, 14, 85, 86, 87, 88, 89, 90, 91, 92, 93, 94, 95, 96, 97]), none, none, none, none, none, none, none, none, none, none, none, none, none, some ([114], [2, 3, 4, 17, 18, 114, 115, 116, 117, 118, 119, 120, 121, 122, 123, 124, 125, 126, 127, 128, 129, 130, 131, 132, 133]), none, none, none, none, none, none, none, none]
def Q0x (a0 : Value) (w : World) (K : Value → World → Prop) : Prop :=
 Q1 P F.bL [] w fun t19 w =>
 Sy P T.r none w fun t20 w =>
 Qu P T.q [(0, t19), (1, t20)] w fun t21 w =>
 box P T.q t21 w fun t22 w =>
 nilCheck P t22 w fun t24 w =>
 fieldAddr P T.q t24 0 w fun t25 w =>
 Q2 P T.g t25 w fun t26 w =>
 X4 P .len [T.g] T.d [false] [t26] w fun t27 w =>
 X4 P .len [T.g] T.d [false] [a0] w fun t29 w =>
 lp (α := Value) (.int .i64 0) w fun again5 x5 d_ w =>
 Q3 P .lss T.d (.tmp 30) (.tmp 29) x5 t29 w fun t31 w =>
 X1 t31 (
 indexAddr P T.g a0 x5 w fun t33 w =>
 Q2 P T.a t33 w fun t34 w =>
 M0 P T.a w fun t8 w =>
 V5 P T.a t8 t34 w fun _u w =>
 Q2 P T.a t8 w fun t35 w =>
 Q1 P F.c1 [t35] w fun t36 w =>
 Q3 P .neq T.t (.tmp 37) (.const (.int .i64 0)) t36 (.int .i64 0) w fun t38 w =>
 X1 t38 (
 K (.tuple #[(.pointer none), x5, t36]) w) (
 dr w fun Tr Br =>
 Q7 Tr (fun φ43 => ∀ w, Br w → nilCheck P t22 w (dk Tr φ43 w)) fun φ43 =>
 Q7 Tr (fun φ44 => ∀ t43 w, Br w → φ43 t43 w → fieldAddr P T.q t43 0 w (dk Tr φ44 w)) fun φ44 =>
 Q7 Tr (fun φ45 => ∀ t44 w, Br w → φ44 t44 w → Q2 P T.g t44 w (dk Tr φ45 w)) fun φ45 =>
 Q7 Tr (fun φ46 => ∀ w, Br w → Q2 P T.a t8 w (dk Tr φ46 w)) fun φ46 =>
 Q7 Tr (fun φ47 => ∀ t46 w, Br w → φ46 t46 w → Q1 P F.bC [t46] w (dk Tr φ47 w)) fun φ47 =>
 Q7 Tr (fun φ48 => ∀ t47 w, Br w → φ47 t47 w → buildSlice P T.g 1 [(0, t47)] w (dk Tr φ48 w)) fun φ48 =>
 ∀ t43 t44 t45 t46 t47 t48 w, Br w → φ43 t43 w → φ44 t44 w → φ45 t45 w → φ46 t46 w → φ47 t47 w → φ48 t48 w → 
 X4 P .append [T.g, T.g] T.g [false, false] [t45, t48] w fun t49 w =>
 nilCheck P t22 w fun t50 w =>
 fieldAddr P T.q t50 0 w fun t51 w =>
 V5 P T.g t51 t49 w fun _u w =>
 Q3 P .add T.d (.tmp 30) (.const (.int .i64 1)) x5 (.int .i64 1) w fun t52 w =>
 again5 t52 w)) (
 nilCheck P t22 w fun t54 w =>
 fieldAddr P T.q t54 0 w fun t55 w =>
 Q2 P T.g t55 w fun t56 w =>
 X4 P .len [T.g] T.d [false] [t56] w fun t57 w =>
 lp (α := Value) (.int .i64 0) w fun again16 x16 d_ w =>
 Q3 P .lss T.d (.tmp 58) (.tmp 57) x16 t57 w fun t59 w =>
 X1 t59 (
 indexAddr P T.g t56 x16 w fun t61 w =>
 Q2 P T.a t61 w fun t62 w =>
 M0 P T.a w fun t11 w =>
 V5 P T.a t11 t62 w fun _u w =>
 fieldAddr P T.a t11 0 w fun t64 w =>
 Q2 P T.b t64 w fun t65 w =>
 Q1 P F.f [t22, t65] w fun t66 w =>
 X1 t66 (
 Q3 P .sub T.d (.tmp 67) (.tmp 68) x16 t27 w fun t69 w =>
 K (.tuple #[(.pointer none), t69, (.int .i64 60)]) w) (
 dr w fun Tr Br =>
 Q7 Tr (fun φ71 => ∀ w, Br w → nilCheck P t22 w (dk Tr φ71 w)) fun φ71 =>
 Q7 Tr (fun φ72 => ∀ t71 w, Br w → φ71 t71 w → fieldAddr P T.q t71 1 w (dk Tr φ72 w)) fun φ72 =>
 Q7 Tr (fun φ74 => ∀ w, Br w → fieldAddr P T.a t11 0 w (dk Tr φ74 w)) fun φ74 =>
 Q7 Tr (fun φ73 => ∀ t72 w, Br w → φ72 t72 w → Q2 P T.r t72 w (dk Tr φ73 w)) fun φ73 =>
 Q7 Tr (fun φ75 => ∀ t74 w, Br w → φ74 t74 w → Q2 P T.b t74 w (dk Tr φ75 w)) fun φ75 =>
 ∀ t71 t72 t74 t73 t75 w, Br w → φ71 t71 w → φ72 t72 w → φ74 t74 w → φ73 t73 w → φ75 t75 w → 
 mapUpdate P T.r t73 t75 x16 w fun _u w =>
 Q3 P .add T.d (.tmp 58) (.const (.int .i64 1)) x16 (.int .i64 1) w fun t77 w =>
 again16 t77 w)) (
 nilCheck P t22 w fun t79 w =>
 fieldAddr P T.q t79 0 w fun t80 w =>
 Q2 P T.g t80 w fun t81 w =>
 R7 P T.g t81 (some t27) none none w fun t83 w =>
 X4 P .len [T.g] T.d [false] [t83] w fun t84 w =>
 lp (α := Value) (.int .i64 0) w fun again26 x26 d_ w =>
 Q3 P .lss T.d (.tmp 85) (.tmp 84) x26 t84 w fun t86 w =>
 X1 t86 (
 indexAddr P T.g t83 x26 w fun t88 w =>
 Q2 P T.a t88 w fun t89 w =>
 M0 P T.a w fun t13 w =>
 V5 P T.a t13 t89 w fun _u w =>
 Q2 P T.a t13 w fun t91 w =>
 Q1 P F.aU [t22, t91] w fun t92 w =>
 Q3 P .neq T.t (.tmp 93) (.const (.int .i64 0)) t92 (.int .i64 0) w fun t94 w =>
 X1 t94 (
 K (.tuple #[(.pointer none), x26, t92]) w) (
 Q3 P .add T.d (.tmp 85) (.const (.int .i64 1)) x26 (.int .i64 1) w fun t97 w =>
 again26 t97 w)) (
 nilCheck P t22 w fun t99 w =>
 fieldAddr P T.q t99 0 w fun t100 w =>
 Q2 P T.g t100 w fun t101 w =>
 R7 P T.g t101 (some t27) none none w fun t103 w =>
 D0 P (.func F.b3) [t22] [] w fun t105 w =>
 Q1 P F.m [t103, t105] w fun t106 w =>
 Q3 P .geq T.d (.tmp 107) (.const (.int .i64 0)) t106 (.int .i64 0) w fun t108 w =>
 X1 t108 (
 K (.tuple #[(.pointer none), t106, (.int .i64 63)]) w) (
 Q1 P F.b4 [t22, t27] w fun t112 w =>
 X4 P .len [T.v] T.d [false] [t112] w fun t113 w =>
 lp (α := Value) (.int .i64 0) w fun again40 x40 d_ w =>
 Q3 P .lss T.d (.tmp 114) (.tmp 113) x40 t113 w fun t115 w =>
 X1 t115 (
 indexAddr P T.v t112 x40 w fun t116 w =>
 Q2 P T.d t116 w fun t117 w =>
 nilCheck P t22 w fun t120 w =>
 fieldAddr P T.q t120 0 w fun t121 w =>
 Q2 P T.g t121 w fun t122 w =>
 indexAddr P T.g t122 t117 w fun t124 w =>
 Q2 P T.a t124 w fun t125 w =>
 Q1 P F.aN [t22, t125] w fun t126 w =>
 Q3 P .neq T.t (.tmp 127) (.const (.int .i64 0)) t126 (.int .i64 0) w fun t128 w =>
 X1 t128 (
 Q3 P .sub T.d (.tmp 129) (.tmp 130) t117 t27 w fun t131 w =>
 K (.tuple #[(.pointer none), t131, t126]) w) (
 Q3 P .add T.d (.tmp 114) (.const (.int .i64 1)) x40 (.int .i64 1) w fun t133 w =>
 again40 t133 w)) (
 K (.tuple #[t22, (.int .i64 0), (.int .i64 0)]) w)))))
theorem Q4V {a0 : Value} {w : World} {K : Value → World → Prop} (h : Q0x a0 w K) : Q1 P F.bK [a0] w K := Q9 Q5h Tryz.func14 rfl (by decide) (by kernel_rfl) h
def Zo (a0 a1 : Value) (w : World) (K : Value → World → Prop) : Prop :=
 Q1 P F.a4 [a0, a1] w fun t8 w =>
 U6 P .not t8 w fun t9 w =>
 X1 t9 (
 K (.tuple #[a0, (.bool false)]) w) (
 X4 P .len [T.b] T.d [false] [a0] w fun t13 w =>
 X4 P .len [T.b] T.d [false] [a1] w fun t15 w =>
 Q3 P .sub T.d (.tmp 13) (.tmp 15) t13 t15 w fun t16 w =>
 R7 P T.b a0 none (some t16) none w fun t17 w =>
 K (.tuple #[t17, (.bool true)]) w)
theorem Dx {a0 a1 : Value} {w : World} {K : Value → World → Prop} (h : Zo a0 a1 w K) : Q1 P F.bJ [a0, a1] w K := Q9 (List.replicate 5 none) Tryz.func128 rfl (by decide) (by kernel_rfl) h
def Lf (a0 a1 : Value) (w : World) (K : Value → World → Prop) : Prop :=
 Q1 P F.bJ [a0, a1] w fun t8 w =>
 ext P t8 0 w fun t9 w =>
 ext P t8 1 w fun t10 w =>
 K (.tuple #[t9, t10]) w
theorem Fs {a0 a1 : Value} {w : World} {K : Value → World → Prop} (h : Lf a0 a1 w K) : Q1 P F.bj [a0, a1] w K := Q9 (List.replicate 2 none) Tryz.func92 rfl (by decide) (by kernel_rfl) h
def Ai (a0 : Value) (w : World) (K : Value → World → Prop) : Prop :=
 Q1 P F.bj [a0, (.string ⟨#[91, 93]⟩)] w fun t7 w =>
 ext P t7 0 w fun t8 w =>
 ext P t7 1 w fun t9 w =>
 U6 P .not t9 w fun t11 w =>
 Q0 t11 false w (fun w J => J a0 w) fun t13 w =>
 Q0 t11 false w (Q1 P F.a1 [t13]) fun t14 w =>
 Q0 t11 false w (U6 P .not t14) fun t15 w =>
 pick P t11 (.bool true) t15 w fun t16 w =>
 X1 t16 (
 K (.string ⟨#[]⟩) w) (
 K t8 w)
theorem Q3U {a0 : Value} {w : World} {K : Value → World → Prop} (h : Ai a0 w K) : Q1 P F.cc [a0] w K := Q9 (List.replicate 6 none) Tryz.func53 rfl (by decide) (by kernel_rfl) h
def Wm (a0 a1 : Value) (w : World) (K : Value → World → Prop) : Prop :=
 box P T.a a0 w fun v_c_2 w =>
 fieldAddr P T.a v_c_2 0 w fun t4 w =>
 Q2 P T.b t4 w fun t5 w =>
 Q2 P T.b a1 w fun t6 w =>
 Q3 P .eql T.b (.tmp 5) (.tmp 6) t5 t6 w fun t7 w =>
 K t7 w
theorem Cn {a0 a1 : Value} {w : World} {K : Value → World → Prop} (h : Wm a0 a1 w K) : Q1 P F.b6 [a0, a1] w K := Q9 (List.replicate 2 none) Tryz.func55 rfl (by decide) (by kernel_rfl) h
def Ml (a0 a1 a2 : Value) (w : World) (K : Value → World → Prop) : Prop :=
 box P T.b a2 w fun v_b_5 w =>
 Q1 P F.v [a0, a1] w fun t10 w =>
 U6 P .not t10 w fun t11 w =>
 Q0 t11 false w (fun w J => J a0 w) fun t13 w =>
 Q0 t11 false w (Q2 P T.b v_b_5) fun t14 w =>
 Q0 t11 false w (Q1 P F.v [t13, t14]) fun t15 w =>
 Q0 t11 false w (U6 P .not t15) fun t16 w =>
 pick P t11 (.bool true) t16 w fun t17 w =>
 X1 t17 (
 K (.bool false) w) (
 Q2 P T.b v_b_5 w fun t20 w =>
 Q3 P .eql T.b (.tmp 19) (.tmp 20) a1 t20 w fun t21 w =>
 X1 t21 (
 K (.bool true) w) (
 Q1 P F.aa [a1] w fun t24 w =>
 Q0 t24 false w (Q2 P T.b v_b_5) fun t26 w =>
 Q0 t24 false w (Q1 P F.aa [t26]) fun t27 w =>
 pick P t24 (.bool true) t27 w fun t28 w =>
 X1 t28 (
 K (.bool false) w) (
 Q3 P .eql T.b (.tmp 30) (.const (.string ⟨#[110, 117, 108, 108]⟩)) a1 (.string ⟨#[110, 117, 108, 108]⟩) w fun t31 w =>
 X1 t31 (
 K (.bool true) w) (
 Q1 P F.cc [a1] w fun t34 w =>
 Q3 P .neq T.b (.tmp 34) (.const (.string ⟨#[]⟩)) t34 (.string ⟨#[]⟩) w fun t35 w =>
 X1 t35 (
 Q2 P T.b v_b_5 w fun t36 w =>
 Q3 P .eql T.b (.tmp 36) (.const (.string ⟨#[79, 98, 106, 101, 99, 116]⟩)) t36 (.string ⟨#[79, 98, 106, 101, 99, 116]⟩) w fun t37 w =>
 K t37 w) (
 D0 P (.func F.b6) [] [v_b_5] w fun t40 w =>
 Q1 P F.t [a0, a1, t40] w fun t41 w =>
 K t41 w)))))
theorem Kk {a0 a1 a2 : Value} {w : World} {K : Value → World → Prop} (h : Ml a0 a1 a2 w K) : Q1 P F.a8 [a0, a1, a2] w K := Q9 (List.replicate 13 none) Tryz.func16 rfl (by decide) (by kernel_rfl) h
def Gg : W2 := [none, none, none, none, none, none, none, none, none, none, some ([7], [6, 7, 40, 41, 42, 43, 44, 45, 46, 47, 48, 49, 50, 51]), none, none, none, none, none, none]
def Wo (a0 a1 a2 : Value) (w : World) (K : Value → World → Prop) : Prop :=
 Q1 P F.a8 [a0, a1, a2] w fun t12 w =>
 X1 t12 (
 K a2 w) (
 Q1 P F.a8 [a0, a2, a1] w fun t18 w =>
 X1 t18 (
 K a1 w) (
 Q1 P F.v [a0, a1] w fun t23 w =>
 U6 P .not t23 w fun t24 w =>
 Q0 t24 false w (fun w J => J a0 w) fun t26 w =>
 Q0 t24 false w (fun w J => J a2 w) fun t27 w =>
 Q0 t24 false w (Q1 P F.v [t26, t27]) fun t28 w =>
 Q0 t24 false w (U6 P .not t28) fun t29 w =>
 pick P t24 (.bool true) t29 w fun t30 w =>
 Q0 t30 false w (fun w J => J a1 w) fun t32 w =>
 Q0 t30 false w (Q1 P F.aa [t32]) fun t33 w =>
 pick P t30 (.bool true) t33 w fun t34 w =>
 Q0 t34 false w (fun w J => J a2 w) fun t36 w =>
 Q0 t34 false w (Q1 P F.aa [t36]) fun t37 w =>
 pick P t34 (.bool true) t37 w fun t38 w =>
 X1 t38 (
 K (.string ⟨#[]⟩) w) (
 lp (α := Value) a1 w fun again10 x10 d_ w =>
 Q1 P F.f [a0, x10] w fun t42 w =>
 X1 t42 (
 Q1 P F.a8 [a0, a2, x10] w fun t50 w =>
 X1 t50 (
 K x10 w) (
 Q1 P F.d [a0, x10] w fun t45 w =>
 D1 P T.a t45 1 w fun t46 w =>
 again10 t46 w)) (
 K (.string ⟨#[79, 98, 106, 101, 99, 116]⟩) w))))
theorem Fl {a0 a1 a2 : Value} {w : World} {K : Value → World → Prop} (h : Wo a0 a1 a2 w K) : Q1 P F.ai [a0, a1, a2] w K := Q9 Gg Tryz.func20 rfl (by decide) (by kernel_rfl) h
def Cx : W2 := [none, none, none, none, none, none, none, none, some ([6, 31], [6, 8, 31, 32, 33, 34, 35, 36, 37, 38, 39, 40, 41, 42, 43, 44, 45, 46, 47]), none, none, some ([6], [6, 8, 33, 34, 35, 36, 37, 38, 39, 40, 41, 42, 43, 44, 45, 46]), none, none, none]
def Qe (a0 a1 : Value) (w : World) (K : Value → World → Prop) : Prop :=
 Q1 P F.f [a0, a1] w fun t11 w =>
 U6 P .not t11 w fun t12 w =>
 Q0 t12 false w (fun w J => J a1 w) fun t14 w =>
 Q0 t12 false w (Q3 P .eql T.b (.tmp 14) (.const (.string ⟨#[79, 98, 106, 101, 99, 116]⟩)) t14 (.string ⟨#[79, 98, 106, 101, 99, 116]⟩)) fun t15 w =>
 pick P t12 (.bool true) t15 w fun t16 w =>
 X1 t16 (
 K (.string ⟨#[]⟩) w) (
 Q1 P F.d [a0, a1] w fun t19 w =>
 M0 P T.a w fun v_c_5 w =>
 V5 P T.a v_c_5 t19 w fun _u w =>
 Q3 P .add T.b (.tmp 20) (.const (.string ⟨#[40]⟩)) a1 (.string ⟨#[40]⟩) w fun t21 w =>
 fieldAddr P T.a v_c_5 1 w fun t23 w =>
 Q2 P T.b t23 w fun t24 w =>
 Q1 P F.s [a0, t24] w fun t25 w =>
 Q3 P .add T.b (.tmp 21) (.tmp 25) t21 t25 w fun t26 w =>
 Q3 P .add T.b (.tmp 26) (.const (.string ⟨#[41]⟩)) t26 (.string ⟨#[41]⟩) w fun t27 w =>
 fieldAddr P T.a v_c_5 6 w fun t28 w =>
 Q2 P T.h t28 w fun t29 w =>
 X4 P .len [T.h] T.d [false] [t29] w fun t30 w =>
 lp (α := Value × Value) (t27, (.int .i64 0)) w fun again8 x8 d_ w =>
 Q3 P .lss T.d (.tmp 31) (.tmp 30) x8.2 t30 w fun t32 w =>
 X1 t32 (
 jn (α := Value) w (fun J11 w =>
 indexAddr P T.h t29 x8.2 w fun t33 w =>
 Q2 P T.i t33 w fun t34 w =>
 M0 P T.i w fun v_f_8 w =>
 V5 P T.i v_f_8 t34 w fun _u w =>
 fieldAddr P T.i v_f_8 2 w fun t35 w =>
 Q2 P T.l t35 w fun t36 w =>
 U6 P .not t36 w fun t37 w =>
 X1 t37 (
 fieldAddr P T.i v_f_8 0 w fun t39 w =>
 Q2 P T.b t39 w fun t40 w =>
 Q3 P .add T.b (.const (.string ⟨#[32]⟩)) (.tmp 40) (.string ⟨#[32]⟩) t40 w fun t41 w =>
 Q3 P .add T.b (.tmp 41) (.const (.string ⟨#[58]⟩)) t41 (.string ⟨#[58]⟩) w fun t42 w =>
 fieldAddr P T.i v_f_8 1 w fun t43 w =>
 Q2 P T.b t43 w fun t44 w =>
 Q3 P .add T.b (.tmp 42) (.tmp 44) t42 t44 w fun t45 w =>
 Q3 P .add T.b (.tmp 38) (.tmp 45) x8.1 t45 w fun t46 w =>
 J11 t46 w) (
 J11 x8.1 w)) fun z11 d_ w =>
 Q3 P .add T.d (.tmp 31) (.const (.int .i64 1)) x8.2 (.int .i64 1) w fun t47 w =>
 again8 (z11, t47) w) (
 Q3 P .add T.b (.tmp 48) (.const (.string ⟨#[46]⟩)) x8.1 (.string ⟨#[46]⟩) w fun t49 w =>
 K t49 w))
theorem Wi {a0 a1 : Value} {w : World} {K : Value → World → Prop} (h : Qe a0 a1 w K) : Q1 P F.s [a0, a1] w K := Q9 Cx Tryz.func31 rfl (by decide) (by kernel_rfl) h
def Je (a0 a1 : Value) (w : World) (K : Value → World → Prop) : Prop :=
 Q1 P F.f [a0, a1] w fun t7 w =>
 Q0 t7 true w (fun w J => J a0 w) fun t9 w =>
 Q0 t7 true w (fun w J => J a1 w) fun t10 w =>
 Q0 t7 true w (Q1 P F.d [t9, t10]) fun t11 w =>
 Q0 t7 true w (D1 P T.a t11 4) fun t12 w =>
 Q0 t7 true w (U6 P .not t12) fun t13 w =>
 pick P t7 t13 (.bool false) w fun t14 w =>
 K t14 w
theorem Hk {a0 a1 : Value} {w : World} {K : Value → World → Prop} (h : Je a0 a1 w K) : Q1 P F.ar [a0, a1] w K := Q9 (List.replicate 2 none) Tryz.func34 rfl (by decide) (by kernel_rfl) h
end Go.Proofs.YtdnfaboigajkhaaGreatDoor

set_option maxRecDepth 100000
namespace Go.Proofs.YtdnfaboigajkhaaGreatDoor
open Go.Emb
def Vx (w : World) (K : Value → World → Prop) : Prop :=
 Qu P T.i [(0, (.string ⟨#[120]⟩)), (1, (.string ⟨#[105, 110, 116]⟩))] w fun t1 w =>
 Qu P T.i [(0, (.string ⟨#[116]⟩)), (1, (.string ⟨#[116, 101, 120, 116]⟩)), (2, (.bool true))] w fun t2 w =>
 buildSlice P T.h 2 [(0, t1), (1, t2)] w fun t3 w =>
 Qu P T.a [(0, (.string ⟨#[65]⟩)), (1, (.string ⟨#[79, 98, 106, 101, 99, 116]⟩)), (6, t3)] w fun t4 w =>
 Qu P T.a [(0, (.string ⟨#[66]⟩)), (1, (.string ⟨#[65]⟩))] w fun t5 w =>
 Qu P T.a [(0, (.string ⟨#[67]⟩)), (1, (.string ⟨#[65]⟩))] w fun t6 w =>
 buildSlice P T.g 3 [(0, t4), (1, t5), (2, t6)] w fun t7 w =>
 K t7 w
theorem Bm {w : World} {K : Value → World → Prop} (h : Vx  w K) : Q1 P F.b2 [] w K := Q9 (List.replicate 2 none) Tryz.func37 rfl (by decide) (by kernel_rfl) h
def Vw (w : World) (K : Value → World → Prop) : Prop :=
 Q1 P F.b2 [] w fun t5 w =>
 Q1 P F.bK [t5] w fun t6 w =>
 ext P t6 0 w fun t7 w =>
 ext P t6 1 w fun t8 w =>
 ext P t6 2 w fun t9 w =>
 Q3 P .eql T.p (.tmp 10) (.const (.pointer none)) t7 (.pointer none) w fun t11 w =>
 Q0 t11 false w (fun w J => J t8 w) fun t13 w =>
 Q0 t11 false w (Q3 P .neq T.d (.tmp 13) (.const (.int .i64 0)) t13 (.int .i64 0)) fun t14 w =>
 pick P t11 (.bool true) t14 w fun t15 w =>
 Q0 t15 false w (fun w J => J t9 w) fun t17 w =>
 Q0 t15 false w (Q3 P .neq T.t (.tmp 17) (.const (.int .i64 0)) t17 (.int .i64 0)) fun t18 w =>
 pick P t15 (.bool true) t18 w fun t19 w =>
 X1 t19 (
 K (.bool false) w) (
 Q1 P F.ai [t7, (.string ⟨#[66]⟩), (.string ⟨#[67]⟩)] w fun t21 w =>
 Q3 P .eql T.b (.tmp 21) (.const (.string ⟨#[65]⟩)) t21 (.string ⟨#[65]⟩) w fun t22 w =>
 Q0 t22 true w (fun w J => J t7 w) fun t24 w =>
 Q0 t22 true w (Q1 P F.ai [t24, (.string ⟨#[66]⟩), (.string ⟨#[66, 91, 93]⟩)]) fun t25 w =>
 Q0 t22 true w (Q3 P .eql T.b (.tmp 25) (.const (.string ⟨#[79, 98, 106, 101, 99, 116]⟩)) t25 (.string ⟨#[79, 98, 106, 101, 99, 116]⟩)) fun t26 w =>
 pick P t22 t26 (.bool false) w fun t27 w =>
 Q0 t27 true w (fun w J => J t7 w) fun t29 w =>
 Q0 t27 true w (Q1 P F.ai [t29, (.string ⟨#[105, 110, 116]⟩), (.string ⟨#[65]⟩)]) fun t30 w =>
 Q0 t27 true w (Q3 P .eql T.b (.tmp 30) (.const (.string ⟨#[]⟩)) t30 (.string ⟨#[]⟩)) fun t31 w =>
 pick P t27 t31 (.bool false) w fun t32 w =>
 Q0 t32 true w (fun w J => J t7 w) fun t34 w =>
 Q0 t32 true w (Q1 P F.s [t34, (.string ⟨#[65]⟩)]) fun t35 w =>
 Q0 t32 true w (Q3 P .eql T.b (.tmp 35) (.const (.string ⟨#[65, 40, 41, 32, 120, 58, 105, 110, 116, 46]⟩)) t35 (.string ⟨#[65, 40, 41, 32, 120, 58, 105, 110, 116, 46]⟩)) fun t36 w =>
 pick P t32 t36 (.bool false) w fun t37 w =>
 Q0 t37 true w (fun w J => J t7 w) fun t39 w =>
 Q0 t37 true w (Q1 P F.s [t39, (.string ⟨#[66]⟩)]) fun t40 w =>
 Q0 t37 true w (Q3 P .eql T.b (.tmp 40) (.const (.string ⟨#[66, 40, 65, 40, 41, 32, 120, 58, 105, 110, 116, 46, 41, 46]⟩)) t40 (.string ⟨#[66, 40, 65, 40, 41, 32, 120, 58, 105, 110, 116, 46, 41, 46]⟩)) fun t41 w =>
 pick P t37 t41 (.bool false) w fun t42 w =>
 Q0 t42 true w (fun w J => J t7 w) fun t44 w =>
 Q0 t42 true w (Q1 P F.a8 [t44, (.string ⟨#[66]⟩), (.string ⟨#[65]⟩)]) fun t45 w =>
 pick P t42 t45 (.bool false) w fun t46 w =>
 Q0 t46 true w (fun w J => J t7 w) fun t48 w =>
 Q0 t46 true w (Q1 P F.ax [t48, (.string ⟨#[66]⟩), (.string ⟨#[116]⟩)]) fun t49 w =>
 Q0 t46 true w (Q3 P .eql T.d (.tmp 49) (.const (.int .i64 1)) t49 (.int .i64 1)) fun t50 w =>
 pick P t46 t50 (.bool false) w fun t51 w =>
 Q0 t51 true w (fun w J => J t7 w) fun t53 w =>
 Q0 t51 true w (Q1 P F.ar [t53, (.string ⟨#[66]⟩)]) fun t54 w =>
 pick P t51 t54 (.bool false) w fun t55 w =>
 Q0 t55 true w (Q1 P F.bL []) fun t57 w =>
 Q0 t55 true w (X4 P .len [T.g] T.d [false] [t57]) fun t58 w =>
 Q0 t55 true w (Q3 P .eql T.d (.tmp 58) (.const (.int .i64 8)) t58 (.int .i64 8)) fun t59 w =>
 pick P t55 t59 (.bool false) w fun t60 w =>
 K t60 w)
theorem Bw {w : World} {K : Value → World → Prop} (h : Vw  w K) : Q1 P F.aw [] w K := Q9 (List.replicate 6 none) Tryz.func13 rfl (by decide) (by kernel_rfl) h
def Ce : W2 := [none, none, none, none, none, some ([1, 3], [1, 3, 10, 11, 12, 13, 14, 15, 16, 17, 18, 19, 20, 21, 22, 23]), none, none, none, none]
def Ur (w : World) (K : Value → World → Prop) : Prop :=
 Qu P T.a [(0, (.string ⟨#[79, 98, 106, 101, 99, 116]⟩))] w fun t4 w =>
 Qu P T.i [(0, (.string ⟨#[119, 104, 97, 116]⟩)), (1, (.string ⟨#[116, 101, 120, 116]⟩))] w fun t5 w =>
 buildSlice P T.h 1 [(0, t5)] w fun t6 w =>
 Qu P T.a [(0, (.string ⟨#[70, 97, 117, 108, 116]⟩)), (1, (.string ⟨#[79, 98, 106, 101, 99, 116]⟩)), (6, t6)] w fun t7 w =>
 buildSlice P T.g 2 [(0, t4), (1, t7)] w fun t8 w =>
 buildSlice P T.f 6 [(0, (.string ⟨#[78, 117, 108, 108, 70, 97, 117, 108, 116]⟩)), (1, (.string ⟨#[73, 110, 100, 101, 120, 70, 97, 117, 108, 116]⟩)), (2, (.string ⟨#[67, 97, 115, 116, 70, 97, 117, 108, 116]⟩)), (3, (.string ⟨#[90, 101, 114, 111, 70, 97, 117, 108, 116]⟩)), (4, (.string ⟨#[82, 111, 111, 109, 70, 97, 117, 108, 116]⟩)), (5, (.string ⟨#[67, 97, 108, 108, 70, 97, 117, 108, 116]⟩))] w fun t9 w =>
 lp (α := Value × Value) (t8, (.int .i64 0)) w fun again5 x5 d_ w =>
 X4 P .len [T.f] T.d [false] [t9] w fun t12 w =>
 Q3 P .lss T.d (.tmp 10) (.tmp 12) x5.2 t12 w fun t13 w =>
 X1 t13 (
 indexAddr P T.f t9 x5.2 w fun t19 w =>
 Q2 P T.b t19 w fun t20 w =>
 Qu P T.a [(0, t20), (1, (.string ⟨#[70, 97, 117, 108, 116]⟩)), (5, (.bool true))] w fun t21 w =>
 buildSlice P T.g 1 [(0, t21)] w fun t22 w =>
 X4 P .append [T.g, T.g] T.g [false, false] [x5.1, t22] w fun t23 w =>
 Q3 P .add T.d (.tmp 14) (.const (.int .i64 1)) x5.2 (.int .i64 1) w fun t15 w =>
 again5 (t23, t15) w) (
 K x5.1 w)
theorem Ss {w : World} {K : Value → World → Prop} (h : Ur  w K) : Q1 P F.b0 [] w K := Q9 Ce Tryz.func30 rfl (by decide) (by kernel_rfl) h
def Fw : W2 := [none, none, none, some ([3], [2, 3, 4, 5, 6, 7, 8, 9, 10, 11, 12, 13, 14, 15, 16, 17, 18, 19, 20, 21, 22, 23, 24, 25, 26, 27, 28, 29, 30, 31, 32, 33, 34, 35, 36, 37]), none, none, none, none, none, none, none]
def Lk (a0 : Value) (w : World) (K : Value → World → Prop) : Prop :=
 box P T.a a0 w fun v_c_1 w =>
 lp (α := Value) (.int .i64 0) w fun again3 x3 d_ w =>
 fieldAddr P T.a v_c_1 7 w fun t6 w =>
 Q2 P T.e t6 w fun t7 w =>
 X4 P .len [T.e] T.d [false] [t7] w fun t8 w =>
 Q3 P .lss T.d (.tmp 5) (.tmp 8) x3 t8 w fun t9 w =>
 X1 t9 (
 fieldAddr P T.a v_c_1 7 w fun t12 w =>
 Q2 P T.e t12 w fun t13 w =>
 indexAddr P T.e t13 x3 w fun t15 w =>
 Q2 P T.c t15 w fun t16 w =>
 M0 P T.c w fun v_m_4 w =>
 V5 P T.c v_m_4 t16 w fun _u w =>
 fieldAddr P T.c v_m_4 1 w fun t17 w =>
 Q2 P T.f t17 w fun t18 w =>
 X4 P .len [T.f] T.d [false] [t18] w fun t19 w =>
 Q3 P .gtr T.d (.tmp 19) (.const (.int .i64 32)) t19 (.int .i64 32) w fun t20 w =>
 Q0 t20 false w (fieldAddr P T.c v_m_4 6) fun t22 w =>
 Q0 t20 false w (Q2 P T.j t22) fun t23 w =>
 Q0 t20 false w (X4 P .len [T.j] T.d [false] [t23]) fun t24 w =>
 Q0 t20 false w (Q3 P .gtr T.d (.tmp 24) (.const (.int .i64 32)) t24 (.int .i64 32)) fun t25 w =>
 pick P t20 (.bool true) t25 w fun t26 w =>
 Q0 t26 false w (fieldAddr P T.c v_m_4 5) fun t28 w =>
 Q0 t26 false w (Q2 P T.k t28) fun t29 w =>
 Q0 t26 false w (X4 P .len [T.k] T.d [false] [t29]) fun t30 w =>
 Q0 t26 false w (Q3 P .gtr T.d (.tmp 30) (.const (.int .i64 200)) t30 (.int .i64 200)) fun t31 w =>
 pick P t26 (.bool true) t31 w fun t32 w =>
 Q0 t32 false w (fieldAddr P T.c v_m_4 4) fun t34 w =>
 Q0 t32 false w (Q2 P T.d t34) fun t35 w =>
 Q0 t32 false w (Q3 P .gtr T.d (.tmp 35) (.const (.int .i64 64)) t35 (.int .i64 64)) fun t36 w =>
 pick P t32 (.bool true) t36 w fun t37 w =>
 X1 t37 (
 K (.bool true) w) (
 Q3 P .add T.d (.tmp 10) (.const (.int .i64 1)) x3 (.int .i64 1) w fun t11 w =>
 again3 t11 w)) (
 fieldAddr P T.a v_c_1 2 w fun t38 w =>
 Q2 P T.f t38 w fun t39 w =>
 X4 P .len [T.f] T.d [false] [t39] w fun t40 w =>
 Q3 P .gtr T.d (.tmp 40) (.const (.int .i64 32)) t40 (.int .i64 32) w fun t41 w =>
 Q0 t41 false w (fieldAddr P T.a v_c_1 6) fun t43 w =>
 Q0 t41 false w (Q2 P T.h t43) fun t44 w =>
 Q0 t41 false w (X4 P .len [T.h] T.d [false] [t44]) fun t45 w =>
 Q0 t41 false w (Q3 P .gtr T.d (.tmp 45) (.const (.int .i64 32)) t45 (.int .i64 32)) fun t46 w =>
 pick P t41 (.bool true) t46 w fun t47 w =>
 Q0 t47 false w (fieldAddr P T.a v_c_1 7) fun t49 w =>
 Q0 t47 false w (Q2 P T.e t49) fun t50 w =>
 Q0 t47 false w (X4 P .len [T.e] T.d [false] [t50]) fun t51 w =>
 Q0 t47 false w (Q3 P .gtr T.d (.tmp 51) (.const (.int .i64 32)) t51 (.int .i64 32)) fun t52 w =>
 pick P t47 (.bool true) t52 w fun t53 w =>
 K t53 w)
theorem Fq {a0 : Value} {w : World} {K : Value → World → Prop} (h : Lk a0 w K) : Q1 P F.bi [a0] w K := Q9 Fw Tryz.func88 rfl (by decide) (by kernel_rfl) h
def Bi : W2 := [none, none, none, some ([4], [4, 5, 6, 7]), none, none, none, none]
def Vj (a0 : Value) (w : World) (K : Value → World → Prop) : Prop :=
 jn (α := Value) w (fun J3 w =>
 Q3 P .eql T.b (.tmp 3) (.const (.string ⟨#[105, 110, 116]⟩)) a0 (.string ⟨#[105, 110, 116]⟩) w fun t5 w =>
 X1 t5 (
 J3 t5 w) (
 Q3 P .eql T.b (.tmp 3) (.const (.string ⟨#[98, 111, 111, 108]⟩)) a0 (.string ⟨#[98, 111, 111, 108]⟩) w fun t6 w =>
 X1 t6 (
 J3 t6 w) (
 Q3 P .eql T.b (.tmp 3) (.const (.string ⟨#[116, 101, 120, 116]⟩)) a0 (.string ⟨#[116, 101, 120, 116]⟩) w fun t7 w =>
 J3 t7 w))) fun z3 d_ w =>
 X1 z3 (
 K (.bool true) w) (
 K (.bool false) w)
theorem Sz {a0 : Value} {w : World} {K : Value → World → Prop} (h : Vj a0 w K) : Q1 P F.ab [a0] w K := Q9 Bi Tryz.func56 rfl (by decide) (by kernel_rfl) h
def Gt : W2 := [none, none, none, some ([0, 3], [0, 3, 4, 5, 6, 7, 8, 9, 10, 11, 12, 13, 14, 15, 16, 17, 18, 19, 20, 21]), none, none, none, none]
def Lh (a0 : Value) (w : World) (K : Value → World → Prop) : Prop :=
 lp (α := Value × Value) (a0, (.int .i64 0)) w fun again3 x3 d_ w =>
 X4 P .len [T.b] T.d [false] [x3.1] w fun t5 w =>
 Q3 P .geq T.d (.tmp 5) (.const (.int .i64 2)) t5 (.int .i64 2) w fun t6 w =>
 Q0 t6 true w (fun w J => J x3.1 w) fun t8 w =>
 Q0 t6 true w (fun w J => J x3.1 w) fun t9 w =>
 Q0 t6 true w (X4 P .len [T.b] T.d [false] [t9]) fun t10 w =>
 Q0 t6 true w (Q3 P .sub T.d (.tmp 10) (.const (.int .i64 2)) t10 (.int .i64 2)) fun t11 w =>
 Q0 t6 true w (R7 P T.b t8 (some t11) none none) fun t12 w =>
 Q0 t6 true w (Q3 P .eql T.b (.tmp 12) (.const (.string ⟨#[91, 93]⟩)) t12 (.string ⟨#[91, 93]⟩)) fun t13 w =>
 pick P t6 t13 (.bool false) w fun t14 w =>
 X1 t14 (
 Q3 P .add T.d (.tmp 15) (.const (.int .i64 1)) x3.2 (.int .i64 1) w fun t16 w =>
 X4 P .len [T.b] T.d [false] [x3.1] w fun t19 w =>
 Q3 P .sub T.d (.tmp 19) (.const (.int .i64 2)) t19 (.int .i64 2) w fun t20 w =>
 R7 P T.b x3.1 none (some t20) none w fun t21 w =>
 again3 (t21, t16) w) (
 K x3.2 w)
theorem Gp {a0 : Value} {w : World} {K : Value → World → Prop} (h : Lh a0 w K) : Q1 P F.aj [a0] w K := Q9 Gt Tryz.func99 rfl (by decide) (by kernel_rfl) h
def Fu : W2 := [none, none, none, some ([3], [2, 3, 4, 5, 6, 7, 8, 9, 10, 11, 12, 13, 14, 15, 16, 17, 18, 19, 20, 21, 22, 23, 24, 25, 26, 27, 28, 29, 30, 31, 32, 33, 34, 35, 36, 37, 38, 39, 40, 41, 42, 43, 44, 45, 46, 47, 48, 49, 50]), none, none, none, none, none, none, none]
def Wy (a0 : Value) (w : World) (K : Value → World → Prop) : Prop :=
 lp (α := Value) (.int .i64 0) w fun again3 x3 d_ w =>
 X4 P .len [T.b] T.d [false] [a0] w fun t7 w =>
 Q3 P .lss T.d (.tmp 5) (.tmp 7) x3 t7 w fun t8 w =>
 X1 t8 (
 E2 P T.b a0 x3 w fun t13 w =>
 Q3 P .geq T.s (.tmp 13) (.const (.int .u8 97)) t13 (.int .u8 97) w fun t14 w =>
 Q0 t14 true w (fun w J => J a0 w) fun t16 w =>
 Q0 t14 true w (fun w J => J x3 w) fun t17 w =>
 Q0 t14 true w (E2 P T.b t16 t17) fun t18 w =>
 Q0 t14 true w (Q3 P .leq T.s (.tmp 18) (.const (.int .u8 122)) t18 (.int .u8 122)) fun t19 w =>
 pick P t14 t19 (.bool false) w fun t20 w =>
 Q0 t20 false w (fun w J => J a0 w) fun t22 w =>
 Q0 t20 false w (fun w J => J x3 w) fun t23 w =>
 Q0 t20 false w (E2 P T.b t22 t23) fun t24 w =>
 Q0 t20 false w (Q3 P .geq T.s (.tmp 24) (.const (.int .u8 65)) t24 (.int .u8 65)) fun t25 w =>
 Q0 t20 false w (fun w J => J t25 w) fun t26 w =>
 Q0 t26 true w (fun w J => J a0 w) fun t27 w =>
 Q0 t26 true w (fun w J => J x3 w) fun t28 w =>
 Q0 t26 true w (E2 P T.b t27 t28) fun t29 w =>
 Q0 t26 true w (Q3 P .leq T.s (.tmp 29) (.const (.int .u8 90)) t29 (.int .u8 90)) fun t30 w =>
 Q0 t20 false w (pick P t26 t30 (.bool false)) fun t31 w =>
 pick P t20 (.bool true) t31 w fun t32 w =>
 U6 P .not t32 w fun t34 w =>
 Q0 t34 true w (fun w J => J x3 w) fun t36 w =>
 Q0 t34 true w (Q3 P .eql T.d (.tmp 36) (.const (.int .i64 0)) t36 (.int .i64 0)) fun t37 w =>
 Q0 t34 true w (fun w J => J t37 w) fun t38 w =>
 Q0 t38 false w (fun w J => J a0 w) fun t39 w =>
 Q0 t38 false w (fun w J => J x3 w) fun t40 w =>
 Q0 t38 false w (E2 P T.b t39 t40) fun t41 w =>
 Q0 t38 false w (Q3 P .lss T.s (.tmp 41) (.const (.int .u8 48)) t41 (.int .u8 48)) fun t42 w =>
 Q0 t34 true w (pick P t38 (.bool true) t42) fun t43 w =>
 Q0 t34 true w (fun w J => J t43 w) fun t44 w =>
 Q0 t44 false w (fun w J => J a0 w) fun t45 w =>
 Q0 t44 false w (fun w J => J x3 w) fun t46 w =>
 Q0 t44 false w (E2 P T.b t45 t46) fun t47 w =>
 Q0 t44 false w (Q3 P .gtr T.s (.tmp 47) (.const (.int .u8 57)) t47 (.int .u8 57)) fun t48 w =>
 Q0 t34 true w (pick P t44 (.bool true) t48) fun t49 w =>
 pick P t34 t49 (.bool false) w fun t50 w =>
 X1 t50 (
 K (.bool false) w) (
 Q3 P .add T.d (.tmp 9) (.const (.int .i64 1)) x3 (.int .i64 1) w fun t10 w =>
 again3 t10 w)) (
 X4 P .len [T.b] T.d [false] [a0] w fun t52 w =>
 Q3 P .geq T.d (.tmp 52) (.const (.int .i64 1)) t52 (.int .i64 1) w fun t53 w =>
 Q0 t53 true w (fun w J => J a0 w) fun t55 w =>
 Q0 t53 true w (X4 P .len [T.b] T.d [false] [t55]) fun t56 w =>
 Q0 t53 true w (Q3 P .leq T.d (.tmp 56) (.const (.int .i64 32)) t56 (.int .i64 32)) fun t57 w =>
 pick P t53 t57 (.bool false) w fun t58 w =>
 K t58 w)
theorem Gq {a0 : Value} {w : World} {K : Value → World → Prop} (h : Wy a0 w K) : Q1 P F.aH [a0] w K := Q9 Fu Tryz.func136 rfl (by decide) (by kernel_rfl) h
def Vp (a0 : Value) (w : World) (K : Value → World → Prop) : Prop :=
 Q1 P F.aH [a0] w fun t4 w =>
 Q0 t4 true w (fun w J => J a0 w) fun t6 w =>
 Q0 t4 true w (E2 P T.b t6 (.int .i64 0)) fun t7 w =>
 Q0 t4 true w (Q3 P .leq T.s (.tmp 7) (.const (.int .u8 90)) t7 (.int .u8 90)) fun t8 w =>
 pick P t4 t8 (.bool false) w fun t9 w =>
 K t9 w
theorem Cw {a0 : Value} {w : World} {K : Value → World → Prop} (h : Vp a0 w K) : Q1 P F.e [a0] w K := Q9 (List.replicate 2 none) Tryz.func100 rfl (by decide) (by kernel_rfl) h
def Vl (a0 : Value) (w : World) (K : Value → World → Prop) : Prop :=
 Q1 P F.aj [a0] w fun t6 w =>
 X4 P .len [T.b] T.d [false] [a0] w fun t9 w =>
 Q3 P .mul T.d (.const (.int .i64 2)) (.tmp 10) (.int .i64 2) t6 w fun t11 w =>
 Q3 P .sub T.d (.tmp 9) (.tmp 11) t9 t11 w fun t12 w =>
 R7 P T.b a0 none (some t12) none w fun t13 w =>
 Q3 P .leq T.d (.tmp 14) (.const (.int .i64 3)) t6 (.int .i64 3) w fun t15 w =>
 Q0 t15 true w (fun w J => J t13 w) fun t17 w =>
 Q0 t15 true w (Q1 P F.ab [t17]) fun t18 w =>
 Q0 t15 true w (fun w J => J t18 w) fun t19 w =>
 Q0 t19 false w (fun w J => J t13 w) fun t20 w =>
 Q0 t19 false w (Q1 P F.e [t20]) fun t21 w =>
 Q0 t15 true w (pick P t19 (.bool true) t21) fun t22 w =>
 pick P t15 t22 (.bool false) w fun t23 w =>
 K t23 w
theorem Cs {a0 : Value} {w : World} {K : Value → World → Prop} (h : Vl a0 w K) : Q1 P F.i [a0] w K := Q9 (List.replicate 4 none) Tryz.func59 rfl (by decide) (by kernel_rfl) h
def Jw (a0 : Value) (w : World) (K : Value → World → Prop) : Prop :=
 Q1 P F.aH [a0] w fun t4 w =>
 Q0 t4 true w (fun w J => J a0 w) fun t6 w =>
 Q0 t4 true w (E2 P T.b t6 (.int .i64 0)) fun t7 w =>
 Q0 t4 true w (Q3 P .geq T.s (.tmp 7) (.const (.int .u8 97)) t7 (.int .u8 97)) fun t8 w =>
 pick P t4 t8 (.bool false) w fun t9 w =>
 K t9 w
theorem Rn {a0 : Value} {w : World} {K : Value → World → Prop} (h : Jw a0 w K) : Q1 P F.q [a0] w K := Q9 (List.replicate 2 none) Tryz.func126 rfl (by decide) (by kernel_rfl) h
def Mc (w : World) (K : Value → World → Prop) : Prop :=
 buildSlice P T.f 42 [(0, (.string ⟨#[105, 110, 116]⟩)), (1, (.string ⟨#[116, 114, 117, 101]⟩)), (2, (.string ⟨#[102, 97, 108, 115, 101]⟩)), (3, (.string ⟨#[119, 111, 114, 100]⟩)), (4, (.string ⟨#[110, 117, 108, 108]⟩)), (5, (.string ⟨#[108, 111, 97, 100]⟩)), (6, (.string ⟨#[115, 116, 111, 114, 101]⟩)), (7, (.string ⟨#[112, 111, 112]⟩)), (8, (.string ⟨#[100, 117, 112]⟩)), (9, (.string ⟨#[115, 119, 97, 112]⟩)), (10, (.string ⟨#[97, 100, 100]⟩)), (11, (.string ⟨#[115, 117, 98]⟩)), (12, (.string ⟨#[109, 117, 108]⟩)), (13, (.string ⟨#[100, 105, 118]⟩)), (14, (.string ⟨#[114, 101, 109]⟩)), (15, (.string ⟨#[110, 101, 103]⟩)), (16, (.string ⟨#[108, 101, 115, 115]⟩)), (17, (.string ⟨#[115, 97, 109, 101]⟩)), (18, (.string ⟨#[110, 111, 116]⟩)), (19, (.string ⟨#[98, 111, 116, 104]⟩)), (20, (.string ⟨#[106, 111, 105, 110]⟩)), (21, (.string ⟨#[115, 105, 122, 101]⟩)), (22, (.string ⟨#[106, 117, 109, 112]⟩)), (23, (.string ⟨#[98, 114, 97, 110, 99, 104]⟩)), (24, (.string ⟨#[110, 101, 119]⟩)), (25, (.string ⟨#[103, 101, 116]⟩)), (26, (.string ⟨#[112, 117, 116]⟩)), (27, (.string ⟨#[99, 97, 108, 108]⟩)), (28, (.string ⟨#[97, 114, 114, 97, 121]⟩)), (29, (.string ⟨#[97, 116]⟩)), (30, (.string ⟨#[115, 101, 116]⟩)), (31, (.string ⟨#[105, 115]⟩)), (32, (.string ⟨#[99, 97, 115, 116]⟩)), (33, (.string ⟨#[114, 101, 116, 117, 114, 110]⟩)), (34, (.string ⟨#[116, 104, 114, 111, 119]⟩)), (35, (.string ⟨#[111, 117, 116]⟩)), (36, (.string ⟨#[101, 113, 117, 97, 108]⟩)), (37, (.string ⟨#[97, 110, 100]⟩)), (38, (.string ⟨#[111, 114]⟩)), (39, (.string ⟨#[120, 111, 114]⟩)), (40, (.string ⟨#[115, 104, 108]⟩)), (41, (.string ⟨#[115, 104, 114]⟩))] w fun t1 w =>
 K t1 w
theorem Is {w : World} {K : Value → World → Prop} (h : Mc  w K) : Q1 P F.bt [] w K := Q9 (List.replicate 2 none) Tryz.func196 rfl (by decide) (by kernel_rfl) h
def Rx : W2 := [none, none, none, none, some ([4], [2, 4, 6, 7, 8, 9, 10, 11, 12, 13, 14, 15, 16, 17, 18]), none, none, none, none, none, none]
def Ue (a0 : Value) (w : World) (K : Value → World → Prop) : Prop :=
 Q1 P F.bt [] w fun t5 w =>
 lp (α := Value) (.int .i64 0) w fun again4 x4 d_ w =>
 X4 P .len [T.f] T.d [false] [t5] w fun t8 w =>
 Q3 P .lss T.d (.tmp 6) (.tmp 8) x4 t8 w fun t9 w =>
 X1 t9 (
 indexAddr P T.f t5 x4 w fun t14 w =>
 Q2 P T.b t14 w fun t15 w =>
 Q3 P .eql T.b (.tmp 15) (.tmp 16) t15 a0 w fun t17 w =>
 X1 t17 (
 K x4 w) (
 Q3 P .add T.d (.tmp 10) (.const (.int .i64 1)) x4 (.int .i64 1) w fun t11 w =>
 again4 t11 w)) (
 K (.int .i64 (-1)) w)
theorem Rl {a0 : Value} {w : World} {K : Value → World → Prop} (h : Ue a0 w K) : Q1 P F.aW [a0] w K := Q9 Rx Tryz.func191 rfl (by decide) (by kernel_rfl) h
def Ci : W2 := [none, none, none, some ([4], [4, 5, 6, 7, 8, 9]), none, none, none, none, none, some ([10], [10, 11, 12, 13, 14, 15, 16, 17, 18]), none, none, none, none, none, none, none, none, none, none, none, none]
def Vc (a0 : Value) (w : World) (K : Value → World → Prop) : Prop :=
 jn (α := Value) w (fun J3 w =>
 Q3 P .eql T.b (.tmp 3) (.const (.string ⟨#[105, 110, 116]⟩)) a0 (.string ⟨#[105, 110, 116]⟩) w fun t5 w =>
 X1 t5 (
 J3 t5 w) (
 Q3 P .eql T.b (.tmp 3) (.const (.string ⟨#[108, 111, 97, 100]⟩)) a0 (.string ⟨#[108, 111, 97, 100]⟩) w fun t6 w =>
 X1 t6 (
 J3 t6 w) (
 Q3 P .eql T.b (.tmp 3) (.const (.string ⟨#[115, 116, 111, 114, 101]⟩)) a0 (.string ⟨#[115, 116, 111, 114, 101]⟩) w fun t7 w =>
 X1 t7 (
 J3 t7 w) (
 Q3 P .eql T.b (.tmp 3) (.const (.string ⟨#[106, 117, 109, 112]⟩)) a0 (.string ⟨#[106, 117, 109, 112]⟩) w fun t8 w =>
 X1 t8 (
 J3 t8 w) (
 Q3 P .eql T.b (.tmp 3) (.const (.string ⟨#[98, 114, 97, 110, 99, 104]⟩)) a0 (.string ⟨#[98, 114, 97, 110, 99, 104]⟩) w fun t9 w =>
 J3 t9 w))))) fun z3 d_ w =>
 X1 z3 (
 K (.int .i64 1) w) (
 jn (α := Value) w (fun J9 w =>
 Q3 P .eql T.b (.tmp 3) (.const (.string ⟨#[119, 111, 114, 100]⟩)) a0 (.string ⟨#[119, 111, 114, 100]⟩) w fun t11 w =>
 X1 t11 (
 J9 t11 w) (
 Q3 P .eql T.b (.tmp 3) (.const (.string ⟨#[110, 101, 119]⟩)) a0 (.string ⟨#[110, 101, 119]⟩) w fun t12 w =>
 X1 t12 (
 J9 t12 w) (
 Q3 P .eql T.b (.tmp 3) (.const (.string ⟨#[103, 101, 116]⟩)) a0 (.string ⟨#[103, 101, 116]⟩) w fun t13 w =>
 X1 t13 (
 J9 t13 w) (
 Q3 P .eql T.b (.tmp 3) (.const (.string ⟨#[112, 117, 116]⟩)) a0 (.string ⟨#[112, 117, 116]⟩) w fun t14 w =>
 X1 t14 (
 J9 t14 w) (
 Q3 P .eql T.b (.tmp 3) (.const (.string ⟨#[99, 97, 108, 108]⟩)) a0 (.string ⟨#[99, 97, 108, 108]⟩) w fun t15 w =>
 X1 t15 (
 J9 t15 w) (
 Q3 P .eql T.b (.tmp 3) (.const (.string ⟨#[97, 114, 114, 97, 121]⟩)) a0 (.string ⟨#[97, 114, 114, 97, 121]⟩) w fun t16 w =>
 X1 t16 (
 J9 t16 w) (
 Q3 P .eql T.b (.tmp 3) (.const (.string ⟨#[105, 115]⟩)) a0 (.string ⟨#[105, 115]⟩) w fun t17 w =>
 X1 t17 (
 J9 t17 w) (
 Q3 P .eql T.b (.tmp 3) (.const (.string ⟨#[99, 97, 115, 116]⟩)) a0 (.string ⟨#[99, 97, 115, 116]⟩) w fun t18 w =>
 J9 t18 w)))))))) fun z9 d_ w =>
 X1 z9 (
 K (.int .i64 2) w) (
 Q1 P F.aW [a0] w fun t20 w =>
 Q3 P .lss T.d (.tmp 20) (.const (.int .i64 0)) t20 (.int .i64 0) w fun t21 w =>
 X1 t21 (
 K (.int .i64 (-1)) w) (
 K (.int .i64 0) w)))
theorem Be {a0 : Value} {w : World} {K : Value → World → Prop} (h : Vc a0 w K) : Q1 P F.bb [a0] w K := Q9 Ci Tryz.func182 rfl (by decide) (by kernel_rfl) h
def Wk (a0 a1 : Value) (w : World) (K : Value → World → Prop) : Prop :=
 X4 P .len [T.b] T.d [false] [a0] w fun t7 w =>
 Q3 P .lss T.d (.tmp 5) (.tmp 7) a1 t7 w fun t8 w =>
 Q0 t8 true w (fun w J => J a0 w) fun t10 w =>
 Q0 t8 true w (fun w J => J a1 w) fun t11 w =>
 Q0 t8 true w (E2 P T.b t10 t11) fun t12 w =>
 Q0 t8 true w (Q3 P .geq T.s (.tmp 12) (.const (.int .u8 128)) t12 (.int .u8 128)) fun t13 w =>
 pick P t8 t13 (.bool false) w fun t14 w =>
 Q0 t14 true w (fun w J => J a0 w) fun t16 w =>
 Q0 t14 true w (fun w J => J a1 w) fun t17 w =>
 Q0 t14 true w (E2 P T.b t16 t17) fun t18 w =>
 Q0 t14 true w (Q3 P .lss T.s (.tmp 18) (.const (.int .u8 192)) t18 (.int .u8 192)) fun t19 w =>
 pick P t14 t19 (.bool false) w fun t20 w =>
 K t20 w
theorem Bb {a0 a1 : Value} {w : World} {K : Value → World → Prop} (h : Wk a0 a1 w K) : Q1 P F.o [a0, a1] w K := Q9 (List.replicate 2 none) Tryz.func197 rfl (by decide) (by kernel_rfl) h
def Fy : W2 := [none, none, some ([], [2, 4, 5, 9, 10, 11, 12, 13, 14, 15, 16, 17, 18, 19, 20, 21, 22, 23, 24, 25, 26, 27, 28, 29, 30, 31, 32, 33, 34, 35, 36, 37, 38, 39, 40, 41, 42, 43, 44, 45, 46, 47, 48, 49, 50, 51, 52, 53, 54, 55, 56, 57, 58, 59, 60, 61, 62, 63, 64, 65, 66, 67, 68, 69, 70, 71, 72, 73, 74, 75, 76, 77, 78, 79, 80, 81, 82, 83, 84, 85, 86, 87, 88, 89, 90, 91, 92, 93, 94, 95, 96, 97, 98, 99, 100, 101, 102, 103, 104, 105, 106]), none, none, none, none, none, none, none, none, none, none, none, none, none]
def Li (a0 : Value) (w : World) (K : Value → World → Prop) : Prop :=
 E2 P T.b a0 (.int .i64 0) w fun t7 w =>
 conv P T.s T.d t7 w fun t8 w =>
 jn (α := Unit) w (fun J2 w =>
 Q3 P .lss T.d (.tmp 10) (.const (.int .i64 128)) t8 (.int .i64 128) w fun t11 w =>
 X1 t11 (
 K (.int .i64 1) w) (
 Q3 P .geq T.d (.tmp 13) (.const (.int .i64 194)) t8 (.int .i64 194) w fun t14 w =>
 Q0 t14 true w (fun w J => J t8 w) fun t16 w =>
 Q0 t14 true w (Q3 P .lss T.d (.tmp 16) (.const (.int .i64 224)) t16 (.int .i64 224)) fun t17 w =>
 pick P t14 t17 (.bool false) w fun t18 w =>
 Q0 t18 true w (fun w J => J a0 w) fun t20 w =>
 Q0 t18 true w (Q1 P F.o [t20, (.int .i64 1)]) fun t21 w =>
 pick P t18 t21 (.bool false) w fun t22 w =>
 X1 t22 (
 K (.int .i64 2) w) (
 Q3 P .geq T.d (.tmp 24) (.const (.int .i64 224)) t8 (.int .i64 224) w fun t25 w =>
 Q0 t25 true w (fun w J => J t8 w) fun t27 w =>
 Q0 t25 true w (Q3 P .lss T.d (.tmp 27) (.const (.int .i64 240)) t27 (.int .i64 240)) fun t28 w =>
 pick P t25 t28 (.bool false) w fun t29 w =>
 Q0 t29 true w (fun w J => J a0 w) fun t31 w =>
 Q0 t29 true w (Q1 P F.o [t31, (.int .i64 1)]) fun t32 w =>
 pick P t29 t32 (.bool false) w fun t33 w =>
 Q0 t33 true w (fun w J => J a0 w) fun t35 w =>
 Q0 t33 true w (Q1 P F.o [t35, (.int .i64 2)]) fun t36 w =>
 pick P t33 t36 (.bool false) w fun t37 w =>
 X1 t37 (
 dr w fun Tr Br =>
 Q7 Tr (fun φ39 => ∀ w, Br w → Q3 P .rem T.d (.tmp 38) (.const (.int .i64 16)) t8 (.int .i64 16) w (dk Tr φ39 w)) fun φ39 =>
 Q7 Tr (fun φ40 => ∀ t39 w, Br w → φ39 t39 w → Q3 P .mul T.d (.tmp 39) (.const (.int .i64 4096)) t39 (.int .i64 4096) w (dk Tr φ40 w)) fun φ40 =>
 Q7 Tr (fun φ42 => ∀ w, Br w → E2 P T.b a0 (.int .i64 1) w (dk Tr φ42 w)) fun φ42 =>
 Q7 Tr (fun φ43 => ∀ t42 w, Br w → φ42 t42 w → Q3 P .rem T.s (.tmp 42) (.const (.int .u8 64)) t42 (.int .u8 64) w (dk Tr φ43 w)) fun φ43 =>
 Q7 Tr (fun φ48 => ∀ w, Br w → E2 P T.b a0 (.int .i64 2) w (dk Tr φ48 w)) fun φ48 =>
 Q7 Tr (fun φ49 => ∀ t48 w, Br w → φ48 t48 w → Q3 P .rem T.s (.tmp 48) (.const (.int .u8 64)) t48 (.int .u8 64) w (dk Tr φ49 w)) fun φ49 =>
 Q7 Tr (fun φ44 => ∀ t43 w, Br w → φ43 t43 w → conv P T.s T.d t43 w (dk Tr φ44 w)) fun φ44 =>
 Q7 Tr (fun φ45 => ∀ t44 w, Br w → φ44 t44 w → Q3 P .mul T.d (.tmp 44) (.const (.int .i64 64)) t44 (.int .i64 64) w (dk Tr φ45 w)) fun φ45 =>
 Q7 Tr (fun φ46 => ∀ t40 t45 w, Br w → φ40 t40 w → φ45 t45 w → Q3 P .add T.d (.tmp 40) (.tmp 45) t40 t45 w (dk Tr φ46 w)) fun φ46 =>
 Q7 Tr (fun φ50 => ∀ t49 w, Br w → φ49 t49 w → conv P T.s T.d t49 w (dk Tr φ50 w)) fun φ50 =>
 ∀ t39 t40 t42 t43 t48 t49 t44 t45 t46 t50 w, Br w → φ39 t39 w → φ40 t40 w → φ42 t42 w → φ43 t43 w → φ48 t48 w → φ49 t49 w → φ44 t44 w → φ45 t45 w → φ46 t46 w → φ50 t50 w → 
 Q3 P .add T.d (.tmp 46) (.tmp 50) t46 t50 w fun t51 w =>
 Q3 P .geq T.d (.tmp 52) (.const (.int .i64 2048)) t51 (.int .i64 2048) w fun t53 w =>
 Q0 t53 true w (fun w J => J t51 w) fun t55 w =>
 Q0 t53 true w (Q3 P .lss T.d (.tmp 55) (.const (.int .i64 55296)) t55 (.int .i64 55296)) fun t56 w =>
 Q0 t53 true w (fun w J => J t56 w) fun t57 w =>
 Q0 t57 false w (fun w J => J t51 w) fun t58 w =>
 Q0 t57 false w (Q3 P .gtr T.d (.tmp 58) (.const (.int .i64 57343)) t58 (.int .i64 57343)) fun t59 w =>
 Q0 t53 true w (pick P t57 (.bool true) t59) fun t60 w =>
 pick P t53 t60 (.bool false) w fun t61 w =>
 X1 t61 (
 K (.int .i64 3) w) (
 J2 () w)) (
 Q3 P .geq T.d (.tmp 63) (.const (.int .i64 240)) t8 (.int .i64 240) w fun t64 w =>
 Q0 t64 true w (fun w J => J t8 w) fun t66 w =>
 Q0 t64 true w (Q3 P .lss T.d (.tmp 66) (.const (.int .i64 245)) t66 (.int .i64 245)) fun t67 w =>
 pick P t64 t67 (.bool false) w fun t68 w =>
 Q0 t68 true w (fun w J => J a0 w) fun t70 w =>
 Q0 t68 true w (Q1 P F.o [t70, (.int .i64 1)]) fun t71 w =>
 pick P t68 t71 (.bool false) w fun t72 w =>
 Q0 t72 true w (fun w J => J a0 w) fun t74 w =>
 Q0 t72 true w (Q1 P F.o [t74, (.int .i64 2)]) fun t75 w =>
 pick P t72 t75 (.bool false) w fun t76 w =>
 Q0 t76 true w (fun w J => J a0 w) fun t78 w =>
 Q0 t76 true w (Q1 P F.o [t78, (.int .i64 3)]) fun t79 w =>
 pick P t76 t79 (.bool false) w fun t80 w =>
 X1 t80 (
 dr w fun Tr Br =>
 Q7 Tr (fun φ82 => ∀ w, Br w → Q3 P .rem T.d (.tmp 81) (.const (.int .i64 8)) t8 (.int .i64 8) w (dk Tr φ82 w)) fun φ82 =>
 Q7 Tr (fun φ83 => ∀ t82 w, Br w → φ82 t82 w → Q3 P .mul T.d (.tmp 82) (.const (.int .i64 262144)) t82 (.int .i64 262144) w (dk Tr φ83 w)) fun φ83 =>
 Q7 Tr (fun φ85 => ∀ w, Br w → E2 P T.b a0 (.int .i64 1) w (dk Tr φ85 w)) fun φ85 =>
 Q7 Tr (fun φ86 => ∀ t85 w, Br w → φ85 t85 w → Q3 P .rem T.s (.tmp 85) (.const (.int .u8 64)) t85 (.int .u8 64) w (dk Tr φ86 w)) fun φ86 =>
 Q7 Tr (fun φ91 => ∀ w, Br w → E2 P T.b a0 (.int .i64 2) w (dk Tr φ91 w)) fun φ91 =>
 Q7 Tr (fun φ92 => ∀ t91 w, Br w → φ91 t91 w → Q3 P .rem T.s (.tmp 91) (.const (.int .u8 64)) t91 (.int .u8 64) w (dk Tr φ92 w)) fun φ92 =>
 Q7 Tr (fun φ97 => ∀ w, Br w → E2 P T.b a0 (.int .i64 3) w (dk Tr φ97 w)) fun φ97 =>
 Q7 Tr (fun φ98 => ∀ t97 w, Br w → φ97 t97 w → Q3 P .rem T.s (.tmp 97) (.const (.int .u8 64)) t97 (.int .u8 64) w (dk Tr φ98 w)) fun φ98 =>
 Q7 Tr (fun φ87 => ∀ t86 w, Br w → φ86 t86 w → conv P T.s T.d t86 w (dk Tr φ87 w)) fun φ87 =>
 Q7 Tr (fun φ88 => ∀ t87 w, Br w → φ87 t87 w → Q3 P .mul T.d (.tmp 87) (.const (.int .i64 4096)) t87 (.int .i64 4096) w (dk Tr φ88 w)) fun φ88 =>
 Q7 Tr (fun φ89 => ∀ t83 t88 w, Br w → φ83 t83 w → φ88 t88 w → Q3 P .add T.d (.tmp 83) (.tmp 88) t83 t88 w (dk Tr φ89 w)) fun φ89 =>
 Q7 Tr (fun φ93 => ∀ t92 w, Br w → φ92 t92 w → conv P T.s T.d t92 w (dk Tr φ93 w)) fun φ93 =>
 Q7 Tr (fun φ94 => ∀ t93 w, Br w → φ93 t93 w → Q3 P .mul T.d (.tmp 93) (.const (.int .i64 64)) t93 (.int .i64 64) w (dk Tr φ94 w)) fun φ94 =>
 Q7 Tr (fun φ95 => ∀ t89 t94 w, Br w → φ89 t89 w → φ94 t94 w → Q3 P .add T.d (.tmp 89) (.tmp 94) t89 t94 w (dk Tr φ95 w)) fun φ95 =>
 Q7 Tr (fun φ99 => ∀ t98 w, Br w → φ98 t98 w → conv P T.s T.d t98 w (dk Tr φ99 w)) fun φ99 =>
 ∀ t82 t83 t85 t86 t91 t92 t97 t98 t87 t88 t89 t93 t94 t95 t99 w, Br w → φ82 t82 w → φ83 t83 w → φ85 t85 w → φ86 t86 w → φ91 t91 w → φ92 t92 w → φ97 t97 w → φ98 t98 w → φ87 t87 w → φ88 t88 w → φ89 t89 w → φ93 t93 w → φ94 t94 w → φ95 t95 w → φ99 t99 w → 
 Q3 P .add T.d (.tmp 95) (.tmp 99) t95 t99 w fun t100 w =>
 Q3 P .geq T.d (.tmp 101) (.const (.int .i64 65536)) t100 (.int .i64 65536) w fun t102 w =>
 Q0 t102 true w (fun w J => J t100 w) fun t104 w =>
 Q0 t102 true w (Q3 P .leq T.d (.tmp 104) (.const (.int .i64 1114111)) t104 (.int .i64 1114111)) fun t105 w =>
 pick P t102 t105 (.bool false) w fun t106 w =>
 X1 t106 (
 K (.int .i64 4) w) (
 J2 () w)) (
 J2 () w))))) fun z2 d_ w =>
 K (.int .i64 0) w
theorem Gb {a0 : Value} {w : World} {K : Value → World → Prop} (h : Li a0 w K) : Q1 P F.bm [a0] w K := Q9 Fy Tryz.func192 rfl (by decide) (by kernel_rfl) h
def Cl : W2 := [none, none, some ([0], [0, 2, 3, 4, 5, 6, 7, 8, 9, 10, 11, 12]), none, none, none, none, none, none, none]
def Vq (a0 : Value) (w : World) (K : Value → World → Prop) : Prop :=
 lp (α := Value) a0 w fun again2 x2 d_ w =>
 Q3 P .neq T.b (.tmp 4) (.const (.string ⟨#[]⟩)) x2 (.string ⟨#[]⟩) w fun t5 w =>
 X1 t5 (
 Q1 P F.bm [x2] w fun t7 w =>
 Q3 P .eql T.d (.tmp 8) (.const (.int .i64 0)) t7 (.int .i64 0) w fun t9 w =>
 X1 t9 (
 K (.bool false) w) (
 R7 P T.b x2 (some t7) none none w fun t12 w =>
 again2 t12 w)) (
 K (.bool true) w)
theorem Sn {a0 : Value} {w : World} {K : Value → World → Prop} (h : Vq a0 w K) : Q1 P F.bc [a0] w K := Q9 Cl Tryz.func183 rfl (by decide) (by kernel_rfl) h
def Cp : W2 := [none, none, none, some ([5], [2, 3, 4, 5, 6, 7, 8, 9, 10, 11, 12, 13, 14, 15, 16, 17, 18, 19, 20, 21, 22, 23, 24, 25, 26, 27, 28, 29, 30, 31, 32, 33]), none, none, none, none, none, none]
def Va (a0 : Value) (w : World) (K : Value → World → Prop) : Prop :=
 lp (α := Value) (.int .i64 0) w fun again3 x3 d_ w =>
 X4 P .len [T.b] T.d [false] [a0] w fun t8 w =>
 Q3 P .lss T.d (.tmp 6) (.tmp 8) x3 t8 w fun t9 w =>
 X1 t9 (
 E2 P T.b a0 x3 w fun t14 w =>
 Q3 P .eql T.s (.tmp 14) (.const (.int .u8 46)) t14 (.int .u8 46) w fun t15 w =>
 X1 t15 (
 dr w fun Tr Br =>
 Q7 Tr (fun φ18 => ∀ w, Br w → R7 P T.b a0 none (some x3) none w (dk Tr φ18 w)) fun φ18 =>
 Q7 Tr (fun φ21 => ∀ w, Br w → Q3 P .add T.d (.tmp 20) (.const (.int .i64 1)) x3 (.int .i64 1) w (dk Tr φ21 w)) fun φ21 =>
 Q7 Tr (fun φ22 => ∀ t21 w, Br w → φ21 t21 w → R7 P T.b a0 (some t21) none none w (dk Tr φ22 w)) fun φ22 =>
 Q7 Tr (fun φ25 => ∀ w, Br w → R7 P T.b a0 none (some x3) none w (dk Tr φ25 w)) fun φ25 =>
 Q7 Tr (fun φ26 => ∀ t25 w, Br w → φ25 t25 w → Q1 P F.e [t25] w (dk Tr φ26 w)) fun φ26 =>
 Q7 Tr (fun φ28 => ∀ t26 w, Br w → φ26 t26 w → Q0 t26 true w (fun w J => J a0 w) (dk Tr φ28 w)) fun φ28 =>
 Q7 Tr (fun φ29 => ∀ t26 w, Br w → φ26 t26 w → Q0 t26 true w (fun w J => J x3 w) (dk Tr φ29 w)) fun φ29 =>
 Q7 Tr (fun φ30 => ∀ t26 t29 w, Br w → φ26 t26 w → φ29 t29 w → Q0 t26 true w (Q3 P .add T.d (.tmp 29) (.const (.int .i64 1)) t29 (.int .i64 1)) (dk Tr φ30 w)) fun φ30 =>
 Q7 Tr (fun φ31 => ∀ t26 t28 t30 w, Br w → φ26 t26 w → φ28 t28 w → φ30 t30 w → Q0 t26 true w (R7 P T.b t28 (some t30) none none) (dk Tr φ31 w)) fun φ31 =>
 Q7 Tr (fun φ32 => ∀ t26 t31 w, Br w → φ26 t26 w → φ31 t31 w → Q0 t26 true w (Q1 P F.q [t31]) (dk Tr φ32 w)) fun φ32 =>
 Q7 Tr (fun φ33 => ∀ t26 t32 w, Br w → φ26 t26 w → φ32 t32 w → pick P t26 t32 (.bool false) w (dk Tr φ33 w)) fun φ33 =>
 ∀ t18 t21 t22 t25 t26 t28 t29 t30 t31 t32 t33 w, Br w → φ18 t18 w → φ21 t21 w → φ22 t22 w → φ25 t25 w → φ26 t26 w → φ28 t28 w → φ29 t29 w → φ30 t30 w → φ31 t31 w → φ32 t32 w → φ33 t33 w → 
 K (.tuple #[t18, t22, t33]) w) (
 Q3 P .add T.d (.tmp 10) (.const (.int .i64 1)) x3 (.int .i64 1) w fun t11 w =>
 again3 t11 w)) (
 K (.tuple #[(.string ⟨#[]⟩), (.string ⟨#[]⟩), (.bool false)]) w)
theorem Cq {a0 : Value} {w : World} {K : Value → World → Prop} (h : Va a0 w K) : Q1 P F.bd [a0] w K := Q9 Cp Tryz.func184 rfl (by decide) (by kernel_rfl) h
def Cd : W2 := [none, none, none, none, none, none, some ([4], [4, 5, 6, 7, 8, 30, 31, 32, 33, 34, 35, 36, 37, 38, 39, 40, 41, 42, 43, 44, 45, 46, 47, 48, 49, 50, 51, 52, 53, 54, 55, 56, 57, 58, 59, 60, 61, 62, 63, 64, 65, 66, 67, 68, 69, 70, 71, 72, 73, 74, 75, 76, 77, 78, 79, 80, 81, 82, 83, 84, 85, 86, 87, 88, 89, 90, 91, 92, 93, 94, 95, 96, 97, 98, 99, 100, 101, 102, 103, 104, 105, 106, 107, 108, 109, 110]), none, none, none, none, none, some ([4, 5], [4, 5, 59, 60, 61, 62, 63, 64, 65, 66, 67, 68, 69, 70, 71, 72, 73]), none, none, none, none, some ([82], [82, 83, 84]), none, none, none, none, none, none, none]
def We (a0 : Value) (w : World) (K : Value → World → Prop) : Prop :=
 box P T.n a0 w fun t1 w =>
 fieldAddr P T.n t1 0 w fun t9 w =>
 Q2 P T.b t9 w fun t10 w =>
 Q1 P F.bb [t10] w fun t11 w =>
 Q3 P .lss T.d (.tmp 12) (.const (.int .i64 0)) t11 (.int .i64 0) w fun t13 w =>
 X1 t13 (
 K (.int .i64 40) w) (
 Q3 P .eql T.d (.tmp 14) (.const (.int .i64 1)) t11 (.int .i64 1) w fun t15 w =>
 Q0 t15 false w (fieldAddr P T.n t1 1) fun t17 w =>
 Q0 t15 false w (Q2 P T.af t17) fun t18 w =>
 Q0 t15 false w (Q3 P .eql T.af (.tmp 18) (.const (.int .i64 0)) t18 (.int .i64 0)) fun t19 w =>
 pick P t15 (.bool true) t19 w fun t20 w =>
 Q0 t20 true w (fun w J => J t11 w) fun t22 w =>
 Q0 t20 true w (Q3 P .eql T.d (.tmp 22) (.const (.int .i64 2)) t22 (.int .i64 2)) fun t23 w =>
 Q0 t20 true w (fun w J => J t23 w) fun t24 w =>
 Q0 t24 false w (fieldAddr P T.n t1 2) fun t25 w =>
 Q0 t24 false w (Q2 P T.b t25) fun t26 w =>
 Q0 t24 false w (Q3 P .eql T.b (.tmp 26) (.const (.string ⟨#[]⟩)) t26 (.string ⟨#[]⟩)) fun t27 w =>
 Q0 t20 true w (pick P t24 (.bool true) t27) fun t28 w =>
 pick P t20 t28 (.bool false) w fun t29 w =>
 jn (α := Value) w (fun J6 w =>
 Q3 P .eql T.d (.tmp 30) (.const (.int .i64 2)) t11 (.int .i64 2) w fun t31 w =>
 X1 t31 (
 fieldAddr P T.n t1 0 w fun t32 w =>
 Q2 P T.b t32 w fun t33 w =>
 Q3 P .eql T.b (.tmp 33) (.const (.string ⟨#[119, 111, 114, 100]⟩)) t33 (.string ⟨#[119, 111, 114, 100]⟩) w fun t46 w =>
 X1 t46 (
 Q0 t29 true w (fieldAddr P T.n t1 2) fun t49 w =>
 Q0 t29 true w (Q2 P T.b t49) fun t50 w =>
 Q0 t29 true w (X4 P .len [T.b] T.d [false] [t50]) fun t51 w =>
 Q0 t29 true w (Q3 P .leq T.d (.tmp 51) (.const (.int .i64 64)) t51 (.int .i64 64)) fun t52 w =>
 pick P t29 t52 (.bool false) w fun t53 w =>
 Q0 t53 true w (fieldAddr P T.n t1 2) fun t55 w =>
 Q0 t53 true w (Q2 P T.b t55) fun t56 w =>
 Q0 t53 true w (Q1 P F.bc [t56]) fun t57 w =>
 pick P t53 t57 (.bool false) w fun t58 w =>
 lp (α := Value × Value) (t58, (.int .i64 0)) w fun again12 x12 d_ w =>
 fieldAddr P T.n t1 2 w fun t60 w =>
 Q2 P T.b t60 w fun t61 w =>
 X4 P .len [T.b] T.d [false] [t61] w fun t62 w =>
 Q3 P .lss T.d (.tmp 59) (.tmp 62) x12.2 t62 w fun t63 w =>
 X1 t63 (
 Q0 x12.1 true w (fieldAddr P T.n t1 2) fun t68 w =>
 Q0 x12.1 true w (Q2 P T.b t68) fun t69 w =>
 Q0 x12.1 true w (fun w J => J x12.2 w) fun t70 w =>
 Q0 x12.1 true w (E2 P T.b t69 t70) fun t71 w =>
 Q0 x12.1 true w (Q3 P .neq T.s (.tmp 71) (.const (.int .u8 10)) t71 (.int .u8 10)) fun t72 w =>
 pick P x12.1 t72 (.bool false) w fun t73 w =>
 Q3 P .add T.d (.tmp 64) (.const (.int .i64 1)) x12.2 (.int .i64 1) w fun t65 w =>
 again12 (t73, t65) w) (
 J6 x12.1 w)) (
 Q3 P .eql T.b (.tmp 33) (.const (.string ⟨#[110, 101, 119]⟩)) t33 (.string ⟨#[110, 101, 119]⟩) w fun t75 w =>
 X1 t75 (
 Q0 t29 true w (fieldAddr P T.n t1 2) fun t78 w =>
 Q0 t29 true w (Q2 P T.b t78) fun t79 w =>
 Q0 t29 true w (Q1 P F.e [t79]) fun t80 w =>
 pick P t29 t80 (.bool false) w fun t81 w =>
 J6 t81 w) (
 jn (α := Value) w (fun J17 w =>
 Q3 P .eql T.b (.tmp 33) (.const (.string ⟨#[105, 115]⟩)) t33 (.string ⟨#[105, 115]⟩) w fun t83 w =>
 X1 t83 (
 J17 t83 w) (
 Q3 P .eql T.b (.tmp 33) (.const (.string ⟨#[99, 97, 115, 116]⟩)) t33 (.string ⟨#[99, 97, 115, 116]⟩) w fun t84 w =>
 J17 t84 w)) fun z17 d_ w =>
 X1 z17 (
 Q0 t29 true w (fieldAddr P T.n t1 2) fun t87 w =>
 Q0 t29 true w (Q2 P T.b t87) fun t88 w =>
 Q0 t29 true w (Q1 P F.i [t88]) fun t89 w =>
 pick P t29 t89 (.bool false) w fun t90 w =>
 Q0 t90 true w (fieldAddr P T.n t1 2) fun t92 w =>
 Q0 t90 true w (Q2 P T.b t92) fun t93 w =>
 Q0 t90 true w (Q1 P F.ab [t93]) fun t94 w =>
 Q0 t90 true w (U6 P .not t94) fun t95 w =>
 pick P t90 t95 (.bool false) w fun t96 w =>
 J6 t96 w) (
 Q3 P .eql T.b (.tmp 33) (.const (.string ⟨#[97, 114, 114, 97, 121]⟩)) t33 (.string ⟨#[97, 114, 114, 97, 121]⟩) w fun t98 w =>
 X1 t98 (
 Q0 t29 true w (fieldAddr P T.n t1 2) fun t101 w =>
 Q0 t29 true w (Q2 P T.b t101) fun t102 w =>
 Q0 t29 true w (Q1 P F.i [t102]) fun t103 w =>
 pick P t29 t103 (.bool false) w fun t104 w =>
 Q0 t104 true w (fieldAddr P T.n t1 2) fun t106 w =>
 Q0 t104 true w (Q2 P T.b t106) fun t107 w =>
 Q0 t104 true w (Q1 P F.aj [t107]) fun t108 w =>
 Q0 t104 true w (Q3 P .lss T.d (.tmp 108) (.const (.int .i64 3)) t108 (.int .i64 3)) fun t109 w =>
 pick P t104 t109 (.bool false) w fun t110 w =>
 J6 t110 w) (
 fieldAddr P T.n t1 2 w fun t35 w =>
 Q2 P T.b t35 w fun t36 w =>
 Q1 P F.bd [t36] w fun t37 w =>
 ext P t37 0 w fun t38 w =>
 ext P t37 1 w fun t39 w =>
 ext P t37 2 w fun t40 w =>
 Q0 t29 true w (fun w J => J t40 w) fun t43 w =>
 pick P t29 t43 (.bool false) w fun t44 w =>
 J6 t44 w))))) (
 J6 t29 w)) fun z6 d_ w =>
 U6 P .not z6 w fun t112 w =>
 X1 t112 (
 K (.int .i64 41) w) (
 K (.int .i64 0) w))
theorem Bv {a0 : Value} {w : World} {K : Value → World → Prop} (h : We a0 w K) : Q1 P F.ba [a0] w K := Q9 Cd Tryz.func169 rfl (by decide) (by kernel_rfl) h
def Kg : W2 := [none, none, none, some ([3], [2, 3, 4, 5, 6, 7, 8, 9, 10, 11, 12, 13, 14, 15, 16, 17, 18]), none, none, none, none, none, none, none]
def Lx (a0 : Value) (w : World) (K : Value → World → Prop) : Prop :=
 lp (α := Value) (.int .i64 0) w fun again3 x3 d_ w =>
 X4 P .len [T.k] T.d [false] [a0] w fun t7 w =>
 Q3 P .lss T.d (.tmp 5) (.tmp 7) x3 t7 w fun t8 w =>
 X1 t8 (
 indexAddr P T.k a0 x3 w fun t13 w =>
 Q2 P T.n t13 w fun t14 w =>
 Q1 P F.ba [t14] w fun t15 w =>
 Q3 P .neq T.t (.tmp 16) (.const (.int .i64 0)) t15 (.int .i64 0) w fun t17 w =>
 X1 t17 (
 K t15 w) (
 Q3 P .add T.d (.tmp 9) (.const (.int .i64 1)) x3 (.int .i64 1) w fun t10 w =>
 again3 t10 w)) (
 K (.int .i64 0) w)
theorem Iz {a0 : Value} {w : World} {K : Value → World → Prop} (h : Lx a0 w K) : Q1 P F.aM [a0] w K := Q9 Kg Tryz.func152 rfl (by decide) (by kernel_rfl) h
def Rc : W2 := [none, none, none, none, some ([3, 4], [3, 4, 21, 22, 23, 24, 25, 26, 27, 28, 29, 30, 31, 32, 33, 34, 35, 36]), none, none, none, none, none, none, none, none, none, some ([3, 6], [3, 6, 7, 60, 61, 62, 63, 64, 65, 66, 67, 68, 69, 70, 71, 72, 73, 74, 75, 76, 77, 78, 79, 80, 81, 82, 83, 84, 85, 86, 87, 88, 89, 90, 91, 92, 93, 94, 95, 96, 97, 98, 99, 100, 101, 102, 103, 104, 105, 106]), none, none, none, none, none]
def Ul (a0 : Value) (w : World) (K : Value → World → Prop) : Prop :=
 box P T.c a0 w fun t1 w =>
 fieldAddr P T.c t1 0 w fun t8 w =>
 Q2 P T.b t8 w fun t9 w =>
 Q1 P F.q [t9] w fun t10 w =>
 Q0 t10 true w (fieldAddr P T.c t1 2) fun t12 w =>
 Q0 t10 true w (Q2 P T.b t12) fun t13 w =>
 Q0 t10 true w (Q3 P .eql T.b (.tmp 13) (.const (.string ⟨#[]⟩)) t13 (.string ⟨#[]⟩)) fun t14 w =>
 Q0 t10 true w (fun w J => J t14 w) fun t15 w =>
 Q0 t15 false w (fieldAddr P T.c t1 2) fun t16 w =>
 Q0 t15 false w (Q2 P T.b t16) fun t17 w =>
 Q0 t15 false w (Q1 P F.i [t17]) fun t18 w =>
 Q0 t10 true w (pick P t15 (.bool true) t18) fun t19 w =>
 pick P t10 t19 (.bool false) w fun t20 w =>
 lp (α := Value × Value) (t20, (.int .i64 0)) w fun again4 x4 d_ w =>
 fieldAddr P T.c t1 1 w fun t22 w =>
 Q2 P T.f t22 w fun t23 w =>
 X4 P .len [T.f] T.d [false] [t23] w fun t24 w =>
 Q3 P .lss T.d (.tmp 21) (.tmp 24) x4.2 t24 w fun t25 w =>
 X1 t25 (
 Q0 x4.1 true w (fieldAddr P T.c t1 1) fun t30 w =>
 Q0 x4.1 true w (Q2 P T.f t30) fun t31 w =>
 Q0 x4.1 true w (fun w J => J x4.2 w) fun t32 w =>
 Q0 x4.1 true w (indexAddr P T.f t31 t32) fun t33 w =>
 Q0 x4.1 true w (Q2 P T.b t33) fun t34 w =>
 Q0 x4.1 true w (Q1 P F.i [t34]) fun t35 w =>
 pick P x4.1 t35 (.bool false) w fun t36 w =>
 Q3 P .add T.d (.tmp 26) (.const (.int .i64 1)) x4.2 (.int .i64 1) w fun t27 w =>
 again4 (t36, t27) w) (
 fieldAddr P T.c t1 3 w fun t37 w =>
 Q2 P T.l t37 w fun t38 w =>
 X1 t38 (
 Q0 x4.1 true w (fieldAddr P T.c t1 4) fun t41 w =>
 Q0 x4.1 true w (Q2 P T.d t41) fun t42 w =>
 Q0 x4.1 true w (Q3 P .eql T.d (.tmp 42) (.const (.int .i64 0)) t42 (.int .i64 0)) fun t43 w =>
 pick P x4.1 t43 (.bool false) w fun t44 w =>
 Q0 t44 true w (fieldAddr P T.c t1 5) fun t46 w =>
 Q0 t44 true w (Q2 P T.k t46) fun t47 w =>
 Q0 t44 true w (X4 P .len [T.k] T.d [false] [t47]) fun t48 w =>
 Q0 t44 true w (Q3 P .eql T.d (.tmp 48) (.const (.int .i64 0)) t48 (.int .i64 0)) fun t49 w =>
 pick P t44 t49 (.bool false) w fun t50 w =>
 Q0 t50 true w (fieldAddr P T.c t1 6) fun t52 w =>
 Q0 t50 true w (Q2 P T.j t52) fun t53 w =>
 Q0 t50 true w (X4 P .len [T.j] T.d [false] [t53]) fun t54 w =>
 Q0 t50 true w (Q3 P .eql T.d (.tmp 54) (.const (.int .i64 0)) t54 (.int .i64 0)) fun t55 w =>
 pick P t50 t55 (.bool false) w fun t56 w =>
 K t56 w) (
 fieldAddr P T.c t1 5 w fun t57 w =>
 Q2 P T.k t57 w fun t58 w =>
 X4 P .len [T.k] T.d [false] [t58] w fun t59 w =>
 lp (α := Value × Value) (x4.1, (.int .i64 0)) w fun again14 x14 d_ w =>
 fieldAddr P T.c t1 6 w fun t61 w =>
 Q2 P T.j t61 w fun t62 w =>
 X4 P .len [T.j] T.d [false] [t62] w fun t63 w =>
 Q3 P .lss T.d (.tmp 60) (.tmp 63) x14.2 t63 w fun t64 w =>
 X1 t64 (
 fieldAddr P T.c t1 6 w fun t67 w =>
 Q2 P T.j t67 w fun t68 w =>
 indexAddr P T.j t68 x14.2 w fun t70 w =>
 Q2 P T.m t70 w fun t71 w =>
 M0 P T.m w fun t7 w =>
 V5 P T.m t7 t71 w fun _u w =>
 Q0 x14.1 true w (fieldAddr P T.m t7 0) fun t74 w =>
 Q0 x14.1 true w (Q2 P T.d t74) fun t75 w =>
 Q0 x14.1 true w (Q3 P .geq T.d (.tmp 75) (.const (.int .i64 0)) t75 (.int .i64 0)) fun t76 w =>
 pick P x14.1 t76 (.bool false) w fun t77 w =>
 Q0 t77 true w (fieldAddr P T.m t7 0) fun t79 w =>
 Q0 t77 true w (Q2 P T.d t79) fun t80 w =>
 Q0 t77 true w (fieldAddr P T.m t7 1) fun t81 w =>
 Q0 t77 true w (Q2 P T.d t81) fun t82 w =>
 Q0 t77 true w (Q3 P .lss T.d (.tmp 80) (.tmp 82) t80 t82) fun t83 w =>
 pick P t77 t83 (.bool false) w fun t84 w =>
 Q0 t84 true w (fieldAddr P T.m t7 1) fun t86 w =>
 Q0 t84 true w (Q2 P T.d t86) fun t87 w =>
 Q0 t84 true w (fun w J => J t59 w) fun t88 w =>
 Q0 t84 true w (Q3 P .leq T.d (.tmp 87) (.tmp 88) t87 t88) fun t89 w =>
 pick P t84 t89 (.bool false) w fun t90 w =>
 Q0 t90 true w (fieldAddr P T.m t7 2) fun t92 w =>
 Q0 t90 true w (Q2 P T.d t92) fun t93 w =>
 Q0 t90 true w (Q3 P .geq T.d (.tmp 93) (.const (.int .i64 0)) t93 (.int .i64 0)) fun t94 w =>
 pick P t90 t94 (.bool false) w fun t95 w =>
 Q0 t95 true w (fieldAddr P T.m t7 2) fun t97 w =>
 Q0 t95 true w (Q2 P T.d t97) fun t98 w =>
 Q0 t95 true w (fun w J => J t59 w) fun t99 w =>
 Q0 t95 true w (Q3 P .lss T.d (.tmp 98) (.tmp 99) t98 t99) fun t100 w =>
 pick P t95 t100 (.bool false) w fun t101 w =>
 Q0 t101 true w (fieldAddr P T.m t7 3) fun t103 w =>
 Q0 t101 true w (Q2 P T.b t103) fun t104 w =>
 Q0 t101 true w (Q1 P F.e [t104]) fun t105 w =>
 pick P t101 t105 (.bool false) w fun t106 w =>
 Q3 P .add T.d (.tmp 65) (.const (.int .i64 1)) x14.2 (.int .i64 1) w fun t66 w =>
 again14 (t106, t66) w) (
 Q0 x14.1 true w (fun w J => J t59 w) fun t109 w =>
 Q0 x14.1 true w (Q3 P .gtr T.d (.tmp 109) (.const (.int .i64 0)) t109 (.int .i64 0)) fun t110 w =>
 pick P x14.1 t110 (.bool false) w fun t111 w =>
 Q0 t111 true w (fieldAddr P T.c t1 4) fun t113 w =>
 Q0 t111 true w (Q2 P T.d t113) fun t114 w =>
 Q0 t111 true w (fieldAddr P T.c t1 1) fun t115 w =>
 Q0 t111 true w (Q2 P T.f t115) fun t116 w =>
 Q0 t111 true w (X4 P .len [T.f] T.d [false] [t116]) fun t117 w =>
 Q0 t111 true w (Q3 P .gtr T.d (.tmp 114) (.tmp 117) t114 t117) fun t118 w =>
 pick P t111 t118 (.bool false) w fun t119 w =>
 Q0 t119 true w (fieldAddr P T.c t1 5) fun t121 w =>
 Q0 t119 true w (Q2 P T.k t121) fun t122 w =>
 Q0 t119 true w (Q1 P F.aM [t122]) fun t123 w =>
 Q0 t119 true w (Q3 P .eql T.t (.tmp 123) (.const (.int .i64 0)) t123 (.int .i64 0)) fun t124 w =>
 pick P t119 t124 (.bool false) w fun t125 w =>
 K t125 w)))
theorem Rw {a0 : Value} {w : World} {K : Value → World → Prop} (h : Ul a0 w K) : Q1 P F.x [a0] w K := Q9 Rc Tryz.func127 rfl (by decide) (by kernel_rfl) h
end Go.Proofs.YtdnfaboigajkhaaGreatDoor

set_option maxRecDepth 100000
namespace Go.Proofs.YtdnfaboigajkhaaGreatDoor
open Go.Emb
def Bu : W2 := [none, none, none, none, some ([3, 4], [3, 4, 5, 26, 27, 28, 29, 30, 31, 32, 33, 34, 35, 36, 37, 38, 39, 40, 41, 42, 43, 44, 45, 46, 47, 48, 49, 50, 51, 52, 53, 54, 55, 56, 57, 58, 59, 60, 61, 62, 63, 64, 65, 66, 67, 68, 69, 70]), none, none, none, none, none, some ([3, 5], [3, 5, 52, 53, 54, 55, 56, 57, 58, 59, 60, 61, 62, 63, 64, 65, 66, 67, 68, 69, 70]), none, none, none, none, none, some ([3, 6], [3, 6, 7, 71, 72, 73, 74, 75, 76, 77, 78, 79, 80, 81, 82, 83, 84, 85, 86, 87, 88, 89, 90, 91, 92, 93, 94, 95, 96, 97, 98, 99, 100, 101, 102, 103, 104, 105, 106, 107, 108, 109, 110, 111, 112, 113, 114, 115, 116, 117, 118, 119, 120, 121, 122]), none, none, none, none, none, some ([3, 7], [3, 7, 102, 103, 104, 105, 106, 107, 108, 109, 110, 111, 112, 113, 114, 115, 116, 117, 118, 119, 120, 121, 122]), none, none, none, none, none, some ([3, 8], [3, 8, 9, 10, 123, 124, 125, 126, 127, 128, 129, 130, 131, 132, 133, 134, 135, 136, 137, 138, 139, 140, 141, 142, 143, 144, 145, 146, 147, 148, 149, 150, 151, 152, 153, 154, 155, 156, 157, 158, 159, 160, 161, 162, 163, 164, 165, 166, 167, 168, 169, 170, 171, 172, 173, 174]), none, none, none, none, none, none, some ([3, 10], [3, 10, 158, 159, 160, 161, 162, 163, 164, 165, 166, 167, 168, 169, 170, 171, 172, 173, 174]), none, none, none, none]
def Vb (a0 : Value) (w : World) (K : Value → World → Prop) : Prop :=
 box P T.a a0 w fun t1 w =>
 fieldAddr P T.a t1 0 w fun t11 w =>
 Q2 P T.b t11 w fun t12 w =>
 Q1 P F.e [t12] w fun t13 w =>
 Q0 t13 true w (fieldAddr P T.a t1 1) fun t15 w =>
 Q0 t13 true w (Q2 P T.b t15) fun t16 w =>
 Q0 t13 true w (Q1 P F.e [t16]) fun t17 w =>
 pick P t13 t17 (.bool false) w fun t18 w =>
 Q0 t18 true w (fieldAddr P T.a t1 0) fun t20 w =>
 Q0 t18 true w (Q2 P T.b t20) fun t21 w =>
 Q0 t18 true w (fieldAddr P T.a t1 1) fun t22 w =>
 Q0 t18 true w (Q2 P T.b t22) fun t23 w =>
 Q0 t18 true w (Q3 P .neq T.b (.tmp 21) (.tmp 23) t21 t23) fun t24 w =>
 pick P t18 t24 (.bool false) w fun t25 w =>
 lp (α := Value × Value) (t25, (.int .i64 0)) w fun again4 x4 d_ w =>
 fieldAddr P T.a t1 2 w fun t27 w =>
 Q2 P T.f t27 w fun t28 w =>
 X4 P .len [T.f] T.d [false] [t28] w fun t29 w =>
 Q3 P .lss T.d (.tmp 26) (.tmp 29) x4.2 t29 w fun t30 w =>
 X1 t30 (
 dr w fun Tr Br =>
 Q7 Tr (fun φ35 => ∀ w, Br w → Q0 x4.1 true w (fieldAddr P T.a t1 2) (dk Tr φ35 w)) fun φ35 =>
 Q7 Tr (fun φ37 => ∀ w, Br w → Q0 x4.1 true w (fun w J => J x4.2 w) (dk Tr φ37 w)) fun φ37 =>
 Q7 Tr (fun φ36 => ∀ t35 w, Br w → φ35 t35 w → Q0 x4.1 true w (Q2 P T.f t35) (dk Tr φ36 w)) fun φ36 =>
 Q7 Tr (fun φ38 => ∀ t36 t37 w, Br w → φ36 t36 w → φ37 t37 w → Q0 x4.1 true w (indexAddr P T.f t36 t37) (dk Tr φ38 w)) fun φ38 =>
 Q7 Tr (fun φ39 => ∀ t38 w, Br w → φ38 t38 w → Q0 x4.1 true w (Q2 P T.b t38) (dk Tr φ39 w)) fun φ39 =>
 Q7 Tr (fun φ40 => ∀ t39 w, Br w → φ39 t39 w → Q0 x4.1 true w (Q1 P F.e [t39]) (dk Tr φ40 w)) fun φ40 =>
 Q7 Tr (fun φ41 => ∀ t40 w, Br w → φ40 t40 w → pick P x4.1 t40 (.bool false) w (dk Tr φ41 w)) fun φ41 =>
 Q7 Tr (fun φ43 => ∀ t41 w, Br w → φ41 t41 w → Q0 t41 true w (fieldAddr P T.a t1 2) (dk Tr φ43 w)) fun φ43 =>
 Q7 Tr (fun φ45 => ∀ t41 w, Br w → φ41 t41 w → Q0 t41 true w (fun w J => J x4.2 w) (dk Tr φ45 w)) fun φ45 =>
 Q7 Tr (fun φ48 => ∀ t41 w, Br w → φ41 t41 w → Q0 t41 true w (fieldAddr P T.a t1 0) (dk Tr φ48 w)) fun φ48 =>
 Q7 Tr (fun φ44 => ∀ t41 t43 w, Br w → φ41 t41 w → φ43 t43 w → Q0 t41 true w (Q2 P T.f t43) (dk Tr φ44 w)) fun φ44 =>
 Q7 Tr (fun φ46 => ∀ t41 t44 t45 w, Br w → φ41 t41 w → φ44 t44 w → φ45 t45 w → Q0 t41 true w (indexAddr P T.f t44 t45) (dk Tr φ46 w)) fun φ46 =>
 Q7 Tr (fun φ47 => ∀ t41 t46 w, Br w → φ41 t41 w → φ46 t46 w → Q0 t41 true w (Q2 P T.b t46) (dk Tr φ47 w)) fun φ47 =>
 Q7 Tr (fun φ49 => ∀ t41 t48 w, Br w → φ41 t41 w → φ48 t48 w → Q0 t41 true w (Q2 P T.b t48) (dk Tr φ49 w)) fun φ49 =>
 ∀ t35 t37 t36 t38 t39 t40 t41 t43 t45 t48 t44 t46 t47 t49 w, Br w → φ35 t35 w → φ37 t37 w → φ36 t36 w → φ38 t38 w → φ39 t39 w → φ40 t40 w → φ41 t41 w → φ43 t43 w → φ45 t45 w → φ48 t48 w → φ44 t44 w → φ46 t46 w → φ47 t47 w → φ49 t49 w → 
 Q0 t41 true w (Q3 P .neq T.b (.tmp 47) (.tmp 49) t47 t49) fun t50 w =>
 pick P t41 t50 (.bool false) w fun t51 w =>
 lp (α := Value × Value) (t51, (.int .i64 0)) w fun again10 x10 d_ w =>
 Q3 P .lss T.d (.tmp 52) (.tmp 53) x10.2 x4.2 w fun t54 w =>
 X1 t54 (
 dr w fun Tr Br =>
 Q7 Tr (fun φ59 => ∀ w, Br w → Q0 x10.1 true w (fieldAddr P T.a t1 2) (dk Tr φ59 w)) fun φ59 =>
 Q7 Tr (fun φ61 => ∀ w, Br w → Q0 x10.1 true w (fun w J => J x10.2 w) (dk Tr φ61 w)) fun φ61 =>
 Q7 Tr (fun φ64 => ∀ w, Br w → Q0 x10.1 true w (fieldAddr P T.a t1 2) (dk Tr φ64 w)) fun φ64 =>
 Q7 Tr (fun φ66 => ∀ w, Br w → Q0 x10.1 true w (fun w J => J x4.2 w) (dk Tr φ66 w)) fun φ66 =>
 Q7 Tr (fun φ60 => ∀ t59 w, Br w → φ59 t59 w → Q0 x10.1 true w (Q2 P T.f t59) (dk Tr φ60 w)) fun φ60 =>
 Q7 Tr (fun φ62 => ∀ t60 t61 w, Br w → φ60 t60 w → φ61 t61 w → Q0 x10.1 true w (indexAddr P T.f t60 t61) (dk Tr φ62 w)) fun φ62 =>
 Q7 Tr (fun φ63 => ∀ t62 w, Br w → φ62 t62 w → Q0 x10.1 true w (Q2 P T.b t62) (dk Tr φ63 w)) fun φ63 =>
 Q7 Tr (fun φ65 => ∀ t64 w, Br w → φ64 t64 w → Q0 x10.1 true w (Q2 P T.f t64) (dk Tr φ65 w)) fun φ65 =>
 Q7 Tr (fun φ67 => ∀ t65 t66 w, Br w → φ65 t65 w → φ66 t66 w → Q0 x10.1 true w (indexAddr P T.f t65 t66) (dk Tr φ67 w)) fun φ67 =>
 Q7 Tr (fun φ68 => ∀ t67 w, Br w → φ67 t67 w → Q0 x10.1 true w (Q2 P T.b t67) (dk Tr φ68 w)) fun φ68 =>
 ∀ t59 t61 t64 t66 t60 t62 t63 t65 t67 t68 w, Br w → φ59 t59 w → φ61 t61 w → φ64 t64 w → φ66 t66 w → φ60 t60 w → φ62 t62 w → φ63 t63 w → φ65 t65 w → φ67 t67 w → φ68 t68 w → 
 Q0 x10.1 true w (Q3 P .neq T.b (.tmp 63) (.tmp 68) t63 t68) fun t69 w =>
 pick P x10.1 t69 (.bool false) w fun t70 w =>
 Q3 P .add T.d (.tmp 55) (.const (.int .i64 1)) x10.2 (.int .i64 1) w fun t56 w =>
 again10 (t70, t56) w) (
 Q3 P .add T.d (.tmp 31) (.const (.int .i64 1)) x4.2 (.int .i64 1) w fun t32 w =>
 again4 (x10.1, t32) w)) (
 lp (α := Value × Value) (x4.1, (.int .i64 0)) w fun again16 x16 d_ w =>
 fieldAddr P T.a t1 6 w fun t72 w =>
 Q2 P T.h t72 w fun t73 w =>
 X4 P .len [T.h] T.d [false] [t73] w fun t74 w =>
 Q3 P .lss T.d (.tmp 71) (.tmp 74) x16.2 t74 w fun t75 w =>
 X1 t75 (
 Q0 x16.1 true w (fieldAddr P T.a t1 6) fun t80 w =>
 Q0 x16.1 true w (Q2 P T.h t80) fun t81 w =>
 Q0 x16.1 true w (fun w J => J x16.2 w) fun t82 w =>
 Q0 x16.1 true w (indexAddr P T.h t81 t82) fun t83 w =>
 Q0 x16.1 true w (fieldAddr P T.i t83 0) fun t84 w =>
 Q0 x16.1 true w (Q2 P T.b t84) fun t85 w =>
 Q0 x16.1 true w (Q1 P F.q [t85]) fun t86 w =>
 pick P x16.1 t86 (.bool false) w fun t87 w =>
 Q0 t87 true w (fieldAddr P T.a t1 6) fun t89 w =>
 Q0 t87 true w (Q2 P T.h t89) fun t90 w =>
 Q0 t87 true w (fun w J => J x16.2 w) fun t91 w =>
 Q0 t87 true w (indexAddr P T.h t90 t91) fun t92 w =>
 Q0 t87 true w (fieldAddr P T.i t92 1) fun t93 w =>
 Q0 t87 true w (Q2 P T.b t93) fun t94 w =>
 Q0 t87 true w (Q1 P F.i [t94]) fun t95 w =>
 pick P t87 t95 (.bool false) w fun t96 w =>
 Q0 t96 true w (fieldAddr P T.a t1 3) fun t98 w =>
 Q0 t96 true w (Q2 P T.l t98) fun t99 w =>
 Q0 t96 true w (U6 P .not t99) fun t100 w =>
 pick P t96 t100 (.bool false) w fun t101 w =>
 lp (α := Value × Value) (t101, (.int .i64 0)) w fun again22 x22 d_ w =>
 Q3 P .lss T.d (.tmp 102) (.tmp 103) x22.2 x16.2 w fun t104 w =>
 X1 t104 (
 dr w fun Tr Br =>
 Q7 Tr (fun φ109 => ∀ w, Br w → Q0 x22.1 true w (fieldAddr P T.a t1 6) (dk Tr φ109 w)) fun φ109 =>
 Q7 Tr (fun φ111 => ∀ w, Br w → Q0 x22.1 true w (fun w J => J x22.2 w) (dk Tr φ111 w)) fun φ111 =>
 Q7 Tr (fun φ115 => ∀ w, Br w → Q0 x22.1 true w (fieldAddr P T.a t1 6) (dk Tr φ115 w)) fun φ115 =>
 Q7 Tr (fun φ117 => ∀ w, Br w → Q0 x22.1 true w (fun w J => J x16.2 w) (dk Tr φ117 w)) fun φ117 =>
 Q7 Tr (fun φ110 => ∀ t109 w, Br w → φ109 t109 w → Q0 x22.1 true w (Q2 P T.h t109) (dk Tr φ110 w)) fun φ110 =>
 Q7 Tr (fun φ112 => ∀ t110 t111 w, Br w → φ110 t110 w → φ111 t111 w → Q0 x22.1 true w (indexAddr P T.h t110 t111) (dk Tr φ112 w)) fun φ112 =>
 Q7 Tr (fun φ113 => ∀ t112 w, Br w → φ112 t112 w → Q0 x22.1 true w (fieldAddr P T.i t112 0) (dk Tr φ113 w)) fun φ113 =>
 Q7 Tr (fun φ114 => ∀ t113 w, Br w → φ113 t113 w → Q0 x22.1 true w (Q2 P T.b t113) (dk Tr φ114 w)) fun φ114 =>
 Q7 Tr (fun φ116 => ∀ t115 w, Br w → φ115 t115 w → Q0 x22.1 true w (Q2 P T.h t115) (dk Tr φ116 w)) fun φ116 =>
 Q7 Tr (fun φ118 => ∀ t116 t117 w, Br w → φ116 t116 w → φ117 t117 w → Q0 x22.1 true w (indexAddr P T.h t116 t117) (dk Tr φ118 w)) fun φ118 =>
 Q7 Tr (fun φ119 => ∀ t118 w, Br w → φ118 t118 w → Q0 x22.1 true w (fieldAddr P T.i t118 0) (dk Tr φ119 w)) fun φ119 =>
 Q7 Tr (fun φ120 => ∀ t119 w, Br w → φ119 t119 w → Q0 x22.1 true w (Q2 P T.b t119) (dk Tr φ120 w)) fun φ120 =>
 ∀ t109 t111 t115 t117 t110 t112 t113 t114 t116 t118 t119 t120 w, Br w → φ109 t109 w → φ111 t111 w → φ115 t115 w → φ117 t117 w → φ110 t110 w → φ112 t112 w → φ113 t113 w → φ114 t114 w → φ116 t116 w → φ118 t118 w → φ119 t119 w → φ120 t120 w → 
 Q0 x22.1 true w (Q3 P .neq T.b (.tmp 114) (.tmp 120) t114 t120) fun t121 w =>
 pick P x22.1 t121 (.bool false) w fun t122 w =>
 Q3 P .add T.d (.tmp 105) (.const (.int .i64 1)) x22.2 (.int .i64 1) w fun t106 w =>
 again22 (t122, t106) w) (
 Q3 P .add T.d (.tmp 76) (.const (.int .i64 1)) x16.2 (.int .i64 1) w fun t77 w =>
 again16 (x22.1, t77) w)) (
 lp (α := Value × Value) (x16.1, (.int .i64 0)) w fun again28 x28 d_ w =>
 fieldAddr P T.a t1 7 w fun t124 w =>
 Q2 P T.e t124 w fun t125 w =>
 X4 P .len [T.e] T.d [false] [t125] w fun t126 w =>
 Q3 P .lss T.d (.tmp 123) (.tmp 126) x28.2 t126 w fun t127 w =>
 X1 t127 (
 fieldAddr P T.a t1 7 w fun t130 w =>
 Q2 P T.e t130 w fun t131 w =>
 indexAddr P T.e t131 x28.2 w fun t133 w =>
 Q2 P T.c t133 w fun t134 w =>
 M0 P T.c w fun t9 w =>
 V5 P T.c t9 t134 w fun _u w =>
 Q0 x28.1 true w (Q2 P T.c t9) fun t137 w =>
 Q0 x28.1 true w (Q1 P F.x [t137]) fun t138 w =>
 pick P x28.1 t138 (.bool false) w fun t139 w =>
 Q0 t139 true w (fieldAddr P T.c t9 3) fun t141 w =>
 Q0 t139 true w (Q2 P T.l t141) fun t142 w =>
 Q0 t139 true w (U6 P .not t142) fun t143 w =>
 Q0 t139 true w (fun w J => J t143 w) fun t144 w =>
 Q0 t144 false w (fieldAddr P T.a t1 4) fun t145 w =>
 Q0 t144 false w (Q2 P T.l t145) fun t146 w =>
 Q0 t139 true w (pick P t144 (.bool true) t146) fun t147 w =>
 pick P t139 t147 (.bool false) w fun t148 w =>
 Q0 t148 true w (fieldAddr P T.a t1 3) fun t150 w =>
 Q0 t148 true w (Q2 P T.l t150) fun t151 w =>
 Q0 t148 true w (U6 P .not t151) fun t152 w =>
 Q0 t148 true w (fun w J => J t152 w) fun t153 w =>
 Q0 t153 false w (fieldAddr P T.c t9 3) fun t154 w =>
 Q0 t153 false w (Q2 P T.l t154) fun t155 w =>
 Q0 t148 true w (pick P t153 (.bool true) t155) fun t156 w =>
 pick P t148 t156 (.bool false) w fun t157 w =>
 lp (α := Value × Value) (t157, (.int .i64 0)) w fun again35 x35 d_ w =>
 Q3 P .lss T.d (.tmp 158) (.tmp 159) x35.2 x28.2 w fun t160 w =>
 X1 t160 (
 dr w fun Tr Br =>
 Q7 Tr (fun φ165 => ∀ w, Br w → Q0 x35.1 true w (fieldAddr P T.a t1 7) (dk Tr φ165 w)) fun φ165 =>
 Q7 Tr (fun φ167 => ∀ w, Br w → Q0 x35.1 true w (fun w J => J x35.2 w) (dk Tr φ167 w)) fun φ167 =>
 Q7 Tr (fun φ171 => ∀ w, Br w → Q0 x35.1 true w (fieldAddr P T.c t9 0) (dk Tr φ171 w)) fun φ171 =>
 Q7 Tr (fun φ166 => ∀ t165 w, Br w → φ165 t165 w → Q0 x35.1 true w (Q2 P T.e t165) (dk Tr φ166 w)) fun φ166 =>
 Q7 Tr (fun φ168 => ∀ t166 t167 w, Br w → φ166 t166 w → φ167 t167 w → Q0 x35.1 true w (indexAddr P T.e t166 t167) (dk Tr φ168 w)) fun φ168 =>
 Q7 Tr (fun φ169 => ∀ t168 w, Br w → φ168 t168 w → Q0 x35.1 true w (fieldAddr P T.c t168 0) (dk Tr φ169 w)) fun φ169 =>
 Q7 Tr (fun φ170 => ∀ t169 w, Br w → φ169 t169 w → Q0 x35.1 true w (Q2 P T.b t169) (dk Tr φ170 w)) fun φ170 =>
 Q7 Tr (fun φ172 => ∀ t171 w, Br w → φ171 t171 w → Q0 x35.1 true w (Q2 P T.b t171) (dk Tr φ172 w)) fun φ172 =>
 ∀ t165 t167 t171 t166 t168 t169 t170 t172 w, Br w → φ165 t165 w → φ167 t167 w → φ171 t171 w → φ166 t166 w → φ168 t168 w → φ169 t169 w → φ170 t170 w → φ172 t172 w → 
 Q0 x35.1 true w (Q3 P .neq T.b (.tmp 170) (.tmp 172) t170 t172) fun t173 w =>
 pick P x35.1 t173 (.bool false) w fun t174 w =>
 Q3 P .add T.d (.tmp 161) (.const (.int .i64 1)) x35.2 (.int .i64 1) w fun t162 w =>
 again35 (t174, t162) w) (
 Q3 P .add T.d (.tmp 128) (.const (.int .i64 1)) x28.2 (.int .i64 1) w fun t129 w =>
 again28 (x35.1, t129) w)) (
 Q0 x28.1 true w (fieldAddr P T.a t1 3) fun t177 w =>
 Q0 x28.1 true w (Q2 P T.l t177) fun t178 w =>
 Q0 x28.1 true w (U6 P .not t178) fun t179 w =>
 Q0 x28.1 true w (fun w J => J t179 w) fun t180 w =>
 Q0 t180 false w (fieldAddr P T.a t1 4) fun t181 w =>
 Q0 t180 false w (Q2 P T.l t181) fun t182 w =>
 Q0 t180 false w (fun w J => J t182 w) fun t183 w =>
 Q0 t183 true w (fieldAddr P T.a t1 1) fun t184 w =>
 Q0 t183 true w (Q2 P T.b t184) fun t185 w =>
 Q0 t183 true w (Q3 P .eql T.b (.tmp 185) (.const (.string ⟨#[79, 98, 106, 101, 99, 116]⟩)) t185 (.string ⟨#[79, 98, 106, 101, 99, 116]⟩)) fun t186 w =>
 Q0 t180 false w (pick P t183 t186 (.bool false)) fun t187 w =>
 Q0 x28.1 true w (pick P t180 (.bool true) t187) fun t188 w =>
 pick P x28.1 t188 (.bool false) w fun t189 w =>
 Q0 t189 true w (fieldAddr P T.a t1 4) fun t191 w =>
 Q0 t189 true w (Q2 P T.l t191) fun t192 w =>
 Q0 t189 true w (fun w J => J t192 w) fun t193 w =>
 Q0 t193 true w (fieldAddr P T.a t1 5) fun t194 w =>
 Q0 t193 true w (Q2 P T.l t194) fun t195 w =>
 Q0 t189 true w (pick P t193 t195 (.bool false)) fun t196 w =>
 Q0 t189 true w (U6 P .not t196) fun t197 w =>
 pick P t189 t197 (.bool false) w fun t198 w =>
 K t198 w)))
theorem Cj {a0 : Value} {w : World} {K : Value → World → Prop} (h : Vb a0 w K) : Q1 P F.b7 [a0] w K := Q9 Bu Tryz.func89 rfl (by decide) (by kernel_rfl) h
def Vn (a0 : Value) (w : World) (K : Value → World → Prop) : Prop :=
 box P T.a a0 w fun v_c_1 w =>
 Q2 P T.a v_c_1 w fun t3 w =>
 Q1 P F.bi [t3] w fun t4 w =>
 X1 t4 (
 K (.int .i64 51) w) (
 Q2 P T.a v_c_1 w fun t5 w =>
 Q1 P F.b7 [t5] w fun t6 w =>
 U6 P .not t6 w fun t7 w =>
 X1 t7 (
 K (.int .i64 50) w) (
 K (.int .i64 0) w))
theorem Co {a0 : Value} {w : World} {K : Value → World → Prop} (h : Vn a0 w K) : Q1 P F.b5 [a0] w K := Q9 (List.replicate 8 none) Tryz.func46 rfl (by decide) (by kernel_rfl) h
def Fm : W2 := [none, none, none, some ([5], [4, 5, 6, 7, 8, 9, 10, 11, 12, 13, 14, 15, 16, 17, 18, 19]), none, none, none, none, none, none]
def Ws (a0 a1 : Value) (w : World) (K : Value → World → Prop) : Prop :=
 lp (α := Value) (.int .i64 0) w fun again3 x3 d_ w =>
 X4 P .len [T.g] T.d [false] [a0] w fun t8 w =>
 Q3 P .lss T.d (.tmp 6) (.tmp 8) x3 t8 w fun t9 w =>
 X1 t9 (
 indexAddr P T.g a0 x3 w fun t14 w =>
 fieldAddr P T.a t14 0 w fun t15 w =>
 Q2 P T.b t15 w fun t16 w =>
 Q3 P .eql T.b (.tmp 16) (.tmp 17) t16 a1 w fun t18 w =>
 X1 t18 (
 K x3 w) (
 Q3 P .add T.d (.tmp 10) (.const (.int .i64 1)) x3 (.int .i64 1) w fun t11 w =>
 again3 t11 w)) (
 K (.int .i64 (-1)) w)
theorem Fk {a0 a1 : Value} {w : World} {K : Value → World → Prop} (h : Ws a0 a1 w K) : Q1 P F.b [a0, a1] w K := Q9 Fm Tryz.func47 rfl (by decide) (by kernel_rfl) h
def Rq : W2 := [none, none, none, none, none, none, none, some ([6], [4, 6, 7, 28, 29, 30, 31, 32, 33, 34, 35, 36, 37, 38, 39, 40, 41, 42, 43, 44, 45, 46, 47, 48, 49, 50, 51]), none, none, none, none, none, none, none]
def Ub (a0 a1 : Value) (w : World) (K : Value → World → Prop) : Prop :=
 box P T.a a1 w fun v_c_3 w =>
 fieldAddr P T.a v_c_3 1 w fun t9 w =>
 Q2 P T.b t9 w fun t10 w =>
 Q1 P F.b [a0, t10] w fun t11 w =>
 Q3 P .lss T.d (.tmp 12) (.const (.int .i64 0)) t11 (.int .i64 0) w fun t13 w =>
 Q0 t13 false w (fun w J => J a0 w) fun t15 w =>
 Q0 t13 false w (fun w J => J t11 w) fun t16 w =>
 Q0 t13 false w (indexAddr P T.g t15 t16) fun t17 w =>
 Q0 t13 false w (fieldAddr P T.a t17 3) fun t18 w =>
 Q0 t13 false w (Q2 P T.l t18) fun t19 w =>
 pick P t13 (.bool true) t19 w fun t20 w =>
 Q0 t20 false w (fun w J => J a0 w) fun t22 w =>
 Q0 t20 false w (fun w J => J t11 w) fun t23 w =>
 Q0 t20 false w (indexAddr P T.g t22 t23) fun t24 w =>
 Q0 t20 false w (fieldAddr P T.a t24 5) fun t25 w =>
 Q0 t20 false w (Q2 P T.l t25) fun t26 w =>
 pick P t20 (.bool true) t26 w fun t27 w =>
 X1 t27 (
 K (.int .i64 61) w) (
 lp (α := Value) (.int .i64 0) w fun again7 x7 d_ w =>
 fieldAddr P T.a v_c_3 2 w fun t29 w =>
 Q2 P T.f t29 w fun t30 w =>
 X4 P .len [T.f] T.d [false] [t30] w fun t31 w =>
 Q3 P .lss T.d (.tmp 28) (.tmp 31) x7 t31 w fun t32 w =>
 X1 t32 (
 fieldAddr P T.a v_c_3 2 w fun t36 w =>
 Q2 P T.f t36 w fun t37 w =>
 indexAddr P T.f t37 x7 w fun t39 w =>
 Q2 P T.b t39 w fun t40 w =>
 Q1 P F.b [a0, t40] w fun t41 w =>
 Q3 P .lss T.d (.tmp 42) (.const (.int .i64 0)) t41 (.int .i64 0) w fun t43 w =>
 Q0 t43 false w (fun w J => J a0 w) fun t45 w =>
 Q0 t43 false w (fun w J => J t41 w) fun t46 w =>
 Q0 t43 false w (indexAddr P T.g t45 t46) fun t47 w =>
 Q0 t43 false w (fieldAddr P T.a t47 3) fun t48 w =>
 Q0 t43 false w (Q2 P T.l t48) fun t49 w =>
 Q0 t43 false w (U6 P .not t49) fun t50 w =>
 pick P t43 (.bool true) t50 w fun t51 w =>
 X1 t51 (
 K (.int .i64 62) w) (
 Q3 P .add T.d (.tmp 33) (.const (.int .i64 1)) x7 (.int .i64 1) w fun t34 w =>
 again7 t34 w)) (
 K (.int .i64 0) w))
theorem Hx {a0 a1 : Value} {w : World} {K : Value → World → Prop} (h : Ub a0 a1 w K) : Q1 P F.aV [a0, a1] w K := Q9 Rq Tryz.func48 rfl (by decide) (by kernel_rfl) h
def Bg : W2 := [none, none, none, none, some ([3, 4], [3, 4, 5, 6, 7, 8, 13, 14, 15, 16, 17, 18, 19, 20, 21, 22, 23, 24, 25, 26, 27, 28, 29, 30, 31, 32, 33, 34, 35, 36, 37, 38, 39, 40, 41, 42, 43, 44, 45, 46, 47, 48, 49, 50, 51, 52, 53, 54]), none, none, none, none, none, none, none, some ([7], [7, 8, 34, 35, 36, 37, 38, 39, 40, 41, 42, 43, 44, 45, 46, 47, 48, 49, 50]), none, none, some ([], [8, 40, 41, 42, 43, 44, 45, 46, 47, 48, 49, 50]), none, none, none, none, some ([9], [9, 10, 11, 55, 56, 57, 58, 59, 60, 61, 62, 63, 64, 65, 66, 67, 68, 69, 70, 71, 72, 73, 74, 75, 76, 77, 78, 79, 80, 81, 82, 83, 84, 85, 86, 87, 88, 89, 90, 91, 92, 93, 94, 95, 96, 97, 98, 99, 100, 101, 102, 103]), none, none, none, none, some ([10], [10, 11, 61, 62, 63, 64, 65, 66, 67, 68, 69, 70, 71, 72, 73, 74, 75, 76, 77, 78, 79, 80, 81, 82, 83, 84, 85, 86, 87, 88, 89, 90, 91, 92, 93, 94, 95, 96, 97, 98, 99, 100, 101, 102, 103]), none, none, none, none, some ([11], [11, 67, 68, 69, 70, 71, 72, 73, 74, 75, 76, 77, 78, 79, 80, 81, 82, 83, 84, 85, 86, 87, 88, 89, 90, 91, 92, 93, 94, 95, 96, 97, 98, 99, 100, 101, 102, 103]), none, none, none, none]
def Vr (a0 : Value) (w : World) (K : Value → World → Prop) : Prop :=
 buildSlice P T.y 0 [] w fun t12 w =>
 lp (α := Value × Value) (t12, (.int .i64 0)) w fun again4 x4 d_ w =>
 X4 P .len [T.g] T.d [false] [a0] w fun t15 w =>
 Q3 P .lss T.d (.tmp 13) (.tmp 15) x4.2 t15 w fun t16 w =>
 X1 t16 (
 X4 P .len [T.g] T.d [false] [a0] w fun t20 w =>
 Po P T.w t20 t20 w fun t21 w =>
 dr w fun Tr Br =>
 Q7 Tr (fun φ24 => ∀ w, Br w → indexAddr P T.g a0 x4.2 w (dk Tr φ24 w)) fun φ24 =>
 Q7 Tr (fun φ25 => ∀ t24 w, Br w → φ24 t24 w → fieldAddr P T.a t24 1 w (dk Tr φ25 w)) fun φ25 =>
 Q7 Tr (fun φ30 => ∀ w, Br w → indexAddr P T.g a0 x4.2 w (dk Tr φ30 w)) fun φ30 =>
 Q7 Tr (fun φ31 => ∀ t30 w, Br w → φ30 t30 w → fieldAddr P T.a t30 2 w (dk Tr φ31 w)) fun φ31 =>
 Q7 Tr (fun φ26 => ∀ t25 w, Br w → φ25 t25 w → Q2 P T.b t25 w (dk Tr φ26 w)) fun φ26 =>
 Q7 Tr (fun φ27 => ∀ t26 w, Br w → φ26 t26 w → buildSlice P T.f 1 [(0, t26)] w (dk Tr φ27 w)) fun φ27 =>
 Q7 Tr (fun φ32 => ∀ t31 w, Br w → φ31 t31 w → Q2 P T.f t31 w (dk Tr φ32 w)) fun φ32 =>
 ∀ t24 t25 t30 t31 t26 t27 t32 w, Br w → φ24 t24 w → φ25 t25 w → φ30 t30 w → φ31 t31 w → φ26 t26 w → φ27 t27 w → φ32 t32 w → 
 X4 P .append [T.f, T.f] T.f [false, false] [t27, t32] w fun t33 w =>
 lp (α := Value) (.int .i64 0) w fun again12 x12 d_ w =>
 X4 P .len [T.f] T.d [false] [t33] w fun t36 w =>
 Q3 P .lss T.d (.tmp 34) (.tmp 36) x12 t36 w fun t37 w =>
 X1 t37 (
 jn (α := Unit) w (fun J15 w =>
 indexAddr P T.f t33 x12 w fun t43 w =>
 Q2 P T.b t43 w fun t44 w =>
 Q1 P F.b [a0, t44] w fun t45 w =>
 Q3 P .geq T.d (.tmp 46) (.const (.int .i64 0)) t45 (.int .i64 0) w fun t47 w =>
 X1 t47 (
 indexAddr P T.w t21 t45 w fun t50 w =>
 V5 P T.l t50 (.bool true) w fun _u w =>
 J15 () w) (
 J15 () w)) fun z15 d_ w =>
 Q3 P .add T.d (.tmp 38) (.const (.int .i64 1)) x12 (.int .i64 1) w fun t39 w =>
 again12 t39 w) (
 buildSlice P T.y 1 [(0, t21)] w fun t53 w =>
 X4 P .append [T.y, T.y] T.y [false, false] [x4.1, t53] w fun t54 w =>
 Q3 P .add T.d (.tmp 17) (.const (.int .i64 1)) x4.2 (.int .i64 1) w fun t18 w =>
 again4 (t54, t18) w)) (
 lp (α := Value) (.int .i64 0) w fun again20 x20 d_ w =>
 X4 P .len [T.g] T.d [false] [a0] w fun t57 w =>
 Q3 P .lss T.d (.tmp 55) (.tmp 57) x20 t57 w fun t58 w =>
 X1 t58 (
 lp (α := Value) (.int .i64 0) w fun again25 x25 d_ w =>
 X4 P .len [T.g] T.d [false] [a0] w fun t63 w =>
 Q3 P .lss T.d (.tmp 61) (.tmp 63) x25 t63 w fun t64 w =>
 X1 t64 (
 lp (α := Value) (.int .i64 0) w fun again30 x30 d_ w =>
 X4 P .len [T.g] T.d [false] [a0] w fun t69 w =>
 Q3 P .lss T.d (.tmp 67) (.tmp 69) x30 t69 w fun t70 w =>
 X1 t70 (
 dr w fun Tr Br =>
 Q7 Tr (fun φ75 => ∀ w, Br w → indexAddr P T.y x4.1 x25 w (dk Tr φ75 w)) fun φ75 =>
 Q7 Tr (fun φ80 => ∀ w, Br w → indexAddr P T.y x4.1 x25 w (dk Tr φ80 w)) fun φ80 =>
 Q7 Tr (fun φ76 => ∀ t75 w, Br w → φ75 t75 w → Q2 P T.w t75 w (dk Tr φ76 w)) fun φ76 =>
 Q7 Tr (fun φ81 => ∀ t80 w, Br w → φ80 t80 w → Q2 P T.w t80 w (dk Tr φ81 w)) fun φ81 =>
 Q7 Tr (fun φ83 => ∀ t81 w, Br w → φ81 t81 w → indexAddr P T.w t81 x30 w (dk Tr φ83 w)) fun φ83 =>
 Q7 Tr (fun φ84 => ∀ t83 w, Br w → φ83 t83 w → Q2 P T.l t83 w (dk Tr φ84 w)) fun φ84 =>
 Q7 Tr (fun φ86 => ∀ t84 w, Br w → φ84 t84 w → Q0 t84 false w (fun w J => J x4.1 w) (dk Tr φ86 w)) fun φ86 =>
 Q7 Tr (fun φ87 => ∀ t84 w, Br w → φ84 t84 w → Q0 t84 false w (fun w J => J x25 w) (dk Tr φ87 w)) fun φ87 =>
 Q7 Tr (fun φ88 => ∀ t84 t86 t87 w, Br w → φ84 t84 w → φ86 t86 w → φ87 t87 w → Q0 t84 false w (indexAddr P T.y t86 t87) (dk Tr φ88 w)) fun φ88 =>
 Q7 Tr (fun φ90 => ∀ t84 w, Br w → φ84 t84 w → Q0 t84 false w (fun w J => J x20 w) (dk Tr φ90 w)) fun φ90 =>
 Q7 Tr (fun φ89 => ∀ t84 t88 w, Br w → φ84 t84 w → φ88 t88 w → Q0 t84 false w (Q2 P T.w t88) (dk Tr φ89 w)) fun φ89 =>
 Q7 Tr (fun φ91 => ∀ t84 t89 t90 w, Br w → φ84 t84 w → φ89 t89 w → φ90 t90 w → Q0 t84 false w (indexAddr P T.w t89 t90) (dk Tr φ91 w)) fun φ91 =>
 Q7 Tr (fun φ92 => ∀ t84 t91 w, Br w → φ84 t84 w → φ91 t91 w → Q0 t84 false w (Q2 P T.l t91) (dk Tr φ92 w)) fun φ92 =>
 Q7 Tr (fun φ93 => ∀ t84 t92 w, Br w → φ84 t84 w → φ92 t92 w → Q0 t84 false w (fun w J => J t92 w) (dk Tr φ93 w)) fun φ93 =>
 Q7 Tr (fun φ94 => ∀ t93 w, Br w → φ93 t93 w → Q0 t93 true w (fun w J => J x4.1 w) (dk Tr φ94 w)) fun φ94 =>
 Q7 Tr (fun φ95 => ∀ t93 w, Br w → φ93 t93 w → Q0 t93 true w (fun w J => J x20 w) (dk Tr φ95 w)) fun φ95 =>
 Q7 Tr (fun φ96 => ∀ t93 t94 t95 w, Br w → φ93 t93 w → φ94 t94 w → φ95 t95 w → Q0 t93 true w (indexAddr P T.y t94 t95) (dk Tr φ96 w)) fun φ96 =>
 Q7 Tr (fun φ98 => ∀ t93 w, Br w → φ93 t93 w → Q0 t93 true w (fun w J => J x30 w) (dk Tr φ98 w)) fun φ98 =>
 Q7 Tr (fun φ97 => ∀ t93 t96 w, Br w → φ93 t93 w → φ96 t96 w → Q0 t93 true w (Q2 P T.w t96) (dk Tr φ97 w)) fun φ97 =>
 Q7 Tr (fun φ99 => ∀ t93 t97 t98 w, Br w → φ93 t93 w → φ97 t97 w → φ98 t98 w → Q0 t93 true w (indexAddr P T.w t97 t98) (dk Tr φ99 w)) fun φ99 =>
 Q7 Tr (fun φ100 => ∀ t93 t99 w, Br w → φ93 t93 w → φ99 t99 w → Q0 t93 true w (Q2 P T.l t99) (dk Tr φ100 w)) fun φ100 =>
 Q7 Tr (fun φ101 => ∀ t84 t93 t100 w, Br w → φ84 t84 w → φ93 t93 w → φ100 t100 w → Q0 t84 false w (pick P t93 t100 (.bool false)) (dk Tr φ101 w)) fun φ101 =>
 Q7 Tr (fun φ102 => ∀ t84 t101 w, Br w → φ84 t84 w → φ101 t101 w → pick P t84 (.bool true) t101 w (dk Tr φ102 w)) fun φ102 =>
 ∀ t75 t80 t76 t81 t83 t84 t86 t87 t88 t90 t89 t91 t92 t93 t94 t95 t96 t98 t97 t99 t100 t101 t102 w, Br w → φ75 t75 w → φ80 t80 w → φ76 t76 w → φ81 t81 w → φ83 t83 w → φ84 t84 w → φ86 t86 w → φ87 t87 w → φ88 t88 w → φ90 t90 w → φ89 t89 w → φ91 t91 w → φ92 t92 w → φ93 t93 w → φ94 t94 w → φ95 t95 w → φ96 t96 w → φ98 t98 w → φ97 t97 w → φ99 t99 w → φ100 t100 w → φ101 t101 w → φ102 t102 w → 
 indexAddr P T.w t76 x30 w fun t103 w =>
 V5 P T.l t103 t102 w fun _u w =>
 Q3 P .add T.d (.tmp 71) (.const (.int .i64 1)) x30 (.int .i64 1) w fun t72 w =>
 again30 t72 w) (
 Q3 P .add T.d (.tmp 65) (.const (.int .i64 1)) x25 (.int .i64 1) w fun t66 w =>
 again25 t66 w)) (
 Q3 P .add T.d (.tmp 59) (.const (.int .i64 1)) x20 (.int .i64 1) w fun t60 w =>
 again20 t60 w)) (
 K x4.1 w))
theorem Si {a0 : Value} {w : World} {K : Value → World → Prop} (h : Vr a0 w K) : Q1 P F.ay [a0] w K := Q9 Bg Tryz.func49 rfl (by decide) (by kernel_rfl) h
def Iq : W2 := [none, none, none, none, none, none, some ([9], [8, 9, 16, 17, 18, 19, 20, 21, 22, 23, 24, 25, 26, 27, 28]), none, none, none, none, none, none, none, none, some ([1, 11], [1, 11, 41, 42, 43, 44, 45, 46, 47, 48, 49, 50, 51, 52, 53, 54, 55, 56]), none, none, none, none]
def Mi (a0 a1 a2 a3 : Value) (w : World) (K : Value → World → Prop) : Prop :=
 Q3 P .lss T.d (.tmp 12) (.tmp 13) a3 a2 w fun t14 w =>
 X1 t14 (
 K a1 w) (
 lp (α := Value) (.int .i64 0) w fun again6 x6 d_ w =>
 X4 P .len [T.v] T.d [false] [a1] w fun t18 w =>
 Q3 P .lss T.d (.tmp 16) (.tmp 18) x6 t18 w fun t19 w =>
 X1 t19 (
 indexAddr P T.v a1 x6 w fun t24 w =>
 Q2 P T.d t24 w fun t25 w =>
 Q3 P .eql T.d (.tmp 25) (.tmp 26) t25 a3 w fun t27 w =>
 X1 t27 (
 K a1 w) (
 Q3 P .add T.d (.tmp 20) (.const (.int .i64 1)) x6 (.int .i64 1) w fun t21 w =>
 again6 t21 w)) (
 dr w fun Tr Br =>
 Q7 Tr (fun φ31 => ∀ w, Br w → indexAddr P T.g a0 a3 w (dk Tr φ31 w)) fun φ31 =>
 Q7 Tr (fun φ32 => ∀ t31 w, Br w → φ31 t31 w → fieldAddr P T.a t31 1 w (dk Tr φ32 w)) fun φ32 =>
 Q7 Tr (fun φ37 => ∀ w, Br w → indexAddr P T.g a0 a3 w (dk Tr φ37 w)) fun φ37 =>
 Q7 Tr (fun φ38 => ∀ t37 w, Br w → φ37 t37 w → fieldAddr P T.a t37 2 w (dk Tr φ38 w)) fun φ38 =>
 Q7 Tr (fun φ33 => ∀ t32 w, Br w → φ32 t32 w → Q2 P T.b t32 w (dk Tr φ33 w)) fun φ33 =>
 Q7 Tr (fun φ34 => ∀ t33 w, Br w → φ33 t33 w → buildSlice P T.f 1 [(0, t33)] w (dk Tr φ34 w)) fun φ34 =>
 Q7 Tr (fun φ39 => ∀ t38 w, Br w → φ38 t38 w → Q2 P T.f t38 w (dk Tr φ39 w)) fun φ39 =>
 ∀ t31 t32 t37 t38 t33 t34 t39 w, Br w → φ31 t31 w → φ32 t32 w → φ37 t37 w → φ38 t38 w → φ33 t33 w → φ34 t34 w → φ39 t39 w → 
 X4 P .append [T.f, T.f] T.f [false, false] [t34, t39] w fun t40 w =>
 lp (α := Value × Value) (a1, (.int .i64 0)) w fun again15 x15 d_ w =>
 X4 P .len [T.f] T.d [false] [t40] w fun t43 w =>
 Q3 P .lss T.d (.tmp 41) (.tmp 43) x15.2 t43 w fun t44 w =>
 X1 t44 (
 indexAddr P T.f t40 x15.2 w fun t53 w =>
 Q2 P T.b t53 w fun t54 w =>
 Q1 P F.b [a0, t54] w fun t55 w =>
 Q1 P F.aK [a0, x15.1, a2, t55] w fun t56 w =>
 Q3 P .add T.d (.tmp 45) (.const (.int .i64 1)) x15.2 (.int .i64 1) w fun t46 w =>
 again15 (t56, t46) w) (
 buildSlice P T.v 1 [(0, a3)] w fun t59 w =>
 X4 P .append [T.v, T.v] T.v [false, false] [x15.1, t59] w fun t60 w =>
 K t60 w)))
theorem Kf {a0 a1 a2 a3 : Value} {w : World} {K : Value → World → Prop} (h : Mi a0 a1 a2 a3 w K) : Q1 P F.aK [a0, a1, a2, a3] w K := Q9 Iq Tryz.func50 rfl (by decide) (by kernel_rfl) h
def T1 (a0 a1 : Value) (w : World) (K : Value → World → Prop) : Prop :=
 Q1 P F.b [a0, a1] w fun t8 w =>
 Q3 P .lss T.d (.tmp 9) (.const (.int .i64 0)) t8 (.int .i64 0) w fun t10 w =>
 X1 t10 (
 K (.slice none 0 0) w) (
 dr w fun Tr Br =>
 Q7 Tr (fun φ15 => ∀ w, Br w → indexAddr P T.g a0 t8 w (dk Tr φ15 w)) fun φ15 =>
 Q7 Tr (fun φ16 => ∀ t15 w, Br w → φ15 t15 w → fieldAddr P T.a t15 1 w (dk Tr φ16 w)) fun φ16 =>
 Q7 Tr (fun φ22 => ∀ w, Br w → indexAddr P T.g a0 t8 w (dk Tr φ22 w)) fun φ22 =>
 Q7 Tr (fun φ23 => ∀ t22 w, Br w → φ22 t22 w → fieldAddr P T.a t22 6 w (dk Tr φ23 w)) fun φ23 =>
 Q7 Tr (fun φ11 => ∀ w, Br w → buildSlice P T.h 0 [] w (dk Tr φ11 w)) fun φ11 =>
 Q7 Tr (fun φ17 => ∀ t16 w, Br w → φ16 t16 w → Q2 P T.b t16 w (dk Tr φ17 w)) fun φ17 =>
 Q7 Tr (fun φ18 => ∀ t17 w, Br w → φ17 t17 w → Q1 P F.w [a0, t17] w (dk Tr φ18 w)) fun φ18 =>
 Q7 Tr (fun φ19 => ∀ t11 t18 w, Br w → φ11 t11 w → φ18 t18 w → X4 P .append [T.h, T.h] T.h [false, false] [t11, t18] w (dk Tr φ19 w)) fun φ19 =>
 Q7 Tr (fun φ24 => ∀ t23 w, Br w → φ23 t23 w → Q2 P T.h t23 w (dk Tr φ24 w)) fun φ24 =>
 ∀ t15 t16 t22 t23 t11 t17 t18 t19 t24 w, Br w → φ15 t15 w → φ16 t16 w → φ22 t22 w → φ23 t23 w → φ11 t11 w → φ17 t17 w → φ18 t18 w → φ19 t19 w → φ24 t24 w → 
 X4 P .append [T.h, T.h] T.h [false, false] [t19, t24] w fun t25 w =>
 K t25 w)
theorem Ua {a0 a1 : Value} {w : World} {K : Value → World → Prop} (h : T1 a0 a1 w K) : Q1 P F.w [a0, a1] w K := Q9 (List.replicate 6 none) Tryz.func23 rfl (by decide) (by kernel_rfl) h
def Ca : W2 := [none, none, none, none, some ([8], [6, 8, 12, 13, 14, 15, 16, 17, 18, 19, 20, 21, 22, 23, 24, 25]), none, none, none, none, none, none]
def Vz (a0 a1 a2 : Value) (w : World) (K : Value → World → Prop) : Prop :=
 Q1 P F.w [a0, a1] w fun t11 w =>
 lp (α := Value) (.int .i64 0) w fun again4 x4 d_ w =>
 X4 P .len [T.h] T.d [false] [t11] w fun t14 w =>
 Q3 P .lss T.d (.tmp 12) (.tmp 14) x4 t14 w fun t15 w =>
 X1 t15 (
 indexAddr P T.h t11 x4 w fun t20 w =>
 fieldAddr P T.i t20 0 w fun t21 w =>
 Q2 P T.b t21 w fun t22 w =>
 Q3 P .eql T.b (.tmp 22) (.tmp 23) t22 a2 w fun t24 w =>
 X1 t24 (
 K x4 w) (
 Q3 P .add T.d (.tmp 16) (.const (.int .i64 1)) x4 (.int .i64 1) w fun t17 w =>
 again4 t17 w)) (
 K (.int .i64 (-1)) w)
theorem Sx {a0 a1 a2 : Value} {w : World} {K : Value → World → Prop} (h : Vz a0 a1 a2 w K) : Q1 P F.aZ [a0, a1, a2] w K := Q9 Ca Tryz.func25 rfl (by decide) (by kernel_rfl) h
def Im : W2 := [none, none, none, some ([5], [4, 5, 6, 7, 8, 9, 10, 11, 12, 13, 14, 15, 16, 17, 18, 19, 20, 21]), none, none, none, none, none, none]
def Mo (a0 a1 : Value) (w : World) (K : Value → World → Prop) : Prop :=
 box P T.a a0 w fun v_c_2 w =>
 lp (α := Value) (.int .i64 0) w fun again3 x3 d_ w =>
 fieldAddr P T.a v_c_2 7 w fun t7 w =>
 Q2 P T.e t7 w fun t8 w =>
 X4 P .len [T.e] T.d [false] [t8] w fun t9 w =>
 Q3 P .lss T.d (.tmp 6) (.tmp 9) x3 t9 w fun t10 w =>
 X1 t10 (
 fieldAddr P T.a v_c_2 7 w fun t13 w =>
 Q2 P T.e t13 w fun t14 w =>
 indexAddr P T.e t14 x3 w fun t16 w =>
 fieldAddr P T.c t16 0 w fun t17 w =>
 Q2 P T.b t17 w fun t18 w =>
 Q3 P .eql T.b (.tmp 18) (.tmp 19) t18 a1 w fun t20 w =>
 X1 t20 (
 K x3 w) (
 Q3 P .add T.d (.tmp 11) (.const (.int .i64 1)) x3 (.int .i64 1) w fun t12 w =>
 again3 t12 w)) (
 K (.int .i64 (-1)) w)
theorem Ka {a0 a1 : Value} {w : World} {K : Value → World → Prop} (h : Mo a0 a1 w K) : Q1 P F.aL [a0, a1] w K := Q9 Im Tryz.func68 rfl (by decide) (by kernel_rfl) h
def Sm : W2 := [none, none, none, some ([9], [6, 8, 9, 10, 11, 12, 13, 14, 15, 16, 17, 18, 19, 20, 21, 22, 23, 24, 25, 26, 27, 28, 29, 30, 31, 32, 33, 34, 35, 36, 37, 38, 39, 40, 41, 42, 43, 44, 45, 46, 47, 48, 49, 50, 51, 52, 53, 54]), none, none, none, none, none, none, none, none, none, none, none, none]
def Vo (a0 a1 a2 : Value) (w : World) (K : Value → World → Prop) : Prop :=
 box P T.a a1 w fun v_c_4 w =>
 M0 P T.c w fun t7 w =>
 lp (α := Value) (.int .i64 0) w fun again3 x3 d_ w =>
 fieldAddr P T.a v_c_4 2 w fun t16 w =>
 Q2 P T.f t16 w fun t17 w =>
 X4 P .len [T.f] T.d [false] [t17] w fun t18 w =>
 Q3 P .lss T.d (.tmp 15) (.tmp 18) x3 t18 w fun t19 w =>
 X1 t19 (
 fieldAddr P T.a v_c_4 2 w fun t24 w =>
 Q2 P T.f t24 w fun t25 w =>
 indexAddr P T.f t25 x3 w fun t27 w =>
 Q2 P T.b t27 w fun t28 w =>
 Q1 P F.b [a0, t28] w fun t29 w =>
 indexAddr P T.g a0 t29 w fun t30 w =>
 Q2 P T.a t30 w fun t31 w =>
 M0 P T.a w fun v_d_10 w =>
 V5 P T.a v_d_10 t31 w fun _u w =>
 Q2 P T.a v_d_10 w fun t32 w =>
 Q1 P F.aL [t32, a2] w fun t34 w =>
 Q3 P .geq T.d (.tmp 35) (.const (.int .i64 0)) t34 (.int .i64 0) w fun t36 w =>
 X1 t36 (
 dr w fun Tr Br =>
 Q7 Tr (fun φ37 => ∀ w, Br w → fieldAddr P T.a v_d_10 0 w (dk Tr φ37 w)) fun φ37 =>
 Q7 Tr (fun φ39 => ∀ w, Br w → fieldAddr P T.a v_d_10 7 w (dk Tr φ39 w)) fun φ39 =>
 Q7 Tr (fun φ38 => ∀ t37 w, Br w → φ37 t37 w → Q2 P T.b t37 w (dk Tr φ38 w)) fun φ38 =>
 Q7 Tr (fun φ40 => ∀ t39 w, Br w → φ39 t39 w → Q2 P T.e t39 w (dk Tr φ40 w)) fun φ40 =>
 Q7 Tr (fun φ42 => ∀ t40 w, Br w → φ40 t40 w → indexAddr P T.e t40 t34 w (dk Tr φ42 w)) fun φ42 =>
 Q7 Tr (fun φ43 => ∀ t42 w, Br w → φ42 t42 w → Q2 P T.c t42 w (dk Tr φ43 w)) fun φ43 =>
 ∀ t37 t39 t38 t40 t42 t43 w, Br w → φ37 t37 w → φ39 t39 w → φ38 t38 w → φ40 t40 w → φ42 t42 w → φ43 t43 w → 
 V5 P T.c t7 t43 w fun _u w =>
 N2 P T.c t7 w fun r1 =>
 K (.tuple #[t38, r1, (.bool true)]) w) (
 Q2 P T.a v_d_10 w fun t46 w =>
 Q1 P F.az [a0, t46, a2] w fun t48 w =>
 ext P t48 0 w fun t49 w =>
 ext P t48 1 w fun t50 w =>
 ext P t48 2 w fun t51 w =>
 M0 P T.c w fun v_m_13 w =>
 V5 P T.c v_m_13 t50 w fun _u w =>
 X1 t51 (
 dr w fun Tr Br =>
 Q7 Tr (fun φ54 => ∀ w, Br w → Q2 P T.c v_m_13 w (dk Tr φ54 w)) fun φ54 =>
 ∀ t54 w, Br w → φ54 t54 w → 
 V5 P T.c t7 t54 w fun _u w =>
 N2 P T.c t7 w fun r1 =>
 K (.tuple #[t49, r1, (.bool true)]) w) (
 Q3 P .add T.d (.tmp 20) (.const (.int .i64 1)) x3 (.int .i64 1) w fun t21 w =>
 again3 t21 w))) (
 Qu P T.c [] w fun t55 w =>
 V5 P T.c t7 t55 w fun _u w =>
 N2 P T.c t7 w fun r1 =>
 K (.tuple #[(.string ⟨#[]⟩), r1, (.bool false)]) w)
theorem Bk {a0 a1 a2 : Value} {w : World} {K : Value → World → Prop} (h : Vo a0 a1 a2 w K) : Q1 P F.az [a0, a1, a2] w K := Q9 Sm Tryz.func69 rfl (by decide) (by kernel_rfl) h
def Rj : W2 := [none, none, none, some ([9], [6, 8, 9, 10, 18, 19, 20, 21, 22, 23, 24, 25, 26, 27, 28, 29, 30, 31, 32, 33, 34, 35, 36, 37, 38, 39, 40, 41, 42, 43, 44, 45, 46, 47]), none, none, none, none, none, none, none, none, some ([11], [6, 8, 11, 12, 13, 14, 51, 52, 53, 54, 55, 56, 57, 58, 59, 60, 61, 62, 63, 64, 65, 66, 67, 68, 69, 70, 71, 72, 73]), none, none, none, none, none, none, none]
def Uc (a0 a1 a2 : Value) (w : World) (K : Value → World → Prop) : Prop :=
 M0 P T.c w fun t7 w =>
 Q1 P F.b [a0, a1] w fun t17 w =>
 lp (α := Value) t17 w fun again3 x3 d_ w =>
 Q3 P .geq T.d (.tmp 18) (.const (.int .i64 0)) x3 (.int .i64 0) w fun t19 w =>
 X1 t19 (
 indexAddr P T.g a0 x3 w fun t29 w =>
 Q2 P T.a t29 w fun t30 w =>
 Q1 P F.aL [t30, a2] w fun t32 w =>
 Q3 P .geq T.d (.tmp 33) (.const (.int .i64 0)) t32 (.int .i64 0) w fun t34 w =>
 X1 t34 (
 dr w fun Tr Br =>
 Q7 Tr (fun φ37 => ∀ w, Br w → indexAddr P T.g a0 x3 w (dk Tr φ37 w)) fun φ37 =>
 Q7 Tr (fun φ38 => ∀ t37 w, Br w → φ37 t37 w → fieldAddr P T.a t37 0 w (dk Tr φ38 w)) fun φ38 =>
 Q7 Tr (fun φ42 => ∀ w, Br w → indexAddr P T.g a0 x3 w (dk Tr φ42 w)) fun φ42 =>
 Q7 Tr (fun φ43 => ∀ t42 w, Br w → φ42 t42 w → fieldAddr P T.a t42 7 w (dk Tr φ43 w)) fun φ43 =>
 Q7 Tr (fun φ39 => ∀ t38 w, Br w → φ38 t38 w → Q2 P T.b t38 w (dk Tr φ39 w)) fun φ39 =>
 Q7 Tr (fun φ44 => ∀ t43 w, Br w → φ43 t43 w → Q2 P T.e t43 w (dk Tr φ44 w)) fun φ44 =>
 Q7 Tr (fun φ46 => ∀ t44 w, Br w → φ44 t44 w → indexAddr P T.e t44 t32 w (dk Tr φ46 w)) fun φ46 =>
 Q7 Tr (fun φ47 => ∀ t46 w, Br w → φ46 t46 w → Q2 P T.c t46 w (dk Tr φ47 w)) fun φ47 =>
 ∀ t37 t38 t42 t43 t39 t44 t46 t47 w, Br w → φ37 t37 w → φ38 t38 w → φ42 t42 w → φ43 t43 w → φ39 t39 w → φ44 t44 w → φ46 t46 w → φ47 t47 w → 
 V5 P T.c t7 t47 w fun _u w =>
 N2 P T.c t7 w fun r1 =>
 K (.tuple #[t39, r1, (.bool true)]) w) (
 indexAddr P T.g a0 x3 w fun t23 w =>
 fieldAddr P T.a t23 1 w fun t24 w =>
 Q2 P T.b t24 w fun t25 w =>
 Q1 P F.b [a0, t25] w fun t26 w =>
 again3 t26 w)) (
 Q1 P F.b [a0, a1] w fun t50 w =>
 lp (α := Value) t50 w fun again12 x12 d_ w =>
 Q3 P .geq T.d (.tmp 51) (.const (.int .i64 0)) x12 (.int .i64 0) w fun t52 w =>
 X1 t52 (
 indexAddr P T.g a0 x12 w fun t64 w =>
 Q2 P T.a t64 w fun t65 w =>
 Q1 P F.az [a0, t65, a2] w fun t67 w =>
 ext P t67 0 w fun t68 w =>
 ext P t67 1 w fun t69 w =>
 ext P t67 2 w fun t70 w =>
 M0 P T.c w fun t13 w =>
 V5 P T.c t13 t69 w fun _u w =>
 X1 t70 (
 dr w fun Tr Br =>
 Q7 Tr (fun φ73 => ∀ w, Br w → Q2 P T.c t13 w (dk Tr φ73 w)) fun φ73 =>
 ∀ t73 w, Br w → φ73 t73 w → 
 V5 P T.c t7 t73 w fun _u w =>
 N2 P T.c t7 w fun r1 =>
 K (.tuple #[t68, r1, (.bool true)]) w) (
 indexAddr P T.g a0 x12 w fun t56 w =>
 fieldAddr P T.a t56 1 w fun t57 w =>
 Q2 P T.b t57 w fun t58 w =>
 Q1 P F.b [a0, t58] w fun t59 w =>
 again12 t59 w)) (
 Qu P T.c [] w fun t74 w =>
 V5 P T.c t7 t74 w fun _u w =>
 N2 P T.c t7 w fun r1 =>
 K (.tuple #[(.string ⟨#[]⟩), r1, (.bool false)]) w))
theorem Hw {a0 a1 a2 : Value} {w : World} {K : Value → World → Prop} (h : Uc a0 a1 a2 w K) : Q1 P F.aT [a0, a1, a2] w K := Q9 Rj Tryz.func27 rfl (by decide) (by kernel_rfl) h
def Wq (a0 : Value) (w : World) (K : Value → World → Prop) : Prop :=
 X4 P .len [T.b] T.d [false] [a0] w fun t5 w =>
 Q1 P F.aj [a0] w fun t7 w =>
 Q3 P .mul T.d (.const (.int .i64 2)) (.tmp 7) (.int .i64 2) t7 w fun t8 w =>
 Q3 P .sub T.d (.tmp 5) (.tmp 8) t5 t8 w fun t9 w =>
 R7 P T.b a0 none (some t9) none w fun t10 w =>
 K t10 w
theorem Gk {a0 : Value} {w : World} {K : Value → World → Prop} (h : Wq a0 w K) : Q1 P F.aC [a0] w K := Q9 (List.replicate 2 none) Tryz.func60 rfl (by decide) (by kernel_rfl) h
def Lj (a0 a1 : Value) (w : World) (K : Value → World → Prop) : Prop :=
 Q3 P .eql T.b (.tmp 5) (.const (.string ⟨#[110, 117, 108, 108]⟩)) a1 (.string ⟨#[110, 117, 108, 108]⟩) w fun t6 w =>
 Q0 t6 false w (fun w J => J a1 w) fun t8 w =>
 Q0 t6 false w (Q1 P F.i [t8]) fun t9 w =>
 Q0 t6 false w (fun w J => J t9 w) fun t10 w =>
 Q0 t10 true w (fun w J => J a1 w) fun t11 w =>
 Q0 t10 true w (Q1 P F.aC [t11]) fun t12 w =>
 Q0 t10 true w (Q1 P F.ab [t12]) fun t13 w =>
 Q0 t10 true w (fun w J => J t13 w) fun t14 w =>
 Q0 t14 false w (fun w J => J a0 w) fun t15 w =>
 Q0 t14 false w (fun w J => J a1 w) fun t16 w =>
 Q0 t14 false w (Q1 P F.aC [t16]) fun t17 w =>
 Q0 t14 false w (Q1 P F.b [t15, t17]) fun t18 w =>
 Q0 t14 false w (Q3 P .geq T.d (.tmp 18) (.const (.int .i64 0)) t18 (.int .i64 0)) fun t19 w =>
 Q0 t10 true w (pick P t14 (.bool true) t19) fun t20 w =>
 Q0 t6 false w (pick P t10 t20 (.bool false)) fun t21 w =>
 pick P t6 (.bool true) t21 w fun t22 w =>
 K t22 w
theorem Gs {a0 a1 : Value} {w : World} {K : Value → World → Prop} (h : Lj a0 a1 w K) : Q1 P F.bf [a0, a1] w K := Q9 (List.replicate 2 none) Tryz.func19 rfl (by decide) (by kernel_rfl) h
def Vi (a0 a1 : Value) (w : World) (K : Value → World → Prop) : Prop :=
 Q3 P .neq T.b (.tmp 5) (.const (.string ⟨#[110, 117, 108, 108]⟩)) a1 (.string ⟨#[110, 117, 108, 108]⟩) w fun t6 w =>
 Q0 t6 true w (fun w J => J a0 w) fun t8 w =>
 Q0 t6 true w (fun w J => J a1 w) fun t9 w =>
 Q0 t6 true w (Q1 P F.bf [t8, t9]) fun t10 w =>
 pick P t6 t10 (.bool false) w fun t11 w =>
 K t11 w
theorem Sv {a0 a1 : Value} {w : World} {K : Value → World → Prop} (h : Vi a0 a1 w K) : Q1 P F.b8 [a0, a1] w K := Q9 (List.replicate 2 none) Tryz.func90 rfl (by decide) (by kernel_rfl) h
def Gn : W2 := [none, none, none, none, some ([3, 4], [3, 4, 5, 6, 7, 8, 9, 10, 11, 12, 13, 14, 15, 16, 17, 18, 19, 20, 21, 22]), none, none, none, some ([3], [3, 12, 13, 14, 15]), none, none]
def Ww (a0 : Value) (w : World) (K : Value → World → Prop) : Prop :=
 box P T.c a0 w fun v_m_1 w =>
 lp (α := Value × Value) ((.string ⟨#[40]⟩), (.int .i64 0)) w fun again4 x4 d_ w =>
 fieldAddr P T.c v_m_1 1 w fun t6 w =>
 Q2 P T.f t6 w fun t7 w =>
 X4 P .len [T.f] T.d [false] [t7] w fun t8 w =>
 Q3 P .lss T.d (.tmp 5) (.tmp 8) x4.2 t8 w fun t9 w =>
 X1 t9 (
 jn (α := Value) w (fun J8 w =>
 Q3 P .gtr T.d (.tmp 12) (.const (.int .i64 0)) x4.2 (.int .i64 0) w fun t13 w =>
 X1 t13 (
 Q3 P .add T.b (.tmp 14) (.const (.string ⟨#[44]⟩)) x4.1 (.string ⟨#[44]⟩) w fun t15 w =>
 J8 t15 w) (
 J8 x4.1 w)) fun z8 d_ w =>
 fieldAddr P T.c v_m_1 1 w fun t17 w =>
 Q2 P T.f t17 w fun t18 w =>
 indexAddr P T.f t18 x4.2 w fun t20 w =>
 Q2 P T.b t20 w fun t21 w =>
 Q3 P .add T.b (.tmp 16) (.tmp 21) z8 t21 w fun t22 w =>
 Q3 P .add T.d (.tmp 10) (.const (.int .i64 1)) x4.2 (.int .i64 1) w fun t11 w =>
 again4 (t22, t11) w) (
 Q3 P .add T.b (.tmp 23) (.const (.string ⟨#[41]⟩)) x4.1 (.string ⟨#[41]⟩) w fun t24 w =>
 fieldAddr P T.c v_m_1 2 w fun t25 w =>
 Q2 P T.b t25 w fun t26 w =>
 Q3 P .add T.b (.tmp 24) (.tmp 26) t24 t26 w fun t27 w =>
 K t27 w)
theorem Gu {a0 : Value} {w : World} {K : Value → World → Prop} (h : Ww a0 w K) : Q1 P F.aF [a0] w K := Q9 Gn Tryz.func91 rfl (by decide) (by kernel_rfl) h
def Hq : W2 := [none, none, none, none, some ([6], [4, 6, 24, 25, 26, 27, 28, 29, 30, 31, 32, 33, 34, 35, 36, 37, 38, 39, 40, 41]), none, none, none, none, none, none, none, none, some ([7, 8], [7, 8, 43, 44, 45, 46, 47, 48, 49, 50, 51, 52, 53, 54, 55, 56, 57, 58]), none, none, none, none, none, some ([7, 9], [7, 9, 59, 60, 61, 62, 63, 64, 65, 66, 67, 68, 69, 70, 71, 72, 73, 74, 75, 76, 77, 78, 79, 80, 81, 82, 83, 84, 85, 86, 87, 88, 89]), none, none, some ([7], [7, 66, 67, 68, 69, 70, 71, 72, 73, 74, 75, 76, 77, 78, 79, 80, 81, 82, 83, 84, 85, 86, 87, 88, 89]), none, none, none, none, some ([10], [4, 10, 90, 91, 92, 93, 94, 95, 96, 97, 98, 99, 100, 101, 102]), none, none, none, none, none, none, none, none, none, some ([12, 13], [12, 13, 106, 107, 108, 109, 110, 111, 112, 113, 114, 115, 116, 117, 118, 119, 120, 121, 122, 123, 124, 125, 126, 127, 128, 129, 130]), none, none, some ([12], [12, 112, 113, 114, 115, 116, 117, 118, 119, 120, 121, 122, 123, 124, 125, 126, 127, 128, 129, 130]), none, none, none, some ([14], [4, 14, 15, 131, 132, 133, 134, 135, 136, 137, 138, 139, 140, 141, 142, 143, 144, 145, 146, 147, 148, 149, 150, 151, 152, 153, 154, 155, 156, 157, 158, 159, 160, 161, 162, 163, 164, 165]), none, none, none, none, some ([15], [4, 15, 137, 138, 139, 140, 141, 142, 143, 144, 145, 146, 147, 148, 149, 150, 151, 152, 153, 154, 155, 156, 157, 158, 159, 160, 161, 162, 163, 164, 165]), none, none, none, none, none, none, none, some ([16], [4, 16, 17, 18, 19, 166, 167, 168, 169, 170, 171, 172, 173, 174, 175, 176, 177, 178, 179, 180, 181, 182, 183, 184, 185, 186, 187, 188, 189, 190, 191, 192, 193, 194, 195]), none, none, none, none, none, none, none]
def Jc (a0 a1 : Value) (w : World) (K : Value → World → Prop) : Prop :=
 indexAddr P T.g a0 a1 w fun t22 w =>
 Q2 P T.a t22 w fun t23 w =>
 M0 P T.a w fun t5 w =>
 V5 P T.a t5 t23 w fun _u w =>
 lp (α := Value) (.int .i64 0) w fun again4 x4 d_ w =>
 fieldAddr P T.a t5 6 w fun t25 w =>
 Q2 P T.h t25 w fun t26 w =>
 X4 P .len [T.h] T.d [false] [t26] w fun t27 w =>
 Q3 P .lss T.d (.tmp 24) (.tmp 27) x4 t27 w fun t28 w =>
 X1 t28 (
 dr w fun Tr Br =>
 Q7 Tr (fun φ32 => ∀ w, Br w → fieldAddr P T.a t5 1 w (dk Tr φ32 w)) fun φ32 =>
 Q7 Tr (fun φ34 => ∀ w, Br w → fieldAddr P T.a t5 6 w (dk Tr φ34 w)) fun φ34 =>
 Q7 Tr (fun φ33 => ∀ t32 w, Br w → φ32 t32 w → Q2 P T.b t32 w (dk Tr φ33 w)) fun φ33 =>
 Q7 Tr (fun φ35 => ∀ t34 w, Br w → φ34 t34 w → Q2 P T.h t34 w (dk Tr φ35 w)) fun φ35 =>
 Q7 Tr (fun φ37 => ∀ t35 w, Br w → φ35 t35 w → indexAddr P T.h t35 x4 w (dk Tr φ37 w)) fun φ37 =>
 Q7 Tr (fun φ38 => ∀ t37 w, Br w → φ37 t37 w → fieldAddr P T.i t37 0 w (dk Tr φ38 w)) fun φ38 =>
 Q7 Tr (fun φ39 => ∀ t38 w, Br w → φ38 t38 w → Q2 P T.b t38 w (dk Tr φ39 w)) fun φ39 =>
 ∀ t32 t34 t33 t35 t37 t38 t39 w, Br w → φ32 t32 w → φ34 t34 w → φ33 t33 w → φ35 t35 w → φ37 t37 w → φ38 t38 w → φ39 t39 w → 
 Q1 P F.aZ [a0, t33, t39] w fun t40 w =>
 Q3 P .geq T.d (.tmp 40) (.const (.int .i64 0)) t40 (.int .i64 0) w fun t41 w =>
 X1 t41 (
 K (.int .i64 64) w) (
 Q3 P .add T.d (.tmp 29) (.const (.int .i64 1)) x4 (.int .i64 1) w fun t30 w =>
 again4 t30 w)) (
 buildSlice P T.f 0 [] w fun t42 w =>
 lp (α := Value × Value) (t42, (.int .i64 0)) w fun again13 x13 d_ w =>
 fieldAddr P T.a t5 6 w fun t44 w =>
 Q2 P T.h t44 w fun t45 w =>
 X4 P .len [T.h] T.d [false] [t45] w fun t46 w =>
 Q3 P .lss T.d (.tmp 43) (.tmp 46) x13.2 t46 w fun t47 w =>
 X1 t47 (
 fieldAddr P T.a t5 6 w fun t51 w =>
 Q2 P T.h t51 w fun t52 w =>
 indexAddr P T.h t52 x13.2 w fun t54 w =>
 fieldAddr P T.i t54 1 w fun t55 w =>
 Q2 P T.b t55 w fun t56 w =>
 buildSlice P T.f 1 [(0, t56)] w fun t57 w =>
 X4 P .append [T.f, T.f] T.f [false, false] [x13.1, t57] w fun t58 w =>
 Q3 P .add T.d (.tmp 48) (.const (.int .i64 1)) x13.2 (.int .i64 1) w fun t49 w =>
 again13 (t58, t49) w) (
 lp (α := Value × Value) (x13.1, (.int .i64 0)) w fun again19 x19 d_ w =>
 fieldAddr P T.a t5 7 w fun t60 w =>
 Q2 P T.e t60 w fun t61 w =>
 X4 P .len [T.e] T.d [false] [t61] w fun t62 w =>
 Q3 P .lss T.d (.tmp 59) (.tmp 62) x19.2 t62 w fun t63 w =>
 X1 t63 (
 jn (α := Value) w (fun J22 w =>
 fieldAddr P T.a t5 7 w fun t67 w =>
 Q2 P T.e t67 w fun t68 w =>
 indexAddr P T.e t68 x19.2 w fun t70 w =>
 fieldAddr P T.c t70 1 w fun t71 w =>
 Q2 P T.f t71 w fun t72 w =>
 X4 P .append [T.f, T.f] T.f [false, false] [x19.1, t72] w fun t73 w =>
 fieldAddr P T.a t5 7 w fun t74 w =>
 Q2 P T.e t74 w fun t75 w =>
 indexAddr P T.e t75 x19.2 w fun t77 w =>
 fieldAddr P T.c t77 2 w fun t78 w =>
 Q2 P T.b t78 w fun t79 w =>
 Q3 P .neq T.b (.tmp 79) (.const (.string ⟨#[]⟩)) t79 (.string ⟨#[]⟩) w fun t80 w =>
 X1 t80 (
 fieldAddr P T.a t5 7 w fun t82 w =>
 Q2 P T.e t82 w fun t83 w =>
 indexAddr P T.e t83 x19.2 w fun t85 w =>
 fieldAddr P T.c t85 2 w fun t86 w =>
 Q2 P T.b t86 w fun t87 w =>
 buildSlice P T.f 1 [(0, t87)] w fun t88 w =>
 X4 P .append [T.f, T.f] T.f [false, false] [t73, t88] w fun t89 w =>
 J22 t89 w) (
 J22 t73 w)) fun z22 d_ w =>
 Q3 P .add T.d (.tmp 64) (.const (.int .i64 1)) x19.2 (.int .i64 1) w fun t65 w =>
 again19 (z22, t65) w) (
 lp (α := Value) (.int .i64 0) w fun again27 x27 d_ w =>
 X4 P .len [T.f] T.d [false] [x19.1] w fun t92 w =>
 Q3 P .lss T.d (.tmp 90) (.tmp 92) x27 t92 w fun t93 w =>
 X1 t93 (
 indexAddr P T.f x19.1 x27 w fun t99 w =>
 Q2 P T.b t99 w fun t100 w =>
 Q1 P F.b8 [a0, t100] w fun t101 w =>
 U6 P .not t101 w fun t102 w =>
 X1 t102 (
 K (.int .i64 65) w) (
 Q3 P .add T.d (.tmp 94) (.const (.int .i64 1)) x27 (.int .i64 1) w fun t95 w =>
 again27 t95 w)) (
 Q1 P F.ay [a0] w fun t104 w =>
 buildSlice P T.e 0 [] w fun t105 w =>
 lp (α := Value × Value) (t105, (.int .i64 0)) w fun again37 x37 d_ w =>
 X4 P .len [T.g] T.d [false] [a0] w fun t108 w =>
 Q3 P .lss T.d (.tmp 106) (.tmp 108) x37.2 t108 w fun t109 w =>
 X1 t109 (
 jn (α := Value) w (fun J40 w =>
 Q3 P .eql T.d (.tmp 112) (.tmp 113) x37.2 a1 w fun t114 w =>
 Q0 t114 false w (fun w J => J t104 w) fun t116 w =>
 Q0 t114 false w (fun w J => J a1 w) fun t117 w =>
 Q0 t114 false w (indexAddr P T.y t116 t117) fun t118 w =>
 Q0 t114 false w (Q2 P T.w t118) fun t119 w =>
 Q0 t114 false w (fun w J => J x37.2 w) fun t120 w =>
 Q0 t114 false w (indexAddr P T.w t119 t120) fun t121 w =>
 Q0 t114 false w (Q2 P T.l t121) fun t122 w =>
 pick P t114 (.bool true) t122 w fun t123 w =>
 X1 t123 (
 indexAddr P T.g a0 x37.2 w fun t127 w =>
 fieldAddr P T.a t127 7 w fun t128 w =>
 Q2 P T.e t128 w fun t129 w =>
 X4 P .append [T.e, T.e] T.e [false, false] [x37.1, t129] w fun t130 w =>
 J40 t130 w) (
 J40 x37.1 w)) fun z40 d_ w =>
 Q3 P .add T.d (.tmp 110) (.const (.int .i64 1)) x37.2 (.int .i64 1) w fun t111 w =>
 again37 (z40, t111) w) (
 lp (α := Value) (.int .i64 0) w fun again44 x44 d_ w =>
 X4 P .len [T.e] T.d [false] [x37.1] w fun t133 w =>
 Q3 P .lss T.d (.tmp 131) (.tmp 133) x44 t133 w fun t134 w =>
 X1 t134 (
 lp (α := Value) (.int .i64 0) w fun again49 x49 d_ w =>
 Q3 P .lss T.d (.tmp 137) (.tmp 138) x49 x44 w fun t139 w =>
 X1 t139 (
 dr w fun Tr Br =>
 Q7 Tr (fun φ144 => ∀ w, Br w → indexAddr P T.e x37.1 x44 w (dk Tr φ144 w)) fun φ144 =>
 Q7 Tr (fun φ145 => ∀ t144 w, Br w → φ144 t144 w → fieldAddr P T.c t144 0 w (dk Tr φ145 w)) fun φ145 =>
 Q7 Tr (fun φ149 => ∀ w, Br w → indexAddr P T.e x37.1 x49 w (dk Tr φ149 w)) fun φ149 =>
 Q7 Tr (fun φ150 => ∀ t149 w, Br w → φ149 t149 w → fieldAddr P T.c t149 0 w (dk Tr φ150 w)) fun φ150 =>
 Q7 Tr (fun φ146 => ∀ t145 w, Br w → φ145 t145 w → Q2 P T.b t145 w (dk Tr φ146 w)) fun φ146 =>
 Q7 Tr (fun φ151 => ∀ t150 w, Br w → φ150 t150 w → Q2 P T.b t150 w (dk Tr φ151 w)) fun φ151 =>
 Q7 Tr (fun φ152 => ∀ t146 t151 w, Br w → φ146 t146 w → φ151 t151 w → Q3 P .eql T.b (.tmp 146) (.tmp 151) t146 t151 w (dk Tr φ152 w)) fun φ152 =>
 Q7 Tr (fun φ154 => ∀ t152 w, Br w → φ152 t152 w → Q0 t152 true w (fun w J => J x37.1 w) (dk Tr φ154 w)) fun φ154 =>
 Q7 Tr (fun φ155 => ∀ t152 w, Br w → φ152 t152 w → Q0 t152 true w (fun w J => J x44 w) (dk Tr φ155 w)) fun φ155 =>
 Q7 Tr (fun φ156 => ∀ t152 t154 t155 w, Br w → φ152 t152 w → φ154 t154 w → φ155 t155 w → Q0 t152 true w (indexAddr P T.e t154 t155) (dk Tr φ156 w)) fun φ156 =>
 Q7 Tr (fun φ159 => ∀ t152 w, Br w → φ152 t152 w → Q0 t152 true w (fun w J => J x37.1 w) (dk Tr φ159 w)) fun φ159 =>
 Q7 Tr (fun φ160 => ∀ t152 w, Br w → φ152 t152 w → Q0 t152 true w (fun w J => J x49 w) (dk Tr φ160 w)) fun φ160 =>
 Q7 Tr (fun φ161 => ∀ t152 t159 t160 w, Br w → φ152 t152 w → φ159 t159 w → φ160 t160 w → Q0 t152 true w (indexAddr P T.e t159 t160) (dk Tr φ161 w)) fun φ161 =>
 Q7 Tr (fun φ157 => ∀ t152 t156 w, Br w → φ152 t152 w → φ156 t156 w → Q0 t152 true w (Q2 P T.c t156) (dk Tr φ157 w)) fun φ157 =>
 Q7 Tr (fun φ158 => ∀ t152 t157 w, Br w → φ152 t152 w → φ157 t157 w → Q0 t152 true w (Q1 P F.aF [t157]) (dk Tr φ158 w)) fun φ158 =>
 Q7 Tr (fun φ162 => ∀ t152 t161 w, Br w → φ152 t152 w → φ161 t161 w → Q0 t152 true w (Q2 P T.c t161) (dk Tr φ162 w)) fun φ162 =>
 ∀ t144 t145 t149 t150 t146 t151 t152 t154 t155 t156 t159 t160 t161 t157 t158 t162 w, Br w → φ144 t144 w → φ145 t145 w → φ149 t149 w → φ150 t150 w → φ146 t146 w → φ151 t151 w → φ152 t152 w → φ154 t154 w → φ155 t155 w → φ156 t156 w → φ159 t159 w → φ160 t160 w → φ161 t161 w → φ157 t157 w → φ158 t158 w → φ162 t162 w → 
 Q0 t152 true w (Q1 P F.aF [t162]) fun t163 w =>
 Q0 t152 true w (Q3 P .neq T.b (.tmp 158) (.tmp 163) t158 t163) fun t164 w =>
 pick P t152 t164 (.bool false) w fun t165 w =>
 X1 t165 (
 K (.int .i64 66) w) (
 Q3 P .add T.d (.tmp 140) (.const (.int .i64 1)) x49 (.int .i64 1) w fun t141 w =>
 again49 t141 w)) (
 Q3 P .add T.d (.tmp 135) (.const (.int .i64 1)) x44 (.int .i64 1) w fun t136 w =>
 again44 t136 w)) (
 lp (α := Value) (.int .i64 0) w fun again57 x57 d_ w =>
 X4 P .len [T.e] T.d [false] [x37.1] w fun t168 w =>
 Q3 P .lss T.d (.tmp 166) (.tmp 168) x57 t168 w fun t169 w =>
 Q0 t169 true w (fieldAddr P T.a t5 4) fun t171 w =>
 Q0 t169 true w (Q2 P T.l t171) fun t172 w =>
 Q0 t169 true w (U6 P .not t172) fun t173 w =>
 pick P t169 t173 (.bool false) w fun t174 w =>
 X1 t174 (
 dr w fun Tr Br =>
 Q7 Tr (fun φ179 => ∀ w, Br w → fieldAddr P T.a t5 0 w (dk Tr φ179 w)) fun φ179 =>
 Q7 Tr (fun φ183 => ∀ w, Br w → indexAddr P T.e x37.1 x57 w (dk Tr φ183 w)) fun φ183 =>
 Q7 Tr (fun φ184 => ∀ t183 w, Br w → φ183 t183 w → fieldAddr P T.c t183 0 w (dk Tr φ184 w)) fun φ184 =>
 Q7 Tr (fun φ180 => ∀ t179 w, Br w → φ179 t179 w → Q2 P T.b t179 w (dk Tr φ180 w)) fun φ180 =>
 Q7 Tr (fun φ185 => ∀ t184 w, Br w → φ184 t184 w → Q2 P T.b t184 w (dk Tr φ185 w)) fun φ185 =>
 Q7 Tr (fun φ186 => ∀ t180 t185 w, Br w → φ180 t180 w → φ185 t185 w → Q1 P F.aT [a0, t180, t185] w (dk Tr φ186 w)) fun φ186 =>
 Q7 Tr (fun φ187 => ∀ t186 w, Br w → φ186 t186 w → ext P t186 0 w (dk Tr φ187 w)) fun φ187 =>
 Q7 Tr (fun φ188 => ∀ t186 w, Br w → φ186 t186 w → ext P t186 1 w (dk Tr φ188 w)) fun φ188 =>
 Q7 Tr (fun φ189 => ∀ t186 w, Br w → φ186 t186 w → ext P t186 2 w (dk Tr φ189 w)) fun φ189 =>
 Q7 Tr (fun φ18 => ∀ w, Br w → M0 P T.c w (dk Tr φ18 w)) fun φ18 =>
 Q2G Tr (fun φ_15 => ∀ t18 t188 w, Br w → φ18 t18 w → φ188 t188 w → V5 P T.c t18 t188 w (dk Tr (φ_15 [t18, t188]) w)) fun φ_15 =>
 ∀ t179 t183 t184 t180 t185 t186 t187 t188 t189 t18 u15 w, Br w → φ179 t179 w → φ183 t183 w → φ184 t184 w → φ180 t180 w → φ185 t185 w → φ186 t186 w → φ187 t187 w → φ188 t188 w → φ189 t189 w → φ18 t18 w → φ_15 [t18, t188] u15 w → 
 U6 P .not t189 w fun t191 w =>
 Q0 t191 false w (fieldAddr P T.c t18 3) fun t193 w =>
 Q0 t191 false w (Q2 P T.l t193) fun t194 w =>
 pick P t191 (.bool true) t194 w fun t195 w =>
 X1 t195 (
 K (.int .i64 67) w) (
 Q3 P .add T.d (.tmp 175) (.const (.int .i64 1)) x57 (.int .i64 1) w fun t176 w =>
 again57 t176 w)) (
 K (.int .i64 0) w)))))))
theorem He {a0 a1 : Value} {w : World} {K : Value → World → Prop} (h : Jc a0 a1 w K) : Q1 P F.aO [a0, a1] w K := Q9 Hq Tryz.func51 rfl (by decide) (by kernel_rfl) h
end Go.Proofs.YtdnfaboigajkhaaGreatDoor

set_option maxRecDepth 100000
namespace Go.Proofs.YtdnfaboigajkhaaGreatDoor
open Go.Emb
def Ij : W2 := [none, none, none, none, none, some ([5, 7], [2, 3, 4, 5, 7, 8, 21, 22, 23, 24, 25, 26, 27, 28, 29, 30, 31, 32, 33, 34, 35, 36, 37, 38, 39, 40, 41, 42]), none, none, none, none, none, none, none, none, none, some ([9], [2, 3, 4, 9, 43, 44, 45, 46, 47, 48, 49, 50, 51, 52, 53, 54, 55, 56, 57, 58, 59, 60]), none, none, none, none, none, none, none, some ([10], [2, 3, 4, 10, 11, 61, 62, 63, 64, 65, 66, 67, 68, 69, 70, 71, 72, 73, 74, 75, 76]), none, none, none, none, none, none, none, none, none, some ([13], [2, 3, 4, 13, 79, 80, 81, 82, 83, 84, 85, 86, 87, 88, 89, 90, 91, 92, 93, 94, 95, 96]), none, none, none, none, none, none, none, none, some ([14, 15], [14, 15, 98, 99, 100, 101, 102, 103, 104, 105, 106, 107, 108, 109, 110]), none, none, none, none, none, some ([16], [2, 3, 4, 16, 17, 111, 112, 113, 114, 115, 116, 117, 118, 119, 120, 121, 122, 123, 124, 125, 126, 127, 128, 129, 130, 131]), none, none, none, none, none, none, none]
def Lz (a0 : Value) (w : World) (K : Value → World → Prop) : Prop :=
 Q1 P F.b0 [] w fun t18 w =>
 X4 P .len [T.g] T.d [false] [t18] w fun t20 w =>
 lp (α := Value × Value) (t18, (.int .i64 0)) w fun again5 x5 d_ w =>
 X4 P .len [T.g] T.d [false] [a0] w fun t23 w =>
 Q3 P .lss T.d (.tmp 21) (.tmp 23) x5.2 t23 w fun t24 w =>
 X1 t24 (
 indexAddr P T.g a0 x5.2 w fun t29 w =>
 Q2 P T.a t29 w fun t30 w =>
 Q1 P F.b5 [t30] w fun t31 w =>
 Q3 P .neq T.t (.tmp 32) (.const (.int .i64 0)) t31 (.int .i64 0) w fun t33 w =>
 X1 t33 (
 K (.tuple #[(.slice none 0 0), x5.2, t31]) w) (
 indexAddr P T.g a0 x5.2 w fun t39 w =>
 Q2 P T.a t39 w fun t40 w =>
 buildSlice P T.g 1 [(0, t40)] w fun t41 w =>
 X4 P .append [T.g, T.g] T.g [false, false] [x5.1, t41] w fun t42 w =>
 Q3 P .add T.d (.tmp 25) (.const (.int .i64 1)) x5.2 (.int .i64 1) w fun t26 w =>
 again5 (t42, t26) w)) (
 lp (α := Value) (.int .i64 0) w fun again15 x15 d_ w =>
 X4 P .len [T.g] T.d [false] [a0] w fun t45 w =>
 Q3 P .lss T.d (.tmp 43) (.tmp 45) x15 t45 w fun t46 w =>
 X1 t46 (
 indexAddr P T.g a0 x15 w fun t52 w =>
 fieldAddr P T.a t52 0 w fun t53 w =>
 Q2 P T.b t53 w fun t54 w =>
 Q1 P F.b [x5.1, t54] w fun t55 w =>
 Q3 P .add T.d (.tmp 56) (.tmp 57) t20 x15 w fun t58 w =>
 Q3 P .neq T.d (.tmp 55) (.tmp 58) t55 t58 w fun t59 w =>
 X1 t59 (
 K (.tuple #[(.slice none 0 0), x15, (.int .i64 60)]) w) (
 Q3 P .add T.d (.tmp 47) (.const (.int .i64 1)) x15 (.int .i64 1) w fun t48 w =>
 again15 t48 w)) (
 lp (α := Value) (.int .i64 0) w fun again23 x23 d_ w =>
 X4 P .len [T.g] T.d [false] [a0] w fun t63 w =>
 Q3 P .lss T.d (.tmp 61) (.tmp 63) x23 t63 w fun t64 w =>
 X1 t64 (
 indexAddr P T.g a0 x23 w fun t70 w =>
 Q2 P T.a t70 w fun t71 w =>
 Q1 P F.aV [x5.1, t71] w fun t72 w =>
 Q3 P .neq T.t (.tmp 73) (.const (.int .i64 0)) t72 (.int .i64 0) w fun t74 w =>
 X1 t74 (
 K (.tuple #[(.slice none 0 0), x23, t72]) w) (
 Q3 P .add T.d (.tmp 65) (.const (.int .i64 1)) x23 (.int .i64 1) w fun t66 w =>
 again23 t66 w)) (
 Q1 P F.ay [x5.1] w fun t78 w =>
 lp (α := Value) (.int .i64 0) w fun again33 x33 d_ w =>
 X4 P .len [T.g] T.d [false] [a0] w fun t81 w =>
 Q3 P .lss T.d (.tmp 79) (.tmp 81) x33 t81 w fun t82 w =>
 X1 t82 (
 Q3 P .add T.d (.tmp 86) (.tmp 87) t20 x33 w fun t88 w =>
 indexAddr P T.y t78 t88 w fun t89 w =>
 Q2 P T.w t89 w fun t90 w =>
 Q3 P .add T.d (.tmp 91) (.tmp 92) t20 x33 w fun t93 w =>
 indexAddr P T.w t90 t93 w fun t94 w =>
 Q2 P T.l t94 w fun t95 w =>
 X1 t95 (
 K (.tuple #[(.slice none 0 0), x33, (.int .i64 63)]) w) (
 Q3 P .add T.d (.tmp 83) (.const (.int .i64 1)) x33 (.int .i64 1) w fun t84 w =>
 again33 t84 w)) (
 buildSlice P T.v 0 [] w fun t97 w =>
 lp (α := Value × Value) (t97, (.int .i64 0)) w fun again42 x42 d_ w =>
 X4 P .len [T.g] T.d [false] [a0] w fun t100 w =>
 Q3 P .lss T.d (.tmp 98) (.tmp 100) x42.2 t100 w fun t101 w =>
 X1 t101 (
 Q3 P .add T.d (.tmp 107) (.tmp 108) t20 x42.2 w fun t109 w =>
 Q1 P F.aK [x5.1, x42.1, t20, t109] w fun t110 w =>
 Q3 P .add T.d (.tmp 102) (.const (.int .i64 1)) x42.2 (.int .i64 1) w fun t103 w =>
 again42 (t110, t103) w) (
 lp (α := Value) (.int .i64 0) w fun again48 x48 d_ w =>
 X4 P .len [T.v] T.d [false] [x42.1] w fun t113 w =>
 Q3 P .lss T.d (.tmp 111) (.tmp 113) x48 t113 w fun t114 w =>
 X1 t114 (
 indexAddr P T.v x42.1 x48 w fun t120 w =>
 Q2 P T.d t120 w fun t121 w =>
 Q1 P F.aO [x5.1, t121] w fun t122 w =>
 Q3 P .neq T.t (.tmp 123) (.const (.int .i64 0)) t122 (.int .i64 0) w fun t124 w =>
 X1 t124 (
 dr w fun Tr Br =>
 Q7 Tr (fun φ127 => ∀ w, Br w → indexAddr P T.v x42.1 x48 w (dk Tr φ127 w)) fun φ127 =>
 ∀ t127 w, Br w → φ127 t127 w → 
 Q2 P T.d t127 w fun t128 w =>
 Q3 P .sub T.d (.tmp 128) (.tmp 129) t128 t20 w fun t130 w =>
 K (.tuple #[(.slice none 0 0), t130, t122]) w) (
 Q3 P .add T.d (.tmp 115) (.const (.int .i64 1)) x48 (.int .i64 1) w fun t116 w =>
 again48 t116 w)) (
 K (.tuple #[x5.1, (.int .i64 0), (.int .i64 0)]) w))))))
theorem Kb {a0 : Value} {w : World} {K : Value → World → Prop} (h : Lz a0 w K) : Q1 P F.aJ [a0] w K := Q9 Ij Tryz.func15 rfl (by decide) (by kernel_rfl) h
def Oi : W2 := [none, none, none, none, none, none, some ([5], [4, 5, 11, 12, 13, 14, 15, 16, 17, 18, 19, 20, 21, 22, 23, 24, 25]), none, none, none, none, none, none]
def Xz (a0 a1 : Value) (w : World) (K : Value → World → Prop) : Prop :=
 X4 P .len [T.f] T.d [false] [a0] w fun t7 w =>
 X4 P .len [T.f] T.d [false] [a1] w fun t9 w =>
 Q3 P .neq T.d (.tmp 7) (.tmp 9) t7 t9 w fun t10 w =>
 X1 t10 (
 K (.bool false) w) (
 lp (α := Value) (.int .i64 0) w fun again6 x6 d_ w =>
 X4 P .len [T.f] T.d [false] [a0] w fun t13 w =>
 Q3 P .lss T.d (.tmp 11) (.tmp 13) x6 t13 w fun t14 w =>
 X1 t14 (
 dr w fun Tr Br =>
 Q7 Tr (fun φ19 => ∀ w, Br w → indexAddr P T.f a0 x6 w (dk Tr φ19 w)) fun φ19 =>
 Q7 Tr (fun φ23 => ∀ w, Br w → indexAddr P T.f a1 x6 w (dk Tr φ23 w)) fun φ23 =>
 Q7 Tr (fun φ20 => ∀ t19 w, Br w → φ19 t19 w → Q2 P T.b t19 w (dk Tr φ20 w)) fun φ20 =>
 Q7 Tr (fun φ24 => ∀ t23 w, Br w → φ23 t23 w → Q2 P T.b t23 w (dk Tr φ24 w)) fun φ24 =>
 ∀ t19 t23 t20 t24 w, Br w → φ19 t19 w → φ23 t23 w → φ20 t20 w → φ24 t24 w → 
 Q3 P .neq T.b (.tmp 20) (.tmp 24) t20 t24 w fun t25 w =>
 X1 t25 (
 K (.bool false) w) (
 Q3 P .add T.d (.tmp 15) (.const (.int .i64 1)) x6 (.int .i64 1) w fun t16 w =>
 again6 t16 w)) (
 K (.bool true) w))
theorem Ou {a0 a1 : Value} {w : World} {K : Value → World → Prop} (h : Xz a0 a1 w K) : Q1 P F.ad [a0, a1] w K := Q9 Oi Tryz.func70 rfl (by decide) (by kernel_rfl) h
def Ft : W2 := [none, none, none, none, none, none, some ([5], [4, 5, 11, 12, 13, 14, 15, 16, 17, 18, 19, 20, 21, 22, 23, 24, 25]), none, none, none, none, none, none]
def Wz (a0 a1 : Value) (w : World) (K : Value → World → Prop) : Prop :=
 X4 P .len [T.k] T.d [false] [a0] w fun t7 w =>
 X4 P .len [T.k] T.d [false] [a1] w fun t9 w =>
 Q3 P .neq T.d (.tmp 7) (.tmp 9) t7 t9 w fun t10 w =>
 X1 t10 (
 K (.bool false) w) (
 lp (α := Value) (.int .i64 0) w fun again6 x6 d_ w =>
 X4 P .len [T.k] T.d [false] [a0] w fun t13 w =>
 Q3 P .lss T.d (.tmp 11) (.tmp 13) x6 t13 w fun t14 w =>
 X1 t14 (
 dr w fun Tr Br =>
 Q7 Tr (fun φ19 => ∀ w, Br w → indexAddr P T.k a0 x6 w (dk Tr φ19 w)) fun φ19 =>
 Q7 Tr (fun φ23 => ∀ w, Br w → indexAddr P T.k a1 x6 w (dk Tr φ23 w)) fun φ23 =>
 Q7 Tr (fun φ20 => ∀ t19 w, Br w → φ19 t19 w → Q2 P T.n t19 w (dk Tr φ20 w)) fun φ20 =>
 Q7 Tr (fun φ24 => ∀ t23 w, Br w → φ23 t23 w → Q2 P T.n t23 w (dk Tr φ24 w)) fun φ24 =>
 ∀ t19 t23 t20 t24 w, Br w → φ19 t19 w → φ23 t23 w → φ20 t20 w → φ24 t24 w → 
 Q3 P .neq T.n (.tmp 20) (.tmp 24) t20 t24 w fun t25 w =>
 X1 t25 (
 K (.bool false) w) (
 Q3 P .add T.d (.tmp 15) (.const (.int .i64 1)) x6 (.int .i64 1) w fun t16 w =>
 again6 t16 w)) (
 K (.bool true) w))
theorem Gc {a0 a1 : Value} {w : World} {K : Value → World → Prop} (h : Wz a0 a1 w K) : Q1 P F.bk [a0, a1] w K := Q9 Ft Tryz.func103 rfl (by decide) (by kernel_rfl) h
def Nf : W2 := [none, none, none, none, none, none, some ([5], [4, 5, 57, 58, 59, 60, 61, 62, 63, 64, 65, 66, 67, 68, 69, 70, 71, 72, 73, 74]), none, none, none, none, none, none]
def Xo (a0 a1 : Value) (w : World) (K : Value → World → Prop) : Prop :=
 box P T.c a0 w fun t2 w =>
 box P T.c a1 w fun t3 w =>
 fieldAddr P T.c t2 0 w fun t6 w =>
 Q2 P T.b t6 w fun t7 w =>
 fieldAddr P T.c t3 0 w fun t8 w =>
 Q2 P T.b t8 w fun t9 w =>
 Q3 P .neq T.b (.tmp 7) (.tmp 9) t7 t9 w fun t10 w =>
 Q0 t10 false w (fieldAddr P T.c t2 2) fun t12 w =>
 Q0 t10 false w (Q2 P T.b t12) fun t13 w =>
 Q0 t10 false w (fieldAddr P T.c t3 2) fun t14 w =>
 Q0 t10 false w (Q2 P T.b t14) fun t15 w =>
 Q0 t10 false w (Q3 P .neq T.b (.tmp 13) (.tmp 15) t13 t15) fun t16 w =>
 pick P t10 (.bool true) t16 w fun t17 w =>
 Q0 t17 false w (fieldAddr P T.c t2 3) fun t19 w =>
 Q0 t17 false w (Q2 P T.l t19) fun t20 w =>
 Q0 t17 false w (fieldAddr P T.c t3 3) fun t21 w =>
 Q0 t17 false w (Q2 P T.l t21) fun t22 w =>
 Q0 t17 false w (Q3 P .neq T.l (.tmp 20) (.tmp 22) t20 t22) fun t23 w =>
 pick P t17 (.bool true) t23 w fun t24 w =>
 Q0 t24 false w (fieldAddr P T.c t2 4) fun t26 w =>
 Q0 t24 false w (Q2 P T.d t26) fun t27 w =>
 Q0 t24 false w (fieldAddr P T.c t3 4) fun t28 w =>
 Q0 t24 false w (Q2 P T.d t28) fun t29 w =>
 Q0 t24 false w (Q3 P .neq T.d (.tmp 27) (.tmp 29) t27 t29) fun t30 w =>
 pick P t24 (.bool true) t30 w fun t31 w =>
 Q0 t31 false w (fieldAddr P T.c t2 1) fun t33 w =>
 Q0 t31 false w (Q2 P T.f t33) fun t34 w =>
 Q0 t31 false w (fieldAddr P T.c t3 1) fun t35 w =>
 Q0 t31 false w (Q2 P T.f t35) fun t36 w =>
 Q0 t31 false w (Q1 P F.ad [t34, t36]) fun t37 w =>
 Q0 t31 false w (U6 P .not t37) fun t38 w =>
 pick P t31 (.bool true) t38 w fun t39 w =>
 Q0 t39 false w (fieldAddr P T.c t2 5) fun t41 w =>
 Q0 t39 false w (Q2 P T.k t41) fun t42 w =>
 Q0 t39 false w (fieldAddr P T.c t3 5) fun t43 w =>
 Q0 t39 false w (Q2 P T.k t43) fun t44 w =>
 Q0 t39 false w (Q1 P F.bk [t42, t44]) fun t45 w =>
 Q0 t39 false w (U6 P .not t45) fun t46 w =>
 pick P t39 (.bool true) t46 w fun t47 w =>
 Q0 t47 false w (fieldAddr P T.c t2 6) fun t49 w =>
 Q0 t47 false w (Q2 P T.j t49) fun t50 w =>
 Q0 t47 false w (X4 P .len [T.j] T.d [false] [t50]) fun t51 w =>
 Q0 t47 false w (fieldAddr P T.c t3 6) fun t52 w =>
 Q0 t47 false w (Q2 P T.j t52) fun t53 w =>
 Q0 t47 false w (X4 P .len [T.j] T.d [false] [t53]) fun t54 w =>
 Q0 t47 false w (Q3 P .neq T.d (.tmp 51) (.tmp 54) t51 t54) fun t55 w =>
 pick P t47 (.bool true) t55 w fun t56 w =>
 X1 t56 (
 K (.bool false) w) (
 lp (α := Value) (.int .i64 0) w fun again6 x6 d_ w =>
 fieldAddr P T.c t2 6 w fun t58 w =>
 Q2 P T.j t58 w fun t59 w =>
 X4 P .len [T.j] T.d [false] [t59] w fun t60 w =>
 Q3 P .lss T.d (.tmp 57) (.tmp 60) x6 t60 w fun t61 w =>
 X1 t61 (
 dr w fun Tr Br =>
 Q7 Tr (fun φ64 => ∀ w, Br w → fieldAddr P T.c t2 6 w (dk Tr φ64 w)) fun φ64 =>
 Q7 Tr (fun φ69 => ∀ w, Br w → fieldAddr P T.c t3 6 w (dk Tr φ69 w)) fun φ69 =>
 Q7 Tr (fun φ65 => ∀ t64 w, Br w → φ64 t64 w → Q2 P T.j t64 w (dk Tr φ65 w)) fun φ65 =>
 Q7 Tr (fun φ67 => ∀ t65 w, Br w → φ65 t65 w → indexAddr P T.j t65 x6 w (dk Tr φ67 w)) fun φ67 =>
 Q7 Tr (fun φ68 => ∀ t67 w, Br w → φ67 t67 w → Q2 P T.m t67 w (dk Tr φ68 w)) fun φ68 =>
 Q7 Tr (fun φ70 => ∀ t69 w, Br w → φ69 t69 w → Q2 P T.j t69 w (dk Tr φ70 w)) fun φ70 =>
 Q7 Tr (fun φ72 => ∀ t70 w, Br w → φ70 t70 w → indexAddr P T.j t70 x6 w (dk Tr φ72 w)) fun φ72 =>
 Q7 Tr (fun φ73 => ∀ t72 w, Br w → φ72 t72 w → Q2 P T.m t72 w (dk Tr φ73 w)) fun φ73 =>
 ∀ t64 t69 t65 t67 t68 t70 t72 t73 w, Br w → φ64 t64 w → φ69 t69 w → φ65 t65 w → φ67 t67 w → φ68 t68 w → φ70 t70 w → φ72 t72 w → φ73 t73 w → 
 Q3 P .neq T.m (.tmp 68) (.tmp 73) t68 t73 w fun t74 w =>
 X1 t74 (
 K (.bool false) w) (
 Q3 P .add T.d (.tmp 62) (.const (.int .i64 1)) x6 (.int .i64 1) w fun t63 w =>
 again6 t63 w)) (
 K (.bool true) w))
theorem Nl {a0 a1 : Value} {w : World} {K : Value → World → Prop} (h : Xo a0 a1 w K) : Q1 P F.aB [a0, a1] w K := Q9 Nf Tryz.func71 rfl (by decide) (by kernel_rfl) h
def Ge : W2 := [none, none, none, none, none, none, some ([5], [4, 5, 66, 67, 68, 69, 70, 71, 72, 73, 74, 75, 76, 77, 78, 79, 80, 81, 82, 83]), none, none, none, none, none, none, none, some ([6], [4, 6, 84, 85, 86, 87, 88, 89, 90, 91, 92, 93, 94, 95, 96, 97, 98, 99, 100, 101, 102]), none, none, none, none, none, none]
def Lb (a0 a1 : Value) (w : World) (K : Value → World → Prop) : Prop :=
 box P T.a a0 w fun t2 w =>
 box P T.a a1 w fun t3 w =>
 fieldAddr P T.a t2 0 w fun t7 w =>
 Q2 P T.b t7 w fun t8 w =>
 fieldAddr P T.a t3 0 w fun t9 w =>
 Q2 P T.b t9 w fun t10 w =>
 Q3 P .neq T.b (.tmp 8) (.tmp 10) t8 t10 w fun t11 w =>
 Q0 t11 false w (fieldAddr P T.a t2 1) fun t13 w =>
 Q0 t11 false w (Q2 P T.b t13) fun t14 w =>
 Q0 t11 false w (fieldAddr P T.a t3 1) fun t15 w =>
 Q0 t11 false w (Q2 P T.b t15) fun t16 w =>
 Q0 t11 false w (Q3 P .neq T.b (.tmp 14) (.tmp 16) t14 t16) fun t17 w =>
 pick P t11 (.bool true) t17 w fun t18 w =>
 Q0 t18 false w (fieldAddr P T.a t2 3) fun t20 w =>
 Q0 t18 false w (Q2 P T.l t20) fun t21 w =>
 Q0 t18 false w (fieldAddr P T.a t3 3) fun t22 w =>
 Q0 t18 false w (Q2 P T.l t22) fun t23 w =>
 Q0 t18 false w (Q3 P .neq T.l (.tmp 21) (.tmp 23) t21 t23) fun t24 w =>
 pick P t18 (.bool true) t24 w fun t25 w =>
 Q0 t25 false w (fieldAddr P T.a t2 4) fun t27 w =>
 Q0 t25 false w (Q2 P T.l t27) fun t28 w =>
 Q0 t25 false w (fieldAddr P T.a t3 4) fun t29 w =>
 Q0 t25 false w (Q2 P T.l t29) fun t30 w =>
 Q0 t25 false w (Q3 P .neq T.l (.tmp 28) (.tmp 30) t28 t30) fun t31 w =>
 pick P t25 (.bool true) t31 w fun t32 w =>
 Q0 t32 false w (fieldAddr P T.a t2 5) fun t34 w =>
 Q0 t32 false w (Q2 P T.l t34) fun t35 w =>
 Q0 t32 false w (fieldAddr P T.a t3 5) fun t36 w =>
 Q0 t32 false w (Q2 P T.l t36) fun t37 w =>
 Q0 t32 false w (Q3 P .neq T.l (.tmp 35) (.tmp 37) t35 t37) fun t38 w =>
 pick P t32 (.bool true) t38 w fun t39 w =>
 Q0 t39 false w (fieldAddr P T.a t2 2) fun t41 w =>
 Q0 t39 false w (Q2 P T.f t41) fun t42 w =>
 Q0 t39 false w (fieldAddr P T.a t3 2) fun t43 w =>
 Q0 t39 false w (Q2 P T.f t43) fun t44 w =>
 Q0 t39 false w (Q1 P F.ad [t42, t44]) fun t45 w =>
 Q0 t39 false w (U6 P .not t45) fun t46 w =>
 pick P t39 (.bool true) t46 w fun t47 w =>
 Q0 t47 false w (fieldAddr P T.a t2 6) fun t49 w =>
 Q0 t47 false w (Q2 P T.h t49) fun t50 w =>
 Q0 t47 false w (X4 P .len [T.h] T.d [false] [t50]) fun t51 w =>
 Q0 t47 false w (fieldAddr P T.a t3 6) fun t52 w =>
 Q0 t47 false w (Q2 P T.h t52) fun t53 w =>
 Q0 t47 false w (X4 P .len [T.h] T.d [false] [t53]) fun t54 w =>
 Q0 t47 false w (Q3 P .neq T.d (.tmp 51) (.tmp 54) t51 t54) fun t55 w =>
 pick P t47 (.bool true) t55 w fun t56 w =>
 Q0 t56 false w (fieldAddr P T.a t2 7) fun t58 w =>
 Q0 t56 false w (Q2 P T.e t58) fun t59 w =>
 Q0 t56 false w (X4 P .len [T.e] T.d [false] [t59]) fun t60 w =>
 Q0 t56 false w (fieldAddr P T.a t3 7) fun t61 w =>
 Q0 t56 false w (Q2 P T.e t61) fun t62 w =>
 Q0 t56 false w (X4 P .len [T.e] T.d [false] [t62]) fun t63 w =>
 Q0 t56 false w (Q3 P .neq T.d (.tmp 60) (.tmp 63) t60 t63) fun t64 w =>
 pick P t56 (.bool true) t64 w fun t65 w =>
 X1 t65 (
 K (.bool false) w) (
 lp (α := Value) (.int .i64 0) w fun again6 x6 d_ w =>
 fieldAddr P T.a t2 6 w fun t67 w =>
 Q2 P T.h t67 w fun t68 w =>
 X4 P .len [T.h] T.d [false] [t68] w fun t69 w =>
 Q3 P .lss T.d (.tmp 66) (.tmp 69) x6 t69 w fun t70 w =>
 X1 t70 (
 dr w fun Tr Br =>
 Q7 Tr (fun φ73 => ∀ w, Br w → fieldAddr P T.a t2 6 w (dk Tr φ73 w)) fun φ73 =>
 Q7 Tr (fun φ78 => ∀ w, Br w → fieldAddr P T.a t3 6 w (dk Tr φ78 w)) fun φ78 =>
 Q7 Tr (fun φ74 => ∀ t73 w, Br w → φ73 t73 w → Q2 P T.h t73 w (dk Tr φ74 w)) fun φ74 =>
 Q7 Tr (fun φ76 => ∀ t74 w, Br w → φ74 t74 w → indexAddr P T.h t74 x6 w (dk Tr φ76 w)) fun φ76 =>
 Q7 Tr (fun φ77 => ∀ t76 w, Br w → φ76 t76 w → Q2 P T.i t76 w (dk Tr φ77 w)) fun φ77 =>
 Q7 Tr (fun φ79 => ∀ t78 w, Br w → φ78 t78 w → Q2 P T.h t78 w (dk Tr φ79 w)) fun φ79 =>
 Q7 Tr (fun φ81 => ∀ t79 w, Br w → φ79 t79 w → indexAddr P T.h t79 x6 w (dk Tr φ81 w)) fun φ81 =>
 Q7 Tr (fun φ82 => ∀ t81 w, Br w → φ81 t81 w → Q2 P T.i t81 w (dk Tr φ82 w)) fun φ82 =>
 ∀ t73 t78 t74 t76 t77 t79 t81 t82 w, Br w → φ73 t73 w → φ78 t78 w → φ74 t74 w → φ76 t76 w → φ77 t77 w → φ79 t79 w → φ81 t81 w → φ82 t82 w → 
 Q3 P .neq T.i (.tmp 77) (.tmp 82) t77 t82 w fun t83 w =>
 X1 t83 (
 K (.bool false) w) (
 Q3 P .add T.d (.tmp 71) (.const (.int .i64 1)) x6 (.int .i64 1) w fun t72 w =>
 again6 t72 w)) (
 lp (α := Value) (.int .i64 0) w fun again14 x14 d_ w =>
 fieldAddr P T.a t2 7 w fun t85 w =>
 Q2 P T.e t85 w fun t86 w =>
 X4 P .len [T.e] T.d [false] [t86] w fun t87 w =>
 Q3 P .lss T.d (.tmp 84) (.tmp 87) x14 t87 w fun t88 w =>
 X1 t88 (
 dr w fun Tr Br =>
 Q7 Tr (fun φ91 => ∀ w, Br w → fieldAddr P T.a t2 7 w (dk Tr φ91 w)) fun φ91 =>
 Q7 Tr (fun φ96 => ∀ w, Br w → fieldAddr P T.a t3 7 w (dk Tr φ96 w)) fun φ96 =>
 Q7 Tr (fun φ92 => ∀ t91 w, Br w → φ91 t91 w → Q2 P T.e t91 w (dk Tr φ92 w)) fun φ92 =>
 Q7 Tr (fun φ94 => ∀ t92 w, Br w → φ92 t92 w → indexAddr P T.e t92 x14 w (dk Tr φ94 w)) fun φ94 =>
 Q7 Tr (fun φ95 => ∀ t94 w, Br w → φ94 t94 w → Q2 P T.c t94 w (dk Tr φ95 w)) fun φ95 =>
 Q7 Tr (fun φ97 => ∀ t96 w, Br w → φ96 t96 w → Q2 P T.e t96 w (dk Tr φ97 w)) fun φ97 =>
 Q7 Tr (fun φ99 => ∀ t97 w, Br w → φ97 t97 w → indexAddr P T.e t97 x14 w (dk Tr φ99 w)) fun φ99 =>
 Q7 Tr (fun φ100 => ∀ t99 w, Br w → φ99 t99 w → Q2 P T.c t99 w (dk Tr φ100 w)) fun φ100 =>
 ∀ t91 t96 t92 t94 t95 t97 t99 t100 w, Br w → φ91 t91 w → φ96 t96 w → φ92 t92 w → φ94 t94 w → φ95 t95 w → φ97 t97 w → φ99 t99 w → φ100 t100 w → 
 Q1 P F.aB [t95, t100] w fun t101 w =>
 U6 P .not t101 w fun t102 w =>
 X1 t102 (
 K (.bool false) w) (
 Q3 P .add T.d (.tmp 89) (.const (.int .i64 1)) x14 (.int .i64 1) w fun t90 w =>
 again14 t90 w)) (
 K (.bool true) w)))
theorem Fo {a0 a1 : Value} {w : World} {K : Value → World → Prop} (h : Lb a0 a1 w K) : Q1 P F.bg [a0, a1] w K := Q9 Ge Tryz.func28 rfl (by decide) (by kernel_rfl) h
def Ls (a0 a1 : Value) (w : World) (K : Value → World → Prop) : Prop :=
 M0 P T.a w fun t4 w =>
 nilCheck P a0 w fun t10 w =>
 fieldAddr P T.q t10 1 w fun t11 w =>
 Q2 P T.r t11 w fun t12 w =>
 lookup P T.r t12 a1 true w fun t14 w =>
 ext P t14 0 w fun t15 w =>
 ext P t14 1 w fun t16 w =>
 U6 P .not t16 w fun t18 w =>
 X1 t18 (
 Qu P T.a [] w fun t19 w =>
 V5 P T.a t4 t19 w fun _u w =>
 N2 P T.a t4 w fun r0 =>
 K (.tuple #[r0, (.bool false)]) w) (
 nilCheck P a0 w fun t21 w =>
 fieldAddr P T.q t21 0 w fun t22 w =>
 Q2 P T.g t22 w fun t23 w =>
 indexAddr P T.g t23 t15 w fun t25 w =>
 Q2 P T.a t25 w fun t26 w =>
 Q1 P F.bC [t26] w fun t27 w =>
 V5 P T.a t4 t27 w fun _u w =>
 N2 P T.a t4 w fun r0 =>
 K (.tuple #[r0, (.bool true)]) w)
theorem Kr {a0 a1 : Value} {w : World} {K : Value → World → Prop} (h : Ls a0 a1 w K) : Q1 P F.bp [a0, a1] w K := Q9 (List.replicate 6 none) Tryz.func32 rfl (by decide) (by kernel_rfl) h
end Go.Proofs.YtdnfaboigajkhaaGreatDoor

set_option maxRecDepth 100000
namespace Go.Proofs.YtdnfaboigajkhaaGreatDoor
open Go.Emb
def So : W2 := [none, none, none, none, some ([3, 11], [3, 5, 11, 12, 13, 14, 15, 16, 17, 18, 19, 20]), none, none, none, none, none]
def Vs (a0 : Value) (w : World) (K : Value → World → Prop) : Prop :=
 nilCheck P a0 w fun t7 w =>
 fieldAddr P T.q t7 0 w fun t8 w =>
 Q2 P T.g t8 w fun t9 w =>
 X4 P .len [T.g] T.d [false] [t9] w fun t10 w =>
 lp (α := Value × Value) ((.slice none 0 0), (.int .i64 0)) w fun again4 x4 d_ w =>
 Q3 P .lss T.d (.tmp 11) (.tmp 10) x4.2 t10 w fun t12 w =>
 X1 t12 (
 indexAddr P T.g t9 x4.2 w fun t13 w =>
 Q2 P T.a t13 w fun t14 w =>
 M0 P T.a w fun v_c_5 w =>
 V5 P T.a v_c_5 t14 w fun _u w =>
 fieldAddr P T.a v_c_5 0 w fun t16 w =>
 Q2 P T.b t16 w fun t17 w =>
 buildSlice P T.f 1 [(0, t17)] w fun t18 w =>
 X4 P .append [T.f, T.f] T.f [false, false] [x4.1, t18] w fun t19 w =>
 Q3 P .add T.d (.tmp 11) (.const (.int .i64 1)) x4.2 (.int .i64 1) w fun t20 w =>
 again4 (t19, t20) w) (
 K x4.1 w)
theorem Cy {a0 : Value} {w : World} {K : Value → World → Prop} (h : Vs a0 w K) : Q1 P F.b1 [a0] w K := Q9 So Tryz.func35 rfl (by decide) (by kernel_rfl) h
def Bh : W2 := [none, none, none, none, none, none, none, none, some ([6, 7], [6, 7, 8, 29, 30, 31, 32, 33, 34, 35, 36, 37, 38, 39, 40, 41, 42, 43, 44, 45, 46, 47, 48, 49, 50, 51, 52, 53, 54, 55, 56, 57, 58]), none, none, some ([6], [6, 8, 39, 40, 41, 42, 43, 44, 45, 46, 47, 48, 49, 50, 51, 52, 53, 54, 55, 56, 57, 58]), none, none, none]
def Qd (a0 a1 : Value) (w : World) (K : Value → World → Prop) : Prop :=
 Q1 P F.b [a0, a1] w fun t11 w =>
 Q3 P .lss T.d (.tmp 12) (.const (.int .i64 0)) t11 (.int .i64 0) w fun t13 w =>
 Q0 t13 false w (fun w J => J a1 w) fun t15 w =>
 Q0 t13 false w (Q3 P .eql T.b (.tmp 15) (.const (.string ⟨#[79, 98, 106, 101, 99, 116]⟩)) t15 (.string ⟨#[79, 98, 106, 101, 99, 116]⟩)) fun t16 w =>
 pick P t13 (.bool true) t16 w fun t17 w =>
 X1 t17 (
 K (.string ⟨#[]⟩) w) (
 Q3 P .add T.b (.tmp 18) (.const (.string ⟨#[40]⟩)) a1 (.string ⟨#[40]⟩) w fun t19 w =>
 indexAddr P T.g a0 t11 w fun t23 w =>
 fieldAddr P T.a t23 1 w fun t24 w =>
 Q2 P T.b t24 w fun t25 w =>
 Q1 P F.a2 [a0, t25] w fun t26 w =>
 Q3 P .add T.b (.tmp 19) (.tmp 26) t19 t26 w fun t27 w =>
 Q3 P .add T.b (.tmp 27) (.const (.string ⟨#[41]⟩)) t27 (.string ⟨#[41]⟩) w fun t28 w =>
 lp (α := Value × Value) (t28, (.int .i64 0)) w fun again8 x8 d_ w =>
 indexAddr P T.g a0 t11 w fun t32 w =>
 fieldAddr P T.a t32 6 w fun t33 w =>
 Q2 P T.h t33 w fun t34 w =>
 X4 P .len [T.h] T.d [false] [t34] w fun t35 w =>
 Q3 P .lss T.d (.tmp 29) (.tmp 35) x8.2 t35 w fun t36 w =>
 X1 t36 (
 jn (α := Value) w (fun J11 w =>
 indexAddr P T.g a0 t11 w fun t41 w =>
 fieldAddr P T.a t41 6 w fun t42 w =>
 Q2 P T.h t42 w fun t43 w =>
 indexAddr P T.h t43 x8.2 w fun t45 w =>
 Q2 P T.i t45 w fun t46 w =>
 M0 P T.i w fun v_f_8 w =>
 V5 P T.i v_f_8 t46 w fun _u w =>
 fieldAddr P T.i v_f_8 2 w fun t47 w =>
 Q2 P T.l t47 w fun t48 w =>
 U6 P .not t48 w fun t49 w =>
 X1 t49 (
 fieldAddr P T.i v_f_8 0 w fun t51 w =>
 Q2 P T.b t51 w fun t52 w =>
 Q3 P .add T.b (.const (.string ⟨#[32]⟩)) (.tmp 52) (.string ⟨#[32]⟩) t52 w fun t53 w =>
 Q3 P .add T.b (.tmp 53) (.const (.string ⟨#[58]⟩)) t53 (.string ⟨#[58]⟩) w fun t54 w =>
 fieldAddr P T.i v_f_8 1 w fun t55 w =>
 Q2 P T.b t55 w fun t56 w =>
 Q3 P .add T.b (.tmp 54) (.tmp 56) t54 t56 w fun t57 w =>
 Q3 P .add T.b (.tmp 50) (.tmp 57) x8.1 t57 w fun t58 w =>
 J11 t58 w) (
 J11 x8.1 w)) fun z11 d_ w =>
 Q3 P .add T.d (.tmp 37) (.const (.int .i64 1)) x8.2 (.int .i64 1) w fun t38 w =>
 again8 (z11, t38) w) (
 Q3 P .add T.b (.tmp 59) (.const (.string ⟨#[46]⟩)) x8.1 (.string ⟨#[46]⟩) w fun t60 w =>
 K t60 w))
theorem Wa {a0 a1 : Value} {w : World} {K : Value → World → Prop} (h : Qd a0 a1 w K) : Q1 P F.a2 [a0, a1] w K := Q9 Bh Tryz.func36 rfl (by decide) (by kernel_rfl) h
def Oh : W2 := [none, none, none, none, none, none, none, none, none, none, none, none, none, none, none, none, none, none, some ([10], [2, 10, 11, 12, 57, 58, 59, 60, 61, 62, 63, 64, 65, 66, 67, 68, 69, 70, 71, 72, 73, 74, 75, 76, 77, 78, 79, 80, 81, 82, 83, 84, 85, 86, 87, 88, 89, 90, 91, 92, 93, 94, 95, 96, 97, 98, 99, 100, 101, 102, 103, 104, 105, 106, 107, 108, 109, 110, 111, 112, 113, 114, 115, 116, 117, 118, 119, 120, 121, 122, 123, 124]), none, none, none, none, none, none, none]
def Xw (a0 : Value) (w : World) (K : Value → World → Prop) : Prop :=
 Q1 P F.bo [a0] w fun t14 w =>
 U6 P .not t14 w fun t15 w =>
 X1 t15 (
 Q1 P F.aw [] w fun t16 w =>
 K t16 w) (
 Q1 P F.bK [a0] w fun t19 w =>
 ext P t19 0 w fun t20 w =>
 ext P t19 1 w fun t21 w =>
 ext P t19 2 w fun t22 w =>
 Q1 P F.aJ [a0] w fun t25 w =>
 ext P t25 0 w fun t26 w =>
 ext P t25 1 w fun t27 w =>
 ext P t25 2 w fun t28 w =>
 Q1 P F.aw [] w fun t29 w =>
 U6 P .not t29 w fun t30 w =>
 Q0 t30 false w (fun w J => J t21 w) fun t32 w =>
 Q0 t30 false w (fun w J => J t27 w) fun t33 w =>
 Q0 t30 false w (Q3 P .neq T.d (.tmp 32) (.tmp 33) t32 t33) fun t34 w =>
 pick P t30 (.bool true) t34 w fun t35 w =>
 Q0 t35 false w (fun w J => J t22 w) fun t37 w =>
 Q0 t35 false w (fun w J => J t28 w) fun t38 w =>
 Q0 t35 false w (Q3 P .neq T.t (.tmp 37) (.tmp 38) t37 t38) fun t39 w =>
 pick P t35 (.bool true) t39 w fun t40 w =>
 Q0 t40 false w (fun w J => J t20 w) fun t42 w =>
 Q0 t40 false w (Q3 P .eql T.p (.tmp 42) (.const (.pointer none)) t42 (.pointer none)) fun t43 w =>
 Q0 t40 false w (fun w J => J t28 w) fun t44 w =>
 Q0 t40 false w (Q3 P .neq T.t (.tmp 44) (.const (.int .i64 0)) t44 (.int .i64 0)) fun t45 w =>
 Q0 t40 false w (Q3 P .neq T.l (.tmp 43) (.tmp 45) t43 t45) fun t46 w =>
 pick P t40 (.bool true) t46 w fun t47 w =>
 X1 t47 (
 K (.bool false) w) (
 Q3 P .eql T.p (.tmp 48) (.const (.pointer none)) t20 (.pointer none) w fun t49 w =>
 X1 t49 (
 K (.bool true) w) (
 Q1 P F.b1 [t20] w fun t51 w =>
 X4 P .len [T.f] T.d [false] [t51] w fun t53 w =>
 X4 P .len [T.g] T.d [false] [t26] w fun t55 w =>
 Q3 P .neq T.d (.tmp 53) (.tmp 55) t53 t55 w fun t56 w =>
 X1 t56 (
 K (.bool false) w) (
 lp (α := Value) (.int .i64 0) w fun again18 x18 d_ w =>
 X4 P .len [T.g] T.d [false] [t26] w fun t59 w =>
 Q3 P .lss T.d (.tmp 57) (.tmp 59) x18 t59 w fun t60 w =>
 X1 t60 (
 indexAddr P T.f t51 x18 w fun t67 w =>
 Q2 P T.b t67 w fun t68 w =>
 Q1 P F.bp [t20, t68] w fun t69 w =>
 ext P t69 0 w fun t70 w =>
 ext P t69 1 w fun t71 w =>
 M0 P T.a w fun t11 w =>
 V5 P T.a t11 t70 w fun _u w =>
 dr w fun Tr Br =>
 Q7 Tr (fun φ74 => ∀ w, Br w → indexAddr P T.f t51 x18 w (dk Tr φ74 w)) fun φ74 =>
 Q7 Tr (fun φ78 => ∀ w, Br w → indexAddr P T.g t26 x18 w (dk Tr φ78 w)) fun φ78 =>
 Q7 Tr (fun φ79 => ∀ t78 w, Br w → φ78 t78 w → fieldAddr P T.a t78 0 w (dk Tr φ79 w)) fun φ79 =>
 Q7 Tr (fun φ75 => ∀ t74 w, Br w → φ74 t74 w → Q2 P T.b t74 w (dk Tr φ75 w)) fun φ75 =>
 Q7 Tr (fun φ80 => ∀ t79 w, Br w → φ79 t79 w → Q2 P T.b t79 w (dk Tr φ80 w)) fun φ80 =>
 Q7 Tr (fun φ81 => ∀ t75 t80 w, Br w → φ75 t75 w → φ80 t80 w → Q3 P .neq T.b (.tmp 75) (.tmp 80) t75 t80 w (dk Tr φ81 w)) fun φ81 =>
 Q7 Tr (fun φ83 => ∀ t81 w, Br w → φ81 t81 w → Q0 t81 false w (fun w J => J t71 w) (dk Tr φ83 w)) fun φ83 =>
 Q7 Tr (fun φ84 => ∀ t81 t83 w, Br w → φ81 t81 w → φ83 t83 w → Q0 t81 false w (U6 P .not t83) (dk Tr φ84 w)) fun φ84 =>
 Q7 Tr (fun φ85 => ∀ t81 t84 w, Br w → φ81 t81 w → φ84 t84 w → pick P t81 (.bool true) t84 w (dk Tr φ85 w)) fun φ85 =>
 Q7 Tr (fun φ88 => ∀ t85 w, Br w → φ85 t85 w → Q0 t85 false w (fun w J => J t26 w) (dk Tr φ88 w)) fun φ88 =>
 Q7 Tr (fun φ89 => ∀ t85 w, Br w → φ85 t85 w → Q0 t85 false w (fun w J => J x18 w) (dk Tr φ89 w)) fun φ89 =>
 Q7 Tr (fun φ90 => ∀ t85 t88 t89 w, Br w → φ85 t85 w → φ88 t88 w → φ89 t89 w → Q0 t85 false w (indexAddr P T.g t88 t89) (dk Tr φ90 w)) fun φ90 =>
 Q7 Tr (fun φ87 => ∀ t85 w, Br w → φ85 t85 w → Q0 t85 false w (Q2 P T.a t11) (dk Tr φ87 w)) fun φ87 =>
 Q7 Tr (fun φ91 => ∀ t85 t90 w, Br w → φ85 t85 w → φ90 t90 w → Q0 t85 false w (Q2 P T.a t90) (dk Tr φ91 w)) fun φ91 =>
 Q7 Tr (fun φ92 => ∀ t85 t87 t91 w, Br w → φ85 t85 w → φ87 t87 w → φ91 t91 w → Q0 t85 false w (Q1 P F.bg [t87, t91]) (dk Tr φ92 w)) fun φ92 =>
 Q7 Tr (fun φ93 => ∀ t85 t92 w, Br w → φ85 t85 w → φ92 t92 w → Q0 t85 false w (U6 P .not t92) (dk Tr φ93 w)) fun φ93 =>
 Q7 Tr (fun φ94 => ∀ t85 t93 w, Br w → φ85 t85 w → φ93 t93 w → pick P t85 (.bool true) t93 w (dk Tr φ94 w)) fun φ94 =>
 Q7 Tr (fun φ96 => ∀ t94 w, Br w → φ94 t94 w → Q0 t94 false w (fun w J => J t20 w) (dk Tr φ96 w)) fun φ96 =>
 Q7 Tr (fun φ97 => ∀ t94 w, Br w → φ94 t94 w → Q0 t94 false w (fun w J => J t51 w) (dk Tr φ97 w)) fun φ97 =>
 Q7 Tr (fun φ98 => ∀ t94 w, Br w → φ94 t94 w → Q0 t94 false w (fun w J => J x18 w) (dk Tr φ98 w)) fun φ98 =>
 Q7 Tr (fun φ99 => ∀ t94 t97 t98 w, Br w → φ94 t94 w → φ97 t97 w → φ98 t98 w → Q0 t94 false w (indexAddr P T.f t97 t98) (dk Tr φ99 w)) fun φ99 =>
 Q7 Tr (fun φ102 => ∀ t94 w, Br w → φ94 t94 w → Q0 t94 false w (fun w J => J t26 w) (dk Tr φ102 w)) fun φ102 =>
 Q7 Tr (fun φ103 => ∀ t94 w, Br w → φ94 t94 w → Q0 t94 false w (fun w J => J x18 w) (dk Tr φ103 w)) fun φ103 =>
 Q7 Tr (fun φ104 => ∀ t94 t102 t103 w, Br w → φ94 t94 w → φ102 t102 w → φ103 t103 w → Q0 t94 false w (indexAddr P T.g t102 t103) (dk Tr φ104 w)) fun φ104 =>
 Q7 Tr (fun φ105 => ∀ t94 t104 w, Br w → φ94 t94 w → φ104 t104 w → Q0 t94 false w (fieldAddr P T.a t104 4) (dk Tr φ105 w)) fun φ105 =>
 Q7 Tr (fun φ100 => ∀ t94 t99 w, Br w → φ94 t94 w → φ99 t99 w → Q0 t94 false w (Q2 P T.b t99) (dk Tr φ100 w)) fun φ100 =>
 Q7 Tr (fun φ101 => ∀ t94 t96 t100 w, Br w → φ94 t94 w → φ96 t96 w → φ100 t100 w → Q0 t94 false w (Q1 P F.ar [t96, t100]) (dk Tr φ101 w)) fun φ101 =>
 Q7 Tr (fun φ106 => ∀ t94 t105 w, Br w → φ94 t94 w → φ105 t105 w → Q0 t94 false w (Q2 P T.l t105) (dk Tr φ106 w)) fun φ106 =>
 Q7 Tr (fun φ107 => ∀ t94 t106 w, Br w → φ94 t94 w → φ106 t106 w → Q0 t94 false w (U6 P .not t106) (dk Tr φ107 w)) fun φ107 =>
 Q7 Tr (fun φ108 => ∀ t94 t101 t107 w, Br w → φ94 t94 w → φ101 t101 w → φ107 t107 w → Q0 t94 false w (Q3 P .neq T.l (.tmp 101) (.tmp 107) t101 t107) (dk Tr φ108 w)) fun φ108 =>
 Q7 Tr (fun φ109 => ∀ t94 t108 w, Br w → φ94 t94 w → φ108 t108 w → pick P t94 (.bool true) t108 w (dk Tr φ109 w)) fun φ109 =>
 Q7 Tr (fun φ111 => ∀ t109 w, Br w → φ109 t109 w → Q0 t109 false w (fun w J => J t20 w) (dk Tr φ111 w)) fun φ111 =>
 Q7 Tr (fun φ112 => ∀ t109 w, Br w → φ109 t109 w → Q0 t109 false w (fun w J => J t51 w) (dk Tr φ112 w)) fun φ112 =>
 Q7 Tr (fun φ113 => ∀ t109 w, Br w → φ109 t109 w → Q0 t109 false w (fun w J => J x18 w) (dk Tr φ113 w)) fun φ113 =>
 Q7 Tr (fun φ114 => ∀ t109 t112 t113 w, Br w → φ109 t109 w → φ112 t112 w → φ113 t113 w → Q0 t109 false w (indexAddr P T.f t112 t113) (dk Tr φ114 w)) fun φ114 =>
 Q7 Tr (fun φ117 => ∀ t109 w, Br w → φ109 t109 w → Q0 t109 false w (fun w J => J t26 w) (dk Tr φ117 w)) fun φ117 =>
 Q7 Tr (fun φ118 => ∀ t109 w, Br w → φ109 t109 w → Q0 t109 false w (fun w J => J t51 w) (dk Tr φ118 w)) fun φ118 =>
 Q7 Tr (fun φ119 => ∀ t109 w, Br w → φ109 t109 w → Q0 t109 false w (fun w J => J x18 w) (dk Tr φ119 w)) fun φ119 =>
 Q7 Tr (fun φ120 => ∀ t109 t118 t119 w, Br w → φ109 t109 w → φ118 t118 w → φ119 t119 w → Q0 t109 false w (indexAddr P T.f t118 t119) (dk Tr φ120 w)) fun φ120 =>
 Q7 Tr (fun φ115 => ∀ t109 t114 w, Br w → φ109 t109 w → φ114 t114 w → Q0 t109 false w (Q2 P T.b t114) (dk Tr φ115 w)) fun φ115 =>
 Q7 Tr (fun φ116 => ∀ t109 t111 t115 w, Br w → φ109 t109 w → φ111 t111 w → φ115 t115 w → Q0 t109 false w (Q1 P F.s [t111, t115]) (dk Tr φ116 w)) fun φ116 =>
 Q7 Tr (fun φ121 => ∀ t109 t120 w, Br w → φ109 t109 w → φ120 t120 w → Q0 t109 false w (Q2 P T.b t120) (dk Tr φ121 w)) fun φ121 =>
 ∀ t74 t78 t79 t75 t80 t81 t83 t84 t85 t88 t89 t90 t87 t91 t92 t93 t94 t96 t97 t98 t99 t102 t103 t104 t105 t100 t101 t106 t107 t108 t109 t111 t112 t113 t114 t117 t118 t119 t120 t115 t116 t121 w, Br w → φ74 t74 w → φ78 t78 w → φ79 t79 w → φ75 t75 w → φ80 t80 w → φ81 t81 w → φ83 t83 w → φ84 t84 w → φ85 t85 w → φ88 t88 w → φ89 t89 w → φ90 t90 w → φ87 t87 w → φ91 t91 w → φ92 t92 w → φ93 t93 w → φ94 t94 w → φ96 t96 w → φ97 t97 w → φ98 t98 w → φ99 t99 w → φ102 t102 w → φ103 t103 w → φ104 t104 w → φ105 t105 w → φ100 t100 w → φ101 t101 w → φ106 t106 w → φ107 t107 w → φ108 t108 w → φ109 t109 w → φ111 t111 w → φ112 t112 w → φ113 t113 w → φ114 t114 w → φ117 t117 w → φ118 t118 w → φ119 t119 w → φ120 t120 w → φ115 t115 w → φ116 t116 w → φ121 t121 w → 
 Q0 t109 false w (Q1 P F.a2 [t117, t121]) fun t122 w =>
 Q0 t109 false w (Q3 P .neq T.b (.tmp 116) (.tmp 122) t116 t122) fun t123 w =>
 pick P t109 (.bool true) t123 w fun t124 w =>
 X1 t124 (
 K (.bool false) w) (
 Q3 P .add T.d (.tmp 61) (.const (.int .i64 1)) x18 (.int .i64 1) w fun t62 w =>
 again18 t62 w)) (
 K (.bool true) w)))))
theorem Oz {a0 : Value} {w : World} {K : Value → World → Prop} (h : Xw a0 w K) : Q1 P F.bB [a0] w K := Q9 Oh Tryz.func11 rfl (by decide) (by kernel_rfl) h
end Go.Proofs.YtdnfaboigajkhaaGreatDoor


namespace Go.Emb
open Go.RowKit (Below)
variable {P : Program} {w w' : World} {K : Value → World → Prop}
theorem X9 {s : Sem Value} {v : Value} (h : s.run P w = .ok v w') : op P (sv s) w K = K v w' := by
  rw [Ze]; unfold Xm sv; simp [h]
theorem Ln {s : Sem Unit} (h : s.run P w = .ok () w') : op P (su s) w K = K undef w' := by
  rw [Ze]; unfold Xm su; simp [h]
abbrev S (l : List UInt8) : Value := .string ⟨l.toArray⟩
abbrev I (n : Int) : Value := .int .i64 n
theorem Mh {b : Bool} {x y : Value} : pick P (.bool b) x y w K = K (if b then x else y) w := by
  unfold pick; rw [Ze]; unfold Xm; cases b <;> simp [asBool]
theorem Et {x y : Value} : pick P (.bool true) x y w K = K x w := by rw [Mh]; rfl
theorem Nq {x y : Value} : pick P (.bool false) x y w K = K y w := by rw [Mh]; rfl
theorem Q6W {a b : Bool} {u : Value} : pick P (.bool a) (if a = true then .bool b else u) (.bool false) w K = K (.bool (a && b)) w := by
  rw [Mh]; cases a <;> rfl
theorem Q8d {a b : Bool} {u : Value} : pick P (.bool a) (.bool true) (if a = false then .bool b else u) w K = K (.bool (a || b)) w := by
  rw [Mh]; cases a <;> rfl
theorem F2 {run : World → (Value → World → Prop) → Prop} : Q0 (.bool true) true w run K = run w K := by rw [Me]; simp [Wb]
theorem Uj {run : World → (Value → World → Prop) → Prop} : Q0 (.bool false) false w run K = run w K := by rw [Me]; simp [Wb]
theorem Kz {run : World → (Value → World → Prop) → Prop} : Q0 (.bool true) false w run K = K undef w := by rw [Me]; simp [Wb]
theorem Zz {run : World → (Value → World → Prop) → Prop} : Q0 (.bool false) true w run K = K undef w := by rw [Me]; simp [Wb]
theorem Iw {b : Bool} {run : World → (Value → World → Prop) → Prop} : Q0 undef b w run K = K undef w := by rw [Me]; rfl
theorem Q6S {a b : Bool} {v : Value} : Q0 (.bool a) b w (fun w J => J v w) K = K (if a = b then v else undef) w := by
  rw [Me]; unfold Wb; by_cases h : a = b <;> simp [h]
theorem Q35 {b : Bool} {t e : Prop} : X1 (.bool b) t e = if b = true then t else e := by rw [Q2o]; cases b <;> rfl
theorem Sr {t e : Prop} : X1 (.bool true) t e = t := by rw [Q35]; simp
theorem Ek {t e : Prop} : X1 (.bool false) t e = e := by rw [Q35]; simp
section G5
variable {k : IntKind} {t : TypeId} {ox oy : Operand} {a b : Int}
theorem Sc : Q3 P .add t ox oy (.int k a) (.int k b) w K = K (.int k (k.wrap (a + b))) w := X9 (by simp [eqGuard, Go.binOp, Op.intArith])
theorem Q0Y : Q3 P .sub t ox oy (.int k a) (.int k b) w K = K (.int k (k.wrap (a - b))) w := X9 (by simp [eqGuard, Go.binOp, Op.intArith])
theorem Q4t : Q3 P .mul t ox oy (.int k a) (.int k b) w K = K (.int k (k.wrap (a * b))) w := X9 (by simp [eqGuard, Go.binOp, Op.intArith])
theorem Q0Q : Q3 P .lss t ox oy (.int k a) (.int k b) w K = K (.bool (decide (a < b))) w := X9 (by simp [eqGuard, Go.binOp, Op.intCmp])
theorem Q4E : Q3 P .leq t ox oy (.int k a) (.int k b) w K = K (.bool (decide (a ≤ b))) w := X9 (by simp [eqGuard, Go.binOp, Op.intCmp])
theorem Q15 : Q3 P .gtr t ox oy (.int k a) (.int k b) w K = K (.bool (decide (b < a))) w := X9 (by simp [eqGuard, Go.binOp, Op.intCmp])
theorem Pm : Q3 P .geq t ox oy (.int k a) (.int k b) w K = K (.bool (decide (b ≤ a))) w := X9 (by simp [eqGuard, Go.binOp, Op.intCmp])
theorem Pn : Q3 P .eql t ox oy (.int k a) (.int k b) w K = K (.bool (decide (a = b))) w := X9 (by
  simp [eqGuard, Go.binOp, Op.intCmp]; rfl)
theorem Q10 : Q3 P .neq t ox oy (.int k a) (.int k b) w K = K (.bool (!decide (a = b))) w := X9 (by
  simp [eqGuard, Go.binOp, Op.intCmp]; rfl)
end G5
theorem Q12 {b : Bool} : U6 P .not (.bool b) w K = K (.bool (!b)) w := X9 (by simp [Op.unary])
section B4
variable {t : TypeId} {ox oy : Operand} {a b : Bool}
theorem Ao (d : Nat) (h : P.underlying t = some .bool) : (Op.equalIn (d + 1) t (.bool a) (.bool b)).run P w = .ok (a == b) w := by
  simp [Op.equalIn, run_underlying h]
theorem Rg (h : P.underlying t = some .bool) : (Op.equal t (.bool a) (.bool b)).run P w = .ok (a == b) w := Ao 9999 h
theorem Q3t (h : P.underlying t = some .bool) : Q3 P .eql t ox oy (.bool a) (.bool b) w K = K (.bool (a == b)) w := X9 (by
  simp [eqGuard, Go.binOp, Rg h])
theorem Q2D (h : P.underlying t = some .bool) : Q3 P .neq t ox oy (.bool a) (.bool b) w K = K (.bool (!(a == b))) w := X9 (by
  simp [eqGuard, Go.binOp, Rg h])
end B4
theorem Yo {vs : List Value} {i : Nat} {v : Value} (h : vs[i]? = some v) : ext P (.tuple vs.toArray) i w K = K v w := X9 (by
  simp [Instr.extract, h])
theorem Q9e {a b : Value} : ext P (.tuple #[a, b]) 0 w K = K a w := Yo (vs := [a, b]) rfl
theorem Q8D {a b : Value} : ext P (.tuple #[a, b]) 1 w K = K b w := Yo (vs := [a, b]) rfl
theorem Q7E {a b c : Value} : ext P (.tuple #[a, b, c]) 0 w K = K a w := Yo (vs := [a, b, c]) rfl
theorem Q7G {a b c : Value} : ext P (.tuple #[a, b, c]) 1 w K = K b w := Yo (vs := [a, b, c]) rfl
theorem Q7J {a b c : Value} : ext P (.tuple #[a, b, c]) 2 w K = K c w := Yo (vs := [a, b, c]) rfl
theorem B6 {n : Int} (h0 : -9223372036854775808 ≤ n) (h1 : n ≤ 9223372036854775807) : IntKind.i64.wrap n = n := by
  have hm : n % 18446744073709551616 = n ∨ n % 18446744073709551616 = n + 18446744073709551616 := by omega
  show (if (true && decide (n % 18446744073709551616 ≥ 9223372036854775808)) = true then n % 18446744073709551616 - 18446744073709551616 else n % 18446744073709551616) = n
  simp only [Bool.true_and, decide_eq_true_eq]
  split <;> omega
theorem w32 {n : Int} (h0 : -2147483648 ≤ n) (h1 : n ≤ 2147483647) : IntKind.i32.wrap n = n := by
  show (if (true && decide (n % 4294967296 ≥ 2147483648)) = true then n % 4294967296 - 4294967296 else n % 4294967296) = n
  simp only [Bool.true_and, decide_eq_true_eq]
  split <;> omega
section strs
variable {t : TypeId} {ox oy : Operand} {a b : List UInt8}
theorem Q1f (a b : List UInt8) : (a == b) = decide (a = b) := by rw [Bool.eq_iff_iff]; simp
theorem Ht : Q3 P .eql t ox oy (S a) (S b) w K = K (.bool (decide (a = b))) w := X9 (by
  simp [eqGuard, Go.binOp, Op.stringOp, Q1f])
theorem Hn : Q3 P .neq t ox oy (S a) (S b) w K = K (.bool (!decide (a = b))) w := X9 (by
  simp [eqGuard, Go.binOp, Op.stringOp, Q1f])
theorem S5 (l : List UInt8) : (ByteArray.mk l.toArray).size = l.length := by simp [ByteArray.size]
theorem Q61 (a b : List UInt8) : ByteArray.mk a.toArray ++ ByteArray.mk b.toArray = ByteArray.mk (a ++ b).toArray := by
  apply ByteArray.ext; simp
theorem Q9t : IntKind.i64.max = 9223372036854775807 := by decide
theorem Q44 (h : a.length + b.length ≤ 9223372036854775807) : Q3 P .add t ox oy (S a) (S b) w K = K (S (a ++ b)) w := X9 (by
  have h1 : ¬ (((a.length + b.length : Nat) : Int) > IntKind.i64.max) := by rw [Q9t]; omega
  simp only [eqGuard, Go.binOp, Op.stringOp, S5, Q61]
  simp only [if_neg h1]
  simp)
theorem D3 {cs : List Bool} {r : TypeId} (hu : P.underlying t = some .string) : X4 P .len [t] r cs [S a] w K = K (I a.length) w := by
  have h : (Builtin.len_ #[t] r #[S a]).run P w = .ok (I a.length) w := by
    simp [Builtin.len_, run_underlying hu, S5, goInt]
  exact X9 h
theorem T9 {i : Int} (hu : P.underlying t = some .string) (h0 : 0 ≤ i) (h : i.toNat < a.length) : E2 P t (S a) (I i) w K = K (.int .u8 (a[i.toNat]'h).toNat) w := X9 (by
  simp only [Instr.index, asIntOf, Sem.run_bind, Sem.run_pure, Result.andThen_ok, run_underlying hu, h0, if_true]
  have : (ByteArray.mk a.toArray)[i.toNat]? = some (a[i.toNat]'h) := by
    rw [getElem?_pos _ _ (by rw [S5]; exact h)]
    rfl
  rw [this]; simp)
theorem Q0a (l : List UInt8) (i j : Nat) : (ByteArray.mk l.toArray).extract i j = ByteArray.mk ((l.take j).drop i).toArray := by
  apply ByteArray.ext
  apply Array.ext'
  simp [List.drop_take]
theorem Vt {i : Int} (hu : P.underlying t = some .string) (h0 : 0 ≤ i) (h : i ≤ a.length) : R7 P t (S a) (some (I i)) none none w K = K (S (a.drop i.toNat)) w := X9 (by
  simp [Instr.sliceAt, Instr.slice, Instr.sliceBounds, Instr.sliceBound, asIntOf, run_underlying hu, h0, h, S5, Q0a])
theorem I1 {i : Int} (hu : P.underlying t = some .string) (h0 : 0 ≤ i) (h : i ≤ a.length) : R7 P t (S a) none (some (I i)) none w K = K (S (a.take i.toNat)) w := X9 (by
  simp [Instr.sliceAt, Instr.slice, Instr.sliceBounds, Instr.sliceBound, asIntOf, run_underlying hu, h0, h, S5, Q0a])
end strs
theorem Ar {s d : TypeId} {k j : IntKind} {n : Int} {ds : TypeDesc} (hs : P.underlying s = some ds) (hd : P.underlying d = some (.int k)) : conv P s d (.int j n) w K = K (.int k (k.wrap n)) w := X9 (by
  simp [Go.convert, run_underlying hs, run_underlying hd, Conv.intToInt])
def Kx (w : World) (r : Nat) (o : Obj) : World := { w with heap := w.heap.setIfInBounds r o }
theorem Q1E {B r : Nat} {a w : World} {o : Obj} (h : Below B a w) (hr : B ≤ r) : Below B a (Kx w r o) :=
  h.trans ⟨rfl, rfl, rfl, by simp [Kx], fun k hk => by simp only [Kx]; rw [Array.getElem?_setIfInBounds_ne (by omega)]⟩
theorem Q4C {w : World} {r : Nat} {o : Obj} (h : r < w.heap.size) : (Kx w r o).heap[r]? = some o := by
  simp only [Kx]; rw [Array.getElem?_setIfInBounds_self_of_lt h]
theorem Q8v {t : TypeId} {a : List UInt8} (hu : P.underlying t = some .string) : rng P t (S a) w K = K (.pointer (some ⟨w.heap.size, 0, none⟩)) (w.alloc (.stringIter ⟨a.toArray⟩ 0)) := X9 (by
  simp [Instr.range, run_underlying hu])
theorem Q82 {t : TypeId} {r pos : Nat} {s : ByteArray} (h : w.heap[r]? = some (.stringIter s pos)) (hp : pos < s.size) :
    N6 P (.pointer (some ⟨r, 0, none⟩)) true t w K = K (.tuple #[.bool true, I pos, .int .i32 (Utf8.decode s pos).1]) (Kx w r (.stringIter s (pos + (Utf8.decode s pos).2))) := X9 (by
  have h1 : ∀ (k : Obj → Sem Value), (getObj r >>= k).run P w = (k (.stringIter s pos)).run P w := by
    intro k; rw [Sem.run_bind]; simp [getObj, Sem.run, h]
  have h2 : ∀ o, (setObj r o).run P w = .ok () (Kx w r o) := by intro o; simp [setObj, Sem.run, h, Kx]
  unfold Instr.next
  simp only [h1, hp, if_true]
  simp [h2, goInt])
theorem Q43 {t : TypeId} {r pos : Nat} {s : ByteArray} (h : w.heap[r]? = some (.stringIter s pos)) (hp : ¬ pos < s.size) :
    N6 P (.pointer (some ⟨r, 0, none⟩)) true t w K = K (.tuple #[.bool false]) w := X9 (by
  have h1 : ∀ (k : Obj → Sem Value), (getObj r >>= k).run P w = (k (.stringIter s pos)).run P w := by
    intro k; rw [Sem.run_bind]; simp [getObj, Sem.run, h]
  unfold Instr.next
  simp only [h1, hp, if_false]
  simp)
theorem Q7v {a : Value} : ext P (.tuple #[a]) 0 w K = K a w := Yo (vs := [a]) rfl
theorem Q5l {s : ByteArray} {i : Nat} (h : (s.get! i).toNat < 128) : Utf8.decode s i = ((s.get! i).toNat, 1) := by
  unfold Utf8.decode
  simp only [Nat.add_zero]
  rw [if_pos h]
theorem Q3P {s : ByteArray} {i : Nat} (h : ¬ (s.get! i).toNat < 128) : 128 ≤ (Utf8.decode s i).1 := by
  unfold Utf8.decode
  simp only [Nat.add_zero]
  rw [if_neg h]
  repeat' split
  all_goals (simp only [Utf8.runeError] at *; try omega)
  all_goals (simp only [Bool.and_eq_true, decide_eq_true_eq, ge_iff_le] at *; omega)
theorem Q2R {s : ByteArray} {i : Nat} : 1 ≤ (Utf8.decode s i).2 := by
  unfold Utf8.decode
  simp only
  repeat' split
  all_goals simp
def Cr (p : Int → Bool) (s : ByteArray) : Nat → Nat → Bool
  | 0, _ => true
  | n + 1, i => if i < s.size then p (Utf8.decode s i).1 && Cr p s n (i + (Utf8.decode s i).2) else true
theorem Q1c {a : List UInt8} {i : Nat} (h : i < a.length) : (ByteArray.mk a.toArray).get! i = a[i] := by
  show (ByteArray.mk a.toArray).data[i]! = a[i]
  simp [h]
theorem Q5q (p : Int → Bool) (hp : ∀ c : Int, 128 ≤ c → p c = false) (a : List UInt8) : ∀ (n i : Nat), a.length - i ≤ n → Cr p ⟨a.toArray⟩ n i = (a.drop i).all (fun b => p b.toNat) := by
  intro n
  induction n with
  | zero => intro i h; rw [List.drop_eq_nil_of_le (by omega)]; rfl
  | succ n ih =>
    intro i h
    simp only [Cr, S5]
    split
    · rename_i hi
      rw [List.drop_eq_getElem_cons hi, List.all_cons]
      by_cases hl : a[i].toNat < 128
      · rw [Q5l (by rw [Q1c hi]; exact hl), Q1c hi]
        simp only
        rw [ih (i + 1) (by omega)]
      · have h1 := Q3P (s := ⟨a.toArray⟩) (i := i) (by rw [Q1c hi]; exact hl)
        rw [hp _ (by omega), hp _ (by omega)]; rfl
    · rename_i hi; rw [List.drop_eq_nil_of_le (by omega)]; rfl
theorem V3 {α : Type} {A : (α → World → Prop) → World → Prop} {B : α → (Nat → Value) → World → Prop} (h : A (fun x w => ∀ d, B x d w) w) : jn w A B := Ve _ h (fun _ d _ hx => hx d)
theorem X2 {Tr : World → World → Prop} {A rest : (Value → World → Prop) → Prop} (V : Value) (h : A (fun v _ => v = V)) (hr : rest (fun v _ => v = V)) : Q7 Tr A rest :=
  O4 _ (fun _ _ _ h _ => h) h hr
theorem Lq {w w0 : World} {A : (World → World → Prop) → (World → Prop) → Prop} (hb : Below w0.heap.size w0 w)
    (h : A (fun w w' => Below w.heap.size w w') (fun w' => Below w0.heap.size w0 w')) : dr w A :=
  Q0b _ _ hb.drew (fun _ _ h1 h2 => h1.trans (h2.mono h1.size)) h
theorem Q0h {w w' : World} {v V : Value} (hb : Below w.heap.size w w') (h : v = V) : dk (fun w w' => Below w.heap.size w w') (fun v _ => v = V) w v w' := ⟨hb, h⟩
theorem X5 {w : World} {v V : Value} (h : v = V) : dk (fun w w' => Below w.heap.size w w') (fun v _ => v = V) w v w := ⟨Below.refl _ _, h⟩
theorem Q3H {n : Nat} {fn : Func} {e : Array Value → Sem Value} {xs : List Value} {v : Value} (h1 : P.funcs[n]? = some fn) (h2 : (fn.name == "runtime.NumGoroutine") = false) (h3 : fn.body.isNone = true)
    (h4 : (Extern.findNext fn).isNone = true) (h5 : Extern.find fn = some e) (h6 : (e xs.toArray).run P w = .ok v w) (h : K v w) : Q1 P n xs w K := by
  have h4' : Extern.findNext fn = none := by simpa using h4
  have h2' : ¬ fn.name = "runtime.NumGoroutine" := by simpa using h2
  have h3' : fn.body = none := by simpa using h3
  unfold Q1
  rw [Ze]
  unfold Xm callFunc
  simp [h1, h2', h3', h4', h5, h6, h]
theorem Q0L {α : Type} (p : α → Bool) (p' : Nat → Bool) : ∀ (l : List α), (∀ i (h : i < l.length), p' i = p l[i]) → (List.range l.length).find? p' = l.findIdx? p
  | [], _ => rfl
  | x :: l, h => by
    rw [List.length_cons, List.range_succ_eq_map, List.find?_cons, List.findIdx?_cons]
    have h0 : p' 0 = p x := h 0 (by simp)
    rw [h0]
    cases p x
    · simp only [Bool.false_eq_true, if_false]
      rw [List.find?_map]
      have := Q0L p (p' ∘ Nat.succ) l (fun i hi => h (i + 1) (by simpa using hi))
      rw [this]
    · rfl
def Mr := And.intro @Et <| And.intro @Nq <| And.intro @Iw <| And.intro @Sc <| And.intro @Q0Y <| And.intro @Q4t <| And.intro @Q0Q <| And.intro @Q4E <| And.intro @Q15 <| And.intro @Pm <| And.intro @Pn <| And.intro @Q10 <| And.intro @Q12 <| And.intro @Ht <| And.intro @Hn <| And.intro @Q9e <| And.intro @Q8D <| And.intro @Q7E <| And.intro @Q7G <| And.intro @Q7J <| And.intro @Q7v <| And.intro @Q6W <| And.intro @Q8d <| And.intro @F2 <| And.intro @Uj <| And.intro @Kz <| And.intro @Zz <| And.intro @Q6S <| And.intro @Sr <| @Ek
def Mp := And.intro @Et <| And.intro @Nq <| And.intro @Iw <| And.intro @Sc <| And.intro @Q0Y <| And.intro @Q4t <| And.intro @Q0Q <| And.intro @Q4E <| And.intro @Q15 <| And.intro @Pm <| And.intro @Pn <| And.intro @Q10 <| And.intro @Q12 <| And.intro @Ht <| And.intro @Hn <| And.intro @Q9e <| And.intro @Q8D <| And.intro @Q7E <| And.intro @Q7G <| And.intro @Q7J <| And.intro @Q7v <| And.intro @F2 <| And.intro @Uj <| And.intro @Kz <| And.intro @Zz <| And.intro @Sr <| @Ek
def Mb := And.intro @Bool.true_eq_false <| And.intro @Bool.false_eq_true <| And.intro @Bool.not_true <| And.intro @Bool.not_false <| And.intro @Bool.and_true <| And.intro @Bool.true_and <| And.intro @Bool.and_false <| And.intro @Bool.false_and <| And.intro @Bool.or_true <| And.intro @Bool.true_or <| And.intro @Bool.or_false <| @Bool.false_or
end Go.Emb

namespace Go.Kd
abbrev X0 := List UInt8
def P4 (c : Int) : Bool := decide (65 ≤ c) && decide (c ≤ 90)
def G2 (c : Int) : Bool := decide (97 ≤ c) && decide (c ≤ 122)
def R3 (c : Int) : Bool := decide (48 ≤ c) && decide (c ≤ 57)
def D9 (c : Int) : Bool := P4 c || G2 c || R3 c
def name (s : X0) : Bool := match s with
  | [] => false
  | c :: _ => decide (s.length ≤ 32) && !R3 c.toNat && s.all (fun b => D9 b.toNat)
def L4 (s : X0) : Bool := match s with
  | [] => false
  | c :: _ => name s && P4 c.toNat
def M7 (s : X0) : Bool := match s with
  | [] => false
  | c :: _ => name s && G2 c.toNat
def plain (s : X0) : Bool := decide (s = [105, 110, 116]) || decide (s = [98, 111, 111, 108]) || decide (s = [116, 101, 120, 116])
def D6 (s : X0) : Bool := decide (2 ≤ s.length) && decide (s.drop (s.length - 2) = [91, 93])
def O6 (s : X0) : X0 := s.take (s.length - 2)
def Qg : Nat → X0 → X0 × Nat
  | 0, s => (s, 0)
  | n + 1, s => if D6 s then ((Qg n (O6 s)).1, (Qg n (O6 s)).2 + 1) else (s, 0)
def V8 (s : X0) : X0 × Nat := Qg s.length s
def right (s : X0) : Bool := decide ((V8 s).2 ≤ 3) && (plain (V8 s).1 || L4 (V8 s).1)
def Hb (s : X0) : X0 := if D6 s && right s then O6 s else []
def Ay (s : X0) : Nat := if right s then (V8 s).2 else 0
def K9 (s : X0) : X0 × X0 × Bool := match s with
  | [] => ([], [], false)
  | c :: r => if c = 46 then ([], r, true) else ((c :: (K9 r).1), (K9 r).2.1, (K9 r).2.2)
def Qz (s : X0) : Bool := (K9 s).2.2 && L4 (K9 s).1 && M7 (K9 s).2.1
def Tb (c : UInt8) (s : X0) : Int := match s.findIdx? (fun b => decide (b = c)) with
  | some i => i
  | none => -1
def Q0F (s : X0) (o : Option Nat) : X0 × X0 × Bool := match o with
  | some i => (s.take i, s.drop (i + 1), true)
  | none => (s, [], false)
theorem Bj (s : X0) : K9 s = Q0F s (s.findIdx? (fun b => decide (b = 46))) := by
  induction s with
  | nil => rfl
  | cons c r ih =>
    rw [List.findIdx?_cons]
    simp only [K9]
    by_cases h : c = 46
    · simp [h, Q0F]
    · simp only [h, if_false, decide_false, Bool.false_eq_true]
      rw [ih]
      cases r.findIdx? (fun b => decide (b = 46)) with
      | none => simp [Q0F]
      | some i => simp [Q0F]
end Go.Kd

namespace Go.Proofs.YtdnfaboigajkhaaGreatDoor
open Go.Emb Go.RowKit Go.Kd
variable {w : World} {K : Value → World → Prop}
theorem X7 : P.underlying T.b = some .string := by kernel_rfl
theorem Q09 : P.underlying T.d = some (.int .i64) := by kernel_rfl
theorem Jd : P.underlying T.l = some .bool := by kernel_rfl
theorem Q0X : P.underlying T.s = some (.int .u8) := by kernel_rfl
theorem Q4n : P.underlying T.ac = some (.int .i32) := by kernel_rfl
theorem Q4u (c : Int) (h : K (.bool (P4 c)) w) : Q1 P F.bP [.int .i32 c] w K := Q2E (by
  unfold Pg
  (try simp only [↓Mr, Mr, Mb, reduceIte])
  cases h1 : decide (65 ≤ c) <;> simp only [h1, ↓Mr, Mr, Mb, reduceIte] <;> simpa [P4, h1] using h)
theorem Q4x (c : Int) (h : K (.bool (G2 c)) w) : Q1 P F.bR [.int .i32 c] w K := Q38 (by
  unfold Ix
  (try simp only [↓Mr, Mr, Mb, reduceIte])
  cases h1 : decide (97 ≤ c) <;> simp only [h1, ↓Mr, Mr, Mb, reduceIte] <;> simpa [G2, h1] using h)
theorem Q7T (c : Int) (h : K (.bool (D9 c)) w) : Q1 P F.bI [.int .i32 c] w K := Q22 (by
  unfold Fj
  refine Q4u c ?_
  cases h1 : P4 c
  · (try simp only [↓Mr, Mr, Mb, reduceIte])
    refine Q4x c ?_
    cases h2 : G2 c
    · (try simp only [↓Mr, Mr, Mb, reduceIte])
      cases h3 : decide (48 ≤ c)
      · (try simp only [↓Mr, Mr, Mb, reduceIte])
        simpa [D9, R3, h1, h2, h3] using h
      · (try simp only [↓Mr, Mr, Mb, reduceIte])
        simpa [D9, R3, h1, h2, h3] using h
    · (try simp only [↓Mr, Mr, Mb, reduceIte])
      simpa [D9, h1, h2] using h
  · (try simp only [↓Mr, Mr, Mb, reduceIte])
    simpa [D9, h1] using h)
theorem Q9A (a : List UInt8) (f : Value) (p : Int → Bool) (hf : ∀ (c : Int) (w : World) (K : Value → World → Prop), K (.bool (p c)) w → Z7 P f [.int .i32 c] w K)
    (h : ∀ w', Below w.heap.size w w' → K (.bool (Cr p ⟨a.toArray⟩ a.length 0)) w') : Q1 P F.c5 [S a, f] w K := Q4N (by
  unfold Q0r
  rw [Q8v X7]
  refine Jm (fun _ w' => ∃ pos n : Nat, a.length - pos ≤ n ∧ Cr p ⟨a.toArray⟩ a.length 0 = Cr p ⟨a.toArray⟩ n pos ∧ Below w.heap.size w w' ∧ w'.heap[w.heap.size]? = some (.stringIter ⟨a.toArray⟩ pos))
    (fun _ w' => match w'.heap[w.heap.size]? with | some (.stringIter _ pos) => a.length - pos | _ => 0) ⟨0, a.length, by omega, rfl, (Below.refl _ _).alloc (Nat.le_refl _) _, heap_alloc_new w _⟩ ?_
  rintro _ _ w1 ⟨pos, n, hn, he, hb, hi⟩
  by_cases hp : pos < a.length
  · rw [Q82 hi (by rw [S5]; exact hp)]
    (try simp only [↓Mr, Mr, Mb, reduceIte])
    refine hf _ _ _ ?_
    obtain ⟨n, rfl⟩ : ∃ m, n = m + 1 := ⟨n - 1, by omega⟩
    simp only [Cr, S5, hp, if_true] at he
    have hw := Q2R (s := ⟨a.toArray⟩) (i := pos)
    have hsz : w.heap.size < w1.heap.size := (Array.getElem?_eq_some_iff.1 hi).1
    cases hc : p (Utf8.decode ⟨a.toArray⟩ pos).1
    · (try simp only [↓Mr, Mr, Mb, reduceIte])
      rw [hc] at he
      have := h _ (Q1E (o := .stringIter ⟨a.toArray⟩ (pos + (Utf8.decode ⟨a.toArray⟩ pos).2)) hb (Nat.le_refl _))
      rw [he] at this
      exact this
    · (try simp only [↓Mr, Mr, Mb, reduceIte])
      rw [hc] at he
      refine ⟨⟨_, n, ?_, he, Q1E hb (Nat.le_refl _), Q4C hsz⟩, ?_⟩
      · omega
      · simp only [Q4C hsz, hi]; omega
  · rw [Q43 hi (by rw [S5]; exact hp)]
    (try simp only [↓Mr, Mr, Mb, reduceIte])
    have : Cr p ⟨a.toArray⟩ n pos = true := by
      cases n with
      | zero => rfl
      | succ n => simp only [Cr, S5, hp, if_false]
    rw [← this, ← he]
    exact h _ hb)
theorem Q5A (c : Int) (h : 128 ≤ c) : D9 c = false := by
  simp [D9, P4, G2, R3]; omega
theorem Q2C (a : List UInt8) (ha : a.length ≤ 140737488355328) (h : ∀ w', Below w.heap.size w w' → K (.bool (name a)) w') : Q1 P F.bA [S a] w K := Q4b (by
  unfold Ty
  have fin : ∀ c r, a = c :: r → (decide (a.length ≤ 32) && !R3 c.toNat) = true → Q1 P F.c5 [S a, (.func (.func F.bI) #[] #[])] w K := by
    intro c r hc h1
    refine Q9A a _ D9 (fun c w K h => J4 (first := []) (caps := []) (Q7T c h)) fun w' hb => ?_
    rw [Q5q _ Q5A a _ _ (by omega)]
    have := h w' hb
    rw [hc] at this h1 ⊢
    simp only [name] at this
    rw [h1, Bool.true_and] at this
    simpa using this
  cases a with
  | nil =>
    simp only [↓Mr, Mr, Mb, reduceIte, decide_true]
    exact h w (Below.refl _ _)
  | cons c r =>
    have hne : decide (c :: r = []) = false := by simp
    simp only [↓Mr, Mr, Mb, reduceIte, hne, D3 X7]
    by_cases hl : (c :: r).length ≤ 32
    · have hl' : r.length ≤ 31 := by simpa using hl
      have h1 : decide ((32 : Int) < ((c :: r).length : Int)) = false := by simp only [decide_eq_false_iff_not]; omega
      simp only [↓Mr, Mr, Mb, reduceIte, h1]
      rw [T9 X7 (by omega) (by simp)]
      (try simp only [↓Mr, Mr, Mb, reduceIte])
      have hi : (c :: r)[(0 : Int).toNat]'(by simp) = c := rfl
      simp only [hi]
      cases h2 : decide ((48 : Int) ≤ (c.toNat : Int))
      · (try simp only [↓Mr, Mr, Mb, reduceIte])
        exact fin c r rfl (by simp [R3, hl', h2])
      · (try simp only [↓Mr, Mr, Mb, reduceIte])
        rw [T9 X7 (by omega) (by simp)]
        simp only [↓Mr, Mr, Mb, reduceIte, hi]
        cases h3 : decide ((c.toNat : Int) ≤ 57)
        · (try simp only [↓Mr, Mr, Mb, reduceIte])
          exact fin c r rfl (by simp only [R3, h2, h3]; simp [hl'])
        · (try simp only [↓Mr, Mr, Mb, reduceIte])
          have : name (c :: r) = false := by simp only [name, R3, h2, h3]; simp
          rw [← this]; exact h w (Below.refl _ _)
    · have h1 : decide ((32 : Int) < ((c :: r).length : Int)) = true := by simp only [decide_eq_true_eq]; omega
      simp only [↓Mr, Mr, Mb, reduceIte, h1]
      have : name (c :: r) = false := by simp only [name]; rw [decide_eq_false hl]; rfl
      rw [← this]; exact h w (Below.refl _ _))
theorem Ny (a : List UInt8) (ha : a.length ≤ 140737488355328) (h : ∀ w', Below w.heap.size w w' → K (.bool (L4 a)) w') : Q1 P F.ac [S a] w K := Q2p (by
  unfold Ik
  refine Q2C a ha fun w1 hb => ?_
  cases a with
  | nil =>
    simp only [name, ↓Mr, Mr, Mb, reduceIte]
    exact h w1 hb
  | cons c r =>
    cases hn : name (c :: r)
    · (try simp only [↓Mr, Mr, Mb, reduceIte])
      have := h w1 hb
      simp only [L4, hn] at this
      simpa using this
    · (try simp only [↓Mr, Mr, Mb, reduceIte])
      rw [T9 X7 (by omega) (by simp)]
      have hi : (c :: r)[(0 : Int).toNat]'(by simp) = c := rfl
      simp only [hi]
      rw [Ar Q0X Q4n, w32 (by omega) (by have := c.toNat_lt; omega)]
      refine Q4u _ ?_
      (try simp only [↓Mr, Mr, Mb, reduceIte])
      have := h w1 hb
      simp only [L4, hn] at this
      simpa using this)
theorem Uf (a : List UInt8) (h : K (.bool (plain a)) w) : Q1 P F.aa [S a] w K := Q2q (by
  unfold Ib
  (try simp only [↓Mr, Mr, Mb, reduceIte])
  cases h1 : decide (a = [105, 110, 116]) <;> (try simp only [↓Mr, Mr, Mb, reduceIte])
  · cases h2 : decide (a = [98, 111, 111, 108]) <;> (try simp only [↓Mr, Mr, Mb, reduceIte]) <;> simpa [plain, h1, h2] using h
  · simpa [plain, h1] using h)
def Xu (a b : List UInt8) : Bool := decide (b.length ≤ a.length) && decide (a.drop (a.length - b.length) = b)
theorem Lo (a b : List UInt8) (ha : a.length ≤ 140737488355328) (hb : b.length ≤ 140737488355328) (h : K (.bool (Xu a b)) w) : Q1 P F.a4 [S a, S b] w K := Dy (by
  unfold Zl
  rw [D3 X7, D3 X7]
  (try simp only [↓Mr, Mr, Mb, reduceIte])
  by_cases hl : b.length ≤ a.length
  · have h1 : decide ((b.length : Int) ≤ a.length) = true := by simp only [decide_eq_true_eq]; omega
    simp only [↓Mr, Mr, Mb, reduceIte, h1, D3 X7]
    rw [B6 (by omega) (by omega), Vt X7 (by omega) (by omega)]
    (try simp only [↓Mr, Mr, Mb, reduceIte])
    rw [show ((a.length : Int) - b.length).toNat = a.length - b.length from by omega]
    simpa [Xu, hl] using h
  · have h1 : decide ((b.length : Int) ≤ a.length) = false := by simp only [decide_eq_false_iff_not]; omega
    simp only [↓Mr, Mr, Mb, reduceIte, h1]
    simpa [Xu, hl] using h)
theorem Q3O (a b : List UInt8) (ha : a.length ≤ 140737488355328) (hb : b.length ≤ 140737488355328) (h : K (.bool (Xu a b)) w) : Q1 P F.bl [S a, S b] w K := Fr (by
  unfold Lc
  exact Lo a b ha hb h)
def Lm (a b : List UInt8) : List UInt8 := if Xu a b then a.take (a.length - b.length) else a
theorem Q1t {a b : List UInt8} (h : Xu a b = true) : b.length ≤ a.length := by
  simp only [Xu, Bool.and_eq_true, decide_eq_true_eq] at h; exact h.1
theorem Q2Y (a b : List UInt8) (ha : a.length ≤ 140737488355328) (hb : b.length ≤ 140737488355328) (h : K (S (Lm a b)) w) : Q1 P F.b9 [S a, S b] w K := Sp (by
  unfold Vv
  refine Ol ?_
  unfold Ym
  refine Lo a b ha hb ?_
  cases hs : Xu a b
  · (try simp only [↓Mr, Mr, Mb, reduceIte])
    simpa [Lm, hs] using h
  · have hl := Q1t hs
    simp only [↓Mr, Mr, Mb, reduceIte, D3 X7]
    rw [B6 (by omega) (by omega), I1 X7 (by omega) (by omega)]
    rw [show ((a.length : Int) - b.length).toNat = a.length - b.length from by omega]
    simpa [Lm, hs] using h)
theorem Q3N (a b : List UInt8) (ha : a.length ≤ 140737488355328) (hb : b.length ≤ 140737488355328) (h : K (.tuple #[S (Lm a b), .bool (Xu a b)]) w) : Q1 P F.bj [S a, S b] w K := Fs (by
  unfold Lf
  refine Dx ?_
  unfold Zo
  refine Lo a b ha hb ?_
  cases hs : Xu a b
  · (try simp only [↓Mr, Mr, Mb, reduceIte])
    simpa [Lm, hs] using h
  · have hl := Q1t hs
    simp only [↓Mr, Mr, Mb, reduceIte, D3 X7]
    rw [B6 (by omega) (by omega), I1 X7 (by omega) (by omega)]
    rw [show ((a.length : Int) - b.length).toNat = a.length - b.length from by omega]
    (try simp only [↓Mr, Mr, Mb, reduceIte])
    simpa [Lm, hs] using h)
theorem Q0m (a : List UInt8) : Xu a [91, 93] = D6 a := rfl
theorem Tw (a : List UInt8) : Lm a [91, 93] = if D6 a then Kd.O6 a else a := rfl
theorem K4 {a : List UInt8} (h : D6 a = true) : (Kd.O6 a).length + 2 = a.length := by
  simp only [D6, Bool.and_eq_true, decide_eq_true_eq] at h
  simp only [Kd.O6, List.length_take]; omega
theorem Q0K : ∀ (n m : Nat) (a : List UInt8), a.length ≤ n → a.length ≤ m → Qg n a = Qg m a
  | 0, 0, a, _, _ => rfl
  | 0, m + 1, a, h, _ => by
    have : a = [] := List.eq_nil_of_length_eq_zero (by omega)
    subst this; rfl
  | n + 1, 0, a, _, h => by
    have : a = [] := List.eq_nil_of_length_eq_zero (by omega)
    subst this; rfl
  | n + 1, m + 1, a, h1, h2 => by
    simp only [Qg]
    split
    · rename_i h
      have := K4 h
      rw [Q0K n m (Kd.O6 a) (by omega) (by omega)]
    · rfl
theorem Za (a : List UInt8) : V8 a = if D6 a then ((V8 (Kd.O6 a)).1, (V8 (Kd.O6 a)).2 + 1) else (a, 0) := by
  unfold V8
  cases hl : a.length with
  | zero =>
    have : a = [] := List.eq_nil_of_length_eq_zero hl
    subst this; rfl
  | succ n =>
    simp only [Qg]
    split
    · rename_i h
      have := K4 h
      rw [Q0K n (Kd.O6 a).length (Kd.O6 a) (by omega) (Nat.le_refl _)]
    · rfl
theorem Py (a : List UInt8) : (V8 a).1.length + 2 * (V8 a).2 = a.length := by
  have key : ∀ n (a : List UInt8), (Qg n a).1.length + 2 * (Qg n a).2 = a.length := by
    intro n
    induction n with
    | zero => intro a; simp [Qg]
    | succ n ih =>
      intro a
      simp only [Qg]
      split
      · rename_i h
        have := K4 h
        have := ih (Kd.O6 a)
        simp only; omega
      · simp
  exact key _ a
theorem Q5V (a : List UInt8) (ha : a.length ≤ 140737488355328) (h : K (.tuple #[S (V8 a).1, I (V8 a).2]) w) : Q1 P F.c0 [S a] w K := Q4a (by
  unfold Tp
  refine Jm (fun x w' => w' = w ∧ ∃ (b : List UInt8) (n : Nat), x = (S b, I n) ∧ b.length + 2 * n = a.length ∧ V8 a = ((V8 b).1, (V8 b).2 + n)) (fun x _ => match x.1 with | .string s => s.size | _ => 0)
    ⟨rfl, a, 0, rfl, by omega, rfl⟩ ?_
  rintro _ _ _ ⟨rfl, b, n, rfl, hl, he⟩
  refine Q3O b _ (by omega) (by simp) ?_
  rw [Q0m]
  cases hb : D6 b
  · (try simp only [↓Mr, Mr, Mb, reduceIte])
    rw [Za b, hb] at he
    simp only [Bool.false_eq_true, if_false, Nat.zero_add] at he
    rw [he] at h; exact h
  · (try simp only [↓Mr, Mr, Mb, reduceIte])
    refine Q2Y b _ (by omega) (by simp) ?_
    rw [Tw, hb]
    simp only [↓Mr, Mr, Mb, reduceIte, if_true]
    have hc := K4 hb
    rw [B6 (by omega) (by omega)]
    refine ⟨⟨by first | rfl | trivial, Kd.O6 b, n + 1, by simp, by omega, ?_⟩, ?_⟩
    · rw [he, Za b, hb]; simp; omega
    · simp only [S5]; omega)
theorem Yz (a : List UInt8) (ha : a.length ≤ 140737488355328) (h : ∀ w', Below w.heap.size w w' → K (.bool (right a)) w') : Q1 P F.a1 [S a] w K := Q3h (by
  unfold Gz
  have hbl := Py a
  refine Q5V a ha ?_
  (try simp only [↓Mr, Mr, Mb, reduceIte])
  by_cases hn : (V8 a).2 ≤ 3
  · have h1 : decide (((V8 a).2 : Int) ≤ 3) = true := by simp only [decide_eq_true_eq]; omega
    simp only [↓Mr, Mr, Mb, reduceIte, h1]
    refine Uf _ ?_
    cases hp : plain (V8 a).1
    · (try simp only [↓Mr, Mr, Mb, reduceIte])
      refine Ny _ (by omega) fun w1 hb => ?_
      (try simp only [↓Mr, Mr, Mb, reduceIte])
      have := h w1 hb
      simp only [right, hn, hp] at this
      simpa using this
    · (try simp only [↓Mr, Mr, Mb, reduceIte])
      have := h w (Below.refl _ _)
      simp only [right, hn, hp] at this
      simpa using this
  · have h1 : decide (((V8 a).2 : Int) ≤ 3) = false := by simp only [decide_eq_false_iff_not]; omega
    simp only [↓Mr, Mr, Mb, reduceIte, h1]
    have := h w (Below.refl _ _)
    simp only [right, hn] at this
    simpa using this)
theorem Q98 (a : List UInt8) (ha : a.length ≤ 140737488355328) (h : ∀ w', Below w.heap.size w w' → K (S (Hb a)) w') : Q1 P F.cc [S a] w K := Q3U (by
  unfold Ai
  refine Q3N a _ ha (by simp) ?_
  rw [Q0m, Tw]
  (try simp only [↓Mr, Mr, Mb, reduceIte])
  cases hb : D6 a
  · (try simp only [↓Mr, Mr, Mb, reduceIte])
    have := h w (Below.refl _ _)
    simp only [Hb, hb] at this
    exact this
  · (try simp only [↓Mr, Mr, Mb, reduceIte])
    refine Yz a ha fun w1 hw => ?_
    have := h w1 hw
    cases hr : right a
    · (try simp only [↓Mr, Mr, Mb, reduceIte])
      simp only [Hb, hb, hr] at this
      exact this
    · simp only [↓Mr, Mr, Mb, reduceIte, if_true]
      simp only [Hb, hb, hr] at this
      exact this)
theorem Q8R (a : List UInt8) (ha : a.length ≤ 140737488355328) (h : ∀ w', Below w.heap.size w w' → K (I (Ay a)) w') : Q1 P F.cf [S a] w K := Q3E (by
  unfold Ts
  refine Q5V a ha ?_
  (try simp only [↓Mr, Mr, Mb, reduceIte])
  refine Yz a ha fun w1 hw => ?_
  have := h w1 hw
  cases hr : right a <;> (try simp only [↓Mr, Mr, Mb, reduceIte]) <;> simpa [Ay, hr] using this)
end Go.Proofs.YtdnfaboigajkhaaGreatDoor

namespace Go.Proofs.YtdnfaboigajkhaaGreatDoor
open Go.Emb Go.RowKit Go.Kd
variable {w : World} {K : Value → World → Prop}
theorem Tf (a : List UInt8) (c : UInt8) (h : K (I (Tb c a)) w) : Q1 P F.bz [S a, .int .u8 c.toNat] w K := by
  refine Q3H (e := Extern.BytealgIndexByte.indexByte) Tryz.func193 (by decide) rfl (by kernel_rfl) (by kernel_rfl) ?_ h
  have e1 : ((List.range (ByteArray.mk a.toArray).size).find? fun i => (ByteArray.mk a.toArray)[i]! == c) = a.findIdx? (fun b => decide (b = c)) := by
    rw [S5]
    refine Q0L _ _ a fun i hi => ?_
    have : (ByteArray.mk a.toArray)[i]! = a[i] := by
      rw [getElem!_pos _ _ (by rw [S5]; exact hi)]; rfl
    rw [this, Bool.eq_iff_iff]; simp
  have e2 : ((c.toNat : Int).toNat.toUInt8) = c := by simp
  have := run_indexByte_string (P := P) ⟨a.toArray⟩ c.toNat w
  rw [e2] at this
  refine this.trans ?_
  unfold firstIdx Tb
  rw [e1]
  cases a.findIdx? (fun b => decide (b = c)) <;> rfl
theorem Q7i (a : List UInt8) (c : UInt8) (h : K (I (Tb c a)) w) : Q1 P F.bn [S a, S [c]] w K := Gi (by
  unfold Wp
  simp only [D3 X7]
  have d0 : decide ((([c] : List UInt8).length : Int) = 0) = false := rfl
  have d1 : decide ((([c] : List UInt8).length : Int) = 1) = true := rfl
  simp only [Pn, d0, d1]
  simp only [↓Mr, Mr, Mb, reduceIte]
  have fin : E2 P T.b (S [c]) (I 0) w fun t29 w => Q1 P F.ap [S a, t29] w fun t30 w => K t30 w := by
    rw [T9 X7 (by omega) (by simp)]
    refine Dw ?_
    unfold Zh
    exact Tf a c h
  cases hd : decide ([c] = a)
  · (try simp only [↓Mr, Mr, Mb, reduceIte])
    exact fin
  · (try simp only [↓Mr, Mr, Mb, reduceIte])
    have he : [c] = a := by simpa using hd
    have : Tb c a = 0 := by rw [← he]; simp [Tb, List.findIdx?_cons]
    rw [this] at h; exact h)
theorem Q6V {c : UInt8} {a : List UInt8} {i : Nat} (h : a.findIdx? (fun b => decide (b = c)) = some i) : i < a.length := by
  have := List.findIdx?_eq_some_iff_getElem.1 h
  exact this.1
theorem Q9B (a : List UInt8) (ha : a.length ≤ 140737488355328) (h : ∀ w', Below w.heap.size w w' → K (.tuple #[S (K9 a).1, S (K9 a).2.1, .bool (K9 a).2.2]) w') : Q1 P F.c3 [S a, S [46]] w K := Q1V (by
  unfold Fa
  refine Tm ?_
  unfold Mx
  refine Q7i a 46 ?_
  rw [Bj] at h
  unfold Tb
  cases hf : a.findIdx? (fun b => decide (b = 46)) with
  | none =>
    simp only [↓Mr, Mr, Mb, reduceIte, show decide ((0 : Int) ≤ -1) = false from rfl]
    have := h w (Below.refl _ _)
    rw [hf] at this; exact this
  | some i =>
    have hi := Q6V hf
    have h1 : decide ((0 : Int) ≤ (i : Int)) = true := by simp
    simp only [Pm, h1]
    simp only [↓Mr, Mr, Mb, reduceIte]
    refine Lq (Below.refl _ w) ?_
    refine X2 (S (a.take i)) (fun w1 _ => ?_) ?_
    · rw [I1 X7 (by omega) (by omega)]; exact X5 (by simp)
    refine X2 (I 1) (fun w1 _ => ?_) ?_
    · rw [D3 X7]; exact X5 rfl
    refine X2 (I (i + 1)) ?_ ?_
    · rintro _ w1 _ rfl
      rw [Sc, B6 (by omega) (by omega)]; exact X5 rfl
    refine X2 (S (a.drop (i + 1))) ?_ ?_
    · rintro _ w1 _ rfl
      rw [Vt X7 (by omega) (by omega)]; exact X5 (by simp)
    rintro _ _ _ _ w1 hb rfl rfl rfl rfl
    (try simp only [↓Mr, Mr, Mb, reduceIte])
    have := h w1 hb
    rw [hf] at this; exact this)
theorem Q7O (a : List UInt8) (ha : a.length ≤ 140737488355328) (h : ∀ w', Below w.heap.size w w' → K (if Qz a then .tuple #[S (K9 a).1, S (K9 a).2.1, I 0] else .tuple #[S [], S [], I 30]) w') : Q1 P F.c9 [S a] w K := Q30 (by
  unfold Kv
  refine Q9B a ha fun w1 hb1 => ?_
  have hl : (K9 a).1.length ≤ a.length ∧ (K9 a).2.1.length ≤ a.length := by
    rw [Bj]
    cases a.findIdx? (fun b => decide (b = 46)) <;> simp [Q0F]
    omega
  generalize hp : (K9 a).1 = p at h hl
  generalize hq : (K9 a).2.1 = q at h hl
  have hi : Qz a = ((K9 a).2.2 && L4 p && M7 q) := by rw [Qz, hp, hq]
  cases hd : (K9 a).2.2
  · simp only [↓Mr, Mr, Mb, reduceIte]
    have := h w1 hb1
    rw [hi, hd] at this; simpa using this
  · simp only [↓Mr, Mr, Mb, reduceIte]
    refine Ny p (by omega) fun w2 hb2 => ?_
    have hb12 := hb1.trans (hb2.mono hb1.size)
    cases hc : L4 p
    · (try simp only [↓Mr, Mr, Mb, reduceIte])
      have := h w2 hb12
      rw [hi, hd, hc] at this; simpa using this
    · (try simp only [↓Mr, Mr, Mb, reduceIte])
      refine Q2C q (by omega) fun w3 hb3 => ?_
      have hb13 := hb12.trans (hb3.mono hb12.size)
      have := h w3 hb13
      rw [hi, hd, hc] at this
      cases hn : name q
      · (try simp only [↓Mr, Mr, Mb, reduceIte])
        have hm : M7 q = false := by cases q with | nil => rfl | cons c r => simp [M7, hn]
        rw [hm] at this; simpa using this
      · (try simp only [↓Mr, Mr, Mb, reduceIte])
        cases q with
        | nil => simp [name] at hn
        | cons c r =>
          rw [T9 X7 (by omega) (by simp)]
          have hi0 : (c :: r)[(0 : Int).toNat]'(by simp) = c := rfl
          (try simp only [↓Mr, Mr, Mb, reduceIte])
          rw [hi0, Ar Q0X Q4n, w32 (by omega) (by have := c.toNat_lt; omega)]
          refine Q4x _ ?_
          have hm : M7 (c :: r) = G2 c.toNat := by simp [M7, hn]
          rw [hm] at this
          cases hs : G2 c.toNat <;> (try simp only [↓Mr, Mr, Mb, reduceIte]) <;> rw [hs] at this <;> simpa using this)
theorem Gx (a : List UInt8) (h : K (.bool (plain a)) w) : Q1 P F.ab [S a] w K := Sz (by
  unfold Vj
  refine V3 ?_
  (try simp only [↓Mr, Mr, Mb, reduceIte])
  cases h1 : decide (a = [105, 110, 116])
  · cases h2 : decide (a = [98, 111, 111, 108])
    · cases h3 : decide (a = [116, 101, 120, 116]) <;> (try simp only [↓Mr, Mr, Mb, reduceIte]) <;> intro _ <;> (try simp only [↓Mr, Mr, Mb, reduceIte]) <;> simpa [plain, h1, h2, h3] using h
    · (try simp only [↓Mr, Mr, Mb, reduceIte])
      intro _
      (try simp only [↓Mr, Mr, Mb, reduceIte])
      simpa [plain, h1, h2] using h
  · (try simp only [↓Mr, Mr, Mb, reduceIte])
    intro _
    (try simp only [↓Mr, Mr, Mb, reduceIte])
    simpa [plain, h1] using h)
def Q7t (a : List UInt8) (w : World) (x : Value) (w' : World) : Prop :=
  w = w' ∧ ∃ i : Nat, x = I i ∧ i ≤ a.length ∧ (0 < i → (a.head?.map fun c => R3 c.toNat) = some false) ∧ (a.take i).all (fun b => D9 b.toNat) = true
def Q2d (a : List UInt8) (x : Value) : Nat := match x with | .int _ i => a.length - i.toNat | _ => 0
theorem Q2M (a : List UInt8) (ha : a.length ≤ 140737488355328) (h : K (.bool (name a)) w) : Q1 P F.aH [S a] w K := Gq (by
  unfold Wy
  refine Jm (Q7t a w) (fun x _ => Q2d a x) ⟨rfl, 0, rfl, by omega, by omega, by simp⟩ ?_
  rintro _ _ _ ⟨rfl, i, rfl, hi, hd, hall⟩
  rw [D3 X7]
  (try simp only [↓Mr, Mr, Mb, reduceIte])
  by_cases hlt : i < a.length
  · have h1 : decide ((i : Int) < a.length) = true := by simp only [decide_eq_true_eq]; omega
    simp only [h1, ↓Mr, Mr, Mb, reduceIte]
    have hidx : ∀ K' : Value → World → Prop, E2 P T.b (S a) (I i) w K' = K' (.int .u8 (a[i]'hlt).toNat) w := fun K' => by
      rw [T9 X7 (by omega) (by simpa using hlt)]; simp
    generalize hc : a[i] = c at hidx
    have hfalse : D9 c.toNat = false ∨ (i = 0 ∧ R3 c.toNat = true) → name a = false := by
      intro ho
      cases a with
      | nil => rfl
      | cons c0 r =>
        simp only [name]
        rcases ho with ho | ⟨rfl, ho⟩
        · have : (c0 :: r).all (fun b => D9 b.toNat) = false := by
            rw [List.all_eq_false]
            exact ⟨c, by rw [← hc]; exact List.getElem_mem _, by simp [ho]⟩
          rw [this]; simp
        · simp only [List.getElem_cons_zero] at hc
          rw [hc, ho]; simp
    have hstep : D9 c.toNat = true → (i = 0 → R3 c.toNat = false) → Q7t a w (I (IntKind.i64.wrap ((i : Int) + 1))) w ∧ Q2d a (I (IntKind.i64.wrap ((i : Int) + 1))) < Q2d a (I i) := by
      intro ha1 hd1
      rw [B6 (by omega) (by omega)]
      refine ⟨⟨rfl, i + 1, by simp, by omega, fun _ => ?_, ?_⟩, by simp only [Q2d]; omega⟩
      · by_cases h0 : 0 < i
        · exact hd h0
        · obtain rfl : i = 0 := by omega
          cases a with
          | nil => simp at hlt
          | cons c0 r => simp only [List.getElem_cons_zero] at hc; subst hc; simp [hd1 rfl]
      · rw [List.take_add_one, List.getElem?_eq_getElem hlt, hc]
        simp [hall, ha1]
    have hc256 := c.toNat_lt
    have d0 : decide ((i : Int) = 0) = decide (i = 0) := by rw [Bool.eq_iff_iff]; simp
    by_cases c1 : 97 ≤ (c.toNat : Int)
    · by_cases c2 : (c.toNat : Int) ≤ 122
      · simp only [hidx, decide_eq_true c1, decide_eq_true c2, ↓Mr, Mr, Mb, reduceIte]
        exact hstep (by simp [D9, G2, c1, c2]) (fun _ => by simp [R3]; omega)
      · have c3 : (65 : Int) ≤ c.toNat := by omega
        have c4 : ¬ (c.toNat : Int) ≤ 90 := by omega
        have c5 : ¬ (c.toNat : Int) < 48 := by omega
        have c6 : (57 : Int) < c.toNat := by omega
        simp only [hidx, decide_eq_true c1, decide_eq_false c2, decide_eq_true c3, decide_eq_false c4, decide_eq_false c5, decide_eq_true c6, d0, ↓Mr, Mr, Mb, reduceIte]
        have hn := hfalse (.inl (by simp [D9, P4, G2, R3]; omega))
        rw [hn] at h
        cases decide (i = 0) <;> (try simp only [hidx, decide_eq_false c5, decide_eq_true c6, ↓Mr, Mr, Mb, reduceIte]) <;> exact h
    · by_cases c3 : (65 : Int) ≤ c.toNat
      · by_cases c4 : (c.toNat : Int) ≤ 90
        · simp only [hidx, decide_eq_false c1, decide_eq_true c3, decide_eq_true c4, ↓Mr, Mr, Mb, reduceIte]
          exact hstep (by simp [D9, P4, c3, c4]) (fun _ => by simp [R3]; omega)
        · have c5 : ¬ (c.toNat : Int) < 48 := by omega
          have c6 : (57 : Int) < c.toNat := by omega
          simp only [hidx, decide_eq_false c1, decide_eq_true c3, decide_eq_false c4, decide_eq_false c5, decide_eq_true c6, d0, ↓Mr, Mr, Mb, reduceIte]
          have hn := hfalse (.inl (by simp [D9, P4, G2, R3]; omega))
          rw [hn] at h
          cases decide (i = 0) <;> (try simp only [hidx, decide_eq_false c5, decide_eq_true c6, ↓Mr, Mr, Mb, reduceIte]) <;> exact h
      · by_cases c5 : (c.toNat : Int) < 48
        · simp only [hidx, decide_eq_false c1, decide_eq_false c3, decide_eq_true c5, d0, ↓Mr, Mr, Mb, reduceIte]
          have hn := hfalse (.inl (by simp [D9, P4, G2, R3]; omega))
          rw [hn] at h
          cases decide (i = 0) <;> (try simp only [hidx, decide_eq_true c5, ↓Mr, Mr, Mb, reduceIte]) <;> exact h
        · by_cases c6 : (57 : Int) < c.toNat
          · simp only [hidx, decide_eq_false c1, decide_eq_false c3, decide_eq_false c5, decide_eq_true c6, d0, ↓Mr, Mr, Mb, reduceIte]
            have hn := hfalse (.inl (by simp [D9, P4, G2, R3]; omega))
            rw [hn] at h
            cases decide (i = 0) <;> (try simp only [hidx, decide_eq_false c5, decide_eq_true c6, ↓Mr, Mr, Mb, reduceIte]) <;> exact h
          · have hdg : R3 c.toNat = true := by simp [R3]; omega
            simp only [hidx, decide_eq_false c1, decide_eq_false c3, decide_eq_false c5, decide_eq_false c6, d0, ↓Mr, Mr, Mb, reduceIte]
            by_cases h0 : i = 0
            · have hn := hfalse (.inr ⟨h0, hdg⟩)
              rw [hn] at h
              simp only [decide_eq_true h0, hidx, decide_eq_false c5, decide_eq_false c6, ↓Mr, Mr, Mb, reduceIte]
              exact h
            · simp only [decide_eq_false h0, hidx, decide_eq_false c5, decide_eq_false c6, ↓Mr, Mr, Mb, reduceIte]
              exact hstep (by simp [D9, hdg]) (fun h => absurd h h0)
  · have h1 : decide ((i : Int) < a.length) = false := by simp only [decide_eq_false_iff_not]; omega
    obtain rfl : i = a.length := by omega
    simp only [h1, ↓Mr, Mr, Mb, reduceIte]
    rw [D3 X7]
    cases a with
    | nil =>
      have h2 : decide ((1 : Int) ≤ (([] : List UInt8).length : Int)) = false := rfl
      simp only [h2, ↓Mr, Mr, Mb, reduceIte]; exact h
    | cons c r =>
      have h2 : decide ((1 : Int) ≤ ((c :: r).length : Int)) = true := by simp only [decide_eq_true_eq, List.length_cons]; omega
      have hd' := hd (by simp)
      simp only [List.head?_cons, Option.map_some, Option.some.injEq] at hd'
      simp only [List.take_length] at hall
      have hnm : name (c :: r) = decide ((c :: r).length ≤ 32) := by simp only [name, hd', hall]; simp
      have h3 : decide (((c :: r).length : Int) ≤ 32) = decide ((c :: r).length ≤ 32) := by rw [Bool.eq_iff_iff]; simp only [decide_eq_true_eq]; omega
      simp only [h2, D3 X7, h3, ↓Mr, Mr, Mb, reduceIte]
      rw [← hnm]; exact h)
theorem Cz {c : UInt8} {r : List UInt8} (h : name (c :: r) = true) : D9 c.toNat = true ∧ R3 c.toNat = false := by
  simp only [name, Bool.and_eq_true, List.all_cons, Bool.not_eq_true'] at h
  exact ⟨h.2.1, h.1.2⟩
theorem A5 (a : List UInt8) (ha : a.length ≤ 140737488355328) (h : K (.bool (L4 a)) w) : Q1 P F.e [S a] w K := Cw (by
  unfold Vp
  refine Q2M a ha ?_
  cases a with
  | nil => simp only [name, ↓Mr, Mr, Mb, reduceIte]; exact h
  | cons c r =>
    cases hn : name (c :: r)
    · (try simp only [↓Mr, Mr, Mb, reduceIte])
      simpa [L4, hn] using h
    · (try simp only [↓Mr, Mr, Mb, reduceIte])
      rw [T9 X7 (by omega) (by simp)]
      have hi0 : (c :: r)[(0 : Int).toNat]'(by simp) = c := rfl
      (try simp only [↓Mr, Mr, Mb, reduceIte])
      rw [hi0]
      obtain ⟨h1, h2⟩ := Cz hn
      have : decide ((c.toNat : Int) ≤ 90) = P4 c.toNat := by
        simp only [D9, P4, G2, R3, Bool.or_eq_true, Bool.and_eq_true, Bool.and_eq_false_iff, decide_eq_true_eq, decide_eq_false_iff_not] at h1 h2 ⊢
        rw [Bool.eq_iff_iff]; simp only [Bool.and_eq_true, decide_eq_true_eq]; omega
      rw [this]
      simpa [L4, hn] using h)
theorem Sk (a : List UInt8) (ha : a.length ≤ 140737488355328) (h : K (.bool (M7 a)) w) : Q1 P F.q [S a] w K := Rn (by
  unfold Jw
  refine Q2M a ha ?_
  cases a with
  | nil => simp only [name, ↓Mr, Mr, Mb, reduceIte]; exact h
  | cons c r =>
    cases hn : name (c :: r)
    · (try simp only [↓Mr, Mr, Mb, reduceIte])
      simpa [M7, hn] using h
    · (try simp only [↓Mr, Mr, Mb, reduceIte])
      rw [T9 X7 (by omega) (by simp)]
      have hi0 : (c :: r)[(0 : Int).toNat]'(by simp) = c := rfl
      (try simp only [↓Mr, Mr, Mb, reduceIte])
      rw [hi0]
      obtain ⟨h1, h2⟩ := Cz hn
      have : decide ((97 : Int) ≤ c.toNat) = G2 c.toNat := by
        simp only [D9, P4, G2, R3, Bool.or_eq_true, Bool.and_eq_true, Bool.and_eq_false_iff, decide_eq_true_eq, decide_eq_false_iff_not] at h1 h2 ⊢
        rw [Bool.eq_iff_iff]; simp only [Bool.and_eq_true, decide_eq_true_eq]; omega
      rw [this]
      simpa [M7, hn] using h)
def Q9k (a : List UInt8) (w : World) (x : Value × Value) (w' : World) : Prop :=
  w = w' ∧ ∃ (b : List UInt8) (n : Nat), x = (S b, I n) ∧ b.length + 2 * n = a.length ∧ (V8 a).2 = (V8 b).2 + n
def Q7o (x : Value × Value) : Nat := match x.1 with | .string s => s.size | _ => 0
theorem Q00 (a : List UInt8) (ha : a.length ≤ 140737488355328) (h : K (I (V8 a).2) w) : Q1 P F.aj [S a] w K := Gp (by
  unfold Lh
  refine Jm (Q9k a w) (fun x _ => Q7o x) ⟨rfl, a, 0, rfl, by omega, rfl⟩ ?_
  rintro _ _ _ ⟨rfl, b, n, rfl, hl, he⟩
  rw [D3 X7]
  (try simp only [↓Mr, Mr, Mb, reduceIte])
  by_cases h2 : 2 ≤ b.length
  · have h1 : decide ((2 : Int) ≤ b.length) = true := by simp only [decide_eq_true_eq]; omega
    simp only [h1, D3 X7, ↓Mr, Mr, Mb, reduceIte]
    rw [B6 (by omega) (by omega), Vt X7 (by omega) (by omega)]
    rw [show ((b.length : Int) - 2).toNat = b.length - 2 from by omega]
    have hb : decide (b.drop (b.length - 2) = [91, 93]) = D6 b := by simp [D6, h2]
    simp only [hb, ↓Mr, Mr, Mb, reduceIte]
    cases hc : D6 b
    · (try simp only [↓Mr, Mr, Mb, reduceIte])
      rw [Za b, hc] at he
      simp only [Bool.false_eq_true, if_false, Nat.zero_add] at he
      rw [he] at h; exact h
    · (try simp only [D3 X7, ↓Mr, Mr, Mb, reduceIte])
      rw [I1 X7 (by omega) (by omega)]
      rw [show ((b.length : Int) - 2).toNat = b.length - 2 from by omega]
      have hcl := K4 hc
      refine ⟨⟨rfl, Kd.O6 b, n + 1, ?_, by omega, ?_⟩, ?_⟩
      · simp only [Kd.O6, Prod.mk.injEq, true_and]
        first | rfl | (rw [B6 (by omega) (by omega)]; rfl)
      · rw [he, Za b, hc]; simp; omega
      · simp only [Q7o, S5, List.length_take]; omega
  · have h1 : decide ((2 : Int) ≤ b.length) = false := by simp only [decide_eq_false_iff_not]; omega
    simp only [h1, ↓Mr, Mr, Mb, reduceIte]
    have hc : D6 b = false := by simp [D6, h2]
    rw [Za b, hc] at he
    simp only [Bool.false_eq_true, if_false, Nat.zero_add] at he
    rw [he] at h; exact h)
theorem Q1m (a : List UInt8) : a.take (a.length - 2 * (V8 a).2) = (V8 a).1 := by
  have key : ∀ n (a : List UInt8), a.take (a.length - 2 * (Qg n a).2) = (Qg n a).1 := by
    intro n
    induction n with
    | zero => intro a; simp [Qg]
    | succ n ih =>
      intro a
      simp only [Qg]
      split
      · rename_i h
        have hc := K4 h
        simp only
        rw [← ih (Kd.O6 a)]
        rw [Kd.O6, List.take_take, List.length_take]
        congr 1
        omega
      · simp
  exact key _ a
theorem Jt (a : List UInt8) (ha : a.length ≤ 140737488355328) (h : K (.bool (right a)) w) : Q1 P F.i [S a] w K := Cs (by
  unfold Vl
  have hbl := Py a
  refine Q00 a ha ?_
  rw [D3 X7]
  (try simp only [↓Mr, Mr, Mb, reduceIte])
  rw [B6 (n := 2 * ((V8 a).2 : Int)) (by omega) (by omega), B6 (by omega) (by omega), I1 X7 (by omega) (by omega)]
  rw [show ((a.length : Int) - 2 * ((V8 a).2 : Int)).toNat = a.length - 2 * (V8 a).2 from by omega, Q1m]
  (try simp only [↓Mr, Mr, Mb, reduceIte])
  by_cases hn : (V8 a).2 ≤ 3
  · have h1 : decide (((V8 a).2 : Int) ≤ 3) = true := by simp only [decide_eq_true_eq]; omega
    simp only [h1, ↓Mr, Mr, Mb, reduceIte]
    refine Gx _ ?_
    cases hp : plain (V8 a).1
    · (try simp only [↓Mr, Mr, Mb, reduceIte])
      refine A5 _ (by omega) ?_
      (try simp only [↓Mr, Mr, Mb, reduceIte])
      simpa [right, hn, hp] using h
    · (try simp only [↓Mr, Mr, Mb, reduceIte])
      simpa [right, hn, hp] using h
  · have h1 : decide (((V8 a).2 : Int) ≤ 3) = false := by simp only [decide_eq_false_iff_not]; omega
    simp only [h1, ↓Mr, Mr, Mb, reduceIte]
    simpa [right, hn] using h)
def Q9c (a : List UInt8) (w : World) (x : Value) (w' : World) : Prop :=
  w = w' ∧ ∃ n : Nat, x = I n ∧ n ≤ a.length ∧ (∀ i, (h : i < n) → (h' : i < a.length) → a[i] ≠ 46)
def Q60 (a : List UInt8) (x : Value) : Nat := match x with | .int _ n => (a.length - n).toNat | _ => 0
theorem Q1F (a : List UInt8) (ha : a.length ≤ 140737488355328) (h : ∀ w', Below w.heap.size w w' → K (if (K9 a).2.2 then .tuple #[S (K9 a).1, S (K9 a).2.1, .bool (Qz a)] else .tuple #[S [], S [], .bool false]) w') : Q1 P F.bd [S a] w K := Cq (by
  unfold Va
  refine Jm (Q9c a w) (fun x _ => Q60 a x) ⟨rfl, 0, rfl, by omega, by omega⟩ ?_
  rintro _ _ _ ⟨rfl, n, rfl, hn, hb⟩
  rw [D3 X7]
  (try simp only [↓Mr, Mr, Mb, reduceIte])
  by_cases h2 : n < a.length
  · have h1 : decide ((n : Int) < a.length) = true := by simp only [decide_eq_true_eq]; omega
    simp only [h1, ↓Mr, Mr, Mb, reduceIte]
    rw [T9 X7 (by omega) (by omega)]
    (try simp only [↓Mr, Mr, Mb, reduceIte])
    simp only [Int.toNat_natCast]
    have hc : decide (((a[n]).toNat : Int) = 46) = decide (a[n] = 46) := by
      rw [Bool.eq_iff_iff]; simp only [decide_eq_true_eq]
      constructor
      · intro e; exact UInt8.toNat_inj.1 (by have : (46 : UInt8).toNat = 46 := rfl; omega)
      · intro e; rw [e]; rfl
    rw [hc]
    by_cases he : a[n] = 46
    · simp only [he, decide_true, ↓Mr, Mr, Mb, reduceIte]
      have hd : K9 a = (a.take n, a.drop (n + 1), true) := by
        have : a.findIdx? (fun b => decide (b = 46)) = some n := by
          rw [List.findIdx?_eq_some_iff_getElem]
          exact ⟨h2, by simpa using he, fun j hj => by simpa using hb j hj (by omega)⟩
        rw [Bj, this]; rfl
      have hip : Qz a = (L4 (a.take n) && M7 (a.drop (n + 1))) := by simp [Qz, hd]
      rw [hd, hip] at h
      have hn1 : ((n : Int) + 1).toNat = n + 1 := by omega
      have hpl : (a.take n).length ≤ 140737488355328 := by simp only [List.length_take]; omega
      have hql : (a.drop (n + 1)).length ≤ 140737488355328 := by simp only [List.length_drop]; omega
      have A1 : ∀ {w : World} {K : Value → World → Prop}, K (S (a.take n)) w → R7 P T.b (S a) none (some (I n)) none w K := by
        intro w K h
        rw [I1 X7 (by omega) (by omega), show ((n : Int)).toNat = n from by omega]; exact h
      have A2 : ∀ {w : World} {K : Value → World → Prop}, K (S (a.drop (n + 1))) w → R7 P T.b (S a) (some (I (n + 1))) none none w K := by
        intro w K h
        rw [Vt X7 (by omega) (by omega), hn1]; exact h
      refine Lq (Below.refl _ _) ?_
      refine X2 (S (a.take n)) (fun w hw => A1 (X5 rfl)) ?_
      refine X2 (I (n + 1)) (fun w hw => X5 (by rw [B6 (by omega) (by omega)])) ?_
      refine X2 (S (a.drop (n + 1))) (fun t w hw e => by rw [e]; exact A2 (X5 rfl)) ?_
      refine X2 (S (a.take n)) (fun w hw => A1 (X5 rfl)) ?_
      refine X2 (.bool (L4 (a.take n))) (fun t w hw e => by rw [e]; exact A5 _ hpl (X5 rfl)) ?_
      cases hcl : L4 (a.take n)
      · refine X2 undef (fun t w hw e => by rw [e, Zz]; exact X5 rfl) ?_
        refine X2 undef (fun t w hw e => by rw [e, Zz]; exact X5 rfl) ?_
        refine X2 undef (fun t t' w hw e e' => by rw [e, Zz]; exact X5 rfl) ?_
        refine X2 undef (fun t t' t'' w hw e e' e'' => by rw [e, Zz]; exact X5 rfl) ?_
        refine X2 undef (fun t t' w hw e e' => by rw [e, Zz]; exact X5 rfl) ?_
        refine X2 (.bool false) (fun t t' w hw e e' => by rw [e, Nq]; exact X5 rfl) ?_
        rintro _ _ _ _ _ _ _ _ _ _ _ w1 hw rfl rfl rfl rfl rfl rfl rfl rfl rfl rfl rfl
        rw [hcl] at h
        exact h w1 (by simpa using hw)
      · refine X2 (S a) (fun t w hw e => by rw [e, F2]; exact X5 rfl) ?_
        refine X2 (I n) (fun t w hw e => by rw [e, F2]; exact X5 rfl) ?_
        refine X2 (I (n + 1)) (fun t t' w hw e e' => by rw [e, e', F2]; simp only [↓Mr, Mr, Mb, reduceIte]; exact X5 (by rw [B6 (by omega) (by omega)])) ?_
        refine X2 (S (a.drop (n + 1))) (fun t t' t'' w hw e e' e'' => by rw [e, e', e'', F2]; exact A2 (X5 rfl)) ?_
        refine X2 (.bool (M7 (a.drop (n + 1)))) (fun t t' w hw e e' => by rw [e, e', F2]; exact Sk _ hql (X5 rfl)) ?_
        refine X2 (.bool (M7 (a.drop (n + 1)))) (fun t t' w hw e e' => by rw [e, e', Et]; exact X5 rfl) ?_
        rintro _ _ _ _ _ _ _ _ _ _ _ w1 hw rfl rfl rfl rfl rfl rfl rfl rfl rfl rfl rfl
        rw [hcl] at h
        exact h w1 (by simpa using hw)
    · simp only [he, decide_false, ↓Mr, Mr, Mb, reduceIte]
      rw [B6 (by omega) (by omega)]
      refine ⟨⟨rfl, n + 1, rfl, by omega, fun i hi h' => ?_⟩, ?_⟩
      · by_cases hin : i = n
        · subst hin; exact he
        · exact hb i (by omega) h'
      · simp only [Q60]; omega
  · have h1 : decide ((n : Int) < a.length) = false := by simp only [decide_eq_false_iff_not]; omega
    simp only [h1, ↓Mr, Mr, Mb, reduceIte]
    have hd : (K9 a).2.2 = false ∧ (K9 a).1 = a ∧ (K9 a).2.1 = [] := by
      have : a.findIdx? (fun b => decide (b = 46)) = none := by
        rw [List.findIdx?_eq_none_iff]
        intro x hx
        obtain ⟨i, hi, rfl⟩ := List.getElem_of_mem hx
        simpa using hb i (by omega) hi
      rw [Bj, this]; exact ⟨rfl, rfl, rfl⟩
    rw [hd.1] at h
    exact h w (Below.refl _ _))
end Go.Proofs.YtdnfaboigajkhaaGreatDoor
