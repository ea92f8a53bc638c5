/- Parts of a proof about the given program: its functions as texts of their own, what each computes, plain laws of that. The conditions of each stand in its statement. -/
import Derived.Test.YtdnfaboigajkhaaGreatDoorB1
import Derived.Below
import Derived.Maps.AppendAt
set_option linter.unnecessarySimpa false
set_option linter.defProp false
set_option linter.unusedSectionVars false
set_option linter.unusedVariables false
set_option linter.unusedSimpArgs false
set_option maxRecDepth 100000
namespace Go.Proofs.YtdnfaboigajkhaaGreatDoor
open Go.Emb
def Hn : W3 := [none, none, none, none, none, some ([26], [6, 8, 11, 12, 13, 26, 27, 28, 29, 30, 31, 32, 33, 34, 35, 36, 37, 38, 39, 40]), none, none, none, none, none, none, none, none, none, some ([43], [6, 8, 15, 16, 17, 18, 43, 44, 45, 46, 47, 48, 49, 50, 51, 52, 53, 54, 55, 56, 57, 58]), none, none, none, none, none, none, none, none]
def Jw (a0 a1 a2 : Value) (w : World) (K : Value → World → Prop) : Prop :=
 M5 P T.b w fun t7 w =>
 Q1 P F.aF [a0, a1] w fun t21 w =>
 Q1 P F.n [t21] w fun t23 w =>
 X4 P .len [T.g] T.d [false] [t21] w fun t25 w =>
 lp (α := Value) (.int .i64 0) w fun again5 x5 d_ w =>
 Q3 P .lss T.d (.tmp 26) (.tmp 25) x5 t25 w fun t27 w =>
 X1 t27 (
 indexAddr P T.g t21 x5 w fun t28 w =>
 Q2 P T.a t28 w fun t29 w =>
 M5 P T.a w fun v_c_11 w =>
 V7 P T.a v_c_11 t29 w fun _u w =>
 Q2 P T.a v_c_11 w fun t31 w =>
 Q1 P F.c1 [t31, a2] w fun t33 w =>
 ext P t33 0 w fun t34 w =>
 ext P t33 1 w fun t35 w =>
 M5 P T.b w fun v_m_12 w =>
 V7 P T.b v_m_12 t34 w fun _u w =>
 X1 t35 (
 dr w fun Tr Br =>
 Q7 Tr (fun φ37 => ∀ w, Br w → fieldAddr P T.a v_c_11 0 w (dk Tr φ37 w)) fun φ37 =>
 Q7 Tr (fun φ38 => ∀ t37 w, Br w → φ37 t37 w → Q2 P T.c t37 w (dk Tr φ38 w)) fun φ38 =>
 Q7 Tr (fun φ39 => ∀ w, Br w → Q2 P T.b v_m_12 w (dk Tr φ39 w)) fun φ39 =>
 ∀ t37 t38 t39 w, Br w → φ37 t37 w → φ38 t38 w → φ39 t39 w → 
 V7 P T.b t7 t39 w fun _u w =>
 O6 P T.b t7 w fun r1 =>
 K (.tuple #[t38, r1, (.bool true)]) w) (
 Q3 P .add T.d (.tmp 26) (.const (.int .i64 1)) x5 (.int .i64 1) w fun t40 w =>
 again5 t40 w)) (
 X4 P .len [T.g] T.d [false] [t21] w fun t42 w =>
 lp (α := Value) (.int .i64 0) w fun again15 x15 d_ w =>
 Q3 P .lss T.d (.tmp 43) (.tmp 42) x15 t42 w fun t44 w =>
 X1 t44 (
 indexAddr P T.g t21 x15 w fun t45 w =>
 Q2 P T.a t45 w fun t46 w =>
 M5 P T.a w fun v_c_15 w =>
 V7 P T.a v_c_15 t46 w fun _u w =>
 Q2 P T.a v_c_15 w fun t49 w =>
 Q1 P F.aG [a0, t49, a2] w fun t51 w =>
 ext P t51 0 w fun t52 w =>
 ext P t51 1 w fun t53 w =>
 ext P t51 2 w fun t54 w =>
 M5 P T.b w fun v_m_17 w =>
 V7 P T.b v_m_17 t53 w fun _u w =>
 X1 t54 (
 dr w fun Tr Br =>
 Q7 Tr (fun φ57 => ∀ w, Br w → Q2 P T.b v_m_17 w (dk Tr φ57 w)) fun φ57 =>
 ∀ t57 w, Br w → φ57 t57 w → 
 V7 P T.b t7 t57 w fun _u w =>
 O6 P T.b t7 w fun r1 =>
 K (.tuple #[t52, r1, (.bool true)]) w) (
 Q3 P .add T.d (.tmp 43) (.const (.int .i64 1)) x15 (.int .i64 1) w fun t58 w =>
 again15 t58 w)) (
 Qu P T.b [] w fun t59 w =>
 V7 P T.b t7 t59 w fun _u w =>
 O6 P T.b t7 w fun r1 =>
 K (.tuple #[(.string ⟨#[]⟩), r1, (.bool false)]) w))
theorem Ry {a0 a1 a2 : Value} {w : World} {K : Value → World → Prop} (h : Jw a0 a1 a2 w K) : Q1 P F.aw [a0, a1, a2] w K := Q9 Hn Tryz.func26 rfl (by decide) (by kernel_rfl) h
def K8 (a0 a1 : Value) (w : World) (K : Value → World → Prop) : Prop :=
 nilCheck P a0 w fun t7 w =>
 indexAddr P T.a1 t7 a1 w fun t8 w =>
 Q2 P T.m t8 w fun t9 w =>
 K t9 w
theorem Wl {a0 a1 : Value} {w : World} {K : Value → World → Prop} (h : K8 a0 a1 w K) : Q1 P F.ar [a0, a1] w K := Q9 (List.replicate 2 none) Tryz.func129 rfl (by decide) (by kernel_rfl) h
def Oj : W3 := [none, some ([0], [0, 5, 6, 7, 8, 9, 10, 11, 12, 13, 14, 15, 16, 17, 18, 19, 20]), some ([0], [0, 5, 6, 7, 8, 9, 10, 11, 12, 13, 14, 15, 16, 17, 18, 19, 20]), none, none, none, none, none]
def Xz (a0 a1 : Value) (w : World) (K : Value → World → Prop) : Prop :=
 jn (α := Value) w (fun J1 w =>
 lp (α := Value) a0 w fun again2 x2 d_ w =>
 X4 P .len [T.c] T.d [false] [x2] w fun t6 w =>
 Q3 P .gtr T.d (.tmp 6) (.const (.int .i64 0)) t6 (.int .i64 0) w fun t7 w =>
 X1 t7 (
 X4 P .len [T.c] T.d [false] [x2] w fun t11 w =>
 Q3 P .sub T.d (.tmp 11) (.const (.int .i64 1)) t11 (.int .i64 1) w fun t12 w =>
 E3 P T.c x2 t12 w fun t13 w =>
 Q1 P F.ar [a1, t13] w fun t14 w =>
 V1 P .not t14 w fun t15 w =>
 X1 t15 (
 J1 x2 w) (
 X4 P .len [T.c] T.d [false] [x2] w fun t18 w =>
 Q3 P .sub T.d (.tmp 18) (.const (.int .i64 1)) t18 (.int .i64 1) w fun t19 w =>
 R5 P T.c x2 none (some t19) none w fun t20 w =>
 again2 t20 w)) (
 J1 x2 w)) fun z1 d_ w =>
 K z1 w
theorem Nx {a0 a1 : Value} {w : World} {K : Value → World → Prop} (h : Xz a0 a1 w K) : Q1 P F.ah [a0, a1] w K := Q9 Oj Tryz.func95 rfl (by decide) (by kernel_rfl) h
def Lc (a0 a1 : Value) (w : World) (K : Value → World → Prop) : Prop :=
 Q3 P .eql T.c (.tmp 7) (.const (.string ⟨#[]⟩)) a0 (.string ⟨#[]⟩) w fun t8 w =>
 Q0 t8 false w (fun w J => J a1 w) fun t10 w =>
 Q0 t8 false w (Q3 P .eql T.c (.tmp 10) (.const (.string ⟨#[]⟩)) t10 (.string ⟨#[]⟩)) fun t11 w =>
 pick P t8 (.bool true) t11 w fun t12 w =>
 X1 t12 (
 K a0 w) (
 X4 P .len [T.c] T.d [false] [a1] w fun t15 w =>
 Q3 P .eql T.d (.tmp 15) (.const (.int .i64 1)) t15 (.int .i64 1) w fun t16 w =>
 Q0 t16 true w (fun w J => J a1 w) fun t18 w =>
 Q0 t16 true w (E3 P T.c t18 (.int .i64 0)) fun t19 w =>
 Q0 t16 true w (Q3 P .lss T.s (.tmp 19) (.const (.int .u8 128)) t19 (.int .u8 128)) fun t20 w =>
 pick P t16 t20 (.bool false) w fun t21 w =>
 X1 t21 (
 E3 P T.c a1 (.int .i64 0) w fun t24 w =>
 Q1 P F.cg [a0, t24] w fun t25 w =>
 K t25 w) (
 Q1 P F.bK [a1] w fun t28 w =>
 ext P t28 0 w fun t29 w =>
 ext P t28 1 w fun t30 w =>
 M5 P T.a1 w fun v_as_5 w =>
 V7 P T.a1 v_as_5 t29 w fun _u w =>
 X1 t30 (
 Q1 P F.ah [a0, v_as_5] w fun t33 w =>
 K t33 w) (
 Q1 P F.ce [a0, a1] w fun t36 w =>
 K t36 w)))
theorem Fj {a0 a1 : Value} {w : World} {K : Value → World → Prop} (h : Lc a0 a1 w K) : Q1 P F.bf [a0, a1] w K := Q9 (List.replicate 12 none) Tryz.func57 rfl (by decide) (by kernel_rfl) h
def Wn (a0 a1 : Value) (w : World) (K : Value → World → Prop) : Prop :=
 Q3 P .eql T.c (.tmp 6) (.const (.string ⟨#[110, 117, 108, 108]⟩)) a1 (.string ⟨#[110, 117, 108, 108]⟩) w fun t7 w =>
 X1 t7 (
 K (.bool true) w) (
 Q1 P F.bf [a1, (.string ⟨#[91, 93]⟩)] w fun t9 w =>
 Q1 P F.a0 [a1] w fun t11 w =>
 Q0 t11 true w (fun w J => J t9 w) fun t13 w =>
 Q0 t11 true w (Q1 P F.ab [t13]) fun t14 w =>
 Q0 t11 true w (fun w J => J t14 w) fun t15 w =>
 Q0 t15 false w (fun w J => J a0 w) fun t16 w =>
 Q0 t15 false w (fun w J => J t9 w) fun t17 w =>
 Q0 t15 false w (Q1 P F.f [t16, t17]) fun t18 w =>
 Q0 t11 true w (pick P t15 (.bool true) t18) fun t19 w =>
 pick P t11 t19 (.bool false) w fun t20 w =>
 K t20 w)
theorem Ga {a0 a1 : Value} {w : World} {K : Value → World → Prop} (h : Wn a0 a1 w K) : Q1 P F.v [a0, a1] w K := Q9 (List.replicate 6 none) Tryz.func18 rfl (by decide) (by kernel_rfl) h
def Xw (a0 a1 : Value) (w : World) (K : Value → World → Prop) : Prop :=
 Q3 P .neq T.c (.tmp 4) (.const (.string ⟨#[110, 117, 108, 108]⟩)) a0 (.string ⟨#[110, 117, 108, 108]⟩) w fun t5 w =>
 Q0 t5 true w (Q2 P T.p a1) fun t7 w =>
 Q0 t5 true w (fun w J => J a0 w) fun t8 w =>
 Q0 t5 true w (Q1 P F.v [t7, t8]) fun t9 w =>
 pick P t5 t9 (.bool false) w fun t10 w =>
 K t10 w
theorem Dk {a0 a1 : Value} {w : World} {K : Value → World → Prop} (h : Xw a0 a1 w K) : Q1 P F.af [a0, a1] w K := Q9 (List.replicate 2 none) Tryz.func83 rfl (by decide) (by kernel_rfl) h
def Yr (a0 a1 : Value) (w : World) (K : Value → World → Prop) : Prop :=
 Q2 P T.u a1 w fun t4 w =>
 Z6 P t4 [a0] w fun t6 w =>
 V1 P .not t6 w fun t7 w =>
 K t7 w
theorem Oo {a0 a1 : Value} {w : World} {K : Value → World → Prop} (h : Yr a0 a1 w K) : Q1 P F.ag [a0, a1] w K := Q9 (List.replicate 2 none) Tryz.func84 rfl (by decide) (by kernel_rfl) h
def Gv (a0 : Value) (w : World) (K : Value → World → Prop) : Prop :=
 box P T.b a0 w fun v_m_1 w =>
 dr w fun Tr Br =>
 Q7 Tr (fun φ3 => ∀ w, Br w → fieldAddr P T.b v_m_1 1 w (dk Tr φ3 w)) fun φ3 =>
 Q7 Tr (fun φ8 => ∀ w, Br w → fieldAddr P T.b v_m_1 2 w (dk Tr φ8 w)) fun φ8 =>
 Q7 Tr (fun φ4 => ∀ t3 w, Br w → φ3 t3 w → Q2 P T.f t3 w (dk Tr φ4 w)) fun φ4 =>
 Q7 Tr (fun φ5 => ∀ t4 w, Br w → φ4 t4 w → Q1 P F.cd [t4, (.string ⟨#[44]⟩)] w (dk Tr φ5 w)) fun φ5 =>
 Q7 Tr (fun φ6 => ∀ t5 w, Br w → φ5 t5 w → Q3 P .add T.c (.const (.string ⟨#[40]⟩)) (.tmp 5) (.string ⟨#[40]⟩) t5 w (dk Tr φ6 w)) fun φ6 =>
 Q7 Tr (fun φ7 => ∀ t6 w, Br w → φ6 t6 w → Q3 P .add T.c (.tmp 6) (.const (.string ⟨#[41]⟩)) t6 (.string ⟨#[41]⟩) w (dk Tr φ7 w)) fun φ7 =>
 Q7 Tr (fun φ9 => ∀ t8 w, Br w → φ8 t8 w → Q2 P T.c t8 w (dk Tr φ9 w)) fun φ9 =>
 ∀ t3 t8 t4 t5 t6 t7 t9 w, Br w → φ3 t3 w → φ8 t8 w → φ4 t4 w → φ5 t5 w → φ6 t6 w → φ7 t7 w → φ9 t9 w → 
 Q3 P .add T.c (.tmp 7) (.tmp 9) t7 t9 w fun t10 w =>
 K t10 w
theorem Q2A {a0 : Value} {w : World} {K : Value → World → Prop} (h : Gv a0 w K) : Q1 P F.bI [a0] w K := Q9 (List.replicate 2 none) Tryz.func33 rfl (by decide) (by kernel_rfl) h
def Qp (a0 a1 a2 a3 : Value) (w : World) (K : Value → World → Prop) : Prop :=
 box P T.b a0 w fun v_m_4 w =>
 Q2 P T.o a1 w fun t9 w =>
 fieldAddr P T.b v_m_4 0 w fun t10 w =>
 Q2 P T.c t10 w fun t11 w =>
 lookup P T.o t9 t11 true w fun t12 w =>
 ext P t12 0 w fun t13 w =>
 ext P t12 1 w fun t14 w =>
 dr w fun Tr Br =>
 Q7 Tr (fun φ16 => ∀ w, Br w → fieldAddr P T.b v_m_4 0 w (dk Tr φ16 w)) fun φ16 =>
 Q7 Tr (fun φ19 => ∀ w, Br w → fieldAddr P T.b v_m_4 0 w (dk Tr φ19 w)) fun φ19 =>
 Q7 Tr (fun φ23 => ∀ w, Br w → fieldAddr P T.a a2 0 w (dk Tr φ23 w)) fun φ23 =>
 Q7 Tr (fun φ15 => ∀ w, Br w → Q2 P T.o a1 w (dk Tr φ15 w)) fun φ15 =>
 Q7 Tr (fun φ17 => ∀ t16 w, Br w → φ16 t16 w → Q2 P T.c t16 w (dk Tr φ17 w)) fun φ17 =>
 Q7 Tr (fun φ18 => ∀ w, Br w → Q2 P T.o a3 w (dk Tr φ18 w)) fun φ18 =>
 Q7 Tr (fun φ20 => ∀ t19 w, Br w → φ19 t19 w → Q2 P T.c t19 w (dk Tr φ20 w)) fun φ20 =>
 Q7 Tr (fun φ21 => ∀ w, Br w → Q2 P T.b v_m_4 w (dk Tr φ21 w)) fun φ21 =>
 Q7 Tr (fun φ22 => ∀ t21 w, Br w → φ21 t21 w → Q1 P F.bI [t21] w (dk Tr φ22 w)) fun φ22 =>
 Q7 Tr (fun φ24 => ∀ t23 w, Br w → φ23 t23 w → Q2 P T.c t23 w (dk Tr φ24 w)) fun φ24 =>
 Q7 Tr (fun φ25 => ∀ t15 t17 w, Br w → φ15 t15 w → φ17 t17 w → mapEntry P T.o t15 t17 w (dk Tr φ25 w)) fun φ25 =>
 Q7 Tr (fun φ26 => ∀ t25 w, Br w → φ25 t25 w → ext P t25 1 w (dk Tr φ26 w)) fun φ26 =>
 Q7 Tr (fun φ_12 => ∀ t15 t26 t22 w, Br w → φ15 t15 w → φ26 t26 w → φ22 t22 w → entryStore P T.o t15 t26 t22 w (dk Tr φ_12 w)) fun φ_12 =>
 ∀ t16 t19 t23 t15 t17 t18 t20 t21 t22 t24 t25 t26 u12 w, Br w → φ16 t16 w → φ19 t19 w → φ23 t23 w → φ15 t15 w → φ17 t17 w → φ18 t18 w → φ20 t20 w → φ21 t21 w → φ22 t22 w → φ24 t24 w → φ25 t25 w → φ26 t26 w → φ_12 u12 w → 
 mapUpdate P T.o t18 t20 t24 w fun _u w =>
 Q0 t14 true w (fun w J => J t13 w) fun t29 w =>
 Q0 t14 true w (Q2 P T.b v_m_4) fun t30 w =>
 Q0 t14 true w (Q1 P F.bI [t30]) fun t31 w =>
 Q0 t14 true w (Q3 P .neq T.c (.tmp 29) (.tmp 31) t29 t31) fun t32 w =>
 pick P t14 t32 (.bool false) w fun t33 w =>
 K t33 w
theorem Mq {a0 a1 a2 a3 : Value} {w : World} {K : Value → World → Prop} (h : Qp a0 a1 a2 a3 w K) : Q1 P F.aC [a0, a1, a2, a3] w K := Q9 (List.replicate 4 none) Tryz.func87 rfl (by decide) (by kernel_rfl) h
def Xx (a0 a1 a2 : Value) (w : World) (K : Value → World → Prop) : Prop :=
 box P T.a a0 w fun v_d_3 w =>
 fieldAddr P T.a v_d_3 7 w fun t5 w =>
 Q2 P T.e t5 w fun t6 w =>
 D0 P (.func F.aC) [] [a1, v_d_3, a2] w fun t7 w =>
 Q1 P F.a [t6, t7] w fun t8 w =>
 K t8 w
theorem Of {a0 a1 a2 : Value} {w : World} {K : Value → World → Prop} (h : Xx a0 a1 a2 w K) : Q1 P F.aK [a0, a1, a2] w K := Q9 (List.replicate 2 none) Tryz.func85 rfl (by decide) (by kernel_rfl) h
def Hj : W3 := [none, none, none, some ([21], [4, 6, 21, 22, 23, 24, 25, 26, 27, 28, 29, 30, 31, 32]), none, none, none, none, none, none, none, none, none, some ([37], [4, 9, 37, 38, 39, 40, 41, 42, 43, 44, 45, 46]), none, none, none, none, none, none, none, none, some ([50], [4, 11, 50, 51, 52, 53, 54, 55, 56, 57, 58, 59, 60, 61, 62, 63, 64, 65, 66, 67, 68, 69, 70]), none, none, none, none, none, none, none, none, none, none, none, none, none, none, none, some ([], [4, 14, 15, 16, 17, 82, 83, 84, 85, 86, 87, 88, 89, 90, 91, 92, 93, 94, 95, 96, 97, 98, 99, 100]), none, none, none, none, none, none, none]
def Ja (a0 a1 : Value) (w : World) (K : Value → World → Prop) : Prop :=
 box P T.p a0 w fun t2 w =>
 box P T.a a1 w fun t3 w =>
 fieldAddr P T.a t3 6 w fun t18 w =>
 Q2 P T.h t18 w fun t19 w =>
 X4 P .len [T.h] T.d [false] [t19] w fun t20 w =>
 lp (α := Value) (.int .i64 0) w fun again3 x3 d_ w =>
 Q3 P .lss T.d (.tmp 21) (.tmp 20) x3 t20 w fun t22 w =>
 X1 t22 (
 indexAddr P T.h t19 x3 w fun t23 w =>
 Q2 P T.i t23 w fun t24 w =>
 M5 P T.i w fun t6 w =>
 V7 P T.i t6 t24 w fun _u w =>
 Q2 P T.p t2 w fun t25 w =>
 fieldAddr P T.a t3 1 w fun t26 w =>
 Q2 P T.c t26 w fun t27 w =>
 fieldAddr P T.i t6 0 w fun t28 w =>
 Q2 P T.c t28 w fun t29 w =>
 Q1 P F.a9 [t25, t27, t29] w fun t30 w =>
 Q3 P .geq T.d (.tmp 30) (.const (.int .i64 0)) t30 (.int .i64 0) w fun t31 w =>
 X1 t31 (
 K (.int .i64 64) w) (
 Q3 P .add T.d (.tmp 21) (.const (.int .i64 1)) x3 (.int .i64 1) w fun t32 w =>
 again3 t32 w)) (
 D0 P (.func F.af) [] [t2] w fun t33 w =>
 M5 P T.u w fun t7 w =>
 V7 P T.u t7 t33 w fun _u w =>
 fieldAddr P T.a t3 6 w fun t34 w =>
 Q2 P T.h t34 w fun t35 w =>
 X4 P .len [T.h] T.d [false] [t35] w fun t36 w =>
 lp (α := Value) (.int .i64 0) w fun again13 x13 d_ w =>
 Q3 P .lss T.d (.tmp 37) (.tmp 36) x13 t36 w fun t38 w =>
 X1 t38 (
 indexAddr P T.h t35 x13 w fun t39 w =>
 Q2 P T.i t39 w fun t40 w =>
 M5 P T.i w fun t9 w =>
 V7 P T.i t9 t40 w fun _u w =>
 Q2 P T.u t7 w fun t41 w =>
 fieldAddr P T.i t9 1 w fun t42 w =>
 Q2 P T.c t42 w fun t43 w =>
 Z6 P t41 [t43] w fun t44 w =>
 V1 P .not t44 w fun t45 w =>
 X1 t45 (
 K (.int .i64 65) w) (
 Q3 P .add T.d (.tmp 37) (.const (.int .i64 1)) x13 (.int .i64 1) w fun t46 w =>
 again13 t46 w)) (
 fieldAddr P T.a t3 7 w fun t47 w =>
 Q2 P T.e t47 w fun t48 w =>
 X4 P .len [T.e] T.d [false] [t48] w fun t49 w =>
 lp (α := Value) (.int .i64 0) w fun again22 x22 d_ w =>
 Q3 P .lss T.d (.tmp 50) (.tmp 49) x22 t49 w fun t51 w =>
 X1 t51 (
 indexAddr P T.e t48 x22 w fun t52 w =>
 Q2 P T.b t52 w fun t53 w =>
 M5 P T.b w fun t11 w =>
 V7 P T.b t11 t53 w fun _u w =>
 Q2 P T.u t7 w fun t54 w =>
 fieldAddr P T.b t11 2 w fun t55 w =>
 Q2 P T.c t55 w fun t56 w =>
 Z6 P t54 [t56] w fun t57 w =>
 V1 P .not t57 w fun t58 w =>
 Q0 t58 true w (fieldAddr P T.b t11 2) fun t60 w =>
 Q0 t58 true w (Q2 P T.c t60) fun t61 w =>
 Q0 t58 true w (Q3 P .neq T.c (.tmp 61) (.const (.string ⟨#[]⟩)) t61 (.string ⟨#[]⟩)) fun t62 w =>
 pick P t58 t62 (.bool false) w fun t63 w =>
 Q0 t63 false w (fieldAddr P T.b t11 1) fun t65 w =>
 Q0 t63 false w (Q2 P T.f t65) fun t66 w =>
 Q0 t63 false w (D0 P (.func F.ag) [] [t7]) fun t67 w =>
 Q0 t63 false w (Q1 P F.c [t66, t67]) fun t68 w =>
 pick P t63 (.bool true) t68 w fun t69 w =>
 X1 t69 (
 K (.int .i64 65) w) (
 Q3 P .add T.d (.tmp 50) (.const (.int .i64 1)) x22 (.int .i64 1) w fun t70 w =>
 again22 t70 w)) (
 Bd P T.o none w fun t71 w =>
 Bd P T.o none w fun t72 w =>
 M5 P T.o w fun t12 w =>
 M5 P T.o w fun t13 w =>
 V7 P T.o t12 t71 w fun _u w =>
 V7 P T.o t13 t72 w fun _u w =>
 Q2 P T.p t2 w fun t73 w =>
 fieldAddr P T.a t3 0 w fun t74 w =>
 Q2 P T.c t74 w fun t75 w =>
 D0 P (.func F.aK) [] [t12, t13] w fun t76 w =>
 Q1 P F.t [t73, t75, t76] w fun t77 w =>
 X1 t77 (
 K (.int .i64 66) w) (
 fieldAddr P T.a t3 4 w fun t78 w =>
 Q2 P T.m t78 w fun t79 w =>
 X1 t79 (
 K (.int .i64 0) w) (
 Q2 P T.o t13 w fun t80 w =>
 rng P T.o t80 w fun t81 w =>
 lp (α := Unit) () w fun again38 x38 d_ w =>
 N4 P t81 false T.x w fun t82 w =>
 ext P t82 0 w fun t83 w =>
 X1 t83 (
 Q4L P t81 w fun t84 w =>
 ext P t84 0 w fun t85 w =>
 Q2 P T.p t2 w fun t87 w =>
 fieldAddr P T.a t3 0 w fun t88 w =>
 Q2 P T.c t88 w fun t89 w =>
 Q1 P F.aw [t87, t89, t85] w fun t91 w =>
 ext P t91 0 w fun t92 w =>
 ext P t91 1 w fun t93 w =>
 ext P t91 2 w fun t94 w =>
 M5 P T.b w fun t16 w =>
 V7 P T.b t16 t93 w fun _u w =>
 V1 P .not t94 w fun t96 w =>
 Q0 t96 false w (fieldAddr P T.b t16 3) fun t98 w =>
 Q0 t96 false w (Q2 P T.m t98) fun t99 w =>
 pick P t96 (.bool true) t99 w fun t100 w =>
 X1 t100 (
 K (.int .i64 67) w) (
 again38 () w)) (
 K (.int .i64 0) w))))))
theorem Ev {a0 a1 : Value} {w : World} {K : Value → World → Prop} (h : Ja a0 a1 w K) : Q1 P F.aQ [a0, a1] w K := Q9 Hj Tryz.func45 rfl (by decide) (by kernel_rfl) h
def Q4K : W3 := [none, none, none, none, none, some ([30], [2, 3, 4, 7, 8, 9, 30, 31, 32, 33, 34, 35, 36, 37, 38, 39, 40, 41, 42, 43, 44, 45, 46, 47, 48, 49, 50, 51, 52]), none, none, none, none, none, none, none, none, none, none, some ([58], [2, 3, 4, 10, 11, 58, 59, 60, 61, 62, 63, 64, 65, 66, 67, 68, 69, 70, 71, 72, 73, 74, 75, 76, 77]), none, none, none, none, none, none, none, none, none, some ([85], [2, 3, 4, 12, 13, 14, 85, 86, 87, 88, 89, 90, 91, 92, 93, 94, 95, 96, 97]), none, none, none, none, none, none, none, none, none, none, none, none, none, some ([114], [2, 3, 4, 17, 18, 114, 115, 116, 117, 118, 119, 120, 121, 122, 123, 124, 125, 126, 127, 128, 129, 130, 131, 132, 133]), none, none, none, none, none, none, none, none]
def Ax (a0 : Value) (w : World) (K : Value → World → Prop) : Prop :=
 Q1 P F.bH [] w fun t19 w =>
 Bd P T.r none w fun t20 w =>
 Qu P T.q [(0, t19), (1, t20)] w fun t21 w =>
 box P T.q t21 w fun t22 w =>
 nilCheck P t22 w fun t24 w =>
 fieldAddr P T.q t24 0 w fun t25 w =>
 Q2 P T.g t25 w fun t26 w =>
 X4 P .len [T.g] T.d [false] [t26] w fun t27 w =>
 X4 P .len [T.g] T.d [false] [a0] w fun t29 w =>
 lp (α := Value) (.int .i64 0) w fun again5 x5 d_ w =>
 Q3 P .lss T.d (.tmp 30) (.tmp 29) x5 t29 w fun t31 w =>
 X1 t31 (
 indexAddr P T.g a0 x5 w fun t33 w =>
 Q2 P T.a t33 w fun t34 w =>
 M5 P T.a w fun t8 w =>
 V7 P T.a t8 t34 w fun _u w =>
 Q2 P T.a t8 w fun t35 w =>
 Q1 P F.bX [t35] w fun t36 w =>
 Q3 P .neq T.t (.tmp 37) (.const (.int .i64 0)) t36 (.int .i64 0) w fun t38 w =>
 X1 t38 (
 K (.tuple #[(.pointer none), x5, t36]) w) (
 dr w fun Tr Br =>
 Q7 Tr (fun φ43 => ∀ w, Br w → nilCheck P t22 w (dk Tr φ43 w)) fun φ43 =>
 Q7 Tr (fun φ44 => ∀ t43 w, Br w → φ43 t43 w → fieldAddr P T.q t43 0 w (dk Tr φ44 w)) fun φ44 =>
 Q7 Tr (fun φ45 => ∀ t44 w, Br w → φ44 t44 w → Q2 P T.g t44 w (dk Tr φ45 w)) fun φ45 =>
 Q7 Tr (fun φ46 => ∀ w, Br w → Q2 P T.a t8 w (dk Tr φ46 w)) fun φ46 =>
 Q7 Tr (fun φ47 => ∀ t46 w, Br w → φ46 t46 w → Q1 P F.bY [t46] w (dk Tr φ47 w)) fun φ47 =>
 Q7 Tr (fun φ48 => ∀ t47 w, Br w → φ47 t47 w → buildSlice P T.g 1 [(0, t47)] w (dk Tr φ48 w)) fun φ48 =>
 ∀ t43 t44 t45 t46 t47 t48 w, Br w → φ43 t43 w → φ44 t44 w → φ45 t45 w → φ46 t46 w → φ47 t47 w → φ48 t48 w → 
 X4 P .append [T.g, T.g] T.g [false, false] [t45, t48] w fun t49 w =>
 nilCheck P t22 w fun t50 w =>
 fieldAddr P T.q t50 0 w fun t51 w =>
 V7 P T.g t51 t49 w fun _u w =>
 Q3 P .add T.d (.tmp 30) (.const (.int .i64 1)) x5 (.int .i64 1) w fun t52 w =>
 again5 t52 w)) (
 nilCheck P t22 w fun t54 w =>
 fieldAddr P T.q t54 0 w fun t55 w =>
 Q2 P T.g t55 w fun t56 w =>
 X4 P .len [T.g] T.d [false] [t56] w fun t57 w =>
 lp (α := Value) (.int .i64 0) w fun again16 x16 d_ w =>
 Q3 P .lss T.d (.tmp 58) (.tmp 57) x16 t57 w fun t59 w =>
 X1 t59 (
 indexAddr P T.g t56 x16 w fun t61 w =>
 Q2 P T.a t61 w fun t62 w =>
 M5 P T.a w fun t11 w =>
 V7 P T.a t11 t62 w fun _u w =>
 fieldAddr P T.a t11 0 w fun t64 w =>
 Q2 P T.c t64 w fun t65 w =>
 Q1 P F.f [t22, t65] w fun t66 w =>
 X1 t66 (
 Q3 P .sub T.d (.tmp 67) (.tmp 68) x16 t27 w fun t69 w =>
 K (.tuple #[(.pointer none), t69, (.int .i64 60)]) w) (
 dr w fun Tr Br =>
 Q7 Tr (fun φ71 => ∀ w, Br w → nilCheck P t22 w (dk Tr φ71 w)) fun φ71 =>
 Q7 Tr (fun φ72 => ∀ t71 w, Br w → φ71 t71 w → fieldAddr P T.q t71 1 w (dk Tr φ72 w)) fun φ72 =>
 Q7 Tr (fun φ74 => ∀ w, Br w → fieldAddr P T.a t11 0 w (dk Tr φ74 w)) fun φ74 =>
 Q7 Tr (fun φ73 => ∀ t72 w, Br w → φ72 t72 w → Q2 P T.r t72 w (dk Tr φ73 w)) fun φ73 =>
 Q7 Tr (fun φ75 => ∀ t74 w, Br w → φ74 t74 w → Q2 P T.c t74 w (dk Tr φ75 w)) fun φ75 =>
 ∀ t71 t72 t74 t73 t75 w, Br w → φ71 t71 w → φ72 t72 w → φ74 t74 w → φ73 t73 w → φ75 t75 w → 
 mapUpdate P T.r t73 t75 x16 w fun _u w =>
 Q3 P .add T.d (.tmp 58) (.const (.int .i64 1)) x16 (.int .i64 1) w fun t77 w =>
 again16 t77 w)) (
 nilCheck P t22 w fun t79 w =>
 fieldAddr P T.q t79 0 w fun t80 w =>
 Q2 P T.g t80 w fun t81 w =>
 R5 P T.g t81 (some t27) none none w fun t83 w =>
 X4 P .len [T.g] T.d [false] [t83] w fun t84 w =>
 lp (α := Value) (.int .i64 0) w fun again26 x26 d_ w =>
 Q3 P .lss T.d (.tmp 85) (.tmp 84) x26 t84 w fun t86 w =>
 X1 t86 (
 indexAddr P T.g t83 x26 w fun t88 w =>
 Q2 P T.a t88 w fun t89 w =>
 M5 P T.a w fun t13 w =>
 V7 P T.a t13 t89 w fun _u w =>
 Q2 P T.a t13 w fun t91 w =>
 Q1 P F.aU [t22, t91] w fun t92 w =>
 Q3 P .neq T.t (.tmp 93) (.const (.int .i64 0)) t92 (.int .i64 0) w fun t94 w =>
 X1 t94 (
 K (.tuple #[(.pointer none), x26, t92]) w) (
 Q3 P .add T.d (.tmp 85) (.const (.int .i64 1)) x26 (.int .i64 1) w fun t97 w =>
 again26 t97 w)) (
 nilCheck P t22 w fun t99 w =>
 fieldAddr P T.q t99 0 w fun t100 w =>
 Q2 P T.g t100 w fun t101 w =>
 R5 P T.g t101 (some t27) none none w fun t103 w =>
 D0 P (.func F.b1) [t22] [] w fun t105 w =>
 Q1 P F.m [t103, t105] w fun t106 w =>
 Q3 P .geq T.d (.tmp 107) (.const (.int .i64 0)) t106 (.int .i64 0) w fun t108 w =>
 X1 t108 (
 K (.tuple #[(.pointer none), t106, (.int .i64 63)]) w) (
 Q1 P F.b2 [t22, t27] w fun t112 w =>
 X4 P .len [T.v] T.d [false] [t112] w fun t113 w =>
 lp (α := Value) (.int .i64 0) w fun again40 x40 d_ w =>
 Q3 P .lss T.d (.tmp 114) (.tmp 113) x40 t113 w fun t115 w =>
 X1 t115 (
 indexAddr P T.v t112 x40 w fun t116 w =>
 Q2 P T.d t116 w fun t117 w =>
 nilCheck P t22 w fun t120 w =>
 fieldAddr P T.q t120 0 w fun t121 w =>
 Q2 P T.g t121 w fun t122 w =>
 indexAddr P T.g t122 t117 w fun t124 w =>
 Q2 P T.a t124 w fun t125 w =>
 Q1 P F.aQ [t22, t125] w fun t126 w =>
 Q3 P .neq T.t (.tmp 127) (.const (.int .i64 0)) t126 (.int .i64 0) w fun t128 w =>
 X1 t128 (
 Q3 P .sub T.d (.tmp 129) (.tmp 130) t117 t27 w fun t131 w =>
 K (.tuple #[(.pointer none), t131, t126]) w) (
 Q3 P .add T.d (.tmp 114) (.const (.int .i64 1)) x40 (.int .i64 1) w fun t133 w =>
 again40 t133 w)) (
 K (.tuple #[t22, (.int .i64 0), (.int .i64 0)]) w)))))
theorem Q5l {a0 : Value} {w : World} {K : Value → World → Prop} (h : Ax a0 w K) : Q1 P F.bG [a0] w K := Q9 Q4K Tryz.func14 rfl (by decide) (by kernel_rfl) h
def Zh (a0 a1 : Value) (w : World) (K : Value → World → Prop) : Prop :=
 Q1 P F.a2 [a0, a1] w fun t8 w =>
 V1 P .not t8 w fun t9 w =>
 X1 t9 (
 K (.tuple #[a0, (.bool false)]) w) (
 X4 P .len [T.c] T.d [false] [a0] w fun t13 w =>
 X4 P .len [T.c] T.d [false] [a1] w fun t15 w =>
 Q3 P .sub T.d (.tmp 13) (.tmp 15) t13 t15 w fun t16 w =>
 R5 P T.c a0 none (some t16) none w fun t17 w =>
 K (.tuple #[t17, (.bool true)]) w)
theorem Dn {a0 a1 : Value} {w : World} {K : Value → World → Prop} (h : Zh a0 a1 w K) : Q1 P F.bF [a0, a1] w K := Q9 (List.replicate 5 none) Tryz.func128 rfl (by decide) (by kernel_rfl) h
def Wp (a0 a1 : Value) (w : World) (K : Value → World → Prop) : Prop :=
 Q1 P F.bF [a0, a1] w fun t8 w =>
 ext P t8 0 w fun t9 w =>
 ext P t8 1 w fun t10 w =>
 K (.tuple #[t9, t10]) w
theorem Gc {a0 a1 : Value} {w : World} {K : Value → World → Prop} (h : Wp a0 a1 w K) : Q1 P F.bh [a0, a1] w K := Q9 (List.replicate 2 none) Tryz.func92 rfl (by decide) (by kernel_rfl) h
def Tv (a0 : Value) (w : World) (K : Value → World → Prop) : Prop :=
 Q1 P F.bh [a0, (.string ⟨#[91, 93]⟩)] w fun t7 w =>
 ext P t7 0 w fun t8 w =>
 ext P t7 1 w fun t9 w =>
 V1 P .not t9 w fun t11 w =>
 Q0 t11 false w (fun w J => J a0 w) fun t13 w =>
 Q0 t11 false w (Q1 P F.a0 [t13]) fun t14 w =>
 Q0 t11 false w (V1 P .not t14) fun t15 w =>
 pick P t11 (.bool true) t15 w fun t16 w =>
 X1 t16 (
 K (.string ⟨#[]⟩) w) (
 K t8 w)
theorem Q3B {a0 : Value} {w : World} {K : Value → World → Prop} (h : Tv a0 w K) : Q1 P F.c9 [a0] w K := Q9 (List.replicate 6 none) Tryz.func53 rfl (by decide) (by kernel_rfl) h
def Vo (a0 a1 : Value) (w : World) (K : Value → World → Prop) : Prop :=
 box P T.a a0 w fun v_c_2 w =>
 fieldAddr P T.a v_c_2 0 w fun t4 w =>
 Q2 P T.c t4 w fun t5 w =>
 Q2 P T.c a1 w fun t6 w =>
 Q3 P .eql T.c (.tmp 5) (.tmp 6) t5 t6 w fun t7 w =>
 K t7 w
theorem Sf {a0 a1 : Value} {w : World} {K : Value → World → Prop} (h : Vo a0 a1 w K) : Q1 P F.b4 [a0, a1] w K := Q9 (List.replicate 2 none) Tryz.func55 rfl (by decide) (by kernel_rfl) h
def Ma (a0 a1 a2 : Value) (w : World) (K : Value → World → Prop) : Prop :=
 box P T.c a2 w fun v_b_5 w =>
 Q1 P F.v [a0, a1] w fun t10 w =>
 V1 P .not t10 w fun t11 w =>
 Q0 t11 false w (fun w J => J a0 w) fun t13 w =>
 Q0 t11 false w (Q2 P T.c v_b_5) fun t14 w =>
 Q0 t11 false w (Q1 P F.v [t13, t14]) fun t15 w =>
 Q0 t11 false w (V1 P .not t15) fun t16 w =>
 pick P t11 (.bool true) t16 w fun t17 w =>
 X1 t17 (
 K (.bool false) w) (
 Q2 P T.c v_b_5 w fun t20 w =>
 Q3 P .eql T.c (.tmp 19) (.tmp 20) a1 t20 w fun t21 w =>
 X1 t21 (
 K (.bool true) w) (
 Q1 P F.ab [a1] w fun t24 w =>
 Q0 t24 false w (Q2 P T.c v_b_5) fun t26 w =>
 Q0 t24 false w (Q1 P F.ab [t26]) fun t27 w =>
 pick P t24 (.bool true) t27 w fun t28 w =>
 X1 t28 (
 K (.bool false) w) (
 Q3 P .eql T.c (.tmp 30) (.const (.string ⟨#[110, 117, 108, 108]⟩)) a1 (.string ⟨#[110, 117, 108, 108]⟩) w fun t31 w =>
 X1 t31 (
 K (.bool true) w) (
 Q1 P F.c9 [a1] w fun t34 w =>
 Q3 P .neq T.c (.tmp 34) (.const (.string ⟨#[]⟩)) t34 (.string ⟨#[]⟩) w fun t35 w =>
 X1 t35 (
 Q2 P T.c v_b_5 w fun t36 w =>
 Q3 P .eql T.c (.tmp 36) (.const (.string ⟨#[79, 98, 106, 101, 99, 116]⟩)) t36 (.string ⟨#[79, 98, 106, 101, 99, 116]⟩) w fun t37 w =>
 K t37 w) (
 D0 P (.func F.b4) [] [v_b_5] w fun t40 w =>
 Q1 P F.t [a0, a1, t40] w fun t41 w =>
 K t41 w)))))
theorem Gu {a0 a1 a2 : Value} {w : World} {K : Value → World → Prop} (h : Ma a0 a1 a2 w K) : Q1 P F.a6 [a0, a1, a2] w K := Q9 (List.replicate 13 none) Tryz.func16 rfl (by decide) (by kernel_rfl) h
def Fr : W3 := [none, none, none, none, none, none, none, none, none, none, some ([7], [6, 7, 40, 41, 42, 43, 44, 45, 46, 47, 48, 49, 50, 51]), none, none, none, none, none, none]
def La (a0 a1 a2 : Value) (w : World) (K : Value → World → Prop) : Prop :=
 Q1 P F.a6 [a0, a1, a2] w fun t12 w =>
 X1 t12 (
 K a2 w) (
 Q1 P F.a6 [a0, a2, a1] w fun t18 w =>
 X1 t18 (
 K a1 w) (
 Q1 P F.v [a0, a1] w fun t23 w =>
 V1 P .not t23 w fun t24 w =>
 Q0 t24 false w (fun w J => J a0 w) fun t26 w =>
 Q0 t24 false w (fun w J => J a2 w) fun t27 w =>
 Q0 t24 false w (Q1 P F.v [t26, t27]) fun t28 w =>
 Q0 t24 false w (V1 P .not t28) fun t29 w =>
 pick P t24 (.bool true) t29 w fun t30 w =>
 Q0 t30 false w (fun w J => J a1 w) fun t32 w =>
 Q0 t30 false w (Q1 P F.ab [t32]) fun t33 w =>
 pick P t30 (.bool true) t33 w fun t34 w =>
 Q0 t34 false w (fun w J => J a2 w) fun t36 w =>
 Q0 t34 false w (Q1 P F.ab [t36]) fun t37 w =>
 pick P t34 (.bool true) t37 w fun t38 w =>
 X1 t38 (
 K (.string ⟨#[]⟩) w) (
 lp (α := Value) a1 w fun again10 x10 d_ w =>
 Q1 P F.f [a0, x10] w fun t42 w =>
 X1 t42 (
 Q1 P F.a6 [a0, a2, x10] w fun t50 w =>
 X1 t50 (
 K x10 w) (
 Q1 P F.d [a0, x10] w fun t45 w =>
 D7 P T.a t45 1 w fun t46 w =>
 again10 t46 w)) (
 K (.string ⟨#[79, 98, 106, 101, 99, 116]⟩) w))))
theorem Ff {a0 a1 a2 : Value} {w : World} {K : Value → World → Prop} (h : La a0 a1 a2 w K) : Q1 P F.aj [a0, a1, a2] w K := Q9 Fr Tryz.func20 rfl (by decide) (by kernel_rfl) h
def Be : W3 := [none, none, none, none, none, none, none, none, some ([6, 31], [6, 8, 31, 32, 33, 34, 35, 36, 37, 38, 39, 40, 41, 42, 43, 44, 45, 46, 47]), none, none, some ([6], [6, 8, 33, 34, 35, 36, 37, 38, 39, 40, 41, 42, 43, 44, 45, 46]), none, none, none]
def A6 (a0 a1 : Value) (w : World) (K : Value → World → Prop) : Prop :=
 Q1 P F.f [a0, a1] w fun t11 w =>
 V1 P .not t11 w fun t12 w =>
 Q0 t12 false w (fun w J => J a1 w) fun t14 w =>
 Q0 t12 false w (Q3 P .eql T.c (.tmp 14) (.const (.string ⟨#[79, 98, 106, 101, 99, 116]⟩)) t14 (.string ⟨#[79, 98, 106, 101, 99, 116]⟩)) fun t15 w =>
 pick P t12 (.bool true) t15 w fun t16 w =>
 X1 t16 (
 K (.string ⟨#[]⟩) w) (
 Q1 P F.d [a0, a1] w fun t19 w =>
 M5 P T.a w fun v_c_5 w =>
 V7 P T.a v_c_5 t19 w fun _u w =>
 Q3 P .add T.c (.tmp 20) (.const (.string ⟨#[40]⟩)) a1 (.string ⟨#[40]⟩) w fun t21 w =>
 fieldAddr P T.a v_c_5 1 w fun t23 w =>
 Q2 P T.c t23 w fun t24 w =>
 Q1 P F.aa [a0, t24] w fun t25 w =>
 Q3 P .add T.c (.tmp 21) (.tmp 25) t21 t25 w fun t26 w =>
 Q3 P .add T.c (.tmp 26) (.const (.string ⟨#[41]⟩)) t26 (.string ⟨#[41]⟩) w fun t27 w =>
 fieldAddr P T.a v_c_5 6 w fun t28 w =>
 Q2 P T.h t28 w fun t29 w =>
 X4 P .len [T.h] T.d [false] [t29] w fun t30 w =>
 lp (α := Value × Value) (t27, (.int .i64 0)) w fun again8 x8 d_ w =>
 Q3 P .lss T.d (.tmp 31) (.tmp 30) x8.2 t30 w fun t32 w =>
 X1 t32 (
 jn (α := Value) w (fun J11 w =>
 indexAddr P T.h t29 x8.2 w fun t33 w =>
 Q2 P T.i t33 w fun t34 w =>
 M5 P T.i w fun v_f_8 w =>
 V7 P T.i v_f_8 t34 w fun _u w =>
 fieldAddr P T.i v_f_8 2 w fun t35 w =>
 Q2 P T.m t35 w fun t36 w =>
 V1 P .not t36 w fun t37 w =>
 X1 t37 (
 fieldAddr P T.i v_f_8 0 w fun t39 w =>
 Q2 P T.c t39 w fun t40 w =>
 Q3 P .add T.c (.const (.string ⟨#[32]⟩)) (.tmp 40) (.string ⟨#[32]⟩) t40 w fun t41 w =>
 Q3 P .add T.c (.tmp 41) (.const (.string ⟨#[58]⟩)) t41 (.string ⟨#[58]⟩) w fun t42 w =>
 fieldAddr P T.i v_f_8 1 w fun t43 w =>
 Q2 P T.c t43 w fun t44 w =>
 Q3 P .add T.c (.tmp 42) (.tmp 44) t42 t44 w fun t45 w =>
 Q3 P .add T.c (.tmp 38) (.tmp 45) x8.1 t45 w fun t46 w =>
 J11 t46 w) (
 J11 x8.1 w)) fun z11 d_ w =>
 Q3 P .add T.d (.tmp 31) (.const (.int .i64 1)) x8.2 (.int .i64 1) w fun t47 w =>
 again8 (z11, t47) w) (
 Q3 P .add T.c (.tmp 48) (.const (.string ⟨#[46]⟩)) x8.1 (.string ⟨#[46]⟩) w fun t49 w =>
 K t49 w))
theorem Vg {a0 a1 : Value} {w : World} {K : Value → World → Prop} (h : A6 a0 a1 w K) : Q1 P F.aa [a0, a1] w K := Q9 Be Tryz.func31 rfl (by decide) (by kernel_rfl) h
def Je (a0 a1 : Value) (w : World) (K : Value → World → Prop) : Prop :=
 Q1 P F.f [a0, a1] w fun t7 w =>
 Q0 t7 true w (fun w J => J a0 w) fun t9 w =>
 Q0 t7 true w (fun w J => J a1 w) fun t10 w =>
 Q0 t7 true w (Q1 P F.d [t9, t10]) fun t11 w =>
 Q0 t7 true w (D7 P T.a t11 4) fun t12 w =>
 Q0 t7 true w (V1 P .not t12) fun t13 w =>
 pick P t7 t13 (.bool false) w fun t14 w =>
 K t14 w
theorem Ey {a0 a1 : Value} {w : World} {K : Value → World → Prop} (h : Je a0 a1 w K) : Q1 P F.aP [a0, a1] w K := Q9 (List.replicate 2 none) Tryz.func34 rfl (by decide) (by kernel_rfl) h
end Go.Proofs.YtdnfaboigajkhaaGreatDoor

set_option maxRecDepth 100000
namespace Go.Proofs.YtdnfaboigajkhaaGreatDoor
open Go.Emb
def Uq (w : World) (K : Value → World → Prop) : Prop :=
 Qu P T.i [(0, (.string ⟨#[120]⟩)), (1, (.string ⟨#[105, 110, 116]⟩))] w fun t1 w =>
 Qu P T.i [(0, (.string ⟨#[116]⟩)), (1, (.string ⟨#[116, 101, 120, 116]⟩)), (2, (.bool true))] w fun t2 w =>
 buildSlice P T.h 2 [(0, t1), (1, t2)] w fun t3 w =>
 Qu P T.a [(0, (.string ⟨#[65]⟩)), (1, (.string ⟨#[79, 98, 106, 101, 99, 116]⟩)), (6, t3)] w fun t4 w =>
 Qu P T.a [(0, (.string ⟨#[66]⟩)), (1, (.string ⟨#[65]⟩))] w fun t5 w =>
 Qu P T.a [(0, (.string ⟨#[67]⟩)), (1, (.string ⟨#[65]⟩))] w fun t6 w =>
 buildSlice P T.g 3 [(0, t4), (1, t5), (2, t6)] w fun t7 w =>
 K t7 w
theorem Sa {w : World} {K : Value → World → Prop} (h : Uq  w K) : Q1 P F.b0 [] w K := Q9 (List.replicate 2 none) Tryz.func37 rfl (by decide) (by kernel_rfl) h
def Uy (w : World) (K : Value → World → Prop) : Prop :=
 Q1 P F.b0 [] w fun t5 w =>
 Q1 P F.bG [t5] w fun t6 w =>
 ext P t6 0 w fun t7 w =>
 ext P t6 1 w fun t8 w =>
 ext P t6 2 w fun t9 w =>
 Q3 P .eql T.p (.tmp 10) (.const (.pointer none)) t7 (.pointer none) w fun t11 w =>
 Q0 t11 false w (fun w J => J t8 w) fun t13 w =>
 Q0 t11 false w (Q3 P .neq T.d (.tmp 13) (.const (.int .i64 0)) t13 (.int .i64 0)) fun t14 w =>
 pick P t11 (.bool true) t14 w fun t15 w =>
 Q0 t15 false w (fun w J => J t9 w) fun t17 w =>
 Q0 t15 false w (Q3 P .neq T.t (.tmp 17) (.const (.int .i64 0)) t17 (.int .i64 0)) fun t18 w =>
 pick P t15 (.bool true) t18 w fun t19 w =>
 X1 t19 (
 K (.bool false) w) (
 Q1 P F.aj [t7, (.string ⟨#[66]⟩), (.string ⟨#[67]⟩)] w fun t21 w =>
 Q3 P .eql T.c (.tmp 21) (.const (.string ⟨#[65]⟩)) t21 (.string ⟨#[65]⟩) w fun t22 w =>
 Q0 t22 true w (fun w J => J t7 w) fun t24 w =>
 Q0 t22 true w (Q1 P F.aj [t24, (.string ⟨#[66]⟩), (.string ⟨#[66, 91, 93]⟩)]) fun t25 w =>
 Q0 t22 true w (Q3 P .eql T.c (.tmp 25) (.const (.string ⟨#[79, 98, 106, 101, 99, 116]⟩)) t25 (.string ⟨#[79, 98, 106, 101, 99, 116]⟩)) fun t26 w =>
 pick P t22 t26 (.bool false) w fun t27 w =>
 Q0 t27 true w (fun w J => J t7 w) fun t29 w =>
 Q0 t27 true w (Q1 P F.aj [t29, (.string ⟨#[105, 110, 116]⟩), (.string ⟨#[65]⟩)]) fun t30 w =>
 Q0 t27 true w (Q3 P .eql T.c (.tmp 30) (.const (.string ⟨#[]⟩)) t30 (.string ⟨#[]⟩)) fun t31 w =>
 pick P t27 t31 (.bool false) w fun t32 w =>
 Q0 t32 true w (fun w J => J t7 w) fun t34 w =>
 Q0 t32 true w (Q1 P F.aa [t34, (.string ⟨#[65]⟩)]) fun t35 w =>
 Q0 t32 true w (Q3 P .eql T.c (.tmp 35) (.const (.string ⟨#[65, 40, 41, 32, 120, 58, 105, 110, 116, 46]⟩)) t35 (.string ⟨#[65, 40, 41, 32, 120, 58, 105, 110, 116, 46]⟩)) fun t36 w =>
 pick P t32 t36 (.bool false) w fun t37 w =>
 Q0 t37 true w (fun w J => J t7 w) fun t39 w =>
 Q0 t37 true w (Q1 P F.aa [t39, (.string ⟨#[66]⟩)]) fun t40 w =>
 Q0 t37 true w (Q3 P .eql T.c (.tmp 40) (.const (.string ⟨#[66, 40, 65, 40, 41, 32, 120, 58, 105, 110, 116, 46, 41, 46]⟩)) t40 (.string ⟨#[66, 40, 65, 40, 41, 32, 120, 58, 105, 110, 116, 46, 41, 46]⟩)) fun t41 w =>
 pick P t37 t41 (.bool false) w fun t42 w =>
 Q0 t42 true w (fun w J => J t7 w) fun t44 w =>
 Q0 t42 true w (Q1 P F.a6 [t44, (.string ⟨#[66]⟩), (.string ⟨#[65]⟩)]) fun t45 w =>
 pick P t42 t45 (.bool false) w fun t46 w =>
 Q0 t46 true w (fun w J => J t7 w) fun t48 w =>
 Q0 t46 true w (Q1 P F.a9 [t48, (.string ⟨#[66]⟩), (.string ⟨#[116]⟩)]) fun t49 w =>
 Q0 t46 true w (Q3 P .eql T.d (.tmp 49) (.const (.int .i64 1)) t49 (.int .i64 1)) fun t50 w =>
 pick P t46 t50 (.bool false) w fun t51 w =>
 Q0 t51 true w (fun w J => J t7 w) fun t53 w =>
 Q0 t51 true w (Q1 P F.aP [t53, (.string ⟨#[66]⟩)]) fun t54 w =>
 pick P t51 t54 (.bool false) w fun t55 w =>
 Q0 t55 true w (Q1 P F.bH []) fun t57 w =>
 Q0 t55 true w (X4 P .len [T.g] T.d [false] [t57]) fun t58 w =>
 Q0 t55 true w (Q3 P .eql T.d (.tmp 58) (.const (.int .i64 8)) t58 (.int .i64 8)) fun t59 w =>
 pick P t55 t59 (.bool false) w fun t60 w =>
 K t60 w)
theorem Si {w : World} {K : Value → World → Prop} (h : Uy  w K) : Q1 P F.a8 [] w K := Q9 (List.replicate 6 none) Tryz.func13 rfl (by decide) (by kernel_rfl) h
def Bm : W3 := [none, none, none, none, none, some ([1, 3], [1, 3, 10, 11, 12, 13, 14, 15, 16, 17, 18, 19, 20, 21, 22, 23]), none, none, none, none]
def Vz (w : World) (K : Value → World → Prop) : Prop :=
 Qu P T.a [(0, (.string ⟨#[79, 98, 106, 101, 99, 116]⟩))] w fun t4 w =>
 Qu P T.i [(0, (.string ⟨#[119, 104, 97, 116]⟩)), (1, (.string ⟨#[116, 101, 120, 116]⟩))] w fun t5 w =>
 buildSlice P T.h 1 [(0, t5)] w fun t6 w =>
 Qu P T.a [(0, (.string ⟨#[70, 97, 117, 108, 116]⟩)), (1, (.string ⟨#[79, 98, 106, 101, 99, 116]⟩)), (6, t6)] w fun t7 w =>
 buildSlice P T.g 2 [(0, t4), (1, t7)] w fun t8 w =>
 buildSlice P T.f 6 [(0, (.string ⟨#[78, 117, 108, 108, 70, 97, 117, 108, 116]⟩)), (1, (.string ⟨#[73, 110, 100, 101, 120, 70, 97, 117, 108, 116]⟩)), (2, (.string ⟨#[67, 97, 115, 116, 70, 97, 117, 108, 116]⟩)), (3, (.string ⟨#[90, 101, 114, 111, 70, 97, 117, 108, 116]⟩)), (4, (.string ⟨#[82, 111, 111, 109, 70, 97, 117, 108, 116]⟩)), (5, (.string ⟨#[67, 97, 108, 108, 70, 97, 117, 108, 116]⟩))] w fun t9 w =>
 lp (α := Value × Value) (t8, (.int .i64 0)) w fun again5 x5 d_ w =>
 X4 P .len [T.f] T.d [false] [t9] w fun t12 w =>
 Q3 P .lss T.d (.tmp 10) (.tmp 12) x5.2 t12 w fun t13 w =>
 X1 t13 (
 indexAddr P T.f t9 x5.2 w fun t19 w =>
 Q2 P T.c t19 w fun t20 w =>
 Qu P T.a [(0, t20), (1, (.string ⟨#[70, 97, 117, 108, 116]⟩)), (5, (.bool true))] w fun t21 w =>
 buildSlice P T.g 1 [(0, t21)] w fun t22 w =>
 X4 P .append [T.g, T.g] T.g [false, false] [x5.1, t22] w fun t23 w =>
 Q3 P .add T.d (.tmp 14) (.const (.int .i64 1)) x5.2 (.int .i64 1) w fun t15 w =>
 again5 (t23, t15) w) (
 K x5.1 w)
theorem Cr {w : World} {K : Value → World → Prop} (h : Vz  w K) : Q1 P F.aZ [] w K := Q9 Bm Tryz.func30 rfl (by decide) (by kernel_rfl) h
def Fs : W3 := [none, none, none, some ([3], [2, 3, 4, 5, 6, 7, 8, 9, 10, 11, 12, 13, 14, 15, 16, 17, 18, 19, 20, 21, 22, 23, 24, 25, 26, 27, 28, 29, 30, 31, 32, 33, 34, 35, 36, 37]), none, none, none, none, none, none, none]
def Ww (a0 : Value) (w : World) (K : Value → World → Prop) : Prop :=
 box P T.a a0 w fun v_c_1 w =>
 lp (α := Value) (.int .i64 0) w fun again3 x3 d_ w =>
 fieldAddr P T.a v_c_1 7 w fun t6 w =>
 Q2 P T.e t6 w fun t7 w =>
 X4 P .len [T.e] T.d [false] [t7] w fun t8 w =>
 Q3 P .lss T.d (.tmp 5) (.tmp 8) x3 t8 w fun t9 w =>
 X1 t9 (
 fieldAddr P T.a v_c_1 7 w fun t12 w =>
 Q2 P T.e t12 w fun t13 w =>
 indexAddr P T.e t13 x3 w fun t15 w =>
 Q2 P T.b t15 w fun t16 w =>
 M5 P T.b w fun v_m_4 w =>
 V7 P T.b v_m_4 t16 w fun _u w =>
 fieldAddr P T.b v_m_4 1 w fun t17 w =>
 Q2 P T.f t17 w fun t18 w =>
 X4 P .len [T.f] T.d [false] [t18] w fun t19 w =>
 Q3 P .gtr T.d (.tmp 19) (.const (.int .i64 32)) t19 (.int .i64 32) w fun t20 w =>
 Q0 t20 false w (fieldAddr P T.b v_m_4 6) fun t22 w =>
 Q0 t20 false w (Q2 P T.j t22) fun t23 w =>
 Q0 t20 false w (X4 P .len [T.j] T.d [false] [t23]) fun t24 w =>
 Q0 t20 false w (Q3 P .gtr T.d (.tmp 24) (.const (.int .i64 32)) t24 (.int .i64 32)) fun t25 w =>
 pick P t20 (.bool true) t25 w fun t26 w =>
 Q0 t26 false w (fieldAddr P T.b v_m_4 5) fun t28 w =>
 Q0 t26 false w (Q2 P T.k t28) fun t29 w =>
 Q0 t26 false w (X4 P .len [T.k] T.d [false] [t29]) fun t30 w =>
 Q0 t26 false w (Q3 P .gtr T.d (.tmp 30) (.const (.int .i64 200)) t30 (.int .i64 200)) fun t31 w =>
 pick P t26 (.bool true) t31 w fun t32 w =>
 Q0 t32 false w (fieldAddr P T.b v_m_4 4) fun t34 w =>
 Q0 t32 false w (Q2 P T.d t34) fun t35 w =>
 Q0 t32 false w (Q3 P .gtr T.d (.tmp 35) (.const (.int .i64 64)) t35 (.int .i64 64)) fun t36 w =>
 pick P t32 (.bool true) t36 w fun t37 w =>
 X1 t37 (
 K (.bool true) w) (
 Q3 P .add T.d (.tmp 10) (.const (.int .i64 1)) x3 (.int .i64 1) w fun t11 w =>
 again3 t11 w)) (
 fieldAddr P T.a v_c_1 2 w fun t38 w =>
 Q2 P T.f t38 w fun t39 w =>
 X4 P .len [T.f] T.d [false] [t39] w fun t40 w =>
 Q3 P .gtr T.d (.tmp 40) (.const (.int .i64 32)) t40 (.int .i64 32) w fun t41 w =>
 Q0 t41 false w (fieldAddr P T.a v_c_1 6) fun t43 w =>
 Q0 t41 false w (Q2 P T.h t43) fun t44 w =>
 Q0 t41 false w (X4 P .len [T.h] T.d [false] [t44]) fun t45 w =>
 Q0 t41 false w (Q3 P .gtr T.d (.tmp 45) (.const (.int .i64 32)) t45 (.int .i64 32)) fun t46 w =>
 pick P t41 (.bool true) t46 w fun t47 w =>
 Q0 t47 false w (fieldAddr P T.a v_c_1 7) fun t49 w =>
 Q0 t47 false w (Q2 P T.e t49) fun t50 w =>
 Q0 t47 false w (X4 P .len [T.e] T.d [false] [t50]) fun t51 w =>
 Q0 t47 false w (Q3 P .gtr T.d (.tmp 51) (.const (.int .i64 32)) t51 (.int .i64 32)) fun t52 w =>
 pick P t47 (.bool true) t52 w fun t53 w =>
 K t53 w)
theorem Fp {a0 : Value} {w : World} {K : Value → World → Prop} (h : Ww a0 w K) : Q1 P F.bg [a0] w K := Q9 Fs Tryz.func88 rfl (by decide) (by kernel_rfl) h
def Cj : W3 := [none, none, none, some ([4], [4, 5, 6, 7]), none, none, none, none]
def We (a0 : Value) (w : World) (K : Value → World → Prop) : Prop :=
 jn (α := Value) w (fun J3 w =>
 Q3 P .eql T.c (.tmp 3) (.const (.string ⟨#[105, 110, 116]⟩)) a0 (.string ⟨#[105, 110, 116]⟩) w fun t5 w =>
 X1 t5 (
 J3 t5 w) (
 Q3 P .eql T.c (.tmp 3) (.const (.string ⟨#[98, 111, 111, 108]⟩)) a0 (.string ⟨#[98, 111, 111, 108]⟩) w fun t6 w =>
 X1 t6 (
 J3 t6 w) (
 Q3 P .eql T.c (.tmp 3) (.const (.string ⟨#[116, 101, 120, 116]⟩)) a0 (.string ⟨#[116, 101, 120, 116]⟩) w fun t7 w =>
 J3 t7 w))) fun z3 d_ w =>
 X1 z3 (
 K (.bool true) w) (
 K (.bool false) w)
theorem Cw {a0 : Value} {w : World} {K : Value → World → Prop} (h : We a0 w K) : Q1 P F.ac [a0] w K := Q9 Cj Tryz.func56 rfl (by decide) (by kernel_rfl) h
def Gb : W3 := [none, none, none, some ([0, 3], [0, 3, 4, 5, 6, 7, 8, 9, 10, 11, 12, 13, 14, 15, 16, 17, 18, 19, 20, 21]), none, none, none, none]
def Ld (a0 : Value) (w : World) (K : Value → World → Prop) : Prop :=
 lp (α := Value × Value) (a0, (.int .i64 0)) w fun again3 x3 d_ w =>
 X4 P .len [T.c] T.d [false] [x3.1] w fun t5 w =>
 Q3 P .geq T.d (.tmp 5) (.const (.int .i64 2)) t5 (.int .i64 2) w fun t6 w =>
 Q0 t6 true w (fun w J => J x3.1 w) fun t8 w =>
 Q0 t6 true w (fun w J => J x3.1 w) fun t9 w =>
 Q0 t6 true w (X4 P .len [T.c] T.d [false] [t9]) fun t10 w =>
 Q0 t6 true w (Q3 P .sub T.d (.tmp 10) (.const (.int .i64 2)) t10 (.int .i64 2)) fun t11 w =>
 Q0 t6 true w (R5 P T.c t8 (some t11) none none) fun t12 w =>
 Q0 t6 true w (Q3 P .eql T.c (.tmp 12) (.const (.string ⟨#[91, 93]⟩)) t12 (.string ⟨#[91, 93]⟩)) fun t13 w =>
 pick P t6 t13 (.bool false) w fun t14 w =>
 X1 t14 (
 Q3 P .add T.d (.tmp 15) (.const (.int .i64 1)) x3.2 (.int .i64 1) w fun t16 w =>
 X4 P .len [T.c] T.d [false] [x3.1] w fun t19 w =>
 Q3 P .sub T.d (.tmp 19) (.const (.int .i64 2)) t19 (.int .i64 2) w fun t20 w =>
 R5 P T.c x3.1 none (some t20) none w fun t21 w =>
 again3 (t21, t16) w) (
 K x3.2 w)
theorem Fg {a0 : Value} {w : World} {K : Value → World → Prop} (h : Ld a0 w K) : Q1 P F.ak [a0] w K := Q9 Gb Tryz.func99 rfl (by decide) (by kernel_rfl) h
def Gf : W3 := [none, none, none, some ([3], [2, 3, 4, 5, 6, 7, 8, 9, 10, 11, 12, 13, 14, 15, 16, 17, 18, 19, 20, 21, 22, 23, 24, 25, 26, 27, 28, 29, 30, 31, 32, 33, 34, 35, 36, 37, 38, 39, 40, 41, 42, 43, 44, 45, 46, 47, 48, 49, 50]), none, none, none, none, none, none, none]
def Wo (a0 : Value) (w : World) (K : Value → World → Prop) : Prop :=
 lp (α := Value) (.int .i64 0) w fun again3 x3 d_ w =>
 X4 P .len [T.c] T.d [false] [a0] w fun t7 w =>
 Q3 P .lss T.d (.tmp 5) (.tmp 7) x3 t7 w fun t8 w =>
 X1 t8 (
 E3 P T.c a0 x3 w fun t13 w =>
 Q3 P .geq T.s (.tmp 13) (.const (.int .u8 97)) t13 (.int .u8 97) w fun t14 w =>
 Q0 t14 true w (fun w J => J a0 w) fun t16 w =>
 Q0 t14 true w (fun w J => J x3 w) fun t17 w =>
 Q0 t14 true w (E3 P T.c t16 t17) fun t18 w =>
 Q0 t14 true w (Q3 P .leq T.s (.tmp 18) (.const (.int .u8 122)) t18 (.int .u8 122)) fun t19 w =>
 pick P t14 t19 (.bool false) w fun t20 w =>
 Q0 t20 false w (fun w J => J a0 w) fun t22 w =>
 Q0 t20 false w (fun w J => J x3 w) fun t23 w =>
 Q0 t20 false w (E3 P T.c t22 t23) fun t24 w =>
 Q0 t20 false w (Q3 P .geq T.s (.tmp 24) (.const (.int .u8 65)) t24 (.int .u8 65)) fun t25 w =>
 Q0 t20 false w (fun w J => J t25 w) fun t26 w =>
 Q0 t26 true w (fun w J => J a0 w) fun t27 w =>
 Q0 t26 true w (fun w J => J x3 w) fun t28 w =>
 Q0 t26 true w (E3 P T.c t27 t28) fun t29 w =>
 Q0 t26 true w (Q3 P .leq T.s (.tmp 29) (.const (.int .u8 90)) t29 (.int .u8 90)) fun t30 w =>
 Q0 t20 false w (pick P t26 t30 (.bool false)) fun t31 w =>
 pick P t20 (.bool true) t31 w fun t32 w =>
 V1 P .not t32 w fun t34 w =>
 Q0 t34 true w (fun w J => J x3 w) fun t36 w =>
 Q0 t34 true w (Q3 P .eql T.d (.tmp 36) (.const (.int .i64 0)) t36 (.int .i64 0)) fun t37 w =>
 Q0 t34 true w (fun w J => J t37 w) fun t38 w =>
 Q0 t38 false w (fun w J => J a0 w) fun t39 w =>
 Q0 t38 false w (fun w J => J x3 w) fun t40 w =>
 Q0 t38 false w (E3 P T.c t39 t40) fun t41 w =>
 Q0 t38 false w (Q3 P .lss T.s (.tmp 41) (.const (.int .u8 48)) t41 (.int .u8 48)) fun t42 w =>
 Q0 t34 true w (pick P t38 (.bool true) t42) fun t43 w =>
 Q0 t34 true w (fun w J => J t43 w) fun t44 w =>
 Q0 t44 false w (fun w J => J a0 w) fun t45 w =>
 Q0 t44 false w (fun w J => J x3 w) fun t46 w =>
 Q0 t44 false w (E3 P T.c t45 t46) fun t47 w =>
 Q0 t44 false w (Q3 P .gtr T.s (.tmp 47) (.const (.int .u8 57)) t47 (.int .u8 57)) fun t48 w =>
 Q0 t34 true w (pick P t44 (.bool true) t48) fun t49 w =>
 pick P t34 t49 (.bool false) w fun t50 w =>
 X1 t50 (
 K (.bool false) w) (
 Q3 P .add T.d (.tmp 9) (.const (.int .i64 1)) x3 (.int .i64 1) w fun t10 w =>
 again3 t10 w)) (
 X4 P .len [T.c] T.d [false] [a0] w fun t52 w =>
 Q3 P .geq T.d (.tmp 52) (.const (.int .i64 1)) t52 (.int .i64 1) w fun t53 w =>
 Q0 t53 true w (fun w J => J a0 w) fun t55 w =>
 Q0 t53 true w (X4 P .len [T.c] T.d [false] [t55]) fun t56 w =>
 Q0 t53 true w (Q3 P .leq T.d (.tmp 56) (.const (.int .i64 32)) t56 (.int .i64 32)) fun t57 w =>
 pick P t53 t57 (.bool false) w fun t58 w =>
 K t58 w)
theorem Gg {a0 : Value} {w : World} {K : Value → World → Prop} (h : Wo a0 w K) : Q1 P F.aJ [a0] w K := Q9 Gf Tryz.func136 rfl (by decide) (by kernel_rfl) h
def Un (a0 : Value) (w : World) (K : Value → World → Prop) : Prop :=
 Q1 P F.aJ [a0] w fun t4 w =>
 Q0 t4 true w (fun w J => J a0 w) fun t6 w =>
 Q0 t4 true w (E3 P T.c t6 (.int .i64 0)) fun t7 w =>
 Q0 t4 true w (Q3 P .leq T.s (.tmp 7) (.const (.int .u8 90)) t7 (.int .u8 90)) fun t8 w =>
 pick P t4 t8 (.bool false) w fun t9 w =>
 K t9 w
theorem Sq {a0 : Value} {w : World} {K : Value → World → Prop} (h : Un a0 w K) : Q1 P F.e [a0] w K := Q9 (List.replicate 2 none) Tryz.func100 rfl (by decide) (by kernel_rfl) h
def Vd (a0 : Value) (w : World) (K : Value → World → Prop) : Prop :=
 Q1 P F.ak [a0] w fun t6 w =>
 X4 P .len [T.c] T.d [false] [a0] w fun t9 w =>
 Q3 P .mul T.d (.const (.int .i64 2)) (.tmp 10) (.int .i64 2) t6 w fun t11 w =>
 Q3 P .sub T.d (.tmp 9) (.tmp 11) t9 t11 w fun t12 w =>
 R5 P T.c a0 none (some t12) none w fun t13 w =>
 Q3 P .leq T.d (.tmp 14) (.const (.int .i64 3)) t6 (.int .i64 3) w fun t15 w =>
 Q0 t15 true w (fun w J => J t13 w) fun t17 w =>
 Q0 t15 true w (Q1 P F.ac [t17]) fun t18 w =>
 Q0 t15 true w (fun w J => J t18 w) fun t19 w =>
 Q0 t19 false w (fun w J => J t13 w) fun t20 w =>
 Q0 t19 false w (Q1 P F.e [t20]) fun t21 w =>
 Q0 t15 true w (pick P t19 (.bool true) t21) fun t22 w =>
 pick P t15 t22 (.bool false) w fun t23 w =>
 K t23 w
theorem Sx {a0 : Value} {w : World} {K : Value → World → Prop} (h : Vd a0 w K) : Q1 P F.i [a0] w K := Q9 (List.replicate 4 none) Tryz.func59 rfl (by decide) (by kernel_rfl) h
def Ui (a0 : Value) (w : World) (K : Value → World → Prop) : Prop :=
 Q1 P F.aJ [a0] w fun t4 w =>
 Q0 t4 true w (fun w J => J a0 w) fun t6 w =>
 Q0 t4 true w (E3 P T.c t6 (.int .i64 0)) fun t7 w =>
 Q0 t4 true w (Q3 P .geq T.s (.tmp 7) (.const (.int .u8 97)) t7 (.int .u8 97)) fun t8 w =>
 pick P t4 t8 (.bool false) w fun t9 w =>
 K t9 w
theorem Ho {a0 : Value} {w : World} {K : Value → World → Prop} (h : Ui a0 w K) : Q1 P F.r [a0] w K := Q9 (List.replicate 2 none) Tryz.func126 rfl (by decide) (by kernel_rfl) h
def Lt (w : World) (K : Value → World → Prop) : Prop :=
 buildSlice P T.f 42 [(0, (.string ⟨#[105, 110, 116]⟩)), (1, (.string ⟨#[116, 114, 117, 101]⟩)), (2, (.string ⟨#[102, 97, 108, 115, 101]⟩)), (3, (.string ⟨#[119, 111, 114, 100]⟩)), (4, (.string ⟨#[110, 117, 108, 108]⟩)), (5, (.string ⟨#[108, 111, 97, 100]⟩)), (6, (.string ⟨#[115, 116, 111, 114, 101]⟩)), (7, (.string ⟨#[112, 111, 112]⟩)), (8, (.string ⟨#[100, 117, 112]⟩)), (9, (.string ⟨#[115, 119, 97, 112]⟩)), (10, (.string ⟨#[97, 100, 100]⟩)), (11, (.string ⟨#[115, 117, 98]⟩)), (12, (.string ⟨#[109, 117, 108]⟩)), (13, (.string ⟨#[100, 105, 118]⟩)), (14, (.string ⟨#[114, 101, 109]⟩)), (15, (.string ⟨#[110, 101, 103]⟩)), (16, (.string ⟨#[108, 101, 115, 115]⟩)), (17, (.string ⟨#[115, 97, 109, 101]⟩)), (18, (.string ⟨#[110, 111, 116]⟩)), (19, (.string ⟨#[98, 111, 116, 104]⟩)), (20, (.string ⟨#[106, 111, 105, 110]⟩)), (21, (.string ⟨#[115, 105, 122, 101]⟩)), (22, (.string ⟨#[106, 117, 109, 112]⟩)), (23, (.string ⟨#[98, 114, 97, 110, 99, 104]⟩)), (24, (.string ⟨#[110, 101, 119]⟩)), (25, (.string ⟨#[103, 101, 116]⟩)), (26, (.string ⟨#[112, 117, 116]⟩)), (27, (.string ⟨#[99, 97, 108, 108]⟩)), (28, (.string ⟨#[97, 114, 114, 97, 121]⟩)), (29, (.string ⟨#[97, 116]⟩)), (30, (.string ⟨#[115, 101, 116]⟩)), (31, (.string ⟨#[105, 115]⟩)), (32, (.string ⟨#[99, 97, 115, 116]⟩)), (33, (.string ⟨#[114, 101, 116, 117, 114, 110]⟩)), (34, (.string ⟨#[116, 104, 114, 111, 119]⟩)), (35, (.string ⟨#[111, 117, 116]⟩)), (36, (.string ⟨#[101, 113, 117, 97, 108]⟩)), (37, (.string ⟨#[97, 110, 100]⟩)), (38, (.string ⟨#[111, 114]⟩)), (39, (.string ⟨#[120, 111, 114]⟩)), (40, (.string ⟨#[115, 104, 108]⟩)), (41, (.string ⟨#[115, 104, 114]⟩))] w fun t1 w =>
 K t1 w
theorem Is {w : World} {K : Value → World → Prop} (h : Lt  w K) : Q1 P F.br [] w K := Q9 (List.replicate 2 none) Tryz.func196 rfl (by decide) (by kernel_rfl) h
def Rl : W3 := [none, none, none, none, some ([4], [2, 4, 6, 7, 8, 9, 10, 11, 12, 13, 14, 15, 16, 17, 18]), none, none, none, none, none, none]
def Uh (a0 : Value) (w : World) (K : Value → World → Prop) : Prop :=
 Q1 P F.br [] w fun t5 w =>
 lp (α := Value) (.int .i64 0) w fun again4 x4 d_ w =>
 X4 P .len [T.f] T.d [false] [t5] w fun t8 w =>
 Q3 P .lss T.d (.tmp 6) (.tmp 8) x4 t8 w fun t9 w =>
 X1 t9 (
 indexAddr P T.f t5 x4 w fun t14 w =>
 Q2 P T.c t14 w fun t15 w =>
 Q3 P .eql T.c (.tmp 15) (.tmp 16) t15 a0 w fun t17 w =>
 X1 t17 (
 K x4 w) (
 Q3 P .add T.d (.tmp 10) (.const (.int .i64 1)) x4 (.int .i64 1) w fun t11 w =>
 again4 t11 w)) (
 K (.int .i64 (-1)) w)
theorem Ru {a0 : Value} {w : World} {K : Value → World → Prop} (h : Uh a0 w K) : Q1 P F.aW [a0] w K := Q9 Rl Tryz.func191 rfl (by decide) (by kernel_rfl) h
def Cc : W3 := [none, none, none, some ([4], [4, 5, 6, 7, 8, 9]), none, none, none, none, none, some ([10], [10, 11, 12, 13, 14, 15, 16, 17, 18]), none, none, none, none, none, none, none, none, none, none, none, none]
def Uo (a0 : Value) (w : World) (K : Value → World → Prop) : Prop :=
 jn (α := Value) w (fun J3 w =>
 Q3 P .eql T.c (.tmp 3) (.const (.string ⟨#[105, 110, 116]⟩)) a0 (.string ⟨#[105, 110, 116]⟩) w fun t5 w =>
 X1 t5 (
 J3 t5 w) (
 Q3 P .eql T.c (.tmp 3) (.const (.string ⟨#[108, 111, 97, 100]⟩)) a0 (.string ⟨#[108, 111, 97, 100]⟩) w fun t6 w =>
 X1 t6 (
 J3 t6 w) (
 Q3 P .eql T.c (.tmp 3) (.const (.string ⟨#[115, 116, 111, 114, 101]⟩)) a0 (.string ⟨#[115, 116, 111, 114, 101]⟩) w fun t7 w =>
 X1 t7 (
 J3 t7 w) (
 Q3 P .eql T.c (.tmp 3) (.const (.string ⟨#[106, 117, 109, 112]⟩)) a0 (.string ⟨#[106, 117, 109, 112]⟩) w fun t8 w =>
 X1 t8 (
 J3 t8 w) (
 Q3 P .eql T.c (.tmp 3) (.const (.string ⟨#[98, 114, 97, 110, 99, 104]⟩)) a0 (.string ⟨#[98, 114, 97, 110, 99, 104]⟩) w fun t9 w =>
 J3 t9 w))))) fun z3 d_ w =>
 X1 z3 (
 K (.int .i64 1) w) (
 jn (α := Value) w (fun J9 w =>
 Q3 P .eql T.c (.tmp 3) (.const (.string ⟨#[119, 111, 114, 100]⟩)) a0 (.string ⟨#[119, 111, 114, 100]⟩) w fun t11 w =>
 X1 t11 (
 J9 t11 w) (
 Q3 P .eql T.c (.tmp 3) (.const (.string ⟨#[110, 101, 119]⟩)) a0 (.string ⟨#[110, 101, 119]⟩) w fun t12 w =>
 X1 t12 (
 J9 t12 w) (
 Q3 P .eql T.c (.tmp 3) (.const (.string ⟨#[103, 101, 116]⟩)) a0 (.string ⟨#[103, 101, 116]⟩) w fun t13 w =>
 X1 t13 (
 J9 t13 w) (
 Q3 P .eql T.c (.tmp 3) (.const (.string ⟨#[112, 117, 116]⟩)) a0 (.string ⟨#[112, 117, 116]⟩) w fun t14 w =>
 X1 t14 (
 J9 t14 w) (
 Q3 P .eql T.c (.tmp 3) (.const (.string ⟨#[99, 97, 108, 108]⟩)) a0 (.string ⟨#[99, 97, 108, 108]⟩) w fun t15 w =>
 X1 t15 (
 J9 t15 w) (
 Q3 P .eql T.c (.tmp 3) (.const (.string ⟨#[97, 114, 114, 97, 121]⟩)) a0 (.string ⟨#[97, 114, 114, 97, 121]⟩) w fun t16 w =>
 X1 t16 (
 J9 t16 w) (
 Q3 P .eql T.c (.tmp 3) (.const (.string ⟨#[105, 115]⟩)) a0 (.string ⟨#[105, 115]⟩) w fun t17 w =>
 X1 t17 (
 J9 t17 w) (
 Q3 P .eql T.c (.tmp 3) (.const (.string ⟨#[99, 97, 115, 116]⟩)) a0 (.string ⟨#[99, 97, 115, 116]⟩) w fun t18 w =>
 J9 t18 w)))))))) fun z9 d_ w =>
 X1 z9 (
 K (.int .i64 2) w) (
 Q1 P F.aW [a0] w fun t20 w =>
 Q3 P .lss T.d (.tmp 20) (.const (.int .i64 0)) t20 (.int .i64 0) w fun t21 w =>
 X1 t21 (
 K (.int .i64 (-1)) w) (
 K (.int .i64 0) w)))
theorem Bc {a0 : Value} {w : World} {K : Value → World → Prop} (h : Uo a0 w K) : Q1 P F.b9 [a0] w K := Q9 Cc Tryz.func182 rfl (by decide) (by kernel_rfl) h
def Vs (a0 a1 : Value) (w : World) (K : Value → World → Prop) : Prop :=
 X4 P .len [T.c] T.d [false] [a0] w fun t7 w =>
 Q3 P .lss T.d (.tmp 5) (.tmp 7) a1 t7 w fun t8 w =>
 Q0 t8 true w (fun w J => J a0 w) fun t10 w =>
 Q0 t8 true w (fun w J => J a1 w) fun t11 w =>
 Q0 t8 true w (E3 P T.c t10 t11) fun t12 w =>
 Q0 t8 true w (Q3 P .geq T.s (.tmp 12) (.const (.int .u8 128)) t12 (.int .u8 128)) fun t13 w =>
 pick P t8 t13 (.bool false) w fun t14 w =>
 Q0 t14 true w (fun w J => J a0 w) fun t16 w =>
 Q0 t14 true w (fun w J => J a1 w) fun t17 w =>
 Q0 t14 true w (E3 P T.c t16 t17) fun t18 w =>
 Q0 t14 true w (Q3 P .lss T.s (.tmp 18) (.const (.int .u8 192)) t18 (.int .u8 192)) fun t19 w =>
 pick P t14 t19 (.bool false) w fun t20 w =>
 K t20 w
theorem Bh {a0 a1 : Value} {w : World} {K : Value → World → Prop} (h : Vs a0 a1 w K) : Q1 P F.o [a0, a1] w K := Q9 (List.replicate 2 none) Tryz.func197 rfl (by decide) (by kernel_rfl) h
def Fm : W3 := [none, none, some ([], [2, 4, 5, 9, 10, 11, 12, 13, 14, 15, 16, 17, 18, 19, 20, 21, 22, 23, 24, 25, 26, 27, 28, 29, 30, 31, 32, 33, 34, 35, 36, 37, 38, 39, 40, 41, 42, 43, 44, 45, 46, 47, 48, 49, 50, 51, 52, 53, 54, 55, 56, 57, 58, 59, 60, 61, 62, 63, 64, 65, 66, 67, 68, 69, 70, 71, 72, 73, 74, 75, 76, 77, 78, 79, 80, 81, 82, 83, 84, 85, 86, 87, 88, 89, 90, 91, 92, 93, 94, 95, 96, 97, 98, 99, 100, 101, 102, 103, 104, 105, 106]), none, none, none, none, none, none, none, none, none, none, none, none, none]
def Wq (a0 : Value) (w : World) (K : Value → World → Prop) : Prop :=
 E3 P T.c a0 (.int .i64 0) w fun t7 w =>
 conv P T.s T.d t7 w fun t8 w =>
 jn (α := Unit) w (fun J2 w =>
 Q3 P .lss T.d (.tmp 10) (.const (.int .i64 128)) t8 (.int .i64 128) w fun t11 w =>
 X1 t11 (
 K (.int .i64 1) w) (
 Q3 P .geq T.d (.tmp 13) (.const (.int .i64 194)) t8 (.int .i64 194) w fun t14 w =>
 Q0 t14 true w (fun w J => J t8 w) fun t16 w =>
 Q0 t14 true w (Q3 P .lss T.d (.tmp 16) (.const (.int .i64 224)) t16 (.int .i64 224)) fun t17 w =>
 pick P t14 t17 (.bool false) w fun t18 w =>
 Q0 t18 true w (fun w J => J a0 w) fun t20 w =>
 Q0 t18 true w (Q1 P F.o [t20, (.int .i64 1)]) fun t21 w =>
 pick P t18 t21 (.bool false) w fun t22 w =>
 X1 t22 (
 K (.int .i64 2) w) (
 Q3 P .geq T.d (.tmp 24) (.const (.int .i64 224)) t8 (.int .i64 224) w fun t25 w =>
 Q0 t25 true w (fun w J => J t8 w) fun t27 w =>
 Q0 t25 true w (Q3 P .lss T.d (.tmp 27) (.const (.int .i64 240)) t27 (.int .i64 240)) fun t28 w =>
 pick P t25 t28 (.bool false) w fun t29 w =>
 Q0 t29 true w (fun w J => J a0 w) fun t31 w =>
 Q0 t29 true w (Q1 P F.o [t31, (.int .i64 1)]) fun t32 w =>
 pick P t29 t32 (.bool false) w fun t33 w =>
 Q0 t33 true w (fun w J => J a0 w) fun t35 w =>
 Q0 t33 true w (Q1 P F.o [t35, (.int .i64 2)]) fun t36 w =>
 pick P t33 t36 (.bool false) w fun t37 w =>
 X1 t37 (
 dr w fun Tr Br =>
 Q7 Tr (fun φ39 => ∀ w, Br w → Q3 P .rem T.d (.tmp 38) (.const (.int .i64 16)) t8 (.int .i64 16) w (dk Tr φ39 w)) fun φ39 =>
 Q7 Tr (fun φ40 => ∀ t39 w, Br w → φ39 t39 w → Q3 P .mul T.d (.tmp 39) (.const (.int .i64 4096)) t39 (.int .i64 4096) w (dk Tr φ40 w)) fun φ40 =>
 Q7 Tr (fun φ42 => ∀ w, Br w → E3 P T.c a0 (.int .i64 1) w (dk Tr φ42 w)) fun φ42 =>
 Q7 Tr (fun φ43 => ∀ t42 w, Br w → φ42 t42 w → Q3 P .rem T.s (.tmp 42) (.const (.int .u8 64)) t42 (.int .u8 64) w (dk Tr φ43 w)) fun φ43 =>
 Q7 Tr (fun φ48 => ∀ w, Br w → E3 P T.c a0 (.int .i64 2) w (dk Tr φ48 w)) fun φ48 =>
 Q7 Tr (fun φ49 => ∀ t48 w, Br w → φ48 t48 w → Q3 P .rem T.s (.tmp 48) (.const (.int .u8 64)) t48 (.int .u8 64) w (dk Tr φ49 w)) fun φ49 =>
 Q7 Tr (fun φ44 => ∀ t43 w, Br w → φ43 t43 w → conv P T.s T.d t43 w (dk Tr φ44 w)) fun φ44 =>
 Q7 Tr (fun φ45 => ∀ t44 w, Br w → φ44 t44 w → Q3 P .mul T.d (.tmp 44) (.const (.int .i64 64)) t44 (.int .i64 64) w (dk Tr φ45 w)) fun φ45 =>
 Q7 Tr (fun φ46 => ∀ t40 t45 w, Br w → φ40 t40 w → φ45 t45 w → Q3 P .add T.d (.tmp 40) (.tmp 45) t40 t45 w (dk Tr φ46 w)) fun φ46 =>
 Q7 Tr (fun φ50 => ∀ t49 w, Br w → φ49 t49 w → conv P T.s T.d t49 w (dk Tr φ50 w)) fun φ50 =>
 ∀ t39 t40 t42 t43 t48 t49 t44 t45 t46 t50 w, Br w → φ39 t39 w → φ40 t40 w → φ42 t42 w → φ43 t43 w → φ48 t48 w → φ49 t49 w → φ44 t44 w → φ45 t45 w → φ46 t46 w → φ50 t50 w → 
 Q3 P .add T.d (.tmp 46) (.tmp 50) t46 t50 w fun t51 w =>
 Q3 P .geq T.d (.tmp 52) (.const (.int .i64 2048)) t51 (.int .i64 2048) w fun t53 w =>
 Q0 t53 true w (fun w J => J t51 w) fun t55 w =>
 Q0 t53 true w (Q3 P .lss T.d (.tmp 55) (.const (.int .i64 55296)) t55 (.int .i64 55296)) fun t56 w =>
 Q0 t53 true w (fun w J => J t56 w) fun t57 w =>
 Q0 t57 false w (fun w J => J t51 w) fun t58 w =>
 Q0 t57 false w (Q3 P .gtr T.d (.tmp 58) (.const (.int .i64 57343)) t58 (.int .i64 57343)) fun t59 w =>
 Q0 t53 true w (pick P t57 (.bool true) t59) fun t60 w =>
 pick P t53 t60 (.bool false) w fun t61 w =>
 X1 t61 (
 K (.int .i64 3) w) (
 J2 () w)) (
 Q3 P .geq T.d (.tmp 63) (.const (.int .i64 240)) t8 (.int .i64 240) w fun t64 w =>
 Q0 t64 true w (fun w J => J t8 w) fun t66 w =>
 Q0 t64 true w (Q3 P .lss T.d (.tmp 66) (.const (.int .i64 245)) t66 (.int .i64 245)) fun t67 w =>
 pick P t64 t67 (.bool false) w fun t68 w =>
 Q0 t68 true w (fun w J => J a0 w) fun t70 w =>
 Q0 t68 true w (Q1 P F.o [t70, (.int .i64 1)]) fun t71 w =>
 pick P t68 t71 (.bool false) w fun t72 w =>
 Q0 t72 true w (fun w J => J a0 w) fun t74 w =>
 Q0 t72 true w (Q1 P F.o [t74, (.int .i64 2)]) fun t75 w =>
 pick P t72 t75 (.bool false) w fun t76 w =>
 Q0 t76 true w (fun w J => J a0 w) fun t78 w =>
 Q0 t76 true w (Q1 P F.o [t78, (.int .i64 3)]) fun t79 w =>
 pick P t76 t79 (.bool false) w fun t80 w =>
 X1 t80 (
 dr w fun Tr Br =>
 Q7 Tr (fun φ82 => ∀ w, Br w → Q3 P .rem T.d (.tmp 81) (.const (.int .i64 8)) t8 (.int .i64 8) w (dk Tr φ82 w)) fun φ82 =>
 Q7 Tr (fun φ83 => ∀ t82 w, Br w → φ82 t82 w → Q3 P .mul T.d (.tmp 82) (.const (.int .i64 262144)) t82 (.int .i64 262144) w (dk Tr φ83 w)) fun φ83 =>
 Q7 Tr (fun φ85 => ∀ w, Br w → E3 P T.c a0 (.int .i64 1) w (dk Tr φ85 w)) fun φ85 =>
 Q7 Tr (fun φ86 => ∀ t85 w, Br w → φ85 t85 w → Q3 P .rem T.s (.tmp 85) (.const (.int .u8 64)) t85 (.int .u8 64) w (dk Tr φ86 w)) fun φ86 =>
 Q7 Tr (fun φ91 => ∀ w, Br w → E3 P T.c a0 (.int .i64 2) w (dk Tr φ91 w)) fun φ91 =>
 Q7 Tr (fun φ92 => ∀ t91 w, Br w → φ91 t91 w → Q3 P .rem T.s (.tmp 91) (.const (.int .u8 64)) t91 (.int .u8 64) w (dk Tr φ92 w)) fun φ92 =>
 Q7 Tr (fun φ97 => ∀ w, Br w → E3 P T.c a0 (.int .i64 3) w (dk Tr φ97 w)) fun φ97 =>
 Q7 Tr (fun φ98 => ∀ t97 w, Br w → φ97 t97 w → Q3 P .rem T.s (.tmp 97) (.const (.int .u8 64)) t97 (.int .u8 64) w (dk Tr φ98 w)) fun φ98 =>
 Q7 Tr (fun φ87 => ∀ t86 w, Br w → φ86 t86 w → conv P T.s T.d t86 w (dk Tr φ87 w)) fun φ87 =>
 Q7 Tr (fun φ88 => ∀ t87 w, Br w → φ87 t87 w → Q3 P .mul T.d (.tmp 87) (.const (.int .i64 4096)) t87 (.int .i64 4096) w (dk Tr φ88 w)) fun φ88 =>
 Q7 Tr (fun φ89 => ∀ t83 t88 w, Br w → φ83 t83 w → φ88 t88 w → Q3 P .add T.d (.tmp 83) (.tmp 88) t83 t88 w (dk Tr φ89 w)) fun φ89 =>
 Q7 Tr (fun φ93 => ∀ t92 w, Br w → φ92 t92 w → conv P T.s T.d t92 w (dk Tr φ93 w)) fun φ93 =>
 Q7 Tr (fun φ94 => ∀ t93 w, Br w → φ93 t93 w → Q3 P .mul T.d (.tmp 93) (.const (.int .i64 64)) t93 (.int .i64 64) w (dk Tr φ94 w)) fun φ94 =>
 Q7 Tr (fun φ95 => ∀ t89 t94 w, Br w → φ89 t89 w → φ94 t94 w → Q3 P .add T.d (.tmp 89) (.tmp 94) t89 t94 w (dk Tr φ95 w)) fun φ95 =>
 Q7 Tr (fun φ99 => ∀ t98 w, Br w → φ98 t98 w → conv P T.s T.d t98 w (dk Tr φ99 w)) fun φ99 =>
 ∀ t82 t83 t85 t86 t91 t92 t97 t98 t87 t88 t89 t93 t94 t95 t99 w, Br w → φ82 t82 w → φ83 t83 w → φ85 t85 w → φ86 t86 w → φ91 t91 w → φ92 t92 w → φ97 t97 w → φ98 t98 w → φ87 t87 w → φ88 t88 w → φ89 t89 w → φ93 t93 w → φ94 t94 w → φ95 t95 w → φ99 t99 w → 
 Q3 P .add T.d (.tmp 95) (.tmp 99) t95 t99 w fun t100 w =>
 Q3 P .geq T.d (.tmp 101) (.const (.int .i64 65536)) t100 (.int .i64 65536) w fun t102 w =>
 Q0 t102 true w (fun w J => J t100 w) fun t104 w =>
 Q0 t102 true w (Q3 P .leq T.d (.tmp 104) (.const (.int .i64 1114111)) t104 (.int .i64 1114111)) fun t105 w =>
 pick P t102 t105 (.bool false) w fun t106 w =>
 X1 t106 (
 K (.int .i64 4) w) (
 J2 () w)) (
 J2 () w))))) fun z2 d_ w =>
 K (.int .i64 0) w
theorem Fb {a0 : Value} {w : World} {K : Value → World → Prop} (h : Wq a0 w K) : Q1 P F.bk [a0] w K := Q9 Fm Tryz.func192 rfl (by decide) (by kernel_rfl) h
def Sd : W3 := [none, none, some ([0], [0, 2, 3, 4, 5, 6, 7, 8, 9, 10, 11, 12]), none, none, none, none, none, none, none]
def Vc (a0 : Value) (w : World) (K : Value → World → Prop) : Prop :=
 lp (α := Value) a0 w fun again2 x2 d_ w =>
 Q3 P .neq T.c (.tmp 4) (.const (.string ⟨#[]⟩)) x2 (.string ⟨#[]⟩) w fun t5 w =>
 X1 t5 (
 Q1 P F.bk [x2] w fun t7 w =>
 Q3 P .eql T.d (.tmp 8) (.const (.int .i64 0)) t7 (.int .i64 0) w fun t9 w =>
 X1 t9 (
 K (.bool false) w) (
 R5 P T.c x2 (some t7) none none w fun t12 w =>
 again2 t12 w)) (
 K (.bool true) w)
theorem Sc {a0 : Value} {w : World} {K : Value → World → Prop} (h : Vc a0 w K) : Q1 P F.ba [a0] w K := Q9 Sd Tryz.func183 rfl (by decide) (by kernel_rfl) h
def Cx : W3 := [none, none, none, some ([5], [2, 3, 4, 5, 6, 7, 8, 9, 10, 11, 12, 13, 14, 15, 16, 17, 18, 19, 20, 21, 22, 23, 24, 25, 26, 27, 28, 29, 30, 31, 32, 33]), none, none, none, none, none, none]
def Va (a0 : Value) (w : World) (K : Value → World → Prop) : Prop :=
 lp (α := Value) (.int .i64 0) w fun again3 x3 d_ w =>
 X4 P .len [T.c] T.d [false] [a0] w fun t8 w =>
 Q3 P .lss T.d (.tmp 6) (.tmp 8) x3 t8 w fun t9 w =>
 X1 t9 (
 E3 P T.c a0 x3 w fun t14 w =>
 Q3 P .eql T.s (.tmp 14) (.const (.int .u8 46)) t14 (.int .u8 46) w fun t15 w =>
 X1 t15 (
 dr w fun Tr Br =>
 Q7 Tr (fun φ18 => ∀ w, Br w → R5 P T.c a0 none (some x3) none w (dk Tr φ18 w)) fun φ18 =>
 Q7 Tr (fun φ21 => ∀ w, Br w → Q3 P .add T.d (.tmp 20) (.const (.int .i64 1)) x3 (.int .i64 1) w (dk Tr φ21 w)) fun φ21 =>
 Q7 Tr (fun φ22 => ∀ t21 w, Br w → φ21 t21 w → R5 P T.c a0 (some t21) none none w (dk Tr φ22 w)) fun φ22 =>
 Q7 Tr (fun φ25 => ∀ w, Br w → R5 P T.c a0 none (some x3) none w (dk Tr φ25 w)) fun φ25 =>
 Q7 Tr (fun φ26 => ∀ t25 w, Br w → φ25 t25 w → Q1 P F.e [t25] w (dk Tr φ26 w)) fun φ26 =>
 Q7 Tr (fun φ28 => ∀ t26 w, Br w → φ26 t26 w → Q0 t26 true w (fun w J => J a0 w) (dk Tr φ28 w)) fun φ28 =>
 Q7 Tr (fun φ29 => ∀ t26 w, Br w → φ26 t26 w → Q0 t26 true w (fun w J => J x3 w) (dk Tr φ29 w)) fun φ29 =>
 Q7 Tr (fun φ30 => ∀ t26 t29 w, Br w → φ26 t26 w → φ29 t29 w → Q0 t26 true w (Q3 P .add T.d (.tmp 29) (.const (.int .i64 1)) t29 (.int .i64 1)) (dk Tr φ30 w)) fun φ30 =>
 Q7 Tr (fun φ31 => ∀ t26 t28 t30 w, Br w → φ26 t26 w → φ28 t28 w → φ30 t30 w → Q0 t26 true w (R5 P T.c t28 (some t30) none none) (dk Tr φ31 w)) fun φ31 =>
 Q7 Tr (fun φ32 => ∀ t26 t31 w, Br w → φ26 t26 w → φ31 t31 w → Q0 t26 true w (Q1 P F.r [t31]) (dk Tr φ32 w)) fun φ32 =>
 Q7 Tr (fun φ33 => ∀ t26 t32 w, Br w → φ26 t26 w → φ32 t32 w → pick P t26 t32 (.bool false) w (dk Tr φ33 w)) fun φ33 =>
 ∀ t18 t21 t22 t25 t26 t28 t29 t30 t31 t32 t33 w, Br w → φ18 t18 w → φ21 t21 w → φ22 t22 w → φ25 t25 w → φ26 t26 w → φ28 t28 w → φ29 t29 w → φ30 t30 w → φ31 t31 w → φ32 t32 w → φ33 t33 w → 
 K (.tuple #[t18, t22, t33]) w) (
 Q3 P .add T.d (.tmp 10) (.const (.int .i64 1)) x3 (.int .i64 1) w fun t11 w =>
 again3 t11 w)) (
 K (.tuple #[(.string ⟨#[]⟩), (.string ⟨#[]⟩), (.bool false)]) w)
theorem St {a0 : Value} {w : World} {K : Value → World → Prop} (h : Va a0 w K) : Q1 P F.bb [a0] w K := Q9 Cx Tryz.func184 rfl (by decide) (by kernel_rfl) h
def Ci : W3 := [none, none, none, none, none, none, some ([4], [4, 5, 6, 7, 8, 30, 31, 32, 33, 34, 35, 36, 37, 38, 39, 40, 41, 42, 43, 44, 45, 46, 47, 48, 49, 50, 51, 52, 53, 54, 55, 56, 57, 58, 59, 60, 61, 62, 63, 64, 65, 66, 67, 68, 69, 70, 71, 72, 73, 74, 75, 76, 77, 78, 79, 80, 81, 82, 83, 84, 85, 86, 87, 88, 89, 90, 91, 92, 93, 94, 95, 96, 97, 98, 99, 100, 101, 102, 103, 104, 105, 106, 107, 108, 109, 110]), none, none, none, none, none, some ([4, 5], [4, 5, 59, 60, 61, 62, 63, 64, 65, 66, 67, 68, 69, 70, 71, 72, 73]), none, none, none, none, some ([82], [82, 83, 84]), none, none, none, none, none, none, none]
def Vu (a0 : Value) (w : World) (K : Value → World → Prop) : Prop :=
 box P T.n a0 w fun t1 w =>
 fieldAddr P T.n t1 0 w fun t9 w =>
 Q2 P T.c t9 w fun t10 w =>
 Q1 P F.b9 [t10] w fun t11 w =>
 Q3 P .lss T.d (.tmp 12) (.const (.int .i64 0)) t11 (.int .i64 0) w fun t13 w =>
 X1 t13 (
 K (.int .i64 40) w) (
 Q3 P .eql T.d (.tmp 14) (.const (.int .i64 1)) t11 (.int .i64 1) w fun t15 w =>
 Q0 t15 false w (fieldAddr P T.n t1 1) fun t17 w =>
 Q0 t15 false w (Q2 P T.af t17) fun t18 w =>
 Q0 t15 false w (Q3 P .eql T.af (.tmp 18) (.const (.int .i64 0)) t18 (.int .i64 0)) fun t19 w =>
 pick P t15 (.bool true) t19 w fun t20 w =>
 Q0 t20 true w (fun w J => J t11 w) fun t22 w =>
 Q0 t20 true w (Q3 P .eql T.d (.tmp 22) (.const (.int .i64 2)) t22 (.int .i64 2)) fun t23 w =>
 Q0 t20 true w (fun w J => J t23 w) fun t24 w =>
 Q0 t24 false w (fieldAddr P T.n t1 2) fun t25 w =>
 Q0 t24 false w (Q2 P T.c t25) fun t26 w =>
 Q0 t24 false w (Q3 P .eql T.c (.tmp 26) (.const (.string ⟨#[]⟩)) t26 (.string ⟨#[]⟩)) fun t27 w =>
 Q0 t20 true w (pick P t24 (.bool true) t27) fun t28 w =>
 pick P t20 t28 (.bool false) w fun t29 w =>
 jn (α := Value) w (fun J6 w =>
 Q3 P .eql T.d (.tmp 30) (.const (.int .i64 2)) t11 (.int .i64 2) w fun t31 w =>
 X1 t31 (
 fieldAddr P T.n t1 0 w fun t32 w =>
 Q2 P T.c t32 w fun t33 w =>
 Q3 P .eql T.c (.tmp 33) (.const (.string ⟨#[119, 111, 114, 100]⟩)) t33 (.string ⟨#[119, 111, 114, 100]⟩) w fun t46 w =>
 X1 t46 (
 Q0 t29 true w (fieldAddr P T.n t1 2) fun t49 w =>
 Q0 t29 true w (Q2 P T.c t49) fun t50 w =>
 Q0 t29 true w (X4 P .len [T.c] T.d [false] [t50]) fun t51 w =>
 Q0 t29 true w (Q3 P .leq T.d (.tmp 51) (.const (.int .i64 64)) t51 (.int .i64 64)) fun t52 w =>
 pick P t29 t52 (.bool false) w fun t53 w =>
 Q0 t53 true w (fieldAddr P T.n t1 2) fun t55 w =>
 Q0 t53 true w (Q2 P T.c t55) fun t56 w =>
 Q0 t53 true w (Q1 P F.ba [t56]) fun t57 w =>
 pick P t53 t57 (.bool false) w fun t58 w =>
 lp (α := Value × Value) (t58, (.int .i64 0)) w fun again12 x12 d_ w =>
 fieldAddr P T.n t1 2 w fun t60 w =>
 Q2 P T.c t60 w fun t61 w =>
 X4 P .len [T.c] T.d [false] [t61] w fun t62 w =>
 Q3 P .lss T.d (.tmp 59) (.tmp 62) x12.2 t62 w fun t63 w =>
 X1 t63 (
 Q0 x12.1 true w (fieldAddr P T.n t1 2) fun t68 w =>
 Q0 x12.1 true w (Q2 P T.c t68) fun t69 w =>
 Q0 x12.1 true w (fun w J => J x12.2 w) fun t70 w =>
 Q0 x12.1 true w (E3 P T.c t69 t70) fun t71 w =>
 Q0 x12.1 true w (Q3 P .neq T.s (.tmp 71) (.const (.int .u8 10)) t71 (.int .u8 10)) fun t72 w =>
 pick P x12.1 t72 (.bool false) w fun t73 w =>
 Q3 P .add T.d (.tmp 64) (.const (.int .i64 1)) x12.2 (.int .i64 1) w fun t65 w =>
 again12 (t73, t65) w) (
 J6 x12.1 w)) (
 Q3 P .eql T.c (.tmp 33) (.const (.string ⟨#[110, 101, 119]⟩)) t33 (.string ⟨#[110, 101, 119]⟩) w fun t75 w =>
 X1 t75 (
 Q0 t29 true w (fieldAddr P T.n t1 2) fun t78 w =>
 Q0 t29 true w (Q2 P T.c t78) fun t79 w =>
 Q0 t29 true w (Q1 P F.e [t79]) fun t80 w =>
 pick P t29 t80 (.bool false) w fun t81 w =>
 J6 t81 w) (
 jn (α := Value) w (fun J17 w =>
 Q3 P .eql T.c (.tmp 33) (.const (.string ⟨#[105, 115]⟩)) t33 (.string ⟨#[105, 115]⟩) w fun t83 w =>
 X1 t83 (
 J17 t83 w) (
 Q3 P .eql T.c (.tmp 33) (.const (.string ⟨#[99, 97, 115, 116]⟩)) t33 (.string ⟨#[99, 97, 115, 116]⟩) w fun t84 w =>
 J17 t84 w)) fun z17 d_ w =>
 X1 z17 (
 Q0 t29 true w (fieldAddr P T.n t1 2) fun t87 w =>
 Q0 t29 true w (Q2 P T.c t87) fun t88 w =>
 Q0 t29 true w (Q1 P F.i [t88]) fun t89 w =>
 pick P t29 t89 (.bool false) w fun t90 w =>
 Q0 t90 true w (fieldAddr P T.n t1 2) fun t92 w =>
 Q0 t90 true w (Q2 P T.c t92) fun t93 w =>
 Q0 t90 true w (Q1 P F.ac [t93]) fun t94 w =>
 Q0 t90 true w (V1 P .not t94) fun t95 w =>
 pick P t90 t95 (.bool false) w fun t96 w =>
 J6 t96 w) (
 Q3 P .eql T.c (.tmp 33) (.const (.string ⟨#[97, 114, 114, 97, 121]⟩)) t33 (.string ⟨#[97, 114, 114, 97, 121]⟩) w fun t98 w =>
 X1 t98 (
 Q0 t29 true w (fieldAddr P T.n t1 2) fun t101 w =>
 Q0 t29 true w (Q2 P T.c t101) fun t102 w =>
 Q0 t29 true w (Q1 P F.i [t102]) fun t103 w =>
 pick P t29 t103 (.bool false) w fun t104 w =>
 Q0 t104 true w (fieldAddr P T.n t1 2) fun t106 w =>
 Q0 t104 true w (Q2 P T.c t106) fun t107 w =>
 Q0 t104 true w (Q1 P F.ak [t107]) fun t108 w =>
 Q0 t104 true w (Q3 P .lss T.d (.tmp 108) (.const (.int .i64 3)) t108 (.int .i64 3)) fun t109 w =>
 pick P t104 t109 (.bool false) w fun t110 w =>
 J6 t110 w) (
 fieldAddr P T.n t1 2 w fun t35 w =>
 Q2 P T.c t35 w fun t36 w =>
 Q1 P F.bb [t36] w fun t37 w =>
 ext P t37 0 w fun t38 w =>
 ext P t37 1 w fun t39 w =>
 ext P t37 2 w fun t40 w =>
 Q0 t29 true w (fun w J => J t40 w) fun t43 w =>
 pick P t29 t43 (.bool false) w fun t44 w =>
 J6 t44 w))))) (
 J6 t29 w)) fun z6 d_ w =>
 V1 P .not z6 w fun t112 w =>
 X1 t112 (
 K (.int .i64 41) w) (
 K (.int .i64 0) w))
theorem Sn {a0 : Value} {w : World} {K : Value → World → Prop} (h : Vu a0 w K) : Q1 P F.b8 [a0] w K := Q9 Ci Tryz.func169 rfl (by decide) (by kernel_rfl) h
def Ig : W3 := [none, none, none, some ([3], [2, 3, 4, 5, 6, 7, 8, 9, 10, 11, 12, 13, 14, 15, 16, 17, 18]), none, none, none, none, none, none, none]
def Mi (a0 : Value) (w : World) (K : Value → World → Prop) : Prop :=
 lp (α := Value) (.int .i64 0) w fun again3 x3 d_ w =>
 X4 P .len [T.k] T.d [false] [a0] w fun t7 w =>
 Q3 P .lss T.d (.tmp 5) (.tmp 7) x3 t7 w fun t8 w =>
 X1 t8 (
 indexAddr P T.k a0 x3 w fun t13 w =>
 Q2 P T.n t13 w fun t14 w =>
 Q1 P F.b8 [t14] w fun t15 w =>
 Q3 P .neq T.t (.tmp 16) (.const (.int .i64 0)) t15 (.int .i64 0) w fun t17 w =>
 X1 t17 (
 K t15 w) (
 Q3 P .add T.d (.tmp 9) (.const (.int .i64 1)) x3 (.int .i64 1) w fun t10 w =>
 again3 t10 w)) (
 K (.int .i64 0) w)
theorem Ic {a0 : Value} {w : World} {K : Value → World → Prop} (h : Mi a0 w K) : Q1 P F.aO [a0] w K := Q9 Ig Tryz.func152 rfl (by decide) (by kernel_rfl) h
def Rw : W3 := [none, none, none, none, some ([3, 4], [3, 4, 21, 22, 23, 24, 25, 26, 27, 28, 29, 30, 31, 32, 33, 34, 35, 36]), none, none, none, none, none, none, none, none, none, some ([3, 6], [3, 6, 7, 60, 61, 62, 63, 64, 65, 66, 67, 68, 69, 70, 71, 72, 73, 74, 75, 76, 77, 78, 79, 80, 81, 82, 83, 84, 85, 86, 87, 88, 89, 90, 91, 92, 93, 94, 95, 96, 97, 98, 99, 100, 101, 102, 103, 104, 105, 106]), none, none, none, none, none]
def Ud (a0 : Value) (w : World) (K : Value → World → Prop) : Prop :=
 box P T.b a0 w fun t1 w =>
 fieldAddr P T.b t1 0 w fun t8 w =>
 Q2 P T.c t8 w fun t9 w =>
 Q1 P F.r [t9] w fun t10 w =>
 Q0 t10 true w (fieldAddr P T.b t1 2) fun t12 w =>
 Q0 t10 true w (Q2 P T.c t12) fun t13 w =>
 Q0 t10 true w (Q3 P .eql T.c (.tmp 13) (.const (.string ⟨#[]⟩)) t13 (.string ⟨#[]⟩)) fun t14 w =>
 Q0 t10 true w (fun w J => J t14 w) fun t15 w =>
 Q0 t15 false w (fieldAddr P T.b t1 2) fun t16 w =>
 Q0 t15 false w (Q2 P T.c t16) fun t17 w =>
 Q0 t15 false w (Q1 P F.i [t17]) fun t18 w =>
 Q0 t10 true w (pick P t15 (.bool true) t18) fun t19 w =>
 pick P t10 t19 (.bool false) w fun t20 w =>
 lp (α := Value × Value) (t20, (.int .i64 0)) w fun again4 x4 d_ w =>
 fieldAddr P T.b t1 1 w fun t22 w =>
 Q2 P T.f t22 w fun t23 w =>
 X4 P .len [T.f] T.d [false] [t23] w fun t24 w =>
 Q3 P .lss T.d (.tmp 21) (.tmp 24) x4.2 t24 w fun t25 w =>
 X1 t25 (
 Q0 x4.1 true w (fieldAddr P T.b t1 1) fun t30 w =>
 Q0 x4.1 true w (Q2 P T.f t30) fun t31 w =>
 Q0 x4.1 true w (fun w J => J x4.2 w) fun t32 w =>
 Q0 x4.1 true w (indexAddr P T.f t31 t32) fun t33 w =>
 Q0 x4.1 true w (Q2 P T.c t33) fun t34 w =>
 Q0 x4.1 true w (Q1 P F.i [t34]) fun t35 w =>
 pick P x4.1 t35 (.bool false) w fun t36 w =>
 Q3 P .add T.d (.tmp 26) (.const (.int .i64 1)) x4.2 (.int .i64 1) w fun t27 w =>
 again4 (t36, t27) w) (
 fieldAddr P T.b t1 3 w fun t37 w =>
 Q2 P T.m t37 w fun t38 w =>
 X1 t38 (
 Q0 x4.1 true w (fieldAddr P T.b t1 4) fun t41 w =>
 Q0 x4.1 true w (Q2 P T.d t41) fun t42 w =>
 Q0 x4.1 true w (Q3 P .eql T.d (.tmp 42) (.const (.int .i64 0)) t42 (.int .i64 0)) fun t43 w =>
 pick P x4.1 t43 (.bool false) w fun t44 w =>
 Q0 t44 true w (fieldAddr P T.b t1 5) fun t46 w =>
 Q0 t44 true w (Q2 P T.k t46) fun t47 w =>
 Q0 t44 true w (X4 P .len [T.k] T.d [false] [t47]) fun t48 w =>
 Q0 t44 true w (Q3 P .eql T.d (.tmp 48) (.const (.int .i64 0)) t48 (.int .i64 0)) fun t49 w =>
 pick P t44 t49 (.bool false) w fun t50 w =>
 Q0 t50 true w (fieldAddr P T.b t1 6) fun t52 w =>
 Q0 t50 true w (Q2 P T.j t52) fun t53 w =>
 Q0 t50 true w (X4 P .len [T.j] T.d [false] [t53]) fun t54 w =>
 Q0 t50 true w (Q3 P .eql T.d (.tmp 54) (.const (.int .i64 0)) t54 (.int .i64 0)) fun t55 w =>
 pick P t50 t55 (.bool false) w fun t56 w =>
 K t56 w) (
 fieldAddr P T.b t1 5 w fun t57 w =>
 Q2 P T.k t57 w fun t58 w =>
 X4 P .len [T.k] T.d [false] [t58] w fun t59 w =>
 lp (α := Value × Value) (x4.1, (.int .i64 0)) w fun again14 x14 d_ w =>
 fieldAddr P T.b t1 6 w fun t61 w =>
 Q2 P T.j t61 w fun t62 w =>
 X4 P .len [T.j] T.d [false] [t62] w fun t63 w =>
 Q3 P .lss T.d (.tmp 60) (.tmp 63) x14.2 t63 w fun t64 w =>
 X1 t64 (
 fieldAddr P T.b t1 6 w fun t67 w =>
 Q2 P T.j t67 w fun t68 w =>
 indexAddr P T.j t68 x14.2 w fun t70 w =>
 Q2 P T.l t70 w fun t71 w =>
 M5 P T.l w fun t7 w =>
 V7 P T.l t7 t71 w fun _u w =>
 Q0 x14.1 true w (fieldAddr P T.l t7 0) fun t74 w =>
 Q0 x14.1 true w (Q2 P T.d t74) fun t75 w =>
 Q0 x14.1 true w (Q3 P .geq T.d (.tmp 75) (.const (.int .i64 0)) t75 (.int .i64 0)) fun t76 w =>
 pick P x14.1 t76 (.bool false) w fun t77 w =>
 Q0 t77 true w (fieldAddr P T.l t7 0) fun t79 w =>
 Q0 t77 true w (Q2 P T.d t79) fun t80 w =>
 Q0 t77 true w (fieldAddr P T.l t7 1) fun t81 w =>
 Q0 t77 true w (Q2 P T.d t81) fun t82 w =>
 Q0 t77 true w (Q3 P .lss T.d (.tmp 80) (.tmp 82) t80 t82) fun t83 w =>
 pick P t77 t83 (.bool false) w fun t84 w =>
 Q0 t84 true w (fieldAddr P T.l t7 1) fun t86 w =>
 Q0 t84 true w (Q2 P T.d t86) fun t87 w =>
 Q0 t84 true w (fun w J => J t59 w) fun t88 w =>
 Q0 t84 true w (Q3 P .leq T.d (.tmp 87) (.tmp 88) t87 t88) fun t89 w =>
 pick P t84 t89 (.bool false) w fun t90 w =>
 Q0 t90 true w (fieldAddr P T.l t7 2) fun t92 w =>
 Q0 t90 true w (Q2 P T.d t92) fun t93 w =>
 Q0 t90 true w (Q3 P .geq T.d (.tmp 93) (.const (.int .i64 0)) t93 (.int .i64 0)) fun t94 w =>
 pick P t90 t94 (.bool false) w fun t95 w =>
 Q0 t95 true w (fieldAddr P T.l t7 2) fun t97 w =>
 Q0 t95 true w (Q2 P T.d t97) fun t98 w =>
 Q0 t95 true w (fun w J => J t59 w) fun t99 w =>
 Q0 t95 true w (Q3 P .lss T.d (.tmp 98) (.tmp 99) t98 t99) fun t100 w =>
 pick P t95 t100 (.bool false) w fun t101 w =>
 Q0 t101 true w (fieldAddr P T.l t7 3) fun t103 w =>
 Q0 t101 true w (Q2 P T.c t103) fun t104 w =>
 Q0 t101 true w (Q1 P F.e [t104]) fun t105 w =>
 pick P t101 t105 (.bool false) w fun t106 w =>
 Q3 P .add T.d (.tmp 65) (.const (.int .i64 1)) x14.2 (.int .i64 1) w fun t66 w =>
 again14 (t106, t66) w) (
 Q0 x14.1 true w (fun w J => J t59 w) fun t109 w =>
 Q0 x14.1 true w (Q3 P .gtr T.d (.tmp 109) (.const (.int .i64 0)) t109 (.int .i64 0)) fun t110 w =>
 pick P x14.1 t110 (.bool false) w fun t111 w =>
 Q0 t111 true w (fieldAddr P T.b t1 4) fun t113 w =>
 Q0 t111 true w (Q2 P T.d t113) fun t114 w =>
 Q0 t111 true w (fieldAddr P T.b t1 1) fun t115 w =>
 Q0 t111 true w (Q2 P T.f t115) fun t116 w =>
 Q0 t111 true w (X4 P .len [T.f] T.d [false] [t116]) fun t117 w =>
 Q0 t111 true w (Q3 P .gtr T.d (.tmp 114) (.tmp 117) t114 t117) fun t118 w =>
 pick P t111 t118 (.bool false) w fun t119 w =>
 Q0 t119 true w (fieldAddr P T.b t1 5) fun t121 w =>
 Q0 t119 true w (Q2 P T.k t121) fun t122 w =>
 Q0 t119 true w (Q1 P F.aO [t122]) fun t123 w =>
 Q0 t119 true w (Q3 P .eql T.t (.tmp 123) (.const (.int .i64 0)) t123 (.int .i64 0)) fun t124 w =>
 pick P t119 t124 (.bool false) w fun t125 w =>
 K t125 w)))
theorem Rx {a0 : Value} {w : World} {K : Value → World → Prop} (h : Ud a0 w K) : Q1 P F.w [a0] w K := Q9 Rw Tryz.func127 rfl (by decide) (by kernel_rfl) h
end Go.Proofs.YtdnfaboigajkhaaGreatDoor

set_option maxRecDepth 100000
namespace Go.Proofs.YtdnfaboigajkhaaGreatDoor
open Go.Emb
def Bl : W3 := [none, none, none, none, some ([3, 4], [3, 4, 5, 26, 27, 28, 29, 30, 31, 32, 33, 34, 35, 36, 37, 38, 39, 40, 41, 42, 43, 44, 45, 46, 47, 48, 49, 50, 51, 52, 53, 54, 55, 56, 57, 58, 59, 60, 61, 62, 63, 64, 65, 66, 67, 68, 69, 70]), none, none, none, none, none, some ([3, 5], [3, 5, 52, 53, 54, 55, 56, 57, 58, 59, 60, 61, 62, 63, 64, 65, 66, 67, 68, 69, 70]), none, none, none, none, none, some ([3, 6], [3, 6, 7, 71, 72, 73, 74, 75, 76, 77, 78, 79, 80, 81, 82, 83, 84, 85, 86, 87, 88, 89, 90, 91, 92, 93, 94, 95, 96, 97, 98, 99, 100, 101, 102, 103, 104, 105, 106, 107, 108, 109, 110, 111, 112, 113, 114, 115, 116, 117, 118, 119, 120, 121, 122]), none, none, none, none, none, some ([3, 7], [3, 7, 102, 103, 104, 105, 106, 107, 108, 109, 110, 111, 112, 113, 114, 115, 116, 117, 118, 119, 120, 121, 122]), none, none, none, none, none, some ([3, 8], [3, 8, 9, 10, 123, 124, 125, 126, 127, 128, 129, 130, 131, 132, 133, 134, 135, 136, 137, 138, 139, 140, 141, 142, 143, 144, 145, 146, 147, 148, 149, 150, 151, 152, 153, 154, 155, 156, 157, 158, 159, 160, 161, 162, 163, 164, 165, 166, 167, 168, 169, 170, 171, 172, 173, 174]), none, none, none, none, none, none, some ([3, 10], [3, 10, 158, 159, 160, 161, 162, 163, 164, 165, 166, 167, 168, 169, 170, 171, 172, 173, 174]), none, none, none, none]
def Vi (a0 : Value) (w : World) (K : Value → World → Prop) : Prop :=
 box P T.a a0 w fun t1 w =>
 fieldAddr P T.a t1 0 w fun t11 w =>
 Q2 P T.c t11 w fun t12 w =>
 Q1 P F.e [t12] w fun t13 w =>
 Q0 t13 true w (fieldAddr P T.a t1 1) fun t15 w =>
 Q0 t13 true w (Q2 P T.c t15) fun t16 w =>
 Q0 t13 true w (Q1 P F.e [t16]) fun t17 w =>
 pick P t13 t17 (.bool false) w fun t18 w =>
 Q0 t18 true w (fieldAddr P T.a t1 0) fun t20 w =>
 Q0 t18 true w (Q2 P T.c t20) fun t21 w =>
 Q0 t18 true w (fieldAddr P T.a t1 1) fun t22 w =>
 Q0 t18 true w (Q2 P T.c t22) fun t23 w =>
 Q0 t18 true w (Q3 P .neq T.c (.tmp 21) (.tmp 23) t21 t23) fun t24 w =>
 pick P t18 t24 (.bool false) w fun t25 w =>
 lp (α := Value × Value) (t25, (.int .i64 0)) w fun again4 x4 d_ w =>
 fieldAddr P T.a t1 2 w fun t27 w =>
 Q2 P T.f t27 w fun t28 w =>
 X4 P .len [T.f] T.d [false] [t28] w fun t29 w =>
 Q3 P .lss T.d (.tmp 26) (.tmp 29) x4.2 t29 w fun t30 w =>
 X1 t30 (
 dr w fun Tr Br =>
 Q7 Tr (fun φ35 => ∀ w, Br w → Q0 x4.1 true w (fieldAddr P T.a t1 2) (dk Tr φ35 w)) fun φ35 =>
 Q7 Tr (fun φ37 => ∀ w, Br w → Q0 x4.1 true w (fun w J => J x4.2 w) (dk Tr φ37 w)) fun φ37 =>
 Q7 Tr (fun φ36 => ∀ t35 w, Br w → φ35 t35 w → Q0 x4.1 true w (Q2 P T.f t35) (dk Tr φ36 w)) fun φ36 =>
 Q7 Tr (fun φ38 => ∀ t36 t37 w, Br w → φ36 t36 w → φ37 t37 w → Q0 x4.1 true w (indexAddr P T.f t36 t37) (dk Tr φ38 w)) fun φ38 =>
 Q7 Tr (fun φ39 => ∀ t38 w, Br w → φ38 t38 w → Q0 x4.1 true w (Q2 P T.c t38) (dk Tr φ39 w)) fun φ39 =>
 Q7 Tr (fun φ40 => ∀ t39 w, Br w → φ39 t39 w → Q0 x4.1 true w (Q1 P F.e [t39]) (dk Tr φ40 w)) fun φ40 =>
 Q7 Tr (fun φ41 => ∀ t40 w, Br w → φ40 t40 w → pick P x4.1 t40 (.bool false) w (dk Tr φ41 w)) fun φ41 =>
 Q7 Tr (fun φ43 => ∀ t41 w, Br w → φ41 t41 w → Q0 t41 true w (fieldAddr P T.a t1 2) (dk Tr φ43 w)) fun φ43 =>
 Q7 Tr (fun φ45 => ∀ t41 w, Br w → φ41 t41 w → Q0 t41 true w (fun w J => J x4.2 w) (dk Tr φ45 w)) fun φ45 =>
 Q7 Tr (fun φ48 => ∀ t41 w, Br w → φ41 t41 w → Q0 t41 true w (fieldAddr P T.a t1 0) (dk Tr φ48 w)) fun φ48 =>
 Q7 Tr (fun φ44 => ∀ t41 t43 w, Br w → φ41 t41 w → φ43 t43 w → Q0 t41 true w (Q2 P T.f t43) (dk Tr φ44 w)) fun φ44 =>
 Q7 Tr (fun φ46 => ∀ t41 t44 t45 w, Br w → φ41 t41 w → φ44 t44 w → φ45 t45 w → Q0 t41 true w (indexAddr P T.f t44 t45) (dk Tr φ46 w)) fun φ46 =>
 Q7 Tr (fun φ47 => ∀ t41 t46 w, Br w → φ41 t41 w → φ46 t46 w → Q0 t41 true w (Q2 P T.c t46) (dk Tr φ47 w)) fun φ47 =>
 Q7 Tr (fun φ49 => ∀ t41 t48 w, Br w → φ41 t41 w → φ48 t48 w → Q0 t41 true w (Q2 P T.c t48) (dk Tr φ49 w)) fun φ49 =>
 ∀ t35 t37 t36 t38 t39 t40 t41 t43 t45 t48 t44 t46 t47 t49 w, Br w → φ35 t35 w → φ37 t37 w → φ36 t36 w → φ38 t38 w → φ39 t39 w → φ40 t40 w → φ41 t41 w → φ43 t43 w → φ45 t45 w → φ48 t48 w → φ44 t44 w → φ46 t46 w → φ47 t47 w → φ49 t49 w → 
 Q0 t41 true w (Q3 P .neq T.c (.tmp 47) (.tmp 49) t47 t49) fun t50 w =>
 pick P t41 t50 (.bool false) w fun t51 w =>
 lp (α := Value × Value) (t51, (.int .i64 0)) w fun again10 x10 d_ w =>
 Q3 P .lss T.d (.tmp 52) (.tmp 53) x10.2 x4.2 w fun t54 w =>
 X1 t54 (
 dr w fun Tr Br =>
 Q7 Tr (fun φ59 => ∀ w, Br w → Q0 x10.1 true w (fieldAddr P T.a t1 2) (dk Tr φ59 w)) fun φ59 =>
 Q7 Tr (fun φ61 => ∀ w, Br w → Q0 x10.1 true w (fun w J => J x10.2 w) (dk Tr φ61 w)) fun φ61 =>
 Q7 Tr (fun φ64 => ∀ w, Br w → Q0 x10.1 true w (fieldAddr P T.a t1 2) (dk Tr φ64 w)) fun φ64 =>
 Q7 Tr (fun φ66 => ∀ w, Br w → Q0 x10.1 true w (fun w J => J x4.2 w) (dk Tr φ66 w)) fun φ66 =>
 Q7 Tr (fun φ60 => ∀ t59 w, Br w → φ59 t59 w → Q0 x10.1 true w (Q2 P T.f t59) (dk Tr φ60 w)) fun φ60 =>
 Q7 Tr (fun φ62 => ∀ t60 t61 w, Br w → φ60 t60 w → φ61 t61 w → Q0 x10.1 true w (indexAddr P T.f t60 t61) (dk Tr φ62 w)) fun φ62 =>
 Q7 Tr (fun φ63 => ∀ t62 w, Br w → φ62 t62 w → Q0 x10.1 true w (Q2 P T.c t62) (dk Tr φ63 w)) fun φ63 =>
 Q7 Tr (fun φ65 => ∀ t64 w, Br w → φ64 t64 w → Q0 x10.1 true w (Q2 P T.f t64) (dk Tr φ65 w)) fun φ65 =>
 Q7 Tr (fun φ67 => ∀ t65 t66 w, Br w → φ65 t65 w → φ66 t66 w → Q0 x10.1 true w (indexAddr P T.f t65 t66) (dk Tr φ67 w)) fun φ67 =>
 Q7 Tr (fun φ68 => ∀ t67 w, Br w → φ67 t67 w → Q0 x10.1 true w (Q2 P T.c t67) (dk Tr φ68 w)) fun φ68 =>
 ∀ t59 t61 t64 t66 t60 t62 t63 t65 t67 t68 w, Br w → φ59 t59 w → φ61 t61 w → φ64 t64 w → φ66 t66 w → φ60 t60 w → φ62 t62 w → φ63 t63 w → φ65 t65 w → φ67 t67 w → φ68 t68 w → 
 Q0 x10.1 true w (Q3 P .neq T.c (.tmp 63) (.tmp 68) t63 t68) fun t69 w =>
 pick P x10.1 t69 (.bool false) w fun t70 w =>
 Q3 P .add T.d (.tmp 55) (.const (.int .i64 1)) x10.2 (.int .i64 1) w fun t56 w =>
 again10 (t70, t56) w) (
 Q3 P .add T.d (.tmp 31) (.const (.int .i64 1)) x4.2 (.int .i64 1) w fun t32 w =>
 again4 (x10.1, t32) w)) (
 lp (α := Value × Value) (x4.1, (.int .i64 0)) w fun again16 x16 d_ w =>
 fieldAddr P T.a t1 6 w fun t72 w =>
 Q2 P T.h t72 w fun t73 w =>
 X4 P .len [T.h] T.d [false] [t73] w fun t74 w =>
 Q3 P .lss T.d (.tmp 71) (.tmp 74) x16.2 t74 w fun t75 w =>
 X1 t75 (
 Q0 x16.1 true w (fieldAddr P T.a t1 6) fun t80 w =>
 Q0 x16.1 true w (Q2 P T.h t80) fun t81 w =>
 Q0 x16.1 true w (fun w J => J x16.2 w) fun t82 w =>
 Q0 x16.1 true w (indexAddr P T.h t81 t82) fun t83 w =>
 Q0 x16.1 true w (fieldAddr P T.i t83 0) fun t84 w =>
 Q0 x16.1 true w (Q2 P T.c t84) fun t85 w =>
 Q0 x16.1 true w (Q1 P F.r [t85]) fun t86 w =>
 pick P x16.1 t86 (.bool false) w fun t87 w =>
 Q0 t87 true w (fieldAddr P T.a t1 6) fun t89 w =>
 Q0 t87 true w (Q2 P T.h t89) fun t90 w =>
 Q0 t87 true w (fun w J => J x16.2 w) fun t91 w =>
 Q0 t87 true w (indexAddr P T.h t90 t91) fun t92 w =>
 Q0 t87 true w (fieldAddr P T.i t92 1) fun t93 w =>
 Q0 t87 true w (Q2 P T.c t93) fun t94 w =>
 Q0 t87 true w (Q1 P F.i [t94]) fun t95 w =>
 pick P t87 t95 (.bool false) w fun t96 w =>
 Q0 t96 true w (fieldAddr P T.a t1 3) fun t98 w =>
 Q0 t96 true w (Q2 P T.m t98) fun t99 w =>
 Q0 t96 true w (V1 P .not t99) fun t100 w =>
 pick P t96 t100 (.bool false) w fun t101 w =>
 lp (α := Value × Value) (t101, (.int .i64 0)) w fun again22 x22 d_ w =>
 Q3 P .lss T.d (.tmp 102) (.tmp 103) x22.2 x16.2 w fun t104 w =>
 X1 t104 (
 dr w fun Tr Br =>
 Q7 Tr (fun φ109 => ∀ w, Br w → Q0 x22.1 true w (fieldAddr P T.a t1 6) (dk Tr φ109 w)) fun φ109 =>
 Q7 Tr (fun φ111 => ∀ w, Br w → Q0 x22.1 true w (fun w J => J x22.2 w) (dk Tr φ111 w)) fun φ111 =>
 Q7 Tr (fun φ115 => ∀ w, Br w → Q0 x22.1 true w (fieldAddr P T.a t1 6) (dk Tr φ115 w)) fun φ115 =>
 Q7 Tr (fun φ117 => ∀ w, Br w → Q0 x22.1 true w (fun w J => J x16.2 w) (dk Tr φ117 w)) fun φ117 =>
 Q7 Tr (fun φ110 => ∀ t109 w, Br w → φ109 t109 w → Q0 x22.1 true w (Q2 P T.h t109) (dk Tr φ110 w)) fun φ110 =>
 Q7 Tr (fun φ112 => ∀ t110 t111 w, Br w → φ110 t110 w → φ111 t111 w → Q0 x22.1 true w (indexAddr P T.h t110 t111) (dk Tr φ112 w)) fun φ112 =>
 Q7 Tr (fun φ113 => ∀ t112 w, Br w → φ112 t112 w → Q0 x22.1 true w (fieldAddr P T.i t112 0) (dk Tr φ113 w)) fun φ113 =>
 Q7 Tr (fun φ114 => ∀ t113 w, Br w → φ113 t113 w → Q0 x22.1 true w (Q2 P T.c t113) (dk Tr φ114 w)) fun φ114 =>
 Q7 Tr (fun φ116 => ∀ t115 w, Br w → φ115 t115 w → Q0 x22.1 true w (Q2 P T.h t115) (dk Tr φ116 w)) fun φ116 =>
 Q7 Tr (fun φ118 => ∀ t116 t117 w, Br w → φ116 t116 w → φ117 t117 w → Q0 x22.1 true w (indexAddr P T.h t116 t117) (dk Tr φ118 w)) fun φ118 =>
 Q7 Tr (fun φ119 => ∀ t118 w, Br w → φ118 t118 w → Q0 x22.1 true w (fieldAddr P T.i t118 0) (dk Tr φ119 w)) fun φ119 =>
 Q7 Tr (fun φ120 => ∀ t119 w, Br w → φ119 t119 w → Q0 x22.1 true w (Q2 P T.c t119) (dk Tr φ120 w)) fun φ120 =>
 ∀ t109 t111 t115 t117 t110 t112 t113 t114 t116 t118 t119 t120 w, Br w → φ109 t109 w → φ111 t111 w → φ115 t115 w → φ117 t117 w → φ110 t110 w → φ112 t112 w → φ113 t113 w → φ114 t114 w → φ116 t116 w → φ118 t118 w → φ119 t119 w → φ120 t120 w → 
 Q0 x22.1 true w (Q3 P .neq T.c (.tmp 114) (.tmp 120) t114 t120) fun t121 w =>
 pick P x22.1 t121 (.bool false) w fun t122 w =>
 Q3 P .add T.d (.tmp 105) (.const (.int .i64 1)) x22.2 (.int .i64 1) w fun t106 w =>
 again22 (t122, t106) w) (
 Q3 P .add T.d (.tmp 76) (.const (.int .i64 1)) x16.2 (.int .i64 1) w fun t77 w =>
 again16 (x22.1, t77) w)) (
 lp (α := Value × Value) (x16.1, (.int .i64 0)) w fun again28 x28 d_ w =>
 fieldAddr P T.a t1 7 w fun t124 w =>
 Q2 P T.e t124 w fun t125 w =>
 X4 P .len [T.e] T.d [false] [t125] w fun t126 w =>
 Q3 P .lss T.d (.tmp 123) (.tmp 126) x28.2 t126 w fun t127 w =>
 X1 t127 (
 fieldAddr P T.a t1 7 w fun t130 w =>
 Q2 P T.e t130 w fun t131 w =>
 indexAddr P T.e t131 x28.2 w fun t133 w =>
 Q2 P T.b t133 w fun t134 w =>
 M5 P T.b w fun t9 w =>
 V7 P T.b t9 t134 w fun _u w =>
 Q0 x28.1 true w (Q2 P T.b t9) fun t137 w =>
 Q0 x28.1 true w (Q1 P F.w [t137]) fun t138 w =>
 pick P x28.1 t138 (.bool false) w fun t139 w =>
 Q0 t139 true w (fieldAddr P T.b t9 3) fun t141 w =>
 Q0 t139 true w (Q2 P T.m t141) fun t142 w =>
 Q0 t139 true w (V1 P .not t142) fun t143 w =>
 Q0 t139 true w (fun w J => J t143 w) fun t144 w =>
 Q0 t144 false w (fieldAddr P T.a t1 4) fun t145 w =>
 Q0 t144 false w (Q2 P T.m t145) fun t146 w =>
 Q0 t139 true w (pick P t144 (.bool true) t146) fun t147 w =>
 pick P t139 t147 (.bool false) w fun t148 w =>
 Q0 t148 true w (fieldAddr P T.a t1 3) fun t150 w =>
 Q0 t148 true w (Q2 P T.m t150) fun t151 w =>
 Q0 t148 true w (V1 P .not t151) fun t152 w =>
 Q0 t148 true w (fun w J => J t152 w) fun t153 w =>
 Q0 t153 false w (fieldAddr P T.b t9 3) fun t154 w =>
 Q0 t153 false w (Q2 P T.m t154) fun t155 w =>
 Q0 t148 true w (pick P t153 (.bool true) t155) fun t156 w =>
 pick P t148 t156 (.bool false) w fun t157 w =>
 lp (α := Value × Value) (t157, (.int .i64 0)) w fun again35 x35 d_ w =>
 Q3 P .lss T.d (.tmp 158) (.tmp 159) x35.2 x28.2 w fun t160 w =>
 X1 t160 (
 dr w fun Tr Br =>
 Q7 Tr (fun φ165 => ∀ w, Br w → Q0 x35.1 true w (fieldAddr P T.a t1 7) (dk Tr φ165 w)) fun φ165 =>
 Q7 Tr (fun φ167 => ∀ w, Br w → Q0 x35.1 true w (fun w J => J x35.2 w) (dk Tr φ167 w)) fun φ167 =>
 Q7 Tr (fun φ171 => ∀ w, Br w → Q0 x35.1 true w (fieldAddr P T.b t9 0) (dk Tr φ171 w)) fun φ171 =>
 Q7 Tr (fun φ166 => ∀ t165 w, Br w → φ165 t165 w → Q0 x35.1 true w (Q2 P T.e t165) (dk Tr φ166 w)) fun φ166 =>
 Q7 Tr (fun φ168 => ∀ t166 t167 w, Br w → φ166 t166 w → φ167 t167 w → Q0 x35.1 true w (indexAddr P T.e t166 t167) (dk Tr φ168 w)) fun φ168 =>
 Q7 Tr (fun φ169 => ∀ t168 w, Br w → φ168 t168 w → Q0 x35.1 true w (fieldAddr P T.b t168 0) (dk Tr φ169 w)) fun φ169 =>
 Q7 Tr (fun φ170 => ∀ t169 w, Br w → φ169 t169 w → Q0 x35.1 true w (Q2 P T.c t169) (dk Tr φ170 w)) fun φ170 =>
 Q7 Tr (fun φ172 => ∀ t171 w, Br w → φ171 t171 w → Q0 x35.1 true w (Q2 P T.c t171) (dk Tr φ172 w)) fun φ172 =>
 ∀ t165 t167 t171 t166 t168 t169 t170 t172 w, Br w → φ165 t165 w → φ167 t167 w → φ171 t171 w → φ166 t166 w → φ168 t168 w → φ169 t169 w → φ170 t170 w → φ172 t172 w → 
 Q0 x35.1 true w (Q3 P .neq T.c (.tmp 170) (.tmp 172) t170 t172) fun t173 w =>
 pick P x35.1 t173 (.bool false) w fun t174 w =>
 Q3 P .add T.d (.tmp 161) (.const (.int .i64 1)) x35.2 (.int .i64 1) w fun t162 w =>
 again35 (t174, t162) w) (
 Q3 P .add T.d (.tmp 128) (.const (.int .i64 1)) x28.2 (.int .i64 1) w fun t129 w =>
 again28 (x35.1, t129) w)) (
 Q0 x28.1 true w (fieldAddr P T.a t1 3) fun t177 w =>
 Q0 x28.1 true w (Q2 P T.m t177) fun t178 w =>
 Q0 x28.1 true w (V1 P .not t178) fun t179 w =>
 Q0 x28.1 true w (fun w J => J t179 w) fun t180 w =>
 Q0 t180 false w (fieldAddr P T.a t1 4) fun t181 w =>
 Q0 t180 false w (Q2 P T.m t181) fun t182 w =>
 Q0 t180 false w (fun w J => J t182 w) fun t183 w =>
 Q0 t183 true w (fieldAddr P T.a t1 1) fun t184 w =>
 Q0 t183 true w (Q2 P T.c t184) fun t185 w =>
 Q0 t183 true w (Q3 P .eql T.c (.tmp 185) (.const (.string ⟨#[79, 98, 106, 101, 99, 116]⟩)) t185 (.string ⟨#[79, 98, 106, 101, 99, 116]⟩)) fun t186 w =>
 Q0 t180 false w (pick P t183 t186 (.bool false)) fun t187 w =>
 Q0 x28.1 true w (pick P t180 (.bool true) t187) fun t188 w =>
 pick P x28.1 t188 (.bool false) w fun t189 w =>
 Q0 t189 true w (fieldAddr P T.a t1 4) fun t191 w =>
 Q0 t189 true w (Q2 P T.m t191) fun t192 w =>
 Q0 t189 true w (fun w J => J t192 w) fun t193 w =>
 Q0 t193 true w (fieldAddr P T.a t1 5) fun t194 w =>
 Q0 t193 true w (Q2 P T.m t194) fun t195 w =>
 Q0 t189 true w (pick P t193 t195 (.bool false)) fun t196 w =>
 Q0 t189 true w (V1 P .not t196) fun t197 w =>
 pick P t189 t197 (.bool false) w fun t198 w =>
 K t198 w)))
theorem Sh {a0 : Value} {w : World} {K : Value → World → Prop} (h : Vi a0 w K) : Q1 P F.b5 [a0] w K := Q9 Bl Tryz.func89 rfl (by decide) (by kernel_rfl) h
def Uv (a0 : Value) (w : World) (K : Value → World → Prop) : Prop :=
 box P T.a a0 w fun v_c_1 w =>
 Q2 P T.a v_c_1 w fun t3 w =>
 Q1 P F.bg [t3] w fun t4 w =>
 X1 t4 (
 K (.int .i64 51) w) (
 Q2 P T.a v_c_1 w fun t5 w =>
 Q1 P F.b5 [t5] w fun t6 w =>
 V1 P .not t6 w fun t7 w =>
 X1 t7 (
 K (.int .i64 50) w) (
 K (.int .i64 0) w))
theorem Co {a0 : Value} {w : World} {K : Value → World → Prop} (h : Uv a0 w K) : Q1 P F.b3 [a0] w K := Q9 (List.replicate 8 none) Tryz.func46 rfl (by decide) (by kernel_rfl) h
def Fv : W3 := [none, none, none, some ([5], [4, 5, 6, 7, 8, 9, 10, 11, 12, 13, 14, 15, 16, 17, 18, 19]), none, none, none, none, none, none]
def Lg (a0 a1 : Value) (w : World) (K : Value → World → Prop) : Prop :=
 lp (α := Value) (.int .i64 0) w fun again3 x3 d_ w =>
 X4 P .len [T.g] T.d [false] [a0] w fun t8 w =>
 Q3 P .lss T.d (.tmp 6) (.tmp 8) x3 t8 w fun t9 w =>
 X1 t9 (
 indexAddr P T.g a0 x3 w fun t14 w =>
 fieldAddr P T.a t14 0 w fun t15 w =>
 Q2 P T.c t15 w fun t16 w =>
 Q3 P .eql T.c (.tmp 16) (.tmp 17) t16 a1 w fun t18 w =>
 X1 t18 (
 K x3 w) (
 Q3 P .add T.d (.tmp 10) (.const (.int .i64 1)) x3 (.int .i64 1) w fun t11 w =>
 again3 t11 w)) (
 K (.int .i64 (-1)) w)
theorem Fw {a0 a1 : Value} {w : World} {K : Value → World → Prop} (h : Lg a0 a1 w K) : Q1 P F.b [a0, a1] w K := Q9 Fv Tryz.func47 rfl (by decide) (by kernel_rfl) h
def Rd : W3 := [none, none, none, none, none, none, none, some ([6], [4, 6, 7, 28, 29, 30, 31, 32, 33, 34, 35, 36, 37, 38, 39, 40, 41, 42, 43, 44, 45, 46, 47, 48, 49, 50, 51]), none, none, none, none, none, none, none]
def Uk (a0 a1 : Value) (w : World) (K : Value → World → Prop) : Prop :=
 box P T.a a1 w fun v_c_3 w =>
 fieldAddr P T.a v_c_3 1 w fun t9 w =>
 Q2 P T.c t9 w fun t10 w =>
 Q1 P F.b [a0, t10] w fun t11 w =>
 Q3 P .lss T.d (.tmp 12) (.const (.int .i64 0)) t11 (.int .i64 0) w fun t13 w =>
 Q0 t13 false w (fun w J => J a0 w) fun t15 w =>
 Q0 t13 false w (fun w J => J t11 w) fun t16 w =>
 Q0 t13 false w (indexAddr P T.g t15 t16) fun t17 w =>
 Q0 t13 false w (fieldAddr P T.a t17 3) fun t18 w =>
 Q0 t13 false w (Q2 P T.m t18) fun t19 w =>
 pick P t13 (.bool true) t19 w fun t20 w =>
 Q0 t20 false w (fun w J => J a0 w) fun t22 w =>
 Q0 t20 false w (fun w J => J t11 w) fun t23 w =>
 Q0 t20 false w (indexAddr P T.g t22 t23) fun t24 w =>
 Q0 t20 false w (fieldAddr P T.a t24 5) fun t25 w =>
 Q0 t20 false w (Q2 P T.m t25) fun t26 w =>
 pick P t20 (.bool true) t26 w fun t27 w =>
 X1 t27 (
 K (.int .i64 61) w) (
 lp (α := Value) (.int .i64 0) w fun again7 x7 d_ w =>
 fieldAddr P T.a v_c_3 2 w fun t29 w =>
 Q2 P T.f t29 w fun t30 w =>
 X4 P .len [T.f] T.d [false] [t30] w fun t31 w =>
 Q3 P .lss T.d (.tmp 28) (.tmp 31) x7 t31 w fun t32 w =>
 X1 t32 (
 fieldAddr P T.a v_c_3 2 w fun t36 w =>
 Q2 P T.f t36 w fun t37 w =>
 indexAddr P T.f t37 x7 w fun t39 w =>
 Q2 P T.c t39 w fun t40 w =>
 Q1 P F.b [a0, t40] w fun t41 w =>
 Q3 P .lss T.d (.tmp 42) (.const (.int .i64 0)) t41 (.int .i64 0) w fun t43 w =>
 Q0 t43 false w (fun w J => J a0 w) fun t45 w =>
 Q0 t43 false w (fun w J => J t41 w) fun t46 w =>
 Q0 t43 false w (indexAddr P T.g t45 t46) fun t47 w =>
 Q0 t43 false w (fieldAddr P T.a t47 3) fun t48 w =>
 Q0 t43 false w (Q2 P T.m t48) fun t49 w =>
 Q0 t43 false w (V1 P .not t49) fun t50 w =>
 pick P t43 (.bool true) t50 w fun t51 w =>
 X1 t51 (
 K (.int .i64 62) w) (
 Q3 P .add T.d (.tmp 33) (.const (.int .i64 1)) x7 (.int .i64 1) w fun t34 w =>
 again7 t34 w)) (
 K (.int .i64 0) w))
theorem Ht {a0 a1 : Value} {w : World} {K : Value → World → Prop} (h : Uk a0 a1 w K) : Q1 P F.aV [a0, a1] w K := Q9 Rd Tryz.func48 rfl (by decide) (by kernel_rfl) h
def Bb : W3 := [none, none, none, none, some ([3, 4], [3, 4, 5, 6, 7, 8, 13, 14, 15, 16, 17, 18, 19, 20, 21, 22, 23, 24, 25, 26, 27, 28, 29, 30, 31, 32, 33, 34, 35, 36, 37, 38, 39, 40, 41, 42, 43, 44, 45, 46, 47, 48, 49, 50, 51, 52, 53, 54]), none, none, none, none, none, none, none, some ([7], [7, 8, 34, 35, 36, 37, 38, 39, 40, 41, 42, 43, 44, 45, 46, 47, 48, 49, 50]), none, none, some ([], [8, 40, 41, 42, 43, 44, 45, 46, 47, 48, 49, 50]), none, none, none, none, some ([9], [9, 10, 11, 55, 56, 57, 58, 59, 60, 61, 62, 63, 64, 65, 66, 67, 68, 69, 70, 71, 72, 73, 74, 75, 76, 77, 78, 79, 80, 81, 82, 83, 84, 85, 86, 87, 88, 89, 90, 91, 92, 93, 94, 95, 96, 97, 98, 99, 100, 101, 102, 103]), none, none, none, none, some ([10], [10, 11, 61, 62, 63, 64, 65, 66, 67, 68, 69, 70, 71, 72, 73, 74, 75, 76, 77, 78, 79, 80, 81, 82, 83, 84, 85, 86, 87, 88, 89, 90, 91, 92, 93, 94, 95, 96, 97, 98, 99, 100, 101, 102, 103]), none, none, none, none, some ([11], [11, 67, 68, 69, 70, 71, 72, 73, 74, 75, 76, 77, 78, 79, 80, 81, 82, 83, 84, 85, 86, 87, 88, 89, 90, 91, 92, 93, 94, 95, 96, 97, 98, 99, 100, 101, 102, 103]), none, none, none, none]
def Vj (a0 : Value) (w : World) (K : Value → World → Prop) : Prop :=
 buildSlice P T.y 0 [] w fun t12 w =>
 lp (α := Value × Value) (t12, (.int .i64 0)) w fun again4 x4 d_ w =>
 X4 P .len [T.g] T.d [false] [a0] w fun t15 w =>
 Q3 P .lss T.d (.tmp 13) (.tmp 15) x4.2 t15 w fun t16 w =>
 X1 t16 (
 X4 P .len [T.g] T.d [false] [a0] w fun t20 w =>
 Pg P T.w t20 t20 w fun t21 w =>
 dr w fun Tr Br =>
 Q7 Tr (fun φ24 => ∀ w, Br w → indexAddr P T.g a0 x4.2 w (dk Tr φ24 w)) fun φ24 =>
 Q7 Tr (fun φ25 => ∀ t24 w, Br w → φ24 t24 w → fieldAddr P T.a t24 1 w (dk Tr φ25 w)) fun φ25 =>
 Q7 Tr (fun φ30 => ∀ w, Br w → indexAddr P T.g a0 x4.2 w (dk Tr φ30 w)) fun φ30 =>
 Q7 Tr (fun φ31 => ∀ t30 w, Br w → φ30 t30 w → fieldAddr P T.a t30 2 w (dk Tr φ31 w)) fun φ31 =>
 Q7 Tr (fun φ26 => ∀ t25 w, Br w → φ25 t25 w → Q2 P T.c t25 w (dk Tr φ26 w)) fun φ26 =>
 Q7 Tr (fun φ27 => ∀ t26 w, Br w → φ26 t26 w → buildSlice P T.f 1 [(0, t26)] w (dk Tr φ27 w)) fun φ27 =>
 Q7 Tr (fun φ32 => ∀ t31 w, Br w → φ31 t31 w → Q2 P T.f t31 w (dk Tr φ32 w)) fun φ32 =>
 ∀ t24 t25 t30 t31 t26 t27 t32 w, Br w → φ24 t24 w → φ25 t25 w → φ30 t30 w → φ31 t31 w → φ26 t26 w → φ27 t27 w → φ32 t32 w → 
 X4 P .append [T.f, T.f] T.f [false, false] [t27, t32] w fun t33 w =>
 lp (α := Value) (.int .i64 0) w fun again12 x12 d_ w =>
 X4 P .len [T.f] T.d [false] [t33] w fun t36 w =>
 Q3 P .lss T.d (.tmp 34) (.tmp 36) x12 t36 w fun t37 w =>
 X1 t37 (
 jn (α := Unit) w (fun J15 w =>
 indexAddr P T.f t33 x12 w fun t43 w =>
 Q2 P T.c t43 w fun t44 w =>
 Q1 P F.b [a0, t44] w fun t45 w =>
 Q3 P .geq T.d (.tmp 46) (.const (.int .i64 0)) t45 (.int .i64 0) w fun t47 w =>
 X1 t47 (
 indexAddr P T.w t21 t45 w fun t50 w =>
 V7 P T.m t50 (.bool true) w fun _u w =>
 J15 () w) (
 J15 () w)) fun z15 d_ w =>
 Q3 P .add T.d (.tmp 38) (.const (.int .i64 1)) x12 (.int .i64 1) w fun t39 w =>
 again12 t39 w) (
 buildSlice P T.y 1 [(0, t21)] w fun t53 w =>
 X4 P .append [T.y, T.y] T.y [false, false] [x4.1, t53] w fun t54 w =>
 Q3 P .add T.d (.tmp 17) (.const (.int .i64 1)) x4.2 (.int .i64 1) w fun t18 w =>
 again4 (t54, t18) w)) (
 lp (α := Value) (.int .i64 0) w fun again20 x20 d_ w =>
 X4 P .len [T.g] T.d [false] [a0] w fun t57 w =>
 Q3 P .lss T.d (.tmp 55) (.tmp 57) x20 t57 w fun t58 w =>
 X1 t58 (
 lp (α := Value) (.int .i64 0) w fun again25 x25 d_ w =>
 X4 P .len [T.g] T.d [false] [a0] w fun t63 w =>
 Q3 P .lss T.d (.tmp 61) (.tmp 63) x25 t63 w fun t64 w =>
 X1 t64 (
 lp (α := Value) (.int .i64 0) w fun again30 x30 d_ w =>
 X4 P .len [T.g] T.d [false] [a0] w fun t69 w =>
 Q3 P .lss T.d (.tmp 67) (.tmp 69) x30 t69 w fun t70 w =>
 X1 t70 (
 dr w fun Tr Br =>
 Q7 Tr (fun φ75 => ∀ w, Br w → indexAddr P T.y x4.1 x25 w (dk Tr φ75 w)) fun φ75 =>
 Q7 Tr (fun φ80 => ∀ w, Br w → indexAddr P T.y x4.1 x25 w (dk Tr φ80 w)) fun φ80 =>
 Q7 Tr (fun φ76 => ∀ t75 w, Br w → φ75 t75 w → Q2 P T.w t75 w (dk Tr φ76 w)) fun φ76 =>
 Q7 Tr (fun φ81 => ∀ t80 w, Br w → φ80 t80 w → Q2 P T.w t80 w (dk Tr φ81 w)) fun φ81 =>
 Q7 Tr (fun φ83 => ∀ t81 w, Br w → φ81 t81 w → indexAddr P T.w t81 x30 w (dk Tr φ83 w)) fun φ83 =>
 Q7 Tr (fun φ84 => ∀ t83 w, Br w → φ83 t83 w → Q2 P T.m t83 w (dk Tr φ84 w)) fun φ84 =>
 Q7 Tr (fun φ86 => ∀ t84 w, Br w → φ84 t84 w → Q0 t84 false w (fun w J => J x4.1 w) (dk Tr φ86 w)) fun φ86 =>
 Q7 Tr (fun φ87 => ∀ t84 w, Br w → φ84 t84 w → Q0 t84 false w (fun w J => J x25 w) (dk Tr φ87 w)) fun φ87 =>
 Q7 Tr (fun φ88 => ∀ t84 t86 t87 w, Br w → φ84 t84 w → φ86 t86 w → φ87 t87 w → Q0 t84 false w (indexAddr P T.y t86 t87) (dk Tr φ88 w)) fun φ88 =>
 Q7 Tr (fun φ90 => ∀ t84 w, Br w → φ84 t84 w → Q0 t84 false w (fun w J => J x20 w) (dk Tr φ90 w)) fun φ90 =>
 Q7 Tr (fun φ89 => ∀ t84 t88 w, Br w → φ84 t84 w → φ88 t88 w → Q0 t84 false w (Q2 P T.w t88) (dk Tr φ89 w)) fun φ89 =>
 Q7 Tr (fun φ91 => ∀ t84 t89 t90 w, Br w → φ84 t84 w → φ89 t89 w → φ90 t90 w → Q0 t84 false w (indexAddr P T.w t89 t90) (dk Tr φ91 w)) fun φ91 =>
 Q7 Tr (fun φ92 => ∀ t84 t91 w, Br w → φ84 t84 w → φ91 t91 w → Q0 t84 false w (Q2 P T.m t91) (dk Tr φ92 w)) fun φ92 =>
 Q7 Tr (fun φ93 => ∀ t84 t92 w, Br w → φ84 t84 w → φ92 t92 w → Q0 t84 false w (fun w J => J t92 w) (dk Tr φ93 w)) fun φ93 =>
 Q7 Tr (fun φ94 => ∀ t93 w, Br w → φ93 t93 w → Q0 t93 true w (fun w J => J x4.1 w) (dk Tr φ94 w)) fun φ94 =>
 Q7 Tr (fun φ95 => ∀ t93 w, Br w → φ93 t93 w → Q0 t93 true w (fun w J => J x20 w) (dk Tr φ95 w)) fun φ95 =>
 Q7 Tr (fun φ96 => ∀ t93 t94 t95 w, Br w → φ93 t93 w → φ94 t94 w → φ95 t95 w → Q0 t93 true w (indexAddr P T.y t94 t95) (dk Tr φ96 w)) fun φ96 =>
 Q7 Tr (fun φ98 => ∀ t93 w, Br w → φ93 t93 w → Q0 t93 true w (fun w J => J x30 w) (dk Tr φ98 w)) fun φ98 =>
 Q7 Tr (fun φ97 => ∀ t93 t96 w, Br w → φ93 t93 w → φ96 t96 w → Q0 t93 true w (Q2 P T.w t96) (dk Tr φ97 w)) fun φ97 =>
 Q7 Tr (fun φ99 => ∀ t93 t97 t98 w, Br w → φ93 t93 w → φ97 t97 w → φ98 t98 w → Q0 t93 true w (indexAddr P T.w t97 t98) (dk Tr φ99 w)) fun φ99 =>
 Q7 Tr (fun φ100 => ∀ t93 t99 w, Br w → φ93 t93 w → φ99 t99 w → Q0 t93 true w (Q2 P T.m t99) (dk Tr φ100 w)) fun φ100 =>
 Q7 Tr (fun φ101 => ∀ t84 t93 t100 w, Br w → φ84 t84 w → φ93 t93 w → φ100 t100 w → Q0 t84 false w (pick P t93 t100 (.bool false)) (dk Tr φ101 w)) fun φ101 =>
 Q7 Tr (fun φ102 => ∀ t84 t101 w, Br w → φ84 t84 w → φ101 t101 w → pick P t84 (.bool true) t101 w (dk Tr φ102 w)) fun φ102 =>
 ∀ t75 t80 t76 t81 t83 t84 t86 t87 t88 t90 t89 t91 t92 t93 t94 t95 t96 t98 t97 t99 t100 t101 t102 w, Br w → φ75 t75 w → φ80 t80 w → φ76 t76 w → φ81 t81 w → φ83 t83 w → φ84 t84 w → φ86 t86 w → φ87 t87 w → φ88 t88 w → φ90 t90 w → φ89 t89 w → φ91 t91 w → φ92 t92 w → φ93 t93 w → φ94 t94 w → φ95 t95 w → φ96 t96 w → φ98 t98 w → φ97 t97 w → φ99 t99 w → φ100 t100 w → φ101 t101 w → φ102 t102 w → 
 indexAddr P T.w t76 x30 w fun t103 w =>
 V7 P T.m t103 t102 w fun _u w =>
 Q3 P .add T.d (.tmp 71) (.const (.int .i64 1)) x30 (.int .i64 1) w fun t72 w =>
 again30 t72 w) (
 Q3 P .add T.d (.tmp 65) (.const (.int .i64 1)) x25 (.int .i64 1) w fun t66 w =>
 again25 t66 w)) (
 Q3 P .add T.d (.tmp 59) (.const (.int .i64 1)) x20 (.int .i64 1) w fun t60 w =>
 again20 t60 w)) (
 K x4.1 w))
theorem Cp {a0 : Value} {w : World} {K : Value → World → Prop} (h : Vj a0 w K) : Q1 P F.aA [a0] w K := Q9 Bb Tryz.func49 rfl (by decide) (by kernel_rfl) h
def Kj : W3 := [none, none, none, none, none, none, some ([9], [8, 9, 16, 17, 18, 19, 20, 21, 22, 23, 24, 25, 26, 27, 28]), none, none, none, none, none, none, none, none, some ([1, 11], [1, 11, 41, 42, 43, 44, 45, 46, 47, 48, 49, 50, 51, 52, 53, 54, 55, 56]), none, none, none, none]
def Mj (a0 a1 a2 a3 : Value) (w : World) (K : Value → World → Prop) : Prop :=
 Q3 P .lss T.d (.tmp 12) (.tmp 13) a3 a2 w fun t14 w =>
 X1 t14 (
 K a1 w) (
 lp (α := Value) (.int .i64 0) w fun again6 x6 d_ w =>
 X4 P .len [T.v] T.d [false] [a1] w fun t18 w =>
 Q3 P .lss T.d (.tmp 16) (.tmp 18) x6 t18 w fun t19 w =>
 X1 t19 (
 indexAddr P T.v a1 x6 w fun t24 w =>
 Q2 P T.d t24 w fun t25 w =>
 Q3 P .eql T.d (.tmp 25) (.tmp 26) t25 a3 w fun t27 w =>
 X1 t27 (
 K a1 w) (
 Q3 P .add T.d (.tmp 20) (.const (.int .i64 1)) x6 (.int .i64 1) w fun t21 w =>
 again6 t21 w)) (
 dr w fun Tr Br =>
 Q7 Tr (fun φ31 => ∀ w, Br w → indexAddr P T.g a0 a3 w (dk Tr φ31 w)) fun φ31 =>
 Q7 Tr (fun φ32 => ∀ t31 w, Br w → φ31 t31 w → fieldAddr P T.a t31 1 w (dk Tr φ32 w)) fun φ32 =>
 Q7 Tr (fun φ37 => ∀ w, Br w → indexAddr P T.g a0 a3 w (dk Tr φ37 w)) fun φ37 =>
 Q7 Tr (fun φ38 => ∀ t37 w, Br w → φ37 t37 w → fieldAddr P T.a t37 2 w (dk Tr φ38 w)) fun φ38 =>
 Q7 Tr (fun φ33 => ∀ t32 w, Br w → φ32 t32 w → Q2 P T.c t32 w (dk Tr φ33 w)) fun φ33 =>
 Q7 Tr (fun φ34 => ∀ t33 w, Br w → φ33 t33 w → buildSlice P T.f 1 [(0, t33)] w (dk Tr φ34 w)) fun φ34 =>
 Q7 Tr (fun φ39 => ∀ t38 w, Br w → φ38 t38 w → Q2 P T.f t38 w (dk Tr φ39 w)) fun φ39 =>
 ∀ t31 t32 t37 t38 t33 t34 t39 w, Br w → φ31 t31 w → φ32 t32 w → φ37 t37 w → φ38 t38 w → φ33 t33 w → φ34 t34 w → φ39 t39 w → 
 X4 P .append [T.f, T.f] T.f [false, false] [t34, t39] w fun t40 w =>
 lp (α := Value × Value) (a1, (.int .i64 0)) w fun again15 x15 d_ w =>
 X4 P .len [T.f] T.d [false] [t40] w fun t43 w =>
 Q3 P .lss T.d (.tmp 41) (.tmp 43) x15.2 t43 w fun t44 w =>
 X1 t44 (
 indexAddr P T.f t40 x15.2 w fun t53 w =>
 Q2 P T.c t53 w fun t54 w =>
 Q1 P F.b [a0, t54] w fun t55 w =>
 Q1 P F.aM [a0, x15.1, a2, t55] w fun t56 w =>
 Q3 P .add T.d (.tmp 45) (.const (.int .i64 1)) x15.2 (.int .i64 1) w fun t46 w =>
 again15 (t56, t46) w) (
 buildSlice P T.v 1 [(0, a3)] w fun t59 w =>
 X4 P .append [T.v, T.v] T.v [false, false] [x15.1, t59] w fun t60 w =>
 K t60 w)))
theorem Kq {a0 a1 a2 a3 : Value} {w : World} {K : Value → World → Prop} (h : Mj a0 a1 a2 a3 w K) : Q1 P F.aM [a0, a1, a2, a3] w K := Q9 Kj Tryz.func50 rfl (by decide) (by kernel_rfl) h
def P7 (a0 a1 : Value) (w : World) (K : Value → World → Prop) : Prop :=
 Q1 P F.b [a0, a1] w fun t8 w =>
 Q3 P .lss T.d (.tmp 9) (.const (.int .i64 0)) t8 (.int .i64 0) w fun t10 w =>
 X1 t10 (
 K (.slice none 0 0) w) (
 dr w fun Tr Br =>
 Q7 Tr (fun φ15 => ∀ w, Br w → indexAddr P T.g a0 t8 w (dk Tr φ15 w)) fun φ15 =>
 Q7 Tr (fun φ16 => ∀ t15 w, Br w → φ15 t15 w → fieldAddr P T.a t15 1 w (dk Tr φ16 w)) fun φ16 =>
 Q7 Tr (fun φ22 => ∀ w, Br w → indexAddr P T.g a0 t8 w (dk Tr φ22 w)) fun φ22 =>
 Q7 Tr (fun φ23 => ∀ t22 w, Br w → φ22 t22 w → fieldAddr P T.a t22 6 w (dk Tr φ23 w)) fun φ23 =>
 Q7 Tr (fun φ11 => ∀ w, Br w → buildSlice P T.h 0 [] w (dk Tr φ11 w)) fun φ11 =>
 Q7 Tr (fun φ17 => ∀ t16 w, Br w → φ16 t16 w → Q2 P T.c t16 w (dk Tr φ17 w)) fun φ17 =>
 Q7 Tr (fun φ18 => ∀ t17 w, Br w → φ17 t17 w → Q1 P F.q [a0, t17] w (dk Tr φ18 w)) fun φ18 =>
 Q7 Tr (fun φ19 => ∀ t11 t18 w, Br w → φ11 t11 w → φ18 t18 w → X4 P .append [T.h, T.h] T.h [false, false] [t11, t18] w (dk Tr φ19 w)) fun φ19 =>
 Q7 Tr (fun φ24 => ∀ t23 w, Br w → φ23 t23 w → Q2 P T.h t23 w (dk Tr φ24 w)) fun φ24 =>
 ∀ t15 t16 t22 t23 t11 t17 t18 t19 t24 w, Br w → φ15 t15 w → φ16 t16 w → φ22 t22 w → φ23 t23 w → φ11 t11 w → φ17 t17 w → φ18 t18 w → φ19 t19 w → φ24 t24 w → 
 X4 P .append [T.h, T.h] T.h [false, false] [t19, t24] w fun t25 w =>
 K t25 w)
theorem Um {a0 a1 : Value} {w : World} {K : Value → World → Prop} (h : P7 a0 a1 w K) : Q1 P F.q [a0, a1] w K := Q9 (List.replicate 6 none) Tryz.func23 rfl (by decide) (by kernel_rfl) h
def Ss : W3 := [none, none, none, none, some ([8], [6, 8, 12, 13, 14, 15, 16, 17, 18, 19, 20, 21, 22, 23, 24, 25]), none, none, none, none, none, none]
def Ux (a0 a1 a2 : Value) (w : World) (K : Value → World → Prop) : Prop :=
 Q1 P F.q [a0, a1] w fun t11 w =>
 lp (α := Value) (.int .i64 0) w fun again4 x4 d_ w =>
 X4 P .len [T.h] T.d [false] [t11] w fun t14 w =>
 Q3 P .lss T.d (.tmp 12) (.tmp 14) x4 t14 w fun t15 w =>
 X1 t15 (
 indexAddr P T.h t11 x4 w fun t20 w =>
 fieldAddr P T.i t20 0 w fun t21 w =>
 Q2 P T.c t21 w fun t22 w =>
 Q3 P .eql T.c (.tmp 22) (.tmp 23) t22 a2 w fun t24 w =>
 X1 t24 (
 K x4 w) (
 Q3 P .add T.d (.tmp 16) (.const (.int .i64 1)) x4 (.int .i64 1) w fun t17 w =>
 again4 t17 w)) (
 K (.int .i64 (-1)) w)
theorem Sr {a0 a1 a2 : Value} {w : World} {K : Value → World → Prop} (h : Ux a0 a1 a2 w K) : Q1 P F.az [a0, a1, a2] w K := Q9 Ss Tryz.func25 rfl (by decide) (by kernel_rfl) h
def Gp : W3 := [none, none, none, some ([5], [4, 5, 6, 7, 8, 9, 10, 11, 12, 13, 14, 15, 16, 17, 18, 19, 20, 21]), none, none, none, none, none, none]
def Mk (a0 a1 : Value) (w : World) (K : Value → World → Prop) : Prop :=
 box P T.a a0 w fun v_c_2 w =>
 lp (α := Value) (.int .i64 0) w fun again3 x3 d_ w =>
 fieldAddr P T.a v_c_2 7 w fun t7 w =>
 Q2 P T.e t7 w fun t8 w =>
 X4 P .len [T.e] T.d [false] [t8] w fun t9 w =>
 Q3 P .lss T.d (.tmp 6) (.tmp 9) x3 t9 w fun t10 w =>
 X1 t10 (
 fieldAddr P T.a v_c_2 7 w fun t13 w =>
 Q2 P T.e t13 w fun t14 w =>
 indexAddr P T.e t14 x3 w fun t16 w =>
 fieldAddr P T.b t16 0 w fun t17 w =>
 Q2 P T.c t17 w fun t18 w =>
 Q3 P .eql T.c (.tmp 18) (.tmp 19) t18 a1 w fun t20 w =>
 X1 t20 (
 K x3 w) (
 Q3 P .add T.d (.tmp 11) (.const (.int .i64 1)) x3 (.int .i64 1) w fun t12 w =>
 again3 t12 w)) (
 K (.int .i64 (-1)) w)
theorem Gl {a0 a1 : Value} {w : World} {K : Value → World → Prop} (h : Mk a0 a1 w K) : Q1 P F.aN [a0, a1] w K := Q9 Gp Tryz.func68 rfl (by decide) (by kernel_rfl) h
def Cb : W3 := [none, none, none, some ([9], [6, 8, 9, 10, 11, 12, 13, 14, 15, 16, 17, 18, 19, 20, 21, 22, 23, 24, 25, 26, 27, 28, 29, 30, 31, 32, 33, 34, 35, 36, 37, 38, 39, 40, 41, 42, 43, 44, 45, 46, 47, 48, 49, 50, 51, 52, 53, 54]), none, none, none, none, none, none, none, none, none, none, none, none]
def Wk (a0 a1 a2 : Value) (w : World) (K : Value → World → Prop) : Prop :=
 box P T.a a1 w fun v_c_4 w =>
 M5 P T.b w fun t7 w =>
 lp (α := Value) (.int .i64 0) w fun again3 x3 d_ w =>
 fieldAddr P T.a v_c_4 2 w fun t16 w =>
 Q2 P T.f t16 w fun t17 w =>
 X4 P .len [T.f] T.d [false] [t17] w fun t18 w =>
 Q3 P .lss T.d (.tmp 15) (.tmp 18) x3 t18 w fun t19 w =>
 X1 t19 (
 fieldAddr P T.a v_c_4 2 w fun t24 w =>
 Q2 P T.f t24 w fun t25 w =>
 indexAddr P T.f t25 x3 w fun t27 w =>
 Q2 P T.c t27 w fun t28 w =>
 Q1 P F.b [a0, t28] w fun t29 w =>
 indexAddr P T.g a0 t29 w fun t30 w =>
 Q2 P T.a t30 w fun t31 w =>
 M5 P T.a w fun v_d_10 w =>
 V7 P T.a v_d_10 t31 w fun _u w =>
 Q2 P T.a v_d_10 w fun t32 w =>
 Q1 P F.aN [t32, a2] w fun t34 w =>
 Q3 P .geq T.d (.tmp 35) (.const (.int .i64 0)) t34 (.int .i64 0) w fun t36 w =>
 X1 t36 (
 dr w fun Tr Br =>
 Q7 Tr (fun φ37 => ∀ w, Br w → fieldAddr P T.a v_d_10 0 w (dk Tr φ37 w)) fun φ37 =>
 Q7 Tr (fun φ39 => ∀ w, Br w → fieldAddr P T.a v_d_10 7 w (dk Tr φ39 w)) fun φ39 =>
 Q7 Tr (fun φ38 => ∀ t37 w, Br w → φ37 t37 w → Q2 P T.c t37 w (dk Tr φ38 w)) fun φ38 =>
 Q7 Tr (fun φ40 => ∀ t39 w, Br w → φ39 t39 w → Q2 P T.e t39 w (dk Tr φ40 w)) fun φ40 =>
 Q7 Tr (fun φ42 => ∀ t40 w, Br w → φ40 t40 w → indexAddr P T.e t40 t34 w (dk Tr φ42 w)) fun φ42 =>
 Q7 Tr (fun φ43 => ∀ t42 w, Br w → φ42 t42 w → Q2 P T.b t42 w (dk Tr φ43 w)) fun φ43 =>
 ∀ t37 t39 t38 t40 t42 t43 w, Br w → φ37 t37 w → φ39 t39 w → φ38 t38 w → φ40 t40 w → φ42 t42 w → φ43 t43 w → 
 V7 P T.b t7 t43 w fun _u w =>
 O6 P T.b t7 w fun r1 =>
 K (.tuple #[t38, r1, (.bool true)]) w) (
 Q2 P T.a v_d_10 w fun t46 w =>
 Q1 P F.aB [a0, t46, a2] w fun t48 w =>
 ext P t48 0 w fun t49 w =>
 ext P t48 1 w fun t50 w =>
 ext P t48 2 w fun t51 w =>
 M5 P T.b w fun v_m_13 w =>
 V7 P T.b v_m_13 t50 w fun _u w =>
 X1 t51 (
 dr w fun Tr Br =>
 Q7 Tr (fun φ54 => ∀ w, Br w → Q2 P T.b v_m_13 w (dk Tr φ54 w)) fun φ54 =>
 ∀ t54 w, Br w → φ54 t54 w → 
 V7 P T.b t7 t54 w fun _u w =>
 O6 P T.b t7 w fun r1 =>
 K (.tuple #[t49, r1, (.bool true)]) w) (
 Q3 P .add T.d (.tmp 20) (.const (.int .i64 1)) x3 (.int .i64 1) w fun t21 w =>
 again3 t21 w))) (
 Qu P T.b [] w fun t55 w =>
 V7 P T.b t7 t55 w fun _u w =>
 O6 P T.b t7 w fun r1 =>
 K (.tuple #[(.string ⟨#[]⟩), r1, (.bool false)]) w)
theorem Sm {a0 a1 a2 : Value} {w : World} {K : Value → World → Prop} (h : Wk a0 a1 a2 w K) : Q1 P F.aB [a0, a1, a2] w K := Q9 Cb Tryz.func69 rfl (by decide) (by kernel_rfl) h
def Hy : W3 := [none, none, none, some ([9], [6, 8, 9, 10, 18, 19, 20, 21, 22, 23, 24, 25, 26, 27, 28, 29, 30, 31, 32, 33, 34, 35, 36, 37, 38, 39, 40, 41, 42, 43, 44, 45, 46, 47]), none, none, none, none, none, none, none, none, some ([11], [6, 8, 11, 12, 13, 14, 51, 52, 53, 54, 55, 56, 57, 58, 59, 60, 61, 62, 63, 64, 65, 66, 67, 68, 69, 70, 71, 72, 73]), none, none, none, none, none, none, none]
def Jx (a0 a1 a2 : Value) (w : World) (K : Value → World → Prop) : Prop :=
 M5 P T.b w fun t7 w =>
 Q1 P F.b [a0, a1] w fun t17 w =>
 lp (α := Value) t17 w fun again3 x3 d_ w =>
 Q3 P .geq T.d (.tmp 18) (.const (.int .i64 0)) x3 (.int .i64 0) w fun t19 w =>
 X1 t19 (
 indexAddr P T.g a0 x3 w fun t29 w =>
 Q2 P T.a t29 w fun t30 w =>
 Q1 P F.aN [t30, a2] w fun t32 w =>
 Q3 P .geq T.d (.tmp 33) (.const (.int .i64 0)) t32 (.int .i64 0) w fun t34 w =>
 X1 t34 (
 dr w fun Tr Br =>
 Q7 Tr (fun φ37 => ∀ w, Br w → indexAddr P T.g a0 x3 w (dk Tr φ37 w)) fun φ37 =>
 Q7 Tr (fun φ38 => ∀ t37 w, Br w → φ37 t37 w → fieldAddr P T.a t37 0 w (dk Tr φ38 w)) fun φ38 =>
 Q7 Tr (fun φ42 => ∀ w, Br w → indexAddr P T.g a0 x3 w (dk Tr φ42 w)) fun φ42 =>
 Q7 Tr (fun φ43 => ∀ t42 w, Br w → φ42 t42 w → fieldAddr P T.a t42 7 w (dk Tr φ43 w)) fun φ43 =>
 Q7 Tr (fun φ39 => ∀ t38 w, Br w → φ38 t38 w → Q2 P T.c t38 w (dk Tr φ39 w)) fun φ39 =>
 Q7 Tr (fun φ44 => ∀ t43 w, Br w → φ43 t43 w → Q2 P T.e t43 w (dk Tr φ44 w)) fun φ44 =>
 Q7 Tr (fun φ46 => ∀ t44 w, Br w → φ44 t44 w → indexAddr P T.e t44 t32 w (dk Tr φ46 w)) fun φ46 =>
 Q7 Tr (fun φ47 => ∀ t46 w, Br w → φ46 t46 w → Q2 P T.b t46 w (dk Tr φ47 w)) fun φ47 =>
 ∀ t37 t38 t42 t43 t39 t44 t46 t47 w, Br w → φ37 t37 w → φ38 t38 w → φ42 t42 w → φ43 t43 w → φ39 t39 w → φ44 t44 w → φ46 t46 w → φ47 t47 w → 
 V7 P T.b t7 t47 w fun _u w =>
 O6 P T.b t7 w fun r1 =>
 K (.tuple #[t39, r1, (.bool true)]) w) (
 indexAddr P T.g a0 x3 w fun t23 w =>
 fieldAddr P T.a t23 1 w fun t24 w =>
 Q2 P T.c t24 w fun t25 w =>
 Q1 P F.b [a0, t25] w fun t26 w =>
 again3 t26 w)) (
 Q1 P F.b [a0, a1] w fun t50 w =>
 lp (α := Value) t50 w fun again12 x12 d_ w =>
 Q3 P .geq T.d (.tmp 51) (.const (.int .i64 0)) x12 (.int .i64 0) w fun t52 w =>
 X1 t52 (
 indexAddr P T.g a0 x12 w fun t64 w =>
 Q2 P T.a t64 w fun t65 w =>
 Q1 P F.aB [a0, t65, a2] w fun t67 w =>
 ext P t67 0 w fun t68 w =>
 ext P t67 1 w fun t69 w =>
 ext P t67 2 w fun t70 w =>
 M5 P T.b w fun t13 w =>
 V7 P T.b t13 t69 w fun _u w =>
 X1 t70 (
 dr w fun Tr Br =>
 Q7 Tr (fun φ73 => ∀ w, Br w → Q2 P T.b t13 w (dk Tr φ73 w)) fun φ73 =>
 ∀ t73 w, Br w → φ73 t73 w → 
 V7 P T.b t7 t73 w fun _u w =>
 O6 P T.b t7 w fun r1 =>
 K (.tuple #[t68, r1, (.bool true)]) w) (
 indexAddr P T.g a0 x12 w fun t56 w =>
 fieldAddr P T.a t56 1 w fun t57 w =>
 Q2 P T.c t57 w fun t58 w =>
 Q1 P F.b [a0, t58] w fun t59 w =>
 again12 t59 w)) (
 Qu P T.b [] w fun t74 w =>
 V7 P T.b t7 t74 w fun _u w =>
 O6 P T.b t7 w fun r1 =>
 K (.tuple #[(.string ⟨#[]⟩), r1, (.bool false)]) w))
theorem Hz {a0 a1 a2 : Value} {w : World} {K : Value → World → Prop} (h : Jx a0 a1 a2 w K) : Q1 P F.ax [a0, a1, a2] w K := Q9 Hy Tryz.func27 rfl (by decide) (by kernel_rfl) h
def Li (a0 : Value) (w : World) (K : Value → World → Prop) : Prop :=
 X4 P .len [T.c] T.d [false] [a0] w fun t5 w =>
 Q1 P F.ak [a0] w fun t7 w =>
 Q3 P .mul T.d (.const (.int .i64 2)) (.tmp 7) (.int .i64 2) t7 w fun t8 w =>
 Q3 P .sub T.d (.tmp 5) (.tmp 8) t5 t8 w fun t9 w =>
 R5 P T.c a0 none (some t9) none w fun t10 w =>
 K t10 w
theorem Ft {a0 : Value} {w : World} {K : Value → World → Prop} (h : Li a0 w K) : Q1 P F.aE [a0] w K := Q9 (List.replicate 2 none) Tryz.func60 rfl (by decide) (by kernel_rfl) h
def Lb (a0 a1 : Value) (w : World) (K : Value → World → Prop) : Prop :=
 Q3 P .eql T.c (.tmp 5) (.const (.string ⟨#[110, 117, 108, 108]⟩)) a1 (.string ⟨#[110, 117, 108, 108]⟩) w fun t6 w =>
 Q0 t6 false w (fun w J => J a1 w) fun t8 w =>
 Q0 t6 false w (Q1 P F.i [t8]) fun t9 w =>
 Q0 t6 false w (fun w J => J t9 w) fun t10 w =>
 Q0 t10 true w (fun w J => J a1 w) fun t11 w =>
 Q0 t10 true w (Q1 P F.aE [t11]) fun t12 w =>
 Q0 t10 true w (Q1 P F.ac [t12]) fun t13 w =>
 Q0 t10 true w (fun w J => J t13 w) fun t14 w =>
 Q0 t14 false w (fun w J => J a0 w) fun t15 w =>
 Q0 t14 false w (fun w J => J a1 w) fun t16 w =>
 Q0 t14 false w (Q1 P F.aE [t16]) fun t17 w =>
 Q0 t14 false w (Q1 P F.b [t15, t17]) fun t18 w =>
 Q0 t14 false w (Q3 P .geq T.d (.tmp 18) (.const (.int .i64 0)) t18 (.int .i64 0)) fun t19 w =>
 Q0 t10 true w (pick P t14 (.bool true) t19) fun t20 w =>
 Q0 t6 false w (pick P t10 t20 (.bool false)) fun t21 w =>
 pick P t6 (.bool true) t21 w fun t22 w =>
 K t22 w
theorem Fi {a0 a1 : Value} {w : World} {K : Value → World → Prop} (h : Lb a0 a1 w K) : Q1 P F.bd [a0, a1] w K := Q9 (List.replicate 2 none) Tryz.func19 rfl (by decide) (by kernel_rfl) h
def Vq (a0 a1 : Value) (w : World) (K : Value → World → Prop) : Prop :=
 Q3 P .neq T.c (.tmp 5) (.const (.string ⟨#[110, 117, 108, 108]⟩)) a1 (.string ⟨#[110, 117, 108, 108]⟩) w fun t6 w =>
 Q0 t6 true w (fun w J => J a0 w) fun t8 w =>
 Q0 t6 true w (fun w J => J a1 w) fun t9 w =>
 Q0 t6 true w (Q1 P F.bd [t8, t9]) fun t10 w =>
 pick P t6 t10 (.bool false) w fun t11 w =>
 K t11 w
theorem Cu {a0 a1 : Value} {w : World} {K : Value → World → Prop} (h : Vq a0 a1 w K) : Q1 P F.b6 [a0, a1] w K := Q9 (List.replicate 2 none) Tryz.func90 rfl (by decide) (by kernel_rfl) h
def By : W3 := [none, none, none, none, some ([3, 4], [3, 4, 5, 6, 7, 8, 9, 10, 11, 12, 13, 14, 15, 16, 17, 18, 19, 20, 21, 22]), none, none, none, some ([3], [3, 12, 13, 14, 15]), none, none]
def Wr (a0 : Value) (w : World) (K : Value → World → Prop) : Prop :=
 box P T.b a0 w fun v_m_1 w =>
 lp (α := Value × Value) ((.string ⟨#[40]⟩), (.int .i64 0)) w fun again4 x4 d_ w =>
 fieldAddr P T.b v_m_1 1 w fun t6 w =>
 Q2 P T.f t6 w fun t7 w =>
 X4 P .len [T.f] T.d [false] [t7] w fun t8 w =>
 Q3 P .lss T.d (.tmp 5) (.tmp 8) x4.2 t8 w fun t9 w =>
 X1 t9 (
 jn (α := Value) w (fun J8 w =>
 Q3 P .gtr T.d (.tmp 12) (.const (.int .i64 0)) x4.2 (.int .i64 0) w fun t13 w =>
 X1 t13 (
 Q3 P .add T.c (.tmp 14) (.const (.string ⟨#[44]⟩)) x4.1 (.string ⟨#[44]⟩) w fun t15 w =>
 J8 t15 w) (
 J8 x4.1 w)) fun z8 d_ w =>
 fieldAddr P T.b v_m_1 1 w fun t17 w =>
 Q2 P T.f t17 w fun t18 w =>
 indexAddr P T.f t18 x4.2 w fun t20 w =>
 Q2 P T.c t20 w fun t21 w =>
 Q3 P .add T.c (.tmp 16) (.tmp 21) z8 t21 w fun t22 w =>
 Q3 P .add T.d (.tmp 10) (.const (.int .i64 1)) x4.2 (.int .i64 1) w fun t11 w =>
 again4 (t22, t11) w) (
 Q3 P .add T.c (.tmp 23) (.const (.string ⟨#[41]⟩)) x4.1 (.string ⟨#[41]⟩) w fun t24 w =>
 fieldAddr P T.b v_m_1 2 w fun t25 w =>
 Q2 P T.c t25 w fun t26 w =>
 Q3 P .add T.c (.tmp 24) (.tmp 26) t24 t26 w fun t27 w =>
 K t27 w)
theorem Ge {a0 : Value} {w : World} {K : Value → World → Prop} (h : Wr a0 w K) : Q1 P F.aH [a0] w K := Q9 By Tryz.func91 rfl (by decide) (by kernel_rfl) h
def Hl : W3 := [none, none, none, none, some ([6], [4, 6, 24, 25, 26, 27, 28, 29, 30, 31, 32, 33, 34, 35, 36, 37, 38, 39, 40, 41]), none, none, none, none, none, none, none, none, some ([7, 8], [7, 8, 43, 44, 45, 46, 47, 48, 49, 50, 51, 52, 53, 54, 55, 56, 57, 58]), none, none, none, none, none, some ([7, 9], [7, 9, 59, 60, 61, 62, 63, 64, 65, 66, 67, 68, 69, 70, 71, 72, 73, 74, 75, 76, 77, 78, 79, 80, 81, 82, 83, 84, 85, 86, 87, 88, 89]), none, none, some ([7], [7, 66, 67, 68, 69, 70, 71, 72, 73, 74, 75, 76, 77, 78, 79, 80, 81, 82, 83, 84, 85, 86, 87, 88, 89]), none, none, none, none, some ([10], [4, 10, 90, 91, 92, 93, 94, 95, 96, 97, 98, 99, 100, 101, 102]), none, none, none, none, none, none, none, none, none, some ([12, 13], [12, 13, 106, 107, 108, 109, 110, 111, 112, 113, 114, 115, 116, 117, 118, 119, 120, 121, 122, 123, 124, 125, 126, 127, 128, 129, 130]), none, none, some ([12], [12, 112, 113, 114, 115, 116, 117, 118, 119, 120, 121, 122, 123, 124, 125, 126, 127, 128, 129, 130]), none, none, none, some ([14], [4, 14, 15, 131, 132, 133, 134, 135, 136, 137, 138, 139, 140, 141, 142, 143, 144, 145, 146, 147, 148, 149, 150, 151, 152, 153, 154, 155, 156, 157, 158, 159, 160, 161, 162, 163, 164, 165]), none, none, none, none, some ([15], [4, 15, 137, 138, 139, 140, 141, 142, 143, 144, 145, 146, 147, 148, 149, 150, 151, 152, 153, 154, 155, 156, 157, 158, 159, 160, 161, 162, 163, 164, 165]), none, none, none, none, none, none, none, some ([16], [4, 16, 17, 18, 19, 166, 167, 168, 169, 170, 171, 172, 173, 174, 175, 176, 177, 178, 179, 180, 181, 182, 183, 184, 185, 186, 187, 188, 189, 190, 191, 192, 193, 194, 195]), none, none, none, none, none, none, none]
def Jb (a0 a1 : Value) (w : World) (K : Value → World → Prop) : Prop :=
 indexAddr P T.g a0 a1 w fun t22 w =>
 Q2 P T.a t22 w fun t23 w =>
 M5 P T.a w fun t5 w =>
 V7 P T.a t5 t23 w fun _u w =>
 lp (α := Value) (.int .i64 0) w fun again4 x4 d_ w =>
 fieldAddr P T.a t5 6 w fun t25 w =>
 Q2 P T.h t25 w fun t26 w =>
 X4 P .len [T.h] T.d [false] [t26] w fun t27 w =>
 Q3 P .lss T.d (.tmp 24) (.tmp 27) x4 t27 w fun t28 w =>
 X1 t28 (
 dr w fun Tr Br =>
 Q7 Tr (fun φ32 => ∀ w, Br w → fieldAddr P T.a t5 1 w (dk Tr φ32 w)) fun φ32 =>
 Q7 Tr (fun φ34 => ∀ w, Br w → fieldAddr P T.a t5 6 w (dk Tr φ34 w)) fun φ34 =>
 Q7 Tr (fun φ33 => ∀ t32 w, Br w → φ32 t32 w → Q2 P T.c t32 w (dk Tr φ33 w)) fun φ33 =>
 Q7 Tr (fun φ35 => ∀ t34 w, Br w → φ34 t34 w → Q2 P T.h t34 w (dk Tr φ35 w)) fun φ35 =>
 Q7 Tr (fun φ37 => ∀ t35 w, Br w → φ35 t35 w → indexAddr P T.h t35 x4 w (dk Tr φ37 w)) fun φ37 =>
 Q7 Tr (fun φ38 => ∀ t37 w, Br w → φ37 t37 w → fieldAddr P T.i t37 0 w (dk Tr φ38 w)) fun φ38 =>
 Q7 Tr (fun φ39 => ∀ t38 w, Br w → φ38 t38 w → Q2 P T.c t38 w (dk Tr φ39 w)) fun φ39 =>
 ∀ t32 t34 t33 t35 t37 t38 t39 w, Br w → φ32 t32 w → φ34 t34 w → φ33 t33 w → φ35 t35 w → φ37 t37 w → φ38 t38 w → φ39 t39 w → 
 Q1 P F.az [a0, t33, t39] w fun t40 w =>
 Q3 P .geq T.d (.tmp 40) (.const (.int .i64 0)) t40 (.int .i64 0) w fun t41 w =>
 X1 t41 (
 K (.int .i64 64) w) (
 Q3 P .add T.d (.tmp 29) (.const (.int .i64 1)) x4 (.int .i64 1) w fun t30 w =>
 again4 t30 w)) (
 buildSlice P T.f 0 [] w fun t42 w =>
 lp (α := Value × Value) (t42, (.int .i64 0)) w fun again13 x13 d_ w =>
 fieldAddr P T.a t5 6 w fun t44 w =>
 Q2 P T.h t44 w fun t45 w =>
 X4 P .len [T.h] T.d [false] [t45] w fun t46 w =>
 Q3 P .lss T.d (.tmp 43) (.tmp 46) x13.2 t46 w fun t47 w =>
 X1 t47 (
 fieldAddr P T.a t5 6 w fun t51 w =>
 Q2 P T.h t51 w fun t52 w =>
 indexAddr P T.h t52 x13.2 w fun t54 w =>
 fieldAddr P T.i t54 1 w fun t55 w =>
 Q2 P T.c t55 w fun t56 w =>
 buildSlice P T.f 1 [(0, t56)] w fun t57 w =>
 X4 P .append [T.f, T.f] T.f [false, false] [x13.1, t57] w fun t58 w =>
 Q3 P .add T.d (.tmp 48) (.const (.int .i64 1)) x13.2 (.int .i64 1) w fun t49 w =>
 again13 (t58, t49) w) (
 lp (α := Value × Value) (x13.1, (.int .i64 0)) w fun again19 x19 d_ w =>
 fieldAddr P T.a t5 7 w fun t60 w =>
 Q2 P T.e t60 w fun t61 w =>
 X4 P .len [T.e] T.d [false] [t61] w fun t62 w =>
 Q3 P .lss T.d (.tmp 59) (.tmp 62) x19.2 t62 w fun t63 w =>
 X1 t63 (
 jn (α := Value) w (fun J22 w =>
 fieldAddr P T.a t5 7 w fun t67 w =>
 Q2 P T.e t67 w fun t68 w =>
 indexAddr P T.e t68 x19.2 w fun t70 w =>
 fieldAddr P T.b t70 1 w fun t71 w =>
 Q2 P T.f t71 w fun t72 w =>
 X4 P .append [T.f, T.f] T.f [false, false] [x19.1, t72] w fun t73 w =>
 fieldAddr P T.a t5 7 w fun t74 w =>
 Q2 P T.e t74 w fun t75 w =>
 indexAddr P T.e t75 x19.2 w fun t77 w =>
 fieldAddr P T.b t77 2 w fun t78 w =>
 Q2 P T.c t78 w fun t79 w =>
 Q3 P .neq T.c (.tmp 79) (.const (.string ⟨#[]⟩)) t79 (.string ⟨#[]⟩) w fun t80 w =>
 X1 t80 (
 fieldAddr P T.a t5 7 w fun t82 w =>
 Q2 P T.e t82 w fun t83 w =>
 indexAddr P T.e t83 x19.2 w fun t85 w =>
 fieldAddr P T.b t85 2 w fun t86 w =>
 Q2 P T.c t86 w fun t87 w =>
 buildSlice P T.f 1 [(0, t87)] w fun t88 w =>
 X4 P .append [T.f, T.f] T.f [false, false] [t73, t88] w fun t89 w =>
 J22 t89 w) (
 J22 t73 w)) fun z22 d_ w =>
 Q3 P .add T.d (.tmp 64) (.const (.int .i64 1)) x19.2 (.int .i64 1) w fun t65 w =>
 again19 (z22, t65) w) (
 lp (α := Value) (.int .i64 0) w fun again27 x27 d_ w =>
 X4 P .len [T.f] T.d [false] [x19.1] w fun t92 w =>
 Q3 P .lss T.d (.tmp 90) (.tmp 92) x27 t92 w fun t93 w =>
 X1 t93 (
 indexAddr P T.f x19.1 x27 w fun t99 w =>
 Q2 P T.c t99 w fun t100 w =>
 Q1 P F.b6 [a0, t100] w fun t101 w =>
 V1 P .not t101 w fun t102 w =>
 X1 t102 (
 K (.int .i64 65) w) (
 Q3 P .add T.d (.tmp 94) (.const (.int .i64 1)) x27 (.int .i64 1) w fun t95 w =>
 again27 t95 w)) (
 Q1 P F.aA [a0] w fun t104 w =>
 buildSlice P T.e 0 [] w fun t105 w =>
 lp (α := Value × Value) (t105, (.int .i64 0)) w fun again37 x37 d_ w =>
 X4 P .len [T.g] T.d [false] [a0] w fun t108 w =>
 Q3 P .lss T.d (.tmp 106) (.tmp 108) x37.2 t108 w fun t109 w =>
 X1 t109 (
 jn (α := Value) w (fun J40 w =>
 Q3 P .eql T.d (.tmp 112) (.tmp 113) x37.2 a1 w fun t114 w =>
 Q0 t114 false w (fun w J => J t104 w) fun t116 w =>
 Q0 t114 false w (fun w J => J a1 w) fun t117 w =>
 Q0 t114 false w (indexAddr P T.y t116 t117) fun t118 w =>
 Q0 t114 false w (Q2 P T.w t118) fun t119 w =>
 Q0 t114 false w (fun w J => J x37.2 w) fun t120 w =>
 Q0 t114 false w (indexAddr P T.w t119 t120) fun t121 w =>
 Q0 t114 false w (Q2 P T.m t121) fun t122 w =>
 pick P t114 (.bool true) t122 w fun t123 w =>
 X1 t123 (
 indexAddr P T.g a0 x37.2 w fun t127 w =>
 fieldAddr P T.a t127 7 w fun t128 w =>
 Q2 P T.e t128 w fun t129 w =>
 X4 P .append [T.e, T.e] T.e [false, false] [x37.1, t129] w fun t130 w =>
 J40 t130 w) (
 J40 x37.1 w)) fun z40 d_ w =>
 Q3 P .add T.d (.tmp 110) (.const (.int .i64 1)) x37.2 (.int .i64 1) w fun t111 w =>
 again37 (z40, t111) w) (
 lp (α := Value) (.int .i64 0) w fun again44 x44 d_ w =>
 X4 P .len [T.e] T.d [false] [x37.1] w fun t133 w =>
 Q3 P .lss T.d (.tmp 131) (.tmp 133) x44 t133 w fun t134 w =>
 X1 t134 (
 lp (α := Value) (.int .i64 0) w fun again49 x49 d_ w =>
 Q3 P .lss T.d (.tmp 137) (.tmp 138) x49 x44 w fun t139 w =>
 X1 t139 (
 dr w fun Tr Br =>
 Q7 Tr (fun φ144 => ∀ w, Br w → indexAddr P T.e x37.1 x44 w (dk Tr φ144 w)) fun φ144 =>
 Q7 Tr (fun φ145 => ∀ t144 w, Br w → φ144 t144 w → fieldAddr P T.b t144 0 w (dk Tr φ145 w)) fun φ145 =>
 Q7 Tr (fun φ149 => ∀ w, Br w → indexAddr P T.e x37.1 x49 w (dk Tr φ149 w)) fun φ149 =>
 Q7 Tr (fun φ150 => ∀ t149 w, Br w → φ149 t149 w → fieldAddr P T.b t149 0 w (dk Tr φ150 w)) fun φ150 =>
 Q7 Tr (fun φ146 => ∀ t145 w, Br w → φ145 t145 w → Q2 P T.c t145 w (dk Tr φ146 w)) fun φ146 =>
 Q7 Tr (fun φ151 => ∀ t150 w, Br w → φ150 t150 w → Q2 P T.c t150 w (dk Tr φ151 w)) fun φ151 =>
 Q7 Tr (fun φ152 => ∀ t146 t151 w, Br w → φ146 t146 w → φ151 t151 w → Q3 P .eql T.c (.tmp 146) (.tmp 151) t146 t151 w (dk Tr φ152 w)) fun φ152 =>
 Q7 Tr (fun φ154 => ∀ t152 w, Br w → φ152 t152 w → Q0 t152 true w (fun w J => J x37.1 w) (dk Tr φ154 w)) fun φ154 =>
 Q7 Tr (fun φ155 => ∀ t152 w, Br w → φ152 t152 w → Q0 t152 true w (fun w J => J x44 w) (dk Tr φ155 w)) fun φ155 =>
 Q7 Tr (fun φ156 => ∀ t152 t154 t155 w, Br w → φ152 t152 w → φ154 t154 w → φ155 t155 w → Q0 t152 true w (indexAddr P T.e t154 t155) (dk Tr φ156 w)) fun φ156 =>
 Q7 Tr (fun φ159 => ∀ t152 w, Br w → φ152 t152 w → Q0 t152 true w (fun w J => J x37.1 w) (dk Tr φ159 w)) fun φ159 =>
 Q7 Tr (fun φ160 => ∀ t152 w, Br w → φ152 t152 w → Q0 t152 true w (fun w J => J x49 w) (dk Tr φ160 w)) fun φ160 =>
 Q7 Tr (fun φ161 => ∀ t152 t159 t160 w, Br w → φ152 t152 w → φ159 t159 w → φ160 t160 w → Q0 t152 true w (indexAddr P T.e t159 t160) (dk Tr φ161 w)) fun φ161 =>
 Q7 Tr (fun φ157 => ∀ t152 t156 w, Br w → φ152 t152 w → φ156 t156 w → Q0 t152 true w (Q2 P T.b t156) (dk Tr φ157 w)) fun φ157 =>
 Q7 Tr (fun φ158 => ∀ t152 t157 w, Br w → φ152 t152 w → φ157 t157 w → Q0 t152 true w (Q1 P F.aH [t157]) (dk Tr φ158 w)) fun φ158 =>
 Q7 Tr (fun φ162 => ∀ t152 t161 w, Br w → φ152 t152 w → φ161 t161 w → Q0 t152 true w (Q2 P T.b t161) (dk Tr φ162 w)) fun φ162 =>
 ∀ t144 t145 t149 t150 t146 t151 t152 t154 t155 t156 t159 t160 t161 t157 t158 t162 w, Br w → φ144 t144 w → φ145 t145 w → φ149 t149 w → φ150 t150 w → φ146 t146 w → φ151 t151 w → φ152 t152 w → φ154 t154 w → φ155 t155 w → φ156 t156 w → φ159 t159 w → φ160 t160 w → φ161 t161 w → φ157 t157 w → φ158 t158 w → φ162 t162 w → 
 Q0 t152 true w (Q1 P F.aH [t162]) fun t163 w =>
 Q0 t152 true w (Q3 P .neq T.c (.tmp 158) (.tmp 163) t158 t163) fun t164 w =>
 pick P t152 t164 (.bool false) w fun t165 w =>
 X1 t165 (
 K (.int .i64 66) w) (
 Q3 P .add T.d (.tmp 140) (.const (.int .i64 1)) x49 (.int .i64 1) w fun t141 w =>
 again49 t141 w)) (
 Q3 P .add T.d (.tmp 135) (.const (.int .i64 1)) x44 (.int .i64 1) w fun t136 w =>
 again44 t136 w)) (
 lp (α := Value) (.int .i64 0) w fun again57 x57 d_ w =>
 X4 P .len [T.e] T.d [false] [x37.1] w fun t168 w =>
 Q3 P .lss T.d (.tmp 166) (.tmp 168) x57 t168 w fun t169 w =>
 Q0 t169 true w (fieldAddr P T.a t5 4) fun t171 w =>
 Q0 t169 true w (Q2 P T.m t171) fun t172 w =>
 Q0 t169 true w (V1 P .not t172) fun t173 w =>
 pick P t169 t173 (.bool false) w fun t174 w =>
 X1 t174 (
 dr w fun Tr Br =>
 Q7 Tr (fun φ179 => ∀ w, Br w → fieldAddr P T.a t5 0 w (dk Tr φ179 w)) fun φ179 =>
 Q7 Tr (fun φ183 => ∀ w, Br w → indexAddr P T.e x37.1 x57 w (dk Tr φ183 w)) fun φ183 =>
 Q7 Tr (fun φ184 => ∀ t183 w, Br w → φ183 t183 w → fieldAddr P T.b t183 0 w (dk Tr φ184 w)) fun φ184 =>
 Q7 Tr (fun φ180 => ∀ t179 w, Br w → φ179 t179 w → Q2 P T.c t179 w (dk Tr φ180 w)) fun φ180 =>
 Q7 Tr (fun φ185 => ∀ t184 w, Br w → φ184 t184 w → Q2 P T.c t184 w (dk Tr φ185 w)) fun φ185 =>
 Q7 Tr (fun φ186 => ∀ t180 t185 w, Br w → φ180 t180 w → φ185 t185 w → Q1 P F.ax [a0, t180, t185] w (dk Tr φ186 w)) fun φ186 =>
 Q7 Tr (fun φ187 => ∀ t186 w, Br w → φ186 t186 w → ext P t186 0 w (dk Tr φ187 w)) fun φ187 =>
 Q7 Tr (fun φ188 => ∀ t186 w, Br w → φ186 t186 w → ext P t186 1 w (dk Tr φ188 w)) fun φ188 =>
 Q7 Tr (fun φ189 => ∀ t186 w, Br w → φ186 t186 w → ext P t186 2 w (dk Tr φ189 w)) fun φ189 =>
 Q7 Tr (fun φ18 => ∀ w, Br w → M5 P T.b w (dk Tr φ18 w)) fun φ18 =>
 Q2D Tr (fun φ_15 => ∀ t18 t188 w, Br w → φ18 t18 w → φ188 t188 w → V7 P T.b t18 t188 w (dk Tr (φ_15 [t18, t188]) w)) fun φ_15 =>
 ∀ t179 t183 t184 t180 t185 t186 t187 t188 t189 t18 u15 w, Br w → φ179 t179 w → φ183 t183 w → φ184 t184 w → φ180 t180 w → φ185 t185 w → φ186 t186 w → φ187 t187 w → φ188 t188 w → φ189 t189 w → φ18 t18 w → φ_15 [t18, t188] u15 w → 
 V1 P .not t189 w fun t191 w =>
 Q0 t191 false w (fieldAddr P T.b t18 3) fun t193 w =>
 Q0 t191 false w (Q2 P T.m t193) fun t194 w =>
 pick P t191 (.bool true) t194 w fun t195 w =>
 X1 t195 (
 K (.int .i64 67) w) (
 Q3 P .add T.d (.tmp 175) (.const (.int .i64 1)) x57 (.int .i64 1) w fun t176 w =>
 again57 t176 w)) (
 K (.int .i64 0) w)))))))
theorem He {a0 a1 : Value} {w : World} {K : Value → World → Prop} (h : Jb a0 a1 w K) : Q1 P F.aR [a0, a1] w K := Q9 Hl Tryz.func51 rfl (by decide) (by kernel_rfl) h
end Go.Proofs.YtdnfaboigajkhaaGreatDoor

set_option maxRecDepth 100000
namespace Go.Proofs.YtdnfaboigajkhaaGreatDoor
open Go.Emb
def Ie : W3 := [none, none, none, none, none, some ([5, 7], [2, 3, 4, 5, 7, 8, 21, 22, 23, 24, 25, 26, 27, 28, 29, 30, 31, 32, 33, 34, 35, 36, 37, 38, 39, 40, 41, 42]), none, none, none, none, none, none, none, none, none, some ([9], [2, 3, 4, 9, 43, 44, 45, 46, 47, 48, 49, 50, 51, 52, 53, 54, 55, 56, 57, 58, 59, 60]), none, none, none, none, none, none, none, some ([10], [2, 3, 4, 10, 11, 61, 62, 63, 64, 65, 66, 67, 68, 69, 70, 71, 72, 73, 74, 75, 76]), none, none, none, none, none, none, none, none, none, some ([13], [2, 3, 4, 13, 79, 80, 81, 82, 83, 84, 85, 86, 87, 88, 89, 90, 91, 92, 93, 94, 95, 96]), none, none, none, none, none, none, none, none, some ([14, 15], [14, 15, 98, 99, 100, 101, 102, 103, 104, 105, 106, 107, 108, 109, 110]), none, none, none, none, none, some ([16], [2, 3, 4, 16, 17, 111, 112, 113, 114, 115, 116, 117, 118, 119, 120, 121, 122, 123, 124, 125, 126, 127, 128, 129, 130, 131]), none, none, none, none, none, none, none]
def Md (a0 : Value) (w : World) (K : Value → World → Prop) : Prop :=
 Q1 P F.aZ [] w fun t18 w =>
 X4 P .len [T.g] T.d [false] [t18] w fun t20 w =>
 lp (α := Value × Value) (t18, (.int .i64 0)) w fun again5 x5 d_ w =>
 X4 P .len [T.g] T.d [false] [a0] w fun t23 w =>
 Q3 P .lss T.d (.tmp 21) (.tmp 23) x5.2 t23 w fun t24 w =>
 X1 t24 (
 indexAddr P T.g a0 x5.2 w fun t29 w =>
 Q2 P T.a t29 w fun t30 w =>
 Q1 P F.b3 [t30] w fun t31 w =>
 Q3 P .neq T.t (.tmp 32) (.const (.int .i64 0)) t31 (.int .i64 0) w fun t33 w =>
 X1 t33 (
 K (.tuple #[(.slice none 0 0), x5.2, t31]) w) (
 indexAddr P T.g a0 x5.2 w fun t39 w =>
 Q2 P T.a t39 w fun t40 w =>
 buildSlice P T.g 1 [(0, t40)] w fun t41 w =>
 X4 P .append [T.g, T.g] T.g [false, false] [x5.1, t41] w fun t42 w =>
 Q3 P .add T.d (.tmp 25) (.const (.int .i64 1)) x5.2 (.int .i64 1) w fun t26 w =>
 again5 (t42, t26) w)) (
 lp (α := Value) (.int .i64 0) w fun again15 x15 d_ w =>
 X4 P .len [T.g] T.d [false] [a0] w fun t45 w =>
 Q3 P .lss T.d (.tmp 43) (.tmp 45) x15 t45 w fun t46 w =>
 X1 t46 (
 indexAddr P T.g a0 x15 w fun t52 w =>
 fieldAddr P T.a t52 0 w fun t53 w =>
 Q2 P T.c t53 w fun t54 w =>
 Q1 P F.b [x5.1, t54] w fun t55 w =>
 Q3 P .add T.d (.tmp 56) (.tmp 57) t20 x15 w fun t58 w =>
 Q3 P .neq T.d (.tmp 55) (.tmp 58) t55 t58 w fun t59 w =>
 X1 t59 (
 K (.tuple #[(.slice none 0 0), x15, (.int .i64 60)]) w) (
 Q3 P .add T.d (.tmp 47) (.const (.int .i64 1)) x15 (.int .i64 1) w fun t48 w =>
 again15 t48 w)) (
 lp (α := Value) (.int .i64 0) w fun again23 x23 d_ w =>
 X4 P .len [T.g] T.d [false] [a0] w fun t63 w =>
 Q3 P .lss T.d (.tmp 61) (.tmp 63) x23 t63 w fun t64 w =>
 X1 t64 (
 indexAddr P T.g a0 x23 w fun t70 w =>
 Q2 P T.a t70 w fun t71 w =>
 Q1 P F.aV [x5.1, t71] w fun t72 w =>
 Q3 P .neq T.t (.tmp 73) (.const (.int .i64 0)) t72 (.int .i64 0) w fun t74 w =>
 X1 t74 (
 K (.tuple #[(.slice none 0 0), x23, t72]) w) (
 Q3 P .add T.d (.tmp 65) (.const (.int .i64 1)) x23 (.int .i64 1) w fun t66 w =>
 again23 t66 w)) (
 Q1 P F.aA [x5.1] w fun t78 w =>
 lp (α := Value) (.int .i64 0) w fun again33 x33 d_ w =>
 X4 P .len [T.g] T.d [false] [a0] w fun t81 w =>
 Q3 P .lss T.d (.tmp 79) (.tmp 81) x33 t81 w fun t82 w =>
 X1 t82 (
 Q3 P .add T.d (.tmp 86) (.tmp 87) t20 x33 w fun t88 w =>
 indexAddr P T.y t78 t88 w fun t89 w =>
 Q2 P T.w t89 w fun t90 w =>
 Q3 P .add T.d (.tmp 91) (.tmp 92) t20 x33 w fun t93 w =>
 indexAddr P T.w t90 t93 w fun t94 w =>
 Q2 P T.m t94 w fun t95 w =>
 X1 t95 (
 K (.tuple #[(.slice none 0 0), x33, (.int .i64 63)]) w) (
 Q3 P .add T.d (.tmp 83) (.const (.int .i64 1)) x33 (.int .i64 1) w fun t84 w =>
 again33 t84 w)) (
 buildSlice P T.v 0 [] w fun t97 w =>
 lp (α := Value × Value) (t97, (.int .i64 0)) w fun again42 x42 d_ w =>
 X4 P .len [T.g] T.d [false] [a0] w fun t100 w =>
 Q3 P .lss T.d (.tmp 98) (.tmp 100) x42.2 t100 w fun t101 w =>
 X1 t101 (
 Q3 P .add T.d (.tmp 107) (.tmp 108) t20 x42.2 w fun t109 w =>
 Q1 P F.aM [x5.1, x42.1, t20, t109] w fun t110 w =>
 Q3 P .add T.d (.tmp 102) (.const (.int .i64 1)) x42.2 (.int .i64 1) w fun t103 w =>
 again42 (t110, t103) w) (
 lp (α := Value) (.int .i64 0) w fun again48 x48 d_ w =>
 X4 P .len [T.v] T.d [false] [x42.1] w fun t113 w =>
 Q3 P .lss T.d (.tmp 111) (.tmp 113) x48 t113 w fun t114 w =>
 X1 t114 (
 indexAddr P T.v x42.1 x48 w fun t120 w =>
 Q2 P T.d t120 w fun t121 w =>
 Q1 P F.aR [x5.1, t121] w fun t122 w =>
 Q3 P .neq T.t (.tmp 123) (.const (.int .i64 0)) t122 (.int .i64 0) w fun t124 w =>
 X1 t124 (
 dr w fun Tr Br =>
 Q7 Tr (fun φ127 => ∀ w, Br w → indexAddr P T.v x42.1 x48 w (dk Tr φ127 w)) fun φ127 =>
 ∀ t127 w, Br w → φ127 t127 w → 
 Q2 P T.d t127 w fun t128 w =>
 Q3 P .sub T.d (.tmp 128) (.tmp 129) t128 t20 w fun t130 w =>
 K (.tuple #[(.slice none 0 0), t130, t122]) w) (
 Q3 P .add T.d (.tmp 115) (.const (.int .i64 1)) x48 (.int .i64 1) w fun t116 w =>
 again48 t116 w)) (
 K (.tuple #[x5.1, (.int .i64 0), (.int .i64 0)]) w))))))
theorem Kw {a0 : Value} {w : World} {K : Value → World → Prop} (h : Md a0 w K) : Q1 P F.aL [a0] w K := Q9 Ie Tryz.func15 rfl (by decide) (by kernel_rfl) h
def Ol : W3 := [none, none, none, none, none, none, some ([5], [4, 5, 11, 12, 13, 14, 15, 16, 17, 18, 19, 20, 21, 22, 23, 24, 25]), none, none, none, none, none, none]
def Yh (a0 a1 : Value) (w : World) (K : Value → World → Prop) : Prop :=
 X4 P .len [T.f] T.d [false] [a0] w fun t7 w =>
 X4 P .len [T.f] T.d [false] [a1] w fun t9 w =>
 Q3 P .neq T.d (.tmp 7) (.tmp 9) t7 t9 w fun t10 w =>
 X1 t10 (
 K (.bool false) w) (
 lp (α := Value) (.int .i64 0) w fun again6 x6 d_ w =>
 X4 P .len [T.f] T.d [false] [a0] w fun t13 w =>
 Q3 P .lss T.d (.tmp 11) (.tmp 13) x6 t13 w fun t14 w =>
 X1 t14 (
 dr w fun Tr Br =>
 Q7 Tr (fun φ19 => ∀ w, Br w → indexAddr P T.f a0 x6 w (dk Tr φ19 w)) fun φ19 =>
 Q7 Tr (fun φ23 => ∀ w, Br w → indexAddr P T.f a1 x6 w (dk Tr φ23 w)) fun φ23 =>
 Q7 Tr (fun φ20 => ∀ t19 w, Br w → φ19 t19 w → Q2 P T.c t19 w (dk Tr φ20 w)) fun φ20 =>
 Q7 Tr (fun φ24 => ∀ t23 w, Br w → φ23 t23 w → Q2 P T.c t23 w (dk Tr φ24 w)) fun φ24 =>
 ∀ t19 t23 t20 t24 w, Br w → φ19 t19 w → φ23 t23 w → φ20 t20 w → φ24 t24 w → 
 Q3 P .neq T.c (.tmp 20) (.tmp 24) t20 t24 w fun t25 w =>
 X1 t25 (
 K (.bool false) w) (
 Q3 P .add T.d (.tmp 15) (.const (.int .i64 1)) x6 (.int .i64 1) w fun t16 w =>
 again6 t16 w)) (
 K (.bool true) w))
theorem Db {a0 a1 : Value} {w : World} {K : Value → World → Prop} (h : Yh a0 a1 w K) : Q1 P F.ae [a0, a1] w K := Q9 Ol Tryz.func70 rfl (by decide) (by kernel_rfl) h
def Fx : W3 := [none, none, none, none, none, none, some ([5], [4, 5, 11, 12, 13, 14, 15, 16, 17, 18, 19, 20, 21, 22, 23, 24, 25]), none, none, none, none, none, none]
def Ws (a0 a1 : Value) (w : World) (K : Value → World → Prop) : Prop :=
 X4 P .len [T.k] T.d [false] [a0] w fun t7 w =>
 X4 P .len [T.k] T.d [false] [a1] w fun t9 w =>
 Q3 P .neq T.d (.tmp 7) (.tmp 9) t7 t9 w fun t10 w =>
 X1 t10 (
 K (.bool false) w) (
 lp (α := Value) (.int .i64 0) w fun again6 x6 d_ w =>
 X4 P .len [T.k] T.d [false] [a0] w fun t13 w =>
 Q3 P .lss T.d (.tmp 11) (.tmp 13) x6 t13 w fun t14 w =>
 X1 t14 (
 dr w fun Tr Br =>
 Q7 Tr (fun φ19 => ∀ w, Br w → indexAddr P T.k a0 x6 w (dk Tr φ19 w)) fun φ19 =>
 Q7 Tr (fun φ23 => ∀ w, Br w → indexAddr P T.k a1 x6 w (dk Tr φ23 w)) fun φ23 =>
 Q7 Tr (fun φ20 => ∀ t19 w, Br w → φ19 t19 w → Q2 P T.n t19 w (dk Tr φ20 w)) fun φ20 =>
 Q7 Tr (fun φ24 => ∀ t23 w, Br w → φ23 t23 w → Q2 P T.n t23 w (dk Tr φ24 w)) fun φ24 =>
 ∀ t19 t23 t20 t24 w, Br w → φ19 t19 w → φ23 t23 w → φ20 t20 w → φ24 t24 w → 
 Q3 P .neq T.n (.tmp 20) (.tmp 24) t20 t24 w fun t25 w =>
 X1 t25 (
 K (.bool false) w) (
 Q3 P .add T.d (.tmp 15) (.const (.int .i64 1)) x6 (.int .i64 1) w fun t16 w =>
 again6 t16 w)) (
 K (.bool true) w))
theorem Gi {a0 a1 : Value} {w : World} {K : Value → World → Prop} (h : Ws a0 a1 w K) : Q1 P F.bi [a0, a1] w K := Q9 Fx Tryz.func103 rfl (by decide) (by kernel_rfl) h
def Nl : W3 := [none, none, none, none, none, none, some ([5], [4, 5, 57, 58, 59, 60, 61, 62, 63, 64, 65, 66, 67, 68, 69, 70, 71, 72, 73, 74]), none, none, none, none, none, none]
def Xg (a0 a1 : Value) (w : World) (K : Value → World → Prop) : Prop :=
 box P T.b a0 w fun t2 w =>
 box P T.b a1 w fun t3 w =>
 fieldAddr P T.b t2 0 w fun t6 w =>
 Q2 P T.c t6 w fun t7 w =>
 fieldAddr P T.b t3 0 w fun t8 w =>
 Q2 P T.c t8 w fun t9 w =>
 Q3 P .neq T.c (.tmp 7) (.tmp 9) t7 t9 w fun t10 w =>
 Q0 t10 false w (fieldAddr P T.b t2 2) fun t12 w =>
 Q0 t10 false w (Q2 P T.c t12) fun t13 w =>
 Q0 t10 false w (fieldAddr P T.b t3 2) fun t14 w =>
 Q0 t10 false w (Q2 P T.c t14) fun t15 w =>
 Q0 t10 false w (Q3 P .neq T.c (.tmp 13) (.tmp 15) t13 t15) fun t16 w =>
 pick P t10 (.bool true) t16 w fun t17 w =>
 Q0 t17 false w (fieldAddr P T.b t2 3) fun t19 w =>
 Q0 t17 false w (Q2 P T.m t19) fun t20 w =>
 Q0 t17 false w (fieldAddr P T.b t3 3) fun t21 w =>
 Q0 t17 false w (Q2 P T.m t21) fun t22 w =>
 Q0 t17 false w (Q3 P .neq T.m (.tmp 20) (.tmp 22) t20 t22) fun t23 w =>
 pick P t17 (.bool true) t23 w fun t24 w =>
 Q0 t24 false w (fieldAddr P T.b t2 4) fun t26 w =>
 Q0 t24 false w (Q2 P T.d t26) fun t27 w =>
 Q0 t24 false w (fieldAddr P T.b t3 4) fun t28 w =>
 Q0 t24 false w (Q2 P T.d t28) fun t29 w =>
 Q0 t24 false w (Q3 P .neq T.d (.tmp 27) (.tmp 29) t27 t29) fun t30 w =>
 pick P t24 (.bool true) t30 w fun t31 w =>
 Q0 t31 false w (fieldAddr P T.b t2 1) fun t33 w =>
 Q0 t31 false w (Q2 P T.f t33) fun t34 w =>
 Q0 t31 false w (fieldAddr P T.b t3 1) fun t35 w =>
 Q0 t31 false w (Q2 P T.f t35) fun t36 w =>
 Q0 t31 false w (Q1 P F.ae [t34, t36]) fun t37 w =>
 Q0 t31 false w (V1 P .not t37) fun t38 w =>
 pick P t31 (.bool true) t38 w fun t39 w =>
 Q0 t39 false w (fieldAddr P T.b t2 5) fun t41 w =>
 Q0 t39 false w (Q2 P T.k t41) fun t42 w =>
 Q0 t39 false w (fieldAddr P T.b t3 5) fun t43 w =>
 Q0 t39 false w (Q2 P T.k t43) fun t44 w =>
 Q0 t39 false w (Q1 P F.bi [t42, t44]) fun t45 w =>
 Q0 t39 false w (V1 P .not t45) fun t46 w =>
 pick P t39 (.bool true) t46 w fun t47 w =>
 Q0 t47 false w (fieldAddr P T.b t2 6) fun t49 w =>
 Q0 t47 false w (Q2 P T.j t49) fun t50 w =>
 Q0 t47 false w (X4 P .len [T.j] T.d [false] [t50]) fun t51 w =>
 Q0 t47 false w (fieldAddr P T.b t3 6) fun t52 w =>
 Q0 t47 false w (Q2 P T.j t52) fun t53 w =>
 Q0 t47 false w (X4 P .len [T.j] T.d [false] [t53]) fun t54 w =>
 Q0 t47 false w (Q3 P .neq T.d (.tmp 51) (.tmp 54) t51 t54) fun t55 w =>
 pick P t47 (.bool true) t55 w fun t56 w =>
 X1 t56 (
 K (.bool false) w) (
 lp (α := Value) (.int .i64 0) w fun again6 x6 d_ w =>
 fieldAddr P T.b t2 6 w fun t58 w =>
 Q2 P T.j t58 w fun t59 w =>
 X4 P .len [T.j] T.d [false] [t59] w fun t60 w =>
 Q3 P .lss T.d (.tmp 57) (.tmp 60) x6 t60 w fun t61 w =>
 X1 t61 (
 dr w fun Tr Br =>
 Q7 Tr (fun φ64 => ∀ w, Br w → fieldAddr P T.b t2 6 w (dk Tr φ64 w)) fun φ64 =>
 Q7 Tr (fun φ69 => ∀ w, Br w → fieldAddr P T.b t3 6 w (dk Tr φ69 w)) fun φ69 =>
 Q7 Tr (fun φ65 => ∀ t64 w, Br w → φ64 t64 w → Q2 P T.j t64 w (dk Tr φ65 w)) fun φ65 =>
 Q7 Tr (fun φ67 => ∀ t65 w, Br w → φ65 t65 w → indexAddr P T.j t65 x6 w (dk Tr φ67 w)) fun φ67 =>
 Q7 Tr (fun φ68 => ∀ t67 w, Br w → φ67 t67 w → Q2 P T.l t67 w (dk Tr φ68 w)) fun φ68 =>
 Q7 Tr (fun φ70 => ∀ t69 w, Br w → φ69 t69 w → Q2 P T.j t69 w (dk Tr φ70 w)) fun φ70 =>
 Q7 Tr (fun φ72 => ∀ t70 w, Br w → φ70 t70 w → indexAddr P T.j t70 x6 w (dk Tr φ72 w)) fun φ72 =>
 Q7 Tr (fun φ73 => ∀ t72 w, Br w → φ72 t72 w → Q2 P T.l t72 w (dk Tr φ73 w)) fun φ73 =>
 ∀ t64 t69 t65 t67 t68 t70 t72 t73 w, Br w → φ64 t64 w → φ69 t69 w → φ65 t65 w → φ67 t67 w → φ68 t68 w → φ70 t70 w → φ72 t72 w → φ73 t73 w → 
 Q3 P .neq T.l (.tmp 68) (.tmp 73) t68 t73 w fun t74 w =>
 X1 t74 (
 K (.bool false) w) (
 Q3 P .add T.d (.tmp 62) (.const (.int .i64 1)) x6 (.int .i64 1) w fun t63 w =>
 again6 t63 w)) (
 K (.bool true) w))
theorem Nq {a0 a1 : Value} {w : World} {K : Value → World → Prop} (h : Xg a0 a1 w K) : Q1 P F.aD [a0, a1] w K := Q9 Nl Tryz.func71 rfl (by decide) (by kernel_rfl) h
def Fy : W3 := [none, none, none, none, none, none, some ([5], [4, 5, 66, 67, 68, 69, 70, 71, 72, 73, 74, 75, 76, 77, 78, 79, 80, 81, 82, 83]), none, none, none, none, none, none, none, some ([6], [4, 6, 84, 85, 86, 87, 88, 89, 90, 91, 92, 93, 94, 95, 96, 97, 98, 99, 100, 101, 102]), none, none, none, none, none, none]
def Wu (a0 a1 : Value) (w : World) (K : Value → World → Prop) : Prop :=
 box P T.a a0 w fun t2 w =>
 box P T.a a1 w fun t3 w =>
 fieldAddr P T.a t2 0 w fun t7 w =>
 Q2 P T.c t7 w fun t8 w =>
 fieldAddr P T.a t3 0 w fun t9 w =>
 Q2 P T.c t9 w fun t10 w =>
 Q3 P .neq T.c (.tmp 8) (.tmp 10) t8 t10 w fun t11 w =>
 Q0 t11 false w (fieldAddr P T.a t2 1) fun t13 w =>
 Q0 t11 false w (Q2 P T.c t13) fun t14 w =>
 Q0 t11 false w (fieldAddr P T.a t3 1) fun t15 w =>
 Q0 t11 false w (Q2 P T.c t15) fun t16 w =>
 Q0 t11 false w (Q3 P .neq T.c (.tmp 14) (.tmp 16) t14 t16) fun t17 w =>
 pick P t11 (.bool true) t17 w fun t18 w =>
 Q0 t18 false w (fieldAddr P T.a t2 3) fun t20 w =>
 Q0 t18 false w (Q2 P T.m t20) fun t21 w =>
 Q0 t18 false w (fieldAddr P T.a t3 3) fun t22 w =>
 Q0 t18 false w (Q2 P T.m t22) fun t23 w =>
 Q0 t18 false w (Q3 P .neq T.m (.tmp 21) (.tmp 23) t21 t23) fun t24 w =>
 pick P t18 (.bool true) t24 w fun t25 w =>
 Q0 t25 false w (fieldAddr P T.a t2 4) fun t27 w =>
 Q0 t25 false w (Q2 P T.m t27) fun t28 w =>
 Q0 t25 false w (fieldAddr P T.a t3 4) fun t29 w =>
 Q0 t25 false w (Q2 P T.m t29) fun t30 w =>
 Q0 t25 false w (Q3 P .neq T.m (.tmp 28) (.tmp 30) t28 t30) fun t31 w =>
 pick P t25 (.bool true) t31 w fun t32 w =>
 Q0 t32 false w (fieldAddr P T.a t2 5) fun t34 w =>
 Q0 t32 false w (Q2 P T.m t34) fun t35 w =>
 Q0 t32 false w (fieldAddr P T.a t3 5) fun t36 w =>
 Q0 t32 false w (Q2 P T.m t36) fun t37 w =>
 Q0 t32 false w (Q3 P .neq T.m (.tmp 35) (.tmp 37) t35 t37) fun t38 w =>
 pick P t32 (.bool true) t38 w fun t39 w =>
 Q0 t39 false w (fieldAddr P T.a t2 2) fun t41 w =>
 Q0 t39 false w (Q2 P T.f t41) fun t42 w =>
 Q0 t39 false w (fieldAddr P T.a t3 2) fun t43 w =>
 Q0 t39 false w (Q2 P T.f t43) fun t44 w =>
 Q0 t39 false w (Q1 P F.ae [t42, t44]) fun t45 w =>
 Q0 t39 false w (V1 P .not t45) fun t46 w =>
 pick P t39 (.bool true) t46 w fun t47 w =>
 Q0 t47 false w (fieldAddr P T.a t2 6) fun t49 w =>
 Q0 t47 false w (Q2 P T.h t49) fun t50 w =>
 Q0 t47 false w (X4 P .len [T.h] T.d [false] [t50]) fun t51 w =>
 Q0 t47 false w (fieldAddr P T.a t3 6) fun t52 w =>
 Q0 t47 false w (Q2 P T.h t52) fun t53 w =>
 Q0 t47 false w (X4 P .len [T.h] T.d [false] [t53]) fun t54 w =>
 Q0 t47 false w (Q3 P .neq T.d (.tmp 51) (.tmp 54) t51 t54) fun t55 w =>
 pick P t47 (.bool true) t55 w fun t56 w =>
 Q0 t56 false w (fieldAddr P T.a t2 7) fun t58 w =>
 Q0 t56 false w (Q2 P T.e t58) fun t59 w =>
 Q0 t56 false w (X4 P .len [T.e] T.d [false] [t59]) fun t60 w =>
 Q0 t56 false w (fieldAddr P T.a t3 7) fun t61 w =>
 Q0 t56 false w (Q2 P T.e t61) fun t62 w =>
 Q0 t56 false w (X4 P .len [T.e] T.d [false] [t62]) fun t63 w =>
 Q0 t56 false w (Q3 P .neq T.d (.tmp 60) (.tmp 63) t60 t63) fun t64 w =>
 pick P t56 (.bool true) t64 w fun t65 w =>
 X1 t65 (
 K (.bool false) w) (
 lp (α := Value) (.int .i64 0) w fun again6 x6 d_ w =>
 fieldAddr P T.a t2 6 w fun t67 w =>
 Q2 P T.h t67 w fun t68 w =>
 X4 P .len [T.h] T.d [false] [t68] w fun t69 w =>
 Q3 P .lss T.d (.tmp 66) (.tmp 69) x6 t69 w fun t70 w =>
 X1 t70 (
 dr w fun Tr Br =>
 Q7 Tr (fun φ73 => ∀ w, Br w → fieldAddr P T.a t2 6 w (dk Tr φ73 w)) fun φ73 =>
 Q7 Tr (fun φ78 => ∀ w, Br w → fieldAddr P T.a t3 6 w (dk Tr φ78 w)) fun φ78 =>
 Q7 Tr (fun φ74 => ∀ t73 w, Br w → φ73 t73 w → Q2 P T.h t73 w (dk Tr φ74 w)) fun φ74 =>
 Q7 Tr (fun φ76 => ∀ t74 w, Br w → φ74 t74 w → indexAddr P T.h t74 x6 w (dk Tr φ76 w)) fun φ76 =>
 Q7 Tr (fun φ77 => ∀ t76 w, Br w → φ76 t76 w → Q2 P T.i t76 w (dk Tr φ77 w)) fun φ77 =>
 Q7 Tr (fun φ79 => ∀ t78 w, Br w → φ78 t78 w → Q2 P T.h t78 w (dk Tr φ79 w)) fun φ79 =>
 Q7 Tr (fun φ81 => ∀ t79 w, Br w → φ79 t79 w → indexAddr P T.h t79 x6 w (dk Tr φ81 w)) fun φ81 =>
 Q7 Tr (fun φ82 => ∀ t81 w, Br w → φ81 t81 w → Q2 P T.i t81 w (dk Tr φ82 w)) fun φ82 =>
 ∀ t73 t78 t74 t76 t77 t79 t81 t82 w, Br w → φ73 t73 w → φ78 t78 w → φ74 t74 w → φ76 t76 w → φ77 t77 w → φ79 t79 w → φ81 t81 w → φ82 t82 w → 
 Q3 P .neq T.i (.tmp 77) (.tmp 82) t77 t82 w fun t83 w =>
 X1 t83 (
 K (.bool false) w) (
 Q3 P .add T.d (.tmp 71) (.const (.int .i64 1)) x6 (.int .i64 1) w fun t72 w =>
 again6 t72 w)) (
 lp (α := Value) (.int .i64 0) w fun again14 x14 d_ w =>
 fieldAddr P T.a t2 7 w fun t85 w =>
 Q2 P T.e t85 w fun t86 w =>
 X4 P .len [T.e] T.d [false] [t86] w fun t87 w =>
 Q3 P .lss T.d (.tmp 84) (.tmp 87) x14 t87 w fun t88 w =>
 X1 t88 (
 dr w fun Tr Br =>
 Q7 Tr (fun φ91 => ∀ w, Br w → fieldAddr P T.a t2 7 w (dk Tr φ91 w)) fun φ91 =>
 Q7 Tr (fun φ96 => ∀ w, Br w → fieldAddr P T.a t3 7 w (dk Tr φ96 w)) fun φ96 =>
 Q7 Tr (fun φ92 => ∀ t91 w, Br w → φ91 t91 w → Q2 P T.e t91 w (dk Tr φ92 w)) fun φ92 =>
 Q7 Tr (fun φ94 => ∀ t92 w, Br w → φ92 t92 w → indexAddr P T.e t92 x14 w (dk Tr φ94 w)) fun φ94 =>
 Q7 Tr (fun φ95 => ∀ t94 w, Br w → φ94 t94 w → Q2 P T.b t94 w (dk Tr φ95 w)) fun φ95 =>
 Q7 Tr (fun φ97 => ∀ t96 w, Br w → φ96 t96 w → Q2 P T.e t96 w (dk Tr φ97 w)) fun φ97 =>
 Q7 Tr (fun φ99 => ∀ t97 w, Br w → φ97 t97 w → indexAddr P T.e t97 x14 w (dk Tr φ99 w)) fun φ99 =>
 Q7 Tr (fun φ100 => ∀ t99 w, Br w → φ99 t99 w → Q2 P T.b t99 w (dk Tr φ100 w)) fun φ100 =>
 ∀ t91 t96 t92 t94 t95 t97 t99 t100 w, Br w → φ91 t91 w → φ96 t96 w → φ92 t92 w → φ94 t94 w → φ95 t95 w → φ97 t97 w → φ99 t99 w → φ100 t100 w → 
 Q1 P F.aD [t95, t100] w fun t101 w =>
 V1 P .not t101 w fun t102 w =>
 X1 t102 (
 K (.bool false) w) (
 Q3 P .add T.d (.tmp 89) (.const (.int .i64 1)) x14 (.int .i64 1) w fun t90 w =>
 again14 t90 w)) (
 K (.bool true) w)))
theorem Fu {a0 a1 : Value} {w : World} {K : Value → World → Prop} (h : Wu a0 a1 w K) : Q1 P F.be [a0, a1] w K := Q9 Fy Tryz.func28 rfl (by decide) (by kernel_rfl) h
def Mv : W3 := [none, none, none, none, none, none, none, none, none, none, none, none, none, none, none, some ([15], [6, 15, 89, 90, 91, 92, 93, 94, 95, 96, 97, 98, 99, 100, 101, 102, 103]), none, none, none, none, none, none, none, none]
def Qt (a0 a1 a2 : Value) (w : World) (K : Value → World → Prop) : Prop :=
 Q1 P F.bn [a0] w fun t23 w =>
 V1 P .not t23 w fun t24 w =>
 Q0 t24 false w (fun w J => J a1 w) fun t26 w =>
 Q0 t24 false w (X4 P .len [T.c] T.d [false] [t26]) fun t27 w =>
 Q0 t24 false w (Q3 P .gtr T.d (.tmp 27) (.const (.int .i64 100)) t27 (.int .i64 100)) fun t28 w =>
 pick P t24 (.bool true) t28 w fun t29 w =>
 Q0 t29 false w (fun w J => J a2 w) fun t31 w =>
 Q0 t29 false w (X4 P .len [T.c] T.d [false] [t31]) fun t32 w =>
 Q0 t29 false w (Q3 P .gtr T.d (.tmp 32) (.const (.int .i64 100)) t32 (.int .i64 100)) fun t33 w =>
 pick P t29 (.bool true) t33 w fun t34 w =>
 X1 t34 (
 Q1 P F.a8 [] w fun t35 w =>
 K t35 w) (
 Q1 P F.bG [a0] w fun t38 w =>
 ext P t38 0 w fun t39 w =>
 ext P t38 1 w fun t40 w =>
 ext P t38 2 w fun t41 w =>
 Q1 P F.aL [a0] w fun t44 w =>
 ext P t44 0 w fun t45 w =>
 ext P t44 1 w fun t46 w =>
 ext P t44 2 w fun t47 w =>
 Q1 P F.a8 [] w fun t48 w =>
 V1 P .not t48 w fun t49 w =>
 Q0 t49 false w (fun w J => J t47 w) fun t51 w =>
 Q0 t49 false w (Q3 P .neq T.t (.tmp 51) (.const (.int .i64 0)) t51 (.int .i64 0)) fun t52 w =>
 pick P t49 (.bool true) t52 w fun t53 w =>
 Q0 t53 false w (fun w J => J t39 w) fun t55 w =>
 Q0 t53 false w (Q3 P .eql T.p (.tmp 55) (.const (.pointer none)) t55 (.pointer none)) fun t56 w =>
 pick P t53 (.bool true) t56 w fun t57 w =>
 X1 t57 (
 Q1 P F.a8 [] w fun t58 w =>
 Q0 t58 true w (fun w J => J t47 w) fun t60 w =>
 Q0 t58 true w (Q3 P .neq T.t (.tmp 60) (.const (.int .i64 0)) t60 (.int .i64 0)) fun t61 w =>
 pick P t58 t61 (.bool false) w fun t62 w =>
 Q0 t62 true w (fun w J => J t39 w) fun t64 w =>
 Q0 t62 true w (Q3 P .eql T.p (.tmp 64) (.const (.pointer none)) t64 (.pointer none)) fun t65 w =>
 pick P t62 t65 (.bool false) w fun t66 w =>
 K t66 w) (
 Q1 P F.av [t39, a1] w fun t69 w =>
 Q1 P F.q [t45, a1] w fun t72 w =>
 X4 P .len [T.h] T.d [false] [t69] w fun t74 w =>
 X4 P .len [T.h] T.d [false] [t72] w fun t76 w =>
 Q3 P .neq T.d (.tmp 74) (.tmp 76) t74 t76 w fun t77 w =>
 Q0 t77 false w (fun w J => J t39 w) fun t79 w =>
 Q0 t77 false w (fun w J => J a1 w) fun t80 w =>
 Q0 t77 false w (fun w J => J a2 w) fun t81 w =>
 Q0 t77 false w (Q1 P F.a9 [t79, t80, t81]) fun t82 w =>
 Q0 t77 false w (fun w J => J t45 w) fun t83 w =>
 Q0 t77 false w (fun w J => J a1 w) fun t84 w =>
 Q0 t77 false w (fun w J => J a2 w) fun t85 w =>
 Q0 t77 false w (Q1 P F.az [t83, t84, t85]) fun t86 w =>
 Q0 t77 false w (Q3 P .neq T.d (.tmp 82) (.tmp 86) t82 t86) fun t87 w =>
 pick P t77 (.bool true) t87 w fun t88 w =>
 X1 t88 (
 K (.bool false) w) (
 lp (α := Value) (.int .i64 0) w fun again15 x15 d_ w =>
 X4 P .len [T.h] T.d [false] [t69] w fun t91 w =>
 Q3 P .lss T.d (.tmp 89) (.tmp 91) x15 t91 w fun t92 w =>
 X1 t92 (
 dr w fun Tr Br =>
 Q7 Tr (fun φ97 => ∀ w, Br w → indexAddr P T.h t69 x15 w (dk Tr φ97 w)) fun φ97 =>
 Q7 Tr (fun φ101 => ∀ w, Br w → indexAddr P T.h t72 x15 w (dk Tr φ101 w)) fun φ101 =>
 Q7 Tr (fun φ98 => ∀ t97 w, Br w → φ97 t97 w → Q2 P T.i t97 w (dk Tr φ98 w)) fun φ98 =>
 Q7 Tr (fun φ102 => ∀ t101 w, Br w → φ101 t101 w → Q2 P T.i t101 w (dk Tr φ102 w)) fun φ102 =>
 ∀ t97 t101 t98 t102 w, Br w → φ97 t97 w → φ101 t101 w → φ98 t98 w → φ102 t102 w → 
 Q3 P .neq T.i (.tmp 98) (.tmp 102) t98 t102 w fun t103 w =>
 X1 t103 (
 K (.bool false) w) (
 Q3 P .add T.d (.tmp 93) (.const (.int .i64 1)) x15 (.int .i64 1) w fun t94 w =>
 again15 t94 w)) (
 Q1 P F.aw [t39, a1, a2] w fun t108 w =>
 ext P t108 0 w fun t109 w =>
 ext P t108 1 w fun t110 w =>
 ext P t108 2 w fun t111 w =>
 M5 P T.b w fun t17 w =>
 V7 P T.b t17 t110 w fun _u w =>
 Q1 P F.ax [t45, a1, a2] w fun t116 w =>
 ext P t116 0 w fun t117 w =>
 ext P t116 1 w fun t118 w =>
 ext P t116 2 w fun t119 w =>
 M5 P T.b w fun t20 w =>
 V7 P T.b t20 t118 w fun _u w =>
 Q3 P .eql T.c (.tmp 120) (.tmp 121) t109 t117 w fun t122 w =>
 Q0 t122 true w (fun w J => J t111 w) fun t124 w =>
 Q0 t122 true w (fun w J => J t119 w) fun t125 w =>
 Q0 t122 true w (Q3 P .eql T.m (.tmp 124) (.tmp 125) t124 t125) fun t126 w =>
 pick P t122 t126 (.bool false) w fun t127 w =>
 Q0 t127 true w (Q2 P T.b t17) fun t129 w =>
 Q0 t127 true w (buildSlice P T.e 1 [(0, t129)]) fun t130 w =>
 Q0 t127 true w (Qu P T.a [(7, t130)]) fun t131 w =>
 Q0 t127 true w (Q2 P T.b t20) fun t132 w =>
 Q0 t127 true w (buildSlice P T.e 1 [(0, t132)]) fun t133 w =>
 Q0 t127 true w (Qu P T.a [(7, t133)]) fun t134 w =>
 Q0 t127 true w (Q1 P F.be [t131, t134]) fun t135 w =>
 pick P t127 t135 (.bool false) w fun t136 w =>
 K t136 w))))
theorem Mu {a0 a1 a2 : Value} {w : World} {K : Value → World → Prop} (h : Qt a0 a1 a2 w K) : Q1 P F.bm [a0, a1, a2] w K := Q9 Mv Tryz.func5 rfl (by decide) (by kernel_rfl) h
end Go.Proofs.YtdnfaboigajkhaaGreatDoor

set_option maxRecDepth 100000
namespace Go.Proofs.YtdnfaboigajkhaaGreatDoor
open Go.Emb
end Go.Proofs.YtdnfaboigajkhaaGreatDoor


namespace Go.Emb
open Go.RowKit (Below)
variable {P : Program} {w w' : World} {K : Value → World → Prop}
theorem X9 {s : Sem Value} {v : Value} (h : s.run P w = .ok v w') : op P (sv s) w K = K v w' := by
  rw [Yw]; unfold Xo sv; simp [h]
theorem Lp {s : Sem Unit} (h : s.run P w = .ok () w') : op P (su s) w K = K undef w' := by
  rw [Yw]; unfold Xo su; simp [h]
abbrev S (l : List UInt8) : Value := .string ⟨l.toArray⟩
abbrev I (n : Int) : Value := .int .i64 n
theorem Mn {b : Bool} {x y : Value} : pick P (.bool b) x y w K = K (if b then x else y) w := by
  unfold pick; rw [Yw]; unfold Xo; cases b <;> simp [asBool]
theorem Ec {x y : Value} : pick P (.bool true) x y w K = K x w := by rw [Mn]; rfl
theorem Na {x y : Value} : pick P (.bool false) x y w K = K y w := by rw [Mn]; rfl
theorem Q6J {a b : Bool} {u : Value} : pick P (.bool a) (if a = true then .bool b else u) (.bool false) w K = K (.bool (a && b)) w := by
  rw [Mn]; cases a <;> rfl
theorem Q7C {a b : Bool} {u : Value} : pick P (.bool a) (.bool true) (if a = false then .bool b else u) w K = K (.bool (a || b)) w := by
  rw [Mn]; cases a <;> rfl
theorem F8 {run : World → (Value → World → Prop) → Prop} : Q0 (.bool true) true w run K = run w K := by rw [Lz]; simp [Vw]
theorem Ul {run : World → (Value → World → Prop) → Prop} : Q0 (.bool false) false w run K = run w K := by rw [Lz]; simp [Vw]
theorem Kv {run : World → (Value → World → Prop) → Prop} : Q0 (.bool true) false w run K = K undef w := by rw [Lz]; simp [Vw]
theorem Jf {run : World → (Value → World → Prop) → Prop} : Q0 (.bool false) true w run K = K undef w := by rw [Lz]; simp [Vw]
theorem Gm {b : Bool} {run : World → (Value → World → Prop) → Prop} : Q0 undef b w run K = K undef w := by rw [Lz]; rfl
theorem Q6I {a b : Bool} {v : Value} : Q0 (.bool a) b w (fun w J => J v w) K = K (if a = b then v else undef) w := by
  rw [Lz]; unfold Vw; by_cases h : a = b <;> simp [h]
theorem Q2i {b : Bool} {t e : Prop} : X1 (.bool b) t e = if b = true then t else e := by rw [Q38]; cases b <;> rfl
theorem Cy {t e : Prop} : X1 (.bool true) t e = t := by rw [Q2i]; simp
theorem Eo {t e : Prop} : X1 (.bool false) t e = e := by rw [Q2i]; simp
section G3
variable {k : IntKind} {t : TypeId} {ox oy : Operand} {a b : Int}
theorem Rt : Q3 P .add t ox oy (.int k a) (.int k b) w K = K (.int k (k.wrap (a + b))) w := X9 (by simp [eqGuard, Go.binOp, Op.intArith])
theorem Q0Q : Q3 P .sub t ox oy (.int k a) (.int k b) w K = K (.int k (k.wrap (a - b))) w := X9 (by simp [eqGuard, Go.binOp, Op.intArith])
theorem Q4q : Q3 P .mul t ox oy (.int k a) (.int k b) w K = K (.int k (k.wrap (a * b))) w := X9 (by simp [eqGuard, Go.binOp, Op.intArith])
theorem Q12 : Q3 P .lss t ox oy (.int k a) (.int k b) w K = K (.bool (decide (a < b))) w := X9 (by simp [eqGuard, Go.binOp, Op.intCmp])
theorem Q46 : Q3 P .leq t ox oy (.int k a) (.int k b) w K = K (.bool (decide (a ≤ b))) w := X9 (by simp [eqGuard, Go.binOp, Op.intCmp])
theorem Q0C : Q3 P .gtr t ox oy (.int k a) (.int k b) w K = K (.bool (decide (b < a))) w := X9 (by simp [eqGuard, Go.binOp, Op.intCmp])
theorem Pd : Q3 P .geq t ox oy (.int k a) (.int k b) w K = K (.bool (decide (b ≤ a))) w := X9 (by simp [eqGuard, Go.binOp, Op.intCmp])
theorem Po : Q3 P .eql t ox oy (.int k a) (.int k b) w K = K (.bool (decide (a = b))) w := X9 (by
  simp [eqGuard, Go.binOp, Op.intCmp]; rfl)
theorem Q15 : Q3 P .neq t ox oy (.int k a) (.int k b) w K = K (.bool (!decide (a = b))) w := X9 (by
  simp [eqGuard, Go.binOp, Op.intCmp]; rfl)
end G3
theorem Q0F {b : Bool} : V1 P .not (.bool b) w K = K (.bool (!b)) w := X9 (by simp [Op.unary])
section B2
variable {t : TypeId} {ox oy : Operand} {a b : Bool}
theorem Am (d : Nat) (h : P.underlying t = some .bool) : (Op.equalIn (d + 1) t (.bool a) (.bool b)).run P w = .ok (a == b) w := by
  simp [Op.equalIn, run_underlying h]
theorem Hu (h : P.underlying t = some .bool) : (Op.equal t (.bool a) (.bool b)).run P w = .ok (a == b) w := Am 9999 h
theorem Q2P (h : P.underlying t = some .bool) : Q3 P .eql t ox oy (.bool a) (.bool b) w K = K (.bool (a == b)) w := X9 (by
  simp [eqGuard, Go.binOp, Hu h])
theorem Q2r (h : P.underlying t = some .bool) : Q3 P .neq t ox oy (.bool a) (.bool b) w K = K (.bool (!(a == b))) w := X9 (by
  simp [eqGuard, Go.binOp, Hu h])
end B2
theorem Yk {vs : List Value} {i : Nat} {v : Value} (h : vs[i]? = some v) : ext P (.tuple vs.toArray) i w K = K v w := X9 (by
  simp [Instr.extract, h])
theorem Q8r {a b : Value} : ext P (.tuple #[a, b]) 0 w K = K a w := Yk (vs := [a, b]) rfl
theorem Q97 {a b : Value} : ext P (.tuple #[a, b]) 1 w K = K b w := Yk (vs := [a, b]) rfl
theorem Q7u {a b c : Value} : ext P (.tuple #[a, b, c]) 0 w K = K a w := Yk (vs := [a, b, c]) rfl
theorem Q7v {a b c : Value} : ext P (.tuple #[a, b, c]) 1 w K = K b w := Yk (vs := [a, b, c]) rfl
theorem Q7x {a b c : Value} : ext P (.tuple #[a, b, c]) 2 w K = K c w := Yk (vs := [a, b, c]) rfl
theorem B4 {n : Int} (h0 : -9223372036854775808 ≤ n) (h1 : n ≤ 9223372036854775807) : IntKind.i64.wrap n = n := by
  have hm : n % 18446744073709551616 = n ∨ n % 18446744073709551616 = n + 18446744073709551616 := by omega
  show (if (true && decide (n % 18446744073709551616 ≥ 9223372036854775808)) = true then n % 18446744073709551616 - 18446744073709551616 else n % 18446744073709551616) = n
  simp only [Bool.true_and, decide_eq_true_eq]
  split <;> omega
theorem w32 {n : Int} (h0 : -2147483648 ≤ n) (h1 : n ≤ 2147483647) : IntKind.i32.wrap n = n := by
  show (if (true && decide (n % 4294967296 ≥ 2147483648)) = true then n % 4294967296 - 4294967296 else n % 4294967296) = n
  simp only [Bool.true_and, decide_eq_true_eq]
  split <;> omega
section strs
variable {t : TypeId} {ox oy : Operand} {a b : List UInt8}
theorem Q0X (a b : List UInt8) : (a == b) = decide (a = b) := by rw [Bool.eq_iff_iff]; simp
theorem Ha : Q3 P .eql t ox oy (S a) (S b) w K = K (.bool (decide (a = b))) w := X9 (by
  simp [eqGuard, Go.binOp, Op.stringOp, Q0X])
theorem Hf : Q3 P .neq t ox oy (S a) (S b) w K = K (.bool (!decide (a = b))) w := X9 (by
  simp [eqGuard, Go.binOp, Op.stringOp, Q0X])
theorem S3 (l : List UInt8) : (ByteArray.mk l.toArray).size = l.length := by simp [ByteArray.size]
theorem Q6j (a b : List UInt8) : ByteArray.mk a.toArray ++ ByteArray.mk b.toArray = ByteArray.mk (a ++ b).toArray := by
  apply ByteArray.ext; simp
theorem Q9m : IntKind.i64.max = 9223372036854775807 := by decide
theorem Q3v (h : a.length + b.length ≤ 9223372036854775807) : Q3 P .add t ox oy (S a) (S b) w K = K (S (a ++ b)) w := X9 (by
  have h1 : ¬ (((a.length + b.length : Nat) : Int) > IntKind.i64.max) := by rw [Q9m]; omega
  simp only [eqGuard, Go.binOp, Op.stringOp, S3, Q6j]
  simp only [if_neg h1]
  simp)
theorem D2 {cs : List Bool} {r : TypeId} (hu : P.underlying t = some .string) : X4 P .len [t] r cs [S a] w K = K (I a.length) w := by
  have h : (Builtin.len_ #[t] r #[S a]).run P w = .ok (I a.length) w := by
    simp [Builtin.len_, run_underlying hu, S3, goInt]
  exact X9 h
theorem T0 {i : Int} (hu : P.underlying t = some .string) (h0 : 0 ≤ i) (h : i.toNat < a.length) : E3 P t (S a) (I i) w K = K (.int .u8 (a[i.toNat]'h).toNat) w := X9 (by
  simp only [Instr.index, asIntOf, Sem.run_bind, Sem.run_pure, Result.andThen_ok, run_underlying hu, h0, if_true]
  have : (ByteArray.mk a.toArray)[i.toNat]? = some (a[i.toNat]'h) := by
    rw [getElem?_pos _ _ (by rw [S3]; exact h)]
    rfl
  rw [this]; simp)
theorem Q04 (l : List UInt8) (i j : Nat) : (ByteArray.mk l.toArray).extract i j = ByteArray.mk ((l.take j).drop i).toArray := by
  apply ByteArray.ext
  apply Array.ext'
  simp [List.drop_take]
theorem Vt {i : Int} (hu : P.underlying t = some .string) (h0 : 0 ≤ i) (h : i ≤ a.length) : R5 P t (S a) (some (I i)) none none w K = K (S (a.drop i.toNat)) w := X9 (by
  simp [Instr.sliceAt, Instr.slice, Instr.sliceBounds, Instr.sliceBound, asIntOf, run_underlying hu, h0, h, S3, Q04])
theorem I1 {i : Int} (hu : P.underlying t = some .string) (h0 : 0 ≤ i) (h : i ≤ a.length) : R5 P t (S a) none (some (I i)) none w K = K (S (a.take i.toNat)) w := X9 (by
  simp [Instr.sliceAt, Instr.slice, Instr.sliceBounds, Instr.sliceBound, asIntOf, run_underlying hu, h0, h, S3, Q04])
end strs
theorem Af {s d : TypeId} {k j : IntKind} {n : Int} {ds : TypeDesc} (hs : P.underlying s = some ds) (hd : P.underlying d = some (.int k)) : conv P s d (.int j n) w K = K (.int k (k.wrap n)) w := X9 (by
  simp [Go.convert, run_underlying hs, run_underlying hd, Conv.intToInt])
def Gs (w : World) (r : Nat) (o : Obj) : World := { w with heap := w.heap.setIfInBounds r o }
theorem Q19 {B r : Nat} {a w : World} {o : Obj} (h : Below B a w) (hr : B ≤ r) : Below B a (Gs w r o) :=
  h.trans ⟨rfl, rfl, rfl, by simp [Gs], fun k hk => by simp only [Gs]; rw [Array.getElem?_setIfInBounds_ne (by omega)]⟩
theorem Q44 {w : World} {r : Nat} {o : Obj} (h : r < w.heap.size) : (Gs w r o).heap[r]? = some o := by
  simp only [Gs]; rw [Array.getElem?_setIfInBounds_self_of_lt h]
theorem Q84 {t : TypeId} {a : List UInt8} (hu : P.underlying t = some .string) : rng P t (S a) w K = K (.pointer (some ⟨w.heap.size, 0, none⟩)) (w.alloc (.stringIter ⟨a.toArray⟩ 0)) := X9 (by
  simp [Instr.range, run_underlying hu])
theorem Q7K {t : TypeId} {r pos : Nat} {s : ByteArray} (h : w.heap[r]? = some (.stringIter s pos)) (hp : pos < s.size) :
    N4 P (.pointer (some ⟨r, 0, none⟩)) true t w K = K (.tuple #[.bool true, I pos, .int .i32 (Utf8.decode s pos).1]) (Gs w r (.stringIter s (pos + (Utf8.decode s pos).2))) := X9 (by
  have h1 : ∀ (k : Obj → Sem Value), (getObj r >>= k).run P w = (k (.stringIter s pos)).run P w := by
    intro k; rw [Sem.run_bind]; simp [getObj, Sem.run, h]
  have h2 : ∀ o, (setObj r o).run P w = .ok () (Gs w r o) := by intro o; simp [setObj, Sem.run, h, Gs]
  unfold Instr.next
  simp only [h1, hp, if_true]
  simp [h2, goInt])
theorem Q3L {t : TypeId} {r pos : Nat} {s : ByteArray} (h : w.heap[r]? = some (.stringIter s pos)) (hp : ¬ pos < s.size) :
    N4 P (.pointer (some ⟨r, 0, none⟩)) true t w K = K (.tuple #[.bool false]) w := X9 (by
  have h1 : ∀ (k : Obj → Sem Value), (getObj r >>= k).run P w = (k (.stringIter s pos)).run P w := by
    intro k; rw [Sem.run_bind]; simp [getObj, Sem.run, h]
  unfold Instr.next
  simp only [h1, hp, if_false]
  simp)
theorem Q7r {a : Value} : ext P (.tuple #[a]) 0 w K = K a w := Yk (vs := [a]) rfl
theorem Q59 {s : ByteArray} {i : Nat} (h : (s.get! i).toNat < 128) : Utf8.decode s i = ((s.get! i).toNat, 1) := by
  unfold Utf8.decode
  simp only [Nat.add_zero]
  rw [if_pos h]
theorem Q3Z {s : ByteArray} {i : Nat} (h : ¬ (s.get! i).toNat < 128) : 128 ≤ (Utf8.decode s i).1 := by
  unfold Utf8.decode
  simp only [Nat.add_zero]
  rw [if_neg h]
  repeat' split
  all_goals (simp only [Utf8.runeError] at *; try omega)
  all_goals (simp only [Bool.and_eq_true, decide_eq_true_eq, ge_iff_le] at *; omega)
theorem Q2X {s : ByteArray} {i : Nat} : 1 ≤ (Utf8.decode s i).2 := by
  unfold Utf8.decode
  simp only
  repeat' split
  all_goals simp
def Sw (p : Int → Bool) (s : ByteArray) : Nat → Nat → Bool
  | 0, _ => true
  | n + 1, i => if i < s.size then p (Utf8.decode s i).1 && Sw p s n (i + (Utf8.decode s i).2) else true
theorem Q13 {a : List UInt8} {i : Nat} (h : i < a.length) : (ByteArray.mk a.toArray).get! i = a[i] := by
  show (ByteArray.mk a.toArray).data[i]! = a[i]
  simp [h]
theorem Q4G (p : Int → Bool) (hp : ∀ c : Int, 128 ≤ c → p c = false) (a : List UInt8) : ∀ (n i : Nat), a.length - i ≤ n → Sw p ⟨a.toArray⟩ n i = (a.drop i).all (fun b => p b.toNat) := by
  intro n
  induction n with
  | zero => intro i h; rw [List.drop_eq_nil_of_le (by omega)]; rfl
  | succ n ih =>
    intro i h
    simp only [Sw, S3]
    split
    · rename_i hi
      rw [List.drop_eq_getElem_cons hi, List.all_cons]
      by_cases hl : a[i].toNat < 128
      · rw [Q59 (by rw [Q13 hi]; exact hl), Q13 hi]
        simp only
        rw [ih (i + 1) (by omega)]
      · have h1 := Q3Z (s := ⟨a.toArray⟩) (i := i) (by rw [Q13 hi]; exact hl)
        rw [hp _ (by omega), hp _ (by omega)]; rfl
    · rename_i hi; rw [List.drop_eq_nil_of_le (by omega)]; rfl
theorem V4 {α : Type} {A : (α → World → Prop) → World → Prop} {B : α → (Nat → Value) → World → Prop} (h : A (fun x w => ∀ d, B x d w) w) : jn w A B := Vx _ h (fun _ d _ hx => hx d)
theorem X2 {Tr : World → World → Prop} {A rest : (Value → World → Prop) → Prop} (V : Value) (h : A (fun v _ => v = V)) (hr : rest (fun v _ => v = V)) : Q7 Tr A rest :=
  O3 _ (fun _ _ _ h _ => h) h hr
theorem Ll {w w0 : World} {A : (World → World → Prop) → (World → Prop) → Prop} (hb : Below w0.heap.size w0 w)
    (h : A (fun w w' => Below w.heap.size w w') (fun w' => Below w0.heap.size w0 w')) : dr w A :=
  Q07 _ _ hb.drew (fun _ _ h1 h2 => h1.trans (h2.mono h1.size)) h
theorem Q0n {w w' : World} {v V : Value} (hb : Below w.heap.size w w') (h : v = V) : dk (fun w w' => Below w.heap.size w w') (fun v _ => v = V) w v w' := ⟨hb, h⟩
theorem X5 {w : World} {v V : Value} (h : v = V) : dk (fun w w' => Below w.heap.size w w') (fun v _ => v = V) w v w := ⟨Below.refl _ _, h⟩
theorem Q3I {n : Nat} {fn : Func} {e : Array Value → Sem Value} {xs : List Value} {v : Value} (h1 : P.funcs[n]? = some fn) (h2 : (fn.name == "runtime.NumGoroutine") = false) (h3 : fn.body.isNone = true)
    (h4 : (Extern.findNext fn).isNone = true) (h5 : Extern.find fn = some e) (h6 : (e xs.toArray).run P w = .ok v w) (h : K v w) : Q1 P n xs w K := by
  have h4' : Extern.findNext fn = none := by simpa using h4
  have h2' : ¬ fn.name = "runtime.NumGoroutine" := by simpa using h2
  have h3' : fn.body = none := by simpa using h3
  unfold Q1
  rw [Yw]
  unfold Xo callFunc
  simp [h1, h2', h3', h4', h5, h6, h]
theorem Q00 {α : Type} (p : α → Bool) (p' : Nat → Bool) : ∀ (l : List α), (∀ i (h : i < l.length), p' i = p l[i]) → (List.range l.length).find? p' = l.findIdx? p
  | [], _ => rfl
  | x :: l, h => by
    rw [List.length_cons, List.range_succ_eq_map, List.find?_cons, List.findIdx?_cons]
    have h0 : p' 0 = p x := h 0 (by simp)
    rw [h0]
    cases p x
    · simp only [Bool.false_eq_true, if_false]
      rw [List.find?_map]
      have := Q00 p (p' ∘ Nat.succ) l (fun i hi => h (i + 1) (by simpa using hi))
      rw [this]
    · rfl
def Mr := And.intro @Ec <| And.intro @Na <| And.intro @Gm <| And.intro @Rt <| And.intro @Q0Q <| And.intro @Q4q <| And.intro @Q12 <| And.intro @Q46 <| And.intro @Q0C <| And.intro @Pd <| And.intro @Po <| And.intro @Q15 <| And.intro @Q0F <| And.intro @Ha <| And.intro @Hf <| And.intro @Q8r <| And.intro @Q97 <| And.intro @Q7u <| And.intro @Q7v <| And.intro @Q7x <| And.intro @Q7r <| And.intro @Q6J <| And.intro @Q7C <| And.intro @F8 <| And.intro @Ul <| And.intro @Kv <| And.intro @Jf <| And.intro @Q6I <| And.intro @Cy <| @Eo
def Mp := And.intro @Ec <| And.intro @Na <| And.intro @Gm <| And.intro @Rt <| And.intro @Q0Q <| And.intro @Q4q <| And.intro @Q12 <| And.intro @Q46 <| And.intro @Q0C <| And.intro @Pd <| And.intro @Po <| And.intro @Q15 <| And.intro @Q0F <| And.intro @Ha <| And.intro @Hf <| And.intro @Q8r <| And.intro @Q97 <| And.intro @Q7u <| And.intro @Q7v <| And.intro @Q7x <| And.intro @Q7r <| And.intro @F8 <| And.intro @Ul <| And.intro @Kv <| And.intro @Jf <| And.intro @Cy <| @Eo
def Mb := And.intro @Bool.true_eq_false <| And.intro @Bool.false_eq_true <| And.intro @Bool.not_true <| And.intro @Bool.not_false <| And.intro @Bool.and_true <| And.intro @Bool.true_and <| And.intro @Bool.and_false <| And.intro @Bool.false_and <| And.intro @Bool.or_true <| And.intro @Bool.true_or <| And.intro @Bool.or_false <| @Bool.false_or
end Go.Emb

namespace Go.Kd
abbrev X0 := List UInt8
def P3 (c : Int) : Bool := decide (65 ≤ c) && decide (c ≤ 90)
def G1 (c : Int) : Bool := decide (97 ≤ c) && decide (c ≤ 122)
def R2 (c : Int) : Bool := decide (48 ≤ c) && decide (c ≤ 57)
def D8 (c : Int) : Bool := P3 c || G1 c || R2 c
def name (s : X0) : Bool := match s with
  | [] => false
  | c :: _ => decide (s.length ≤ 32) && !R2 c.toNat && s.all (fun b => D8 b.toNat)
def L3 (s : X0) : Bool := match s with
  | [] => false
  | c :: _ => name s && P3 c.toNat
def M6 (s : X0) : Bool := match s with
  | [] => false
  | c :: _ => name s && G1 c.toNat
def plain (s : X0) : Bool := decide (s = [105, 110, 116]) || decide (s = [98, 111, 111, 108]) || decide (s = [116, 101, 120, 116])
def D5 (s : X0) : Bool := decide (2 ≤ s.length) && decide (s.drop (s.length - 2) = [91, 93])
def O5 (s : X0) : X0 := s.take (s.length - 2)
def A7 : Nat → X0 → X0 × Nat
  | 0, s => (s, 0)
  | n + 1, s => if D5 s then ((A7 n (O5 s)).1, (A7 n (O5 s)).2 + 1) else (s, 0)
def V5 (s : X0) : X0 × Nat := A7 s.length s
def right (s : X0) : Bool := decide ((V5 s).2 ≤ 3) && (plain (V5 s).1 || L3 (V5 s).1)
def Hc (s : X0) : X0 := if D5 s && right s then O5 s else []
def As (s : X0) : Nat := if right s then (V5 s).2 else 0
def K6 (s : X0) : X0 × X0 × Bool := match s with
  | [] => ([], [], false)
  | c :: r => if c = 46 then ([], r, true) else ((c :: (K6 r).1), (K6 r).2.1, (K6 r).2.2)
def Qx (s : X0) : Bool := (K6 s).2.2 && L3 (K6 s).1 && M6 (K6 s).2.1
def Pj (c : UInt8) (s : X0) : Int := match s.findIdx? (fun b => decide (b = c)) with
  | some i => i
  | none => -1
def Q0u (s : X0) (o : Option Nat) : X0 × X0 × Bool := match o with
  | some i => (s.take i, s.drop (i + 1), true)
  | none => (s, [], false)
theorem Bg (s : X0) : K6 s = Q0u s (s.findIdx? (fun b => decide (b = 46))) := by
  induction s with
  | nil => rfl
  | cons c r ih =>
    rw [List.findIdx?_cons]
    simp only [K6]
    by_cases h : c = 46
    · simp [h, Q0u]
    · simp only [h, if_false, decide_false, Bool.false_eq_true]
      rw [ih]
      cases r.findIdx? (fun b => decide (b = 46)) with
      | none => simp [Q0u]
      | some i => simp [Q0u]
end Go.Kd

namespace Go.Proofs.YtdnfaboigajkhaaGreatDoor
open Go.Emb Go.RowKit Go.Kd
variable {w : World} {K : Value → World → Prop}
theorem X7 : P.underlying T.c = some .string := by kernel_rfl
theorem Q08 : P.underlying T.d = some (.int .i64) := by kernel_rfl
theorem Zv : P.underlying T.m = some .bool := by kernel_rfl
theorem Q0O : P.underlying T.s = some (.int .u8) := by kernel_rfl
theorem Q4a : P.underlying T.ac = some (.int .i32) := by kernel_rfl
theorem Q47 (c : Int) (h : K (.bool (P3 c)) w) : Q1 P F.bL [.int .i32 c] w K := Q2x (by
  unfold Gy
  (try simp only [↓Mr, Mr, Mb, reduceIte])
  cases h1 : decide (65 ≤ c) <;> simp only [h1, ↓Mr, Mr, Mb, reduceIte] <;> simpa [P3, h1] using h)
theorem Q4u (c : Int) (h : K (.bool (G1 c)) w) : Q1 P F.bN [.int .i32 c] w K := Q2S (by
  unfold Kl
  (try simp only [↓Mr, Mr, Mb, reduceIte])
  cases h1 : decide (97 ≤ c) <;> simp only [h1, ↓Mr, Mr, Mb, reduceIte] <;> simpa [G1, h1] using h)
theorem Q7N (c : Int) (h : K (.bool (D8 c)) w) : Q1 P F.bE [.int .i32 c] w K := Q1T (by
  unfold Bv
  refine Q47 c ?_
  cases h1 : P3 c
  · (try simp only [↓Mr, Mr, Mb, reduceIte])
    refine Q4u c ?_
    cases h2 : G1 c
    · (try simp only [↓Mr, Mr, Mb, reduceIte])
      cases h3 : decide (48 ≤ c)
      · (try simp only [↓Mr, Mr, Mb, reduceIte])
        simpa [D8, R2, h1, h2, h3] using h
      · (try simp only [↓Mr, Mr, Mb, reduceIte])
        simpa [D8, R2, h1, h2, h3] using h
    · (try simp only [↓Mr, Mr, Mb, reduceIte])
      simpa [D8, h1, h2] using h
  · (try simp only [↓Mr, Mr, Mb, reduceIte])
    simpa [D8, h1] using h)
theorem Q9d (a : List UInt8) (f : Value) (p : Int → Bool) (hf : ∀ (c : Int) (w : World) (K : Value → World → Prop), K (.bool (p c)) w → Z6 P f [.int .i32 c] w K)
    (h : ∀ w', Below w.heap.size w w' → K (.bool (Sw p ⟨a.toArray⟩ a.length 0)) w') : Q1 P F.c2 [S a, f] w K := Q4C (by
  unfold Q0g
  rw [Q84 X7]
  refine Jh (fun _ w' => ∃ pos n : Nat, a.length - pos ≤ n ∧ Sw p ⟨a.toArray⟩ a.length 0 = Sw p ⟨a.toArray⟩ n pos ∧ Below w.heap.size w w' ∧ w'.heap[w.heap.size]? = some (.stringIter ⟨a.toArray⟩ pos))
    (fun _ w' => match w'.heap[w.heap.size]? with | some (.stringIter _ pos) => a.length - pos | _ => 0) ⟨0, a.length, by omega, rfl, (Below.refl _ _).alloc (Nat.le_refl _) _, heap_alloc_new w _⟩ ?_
  rintro _ _ w1 ⟨pos, n, hn, he, hb, hi⟩
  by_cases hp : pos < a.length
  · rw [Q7K hi (by rw [S3]; exact hp)]
    (try simp only [↓Mr, Mr, Mb, reduceIte])
    refine hf _ _ _ ?_
    obtain ⟨n, rfl⟩ : ∃ m, n = m + 1 := ⟨n - 1, by omega⟩
    simp only [Sw, S3, hp, if_true] at he
    have hw := Q2X (s := ⟨a.toArray⟩) (i := pos)
    have hsz : w.heap.size < w1.heap.size := (Array.getElem?_eq_some_iff.1 hi).1
    cases hc : p (Utf8.decode ⟨a.toArray⟩ pos).1
    · (try simp only [↓Mr, Mr, Mb, reduceIte])
      rw [hc] at he
      have := h _ (Q19 (o := .stringIter ⟨a.toArray⟩ (pos + (Utf8.decode ⟨a.toArray⟩ pos).2)) hb (Nat.le_refl _))
      rw [he] at this
      exact this
    · (try simp only [↓Mr, Mr, Mb, reduceIte])
      rw [hc] at he
      refine ⟨⟨_, n, ?_, he, Q19 hb (Nat.le_refl _), Q44 hsz⟩, ?_⟩
      · omega
      · simp only [Q44 hsz, hi]; omega
  · rw [Q3L hi (by rw [S3]; exact hp)]
    (try simp only [↓Mr, Mr, Mb, reduceIte])
    have : Sw p ⟨a.toArray⟩ n pos = true := by
      cases n with
      | zero => rfl
      | succ n => simp only [Sw, S3, hp, if_false]
    rw [← this, ← he]
    exact h _ hb)
theorem Q4I (c : Int) (h : 128 ≤ c) : D8 c = false := by
  simp [D8, P3, G1, R2]; omega
theorem Q2d (a : List UInt8) (ha : a.length ≤ 140737488355328) (h : ∀ w', Below w.heap.size w w' → K (.bool (name a)) w') : Q1 P F.bx [S a] w K := Q3A (by
  unfold Tl
  have fin : ∀ c r, a = c :: r → (decide (a.length ≤ 32) && !R2 c.toNat) = true → Q1 P F.c2 [S a, (.func (.func F.bE) #[] #[])] w K := by
    intro c r hc h1
    refine Q9d a _ D8 (fun c w K h => J0 (first := []) (caps := []) (Q7N c h)) fun w' hb => ?_
    rw [Q4G _ Q4I a _ _ (by omega)]
    have := h w' hb
    rw [hc] at this h1 ⊢
    simp only [name] at this
    rw [h1, Bool.true_and] at this
    simpa using this
  cases a with
  | nil =>
    simp only [↓Mr, Mr, Mb, reduceIte, decide_true]
    exact h w (Below.refl _ _)
  | cons c r =>
    have hne : decide (c :: r = []) = false := by simp
    simp only [↓Mr, Mr, Mb, reduceIte, hne, D2 X7]
    by_cases hl : (c :: r).length ≤ 32
    · have hl' : r.length ≤ 31 := by simpa using hl
      have h1 : decide ((32 : Int) < ((c :: r).length : Int)) = false := by simp only [decide_eq_false_iff_not]; omega
      simp only [↓Mr, Mr, Mb, reduceIte, h1]
      rw [T0 X7 (by omega) (by simp)]
      (try simp only [↓Mr, Mr, Mb, reduceIte])
      have hi : (c :: r)[(0 : Int).toNat]'(by simp) = c := rfl
      simp only [hi]
      cases h2 : decide ((48 : Int) ≤ (c.toNat : Int))
      · (try simp only [↓Mr, Mr, Mb, reduceIte])
        exact fin c r rfl (by simp [R2, hl', h2])
      · (try simp only [↓Mr, Mr, Mb, reduceIte])
        rw [T0 X7 (by omega) (by simp)]
        simp only [↓Mr, Mr, Mb, reduceIte, hi]
        cases h3 : decide ((c.toNat : Int) ≤ 57)
        · (try simp only [↓Mr, Mr, Mb, reduceIte])
          exact fin c r rfl (by simp only [R2, h2, h3]; simp [hl'])
        · (try simp only [↓Mr, Mr, Mb, reduceIte])
          have : name (c :: r) = false := by simp only [name, R2, h2, h3]; simp
          rw [← this]; exact h w (Below.refl _ _)
    · have h1 : decide ((32 : Int) < ((c :: r).length : Int)) = true := by simp only [decide_eq_true_eq]; omega
      simp only [↓Mr, Mr, Mb, reduceIte, h1]
      have : name (c :: r) = false := by simp only [name]; rw [decide_eq_false hl]; rfl
      rw [← this]; exact h w (Below.refl _ _))
theorem Nt (a : List UInt8) (ha : a.length ≤ 140737488355328) (h : ∀ w', Below w.heap.size w w' → K (.bool (L3 a)) w') : Q1 P F.ad [S a] w K := Q36 (by
  unfold Ik
  refine Q2d a ha fun w1 hb => ?_
  cases a with
  | nil =>
    simp only [name, ↓Mr, Mr, Mb, reduceIte]
    exact h w1 hb
  | cons c r =>
    cases hn : name (c :: r)
    · (try simp only [↓Mr, Mr, Mb, reduceIte])
      have := h w1 hb
      simp only [L3, hn] at this
      simpa using this
    · (try simp only [↓Mr, Mr, Mb, reduceIte])
      rw [T0 X7 (by omega) (by simp)]
      have hi : (c :: r)[(0 : Int).toNat]'(by simp) = c := rfl
      simp only [hi]
      rw [Af Q0O Q4a, w32 (by omega) (by have := c.toNat_lt; omega)]
      refine Q47 _ ?_
      (try simp only [↓Mr, Mr, Mb, reduceIte])
      have := h w1 hb
      simp only [L3, hn] at this
      simpa using this)
theorem Jt (a : List UInt8) (h : K (.bool (plain a)) w) : Q1 P F.ab [S a] w K := Q2e (by
  unfold Iu
  (try simp only [↓Mr, Mr, Mb, reduceIte])
  cases h1 : decide (a = [105, 110, 116]) <;> (try simp only [↓Mr, Mr, Mb, reduceIte])
  · cases h2 : decide (a = [98, 111, 111, 108]) <;> (try simp only [↓Mr, Mr, Mb, reduceIte]) <;> simpa [plain, h1, h2] using h
  · simpa [plain, h1] using h)
def Xv (a b : List UInt8) : Bool := decide (b.length ≤ a.length) && decide (a.drop (a.length - b.length) = b)
theorem Ln (a b : List UInt8) (ha : a.length ≤ 140737488355328) (hb : b.length ≤ 140737488355328) (h : K (.bool (Xv a b)) w) : Q1 P F.a2 [S a, S b] w K := Dr (by
  unfold Zj
  rw [D2 X7, D2 X7]
  (try simp only [↓Mr, Mr, Mb, reduceIte])
  by_cases hl : b.length ≤ a.length
  · have h1 : decide ((b.length : Int) ≤ a.length) = true := by simp only [decide_eq_true_eq]; omega
    simp only [↓Mr, Mr, Mb, reduceIte, h1, D2 X7]
    rw [B4 (by omega) (by omega), Vt X7 (by omega) (by omega)]
    (try simp only [↓Mr, Mr, Mb, reduceIte])
    rw [show ((a.length : Int) - b.length).toNat = a.length - b.length from by omega]
    simpa [Xv, hl] using h
  · have h1 : decide ((b.length : Int) ≤ a.length) = false := by simp only [decide_eq_false_iff_not]; omega
    simp only [↓Mr, Mr, Mb, reduceIte, h1]
    simpa [Xv, hl] using h)
theorem Q3O (a b : List UInt8) (ha : a.length ≤ 140737488355328) (hb : b.length ≤ 140737488355328) (h : K (.bool (Xv a b)) w) : Q1 P F.bj [S a, S b] w K := Fz (by
  unfold Lf
  exact Ln a b ha hb h)
def Lk (a b : List UInt8) : List UInt8 := if Xv a b then a.take (a.length - b.length) else a
theorem Q1u {a b : List UInt8} (h : Xv a b = true) : b.length ≤ a.length := by
  simp only [Xv, Bool.and_eq_true, decide_eq_true_eq] at h; exact h.1
theorem Q33 (a b : List UInt8) (ha : a.length ≤ 140737488355328) (hb : b.length ≤ 140737488355328) (h : K (S (Lk a b)) w) : Q1 P F.b7 [S a, S b] w K := Su (by
  unfold Vm
  refine Dl ?_
  unfold Ya
  refine Ln a b ha hb ?_
  cases hs : Xv a b
  · (try simp only [↓Mr, Mr, Mb, reduceIte])
    simpa [Lk, hs] using h
  · have hl := Q1u hs
    simp only [↓Mr, Mr, Mb, reduceIte, D2 X7]
    rw [B4 (by omega) (by omega), I1 X7 (by omega) (by omega)]
    rw [show ((a.length : Int) - b.length).toNat = a.length - b.length from by omega]
    simpa [Lk, hs] using h)
theorem Q3S (a b : List UInt8) (ha : a.length ≤ 140737488355328) (hb : b.length ≤ 140737488355328) (h : K (.tuple #[S (Lk a b), .bool (Xv a b)]) w) : Q1 P F.bh [S a, S b] w K := Gc (by
  unfold Wp
  refine Dn ?_
  unfold Zh
  refine Ln a b ha hb ?_
  cases hs : Xv a b
  · (try simp only [↓Mr, Mr, Mb, reduceIte])
    simpa [Lk, hs] using h
  · have hl := Q1u hs
    simp only [↓Mr, Mr, Mb, reduceIte, D2 X7]
    rw [B4 (by omega) (by omega), I1 X7 (by omega) (by omega)]
    rw [show ((a.length : Int) - b.length).toNat = a.length - b.length from by omega]
    (try simp only [↓Mr, Mr, Mb, reduceIte])
    simpa [Lk, hs] using h)
theorem Q0h (a : List UInt8) : Xv a [91, 93] = D5 a := rfl
theorem Tq (a : List UInt8) : Lk a [91, 93] = if D5 a then Kd.O5 a else a := rfl
theorem K0 {a : List UInt8} (h : D5 a = true) : (Kd.O5 a).length + 2 = a.length := by
  simp only [D5, Bool.and_eq_true, decide_eq_true_eq] at h
  simp only [Kd.O5, List.length_take]; omega
theorem Q09 : ∀ (n m : Nat) (a : List UInt8), a.length ≤ n → a.length ≤ m → A7 n a = A7 m a
  | 0, 0, a, _, _ => rfl
  | 0, m + 1, a, h, _ => by
    have : a = [] := List.eq_nil_of_length_eq_zero (by omega)
    subst this; rfl
  | n + 1, 0, a, _, h => by
    have : a = [] := List.eq_nil_of_length_eq_zero (by omega)
    subst this; rfl
  | n + 1, m + 1, a, h1, h2 => by
    simp only [A7]
    split
    · rename_i h
      have := K0 h
      rw [Q09 n m (Kd.O5 a) (by omega) (by omega)]
    · rfl
theorem Zc (a : List UInt8) : V5 a = if D5 a then ((V5 (Kd.O5 a)).1, (V5 (Kd.O5 a)).2 + 1) else (a, 0) := by
  unfold V5
  cases hl : a.length with
  | zero =>
    have : a = [] := List.eq_nil_of_length_eq_zero hl
    subst this; rfl
  | succ n =>
    simp only [A7]
    split
    · rename_i h
      have := K0 h
      rw [Q09 n (Kd.O5 a).length (Kd.O5 a) (by omega) (Nat.le_refl _)]
    · rfl
theorem Pe (a : List UInt8) : (V5 a).1.length + 2 * (V5 a).2 = a.length := by
  have key : ∀ n (a : List UInt8), (A7 n a).1.length + 2 * (A7 n a).2 = a.length := by
    intro n
    induction n with
    | zero => intro a; simp [A7]
    | succ n ih =>
      intro a
      simp only [A7]
      split
      · rename_i h
        have := K0 h
        have := ih (Kd.O5 a)
        simp only; omega
      · simp
  exact key _ a
theorem Q5W (a : List UInt8) (ha : a.length ≤ 140737488355328) (h : K (.tuple #[S (V5 a).1, I (V5 a).2]) w) : Q1 P F.bW [S a] w K := Q3u (by
  unfold Tp
  refine Jh (fun x w' => w' = w ∧ ∃ (b : List UInt8) (n : Nat), x = (S b, I n) ∧ b.length + 2 * n = a.length ∧ V5 a = ((V5 b).1, (V5 b).2 + n)) (fun x _ => match x.1 with | .string s => s.size | _ => 0)
    ⟨rfl, a, 0, rfl, by omega, rfl⟩ ?_
  rintro _ _ _ ⟨rfl, b, n, rfl, hl, he⟩
  refine Q3O b _ (by omega) (by simp) ?_
  rw [Q0h]
  cases hb : D5 b
  · (try simp only [↓Mr, Mr, Mb, reduceIte])
    rw [Zc b, hb] at he
    simp only [Bool.false_eq_true, if_false, Nat.zero_add] at he
    rw [he] at h; exact h
  · (try simp only [↓Mr, Mr, Mb, reduceIte])
    refine Q33 b _ (by omega) (by simp) ?_
    rw [Tq, hb]
    simp only [↓Mr, Mr, Mb, reduceIte, if_true]
    have hc := K0 hb
    rw [B4 (by omega) (by omega)]
    refine ⟨⟨by first | rfl | trivial, Kd.O5 b, n + 1, by simp, by omega, ?_⟩, ?_⟩
    · rw [he, Zc b, hb]; simp; omega
    · simp only [S3]; omega)
theorem Yv (a : List UInt8) (ha : a.length ≤ 140737488355328) (h : ∀ w', Below w.heap.size w w' → K (.bool (right a)) w') : Q1 P F.a0 [S a] w K := Q3b (by
  unfold Iy
  have hbl := Pe a
  refine Q5W a ha ?_
  (try simp only [↓Mr, Mr, Mb, reduceIte])
  by_cases hn : (V5 a).2 ≤ 3
  · have h1 : decide (((V5 a).2 : Int) ≤ 3) = true := by simp only [decide_eq_true_eq]; omega
    simp only [↓Mr, Mr, Mb, reduceIte, h1]
    refine Jt _ ?_
    cases hp : plain (V5 a).1
    · (try simp only [↓Mr, Mr, Mb, reduceIte])
      refine Nt _ (by omega) fun w1 hb => ?_
      (try simp only [↓Mr, Mr, Mb, reduceIte])
      have := h w1 hb
      simp only [right, hn, hp] at this
      simpa using this
    · (try simp only [↓Mr, Mr, Mb, reduceIte])
      have := h w (Below.refl _ _)
      simp only [right, hn, hp] at this
      simpa using this
  · have h1 : decide (((V5 a).2 : Int) ≤ 3) = false := by simp only [decide_eq_false_iff_not]; omega
    simp only [↓Mr, Mr, Mb, reduceIte, h1]
    have := h w (Below.refl _ _)
    simp only [right, hn] at this
    simpa using this)
theorem Q8M (a : List UInt8) (ha : a.length ≤ 140737488355328) (h : ∀ w', Below w.heap.size w w' → K (S (Hc a)) w') : Q1 P F.c9 [S a] w K := Q3B (by
  unfold Tv
  refine Q3S a _ ha (by simp) ?_
  rw [Q0h, Tq]
  (try simp only [↓Mr, Mr, Mb, reduceIte])
  cases hb : D5 a
  · (try simp only [↓Mr, Mr, Mb, reduceIte])
    have := h w (Below.refl _ _)
    simp only [Hc, hb] at this
    exact this
  · (try simp only [↓Mr, Mr, Mb, reduceIte])
    refine Yv a ha fun w1 hw => ?_
    have := h w1 hw
    cases hr : right a
    · (try simp only [↓Mr, Mr, Mb, reduceIte])
      simp only [Hc, hb, hr] at this
      exact this
    · simp only [↓Mr, Mr, Mb, reduceIte, if_true]
      simp only [Hc, hb, hr] at this
      exact this)
theorem Q90 (a : List UInt8) (ha : a.length ≤ 140737488355328) (h : ∀ w', Below w.heap.size w w' → K (I (As a)) w') : Q1 P F.cc [S a] w K := Q3M (by
  unfold Tg
  refine Q5W a ha ?_
  (try simp only [↓Mr, Mr, Mb, reduceIte])
  refine Yv a ha fun w1 hw => ?_
  have := h w1 hw
  cases hr : right a <;> (try simp only [↓Mr, Mr, Mb, reduceIte]) <;> simpa [As, hr] using this)
end Go.Proofs.YtdnfaboigajkhaaGreatDoor

namespace Go.Proofs.YtdnfaboigajkhaaGreatDoor
open Go.Emb Go.RowKit Go.Kd
variable {w : World} {K : Value → World → Prop}
theorem Ta (a : List UInt8) (c : UInt8) (h : K (I (Pj c a)) w) : Q1 P F.bw [S a, .int .u8 c.toNat] w K := by
  refine Q3I (e := Extern.BytealgIndexByte.indexByte) Tryz.func193 (by decide) rfl (by kernel_rfl) (by kernel_rfl) ?_ h
  have e1 : ((List.range (ByteArray.mk a.toArray).size).find? fun i => (ByteArray.mk a.toArray)[i]! == c) = a.findIdx? (fun b => decide (b = c)) := by
    rw [S3]
    refine Q00 _ _ a fun i hi => ?_
    have : (ByteArray.mk a.toArray)[i]! = a[i] := by
      rw [getElem!_pos _ _ (by rw [S3]; exact hi)]; rfl
    rw [this, Bool.eq_iff_iff]; simp
  have e2 : ((c.toNat : Int).toNat.toUInt8) = c := by simp
  have := run_indexByte_string (P := P) ⟨a.toArray⟩ c.toNat w
  rw [e2] at this
  refine this.trans ?_
  unfold firstIdx Pj
  rw [e1]
  cases a.findIdx? (fun b => decide (b = c)) <;> rfl
theorem Q6N (a : List UInt8) (c : UInt8) (h : K (I (Pj c a)) w) : Q1 P F.bl [S a, S [c]] w K := Gh (by
  unfold Wm
  simp only [D2 X7]
  have d0 : decide ((([c] : List UInt8).length : Int) = 0) = false := rfl
  have d1 : decide ((([c] : List UInt8).length : Int) = 1) = true := rfl
  simp only [Po, d0, d1]
  simp only [↓Mr, Mr, Mb, reduceIte]
  have fin : E3 P T.c (S [c]) (I 0) w fun t29 w => Q1 P F.aq [S a, t29] w fun t30 w => K t30 w := by
    rw [T0 X7 (by omega) (by simp)]
    refine Dp ?_
    unfold Zm
    exact Ta a c h
  cases hd : decide ([c] = a)
  · (try simp only [↓Mr, Mr, Mb, reduceIte])
    exact fin
  · (try simp only [↓Mr, Mr, Mb, reduceIte])
    have he : [c] = a := by simpa using hd
    have : Pj c a = 0 := by rw [← he]; simp [Pj, List.findIdx?_cons]
    rw [this] at h; exact h)
theorem Q6y {c : UInt8} {a : List UInt8} {i : Nat} (h : a.findIdx? (fun b => decide (b = c)) = some i) : i < a.length := by
  have := List.findIdx?_eq_some_iff_getElem.1 h
  exact this.1
theorem Q9e (a : List UInt8) (ha : a.length ≤ 140737488355328) (h : ∀ w', Below w.heap.size w w' → K (.tuple #[S (K6 a).1, S (K6 a).2.1, .bool (K6 a).2.2]) w') : Q1 P F.c0 [S a, S [46]] w K := Q1O (by
  unfold Bx
  refine Px ?_
  unfold Mx
  refine Q6N a 46 ?_
  rw [Bg] at h
  unfold Pj
  cases hf : a.findIdx? (fun b => decide (b = 46)) with
  | none =>
    simp only [↓Mr, Mr, Mb, reduceIte, show decide ((0 : Int) ≤ -1) = false from rfl]
    have := h w (Below.refl _ _)
    rw [hf] at this; exact this
  | some i =>
    have hi := Q6y hf
    have h1 : decide ((0 : Int) ≤ (i : Int)) = true := by simp
    simp only [Pd, h1]
    simp only [↓Mr, Mr, Mb, reduceIte]
    refine Ll (Below.refl _ w) ?_
    refine X2 (S (a.take i)) (fun w1 _ => ?_) ?_
    · rw [I1 X7 (by omega) (by omega)]; exact X5 (by simp)
    refine X2 (I 1) (fun w1 _ => ?_) ?_
    · rw [D2 X7]; exact X5 rfl
    refine X2 (I (i + 1)) ?_ ?_
    · rintro _ w1 _ rfl
      rw [Rt, B4 (by omega) (by omega)]; exact X5 rfl
    refine X2 (S (a.drop (i + 1))) ?_ ?_
    · rintro _ w1 _ rfl
      rw [Vt X7 (by omega) (by omega)]; exact X5 (by simp)
    rintro _ _ _ _ w1 hb rfl rfl rfl rfl
    (try simp only [↓Mr, Mr, Mb, reduceIte])
    have := h w1 hb
    rw [hf] at this; exact this)
theorem Q88 (a : List UInt8) (ha : a.length ≤ 140737488355328) (h : ∀ w', Below w.heap.size w w' → K (if Qx a then .tuple #[S (K6 a).1, S (K6 a).2.1, I 0] else .tuple #[S [], S [], I 30]) w') : Q1 P F.c6 [S a] w K := Q2g (by
  unfold Kn
  refine Q9e a ha fun w1 hb1 => ?_
  have hl : (K6 a).1.length ≤ a.length ∧ (K6 a).2.1.length ≤ a.length := by
    rw [Bg]
    cases a.findIdx? (fun b => decide (b = 46)) <;> simp [Q0u]
    omega
  generalize hp : (K6 a).1 = p at h hl
  generalize hq : (K6 a).2.1 = q at h hl
  have hi : Qx a = ((K6 a).2.2 && L3 p && M6 q) := by rw [Qx, hp, hq]
  cases hd : (K6 a).2.2
  · simp only [↓Mr, Mr, Mb, reduceIte]
    have := h w1 hb1
    rw [hi, hd] at this; simpa using this
  · simp only [↓Mr, Mr, Mb, reduceIte]
    refine Nt p (by omega) fun w2 hb2 => ?_
    have hb12 := hb1.trans (hb2.mono hb1.size)
    cases hc : L3 p
    · (try simp only [↓Mr, Mr, Mb, reduceIte])
      have := h w2 hb12
      rw [hi, hd, hc] at this; simpa using this
    · (try simp only [↓Mr, Mr, Mb, reduceIte])
      refine Q2d q (by omega) fun w3 hb3 => ?_
      have hb13 := hb12.trans (hb3.mono hb12.size)
      have := h w3 hb13
      rw [hi, hd, hc] at this
      cases hn : name q
      · (try simp only [↓Mr, Mr, Mb, reduceIte])
        have hm : M6 q = false := by cases q with | nil => rfl | cons c r => simp [M6, hn]
        rw [hm] at this; simpa using this
      · (try simp only [↓Mr, Mr, Mb, reduceIte])
        cases q with
        | nil => simp [name] at hn
        | cons c r =>
          rw [T0 X7 (by omega) (by simp)]
          have hi0 : (c :: r)[(0 : Int).toNat]'(by simp) = c := rfl
          (try simp only [↓Mr, Mr, Mb, reduceIte])
          rw [hi0, Af Q0O Q4a, w32 (by omega) (by have := c.toNat_lt; omega)]
          refine Q4u _ ?_
          have hm : M6 (c :: r) = G1 c.toNat := by simp [M6, hn]
          rw [hm] at this
          cases hs : G1 c.toNat <;> (try simp only [↓Mr, Mr, Mb, reduceIte]) <;> rw [hs] at this <;> simpa using this)
theorem Iw (a : List UInt8) (h : K (.bool (plain a)) w) : Q1 P F.ac [S a] w K := Cw (by
  unfold We
  refine V4 ?_
  (try simp only [↓Mr, Mr, Mb, reduceIte])
  cases h1 : decide (a = [105, 110, 116])
  · cases h2 : decide (a = [98, 111, 111, 108])
    · cases h3 : decide (a = [116, 101, 120, 116]) <;> (try simp only [↓Mr, Mr, Mb, reduceIte]) <;> intro _ <;> (try simp only [↓Mr, Mr, Mb, reduceIte]) <;> simpa [plain, h1, h2, h3] using h
    · (try simp only [↓Mr, Mr, Mb, reduceIte])
      intro _
      (try simp only [↓Mr, Mr, Mb, reduceIte])
      simpa [plain, h1, h2] using h
  · (try simp only [↓Mr, Mr, Mb, reduceIte])
    intro _
    (try simp only [↓Mr, Mr, Mb, reduceIte])
    simpa [plain, h1] using h)
def Q7m (a : List UInt8) (w : World) (x : Value) (w' : World) : Prop :=
  w = w' ∧ ∃ i : Nat, x = I i ∧ i ≤ a.length ∧ (0 < i → (a.head?.map fun c => R2 c.toNat) = some false) ∧ (a.take i).all (fun b => D8 b.toNat) = true
def Q26 (a : List UInt8) (x : Value) : Nat := match x with | .int _ i => a.length - i.toNat | _ => 0
theorem Q2M (a : List UInt8) (ha : a.length ≤ 140737488355328) (h : K (.bool (name a)) w) : Q1 P F.aJ [S a] w K := Gg (by
  unfold Wo
  refine Jh (Q7m a w) (fun x _ => Q26 a x) ⟨rfl, 0, rfl, by omega, by omega, by simp⟩ ?_
  rintro _ _ _ ⟨rfl, i, rfl, hi, hd, hall⟩
  rw [D2 X7]
  (try simp only [↓Mr, Mr, Mb, reduceIte])
  by_cases hlt : i < a.length
  · have h1 : decide ((i : Int) < a.length) = true := by simp only [decide_eq_true_eq]; omega
    simp only [h1, ↓Mr, Mr, Mb, reduceIte]
    have hidx : ∀ K' : Value → World → Prop, E3 P T.c (S a) (I i) w K' = K' (.int .u8 (a[i]'hlt).toNat) w := fun K' => by
      rw [T0 X7 (by omega) (by simpa using hlt)]; simp
    generalize hc : a[i] = c at hidx
    have hfalse : D8 c.toNat = false ∨ (i = 0 ∧ R2 c.toNat = true) → name a = false := by
      intro ho
      cases a with
      | nil => rfl
      | cons c0 r =>
        simp only [name]
        rcases ho with ho | ⟨rfl, ho⟩
        · have : (c0 :: r).all (fun b => D8 b.toNat) = false := by
            rw [List.all_eq_false]
            exact ⟨c, by rw [← hc]; exact List.getElem_mem _, by simp [ho]⟩
          rw [this]; simp
        · simp only [List.getElem_cons_zero] at hc
          rw [hc, ho]; simp
    have hstep : D8 c.toNat = true → (i = 0 → R2 c.toNat = false) → Q7m a w (I (IntKind.i64.wrap ((i : Int) + 1))) w ∧ Q26 a (I (IntKind.i64.wrap ((i : Int) + 1))) < Q26 a (I i) := by
      intro ha1 hd1
      rw [B4 (by omega) (by omega)]
      refine ⟨⟨rfl, i + 1, by simp, by omega, fun _ => ?_, ?_⟩, by simp only [Q26]; omega⟩
      · by_cases h0 : 0 < i
        · exact hd h0
        · obtain rfl : i = 0 := by omega
          cases a with
          | nil => simp at hlt
          | cons c0 r => simp only [List.getElem_cons_zero] at hc; subst hc; simp [hd1 rfl]
      · rw [List.take_add_one, List.getElem?_eq_getElem hlt, hc]
        simp [hall, ha1]
    have hc256 := c.toNat_lt
    have d0 : decide ((i : Int) = 0) = decide (i = 0) := by rw [Bool.eq_iff_iff]; simp
    by_cases c1 : 97 ≤ (c.toNat : Int)
    · by_cases c2 : (c.toNat : Int) ≤ 122
      · simp only [hidx, decide_eq_true c1, decide_eq_true c2, ↓Mr, Mr, Mb, reduceIte]
        exact hstep (by simp [D8, G1, c1, c2]) (fun _ => by simp [R2]; omega)
      · have c3 : (65 : Int) ≤ c.toNat := by omega
        have c4 : ¬ (c.toNat : Int) ≤ 90 := by omega
        have c5 : ¬ (c.toNat : Int) < 48 := by omega
        have c6 : (57 : Int) < c.toNat := by omega
        simp only [hidx, decide_eq_true c1, decide_eq_false c2, decide_eq_true c3, decide_eq_false c4, decide_eq_false c5, decide_eq_true c6, d0, ↓Mr, Mr, Mb, reduceIte]
        have hn := hfalse (.inl (by simp [D8, P3, G1, R2]; omega))
        rw [hn] at h
        cases decide (i = 0) <;> (try simp only [hidx, decide_eq_false c5, decide_eq_true c6, ↓Mr, Mr, Mb, reduceIte]) <;> exact h
    · by_cases c3 : (65 : Int) ≤ c.toNat
      · by_cases c4 : (c.toNat : Int) ≤ 90
        · simp only [hidx, decide_eq_false c1, decide_eq_true c3, decide_eq_true c4, ↓Mr, Mr, Mb, reduceIte]
          exact hstep (by simp [D8, P3, c3, c4]) (fun _ => by simp [R2]; omega)
        · have c5 : ¬ (c.toNat : Int) < 48 := by omega
          have c6 : (57 : Int) < c.toNat := by omega
          simp only [hidx, decide_eq_false c1, decide_eq_true c3, decide_eq_false c4, decide_eq_false c5, decide_eq_true c6, d0, ↓Mr, Mr, Mb, reduceIte]
          have hn := hfalse (.inl (by simp [D8, P3, G1, R2]; omega))
          rw [hn] at h
          cases decide (i = 0) <;> (try simp only [hidx, decide_eq_false c5, decide_eq_true c6, ↓Mr, Mr, Mb, reduceIte]) <;> exact h
      · by_cases c5 : (c.toNat : Int) < 48
        · simp only [hidx, decide_eq_false c1, decide_eq_false c3, decide_eq_true c5, d0, ↓Mr, Mr, Mb, reduceIte]
          have hn := hfalse (.inl (by simp [D8, P3, G1, R2]; omega))
          rw [hn] at h
          cases decide (i = 0) <;> (try simp only [hidx, decide_eq_true c5, ↓Mr, Mr, Mb, reduceIte]) <;> exact h
        · by_cases c6 : (57 : Int) < c.toNat
          · simp only [hidx, decide_eq_false c1, decide_eq_false c3, decide_eq_false c5, decide_eq_true c6, d0, ↓Mr, Mr, Mb, reduceIte]
            have hn := hfalse (.inl (by simp [D8, P3, G1, R2]; omega))
            rw [hn] at h
            cases decide (i = 0) <;> (try simp only [hidx, decide_eq_false c5, decide_eq_true c6, ↓Mr, Mr, Mb, reduceIte]) <;> exact h
          · have hdg : R2 c.toNat = true := by simp [R2]; omega
            simp only [hidx, decide_eq_false c1, decide_eq_false c3, decide_eq_false c5, decide_eq_false c6, d0, ↓Mr, Mr, Mb, reduceIte]
            by_cases h0 : i = 0
            · have hn := hfalse (.inr ⟨h0, hdg⟩)
              rw [hn] at h
              simp only [decide_eq_true h0, hidx, decide_eq_false c5, decide_eq_false c6, ↓Mr, Mr, Mb, reduceIte]
              exact h
            · simp only [decide_eq_false h0, hidx, decide_eq_false c5, decide_eq_false c6, ↓Mr, Mr, Mb, reduceIte]
              exact hstep (by simp [D8, hdg]) (fun h => absurd h h0)
  · have h1 : decide ((i : Int) < a.length) = false := by simp only [decide_eq_false_iff_not]; omega
    obtain rfl : i = a.length := by omega
    simp only [h1, ↓Mr, Mr, Mb, reduceIte]
    rw [D2 X7]
    cases a with
    | nil =>
      have h2 : decide ((1 : Int) ≤ (([] : List UInt8).length : Int)) = false := rfl
      simp only [h2, ↓Mr, Mr, Mb, reduceIte]; exact h
    | cons c r =>
      have h2 : decide ((1 : Int) ≤ ((c :: r).length : Int)) = true := by simp only [decide_eq_true_eq, List.length_cons]; omega
      have hd' := hd (by simp)
      simp only [List.head?_cons, Option.map_some, Option.some.injEq] at hd'
      simp only [List.take_length] at hall
      have hnm : name (c :: r) = decide ((c :: r).length ≤ 32) := by simp only [name, hd', hall]; simp
      have h3 : decide (((c :: r).length : Int) ≤ 32) = decide ((c :: r).length ≤ 32) := by rw [Bool.eq_iff_iff]; simp only [decide_eq_true_eq]; omega
      simp only [h2, D2 X7, h3, ↓Mr, Mr, Mb, reduceIte]
      rw [← hnm]; exact h)
theorem Sy {c : UInt8} {r : List UInt8} (h : name (c :: r) = true) : D8 c.toNat = true ∧ R2 c.toNat = false := by
  simp only [name, Bool.and_eq_true, List.all_cons, Bool.not_eq_true'] at h
  exact ⟨h.2.1, h.1.2⟩
theorem A4 (a : List UInt8) (ha : a.length ≤ 140737488355328) (h : K (.bool (L3 a)) w) : Q1 P F.e [S a] w K := Sq (by
  unfold Un
  refine Q2M a ha ?_
  cases a with
  | nil => simp only [name, ↓Mr, Mr, Mb, reduceIte]; exact h
  | cons c r =>
    cases hn : name (c :: r)
    · (try simp only [↓Mr, Mr, Mb, reduceIte])
      simpa [L3, hn] using h
    · (try simp only [↓Mr, Mr, Mb, reduceIte])
      rw [T0 X7 (by omega) (by simp)]
      have hi0 : (c :: r)[(0 : Int).toNat]'(by simp) = c := rfl
      (try simp only [↓Mr, Mr, Mb, reduceIte])
      rw [hi0]
      obtain ⟨h1, h2⟩ := Sy hn
      have : decide ((c.toNat : Int) ≤ 90) = P3 c.toNat := by
        simp only [D8, P3, G1, R2, Bool.or_eq_true, Bool.and_eq_true, Bool.and_eq_false_iff, decide_eq_true_eq, decide_eq_false_iff_not] at h1 h2 ⊢
        rw [Bool.eq_iff_iff]; simp only [Bool.and_eq_true, decide_eq_true_eq]; omega
      rw [this]
      simpa [L3, hn] using h)
theorem Cl (a : List UInt8) (ha : a.length ≤ 140737488355328) (h : K (.bool (M6 a)) w) : Q1 P F.r [S a] w K := Ho (by
  unfold Ui
  refine Q2M a ha ?_
  cases a with
  | nil => simp only [name, ↓Mr, Mr, Mb, reduceIte]; exact h
  | cons c r =>
    cases hn : name (c :: r)
    · (try simp only [↓Mr, Mr, Mb, reduceIte])
      simpa [M6, hn] using h
    · (try simp only [↓Mr, Mr, Mb, reduceIte])
      rw [T0 X7 (by omega) (by simp)]
      have hi0 : (c :: r)[(0 : Int).toNat]'(by simp) = c := rfl
      (try simp only [↓Mr, Mr, Mb, reduceIte])
      rw [hi0]
      obtain ⟨h1, h2⟩ := Sy hn
      have : decide ((97 : Int) ≤ c.toNat) = G1 c.toNat := by
        simp only [D8, P3, G1, R2, Bool.or_eq_true, Bool.and_eq_true, Bool.and_eq_false_iff, decide_eq_true_eq, decide_eq_false_iff_not] at h1 h2 ⊢
        rw [Bool.eq_iff_iff]; simp only [Bool.and_eq_true, decide_eq_true_eq]; omega
      rw [this]
      simpa [M6, hn] using h)
def Q9i (a : List UInt8) (w : World) (x : Value × Value) (w' : World) : Prop :=
  w = w' ∧ ∃ (b : List UInt8) (n : Nat), x = (S b, I n) ∧ b.length + 2 * n = a.length ∧ (V5 a).2 = (V5 b).2 + n
def Q7q (x : Value × Value) : Nat := match x.1 with | .string s => s.size | _ => 0
theorem Ap (a : List UInt8) (ha : a.length ≤ 140737488355328) (h : K (I (V5 a).2) w) : Q1 P F.ak [S a] w K := Fg (by
  unfold Ld
  refine Jh (Q9i a w) (fun x _ => Q7q x) ⟨rfl, a, 0, rfl, by omega, rfl⟩ ?_
  rintro _ _ _ ⟨rfl, b, n, rfl, hl, he⟩
  rw [D2 X7]
  (try simp only [↓Mr, Mr, Mb, reduceIte])
  by_cases h2 : 2 ≤ b.length
  · have h1 : decide ((2 : Int) ≤ b.length) = true := by simp only [decide_eq_true_eq]; omega
    simp only [h1, D2 X7, ↓Mr, Mr, Mb, reduceIte]
    rw [B4 (by omega) (by omega), Vt X7 (by omega) (by omega)]
    rw [show ((b.length : Int) - 2).toNat = b.length - 2 from by omega]
    have hb : decide (b.drop (b.length - 2) = [91, 93]) = D5 b := by simp [D5, h2]
    simp only [hb, ↓Mr, Mr, Mb, reduceIte]
    cases hc : D5 b
    · (try simp only [↓Mr, Mr, Mb, reduceIte])
      rw [Zc b, hc] at he
      simp only [Bool.false_eq_true, if_false, Nat.zero_add] at he
      rw [he] at h; exact h
    · (try simp only [D2 X7, ↓Mr, Mr, Mb, reduceIte])
      rw [I1 X7 (by omega) (by omega)]
      rw [show ((b.length : Int) - 2).toNat = b.length - 2 from by omega]
      have hcl := K0 hc
      refine ⟨⟨rfl, Kd.O5 b, n + 1, ?_, by omega, ?_⟩, ?_⟩
      · simp only [Kd.O5, Prod.mk.injEq, true_and]
        first | rfl | (rw [B4 (by omega) (by omega)]; rfl)
      · rw [he, Zc b, hc]; simp; omega
      · simp only [Q7q, S3, List.length_take]; omega
  · have h1 : decide ((2 : Int) ≤ b.length) = false := by simp only [decide_eq_false_iff_not]; omega
    simp only [h1, ↓Mr, Mr, Mb, reduceIte]
    have hc : D5 b = false := by simp [D5, h2]
    rw [Zc b, hc] at he
    simp only [Bool.false_eq_true, if_false, Nat.zero_add] at he
    rw [he] at h; exact h)
theorem Q1l (a : List UInt8) : a.take (a.length - 2 * (V5 a).2) = (V5 a).1 := by
  have key : ∀ n (a : List UInt8), a.take (a.length - 2 * (A7 n a).2) = (A7 n a).1 := by
    intro n
    induction n with
    | zero => intro a; simp [A7]
    | succ n ih =>
      intro a
      simp only [A7]
      split
      · rename_i h
        have hc := K0 h
        simp only
        rw [← ih (Kd.O5 a)]
        rw [Kd.O5, List.take_take, List.length_take]
        congr 1
        omega
      · simp
  exact key _ a
theorem Ub (a : List UInt8) (ha : a.length ≤ 140737488355328) (h : K (.bool (right a)) w) : Q1 P F.i [S a] w K := Sx (by
  unfold Vd
  have hbl := Pe a
  refine Ap a ha ?_
  rw [D2 X7]
  (try simp only [↓Mr, Mr, Mb, reduceIte])
  rw [B4 (n := 2 * ((V5 a).2 : Int)) (by omega) (by omega), B4 (by omega) (by omega), I1 X7 (by omega) (by omega)]
  rw [show ((a.length : Int) - 2 * ((V5 a).2 : Int)).toNat = a.length - 2 * (V5 a).2 from by omega, Q1l]
  (try simp only [↓Mr, Mr, Mb, reduceIte])
  by_cases hn : (V5 a).2 ≤ 3
  · have h1 : decide (((V5 a).2 : Int) ≤ 3) = true := by simp only [decide_eq_true_eq]; omega
    simp only [h1, ↓Mr, Mr, Mb, reduceIte]
    refine Iw _ ?_
    cases hp : plain (V5 a).1
    · (try simp only [↓Mr, Mr, Mb, reduceIte])
      refine A4 _ (by omega) ?_
      (try simp only [↓Mr, Mr, Mb, reduceIte])
      simpa [right, hn, hp] using h
    · (try simp only [↓Mr, Mr, Mb, reduceIte])
      simpa [right, hn, hp] using h
  · have h1 : decide (((V5 a).2 : Int) ≤ 3) = false := by simp only [decide_eq_false_iff_not]; omega
    simp only [h1, ↓Mr, Mr, Mb, reduceIte]
    simpa [right, hn] using h)
def Q8L (a : List UInt8) (w : World) (x : Value) (w' : World) : Prop :=
  w = w' ∧ ∃ n : Nat, x = I n ∧ n ≤ a.length ∧ (∀ i, (h : i < n) → (h' : i < a.length) → a[i] ≠ 46)
def Q6k (a : List UInt8) (x : Value) : Nat := match x with | .int _ n => (a.length - n).toNat | _ => 0
theorem Q1w (a : List UInt8) (ha : a.length ≤ 140737488355328) (h : ∀ w', Below w.heap.size w w' → K (if (K6 a).2.2 then .tuple #[S (K6 a).1, S (K6 a).2.1, .bool (Qx a)] else .tuple #[S [], S [], .bool false]) w') : Q1 P F.bb [S a] w K := St (by
  unfold Va
  refine Jh (Q8L a w) (fun x _ => Q6k a x) ⟨rfl, 0, rfl, by omega, by omega⟩ ?_
  rintro _ _ _ ⟨rfl, n, rfl, hn, hb⟩
  rw [D2 X7]
  (try simp only [↓Mr, Mr, Mb, reduceIte])
  by_cases h2 : n < a.length
  · have h1 : decide ((n : Int) < a.length) = true := by simp only [decide_eq_true_eq]; omega
    simp only [h1, ↓Mr, Mr, Mb, reduceIte]
    rw [T0 X7 (by omega) (by omega)]
    (try simp only [↓Mr, Mr, Mb, reduceIte])
    simp only [Int.toNat_natCast]
    have hc : decide (((a[n]).toNat : Int) = 46) = decide (a[n] = 46) := by
      rw [Bool.eq_iff_iff]; simp only [decide_eq_true_eq]
      constructor
      · intro e; exact UInt8.toNat_inj.1 (by have : (46 : UInt8).toNat = 46 := rfl; omega)
      · intro e; rw [e]; rfl
    rw [hc]
    by_cases he : a[n] = 46
    · simp only [he, decide_true, ↓Mr, Mr, Mb, reduceIte]
      have hd : K6 a = (a.take n, a.drop (n + 1), true) := by
        have : a.findIdx? (fun b => decide (b = 46)) = some n := by
          rw [List.findIdx?_eq_some_iff_getElem]
          exact ⟨h2, by simpa using he, fun j hj => by simpa using hb j hj (by omega)⟩
        rw [Bg, this]; rfl
      have hip : Qx a = (L3 (a.take n) && M6 (a.drop (n + 1))) := by simp [Qx, hd]
      rw [hd, hip] at h
      have hn1 : ((n : Int) + 1).toNat = n + 1 := by omega
      have hpl : (a.take n).length ≤ 140737488355328 := by simp only [List.length_take]; omega
      have hql : (a.drop (n + 1)).length ≤ 140737488355328 := by simp only [List.length_drop]; omega
      have A1 : ∀ {w : World} {K : Value → World → Prop}, K (S (a.take n)) w → R5 P T.c (S a) none (some (I n)) none w K := by
        intro w K h
        rw [I1 X7 (by omega) (by omega), show ((n : Int)).toNat = n from by omega]; exact h
      have A2 : ∀ {w : World} {K : Value → World → Prop}, K (S (a.drop (n + 1))) w → R5 P T.c (S a) (some (I (n + 1))) none none w K := by
        intro w K h
        rw [Vt X7 (by omega) (by omega), hn1]; exact h
      refine Ll (Below.refl _ _) ?_
      refine X2 (S (a.take n)) (fun w hw => A1 (X5 rfl)) ?_
      refine X2 (I (n + 1)) (fun w hw => X5 (by rw [B4 (by omega) (by omega)])) ?_
      refine X2 (S (a.drop (n + 1))) (fun t w hw e => by rw [e]; exact A2 (X5 rfl)) ?_
      refine X2 (S (a.take n)) (fun w hw => A1 (X5 rfl)) ?_
      refine X2 (.bool (L3 (a.take n))) (fun t w hw e => by rw [e]; exact A4 _ hpl (X5 rfl)) ?_
      cases hcl : L3 (a.take n)
      · refine X2 undef (fun t w hw e => by rw [e, Jf]; exact X5 rfl) ?_
        refine X2 undef (fun t w hw e => by rw [e, Jf]; exact X5 rfl) ?_
        refine X2 undef (fun t t' w hw e e' => by rw [e, Jf]; exact X5 rfl) ?_
        refine X2 undef (fun t t' t'' w hw e e' e'' => by rw [e, Jf]; exact X5 rfl) ?_
        refine X2 undef (fun t t' w hw e e' => by rw [e, Jf]; exact X5 rfl) ?_
        refine X2 (.bool false) (fun t t' w hw e e' => by rw [e, Na]; exact X5 rfl) ?_
        rintro _ _ _ _ _ _ _ _ _ _ _ w1 hw rfl rfl rfl rfl rfl rfl rfl rfl rfl rfl rfl
        rw [hcl] at h
        exact h w1 (by simpa using hw)
      · refine X2 (S a) (fun t w hw e => by rw [e, F8]; exact X5 rfl) ?_
        refine X2 (I n) (fun t w hw e => by rw [e, F8]; exact X5 rfl) ?_
        refine X2 (I (n + 1)) (fun t t' w hw e e' => by rw [e, e', F8]; simp only [↓Mr, Mr, Mb, reduceIte]; exact X5 (by rw [B4 (by omega) (by omega)])) ?_
        refine X2 (S (a.drop (n + 1))) (fun t t' t'' w hw e e' e'' => by rw [e, e', e'', F8]; exact A2 (X5 rfl)) ?_
        refine X2 (.bool (M6 (a.drop (n + 1)))) (fun t t' w hw e e' => by rw [e, e', F8]; exact Cl _ hql (X5 rfl)) ?_
        refine X2 (.bool (M6 (a.drop (n + 1)))) (fun t t' w hw e e' => by rw [e, e', Ec]; exact X5 rfl) ?_
        rintro _ _ _ _ _ _ _ _ _ _ _ w1 hw rfl rfl rfl rfl rfl rfl rfl rfl rfl rfl rfl
        rw [hcl] at h
        exact h w1 (by simpa using hw)
    · simp only [he, decide_false, ↓Mr, Mr, Mb, reduceIte]
      rw [B4 (by omega) (by omega)]
      refine ⟨⟨rfl, n + 1, rfl, by omega, fun i hi h' => ?_⟩, ?_⟩
      · by_cases hin : i = n
        · subst hin; exact he
        · exact hb i (by omega) h'
      · simp only [Q6k]; omega
  · have h1 : decide ((n : Int) < a.length) = false := by simp only [decide_eq_false_iff_not]; omega
    simp only [h1, ↓Mr, Mr, Mb, reduceIte]
    have hd : (K6 a).2.2 = false ∧ (K6 a).1 = a ∧ (K6 a).2.1 = [] := by
      have : a.findIdx? (fun b => decide (b = 46)) = none := by
        rw [List.findIdx?_eq_none_iff]
        intro x hx
        obtain ⟨i, hi, rfl⟩ := List.getElem_of_mem hx
        simpa using hb i (by omega) hi
      rw [Bg, this]; exact ⟨rfl, rfl, rfl⟩
    rw [hd.1] at h
    exact h w (Below.refl _ _))
end Go.Proofs.YtdnfaboigajkhaaGreatDoor

namespace Go.Emb
open Go.RowKit
class TZ (P : Program) (t : TypeId) (sz b : outParam Nat) (z : outParam Value) : Prop where
  h : (P.info? t).map (fun i => (i.size, i.bytes, i.zero)) = some (sz, b, some z)
def Q6m : Option TypeDesc → Bool
  | some (.struct _) => true
  | some (.array _ _) => true
  | none => true
  | _ => false
class TG (P : Program) (t : TypeId) (g : outParam Bool) : Prop where
  h : (Q6m (P.underlying t), (P.underlying t).isSome) = (g, true)
class TS (P : Program) (t : TypeId) (e : outParam TypeId) : Prop where
  h : P.underlying t = some (.slice e)
class TA (P : Program) (t : TypeId) (n : outParam Nat) (e : outParam TypeId) : Prop where
  h : P.underlying t = some (.array n e)
class TM (P : Program) (t : TypeId) (k e : outParam TypeId) : Prop where
  h : P.underlying t = some (.map k e)
def Q0Y (d : Option TypeDesc) (k : Nat) : Option (Nat × TypeId) := match d with
  | some (.struct fs) => (fs[k]?).map fun f => (f.offset, f.type)
  | _ => none
class TF (P : Program) (t : TypeId) (k : Nat) (off : outParam Nat) (ft : outParam TypeId) : Prop where
  h : Q0Y (P.underlying t) k = some (off, ft)
variable {P : Program} {w w0 w1 w' w'' : World} {K : Value → World → Prop}
theorem TZ.info {t : TypeId} {sz b : Nat} {z : Value} (h : TZ P t sz b z) : ∃ i, P.info? t = some i ∧ i.size = sz ∧ i.bytes = b ∧ i.zero = some z := by
  obtain ⟨i, hi, e⟩ := Option.map_eq_some_iff.1 h.h
  simp only [Prod.mk.injEq] at e
  exact ⟨i, hi, e.1, e.2.1, e.2.2⟩
theorem M0 {t : TypeId} {sz b : Nat} {z : Value} (h : TZ P t sz b z) (w : World) : (sizeOf t).run P w = .ok sz w := by
  obtain ⟨i, hi, rfl, _⟩ := h.info
  simp [sizeOf, typeInfo, hi]
theorem Qz {t : TypeId} {sz b : Nat} {z : Value} (h : TZ P t sz b z) (w : World) : (zeroValue t).run P w = .ok z w := by
  obtain ⟨i, hi, _, _, hz⟩ := h.info
  simp [zeroValue, typeInfo, hi, hz]
theorem T8 {t : TypeId} {g : Bool} (h : TG P t g) (w : World) : (isAgg t).run P w = .ok g w := by
  have hh := h.h
  simp only [Prod.mk.injEq] at hh
  obtain ⟨h1, h2⟩ := hh
  cases hu : P.underlying t with
  | none => rw [hu] at h2; cases h2
  | some d =>
    rw [hu] at h1
    have := run_underlying (P := P) (w := w) hu
    simp only [isAgg, Sem.run_bind, this, Result.andThen_ok]
    cases d <;> simp_all [Q6m]
theorem Q4g (a : Addr) (i j : Nat) : (a.add i).add j = a.add (i + j) := by
  unfold Addr.add
  by_cases hi : i = 0
  · simp [hi]
  · by_cases hj : j = 0
    · simp [hj]
    · simp [hi, hj, Nat.add_assoc]
theorem add_zero (a : Addr) : a.add 0 = a := by simp [Addr.add]
theorem R3 (a : Addr) (i : Nat) : (a.add i).block = a.block := by unfold Addr.add; split <;> rfl
theorem Xa (a : Addr) (i : Nat) : (a.add i).off = a.off + i := by unfold Addr.add; split <;> simp_all
theorem F5 {a : Addr} (h : a.spot = none) (i : Nat) : (a.add i).spot = none := by unfold Addr.add; split <;> simp_all
abbrev Q5 := Nat → Option Obj
def X6 (w : World) (σ : Q5) : Prop := ∀ b o, σ b = some o → w.heap[b]? = some o
structure Stp (w : World) (σ : Q5) (w' : World) (σ' : Q5) : Prop where
  bel : Below w.heap.size w w'
  sat : X6 w' σ'
  le : ∀ b o, σ b = some o → σ' b = some o
  old : ∀ b, b < w.heap.size → σ' b = σ b
theorem X6.lt {σ : Q5} (h : X6 w σ) {b : Nat} {o : Obj} (hb : σ b = some o) : b < w.heap.size := (Array.getElem?_eq_some_iff.1 (h b o hb)).1
theorem X6.below {σ : Q5} (h : X6 w σ) (hb : Below w.heap.size w w') : X6 w' σ := fun b o e => (hb.block b (h.lt e)).trans (h b o e)
theorem Stp.refl {σ : Q5} (h : X6 w σ) : Stp w σ w σ := ⟨Below.refl _ _, h, fun _ _ e => e, fun _ _ => rfl⟩
theorem Stp.trans {σ0 σ1 σ2 : Q5} (h : Stp w σ0 w' σ1) (k : Stp w' σ1 w'' σ2) : Stp w σ0 w'' σ2 :=
  ⟨h.bel.trans (k.bel.mono h.bel.size), k.sat, fun b o e => k.le b o (h.le b o e), fun b hb => (k.old b (Nat.lt_of_lt_of_le hb h.bel.size)).trans (h.old b hb)⟩
theorem Stp.of_below {σ : Q5} (h : X6 w σ) (hb : Below w.heap.size w w') : Stp w σ w' σ := ⟨hb, h.below hb, fun _ _ e => e, fun _ _ => rfl⟩
def Q5.put (σ : Q5) (b : Nat) (o : Obj) : Q5 := fun k => if k = b then some o else σ k
theorem X6.none {σ : Q5} (h : X6 w σ) {b : Nat} (hb : w.heap.size ≤ b) : σ b = none := by
  cases e : σ b with
  | none => rfl
  | some o => have := h.lt e; omega
theorem Stp.alloc {σ : Q5} (h : X6 w σ) (o : Obj) : Stp w σ (w.alloc o) (σ.put w.heap.size o) := by
  refine ⟨(Below.refl _ _).alloc (Nat.le_refl _) o, ?_, ?_, ?_⟩
  · intro b p e
    by_cases hb : b = w.heap.size
    · subst hb
      simp only [Q5.put, if_true] at e
      cases e
      exact heap_alloc_new w o
    · simp only [Q5.put, if_neg hb] at e
      rw [Below.heap_alloc w o b (h.lt e)]; exact h b p e
  · intro b p e
    have := h.lt e
    simp only [Q5.put]; rw [if_neg (by omega)]; exact e
  · intro b hb
    simp only [Q5.put]; rw [if_neg (by omega)]
theorem Stp.own {σ : Q5} (h : X6 w σ) (o : Obj) : Stp w σ (w.alloc o) σ := Stp.of_below h ((Below.refl _ _).alloc (Nat.le_refl _) o)
def U0 (σ : Q5) (a : Addr) (cs : List Value) : Prop := a.spot = none ∧ ∃ D5 e fr, σ a.block = some (.cells D5 e fr) ∧ ∀ i v, cs[i]? = some v → D5[a.off + i]? = some v
theorem U0.up {σ σ' : Q5} {a : Addr} {cs : List Value} (h : U0 σ a cs) (hk : Stp w σ w' σ') : U0 σ' a cs := by
  obtain ⟨h1, D5, e, fr, h2, h3⟩ := h
  exact ⟨h1, D5, e, fr, hk.le _ _ h2, h3⟩
theorem U0.cell {σ : Q5} {a : Addr} {cs : List Value} (h : U0 σ a cs) (hs : X6 w σ) {i : Nat} {v : Value} (hv : cs[i]? = some v) : w.cell? (a.add i) = some v := by
  obtain ⟨h1, D5, e, fr, h2, h3⟩ := h
  have := hs _ _ h2
  unfold World.cell?
  rw [R3, this, Xa, F5 h1]
  exact h3 i v hv
def V3 (σ : Q5) (w : World) (b : Nat) (cs : List Value) : Prop := σ b = none ∧ ∃ e, w.heap[b]? = some (.cells cs.toArray e (0, 0))
theorem V3.lt {σ : Q5} {b : Nat} {cs : List Value} (h : V3 σ w b cs) : b < w.heap.size := by
  obtain ⟨_, e, h⟩ := h
  exact (Array.getElem?_eq_some_iff.1 h).1
theorem V3.up {σ σ' : Q5} {b : Nat} {cs : List Value} (h : V3 σ w b cs) (hk : Stp w σ w' σ') : V3 σ' w' b cs := by
  have hl := h.lt
  obtain ⟨h1, e, h2⟩ := h
  exact ⟨(hk.old b hl).trans h1, e, (hk.bel.block b hl).trans h2⟩
theorem V3.cell {σ : Q5} {b : Nat} {cs : List Value} (h : V3 σ w b cs) {i : Nat} {v : Value} (hv : cs[i]? = some v) : w.cell? ((⟨b, 0, none⟩ : Addr).add i) = some v := by
  obtain ⟨_, e, h2⟩ := h
  unfold World.cell?
  rw [R3, Xa, F5 rfl]
  simp only [h2]
  simpa using hv
theorem V3.keep {σ σ0 : Q5} {b : Nat} {cs : List Value} (h : V3 σ w b cs) (hk : Stp w0 σ0 w σ) (hb : w0.heap.size ≤ b) : ∃ σ', Stp w0 σ0 w σ' ∧ U0 σ' ⟨b, 0, none⟩ cs ∧ (∀ k o, σ k = some o → σ' k = some o) ∧ (∀ k, k ≠ b → σ' k = σ k) := by
  obtain ⟨h1, e, h2⟩ := h
  refine ⟨σ.put b (.cells cs.toArray e (0, 0)), ⟨hk.bel, ?_, ?_, ?_⟩, ⟨rfl, cs.toArray, e, (0, 0), by simp [Q5.put], ?_⟩, ?_, ?_⟩
  · intro k o ho
    by_cases hkb : k = b
    · subst hkb; simp only [Q5.put, if_true] at ho; cases ho; exact h2
    · simp only [Q5.put, if_neg hkb] at ho; exact hk.sat k o ho
  · intro k o ho
    by_cases hkb : k = b
    · subst hkb; have := hk.le _ _ ho; rw [h1] at this; cases this
    · simp only [Q5.put, if_neg hkb]; exact hk.le _ _ ho
  · intro k hlt
    simp only [Q5.put]; rw [if_neg (by omega)]; exact hk.old k hlt
  · intro i v hv; simpa using hv
  · intro k o ho
    by_cases hkb : k = b
    · subst hkb; rw [h1] at ho; cases ho
    · simp only [Q5.put, if_neg hkb]; exact ho
  · intro k hkb; simp only [Q5.put, if_neg hkb]
theorem Q4d (t : TypeId) (v : Value) (w : World) : (Instr.box t v).run P w = .ok (.pointer (some ⟨w.heap.size, 0, none⟩)) (w.alloc (.cells v.cells t)) := by
  simp [Instr.box, newVar, newRow]
theorem Aw {σ : Q5} (hs : X6 w σ) (cs : Array Value) (t : TypeId) : V3 σ (w.alloc (.cells cs t)) w.heap.size cs.toList :=
  ⟨hs.none (Nat.le_refl _), t, by simpa using heap_alloc_new w (.cells cs t)⟩
theorem Q5m {σ : Q5} (cs : Array Value) (t : TypeId) : U0 (σ.put w.heap.size (.cells cs t)) ⟨w.heap.size, 0, none⟩ cs.toList :=
  ⟨rfl, cs, t, (0, 0), by simp [Q5.put], fun i v h => by simpa using h⟩
theorem N1 {σ : Q5} {t : TypeId} {v : Value} (hs : X6 w σ) (h : ∀ a w' σ', Stp w σ w' σ' → U0 σ' a v.cells.toList → K (.pointer (some a)) w') : box P t v w K := by
  unfold box; rw [X9 (Q4d t v w)]
  exact h _ _ _ (Stp.alloc hs _) (Q5m _ t)
theorem Q6w {σ : Q5} {t : TypeId} {v : Value} (hs : X6 w σ) (h : ∀ b w', w.heap.size ≤ b → Stp w σ w' σ → V3 σ w' b v.cells.toList → K (.pointer (some ⟨b, 0, none⟩)) w') : box P t v w K := by
  unfold box; rw [X9 (Q4d t v w)]
  exact h _ _ (Nat.le_refl _) (Stp.own hs _) (Aw hs _ t)
theorem Sb {σ : Q5} {t : TypeId} {sz by_ : Nat} {z : Value} [tz : TZ P t sz by_ z] (hs : X6 w σ) (h : ∀ b w', w.heap.size ≤ b → Stp w σ w' σ → V3 σ w' b z.cells.toList → K (.pointer (some ⟨b, 0, none⟩)) w') : M5 P t w K := by
  unfold M5
  have : (Instr.alloc t true (.tuple #[])).run P w = .ok (.pointer (some ⟨w.heap.size, 0, none⟩)) (w.alloc (.cells z.cells t)) := by
    simp [Instr.alloc, Qz tz, newVar, newRow]
  rw [X9 this]
  exact h _ _ (Nat.le_refl _) (Stp.own hs _) (Aw hs _ t)
theorem T6 {t : TypeId} [tg : TG P t false] {a : Addr} {v : Value} (hc : w.cell? a = some v) (h : K v w) : Q2 P t (.pointer (some a)) w K := by
  unfold Q2
  rw [X9 (v := v) (w' := w) (by simp [Instr.loadAt, Instr.sureAddr, loadVar, T8 tg, hc])]
  exact h
theorem Sg {t : TypeId} {sz by_ : Nat} {z : Value} [tg : TG P t true] [tz : TZ P t sz by_ z] {a : Addr} {cs : List Value} (hl : cs.length = sz) (hc : ∀ j v, cs[j]? = some v → w.cell? (a.add j) = some v) (h : K (.agg cs.toArray) w) : Q2 P t (.pointer (some a)) w K := by
  unfold Q2
  have := run_loadCells_list (P := P) w a cs hc
  rw [hl] at this
  rw [X9 (v := .agg cs.toArray) (w' := w) (by simp [Instr.loadAt, Instr.sureAddr, loadVar, T8 tg, M0 tz, this])]
  exact h
theorem ld {σ : Q5} {t : TypeId} [TG P t false] {a : Addr} {cs : List Value} {i : Nat} {v : Value} (hs : X6 w σ) (ha : U0 σ a cs) (hv : cs[i]? = some v) (h : K v w) : Q2 P t (.pointer (some (a.add i))) w K :=
  T6 (ha.cell hs hv) h
theorem X8 {σ : Q5} {t : TypeId} [TG P t false] {a : Addr} {cs : List Value} {v : Value} (hs : X6 w σ) (ha : U0 σ a cs) (hv : cs[0]? = some v) (h : K v w) : Q2 P t (.pointer (some a)) w K := by
  have := ld (P := P) (t := t) hs ha hv h
  rwa [add_zero] at this
theorem Y3 {σ : Q5} {t : TypeId} {sz by_ : Nat} {z : Value} [TG P t true] [TZ P t sz by_ z] {a : Addr} {cs : List Value} (hs : X6 w σ) (ha : U0 σ a cs) (hl : cs.length = sz) (h : K (.agg cs.toArray) w) : Q2 P t (.pointer (some a)) w K :=
  Sg hl (fun _ _ hv => ha.cell hs hv) h
theorem ldm {σ : Q5} {t : TypeId} [TG P t false] {b : Nat} {cs : List Value} {i : Nat} {v : Value} (hm : V3 σ w b cs) (hv : cs[i]? = some v) (h : K v w) : Q2 P t (.pointer (some ((⟨b, 0, none⟩ : Addr).add i))) w K :=
  T6 (hm.cell hv) h
theorem Q6x {σ : Q5} {t : TypeId} [TG P t false] {b : Nat} {cs : List Value} {v : Value} (hm : V3 σ w b cs) (hv : cs[0]? = some v) (h : K v w) : Q2 P t (.pointer (some ⟨b, 0, none⟩)) w K := by
  have := ldm (P := P) (t := t) hm hv h
  rwa [add_zero] at this
theorem Q8s {σ : Q5} {t : TypeId} {sz by_ : Nat} {z : Value} [TG P t true] [TZ P t sz by_ z] {b : Nat} {cs : List Value} (hm : V3 σ w b cs) (hl : cs.length = sz) (h : K (.agg cs.toArray) w) : Q2 P t (.pointer (some ⟨b, 0, none⟩)) w K :=
  Sg hl (fun _ _ hv => hm.cell hv) h
theorem N0 {t : TypeId} {sz by_ : Nat} {z : Value} [tg : TG P t true] [tz : TZ P t sz by_ z] {σ : Q5} {b : Nat} {cs : List Value} {K : Value → Prop} (hm : V3 σ w b cs) (hl : cs.length = sz) (h : K (.agg cs.toArray)) : O6 P t (.pointer (some ⟨b, 0, none⟩)) w K := by
  rw [Q0z]
  refine ⟨_, ?_, h⟩
  have := run_loadCells_list (P := P) w ⟨b, 0, none⟩ cs (fun _ _ hv => hm.cell hv)
  rw [hl] at this
  simp [asAddr, loadVar, T8 tg, M0 tz, this]
structure Upd (w : World) (b : Nat) (w' : World) : Prop where
  os : w'.os = w.os
  tape : w'.tape = w.tape
  output : w'.output = w.output
  size : w'.heap.size = w.heap.size
  block : ∀ k, k ≠ b → w'.heap[k]? = w.heap[k]?
theorem Upd.stp {σ0 σ : Q5} {b : Nat} (hu : Upd w b w') (hS : Stp w0 σ0 w σ) (hb : w0.heap.size ≤ b) (hσ : σ b = none) : Stp w0 σ0 w' σ := by
  refine ⟨⟨hu.os.trans hS.bel.os, hu.tape.trans hS.bel.tape, hu.output.trans hS.bel.output, by rw [hu.size]; exact hS.bel.size, fun k hk => (hu.block k (by omega)).trans (hS.bel.block k hk)⟩, ?_, hS.le, hS.old⟩
  intro k o ho
  rw [hu.block k (by intro e; subst e; rw [hσ] at ho; cases ho)]
  exact hS.sat k o ho
theorem V3.upd {σ : Q5} {b k : Nat} {cs : List Value} (h : V3 σ w k cs) (hu : Upd w b w') (hne : k ≠ b) : V3 σ w' k cs := by
  obtain ⟨h1, e, h2⟩ := h
  exact ⟨h1, e, (hu.block k hne).trans h2⟩
theorem Nj {b : Nat} {cs : Array Value} {old : Array Value} {e : TypeId} (h : w.heap[b]? = some (.cells old e (0, 0))) : Upd w b (w.setRow b cs) ∧ (w.setRow b cs).heap[b]? = some (.cells cs e (0, 0)) := by
  have hl := (Array.getElem?_eq_some_iff.1 h).1
  refine ⟨⟨rfl, rfl, rfl, by simp [World.setRow], fun k hk => ?_⟩, ?_⟩
  · simp only [World.setRow, Array.getElem?_modify]
    rw [if_neg (by omega)]
  · simp only [World.setRow, Array.getElem?_modify, if_true, h]
    rfl
theorem sta {t : TypeId} {sz by_ : Nat} {z : Value} [tz : TZ P t sz by_ z] {σ : Q5} {b : Nat} {cs ds : List Value} (hm : V3 σ w b cs) (hl : cs.length = sz) (hd : ds.length = sz) (h1 : ds.toArray.all (·.oneCell') = true)
    (h : ∀ w', Upd w b w' → V3 σ w' b ds → K undef w') : V7 P t (.pointer (some ⟨b, 0, none⟩)) (.agg ds.toArray) w K := by
  obtain ⟨hσ, e, hb⟩ := hm
  unfold V7
  obtain ⟨i, hi, hsz, _⟩ := tz.info
  have := run_storeVar_row (P := P) w b e t cs.toArray ds.toArray hb (by simp [hi, hsz, hd]) (by simp [hl, hd]) h1
  rw [Lp (w' := w.setRow b ds.toArray) (by simpa [Instr.storeAt, Instr.sureAddr] using this)]
  obtain ⟨hu, hh⟩ := Nj (cs := ds.toArray) hb
  exact h _ hu ⟨hσ, e, hh⟩
theorem Q86 {cs : List Value} {i : Nat} {v : Value} (hi : i < cs.length) : (cs.take i ++ [v] ++ cs.drop (i + 1)) = cs.set i v := by
  rw [List.set_eq_take_append_cons_drop, if_pos hi]; simp
theorem Gr {t : TypeId} {by_ : Nat} {z : Value} [tz : TZ P t 1 by_ z] {σ : Q5} {b i : Nat} {cs : List Value} {v : Value} (hm : V3 σ w b cs) (hi : i < cs.length) (hc : v.cells = #[v]) (h1 : v.oneCell' = true)
    (h : ∀ w', Upd w b w' → V3 σ w' b (cs.set i v) → K undef w') : V7 P t (.pointer (some ((⟨b, 0, none⟩ : Addr).add i))) v w K := by
  obtain ⟨hσ, e, hb⟩ := hm
  unfold V7
  have hadd : (⟨b, 0, none⟩ : Addr).add i = ⟨b, i, none⟩ := by unfold Addr.add; split <;> simp_all
  have := run_storeCells_at P b i e [v] 0 cs.toArray w hb (by simp; omega) (by simpa using h1)
  simp only [Nat.add_zero] at this
  obtain ⟨hu, hh⟩ := Nj (cs := (cs.set i v).toArray) hb
  have e2 : (List.take i cs.toArray.toList ++ [v] ++ List.drop (i + [v].length) cs.toArray.toList).toArray = (cs.set i v).toArray := by
    rw [← Q86 hi]; simp
  rw [e2] at this
  rw [Lp (w' := w.setRow b (cs.set i v).toArray) (by simp [Instr.storeAt, Instr.sureAddr, hadd, storeVar, M0 tz, hc, this])]
  exact h _ hu ⟨hσ, e, hh⟩
theorem st0 {t : TypeId} {by_ : Nat} {z : Value} [tz : TZ P t 1 by_ z] {σ : Q5} {b : Nat} {cs : List Value} {v : Value} (hm : V3 σ w b cs) (hi : 0 < cs.length) (hc : v.cells = #[v]) (h1 : v.oneCell' = true)
    (h : ∀ w', Upd w b w' → V3 σ w' b (cs.set 0 v) → K undef w') : V7 P t (.pointer (some ⟨b, 0, none⟩)) v w K := by
  have := Gr (P := P) (t := t) hm hi hc h1 h
  rwa [add_zero] at this
class NZ (n : Nat) : Prop where
  h : (n == 0) = false
instance (n : Nat) : NZ (n + 1) := ⟨rfl⟩
theorem fa {t : TypeId} {k off : Nat} {ft : TypeId} {sz by_ : Nat} {z : Value} [tf : TF P t k off ft] [tz : TZ P ft sz by_ z] [nz : NZ sz] {a : Addr} : fieldAddr P t (.pointer (some a)) k w K = K (.pointer (some (a.add off))) w := by
  unfold fieldAddr
  have hh := tf.h
  unfold Q0Y at hh
  split at hh
  · rename_i fs hu
    obtain ⟨f, hf, he⟩ := Option.map_eq_some_iff.1 hh
    simp only [Prod.mk.injEq] at he
    obtain ⟨h1, h2⟩ := he
    subst h2 h1
    have h0 : ¬ sz = 0 := by simpa using nz.h
    exact X9 (by simp [Instr.fieldAt, run_underlying hu, hf, Instr.sureAddr, fieldPlace, M0 tz, h0])
  · cases hh
theorem Rk {t e : TypeId} {sz by_ : Nat} {z : Value} [ts : TS P t e] [tz : TZ P e sz by_ z] {a : Addr} {n cap : Nat} {k : IntKind} {i : Int} (h0 : 0 ≤ i) (h1 : i < n) : indexAddr P t (.slice (some a) n cap) (.int k i) w K = K (.pointer (some (a.add (i.toNat * sz)))) w := by
  unfold indexAddr
  exact X9 (by simp [Instr.indexAt, run_underlying ts.h, asIntOf, M0 tz, h0, h1])
theorem Q69 {t e : TypeId} {n sz by_ : Nat} {z : Value} [ta : TA P t n e] [tz : TZ P e sz by_ z] {a : Addr} {k : IntKind} {i : Int} (h0 : 0 ≤ i) (h1 : i < n) : indexAddr P t (.pointer (some a)) (.int k i) w K = K (.pointer (some (a.add (i.toNat * sz)))) w := by
  unfold indexAddr
  exact X9 (by simp [Instr.indexAt, run_underlying ta.h, asIntOf, Instr.sureAddr, M0 tz, h0, h1])
theorem R9 {a : Addr} : nilCheck P (.pointer (some a)) w K = K (.pointer (some a)) w := by
  unfold nilCheck
  rw [Yw]; unfold Xo
  simp [execOp]
class Rep {α : Type} (R : Q5 → α → List Value → Prop) : Prop where
  up : ∀ {σ σ' : Q5} {x : α} {cs : List Value}, (∀ b o, σ b = some o → σ' b = some o) → R σ x cs → R σ' x cs
  one : ∀ {σ : Q5} {x : α} {cs : List Value}, R σ x cs → ∀ u ∈ cs, u.oneCell' = true
def Sl {α : Type} (sz : Nat) (R : Q5 → α → List Value → Prop) (σ : Q5) (v : Value) (xs : List α) : Prop :=
  ∃ a cap, v = .slice a xs.length cap ∧ xs.length ≤ cap ∧ cap ≤ maxLen ∧ (a = none → cap = 0) ∧
    ∀ b, a = some b → (0 < xs.length → b.spot = none) ∧ ∀ i x, xs[i]? = some x → ∃ cs, U0 σ (b.add (i * sz)) cs ∧ cs.length = sz ∧ R σ x cs
theorem U0.le {σ σ' : Q5} {a : Addr} {cs : List Value} (h : U0 σ a cs) (hk : ∀ b o, σ b = some o → σ' b = some o) : U0 σ' a cs := by
  obtain ⟨h1, D5, e, fr, h2, h3⟩ := h
  exact ⟨h1, D5, e, fr, hk _ _ h2, h3⟩
section
variable {α : Type} {R : Q5 → α → List Value → Prop} {sz : Nat} {σ σ' : Q5} {v : Value} {xs : List α}
theorem Sl.le [hr : Rep R] (h : Sl sz R σ v xs) (hk : ∀ b o, σ b = some o → σ' b = some o) : Sl sz R σ' v xs := by
  obtain ⟨a, cap, h1, h2, h3, h4, h5⟩ := h
  refine ⟨a, cap, h1, h2, h3, h4, fun b hb => ⟨(h5 b hb).1, fun i x hx => ?_⟩⟩
  obtain ⟨cs, g1, g2, g3⟩ := (h5 b hb).2 i x hx
  exact ⟨cs, g1.le hk, g2, hr.up hk g3⟩
theorem Sl.up [Rep R] (h : Sl sz R σ v xs) (hk : Stp w σ w' σ') : Sl sz R σ' v xs := h.le hk.le
theorem Sl.max (h : Sl sz R σ v xs) : xs.length ≤ 9223372036854775807 := by
  obtain ⟨a, cap, h1, h2, h3, h4⟩ := h
  simp only [maxLen] at h3; omega
theorem Sl.nil : Sl sz R σ (.slice none 0 0) ([] : List α) := ⟨none, 0, rfl, by simp, by simp, fun _ => rfl, fun b hb => by cases hb⟩
theorem Q4b {t0 e t : TypeId} {cs : List Bool} [ts : TS P t0 e] {a : Option Addr} {n cap : Nat} : X4 P .len [t0] t cs [.slice a n cap] w K = K (I n) w := by
  have h : (Builtin.len_ #[t0] t #[.slice a n cap]).run P w = .ok (I n) w := by
    simp [Builtin.len_, run_underlying ts.h, goInt]
  exact X9 h
theorem Q8w {t0 e t : TypeId} {cs : List Bool} [ts : TS P t0 e] (h : Sl sz R σ v xs) : X4 P .len [t0] t cs [v] w K = K (I xs.length) w := by
  obtain ⟨a, cap, rfl, _⟩ := h
  exact Q4b
theorem Q9k {t e : TypeId} {by_ : Nat} {z : Value} [TS P t e] [TZ P e sz by_ z] (h : Sl sz R σ v xs) {k : IntKind} {i : Int} (h0 : 0 ≤ i) (h1 : i.toNat < xs.length)
    (hk : ∀ a cs, U0 σ a cs → cs.length = sz → R σ xs[i.toNat] cs → K (.pointer (some a)) w) : indexAddr P t v (.int k i) w K := by
  obtain ⟨a, cap, rfl, h2, h3, h4, h5⟩ := h
  cases a with
  | none => have := h4 rfl; omega
  | some b =>
    rw [Rk h0 (by omega)]
    obtain ⟨cs, g1, g2, g3⟩ := (h5 b rfl).2 i.toNat xs[i.toNat] (by simp [h1])
    exact hk _ cs g1 g2 g3
end
theorem Stp.turn {σ0 σ : Q5} {row : Option Nat} (hg : w.grownBy w' row) (hS : Stp w0 σ0 w σ) (hr : ∀ k, row = some k → w0.heap.size ≤ k ∧ σ k = none) : Stp w0 σ0 w' σ := by
  refine ⟨⟨hg.os.trans hS.bel.os, hg.tape.trans hS.bel.tape, hg.output.trans hS.bel.output, Nat.le_trans hS.bel.size hg.size, fun k hk => ?_⟩, ?_, hS.le, hS.old⟩
  · refine (hg.block k (Nat.lt_of_lt_of_le hk hS.bel.size) ?_).trans (hS.bel.block k hk)
    intro e; have := (hr k e.symm).1; omega
  · intro k o ho
    refine (hg.block k (hS.sat.lt ho) ?_).trans (hS.sat k o ho)
    intro e; rw [(hr k e.symm).2] at ho; cases ho
theorem V3.turn {σ : Q5} {row : Option Nat} {k : Nat} {cs : List Value} (h : V3 σ w k cs) (hg : w.grownBy w' row) (hne : some k ≠ row) : V3 σ w' k cs := by
  have hl := h.lt
  obtain ⟨h1, e, h2⟩ := h
  exact ⟨h1, e, (hg.block k hl hne).trans h2⟩
def W7 {α : Type} (B : Nat) (e : TypeId) (sz : Nat) (R : Q5 → α → List Value → Prop) (σ : Q5) (w : World) (v : Value) (xs : List α) : Prop :=
  ∃ cells, w.ownsRow B e sz v xs.length cells ∧ (∀ k, v.ownBlock = some k → σ k = none) ∧ ∀ i x, xs[i]? = some x → R σ x ((cells.drop (i * sz)).take sz)
section
variable {α : Type} {R : Q5 → α → List Value → Prop} {B sz : Nat} {e : TypeId} {σ σ' : Q5} {v u : Value} {xs ys : List α}
theorem W7.nil : W7 B e sz R σ w (.slice none 0 0) ([] : List α) := ⟨[], World.ownsRow_nil w B e sz, by intro k hk; simp [Value.ownBlock] at hk, by intro i x h; simp at h⟩
theorem W7.mem (h : W7 B e sz R σ w v xs) : ∀ k, v.ownBlock = some k → B ≤ k ∧ k < w.heap.size ∧ σ k = none := by
  obtain ⟨cells, h1, h2, _⟩ := h
  intro k hk
  obtain ⟨a, b⟩ := h1.lt k hk
  exact ⟨a, b, h2 k hk⟩
theorem W7.up [hr : Rep R] (h : W7 B e sz R σ w v xs) (hk : Stp w σ w' σ') : W7 B e sz R σ' w' v xs := by
  obtain ⟨cells, h1, h2, h3⟩ := h
  refine ⟨cells, h1.kept ⟨hk.bel.os, hk.bel.tape, hk.bel.output, hk.bel.size, fun k hl _ => hk.bel.block k hl⟩ (by cases hv : v.ownBlock <;> simp) (row := none), ?_, fun i x hx => hr.up hk.le (h3 i x hx)⟩
  intro k hv
  rw [hk.old k (h1.lt k hv).2]; exact h2 k hv
theorem W7.turn {row : Option Nat} (h : W7 B e sz R σ w v xs) (hg : w.grownBy w' row) (hne : v.ownBlock = none ∨ v.ownBlock ≠ row) : W7 B e sz R σ w' v xs := by
  obtain ⟨cells, h1, h2, h3⟩ := h
  exact ⟨cells, h1.kept hg hne, h2, h3⟩
theorem Sl.cells (h : Sl sz R σ v xs) (hs : X6 w σ) [hr : Rep R] : ∃ (a : Option Addr) (cap : Nat) (news : List Value), v = .slice a xs.length cap ∧ (a = none → cap = 0) ∧ news.length = xs.length * sz ∧ (∀ b, a = some b → ∀ j u, news[j]? = some u → w.cell? (b.add j) = some u) ∧ (∀ u ∈ news, u.oneCell' = true) ∧
    ∀ i x, xs[i]? = some x → R σ x ((news.drop (i * sz)).take sz) := by
  obtain ⟨a, cap, rfl, h2, h3, h4, h5⟩ := h
  cases a with
  | none =>
    have h0 := h4 rfl
    have hx : xs = [] := List.eq_nil_of_length_eq_zero (by omega)
    subst hx
    exact ⟨none, cap, [], rfl, h4, by simp, fun b hb => (by cases hb), by simp, by simp⟩
  | some b =>
    obtain ⟨hsp, hel⟩ := h5 b rfl
    clear h5
    have key : ∀ (ys : List α) (k : Nat), (∀ i x, ys[i]? = some x → ∃ cs, U0 σ (b.add ((k + i) * sz)) cs ∧ cs.length = sz ∧ R σ x cs) →
        ∃ news : List Value, news.length = ys.length * sz ∧ (∀ j u, news[j]? = some u → w.cell? (b.add (k * sz + j)) = some u) ∧ (∀ u ∈ news, u.oneCell' = true) ∧ ∀ i x, ys[i]? = some x → R σ x ((news.drop (i * sz)).take sz) := by
      intro ys
      induction ys with
      | nil => intro k _; exact ⟨[], by simp, by simp, by simp, by simp⟩
      | cons y r ih =>
        intro k hy
        obtain ⟨cs, g1, g2, g3⟩ := hy 0 y rfl
        obtain ⟨news, n1, n2, n3, n4⟩ := ih (k + 1) (fun i x hx => by
          have := hy (i + 1) x (by simpa using hx)
          rwa [show k + 1 + i = k + (i + 1) by omega])
        refine ⟨cs ++ news, by simp [n1, g2, Nat.add_mul, Nat.add_comm], ?_, ?_, ?_⟩
        · intro j u hu
          by_cases hj : j < sz
          · rw [List.getElem?_append_left (by omega)] at hu
            have := g1.cell hs hu
            rwa [Q4g, Nat.add_zero] at this
          · rw [List.getElem?_append_right (by omega)] at hu
            have := n2 _ _ hu
            rwa [g2, show (k + 1) * sz + (j - sz) = k * sz + j by rw [Nat.add_mul]; omega] at this
        · intro u hu
          rcases List.mem_append.1 hu with hu | hu
          · exact hr.one g3 u hu
          · exact n3 u hu
        · intro i x hx
          cases i with
          | zero =>
            simp at hx; subst hx
            simp only [Nat.zero_mul, List.drop_zero]
            rw [List.take_append_of_le_length (by omega), List.take_of_length_le (by omega)]; exact g3
          | succ i =>
            have := n4 i x (by simpa using hx)
            rw [show (i + 1) * sz = cs.length + i * sz by rw [Nat.add_mul]; omega, List.drop_append]
            simpa [List.drop_eq_nil_of_le] using this
    obtain ⟨news, n1, n2, n3, n4⟩ := key xs 0 (fun i x hx => by rw [Nat.zero_add]; exact hel i x hx)
    refine ⟨some b, cap, news, rfl, h4, n1, ?_, n3, n4⟩
    intro b' hb' j u hu
    cases hb'
    have := n2 j u hu
    rwa [Nat.zero_mul, Nat.zero_add] at this
end
section
variable {α : Type} {R : Q5 → α → List Value → Prop} {sz : Nat} {e : TypeId} {σ σ0 : Q5} {v u : Value} {xs ys : List α}
theorem Oq (cells news : List Value) (n i : Nat) (hl : cells.length = n * sz) (hi : i < n) : ((cells ++ news).drop (i * sz)).take sz = (cells.drop (i * sz)).take sz := by
  have h : i * sz + sz ≤ n * sz := by rw [← Nat.succ_mul]; exact Nat.mul_le_mul_right _ hi
  rw [List.drop_append_of_le_length (by omega), List.take_append_of_le_length (by simp only [List.length_drop]; omega)]
theorem app {t ty : TypeId} {by_ : Nat} {z : Value} {cs : List Bool} [ts : TS P t e] [tz : TZ P e sz by_ z] [hr : Rep R] (hS : Stp w0 σ0 w σ) (ha : W7 w0.heap.size e sz R σ w v xs) (hu : Sl sz R σ u ys) (hz : (z.cells.size == sz && decide (0 < sz)) = true)
    (hb : (xs.length + ys.length) * by_ ≤ 140737488355328) (hm : xs.length + ys.length ≤ 9223372036854775807)
    (h : ∀ v' w', w.grownBy w' v.ownBlock → Stp w0 σ0 w' σ → W7 w0.heap.size e sz R σ w' v' (xs ++ ys) → (v'.ownBlock = v.ownBlock ∨ ∀ k, v'.ownBlock = some k → w.heap.size ≤ k) → K v' w') : X4 P .append [t, t] ty cs [v, u] w K := by
  obtain ⟨cells, h1, h2, h3⟩ := ha
  obtain ⟨a, cap, news, rfl, n1, n2, n3, n4, n5⟩ := hu.cells hS.sat
  obtain ⟨i, hi, hsz, hby, hzero⟩ := tz.info
  have fin : ∀ v' w', (Builtin.append_ #[t, t] ty #[v, .slice a ys.length cap]).run P w = .ok v' w' → w'.ownsRow w0.heap.size e sz v' (xs.length + ys.length) (cells ++ news) → w.grownBy w' v.ownBlock → (v'.ownBlock = v.ownBlock ∨ v'.ownBlock = some w.heap.size) → X4 P .append [t, t] ty cs [v, .slice a ys.length cap] w K := by
    intro v' w' hrun hown hgrow hat
    have hrun' : (builtin .append #[t, t] ty cs.toArray #[v, .slice a ys.length cap]).run P w = .ok (.value v') w' := by
      simp [builtin, hrun]
    unfold X4
    rw [Yw]; unfold Xo
    rw [hrun']
    refine h v' w' hgrow (Stp.turn hgrow hS fun k hk => ⟨(h1.lt k hk).1, h2 k hk⟩) ⟨cells ++ news, by rw [List.length_append]; exact hown, ?_, ?_⟩ ?_
    · intro k hk
      rcases hat with hat | hat
      · exact h2 k (hat ▸ hk)
      · rw [hat] at hk; cases hk; exact hS.sat.none (Nat.le_refl _)
    · intro j x hx
      by_cases hj : j < xs.length
      · rw [List.getElem?_append_left hj] at hx
        rw [Oq cells news xs.length j h1.1 hj]
        exact h3 j x hx
      · rw [List.getElem?_append_right (by omega)] at hx
        have := n5 _ _ hx
        rw [show j * sz = cells.length + (j - xs.length) * sz by rw [h1.1, ← Nat.add_mul]; congr 1; omega, List.drop_append]
        simpa [List.drop_eq_nil_of_le] using this
    · rcases hat with hat | hat
      · exact .inl hat
      · right; intro k hk; rw [hat] at hk; cases hk; exact Nat.le_refl _
  simp only [Bool.and_eq_true, beq_iff_eq, decide_eq_true_eq] at hz
  cases a with
  | some b =>
    obtain ⟨v', w', g1, g2, g3, _, g5⟩ := run_append_own_at (P := P) w w0.heap.size t ty e i z sz by_ ts.h hi hzero hsz hby hz.1 hz.2 v xs.length cells h1 b ys.length cap news n2 (n3 b rfl) n4 (by simp only [maxLen]; omega) hb hS.bel.size
    exact fin v' w' g1 g2 g3 g5
  | none =>
    have hy : ys = [] := List.eq_nil_of_length_eq_zero (by obtain ⟨a', cap', e', q1, _, q3, _⟩ := hu; injection e' with _ e2 e3; have := n1 rfl; subst e3; omega)
    have hc0 := n1 rfl
    subst hy hc0
    have hn : news = [] := List.eq_nil_of_length_eq_zero (by simpa using n2)
    subst hn
    have hown := h1
    rcases h1.2 with ⟨rfl, h0⟩ | ⟨g, cap, cur, rfl, hb1, hg, hle, _⟩
    · refine fin (.slice none 0 0) w ?_ (by simpa using hown) (World.grownBy.refl w _) (.inl rfl)
      simp [Builtin.append_, run_underlying ts.h, sizeOf, typeInfo, hi, Builtin.lenOf, Builtin.firstCells]
    · refine fin _ w ?_ (by simpa using hown) (World.grownBy.refl w _) (.inl rfl)
      simp [Builtin.append_, run_underlying ts.h, sizeOf, typeInfo, hi, Builtin.lenOf, Builtin.firstCells, hle, storeCells]
end
section
variable {α : Type} {R : Q5 → α → List Value → Prop} {sz : Nat} {e : TypeId} {σ σ0 : Q5} {v u : Value} {xs ys : List α}
theorem Q5.put_le {w : World} (hs : X6 w σ) {b : Nat} (h : σ b = none) (o : Obj) : ∀ k p, σ k = some p → (σ.put b o) k = some p := by
  intro k p hk
  by_cases hkb : k = b
  · subst hkb; rw [h] at hk; cases hk
  · simp only [Q5.put, if_neg hkb]; exact hk
theorem Stp.put {b : Nat} {o : Obj} (hS : Stp w0 σ0 w σ) (hσ : σ b = none) (hb : w0.heap.size ≤ b) (ho : w.heap[b]? = some o) : Stp w0 σ0 w (σ.put b o) := by
  refine ⟨hS.bel, ?_, fun k p hk => Q5.put_le hS.sat hσ o k p (hS.le k p hk), ?_⟩
  · intro k p hk
    by_cases hkb : k = b
    · subst hkb; simp only [Q5.put, if_true] at hk; cases hk; exact ho
    · simp only [Q5.put, if_neg hkb] at hk; exact hS.sat k p hk
  · intro k hk
    simp only [Q5.put]; rw [if_neg (by omega)]; exact hS.old k hk
theorem W7.keep [hr : Rep R] (h : W7 w0.heap.size e sz R σ w v xs) (hS : Stp w0 σ0 w σ) : ∃ σ', Stp w0 σ0 w σ' ∧ Sl sz R σ' v xs ∧ (∀ k o, σ k = some o → σ' k = some o) ∧ (∀ k, some k ≠ v.ownBlock → σ' k = σ k) := by
  obtain ⟨cells, h1, h2, h3⟩ := h
  rcases h1.2 with ⟨rfl, h0⟩ | ⟨g, cap, cur, rfl, hb, hg, hle, hmax, hsz, htk⟩
  · have : xs = [] := List.eq_nil_of_length_eq_zero h0
    subst this
    exact ⟨σ, hS, Sl.nil, fun _ _ h => h, fun _ _ => rfl⟩
  · have hσ := h2 g rfl
    have hle' := Q5.put_le hS.sat hσ (.cells cur e (0, 0))
    refine ⟨σ.put g (.cells cur e (0, 0)), hS.put hσ hb hg, ⟨_, cap, rfl, hle, hmax, by simp, ?_⟩, hle', ?_⟩
    · intro b hbb
      cases hbb
      refine ⟨fun _ => rfl, fun i x hx => ⟨(cells.drop (i * sz)).take sz, ⟨F5 rfl _, cur, e, (0, 0), by rw [R3]; simp [Q5.put], ?_⟩, ?_, hr.up hle' (h3 i x hx)⟩⟩
      · intro j u hu
        rw [Xa]
        rw [List.getElem?_take] at hu
        split at hu
        · rw [List.getElem?_drop, ← htk, List.getElem?_take] at hu
          split at hu
          · simpa using hu
          · cases hu
        · cases hu
      · have hi : i < xs.length := (List.getElem?_eq_some_iff.1 hx).1
        have h : i * sz + sz ≤ xs.length * sz := by rw [← Nat.succ_mul]; exact Nat.mul_le_mul_right _ hi
        rw [List.length_take, List.length_drop, h1.1]; omega
    · intro k hk
      have : k ≠ g := by intro e; subst e; exact hk rfl
      simp only [Q5.put, if_neg this]
theorem Sl.piece {a : Option Addr} {n cap : Nat} (h : Sl sz R σ (.slice a n cap) xs) (l m : Nat) (hl : l + m ≤ xs.length) : Sl sz R σ (.slice (if cap = l then a else a.map (·.add (l * sz))) m (cap - l)) ((xs.drop l).take m) := by
  obtain ⟨a', cap', he, h2, h3, h4, h5⟩ := h
  injection he with e1 e2 e3
  subst e1 e2 e3
  have hlen : ((xs.drop l).take m).length = m := by simp; omega
  refine ⟨_, cap - l, by rw [hlen], by rw [hlen]; omega, by omega, ?_, ?_⟩
  · intro hn
    split at hn
    · omega
    · cases a with
      | none => have := h4 rfl; omega
      | some b => simp at hn
  · intro b hb
    split at hb
    · rename_i hcl
      obtain ⟨q1, q2⟩ := h5 b hb
      have hm : m = 0 := by omega
      subst hm
      exact ⟨fun h => by simp at h, by simp⟩
    · cases a with
      | none => simp at hb
      | some b' =>
        simp only [Option.map_some, Option.some.injEq] at hb
        obtain ⟨q1, q2⟩ := h5 b' rfl
        subst hb
        refine ⟨fun h => F5 (q1 (by rw [hlen] at h; omega)) _, fun i x hx => ?_⟩
        rw [List.getElem?_take] at hx
        split at hx
        · rw [List.getElem?_drop] at hx
          obtain ⟨cs, g1, g2, g3⟩ := q2 _ _ hx
          refine ⟨cs, ?_, g2, g3⟩
          rw [Q4g, ← Nat.add_mul]; exact g1
        · cases hx
theorem Ro {t : TypeId} {by_ : Nat} {z : Value} [ts : TS P t e] [tz : TZ P e sz by_ z] (h : Sl sz R σ v xs) (lo hi : Option Value) (l m : Nat) (hlo : lo = none ∧ l = 0 ∨ lo = some (I l)) (hhi : hi = none ∧ m = xs.length ∨ hi = some (I m)) (hlm : l ≤ m) (hm : m ≤ xs.length)
    (hk : ∀ v', Sl sz R σ v' ((xs.drop l).take (m - l)) → K v' w) : R5 P t v lo hi none w K := by
  have h0 := h
  obtain ⟨a, cap, rfl, h2, h3, h4, h5⟩ := h
  have hh : ∀ w : World, (Instr.sliceBounds true xs.length cap lo hi none).run P w = .ok (l, m, cap) w := by
    intro w
    have c1 : (m : Int) ≤ cap := by omega
    have c2 : (l : Int) ≤ m := by omega
    have c3 : m ≤ cap := by omega
    rcases hlo with ⟨rfl, rfl⟩ | rfl <;> rcases hhi with ⟨rfl, rfl⟩ | rfl <;>
      simp [Instr.sliceBounds, Instr.sliceBound, asIntOf, c3, hlm] <;> intros <;> omega
  unfold R5
  have : (Instr.sliceAt t (.slice a xs.length cap) lo hi none).run P w = .ok (.slice (if cap = l then a else a.map (·.add (l * sz))) (m - l) (cap - l)) w := by
    simp [Instr.sliceAt, run_underlying ts.h, Instr.slice, hh, M0 tz]
  rw [X9 this]
  exact hk _ (h0.piece l (m - l) (by omega))
def en : Nat → List Value → List (Nat × Value)
  | _, [] => []
  | i, v :: r => (i, v) :: en (i + 1) r
theorem Q60 (off : Nat) : ∀ (vs : List Value) (k : Nat) (cs : Array Value), off + k + vs.length ≤ cs.size →
    ((vs.zipIdx k).foldl (fun cs (p : Value × Nat) => cs.setIfInBounds (off + p.2) p.1) cs).toList = cs.toList.take (off + k) ++ vs ++ cs.toList.drop (off + k + vs.length) := by
  intro vs
  induction vs with
  | nil => intro k cs _; simp
  | cons v r ih =>
    intro k cs h
    simp only [List.length_cons] at h
    rw [List.zipIdx_cons, List.foldl_cons, ih (k + 1) _ (by simp; omega)]
    simp only [Array.toList_setIfInBounds, List.length_cons]
    apply List.ext_getElem?
    intro i
    simp only [List.getElem?_append, List.length_take, List.length_set, Array.length_toList, List.getElem?_take, List.getElem?_drop, List.length_append, List.getElem?_set, List.length_cons]
    rcases Nat.lt_trichotomy i (off + k) with hi | hi | hi
    · simp [show i < off + (k + 1) by omega, hi, show i < min (off + (k + 1)) cs.size by omega, show i < min (off + (k + 1)) cs.size + r.length by omega, show i < min (off + k) cs.size by omega, show i < min (off + k) cs.size + (r.length + 1) by omega, show off + k ≠ i by omega]
    · subst hi
      simp [show off + k < off + (k + 1) by omega, show off + k < min (off + (k + 1)) cs.size by omega, show off + k < min (off + (k + 1)) cs.size + r.length by omega, show ¬ off + k < min (off + k) cs.size by omega, show off + k < min (off + k) cs.size + (r.length + 1) by omega, show off + k < cs.size by omega, show off + k - min (off + k) cs.size = 0 by omega]
    · by_cases h2 : i < off + (k + 1) + r.length
      · simp [show ¬ i < min (off + (k + 1)) cs.size by omega, show i < min (off + (k + 1)) cs.size + r.length by omega, show ¬ i < min (off + k) cs.size by omega, show i < min (off + k) cs.size + (r.length + 1) by omega, show i - min (off + k) cs.size = (i - min (off + (k + 1)) cs.size) + 1 by omega]
      · simp only [show ¬ i < min (off + (k + 1)) cs.size + r.length by omega, show ¬ i < min (off + k) cs.size + (r.length + 1) by omega, if_false]
        rw [show off + (k + 1) + r.length + (i - (min (off + (k + 1)) cs.size + r.length)) = i by omega, show off + k + (r.length + 1) + (i - (min (off + k) cs.size + (r.length + 1))) = i by omega, if_neg (by omega)]
theorem Q4h (sz : Nat) : ∀ (vs : List Value) (i : Nat) (cs : Array Value), (i + vs.length) * sz ≤ cs.size → (∀ v ∈ vs, v.cells.size = sz) →
    ∃ cs', Instr.fill (fun i => some (i * sz, sz)) cs (en i vs) = some cs' ∧ cs'.toList = cs.toList.take (i * sz) ++ vs.flatMap (·.cells.toList) ++ cs.toList.drop ((i + vs.length) * sz) := by
  intro vs
  induction vs with
  | nil => intro i cs _ _; exact ⟨cs, rfl, by simp⟩
  | cons v r ih =>
    intro i cs h hv
    have hv0 := hv v (by simp)
    simp only [List.length_cons] at h
    have h1 : i * sz + sz ≤ cs.size := by
      have : (i + 1) * sz ≤ (i + (r.length + 1)) * sz := Nat.mul_le_mul_right _ (by omega)
      rw [Nat.succ_mul] at this; omega
    have hset := Q60 (i * sz) v.cells.toList 0 cs (by simp; omega)
    simp only [Nat.add_zero] at hset
    have e1 : v.cells.zipIdx.foldl (fun cs (p : Value × Nat) => cs.setIfInBounds (i * sz + p.2) p.1) cs = (v.cells.toList.zipIdx 0).foldl (fun cs (p : Value × Nat) => cs.setIfInBounds (i * sz + p.2) p.1) cs := by
      rw [← Array.foldl_toList, Array.toList_zipIdx]
    have hsz' : ((v.cells.toList.zipIdx 0).foldl (fun cs (p : Value × Nat) => cs.setIfInBounds (i * sz + p.2) p.1) cs).size = cs.size := by
      rw [← Array.length_toList, hset]
      simp; omega
    obtain ⟨cs', q1, q2⟩ := ih (i + 1) _ (by rw [hsz']; rw [show i + 1 + r.length = i + (r.length + 1) by omega]; exact h) (fun u hu => hv u (by simp [hu]))
    refine ⟨cs', ?_, ?_⟩
    · simp only [en, Instr.fill]
      rw [if_neg (by simp [hv0]; omega)]
      rw [e1]; exact q1
    · rw [q2, hset]
      simp only [List.flatMap_cons, List.length_cons, Array.length_toList, hv0]
      have e2 : (i + 1) * sz = i * sz + sz := by rw [Nat.succ_mul]
      have e3 : (i + (r.length + 1)) * sz = i * sz + sz + r.length * sz := by rw [Nat.add_mul, Nat.succ_mul]; omega
      have e4 : (i + 1 + r.length) * sz = i * sz + sz + r.length * sz := by rw [Nat.add_mul, Nat.succ_mul]
      rw [e2, e3, e4]
      have t1 : (cs.toList.take (i * sz)).length = i * sz := by simp; omega
      have t2 : (cs.toList.take (i * sz) ++ v.cells.toList).length = i * sz + sz := by rw [List.length_append, t1]; simp [hv0]
      have k1 : ∀ C : List Value, (cs.toList.take (i * sz) ++ v.cells.toList ++ C).take (i * sz + sz) = cs.toList.take (i * sz) ++ v.cells.toList := by
        intro C
        rw [List.take_append_of_le_length (by omega), List.take_of_length_le (by omega)]
      have k2 : ∀ (C : List Value) (n : Nat), (cs.toList.take (i * sz) ++ v.cells.toList ++ C).drop (i * sz + sz + n) = C.drop n := by
        intro C n
        rw [List.drop_append, t2, List.drop_eq_nil_of_le (by omega), List.nil_append]
        congr 1; omega
      rw [k1, k2, List.drop_drop]
      simp only [List.append_assoc]
theorem My {t : TypeId} {by_ : Nat} {z : Value} [ts : TS P t e] [tz : TZ P e sz by_ z] (vs : List Value) (hv : ∀ v ∈ vs, v.cells.size = sz) (hsm : vs.length * sz ≤ 16777216) (w : World) :
    ∃ cells : Array Value, (Instr.buildSlice t vs.length (en 0 vs).toArray).run P w = .ok (.slice (some ⟨w.heap.size, 0, none⟩) vs.length vs.length) (w.alloc (.cells cells e)) ∧ cells.toList = vs.flatMap (·.cells.toList) := by
  have h2 : ¬ vs.length * sz > 2 ^ 24 := by omega
  by_cases h : vs.length * sz = 0
  · obtain ⟨cells, hf, hl⟩ := Q4h sz vs 0 ((Array.range (vs.length * sz)).map ((#[] : Array Value)[· % (#[] : Array Value).size]!)) (by simp) hv
    refine ⟨cells, ?_, by rw [hl]; simp⟩
    simp only [Instr.buildSlice, Sem.run_bind, run_underlying ts.h, Result.andThen_ok, M0 tz, if_neg h2, if_pos h, Sem.run_pure, hf]
    simp [newRow]
  · obtain ⟨cells, hf, hl⟩ := Q4h sz vs 0 ((Array.range (vs.length * sz)).map (z.cells[· % z.cells.size]!)) (by simp) hv
    refine ⟨cells, ?_, by rw [hl]; simp⟩
    simp only [Instr.buildSlice, Sem.run_bind, run_underlying ts.h, Result.andThen_ok, M0 tz, if_neg h2, if_neg h, Sem.run_pure, Qz tz, hf]
    simp [newRow]
theorem Q5b {vs : List Value} (hv : ∀ v ∈ vs, v.cells.size = sz) (i : Nat) (v : Value) (h : vs[i]? = some v) : ((vs.flatMap (·.cells.toList)).drop (i * sz)).take sz = v.cells.toList := by
  induction vs generalizing i with
  | nil => simp at h
  | cons a r ih =>
    have ha := hv a (by simp)
    cases i with
    | zero =>
      simp at h; subst h
      rw [List.flatMap_cons, Nat.zero_mul, List.drop_zero, List.take_append_of_le_length (by simp [ha]), List.take_of_length_le (by simp [ha])]
    | succ i =>
      rw [List.flatMap_cons, Nat.succ_mul, List.drop_append, List.drop_eq_nil_of_le (by simp [ha]), List.nil_append]
      rw [show i * sz + sz - a.cells.toList.length = i * sz by simp [ha]]
      exact ih (fun v hv' => hv v (by simp [hv'])) i (by simpa using h)
theorem Aa {vs : List Value} (hv : ∀ v ∈ vs, v.cells.size = sz) : (vs.flatMap (·.cells.toList)).length = vs.length * sz := by
  induction vs with
  | nil => simp
  | cons a r ih =>
    rw [List.flatMap_cons, List.length_append, ih (fun v h => hv v (by simp [h]))]
    simp [hv a (by simp), Nat.succ_mul, Nat.add_comm]
def Gw (R : Q5 → α → List Value → Prop) (σ : Q5) : List Value → List α → Prop
  | [], [] => True
  | v :: vs, x :: xs => R σ x v.cells.toList ∧ Gw R σ vs xs
  | _, _ => False
theorem Gw.len {vs : List Value} (h : Gw R σ vs xs) : vs.length = xs.length := by
  induction vs generalizing xs with
  | nil => cases xs with
    | nil => rfl
    | cons => exact h.elim
  | cons v r ih => cases xs with
    | nil => exact h.elim
    | cons x y => simp [ih h.2]
theorem Gw.get {vs : List Value} (h : Gw R σ vs xs) {i : Nat} {x : α} (hx : xs[i]? = some x) : ∃ v, vs[i]? = some v ∧ R σ x v.cells.toList := by
  induction vs generalizing xs i with
  | nil => cases xs with
    | nil => simp at hx
    | cons => exact h.elim
  | cons v r ih => cases xs with
    | nil => exact h.elim
    | cons y ys =>
      cases i with
      | zero => simp at hx; subst hx; exact ⟨v, rfl, h.1⟩
      | succ i => obtain ⟨u, q1, q2⟩ := ih h.2 (i := i) (by simpa using hx); exact ⟨u, by simpa using q1, q2⟩
theorem Qs {t : TypeId} {by_ : Nat} {z : Value} {n : Nat} {parts : List (Nat × Value)} [ts : TS P t e] [tz : TZ P e sz by_ z] (hS : Stp w0 σ0 w σ) (vs : List Value) (xs : List α) (hn : n = vs.length) (hp : parts = en 0 vs) (hv : ∀ v ∈ vs, v.cells.size = sz) (hsm : (decide (0 < sz) && decide (vs.length * sz ≤ 16777216)) = true) (he : Gw R σ vs xs)
    (h : ∀ v w', Stp w σ w' σ → W7 w0.heap.size e sz R σ w' v xs → (∀ k, v.ownBlock = some k → w.heap.size ≤ k) → K v w') : buildSlice P t n parts w K := by
  subst hn hp
  simp only [Bool.and_eq_true, decide_eq_true_eq] at hsm
  obtain ⟨hsz, hsm⟩ := hsm
  obtain ⟨cells, h1, h2⟩ := My (P := P) (t := t) vs hv hsm w
  unfold buildSlice
  rw [X9 h1]
  have hl := he.len
  refine h _ _ (Stp.own hS.sat _) ⟨cells.toList, ⟨by rw [h2, Aa hv, hl], .inr ⟨_, _, cells, by rw [hl], hS.bel.size, heap_alloc_new w _, by omega, ?_, ?_, ?_⟩⟩, ?_, ?_⟩ ?_
  · simp only [maxLen]
    have : vs.length * 1 ≤ vs.length * sz := Nat.mul_le_mul_left _ hsz
    omega
  · rw [← Array.length_toList, h2, Aa hv, hl]
  · rw [List.take_of_length_le (by rw [h2, Aa hv, hl]; exact Nat.le_refl _)]
  · intro k hk; cases hk; exact hS.sat.none (Nat.le_refl _)
  · intro i x hx
    obtain ⟨v, q1, q2⟩ := he.get hx
    rw [h2, Q5b hv i v q1]; exact q2
  · intro k hk; cases hk; exact Nat.le_refl _
theorem Vb [Rep R] {t : TypeId} {by_ : Nat} {z : Value} {n : Nat} {parts : List (Nat × Value)} [ts : TS P t e] [tz : TZ P e sz by_ z] (hs : X6 w σ) (vs : List Value) (xs : List α) (hn : n = vs.length) (hp : parts = en 0 vs) (hv : ∀ v ∈ vs, v.cells.size = sz) (hsm : (decide (0 < sz) && decide (vs.length * sz ≤ 16777216)) = true) (he : Gw R σ vs xs)
    (h : ∀ v w' σ', Stp w σ w' σ' → Sl sz R σ' v xs → K v w') : buildSlice P t n parts w K := by
  refine Qs (Stp.refl hs) vs xs hn hp hv hsm he fun v w' hk ha _ => ?_
  obtain ⟨σ', g1, g2, _⟩ := ha.keep hk
  exact h v w' σ' g1 g2
theorem Q8f {t : TypeId} {k off : Nat} {ft : TypeId} [tf : TF P t k off ft] [tg : TG P ft false] {cs : Array Value} {v : Value} (hv : cs[off]? = some v) : D7 P t (.agg cs) k w K = K v w := by
  unfold D7
  have hh := tf.h
  unfold Q0Y at hh
  split at hh
  · rename_i fs hu
    obtain ⟨f, hf, he⟩ := Option.map_eq_some_iff.1 hh
    simp only [Prod.mk.injEq] at he
    obtain ⟨h1, h2⟩ := he
    subst h2 h1
    exact X9 (by simp [Instr.field, run_underlying hu, hf, asAgg, part, T8 tg, hv])
  · cases hh
theorem Qy {f : Fn} {first caps : List Value} : D0 P f first caps w K = K (.func f first.toArray caps.toArray) w := X9 (by simp [Instr.makeFunc])
theorem C0 {t : TypeId} {parts : List (Nat × Value)} {cells : Array Value} (h : P.built t parts = some cells) (hk : K (.agg cells) w) : Qu P t parts w K := by
  unfold Qu
  rw [X9 (run_build w t parts.toArray cells h)]; exact hk
end
def N5 (o : Option Obj) (m : List (List UInt8 × Value)) : Prop :=
  ∃ es clock, o = some (.map es clock) ∧ es.toList.map (fun e => (e.key, e.val)) = m.map (fun p => (S p.1, p.2)) ∧ (es.toList.map (·.born)).Pairwise (· < ·) ∧ ∀ e ∈ es.toList, e.born < clock
def E6 (m : List (List UInt8 × Value)) (k : List UInt8) : Option Value := match m with
  | [] => none
  | p :: r => if p.1 = k then some p.2 else E6 r k
def Jr (m : List (List UInt8 × Value)) (k : List UInt8) (v : Value) : List (List UInt8 × Value) := match m with
  | [] => [(k, v)]
  | p :: r => if p.1 = k then (k, v) :: r else p :: Jr r k v
theorem Lx (a b : List UInt8) : ((⟨a.toArray⟩ : ByteArray) == ⟨b.toArray⟩) = decide (a = b) := by
  rw [← Q0X]
  show (a.toArray == b.toArray) = _
  simp
theorem Ef (k : List UInt8) : ∀ (es : List MapEntry) (m : List (List UInt8 × Value)) (i : Nat), es.map (fun e => (e.key, e.val)) = m.map (fun p => (S p.1, p.2)) →
    ∃ r, Instr.findNow .string (S k) es i = some r ∧ r.map (·.2) = E6 m k ∧ (∀ j v, r = some (j, v) → i ≤ j ∧ (∃ e, es[j - i]? = some e ∧ e.key = S k) ∧ ∀ u, (es.modify (j - i) fun e => { e with key := S k, val := u }).map (fun e => (e.key, e.val)) = (Jr m k u).map (fun p => (S p.1, p.2))) ∧
      (r = none → ∀ u, Jr m k u = m ++ [(k, u)]) := by
  intro es
  induction es with
  | nil =>
    intro m i h
    cases m with
    | nil => exact ⟨none, rfl, rfl, (by simp), fun _ u => rfl⟩
    | cons => simp at h
  | cons e r ih =>
    intro m i h
    cases m with
    | nil => simp at h
    | cons p q =>
      simp only [List.map_cons, List.cons.injEq, Prod.mk.injEq] at h
      obtain ⟨⟨h1, h2⟩, h3⟩ := h
      simp only [Instr.findNow, h1, Instr.sameNow, Lx]
      by_cases hk : p.1 = k
      · have hd : decide (k = p.1) = true := by simp [hk]
        simp only [hd]
        refine ⟨_, rfl, by simp [E6, hk, h2], ?_, by simp⟩
        intro j v hjv
        cases hjv
        refine ⟨Nat.le_refl _, ⟨e, by simp, by rw [h1, hk]⟩, fun u => ?_⟩
        simp [Jr, hk, h3]
      · have hd : decide (k = p.1) = false := by simp; exact fun e => hk e.symm
        simp only [hd]
        obtain ⟨r', q1, q2, q3, q4⟩ := ih q (i + 1) h3
        refine ⟨r', q1, by simp [E6, hk, q2], ?_, ?_⟩
        · intro j v hjv
          obtain ⟨z1, z2, z3⟩ := q3 j v hjv
          refine ⟨by omega, by rw [show j - i = (j - (i + 1)) + 1 by omega]; simpa using z2, fun u => ?_⟩
          have := z3 u
          rw [show j - i = (j - (i + 1)) + 1 by omega]
          simp [Jr, hk, h1, h2, this]
        · intro hn u
          simp [Jr, hk, q4 hn u]
theorem S5 {t : TypeId} (ht : P.underlying t = some .string) (b : Bool) (k : List UInt8) (w : World) : (Instr.checkKey b 10000 t (S k)).run P w = .ok () w := by
  unfold Instr.checkKey
  simp [run_underlying ht]
theorem Ah {t kt et : TypeId} {sz by_ : Nat} {z : Value} [tm : TM P t kt et] [tz : TZ P et sz by_ z] (hk : P.underlying kt = some .string) {r : Nat} {m : List (List UInt8 × Value)} (hm : N5 (w.heap[r]?) m) (k : List UInt8) :
    lookup P t (.map (some r)) (S k) true w K = K (match E6 m k with | some v => .tuple #[v, .bool true] | none => .tuple #[z, .bool false]) w := by
  obtain ⟨es, clock, h1, h2, h3, h4⟩ := hm
  obtain ⟨r', q1, q2, q3, q4⟩ := Ef k es.toList m 0 h2
  unfold lookup
  refine X9 ?_
  simp only [Instr.lookup, Sem.run_bind, run_underlying tm.h, Result.andThen_ok, Instr.findKey, run_underlying hk, q1, S5 hk]
  have hg : (getObj r).run P w = .ok (.map es clock) w := by simp [getObj, Sem.run, h1]
  simp only [hg, Result.andThen_ok, Sem.run_bind, Sem.run_pure, S5 hk, run_underlying hk, q1]
  cases r' with
  | none => simp at q2; rw [← q2]; simp [Qz tz]
  | some p => simp at q2; rw [← q2]; simp
theorem Q1q {t kt et : TypeId} {sz by_ : Nat} {z : Value} [tm : TM P t kt et] [tz : TZ P et sz by_ z] (hk : P.underlying kt = some .string) {r : Nat} {m : List (List UInt8 × Value)} (hm : N5 (w.heap[r]?) m) (k : List UInt8) :
    lookup P t (.map (some r)) (S k) false w K = K ((E6 m k).getD z) w := by
  obtain ⟨es, clock, h1, h2, h3, h4⟩ := hm
  obtain ⟨r', q1, q2, q3, q4⟩ := Ef k es.toList m 0 h2
  unfold lookup
  refine X9 ?_
  have hg : (getObj r).run P w = .ok (.map es clock) w := by simp [getObj, Sem.run, h1]
  simp only [Instr.lookup, Sem.run_bind, run_underlying tm.h, Result.andThen_ok, Instr.findKey, run_underlying hk, q1, S5 hk, hg, Sem.run_pure]
  cases r' with
  | none => simp at q2; rw [← q2]; simp [Qz tz]
  | some p => simp at q2; rw [← q2]; simp
def N2 (σ : Q5) (w : World) (r : Nat) (m : List (List UInt8 × Value)) : Prop := σ r = none ∧ N5 (w.heap[r]?) m
def P2 (σ : Q5) (r : Nat) (m : List (List UInt8 × Value)) : Prop := N5 (σ r) m
theorem P2.is {σ : Q5} {r : Nat} {m : List (List UInt8 × Value)} (h : P2 σ r m) (hs : X6 w σ) : N5 (w.heap[r]?) m := by
  obtain ⟨es, clock, h1, h2⟩ := h
  exact ⟨es, clock, hs _ _ h1, h2⟩
theorem P2.le {σ σ' : Q5} {r : Nat} {m : List (List UInt8 × Value)} (h : P2 σ r m) (hk : ∀ b o, σ b = some o → σ' b = some o) : P2 σ' r m := by
  obtain ⟨es, clock, h1, h2⟩ := h
  exact ⟨es, clock, hk _ _ h1, h2⟩
theorem P2.up {σ σ' : Q5} {r : Nat} {m : List (List UInt8 × Value)} (h : P2 σ r m) (hk : Stp w σ w' σ') : P2 σ' r m := h.le hk.le
theorem N2.lt {σ : Q5} {r : Nat} {m : List (List UInt8 × Value)} (h : N2 σ w r m) : r < w.heap.size := by
  obtain ⟨_, es, clock, h1, _⟩ := h
  exact (Array.getElem?_eq_some_iff.1 h1).1
theorem N2.up {σ σ' : Q5} {r : Nat} {m : List (List UInt8 × Value)} (h : N2 σ w r m) (hk : Stp w σ w' σ') : N2 σ' w' r m := by
  have hl := h.lt
  exact ⟨(hk.old r hl).trans h.1, (hk.bel.block r hl).symm ▸ h.2⟩
theorem N2.turn {σ : Q5} {row : Option Nat} {r : Nat} {m : List (List UInt8 × Value)} (h : N2 σ w r m) (hg : w.grownBy w' row) (hne : some r ≠ row) : N2 σ w' r m :=
  ⟨h.1, (hg.block r h.lt hne).symm ▸ h.2⟩
theorem Q0r {t : TypeId} {σ : Q5} (hs : X6 w σ) (h : ∀ r w', w.heap.size ≤ r → Stp w σ w' σ → N2 σ w' r [] → K (.map (some r)) w') : Bd P t none w K := by
  unfold Bd
  rw [X9 (v := .map (some w.heap.size)) (w' := w.alloc (.map #[] 0)) (by simp [Instr.makeMap])]
  exact h _ _ (Nat.le_refl _) (Stp.own hs _) ⟨hs.none (Nat.le_refl _), #[], 0, heap_alloc_new w _, rfl, by simp, by simp⟩
theorem N2.keep {σ σ0 : Q5} {r : Nat} {m : List (List UInt8 × Value)} (h : N2 σ w r m) (hS : Stp w0 σ0 w σ) (hb : w0.heap.size ≤ r) : ∃ σ', Stp w0 σ0 w σ' ∧ P2 σ' r m ∧ (∀ k o, σ k = some o → σ' k = some o) ∧ (∀ k, k ≠ r → σ' k = σ k) := by
  obtain ⟨h0, es, clock, h1, h2⟩ := h
  exact ⟨σ.put r (.map es clock), hS.put h0 hb h1, ⟨es, clock, by simp [Q5.put], h2⟩, Q5.put_le hS.sat h0 _, fun k hk => by simp only [Q5.put, if_neg hk]⟩
theorem Sk {t kt et : TypeId} [tm : TM P t kt et] (hk : P.underlying kt = some .string) {σ : Q5} {r : Nat} {m : List (List UInt8 × Value)} (hm : N2 σ w r m) (k : List UInt8) (v : Value)
    (h : ∀ w', Upd w r w' → N2 σ w' r (Jr m k v) → K undef w') : mapUpdate P t (.map (some r)) (S k) v w K := by
  obtain ⟨h0, es, clock, h1, h2, h3, h4⟩ := hm
  obtain ⟨r', q1, q2, q3, q4⟩ := Ef k es.toList m 0 h2
  have hg : (getObj r).run P w = .ok (.map es clock) w := by simp [getObj, Sem.run, h1]
  have hl := (Array.getElem?_eq_some_iff.1 h1).1
  have hset : ∀ o, o = Obj.map es clock ∨ True → (∀ c e f, o ≠ .cells c e f) → (setObj r o).run P w = .ok () { w with heap := w.heap.setIfInBounds r o } := by
    intro o _ _
    simp [setObj, Sem.run, h1]
  have upd : ∀ o, Upd w r { w with heap := w.heap.setIfInBounds r o } := fun o => ⟨rfl, rfl, rfl, by simp, fun k hk => by simp only [Array.getElem?_setIfInBounds]; rw [if_neg (by omega)]⟩
  have at_ : ∀ o, ({ w with heap := w.heap.setIfInBounds r o } : World).heap[r]? = some o := fun o => by simp [Array.getElem?_setIfInBounds, hl]
  unfold mapUpdate
  cases r' with
  | none =>
    rw [Lp (w' := { w with heap := w.heap.setIfInBounds r (.map (es.push { key := S k, val := v, born := clock }) (clock + 1)) }) (by
      simp only [Instr.mapUpdate, Sem.run_bind, run_underlying tm.h, Result.andThen_ok, Instr.findKey, run_underlying hk, q1, S5 hk, hg, Sem.run_pure]
      exact hset _ (.inr trivial) (by intros; simp))]
    refine h _ (upd _) ⟨h0, _, _, at_ _, ?_, ?_, ?_⟩
    · rw [q4 rfl]; simp [h2]
    · simp only [Array.toList_push, List.map_append, List.map_cons, List.map_nil]
      rw [List.pairwise_append]
      refine ⟨h3, by simp, ?_⟩
      intro a ha b hb
      simp at hb; subst hb
      obtain ⟨e, he, rfl⟩ := List.mem_map.1 ha
      exact h4 e he
    · intro e he
      simp at he
      rcases he with he | rfl
      · have := h4 e (by simpa using he); omega
      · simp
  | some p =>
    obtain ⟨j, u⟩ := p
    obtain ⟨z1, z2, z3⟩ := q3 j u rfl
    obtain ⟨e, e1, e2⟩ := z2
    simp only [Nat.sub_zero] at e1 z3
    have hborn : ((es.modify j fun e => { e with key := S k, val := v }).toList.map (·.born)) = es.toList.map (·.born) := by
      apply List.ext_getElem?
      intro i
      simp only [Array.toList_modify, List.getElem?_map, List.getElem?_modify]
      by_cases hij : j = i <;> cases es.toList[i]? <;> simp [hij]
    have hstay : (Instr.keyThatStays (S k) (S k)).run P w = .ok (S k) w := by
      simp [Instr.keyThatStays, Instr.sameBits, Lx]
    rw [Lp (w' := { w with heap := w.heap.setIfInBounds r (.map (es.modify j fun e => { e with key := S k, val := v }) clock) }) (by
      simp only [Instr.mapUpdate, Sem.run_bind, run_underlying tm.h, Result.andThen_ok, Instr.findKey, run_underlying hk, q1, S5 hk, hg, Sem.run_pure]
      rw [show ((es[j]?).map (·.key)).getD (S k) = S k by rw [← Array.getElem?_toList, e1]; simp [e2]]
      simp only [hstay, Result.andThen_ok]
      exact hset _ (.inr trivial) (by intros; simp))]
    refine h _ (upd _) ⟨h0, _, _, at_ _, ?_, ?_, ?_⟩
    · simp only [Array.toList_modify]; exact z3 v
    · rw [hborn]; exact h3
    · intro x hx
      have : x.born ∈ es.toList.map (·.born) := by rw [← hborn]; exact List.mem_map.2 ⟨x, hx, rfl⟩
      obtain ⟨y, hy, e⟩ := List.mem_map.1 this
      rw [← e]; exact h4 y hy
end Go.Emb
