/- Parts of a proof about the given program: its functions as texts of their own, what each computes, plain laws of that. The conditions of each stand in its statement. -/
import Derived.Test.YtdnfaboigajkhaaGreatDoorB1
import Derived.Below
import Derived.Maps.AppendAt
import Derived.ChangeArms
import Derived.DataReads
import Derived.SizedLaws
set_option linter.defProp false
set_option linter.unusedSectionVars false
set_option linter.unusedVariables false
set_option linter.unusedSimpArgs false
set_option linter.unusedVariables false
set_option maxRecDepth 100000
namespace Go.Proofs.YtdnfaboigajkhaaGreatDoor
open Go.Emb
def g_P_hier_Table_above (a0 a1 a2 : Value) (w : World) (K : Value → World → Prop) : Prop :=
 buildSlice P T.S_string 1 [(0, a1)] w fun t14 w =>
 mkMap P T.M_string_int none w fun t15 w =>
 lp (α := Value) t14 w fun again3 x3 d_ w =>
 blt P .len [T.S_string] T.int [false] [x3] w fun t17 w =>
 bin P .gtr T.int (.tmp 17) (.const (.int .i64 0)) t17 (.int .i64 0) w fun t18 w =>
 cnd t18 (
 indexAddr P T.S_string x3 (.int .i64 0) w fun t20 w =>
 ldv P T.string t20 w fun t21 w =>
 slc P T.S_string x3 (some (.int .i64 1)) none none w fun t23 w =>
 lookup P T.M_string_int t15 t21 true w fun t27 w =>
 ext P t27 0 w fun t28 w =>
 ext P t27 1 w fun t29 w =>
 gop t29 false w (fun w J => J a0 w) fun t32 w =>
 gop t29 false w (fun w J => J t21 w) fun t33 w =>
 gop t29 false w (callF P F.P_hier_Table_has [t32, t33]) fun t34 w =>
 gop t29 false w (una P .not t34) fun t35 w =>
 pick P t29 (.bool true) t35 w fun t36 w =>
 cnd t36 (
 again3 t23 w) (
 mapUpdate P T.M_string_int t15 t21 (.int .i64 1) w fun _u w =>
 callF P F.P_hier_Table_class [a0, t21] w fun t41 w =>
 alc P T.api_Class w fun v_c_12 w =>
 stv P T.api_Class v_c_12 t41 w fun _u w =>
 ldv P T.api_Class v_c_12 w fun t43 w =>
 callV P a2 [t43] w fun t44 w =>
 cnd t44 (
 K (.bool true) w) (
 dr w fun Tr Br =>
 dop Tr (fun φ46 => ∀ w : World, Br w → fieldAddr P T.api_Class v_c_12 1 w (dk Tr φ46 w)) fun φ46 =>
 dop Tr (fun φ50 => ∀ w : World, Br w → fieldAddr P T.api_Class v_c_12 2 w (dk Tr φ50 w)) fun φ50 =>
 dop Tr (fun φ47 => ∀ t46 : Value, ∀ w : World, Br w → φ46 t46 w → ldv P T.string t46 w (dk Tr φ47 w)) fun φ47 =>
 dop Tr (fun φ48 => ∀ t47 : Value, ∀ w : World, Br w → φ47 t47 w → buildSlice P T.S_string 1 [(0, t47)] w (dk Tr φ48 w)) fun φ48 =>
 dop Tr (fun φ49 => ∀ t48 : Value, ∀ w : World, Br w → φ48 t48 w → blt P .append [T.S_string, T.S_string] T.S_string [false, false] [t23, t48] w (dk Tr φ49 w)) fun φ49 =>
 dop Tr (fun φ51 => ∀ t50 : Value, ∀ w : World, Br w → φ50 t50 w → ldv P T.S_string t50 w (dk Tr φ51 w)) fun φ51 =>
 ∀ t46 : Value, ∀ t50 : Value, ∀ t47 : Value, ∀ t48 : Value, ∀ t49 : Value, ∀ t51 : Value, ∀ w : World, Br w → φ46 t46 w → φ50 t50 w → φ47 t47 w → φ48 t48 w → φ49 t49 w → φ51 t51 w → 
 blt P .append [T.S_string, T.S_string] T.S_string [false, false] [t49, t51] w fun t52 w =>
 again3 t52 w))) (
 K (.bool false) w)
theorem r_P_hier_Table_above {a0 a1 a2 : Value} {w : World} {K : Value → World → Prop} (h : g_P_hier_Table_above a0 a1 a2 w K) : callF P F.P_hier_Table_above [a0, a1, a2] w K :=
 rule_of [none, none, none, some ([7], [6, 7, 9, 10, 11, 12, 16, 17, 18, 19, 20, 21, 22, 23, 24, 25, 26, 27, 28, 29, 30, 31, 32, 33, 34, 35, 36, 37, 38, 39, 40, 41, 42, 43, 44, 45, 46, 47, 48, 49, 50, 51, 52]), none, none, none, none, none, none, none, none, none, none, none, none, none] Tryz.func54 rfl (by decide) ((by kernel_rfl : g_P_hier_Table_above a0 a1 a2 w K = denC P [none, none, none, some ([7], [6, 7, 9, 10, 11, 12, 16, 17, 18, 19, 20, 21, 22, 23, 24, 25, 26, 27, 28, 29, 30, 31, 32, 33, 34, 35, 36, 37, 38, 39, 40, 41, 42, 43, 44, 45, 46, 47, 48, 49, 50, 51, 52]), none, none, none, none, none, none, none, none, none, none, none, none, none] (Ann.slots [none, none, none, some ([7], [6, 7, 9, 10, 11, 12, 16, 17, 18, 19, 20, 21, 22, 23, 24, 25, 26, 27, 28, 29, 30, 31, 32, 33, 34, 35, 36, 37, 38, 39, 40, 41, 42, 43, 44, 45, 46, 47, 48, 49, 50, 51, 52]), none, none, none, none, none, none, none, none, none, none, none, none, none]) 0 (Tryz.f54.body.getD .skip) (retQ P Tryz.f54 K) (frame0 Tryz.f54 [a0, a1, a2]) w) ▸ h)
def g_P_hier_Table_loops_1_1 (a0 a1 : Value) (w : World) (K : Value → World → Prop) : Prop :=
 box P T.api_Class a0 w fun v_d_2 w =>
 fieldAddr P T.api_Class v_d_2 0 w fun t4 w =>
 ldv P T.string t4 w fun t5 w =>
 fieldAddr P T.api_Class a1 0 w fun t6 w =>
 ldv P T.string t6 w fun t7 w =>
 bin P .eql T.string (.tmp 5) (.tmp 7) t5 t7 w fun t8 w =>
 K t8 w
theorem r_P_hier_Table_loops_1_1 {a0 a1 : Value} {w : World} {K : Value → World → Prop} (h : g_P_hier_Table_loops_1_1 a0 a1 w K) : callF P F.P_hier_Table_loops_1_1 [a0, a1] w K :=
 rule_of [none, none] Tryz.func79 rfl (by decide) ((by kernel_rfl : g_P_hier_Table_loops_1_1 a0 a1 w K = denC P [none, none] (Ann.slots [none, none]) 0 (Tryz.f79.body.getD .skip) (retQ P Tryz.f79 K) (frame0 Tryz.f79 [a0, a1]) w) ▸ h)
def g_P_hier_Table_loops_1 (a0 a1 a2 : Value) (w : World) (K : Value → World → Prop) : Prop :=
 ldv P T.P_hier_Table a1 w fun t5 w =>
 mkFunc P (.func F.P_hier_Table_loops_1_1) [] [a2] w fun t7 w =>
 callF P F.P_hier_Table_above [t5, a0, t7] w fun t8 w =>
 K t8 w
theorem r_P_hier_Table_loops_1 {a0 a1 a2 : Value} {w : World} {K : Value → World → Prop} (h : g_P_hier_Table_loops_1 a0 a1 a2 w K) : callF P F.P_hier_Table_loops_1 [a0, a1, a2] w K :=
 rule_of [none, none] Tryz.func78 rfl (by decide) ((by kernel_rfl : g_P_hier_Table_loops_1 a0 a1 a2 w K = denC P [none, none] (Ann.slots [none, none]) 0 (Tryz.f78.body.getD .skip) (retQ P Tryz.f78 K) (frame0 Tryz.f78 [a0, a1, a2]) w) ▸ h)
def g_P_hier_Table_loops (a0 a1 : Value) (w : World) (K : Value → World → Prop) : Prop :=
 box P T.P_hier_Table a0 w fun v_t_2 w =>
 box P T.api_Class a1 w fun v_c_3 w =>
 mkFunc P (.func F.P_hier_Table_loops_1) [] [v_t_2, v_c_3] w fun t6 w =>
 fieldAddr P T.api_Class v_c_3 1 w fun t8 w =>
 ldv P T.string t8 w fun t9 w =>
 callV P t6 [t9] w fun t10 w =>
 gop t10 false w (fieldAddr P T.api_Class v_c_3 2) fun t12 w =>
 gop t10 false w (ldv P T.S_string t12) fun t13 w =>
 gop t10 false w (fun w J => J t6 w) fun t14 w =>
 gop t10 false w (callF P F.slices_ContainsFunc_S_string_string [t13, t14]) fun t15 w =>
 pick P t10 (.bool true) t15 w fun t16 w =>
 K t16 w
theorem r_P_hier_Table_loops {a0 a1 : Value} {w : World} {K : Value → World → Prop} (h : g_P_hier_Table_loops a0 a1 w K) : callF P F.P_hier_Table_loops [a0, a1] w K :=
 rule_of [none, none, none] Tryz.func43 rfl (by decide) ((by kernel_rfl : g_P_hier_Table_loops a0 a1 w K = denC P [none, none, none] (Ann.slots [none, none, none]) 0 (Tryz.f43.body.getD .skip) (retQ P Tryz.f43 K) (frame0 Tryz.f43 [a0, a1]) w) ▸ h)
def g_slices_Index_S_int_int (a0 a1 : Value) (w : World) (K : Value → World → Prop) : Prop :=
 blt P .len [T.S_int] T.int [false] [a0] w fun t7 w =>
 lp (α := Value) (.int .i64 0) w fun again3 x3 d_ w =>
 bin P .lss T.int (.tmp 8) (.tmp 7) x3 t7 w fun t9 w =>
 cnd t9 (
 indexAddr P T.S_int a0 x3 w fun t14 w =>
 ldv P T.int t14 w fun t15 w =>
 bin P .eql T.int (.tmp 11) (.tmp 15) a1 t15 w fun t16 w =>
 cnd t16 (
 K x3 w) (
 bin P .add T.int (.tmp 8) (.const (.int .i64 1)) x3 (.int .i64 1) w fun t18 w =>
 again3 t18 w)) (
 K (.int .i64 (-1)) w)
theorem r_slices_Index_S_int_int {a0 a1 : Value} {w : World} {K : Value → World → Prop} (h : g_slices_Index_S_int_int a0 a1 w K) : callF P F.slices_Index_S_int_int [a0, a1] w K :=
 rule_of [none, none, none, some ([8], [4, 5, 8, 9, 10, 11, 12, 13, 14, 15, 16, 17, 18]), none, none, none, none, none, none, none] Tryz.func125 rfl (by decide) ((by kernel_rfl : g_slices_Index_S_int_int a0 a1 w K = denC P [none, none, none, some ([8], [4, 5, 8, 9, 10, 11, 12, 13, 14, 15, 16, 17, 18]), none, none, none, none, none, none, none] (Ann.slots [none, none, none, some ([8], [4, 5, 8, 9, 10, 11, 12, 13, 14, 15, 16, 17, 18]), none, none, none, none, none, none, none]) 0 (Tryz.f125.body.getD .skip) (retQ P Tryz.f125 K) (frame0 Tryz.f125 [a0, a1]) w) ▸ h)
def g_slices_Contains_S_int_int (a0 a1 : Value) (w : World) (K : Value → World → Prop) : Prop :=
 callF P F.slices_Index_S_int_int [a0, a1] w fun t7 w =>
 bin P .geq T.int (.tmp 7) (.const (.int .i64 0)) t7 (.int .i64 0) w fun t8 w =>
 K t8 w
theorem r_slices_Contains_S_int_int {a0 a1 : Value} {w : World} {K : Value → World → Prop} (h : g_slices_Contains_S_int_int a0 a1 w K) : callF P F.slices_Contains_S_int_int [a0, a1] w K :=
 rule_of [none, none] Tryz.func82 rfl (by decide) ((by kernel_rfl : g_slices_Contains_S_int_int a0 a1 w K = denC P [none, none] (Ann.slots [none, none]) 0 (Tryz.f82.body.getD .skip) (retQ P Tryz.f82 K) (frame0 Tryz.f82 [a0, a1]) w) ▸ h)
def g_P_hier_Table_order_1 (a0 a1 a2 a3 a4 : Value) (w : World) (K : Value → World → Prop) : Prop :=
 ldv P T.int a1 w fun t9 w =>
 bin P .lss T.int (.tmp 8) (.tmp 9) a0 t9 w fun t10 w =>
 gop t10 false w (ldv P T.S_int a2) fun t12 w =>
 gop t10 false w (fun w J => J a0 w) fun t13 w =>
 gop t10 false w (callF P F.slices_Contains_S_int_int [t12, t13]) fun t14 w =>
 pick P t10 (.bool true) t14 w fun t15 w =>
 cnd t15 (
 K (.tuple #[]) w) (
 dr w fun Tr Br =>
 dop Tr (fun φ16 => ∀ w : World, Br w → ldv P T.P_hier_Table a3 w (dk Tr φ16 w)) fun φ16 =>
 dop Tr (fun φ17 => ∀ t16 : Value, ∀ w : World, Br w → φ16 t16 w → nilCheck P t16 w (dk Tr φ17 w)) fun φ17 =>
 dop Tr (fun φ18 => ∀ t17 : Value, ∀ w : World, Br w → φ17 t17 w → fieldAddr P T.hier_Table t17 0 w (dk Tr φ18 w)) fun φ18 =>
 dop Tr (fun φ19 => ∀ t18 : Value, ∀ w : World, Br w → φ18 t18 w → ldv P T.S_api_Class t18 w (dk Tr φ19 w)) fun φ19 =>
 dop Tr (fun φ21 => ∀ t19 : Value, ∀ w : World, Br w → φ19 t19 w → indexAddr P T.S_api_Class t19 a0 w (dk Tr φ21 w)) fun φ21 =>
 dop Tr (fun φ22 => ∀ t21 : Value, ∀ w : World, Br w → φ21 t21 w → fieldAddr P T.api_Class t21 1 w (dk Tr φ22 w)) fun φ22 =>
 dop Tr (fun φ23 => ∀ t22 : Value, ∀ w : World, Br w → φ22 t22 w → ldv P T.string t22 w (dk Tr φ23 w)) fun φ23 =>
 dop Tr (fun φ24 => ∀ t23 : Value, ∀ w : World, Br w → φ23 t23 w → buildSlice P T.S_string 1 [(0, t23)] w (dk Tr φ24 w)) fun φ24 =>
 dop Tr (fun φ25 => ∀ w : World, Br w → ldv P T.P_hier_Table a3 w (dk Tr φ25 w)) fun φ25 =>
 dop Tr (fun φ26 => ∀ t25 : Value, ∀ w : World, Br w → φ25 t25 w → nilCheck P t25 w (dk Tr φ26 w)) fun φ26 =>
 dop Tr (fun φ27 => ∀ t26 : Value, ∀ w : World, Br w → φ26 t26 w → fieldAddr P T.hier_Table t26 0 w (dk Tr φ27 w)) fun φ27 =>
 dop Tr (fun φ28 => ∀ t27 : Value, ∀ w : World, Br w → φ27 t27 w → ldv P T.S_api_Class t27 w (dk Tr φ28 w)) fun φ28 =>
 dop Tr (fun φ30 => ∀ t28 : Value, ∀ w : World, Br w → φ28 t28 w → indexAddr P T.S_api_Class t28 a0 w (dk Tr φ30 w)) fun φ30 =>
 dop Tr (fun φ31 => ∀ t30 : Value, ∀ w : World, Br w → φ30 t30 w → fieldAddr P T.api_Class t30 2 w (dk Tr φ31 w)) fun φ31 =>
 dop Tr (fun φ32 => ∀ t31 : Value, ∀ w : World, Br w → φ31 t31 w → ldv P T.S_string t31 w (dk Tr φ32 w)) fun φ32 =>
 ∀ t16 : Value, ∀ t17 : Value, ∀ t18 : Value, ∀ t19 : Value, ∀ t21 : Value, ∀ t22 : Value, ∀ t23 : Value, ∀ t24 : Value, ∀ t25 : Value, ∀ t26 : Value, ∀ t27 : Value, ∀ t28 : Value, ∀ t30 : Value, ∀ t31 : Value, ∀ t32 : Value, ∀ w : World, Br w → φ16 t16 w → φ17 t17 w → φ18 t18 w → φ19 t19 w → φ21 t21 w → φ22 t22 w → φ23 t23 w → φ24 t24 w → φ25 t25 w → φ26 t26 w → φ27 t27 w → φ28 t28 w → φ30 t30 w → φ31 t31 w → φ32 t32 w → 
 blt P .append [T.S_string, T.S_string] T.S_string [false, false] [t24, t32] w fun t33 w =>
 blt P .len [T.S_string] T.int [false] [t33] w fun t34 w =>
 lp (α := Value) (.int .i64 0) w fun again4 x4 d_ w =>
 bin P .lss T.int (.tmp 35) (.tmp 34) x4 t34 w fun t36 w =>
 cnd t36 (
 indexAddr P T.S_string t33 x4 w fun t37 w =>
 ldv P T.string t37 w fun t38 w =>
 dr w fun Tr Br =>
 dop Tr (fun φ39 => ∀ w : World, Br w → ldv P T.func_int a4 w (dk Tr φ39 w)) fun φ39 =>
 dop Tr (fun φ40 => ∀ w : World, Br w → ldv P T.P_hier_Table a3 w (dk Tr φ40 w)) fun φ40 =>
 dop Tr (fun φ41 => ∀ t40 : Value, ∀ w : World, Br w → φ40 t40 w → nilCheck P t40 w (dk Tr φ41 w)) fun φ41 =>
 dop Tr (fun φ42 => ∀ t41 : Value, ∀ w : World, Br w → φ41 t41 w → fieldAddr P T.hier_Table t41 1 w (dk Tr φ42 w)) fun φ42 =>
 dop Tr (fun φ43 => ∀ t42 : Value, ∀ w : World, Br w → φ42 t42 w → ldv P T.M_string_int t42 w (dk Tr φ43 w)) fun φ43 =>
 dop Tr (fun φ45 => ∀ t43 : Value, ∀ w : World, Br w → φ43 t43 w → lookup P T.M_string_int t43 t38 false w (dk Tr φ45 w)) fun φ45 =>
 ∀ t39 : Value, ∀ t40 : Value, ∀ t41 : Value, ∀ t42 : Value, ∀ t43 : Value, ∀ t45 : Value, ∀ w : World, Br w → φ39 t39 w → φ40 t40 w → φ41 t41 w → φ42 t42 w → φ43 t43 w → φ45 t45 w → 
 callV P t39 [t45] w fun t46 w =>
 bin P .add T.int (.tmp 35) (.const (.int .i64 1)) x4 (.int .i64 1) w fun t47 w =>
 again4 t47 w) (
 ldv P T.S_int a2 w fun t48 w =>
 buildSlice P T.S_int 1 [(0, a0)] w fun t50 w =>
 blt P .append [T.S_int, T.S_int] T.S_int [false, false] [t48, t50] w fun t51 w =>
 stv P T.S_int a2 t51 w fun _u w =>
 K (.tuple #[]) w))
theorem r_P_hier_Table_order_1 {a0 a1 a2 a3 a4 : Value} {w : World} {K : Value → World → Prop} (h : g_P_hier_Table_order_1 a0 a1 a2 a3 a4 w K) : callF P F.P_hier_Table_order_1 [a0, a1, a2, a3, a4] w K :=
 rule_of [none, none, none, none, some ([35], [7, 35, 36, 37, 38, 39, 40, 41, 42, 43, 44, 45, 46, 47]), none, none, none, none] Tryz.func81 rfl (by decide) ((by kernel_rfl : g_P_hier_Table_order_1 a0 a1 a2 a3 a4 w K = denC P [none, none, none, none, some ([35], [7, 35, 36, 37, 38, 39, 40, 41, 42, 43, 44, 45, 46, 47]), none, none, none, none] (Ann.slots [none, none, none, none, some ([35], [7, 35, 36, 37, 38, 39, 40, 41, 42, 43, 44, 45, 46, 47]), none, none, none, none]) 0 (Tryz.f81.body.getD .skip) (retQ P Tryz.f81 K) (frame0 Tryz.f81 [a0, a1, a2, a3, a4]) w) ▸ h)
def g_P_hier_Table_order (a0 a1 : Value) (w : World) (K : Value → World → Prop) : Prop :=
 box P T.P_hier_Table a0 w fun v_t_2 w =>
 box P T.int a1 w fun v_from_3 w =>
 alc P T.S_int w fun v_out_5 w =>
 alc P T.func_int w fun v_walk_6 w =>
 mkFunc P (.func F.P_hier_Table_order_1) [] [v_from_3, v_out_5, v_t_2, v_walk_6] w fun t8 w =>
 stv P T.func_int v_walk_6 t8 w fun _u w =>
 ldv P T.int v_from_3 w fun t9 w =>
 lp (α := Value) t9 w fun again6 x6 d_ w =>
 ldv P T.P_hier_Table v_t_2 w fun t11 w =>
 nilCheck P t11 w fun t12 w =>
 fieldAddr P T.hier_Table t12 0 w fun t13 w =>
 ldv P T.S_api_Class t13 w fun t14 w =>
 blt P .len [T.S_api_Class] T.int [false] [t14] w fun t15 w =>
 bin P .lss T.int (.tmp 10) (.tmp 15) x6 t15 w fun t16 w =>
 cnd t16 (
 ldv P T.func_int v_walk_6 w fun t19 w =>
 callV P t19 [x6] w fun t21 w =>
 bin P .add T.int (.tmp 17) (.const (.int .i64 1)) x6 (.int .i64 1) w fun t18 w =>
 again6 t18 w) (
 ldv P T.S_int v_out_5 w fun t22 w =>
 K t22 w)
theorem r_P_hier_Table_order {a0 a1 : Value} {w : World} {K : Value → World → Prop} (h : g_P_hier_Table_order a0 a1 w K) : callF P F.P_hier_Table_order [a0, a1] w K :=
 rule_of [none, none, none, none, none, none, some ([7], [7, 10, 11, 12, 13, 14, 15, 16, 17, 18, 19, 20, 21]), none, none, none, none] Tryz.func44 rfl (by decide) ((by kernel_rfl : g_P_hier_Table_order a0 a1 w K = denC P [none, none, none, none, none, none, some ([7], [7, 10, 11, 12, 13, 14, 15, 16, 17, 18, 19, 20, 21]), none, none, none, none] (Ann.slots [none, none, none, none, none, none, some ([7], [7, 10, 11, 12, 13, 14, 15, 16, 17, 18, 19, 20, 21]), none, none, none, none]) 0 (Tryz.f44.body.getD .skip) (retQ P Tryz.f44 K) (frame0 Tryz.f44 [a0, a1]) w) ▸ h)
def g_slices_Reverse_S_api_Class_api_Class (a0 : Value) (w : World) (K : Value → World → Prop) : Prop :=
 blt P .len [T.S_api_Class] T.int [false] [a0] w fun t5 w =>
 bin P .sub T.int (.tmp 5) (.const (.int .i64 1)) t5 (.int .i64 1) w fun t6 w =>
 lp (α := Value × Value) ((.int .i64 0), t6) w fun again1 x1 d_ w =>
 bin P .lss T.int (.tmp 7) (.tmp 8) x1.1 x1.2 w fun t9 w =>
 cnd t9 (
 dr w fun Tr Br =>
 dop Tr (fun φ20 => ∀ w : World, Br w → indexAddr P T.S_api_Class a0 x1.2 w (dk Tr φ20 w)) fun φ20 =>
 dop Tr (fun φ24 => ∀ w : World, Br w → indexAddr P T.S_api_Class a0 x1.1 w (dk Tr φ24 w)) fun φ24 =>
 dop Tr (fun φ21 => ∀ t20 : Value, ∀ w : World, Br w → φ20 t20 w → ldv P T.api_Class t20 w (dk Tr φ21 w)) fun φ21 =>
 dop Tr (fun φ25 => ∀ t24 : Value, ∀ w : World, Br w → φ24 t24 w → ldv P T.api_Class t24 w (dk Tr φ25 w)) fun φ25 =>
 ∀ t20 : Value, ∀ t24 : Value, ∀ t21 : Value, ∀ t25 : Value, ∀ w : World, Br w → φ20 t20 w → φ24 t24 w → φ21 t21 w → φ25 t25 w → 
 indexAddr P T.S_api_Class a0 x1.1 w fun t26 w =>
 stv P T.api_Class t26 t21 w fun _u w =>
 indexAddr P T.S_api_Class a0 x1.2 w fun t27 w =>
 stv P T.api_Class t27 t25 w fun _u w =>
 bin P .add T.int (.tmp 10) (.const (.int .i64 1)) x1.1 (.int .i64 1) w fun t11 w =>
 bin P .sub T.int (.tmp 12) (.const (.int .i64 1)) x1.2 (.int .i64 1) w fun t13 w =>
 again1 (t11, t13) w) (
 K (.tuple #[]) w)
theorem r_slices_Reverse_S_api_Class_api_Class {a0 : Value} {w : World} {K : Value → World → Prop} (h : g_slices_Reverse_S_api_Class_api_Class a0 w K) : callF P F.slices_Reverse_S_api_Class_api_Class [a0] w K :=
 rule_of [none, some ([2, 3], [2, 3, 7, 8, 9, 10, 11, 12, 13, 14, 15, 16, 17, 18, 19, 20, 21, 22, 23, 24, 25, 26, 27]), none, none, none] Tryz.func65 rfl (by decide) ((by kernel_rfl : g_slices_Reverse_S_api_Class_api_Class a0 w K = denC P [none, some ([2, 3], [2, 3, 7, 8, 9, 10, 11, 12, 13, 14, 15, 16, 17, 18, 19, 20, 21, 22, 23, 24, 25, 26, 27]), none, none, none] (Ann.slots [none, some ([2, 3], [2, 3, 7, 8, 9, 10, 11, 12, 13, 14, 15, 16, 17, 18, 19, 20, 21, 22, 23, 24, 25, 26, 27]), none, none, none]) 0 (Tryz.f65.body.getD .skip) (retQ P Tryz.f65 K) (frame0 Tryz.f65 [a0]) w) ▸ h)
def g_P_hier_Table_line (a0 a1 : Value) (w : World) (K : Value → World → Prop) : Prop :=
 lp (α := Value × Value) ((.slice none 0 0), a1) w fun again4 x4 d_ w =>
 callF P F.P_hier_Table_has [a0, x4.2] w fun t10 w =>
 cnd t10 (
 callF P F.P_hier_Table_class [a0, x4.2] w fun t18 w =>
 buildSlice P T.S_api_Class 1 [(0, t18)] w fun t19 w =>
 blt P .append [T.S_api_Class, T.S_api_Class] T.S_api_Class [false, false] [x4.1, t19] w fun t20 w =>
 callF P F.P_hier_Table_class [a0, x4.2] w fun t13 w =>
 fld P T.api_Class t13 1 w fun t14 w =>
 again4 (t20, t14) w) (
 callF P F.slices_Reverse_S_api_Class_api_Class [x4.1] w fun t22 w =>
 K x4.1 w)
theorem r_P_hier_Table_line {a0 a1 : Value} {w : World} {K : Value → World → Prop} (h : g_P_hier_Table_line a0 a1 w K) : callF P F.P_hier_Table_line [a0, a1] w K :=
 rule_of [none, none, none, none, some ([5, 6], [5, 6, 8, 9, 10, 11, 12, 13, 14, 15, 16, 17, 18, 19, 20]), none, none, none, none, none] Tryz.func62 rfl (by decide) ((by kernel_rfl : g_P_hier_Table_line a0 a1 w K = denC P [none, none, none, none, some ([5, 6], [5, 6, 8, 9, 10, 11, 12, 13, 14, 15, 16, 17, 18, 19, 20]), none, none, none, none, none] (Ann.slots [none, none, none, none, some ([5, 6], [5, 6, 8, 9, 10, 11, 12, 13, 14, 15, 16, 17, 18, 19, 20]), none, none, none, none, none]) 0 (Tryz.f62.body.getD .skip) (retQ P Tryz.f62 K) (frame0 Tryz.f62 [a0, a1]) w) ▸ h)
def g_P_hier_Table_Fields (a0 a1 : Value) (w : World) (K : Value → World → Prop) : Prop :=
 callF P F.P_hier_Table_line [a0, a1] w fun t10 w =>
 blt P .len [T.S_api_Class] T.int [false] [t10] w fun t11 w =>
 lp (α := Value × Value) ((.slice none 0 0), (.int .i64 0)) w fun again4 x4 d_ w =>
 bin P .lss T.int (.tmp 12) (.tmp 11) x4.2 t11 w fun t13 w =>
 cnd t13 (
 indexAddr P T.S_api_Class t10 x4.2 w fun t14 w =>
 ldv P T.api_Class t14 w fun t15 w =>
 alc P T.api_Class w fun v_c_7 w =>
 stv P T.api_Class v_c_7 t15 w fun _u w =>
 fieldAddr P T.api_Class v_c_7 6 w fun t17 w =>
 ldv P T.S_api_Field t17 w fun t18 w =>
 blt P .append [T.S_api_Field, T.S_api_Field] T.S_api_Field [false, false] [x4.1, t18] w fun t19 w =>
 bin P .add T.int (.tmp 12) (.const (.int .i64 1)) x4.2 (.int .i64 1) w fun t20 w =>
 again4 (t19, t20) w) (
 K x4.1 w)
theorem r_P_hier_Table_Fields {a0 a1 : Value} {w : World} {K : Value → World → Prop} (h : g_P_hier_Table_Fields a0 a1 w K) : callF P F.P_hier_Table_Fields [a0, a1] w K :=
 rule_of [none, none, none, none, some ([5, 12], [5, 7, 12, 13, 14, 15, 16, 17, 18, 19, 20]), none, none, none, none, none] Tryz.func22 rfl (by decide) ((by kernel_rfl : g_P_hier_Table_Fields a0 a1 w K = denC P [none, none, none, none, some ([5, 12], [5, 7, 12, 13, 14, 15, 16, 17, 18, 19, 20]), none, none, none, none, none] (Ann.slots [none, none, none, none, some ([5, 12], [5, 7, 12, 13, 14, 15, 16, 17, 18, 19, 20]), none, none, none, none, none]) 0 (Tryz.f22.body.getD .skip) (retQ P Tryz.f22 K) (frame0 Tryz.f22 [a0, a1]) w) ▸ h)
def g_P_hier_Table_Place_1 (a0 a1 : Value) (w : World) (K : Value → World → Prop) : Prop :=
 box P T.api_Field a0 w fun v_f_2 w =>
 fieldAddr P T.api_Field v_f_2 0 w fun t4 w =>
 ldv P T.string t4 w fun t5 w =>
 ldv P T.string a1 w fun t6 w =>
 bin P .eql T.string (.tmp 5) (.tmp 6) t5 t6 w fun t7 w =>
 K t7 w
theorem r_P_hier_Table_Place_1 {a0 a1 : Value} {w : World} {K : Value → World → Prop} (h : g_P_hier_Table_Place_1 a0 a1 w K) : callF P F.P_hier_Table_Place_1 [a0, a1] w K :=
 rule_of [none, none] Tryz.func64 rfl (by decide) ((by kernel_rfl : g_P_hier_Table_Place_1 a0 a1 w K = denC P [none, none] (Ann.slots [none, none]) 0 (Tryz.f64.body.getD .skip) (retQ P Tryz.f64 K) (frame0 Tryz.f64 [a0, a1]) w) ▸ h)
def g_P_hier_Table_Place (a0 a1 a2 : Value) (w : World) (K : Value → World → Prop) : Prop :=
 box P T.string a2 w fun v_field_5 w =>
 callF P F.P_hier_Table_Fields [a0, a1] w fun t9 w =>
 mkFunc P (.func F.P_hier_Table_Place_1) [] [v_field_5] w fun t10 w =>
 callF P F.slices_IndexFunc_S_api_Field_api_Field [t9, t10] w fun t11 w =>
 K t11 w
theorem r_P_hier_Table_Place {a0 a1 a2 : Value} {w : World} {K : Value → World → Prop} (h : g_P_hier_Table_Place a0 a1 a2 w K) : callF P F.P_hier_Table_Place [a0, a1, a2] w K :=
 rule_of [none, none] Tryz.func24 rfl (by decide) ((by kernel_rfl : g_P_hier_Table_Place a0 a1 a2 w K = denC P [none, none] (Ann.slots [none, none]) 0 (Tryz.f24.body.getD .skip) (retQ P Tryz.f24 K) (frame0 Tryz.f24 [a0, a1, a2]) w) ▸ h)
def g_hier_own_1 (a0 a1 : Value) (w : World) (K : Value → World → Prop) : Prop :=
 box P T.api_Method a0 w fun v_m_2 w =>
 fieldAddr P T.api_Method v_m_2 0 w fun t4 w =>
 ldv P T.string t4 w fun t5 w =>
 ldv P T.string a1 w fun t6 w =>
 bin P .eql T.string (.tmp 5) (.tmp 6) t5 t6 w fun t7 w =>
 K t7 w
theorem r_hier_own_1 {a0 a1 : Value} {w : World} {K : Value → World → Prop} (h : g_hier_own_1 a0 a1 w K) : callF P F.hier_own_1 [a0, a1] w K :=
 rule_of [none, none] Tryz.func102 rfl (by decide) ((by kernel_rfl : g_hier_own_1 a0 a1 w K = denC P [none, none] (Ann.slots [none, none]) 0 (Tryz.f102.body.getD .skip) (retQ P Tryz.f102 K) (frame0 Tryz.f102 [a0, a1]) w) ▸ h)
def g_hier_own (a0 a1 : Value) (w : World) (K : Value → World → Prop) : Prop :=
 box P T.api_Class a0 w fun v_c_2 w =>
 box P T.string a1 w fun v_name_3 w =>
 alc P T.api_Method w fun t4 w =>
 fieldAddr P T.api_Class v_c_2 7 w fun t7 w =>
 ldv P T.S_api_Method t7 w fun t8 w =>
 mkFunc P (.func F.hier_own_1) [] [v_name_3] w fun t9 w =>
 callF P F.slices_IndexFunc_S_api_Method_api_Method [t8, t9] w fun t10 w =>
 bin P .lss T.int (.tmp 11) (.const (.int .i64 0)) t10 (.int .i64 0) w fun t12 w =>
 cnd t12 (
 bld P T.api_Method [] w fun t13 w =>
 stv P T.api_Method t4 t13 w fun _u w =>
 resCell P T.api_Method t4 w fun r0 =>
 K (.tuple #[r0, (.bool false)]) w) (
 fieldAddr P T.api_Class v_c_2 7 w fun t14 w =>
 ldv P T.S_api_Method t14 w fun t15 w =>
 indexAddr P T.S_api_Method t15 t10 w fun t17 w =>
 ldv P T.api_Method t17 w fun t18 w =>
 callF P F.hier_method [t18] w fun t19 w =>
 stv P T.api_Method t4 t19 w fun _u w =>
 resCell P T.api_Method t4 w fun r0 =>
 K (.tuple #[r0, (.bool true)]) w)
theorem r_hier_own {a0 a1 : Value} {w : World} {K : Value → World → Prop} (h : g_hier_own a0 a1 w K) : callF P F.hier_own [a0, a1] w K :=
 rule_of [none, none, none, none, none, none] Tryz.func66 rfl (by decide) ((by kernel_rfl : g_hier_own a0 a1 w K = denC P [none, none, none, none, none, none] (Ann.slots [none, none, none, none, none, none]) 0 (Tryz.f66.body.getD .skip) (retQ P Tryz.f66 K) (frame0 Tryz.f66 [a0, a1]) w) ▸ h)
def g_P_hier_Table_like (a0 a1 a2 : Value) (w : World) (K : Value → World → Prop) : Prop :=
 box P T.api_Class a1 w fun v_c_4 w =>
 alc P T.api_Method w fun t7 w =>
 fieldAddr P T.api_Class v_c_4 2 w fun t16 w =>
 ldv P T.S_string t16 w fun t17 w =>
 blt P .len [T.S_string] T.int [false] [t17] w fun t18 w =>
 lp (α := Value) (.int .i64 0) w fun again3 x3 d_ w =>
 bin P .lss T.int (.tmp 19) (.tmp 18) x3 t18 w fun t20 w =>
 cnd t20 (
 indexAddr P T.S_string t17 x3 w fun t21 w =>
 ldv P T.string t21 w fun t22 w =>
 callF P F.P_hier_Table_class [a0, t22] w fun t26 w =>
 callF P F.hier_own [t26, a2] w fun t28 w =>
 ext P t28 0 w fun t29 w =>
 ext P t28 1 w fun t30 w =>
 alc P T.api_Method w fun v_m_11 w =>
 stv P T.api_Method v_m_11 t29 w fun _u w =>
 cnd t30 (
 dr w fun Tr Br =>
 dop Tr (fun φ33 => ∀ w : World, Br w → ldv P T.api_Method v_m_11 w (dk Tr φ33 w)) fun φ33 =>
 ∀ t33 : Value, ∀ w : World, Br w → φ33 t33 w → 
 stv P T.api_Method t7 t33 w fun _u w =>
 resCell P T.api_Method t7 w fun r1 =>
 K (.tuple #[t22, r1, (.bool true)]) w) (
 callF P F.P_hier_Table_class [a0, t22] w fun t38 w =>
 callF P F.P_hier_Table_like [a0, t38, a2] w fun t40 w =>
 ext P t40 0 w fun t41 w =>
 ext P t40 1 w fun t42 w =>
 ext P t40 2 w fun t43 w =>
 alc P T.api_Method w fun v_m_14 w =>
 stv P T.api_Method v_m_14 t42 w fun _u w =>
 cnd t43 (
 dr w fun Tr Br =>
 dop Tr (fun φ46 => ∀ w : World, Br w → ldv P T.api_Method v_m_14 w (dk Tr φ46 w)) fun φ46 =>
 ∀ t46 : Value, ∀ w : World, Br w → φ46 t46 w → 
 stv P T.api_Method t7 t46 w fun _u w =>
 resCell P T.api_Method t7 w fun r1 =>
 K (.tuple #[t41, r1, (.bool true)]) w) (
 bin P .add T.int (.tmp 19) (.const (.int .i64 1)) x3 (.int .i64 1) w fun t47 w =>
 again3 t47 w))) (
 bld P T.api_Method [] w fun t48 w =>
 stv P T.api_Method t7 t48 w fun _u w =>
 resCell P T.api_Method t7 w fun r1 =>
 K (.tuple #[(.string ⟨#[]⟩), r1, (.bool false)]) w)
theorem r_P_hier_Table_like {a0 a1 a2 : Value} {w : World} {K : Value → World → Prop} (h : g_P_hier_Table_like a0 a1 a2 w K) : callF P F.P_hier_Table_like [a0, a1, a2] w K :=
 rule_of [none, none, none, some ([19], [6, 8, 10, 11, 12, 13, 14, 15, 19, 20, 21, 22, 23, 24, 25, 26, 27, 28, 29, 30, 31, 32, 33, 34, 35, 36, 37, 38, 39, 40, 41, 42, 43, 44, 45, 46, 47]), none, none, none, none, none, none, none, none, none, none, none, none] Tryz.func67 rfl (by decide) ((by kernel_rfl : g_P_hier_Table_like a0 a1 a2 w K = denC P [none, none, none, some ([19], [6, 8, 10, 11, 12, 13, 14, 15, 19, 20, 21, 22, 23, 24, 25, 26, 27, 28, 29, 30, 31, 32, 33, 34, 35, 36, 37, 38, 39, 40, 41, 42, 43, 44, 45, 46, 47]), none, none, none, none, none, none, none, none, none, none, none, none] (Ann.slots [none, none, none, some ([19], [6, 8, 10, 11, 12, 13, 14, 15, 19, 20, 21, 22, 23, 24, 25, 26, 27, 28, 29, 30, 31, 32, 33, 34, 35, 36, 37, 38, 39, 40, 41, 42, 43, 44, 45, 46, 47]), none, none, none, none, none, none, none, none, none, none, none, none]) 0 (Tryz.f67.body.getD .skip) (retQ P Tryz.f67 K) (frame0 Tryz.f67 [a0, a1, a2]) w) ▸ h)
def g_P_hier_Table_Method (a0 a1 a2 : Value) (w : World) (K : Value → World → Prop) : Prop :=
 alc P T.api_Method w fun t7 w =>
 callF P F.P_hier_Table_line [a0, a1] w fun t21 w =>
 callF P F.slices_Reverse_S_api_Class_api_Class [t21] w fun t23 w =>
 blt P .len [T.S_api_Class] T.int [false] [t21] w fun t25 w =>
 lp (α := Value) (.int .i64 0) w fun again5 x5 d_ w =>
 bin P .lss T.int (.tmp 26) (.tmp 25) x5 t25 w fun t27 w =>
 cnd t27 (
 indexAddr P T.S_api_Class t21 x5 w fun t28 w =>
 ldv P T.api_Class t28 w fun t29 w =>
 alc P T.api_Class w fun v_c_11 w =>
 stv P T.api_Class v_c_11 t29 w fun _u w =>
 ldv P T.api_Class v_c_11 w fun t31 w =>
 callF P F.hier_own [t31, a2] w fun t33 w =>
 ext P t33 0 w fun t34 w =>
 ext P t33 1 w fun t35 w =>
 alc P T.api_Method w fun v_m_12 w =>
 stv P T.api_Method v_m_12 t34 w fun _u w =>
 cnd t35 (
 dr w fun Tr Br =>
 dop Tr (fun φ37 => ∀ w : World, Br w → fieldAddr P T.api_Class v_c_11 0 w (dk Tr φ37 w)) fun φ37 =>
 dop Tr (fun φ38 => ∀ t37 : Value, ∀ w : World, Br w → φ37 t37 w → ldv P T.string t37 w (dk Tr φ38 w)) fun φ38 =>
 dop Tr (fun φ39 => ∀ w : World, Br w → ldv P T.api_Method v_m_12 w (dk Tr φ39 w)) fun φ39 =>
 ∀ t37 : Value, ∀ t38 : Value, ∀ t39 : Value, ∀ w : World, Br w → φ37 t37 w → φ38 t38 w → φ39 t39 w → 
 stv P T.api_Method t7 t39 w fun _u w =>
 resCell P T.api_Method t7 w fun r1 =>
 K (.tuple #[t38, r1, (.bool true)]) w) (
 bin P .add T.int (.tmp 26) (.const (.int .i64 1)) x5 (.int .i64 1) w fun t40 w =>
 again5 t40 w)) (
 blt P .len [T.S_api_Class] T.int [false] [t21] w fun t42 w =>
 lp (α := Value) (.int .i64 0) w fun again15 x15 d_ w =>
 bin P .lss T.int (.tmp 43) (.tmp 42) x15 t42 w fun t44 w =>
 cnd t44 (
 indexAddr P T.S_api_Class t21 x15 w fun t45 w =>
 ldv P T.api_Class t45 w fun t46 w =>
 alc P T.api_Class w fun v_c_15 w =>
 stv P T.api_Class v_c_15 t46 w fun _u w =>
 ldv P T.api_Class v_c_15 w fun t49 w =>
 callF P F.P_hier_Table_like [a0, t49, a2] w fun t51 w =>
 ext P t51 0 w fun t52 w =>
 ext P t51 1 w fun t53 w =>
 ext P t51 2 w fun t54 w =>
 alc P T.api_Method w fun v_m_17 w =>
 stv P T.api_Method v_m_17 t53 w fun _u w =>
 cnd t54 (
 dr w fun Tr Br =>
 dop Tr (fun φ57 => ∀ w : World, Br w → ldv P T.api_Method v_m_17 w (dk Tr φ57 w)) fun φ57 =>
 ∀ t57 : Value, ∀ w : World, Br w → φ57 t57 w → 
 stv P T.api_Method t7 t57 w fun _u w =>
 resCell P T.api_Method t7 w fun r1 =>
 K (.tuple #[t52, r1, (.bool true)]) w) (
 bin P .add T.int (.tmp 43) (.const (.int .i64 1)) x15 (.int .i64 1) w fun t58 w =>
 again15 t58 w)) (
 bld P T.api_Method [] w fun t59 w =>
 stv P T.api_Method t7 t59 w fun _u w =>
 resCell P T.api_Method t7 w fun r1 =>
 K (.tuple #[(.string ⟨#[]⟩), r1, (.bool false)]) w))
theorem r_P_hier_Table_Method {a0 a1 a2 : Value} {w : World} {K : Value → World → Prop} (h : g_P_hier_Table_Method a0 a1 a2 w K) : callF P F.P_hier_Table_Method [a0, a1, a2] w K :=
 rule_of [none, none, none, none, none, some ([26], [6, 8, 11, 12, 13, 26, 27, 28, 29, 30, 31, 32, 33, 34, 35, 36, 37, 38, 39, 40]), none, none, none, none, none, none, none, none, none, some ([43], [6, 8, 15, 16, 17, 18, 43, 44, 45, 46, 47, 48, 49, 50, 51, 52, 53, 54, 55, 56, 57, 58]), none, none, none, none, none, none, none, none] Tryz.func26 rfl (by decide) ((by kernel_rfl : g_P_hier_Table_Method a0 a1 a2 w K = denC P [none, none, none, none, none, some ([26], [6, 8, 11, 12, 13, 26, 27, 28, 29, 30, 31, 32, 33, 34, 35, 36, 37, 38, 39, 40]), none, none, none, none, none, none, none, none, none, some ([43], [6, 8, 15, 16, 17, 18, 43, 44, 45, 46, 47, 48, 49, 50, 51, 52, 53, 54, 55, 56, 57, 58]), none, none, none, none, none, none, none, none] (Ann.slots [none, none, none, none, none, some ([26], [6, 8, 11, 12, 13, 26, 27, 28, 29, 30, 31, 32, 33, 34, 35, 36, 37, 38, 39, 40]), none, none, none, none, none, none, none, none, none, some ([43], [6, 8, 15, 16, 17, 18, 43, 44, 45, 46, 47, 48, 49, 50, 51, 52, 53, 54, 55, 56, 57, 58]), none, none, none, none, none, none, none, none]) 0 (Tryz.f26.body.getD .skip) (retQ P Tryz.f26 K) (frame0 Tryz.f26 [a0, a1, a2]) w) ▸ h)
def g_P_strings_asciiSet_contains (a0 a1 : Value) (w : World) (K : Value → World → Prop) : Prop :=
 nilCheck P a0 w fun t7 w =>
 indexAddr P T.strings_asciiSet t7 a1 w fun t8 w =>
 ldv P T.bool t8 w fun t9 w =>
 K t9 w
theorem r_P_strings_asciiSet_contains {a0 a1 : Value} {w : World} {K : Value → World → Prop} (h : g_P_strings_asciiSet_contains a0 a1 w K) : callF P F.P_strings_asciiSet_contains [a0, a1] w K :=
 rule_of [none, none] Tryz.func129 rfl (by decide) ((by kernel_rfl : g_P_strings_asciiSet_contains a0 a1 w K = denC P [none, none] (Ann.slots [none, none]) 0 (Tryz.f129.body.getD .skip) (retQ P Tryz.f129 K) (frame0 Tryz.f129 [a0, a1]) w) ▸ h)
def g_strings_trimRightASCII (a0 a1 : Value) (w : World) (K : Value → World → Prop) : Prop :=
 jn (α := Value) w (fun J1 w =>
 lp (α := Value) a0 w fun again2 x2 d_ w =>
 blt P .len [T.string] T.int [false] [x2] w fun t6 w =>
 bin P .gtr T.int (.tmp 6) (.const (.int .i64 0)) t6 (.int .i64 0) w fun t7 w =>
 cnd t7 (
 blt P .len [T.string] T.int [false] [x2] w fun t11 w =>
 bin P .sub T.int (.tmp 11) (.const (.int .i64 1)) t11 (.int .i64 1) w fun t12 w =>
 idx P T.string x2 t12 w fun t13 w =>
 callF P F.P_strings_asciiSet_contains [a1, t13] w fun t14 w =>
 una P .not t14 w fun t15 w =>
 cnd t15 (
 J1 x2 w) (
 blt P .len [T.string] T.int [false] [x2] w fun t18 w =>
 bin P .sub T.int (.tmp 18) (.const (.int .i64 1)) t18 (.int .i64 1) w fun t19 w =>
 slc P T.string x2 none (some t19) none w fun t20 w =>
 again2 t20 w)) (
 J1 x2 w)) fun z1 d_ w =>
 K z1 w
theorem r_strings_trimRightASCII {a0 a1 : Value} {w : World} {K : Value → World → Prop} (h : g_strings_trimRightASCII a0 a1 w K) : callF P F.strings_trimRightASCII [a0, a1] w K :=
 rule_of [none, some ([0], [0, 5, 6, 7, 8, 9, 10, 11, 12, 13, 14, 15, 16, 17, 18, 19, 20]), some ([0], [0, 5, 6, 7, 8, 9, 10, 11, 12, 13, 14, 15, 16, 17, 18, 19, 20]), none, none, none, none, none] Tryz.func95 rfl (by decide) ((by kernel_rfl : g_strings_trimRightASCII a0 a1 w K = denC P [none, some ([0], [0, 5, 6, 7, 8, 9, 10, 11, 12, 13, 14, 15, 16, 17, 18, 19, 20]), some ([0], [0, 5, 6, 7, 8, 9, 10, 11, 12, 13, 14, 15, 16, 17, 18, 19, 20]), none, none, none, none, none] (Ann.slots [none, some ([0], [0, 5, 6, 7, 8, 9, 10, 11, 12, 13, 14, 15, 16, 17, 18, 19, 20]), some ([0], [0, 5, 6, 7, 8, 9, 10, 11, 12, 13, 14, 15, 16, 17, 18, 19, 20]), none, none, none, none, none]) 0 (Tryz.f95.body.getD .skip) (retQ P Tryz.f95 K) (frame0 Tryz.f95 [a0, a1]) w) ▸ h)
def g_strings_TrimRight (a0 a1 : Value) (w : World) (K : Value → World → Prop) : Prop :=
 bin P .eql T.string (.tmp 7) (.const (.string ⟨#[]⟩)) a0 (.string ⟨#[]⟩) w fun t8 w =>
 gop t8 false w (fun w J => J a1 w) fun t10 w =>
 gop t8 false w (bin P .eql T.string (.tmp 10) (.const (.string ⟨#[]⟩)) t10 (.string ⟨#[]⟩)) fun t11 w =>
 pick P t8 (.bool true) t11 w fun t12 w =>
 cnd t12 (
 K a0 w) (
 blt P .len [T.string] T.int [false] [a1] w fun t15 w =>
 bin P .eql T.int (.tmp 15) (.const (.int .i64 1)) t15 (.int .i64 1) w fun t16 w =>
 gop t16 true w (fun w J => J a1 w) fun t18 w =>
 gop t16 true w (idx P T.string t18 (.int .i64 0)) fun t19 w =>
 gop t16 true w (bin P .lss T.uint8 (.tmp 19) (.const (.int .u8 128)) t19 (.int .u8 128)) fun t20 w =>
 pick P t16 t20 (.bool false) w fun t21 w =>
 cnd t21 (
 idx P T.string a1 (.int .i64 0) w fun t24 w =>
 callF P F.strings_trimRightByte [a0, t24] w fun t25 w =>
 K t25 w) (
 callF P F.strings_makeASCIISet [a1] w fun t28 w =>
 ext P t28 0 w fun t29 w =>
 ext P t28 1 w fun t30 w =>
 alc P T.strings_asciiSet w fun v_as_5 w =>
 stv P T.strings_asciiSet v_as_5 t29 w fun _u w =>
 cnd t30 (
 callF P F.strings_trimRightASCII [a0, v_as_5] w fun t33 w =>
 K t33 w) (
 callF P F.strings_trimRightUnicode [a0, a1] w fun t36 w =>
 K t36 w)))
theorem r_strings_TrimRight {a0 a1 : Value} {w : World} {K : Value → World → Prop} (h : g_strings_TrimRight a0 a1 w K) : callF P F.strings_TrimRight [a0, a1] w K :=
 rule_of [none, none, none, none, none, none, none, none, none, none, none, none] Tryz.func57 rfl (by decide) ((by kernel_rfl : g_strings_TrimRight a0 a1 w K = denC P [none, none, none, none, none, none, none, none, none, none, none, none] (Ann.slots [none, none, none, none, none, none, none, none, none, none, none, none]) 0 (Tryz.f57.body.getD .skip) (retQ P Tryz.f57 K) (frame0 Tryz.f57 [a0, a1]) w) ▸ h)
def g_P_hier_Table_Kind (a0 a1 : Value) (w : World) (K : Value → World → Prop) : Prop :=
 bin P .eql T.string (.tmp 6) (.const (.string ⟨#[110, 117, 108, 108]⟩)) a1 (.string ⟨#[110, 117, 108, 108]⟩) w fun t7 w =>
 cnd t7 (
 K (.bool true) w) (
 callF P F.strings_TrimRight [a1, (.string ⟨#[91, 93]⟩)] w fun t9 w =>
 callF P F.kind_Right [a1] w fun t11 w =>
 gop t11 true w (fun w J => J t9 w) fun t13 w =>
 gop t11 true w (callF P F.kind_Plain [t13]) fun t14 w =>
 gop t11 true w (fun w J => J t14 w) fun t15 w =>
 gop t15 false w (fun w J => J a0 w) fun t16 w =>
 gop t15 false w (fun w J => J t9 w) fun t17 w =>
 gop t15 false w (callF P F.P_hier_Table_has [t16, t17]) fun t18 w =>
 gop t11 true w (pick P t15 (.bool true) t18) fun t19 w =>
 pick P t11 t19 (.bool false) w fun t20 w =>
 K t20 w)
theorem r_P_hier_Table_Kind {a0 a1 : Value} {w : World} {K : Value → World → Prop} (h : g_P_hier_Table_Kind a0 a1 w K) : callF P F.P_hier_Table_Kind [a0, a1] w K :=
 rule_of [none, none, none, none, none, none] Tryz.func18 rfl (by decide) ((by kernel_rfl : g_P_hier_Table_Kind a0 a1 w K = denC P [none, none, none, none, none, none] (Ann.slots [none, none, none, none, none, none]) 0 (Tryz.f18.body.getD .skip) (retQ P Tryz.f18 K) (frame0 Tryz.f18 [a0, a1]) w) ▸ h)
def g_P_hier_Table_members_1 (a0 a1 : Value) (w : World) (K : Value → World → Prop) : Prop :=
 bin P .neq T.string (.tmp 4) (.const (.string ⟨#[110, 117, 108, 108]⟩)) a0 (.string ⟨#[110, 117, 108, 108]⟩) w fun t5 w =>
 gop t5 true w (ldv P T.P_hier_Table a1) fun t7 w =>
 gop t5 true w (fun w J => J a0 w) fun t8 w =>
 gop t5 true w (callF P F.P_hier_Table_Kind [t7, t8]) fun t9 w =>
 pick P t5 t9 (.bool false) w fun t10 w =>
 K t10 w
theorem r_P_hier_Table_members_1 {a0 a1 : Value} {w : World} {K : Value → World → Prop} (h : g_P_hier_Table_members_1 a0 a1 w K) : callF P F.P_hier_Table_members_1 [a0, a1] w K :=
 rule_of [none, none] Tryz.func83 rfl (by decide) ((by kernel_rfl : g_P_hier_Table_members_1 a0 a1 w K = denC P [none, none] (Ann.slots [none, none]) 0 (Tryz.f83.body.getD .skip) (retQ P Tryz.f83 K) (frame0 Tryz.f83 [a0, a1]) w) ▸ h)
def g_P_hier_Table_members_2 (a0 a1 : Value) (w : World) (K : Value → World → Prop) : Prop :=
 ldv P T.func_string_bool a1 w fun t4 w =>
 callV P t4 [a0] w fun t6 w =>
 una P .not t6 w fun t7 w =>
 K t7 w
theorem r_P_hier_Table_members_2 {a0 a1 : Value} {w : World} {K : Value → World → Prop} (h : g_P_hier_Table_members_2 a0 a1 w K) : callF P F.P_hier_Table_members_2 [a0, a1] w K :=
 rule_of [none, none] Tryz.func84 rfl (by decide) ((by kernel_rfl : g_P_hier_Table_members_2 a0 a1 w K = denC P [none, none] (Ann.slots [none, none]) 0 (Tryz.f84.body.getD .skip) (retQ P Tryz.f84 K) (frame0 Tryz.f84 [a0, a1]) w) ▸ h)
end Go.Proofs.YtdnfaboigajkhaaGreatDoor

set_option linter.unusedVariables false
set_option maxRecDepth 100000
namespace Go.Proofs.YtdnfaboigajkhaaGreatDoor
open Go.Emb
def g_class_Sign (a0 : Value) (w : World) (K : Value → World → Prop) : Prop :=
 box P T.api_Method a0 w fun v_m_1 w =>
 dr w fun Tr Br =>
 dop Tr (fun φ3 => ∀ w : World, Br w → fieldAddr P T.api_Method v_m_1 1 w (dk Tr φ3 w)) fun φ3 =>
 dop Tr (fun φ8 => ∀ w : World, Br w → fieldAddr P T.api_Method v_m_1 2 w (dk Tr φ8 w)) fun φ8 =>
 dop Tr (fun φ4 => ∀ t3 : Value, ∀ w : World, Br w → φ3 t3 w → ldv P T.S_string t3 w (dk Tr φ4 w)) fun φ4 =>
 dop Tr (fun φ5 => ∀ t4 : Value, ∀ w : World, Br w → φ4 t4 w → callF P F.strings_Join [t4, (.string ⟨#[44]⟩)] w (dk Tr φ5 w)) fun φ5 =>
 dop Tr (fun φ6 => ∀ t5 : Value, ∀ w : World, Br w → φ5 t5 w → bin P .add T.string (.const (.string ⟨#[40]⟩)) (.tmp 5) (.string ⟨#[40]⟩) t5 w (dk Tr φ6 w)) fun φ6 =>
 dop Tr (fun φ7 => ∀ t6 : Value, ∀ w : World, Br w → φ6 t6 w → bin P .add T.string (.tmp 6) (.const (.string ⟨#[41]⟩)) t6 (.string ⟨#[41]⟩) w (dk Tr φ7 w)) fun φ7 =>
 dop Tr (fun φ9 => ∀ t8 : Value, ∀ w : World, Br w → φ8 t8 w → ldv P T.string t8 w (dk Tr φ9 w)) fun φ9 =>
 ∀ t3 : Value, ∀ t8 : Value, ∀ t4 : Value, ∀ t5 : Value, ∀ t6 : Value, ∀ t7 : Value, ∀ t9 : Value, ∀ w : World, Br w → φ3 t3 w → φ8 t8 w → φ4 t4 w → φ5 t5 w → φ6 t6 w → φ7 t7 w → φ9 t9 w → 
 bin P .add T.string (.tmp 7) (.tmp 9) t7 t9 w fun t10 w =>
 K t10 w
theorem r_class_Sign {a0 : Value} {w : World} {K : Value → World → Prop} (h : g_class_Sign a0 w K) : callF P F.class_Sign [a0] w K :=
 rule_of [none, none] Tryz.func33 rfl (by decide) ((by kernel_rfl : g_class_Sign a0 w K = denC P [none, none] (Ann.slots [none, none]) 0 (Tryz.f33.body.getD .skip) (retQ P Tryz.f33 K) (frame0 Tryz.f33 [a0]) w) ▸ h)
def g_P_hier_Table_members_3_1 (a0 a1 a2 a3 : Value) (w : World) (K : Value → World → Prop) : Prop :=
 box P T.api_Method a0 w fun v_m_4 w =>
 ldv P T.M_string_string a1 w fun t9 w =>
 fieldAddr P T.api_Method v_m_4 0 w fun t10 w =>
 ldv P T.string t10 w fun t11 w =>
 lookup P T.M_string_string t9 t11 true w fun t12 w =>
 ext P t12 0 w fun t13 w =>
 ext P t12 1 w fun t14 w =>
 dr w fun Tr Br =>
 dop Tr (fun φ16 => ∀ w : World, Br w → fieldAddr P T.api_Method v_m_4 0 w (dk Tr φ16 w)) fun φ16 =>
 dop Tr (fun φ19 => ∀ w : World, Br w → fieldAddr P T.api_Method v_m_4 0 w (dk Tr φ19 w)) fun φ19 =>
 dop Tr (fun φ23 => ∀ w : World, Br w → fieldAddr P T.api_Class a2 0 w (dk Tr φ23 w)) fun φ23 =>
 dop Tr (fun φ15 => ∀ w : World, Br w → ldv P T.M_string_string a1 w (dk Tr φ15 w)) fun φ15 =>
 dop Tr (fun φ17 => ∀ t16 : Value, ∀ w : World, Br w → φ16 t16 w → ldv P T.string t16 w (dk Tr φ17 w)) fun φ17 =>
 dop Tr (fun φ18 => ∀ w : World, Br w → ldv P T.M_string_string a3 w (dk Tr φ18 w)) fun φ18 =>
 dop Tr (fun φ20 => ∀ t19 : Value, ∀ w : World, Br w → φ19 t19 w → ldv P T.string t19 w (dk Tr φ20 w)) fun φ20 =>
 dop Tr (fun φ21 => ∀ w : World, Br w → ldv P T.api_Method v_m_4 w (dk Tr φ21 w)) fun φ21 =>
 dop Tr (fun φ22 => ∀ t21 : Value, ∀ w : World, Br w → φ21 t21 w → callF P F.class_Sign [t21] w (dk Tr φ22 w)) fun φ22 =>
 dop Tr (fun φ24 => ∀ t23 : Value, ∀ w : World, Br w → φ23 t23 w → ldv P T.string t23 w (dk Tr φ24 w)) fun φ24 =>
 dop Tr (fun φ25 => ∀ t15 : Value, ∀ t17 : Value, ∀ w : World, Br w → φ15 t15 w → φ17 t17 w → mapEntry P T.M_string_string t15 t17 w (dk Tr φ25 w)) fun φ25 =>
 dop Tr (fun φ26 => ∀ t25 : Value, ∀ w : World, Br w → φ25 t25 w → ext P t25 1 w (dk Tr φ26 w)) fun φ26 =>
 dop Tr (fun φ_12 => ∀ t15 : Value, ∀ t26 : Value, ∀ t22 : Value, ∀ w : World, Br w → φ15 t15 w → φ26 t26 w → φ22 t22 w → entryStore P T.M_string_string t15 t26 t22 w (dk Tr φ_12 w)) fun φ_12 =>
 ∀ t16 : Value, ∀ t19 : Value, ∀ t23 : Value, ∀ t15 : Value, ∀ t17 : Value, ∀ t18 : Value, ∀ t20 : Value, ∀ t21 : Value, ∀ t22 : Value, ∀ t24 : Value, ∀ t25 : Value, ∀ t26 : Value, ∀ u12 : Value, ∀ w : World, Br w → φ16 t16 w → φ19 t19 w → φ23 t23 w → φ15 t15 w → φ17 t17 w → φ18 t18 w → φ20 t20 w → φ21 t21 w → φ22 t22 w → φ24 t24 w → φ25 t25 w → φ26 t26 w → φ_12 u12 w → 
 mapUpdate P T.M_string_string t18 t20 t24 w fun _u w =>
 gop t14 true w (fun w J => J t13 w) fun t29 w =>
 gop t14 true w (ldv P T.api_Method v_m_4) fun t30 w =>
 gop t14 true w (callF P F.class_Sign [t30]) fun t31 w =>
 gop t14 true w (bin P .neq T.string (.tmp 29) (.tmp 31) t29 t31) fun t32 w =>
 pick P t14 t32 (.bool false) w fun t33 w =>
 K t33 w
theorem r_P_hier_Table_members_3_1 {a0 a1 a2 a3 : Value} {w : World} {K : Value → World → Prop} (h : g_P_hier_Table_members_3_1 a0 a1 a2 a3 w K) : callF P F.P_hier_Table_members_3_1 [a0, a1, a2, a3] w K :=
 rule_of [none, none, none, none] Tryz.func87 rfl (by decide) ((by kernel_rfl : g_P_hier_Table_members_3_1 a0 a1 a2 a3 w K = denC P [none, none, none, none] (Ann.slots [none, none, none, none]) 0 (Tryz.f87.body.getD .skip) (retQ P Tryz.f87 K) (frame0 Tryz.f87 [a0, a1, a2, a3]) w) ▸ h)
def g_P_hier_Table_members_3 (a0 a1 a2 : Value) (w : World) (K : Value → World → Prop) : Prop :=
 box P T.api_Class a0 w fun v_d_3 w =>
 fieldAddr P T.api_Class v_d_3 7 w fun t5 w =>
 ldv P T.S_api_Method t5 w fun t6 w =>
 mkFunc P (.func F.P_hier_Table_members_3_1) [] [a1, v_d_3, a2] w fun t7 w =>
 callF P F.slices_ContainsFunc_S_api_Method_api_Method [t6, t7] w fun t8 w =>
 K t8 w
theorem r_P_hier_Table_members_3 {a0 a1 a2 : Value} {w : World} {K : Value → World → Prop} (h : g_P_hier_Table_members_3 a0 a1 a2 w K) : callF P F.P_hier_Table_members_3 [a0, a1, a2] w K :=
 rule_of [none, none] Tryz.func85 rfl (by decide) ((by kernel_rfl : g_P_hier_Table_members_3 a0 a1 a2 w K = denC P [none, none] (Ann.slots [none, none]) 0 (Tryz.f85.body.getD .skip) (retQ P Tryz.f85 K) (frame0 Tryz.f85 [a0, a1, a2]) w) ▸ h)
def g_P_hier_Table_members (a0 a1 : Value) (w : World) (K : Value → World → Prop) : Prop :=
 box P T.P_hier_Table a0 w fun t2 w =>
 box P T.api_Class a1 w fun t3 w =>
 fieldAddr P T.api_Class t3 6 w fun t18 w =>
 ldv P T.S_api_Field t18 w fun t19 w =>
 blt P .len [T.S_api_Field] T.int [false] [t19] w fun t20 w =>
 lp (α := Value) (.int .i64 0) w fun again3 x3 d_ w =>
 bin P .lss T.int (.tmp 21) (.tmp 20) x3 t20 w fun t22 w =>
 cnd t22 (
 indexAddr P T.S_api_Field t19 x3 w fun t23 w =>
 ldv P T.api_Field t23 w fun t24 w =>
 alc P T.api_Field w fun t6 w =>
 stv P T.api_Field t6 t24 w fun _u w =>
 ldv P T.P_hier_Table t2 w fun t25 w =>
 fieldAddr P T.api_Class t3 1 w fun t26 w =>
 ldv P T.string t26 w fun t27 w =>
 fieldAddr P T.api_Field t6 0 w fun t28 w =>
 ldv P T.string t28 w fun t29 w =>
 callF P F.P_hier_Table_Place [t25, t27, t29] w fun t30 w =>
 bin P .geq T.int (.tmp 30) (.const (.int .i64 0)) t30 (.int .i64 0) w fun t31 w =>
 cnd t31 (
 K (.int .i64 64) w) (
 bin P .add T.int (.tmp 21) (.const (.int .i64 1)) x3 (.int .i64 1) w fun t32 w =>
 again3 t32 w)) (
 mkFunc P (.func F.P_hier_Table_members_1) [] [t2] w fun t33 w =>
 alc P T.func_string_bool w fun t7 w =>
 stv P T.func_string_bool t7 t33 w fun _u w =>
 fieldAddr P T.api_Class t3 6 w fun t34 w =>
 ldv P T.S_api_Field t34 w fun t35 w =>
 blt P .len [T.S_api_Field] T.int [false] [t35] w fun t36 w =>
 lp (α := Value) (.int .i64 0) w fun again13 x13 d_ w =>
 bin P .lss T.int (.tmp 37) (.tmp 36) x13 t36 w fun t38 w =>
 cnd t38 (
 indexAddr P T.S_api_Field t35 x13 w fun t39 w =>
 ldv P T.api_Field t39 w fun t40 w =>
 alc P T.api_Field w fun t9 w =>
 stv P T.api_Field t9 t40 w fun _u w =>
 ldv P T.func_string_bool t7 w fun t41 w =>
 fieldAddr P T.api_Field t9 1 w fun t42 w =>
 ldv P T.string t42 w fun t43 w =>
 callV P t41 [t43] w fun t44 w =>
 una P .not t44 w fun t45 w =>
 cnd t45 (
 K (.int .i64 65) w) (
 bin P .add T.int (.tmp 37) (.const (.int .i64 1)) x13 (.int .i64 1) w fun t46 w =>
 again13 t46 w)) (
 fieldAddr P T.api_Class t3 7 w fun t47 w =>
 ldv P T.S_api_Method t47 w fun t48 w =>
 blt P .len [T.S_api_Method] T.int [false] [t48] w fun t49 w =>
 lp (α := Value) (.int .i64 0) w fun again22 x22 d_ w =>
 bin P .lss T.int (.tmp 50) (.tmp 49) x22 t49 w fun t51 w =>
 cnd t51 (
 indexAddr P T.S_api_Method t48 x22 w fun t52 w =>
 ldv P T.api_Method t52 w fun t53 w =>
 alc P T.api_Method w fun t11 w =>
 stv P T.api_Method t11 t53 w fun _u w =>
 ldv P T.func_string_bool t7 w fun t54 w =>
 fieldAddr P T.api_Method t11 2 w fun t55 w =>
 ldv P T.string t55 w fun t56 w =>
 callV P t54 [t56] w fun t57 w =>
 una P .not t57 w fun t58 w =>
 gop t58 true w (fieldAddr P T.api_Method t11 2) fun t60 w =>
 gop t58 true w (ldv P T.string t60) fun t61 w =>
 gop t58 true w (bin P .neq T.string (.tmp 61) (.const (.string ⟨#[]⟩)) t61 (.string ⟨#[]⟩)) fun t62 w =>
 pick P t58 t62 (.bool false) w fun t63 w =>
 gop t63 false w (fieldAddr P T.api_Method t11 1) fun t65 w =>
 gop t63 false w (ldv P T.S_string t65) fun t66 w =>
 gop t63 false w (mkFunc P (.func F.P_hier_Table_members_2) [] [t7]) fun t67 w =>
 gop t63 false w (callF P F.slices_ContainsFunc_S_string_string [t66, t67]) fun t68 w =>
 pick P t63 (.bool true) t68 w fun t69 w =>
 cnd t69 (
 K (.int .i64 65) w) (
 bin P .add T.int (.tmp 50) (.const (.int .i64 1)) x22 (.int .i64 1) w fun t70 w =>
 again22 t70 w)) (
 mkMap P T.M_string_string none w fun t71 w =>
 mkMap P T.M_string_string none w fun t72 w =>
 alc P T.M_string_string w fun t12 w =>
 alc P T.M_string_string w fun t13 w =>
 stv P T.M_string_string t12 t71 w fun _u w =>
 stv P T.M_string_string t13 t72 w fun _u w =>
 ldv P T.P_hier_Table t2 w fun t73 w =>
 fieldAddr P T.api_Class t3 0 w fun t74 w =>
 ldv P T.string t74 w fun t75 w =>
 mkFunc P (.func F.P_hier_Table_members_3) [] [t12, t13] w fun t76 w =>
 callF P F.P_hier_Table_above [t73, t75, t76] w fun t77 w =>
 cnd t77 (
 K (.int .i64 66) w) (
 fieldAddr P T.api_Class t3 4 w fun t78 w =>
 ldv P T.bool t78 w fun t79 w =>
 cnd t79 (
 K (.int .i64 0) w) (
 ldv P T.M_string_string t13 w fun t80 w =>
 rng P T.M_string_string t80 w fun t81 w =>
 lp (α := Unit) () w fun again38 x38 d_ w =>
 nxt P t81 false T.x w fun t82 w =>
 ext P t82 0 w fun t83 w =>
 cnd t83 (
 entr P t81 w fun t84 w =>
 ext P t84 0 w fun t85 w =>
 ldv P T.P_hier_Table t2 w fun t87 w =>
 fieldAddr P T.api_Class t3 0 w fun t88 w =>
 ldv P T.string t88 w fun t89 w =>
 callF P F.P_hier_Table_Method [t87, t89, t85] w fun t91 w =>
 ext P t91 0 w fun t92 w =>
 ext P t91 1 w fun t93 w =>
 ext P t91 2 w fun t94 w =>
 alc P T.api_Method w fun t16 w =>
 stv P T.api_Method t16 t93 w fun _u w =>
 una P .not t94 w fun t96 w =>
 gop t96 false w (fieldAddr P T.api_Method t16 3) fun t98 w =>
 gop t96 false w (ldv P T.bool t98) fun t99 w =>
 pick P t96 (.bool true) t99 w fun t100 w =>
 cnd t100 (
 K (.int .i64 67) w) (
 again38 () w)) (
 K (.int .i64 0) w))))))
theorem r_P_hier_Table_members {a0 a1 : Value} {w : World} {K : Value → World → Prop} (h : g_P_hier_Table_members a0 a1 w K) : callF P F.P_hier_Table_members [a0, a1] w K :=
 rule_of [none, none, none, some ([21], [4, 6, 21, 22, 23, 24, 25, 26, 27, 28, 29, 30, 31, 32]), none, none, none, none, none, none, none, none, none, some ([37], [4, 9, 37, 38, 39, 40, 41, 42, 43, 44, 45, 46]), none, none, none, none, none, none, none, none, some ([50], [4, 11, 50, 51, 52, 53, 54, 55, 56, 57, 58, 59, 60, 61, 62, 63, 64, 65, 66, 67, 68, 69, 70]), none, none, none, none, none, none, none, none, none, none, none, none, none, none, none, some ([], [4, 14, 15, 16, 17, 82, 83, 84, 85, 86, 87, 88, 89, 90, 91, 92, 93, 94, 95, 96, 97, 98, 99, 100]), none, none, none, none, none, none, none] Tryz.func45 rfl (by decide) ((by kernel_rfl : g_P_hier_Table_members a0 a1 w K = denC P [none, none, none, some ([21], [4, 6, 21, 22, 23, 24, 25, 26, 27, 28, 29, 30, 31, 32]), none, none, none, none, none, none, none, none, none, some ([37], [4, 9, 37, 38, 39, 40, 41, 42, 43, 44, 45, 46]), none, none, none, none, none, none, none, none, some ([50], [4, 11, 50, 51, 52, 53, 54, 55, 56, 57, 58, 59, 60, 61, 62, 63, 64, 65, 66, 67, 68, 69, 70]), none, none, none, none, none, none, none, none, none, none, none, none, none, none, none, some ([], [4, 14, 15, 16, 17, 82, 83, 84, 85, 86, 87, 88, 89, 90, 91, 92, 93, 94, 95, 96, 97, 98, 99, 100]), none, none, none, none, none, none, none] (Ann.slots [none, none, none, some ([21], [4, 6, 21, 22, 23, 24, 25, 26, 27, 28, 29, 30, 31, 32]), none, none, none, none, none, none, none, none, none, some ([37], [4, 9, 37, 38, 39, 40, 41, 42, 43, 44, 45, 46]), none, none, none, none, none, none, none, none, some ([50], [4, 11, 50, 51, 52, 53, 54, 55, 56, 57, 58, 59, 60, 61, 62, 63, 64, 65, 66, 67, 68, 69, 70]), none, none, none, none, none, none, none, none, none, none, none, none, none, none, none, some ([], [4, 14, 15, 16, 17, 82, 83, 84, 85, 86, 87, 88, 89, 90, 91, 92, 93, 94, 95, 96, 97, 98, 99, 100]), none, none, none, none, none, none, none]) 0 (Tryz.f45.body.getD .skip) (retQ P Tryz.f45 K) (frame0 Tryz.f45 [a0, a1]) w) ▸ h)
def g_hier_New (a0 : Value) (w : World) (K : Value → World → Prop) : Prop :=
 callF P F.hier_Given [] w fun t19 w =>
 mkMap P T.M_string_int none w fun t20 w =>
 bld P T.hier_Table [(0, t19), (1, t20)] w fun t21 w =>
 box P T.hier_Table t21 w fun t22 w =>
 nilCheck P t22 w fun t24 w =>
 fieldAddr P T.hier_Table t24 0 w fun t25 w =>
 ldv P T.S_api_Class t25 w fun t26 w =>
 blt P .len [T.S_api_Class] T.int [false] [t26] w fun t27 w =>
 blt P .len [T.S_api_Class] T.int [false] [a0] w fun t29 w =>
 lp (α := Value) (.int .i64 0) w fun again5 x5 d_ w =>
 bin P .lss T.int (.tmp 30) (.tmp 29) x5 t29 w fun t31 w =>
 cnd t31 (
 indexAddr P T.S_api_Class a0 x5 w fun t33 w =>
 ldv P T.api_Class t33 w fun t34 w =>
 alc P T.api_Class w fun t8 w =>
 stv P T.api_Class t8 t34 w fun _u w =>
 ldv P T.api_Class t8 w fun t35 w =>
 callF P F.class_Check [t35] w fun t36 w =>
 bin P .neq T.api_Errno (.tmp 37) (.const (.int .i64 0)) t36 (.int .i64 0) w fun t38 w =>
 cnd t38 (
 K (.tuple #[(.pointer none), x5, t36]) w) (
 dr w fun Tr Br =>
 dop Tr (fun φ43 => ∀ w : World, Br w → nilCheck P t22 w (dk Tr φ43 w)) fun φ43 =>
 dop Tr (fun φ44 => ∀ t43 : Value, ∀ w : World, Br w → φ43 t43 w → fieldAddr P T.hier_Table t43 0 w (dk Tr φ44 w)) fun φ44 =>
 dop Tr (fun φ45 => ∀ t44 : Value, ∀ w : World, Br w → φ44 t44 w → ldv P T.S_api_Class t44 w (dk Tr φ45 w)) fun φ45 =>
 dop Tr (fun φ46 => ∀ w : World, Br w → ldv P T.api_Class t8 w (dk Tr φ46 w)) fun φ46 =>
 dop Tr (fun φ47 => ∀ t46 : Value, ∀ w : World, Br w → φ46 t46 w → callF P F.hier_cloned [t46] w (dk Tr φ47 w)) fun φ47 =>
 dop Tr (fun φ48 => ∀ t47 : Value, ∀ w : World, Br w → φ47 t47 w → buildSlice P T.S_api_Class 1 [(0, t47)] w (dk Tr φ48 w)) fun φ48 =>
 ∀ t43 : Value, ∀ t44 : Value, ∀ t45 : Value, ∀ t46 : Value, ∀ t47 : Value, ∀ t48 : Value, ∀ w : World, Br w → φ43 t43 w → φ44 t44 w → φ45 t45 w → φ46 t46 w → φ47 t47 w → φ48 t48 w → 
 blt P .append [T.S_api_Class, T.S_api_Class] T.S_api_Class [false, false] [t45, t48] w fun t49 w =>
 nilCheck P t22 w fun t50 w =>
 fieldAddr P T.hier_Table t50 0 w fun t51 w =>
 stv P T.S_api_Class t51 t49 w fun _u w =>
 bin P .add T.int (.tmp 30) (.const (.int .i64 1)) x5 (.int .i64 1) w fun t52 w =>
 again5 t52 w)) (
 nilCheck P t22 w fun t54 w =>
 fieldAddr P T.hier_Table t54 0 w fun t55 w =>
 ldv P T.S_api_Class t55 w fun t56 w =>
 blt P .len [T.S_api_Class] T.int [false] [t56] w fun t57 w =>
 lp (α := Value) (.int .i64 0) w fun again16 x16 d_ w =>
 bin P .lss T.int (.tmp 58) (.tmp 57) x16 t57 w fun t59 w =>
 cnd t59 (
 indexAddr P T.S_api_Class t56 x16 w fun t61 w =>
 ldv P T.api_Class t61 w fun t62 w =>
 alc P T.api_Class w fun t11 w =>
 stv P T.api_Class t11 t62 w fun _u w =>
 fieldAddr P T.api_Class t11 0 w fun t64 w =>
 ldv P T.string t64 w fun t65 w =>
 callF P F.P_hier_Table_has [t22, t65] w fun t66 w =>
 cnd t66 (
 bin P .sub T.int (.tmp 67) (.tmp 68) x16 t27 w fun t69 w =>
 K (.tuple #[(.pointer none), t69, (.int .i64 60)]) w) (
 dr w fun Tr Br =>
 dop Tr (fun φ71 => ∀ w : World, Br w → nilCheck P t22 w (dk Tr φ71 w)) fun φ71 =>
 dop Tr (fun φ72 => ∀ t71 : Value, ∀ w : World, Br w → φ71 t71 w → fieldAddr P T.hier_Table t71 1 w (dk Tr φ72 w)) fun φ72 =>
 dop Tr (fun φ74 => ∀ w : World, Br w → fieldAddr P T.api_Class t11 0 w (dk Tr φ74 w)) fun φ74 =>
 dop Tr (fun φ73 => ∀ t72 : Value, ∀ w : World, Br w → φ72 t72 w → ldv P T.M_string_int t72 w (dk Tr φ73 w)) fun φ73 =>
 dop Tr (fun φ75 => ∀ t74 : Value, ∀ w : World, Br w → φ74 t74 w → ldv P T.string t74 w (dk Tr φ75 w)) fun φ75 =>
 ∀ t71 : Value, ∀ t72 : Value, ∀ t74 : Value, ∀ t73 : Value, ∀ t75 : Value, ∀ w : World, Br w → φ71 t71 w → φ72 t72 w → φ74 t74 w → φ73 t73 w → φ75 t75 w → 
 mapUpdate P T.M_string_int t73 t75 x16 w fun _u w =>
 bin P .add T.int (.tmp 58) (.const (.int .i64 1)) x16 (.int .i64 1) w fun t77 w =>
 again16 t77 w)) (
 nilCheck P t22 w fun t79 w =>
 fieldAddr P T.hier_Table t79 0 w fun t80 w =>
 ldv P T.S_api_Class t80 w fun t81 w =>
 slc P T.S_api_Class t81 (some t27) none none w fun t83 w =>
 blt P .len [T.S_api_Class] T.int [false] [t83] w fun t84 w =>
 lp (α := Value) (.int .i64 0) w fun again26 x26 d_ w =>
 bin P .lss T.int (.tmp 85) (.tmp 84) x26 t84 w fun t86 w =>
 cnd t86 (
 indexAddr P T.S_api_Class t83 x26 w fun t88 w =>
 ldv P T.api_Class t88 w fun t89 w =>
 alc P T.api_Class w fun t13 w =>
 stv P T.api_Class t13 t89 w fun _u w =>
 ldv P T.api_Class t13 w fun t91 w =>
 callF P F.P_hier_Table_uppers [t22, t91] w fun t92 w =>
 bin P .neq T.api_Errno (.tmp 93) (.const (.int .i64 0)) t92 (.int .i64 0) w fun t94 w =>
 cnd t94 (
 K (.tuple #[(.pointer none), x26, t92]) w) (
 bin P .add T.int (.tmp 85) (.const (.int .i64 1)) x26 (.int .i64 1) w fun t97 w =>
 again26 t97 w)) (
 nilCheck P t22 w fun t99 w =>
 fieldAddr P T.hier_Table t99 0 w fun t100 w =>
 ldv P T.S_api_Class t100 w fun t101 w =>
 slc P T.S_api_Class t101 (some t27) none none w fun t103 w =>
 mkFunc P (.func F.P_hier_Table_loops) [t22] [] w fun t105 w =>
 callF P F.slices_IndexFunc_S_api_Class_api_Class [t103, t105] w fun t106 w =>
 bin P .geq T.int (.tmp 107) (.const (.int .i64 0)) t106 (.int .i64 0) w fun t108 w =>
 cnd t108 (
 K (.tuple #[(.pointer none), t106, (.int .i64 63)]) w) (
 callF P F.P_hier_Table_order [t22, t27] w fun t112 w =>
 blt P .len [T.S_int] T.int [false] [t112] w fun t113 w =>
 lp (α := Value) (.int .i64 0) w fun again40 x40 d_ w =>
 bin P .lss T.int (.tmp 114) (.tmp 113) x40 t113 w fun t115 w =>
 cnd t115 (
 indexAddr P T.S_int t112 x40 w fun t116 w =>
 ldv P T.int t116 w fun t117 w =>
 nilCheck P t22 w fun t120 w =>
 fieldAddr P T.hier_Table t120 0 w fun t121 w =>
 ldv P T.S_api_Class t121 w fun t122 w =>
 indexAddr P T.S_api_Class t122 t117 w fun t124 w =>
 ldv P T.api_Class t124 w fun t125 w =>
 callF P F.P_hier_Table_members [t22, t125] w fun t126 w =>
 bin P .neq T.api_Errno (.tmp 127) (.const (.int .i64 0)) t126 (.int .i64 0) w fun t128 w =>
 cnd t128 (
 bin P .sub T.int (.tmp 129) (.tmp 130) t117 t27 w fun t131 w =>
 K (.tuple #[(.pointer none), t131, t126]) w) (
 bin P .add T.int (.tmp 114) (.const (.int .i64 1)) x40 (.int .i64 1) w fun t133 w =>
 again40 t133 w)) (
 K (.tuple #[t22, (.int .i64 0), (.int .i64 0)]) w)))))
theorem r_hier_New {a0 : Value} {w : World} {K : Value → World → Prop} (h : g_hier_New a0 w K) : callF P F.hier_New [a0] w K :=
 rule_of [none, none, none, none, none, some ([30], [2, 3, 4, 7, 8, 9, 30, 31, 32, 33, 34, 35, 36, 37, 38, 39, 40, 41, 42, 43, 44, 45, 46, 47, 48, 49, 50, 51, 52]), none, none, none, none, none, none, none, none, none, none, some ([58], [2, 3, 4, 10, 11, 58, 59, 60, 61, 62, 63, 64, 65, 66, 67, 68, 69, 70, 71, 72, 73, 74, 75, 76, 77]), none, none, none, none, none, none, none, none, none, some ([85], [2, 3, 4, 12, 13, 14, 85, 86, 87, 88, 89, 90, 91, 92, 93, 94, 95, 96, 97]), none, none, none, none, none, none, none, none, none, none, none, none, none, some ([114], [2, 3, 4, 17, 18, 114, 115, 116, 117, 118, 119, 120, 121, 122, 123, 124, 125, 126, 127, 128, 129, 130, 131, 132, 133]), none, none, none, none, none, none, none, none] Tryz.func14 rfl (by decide) ((by kernel_rfl : g_hier_New a0 w K = denC P [none, none, none, none, none, some ([30], [2, 3, 4, 7, 8, 9, 30, 31, 32, 33, 34, 35, 36, 37, 38, 39, 40, 41, 42, 43, 44, 45, 46, 47, 48, 49, 50, 51, 52]), none, none, none, none, none, none, none, none, none, none, some ([58], [2, 3, 4, 10, 11, 58, 59, 60, 61, 62, 63, 64, 65, 66, 67, 68, 69, 70, 71, 72, 73, 74, 75, 76, 77]), none, none, none, none, none, none, none, none, none, some ([85], [2, 3, 4, 12, 13, 14, 85, 86, 87, 88, 89, 90, 91, 92, 93, 94, 95, 96, 97]), none, none, none, none, none, none, none, none, none, none, none, none, none, some ([114], [2, 3, 4, 17, 18, 114, 115, 116, 117, 118, 119, 120, 121, 122, 123, 124, 125, 126, 127, 128, 129, 130, 131, 132, 133]), none, none, none, none, none, none, none, none] (Ann.slots [none, none, none, none, none, some ([30], [2, 3, 4, 7, 8, 9, 30, 31, 32, 33, 34, 35, 36, 37, 38, 39, 40, 41, 42, 43, 44, 45, 46, 47, 48, 49, 50, 51, 52]), none, none, none, none, none, none, none, none, none, none, some ([58], [2, 3, 4, 10, 11, 58, 59, 60, 61, 62, 63, 64, 65, 66, 67, 68, 69, 70, 71, 72, 73, 74, 75, 76, 77]), none, none, none, none, none, none, none, none, none, some ([85], [2, 3, 4, 12, 13, 14, 85, 86, 87, 88, 89, 90, 91, 92, 93, 94, 95, 96, 97]), none, none, none, none, none, none, none, none, none, none, none, none, none, some ([114], [2, 3, 4, 17, 18, 114, 115, 116, 117, 118, 119, 120, 121, 122, 123, 124, 125, 126, 127, 128, 129, 130, 131, 132, 133]), none, none, none, none, none, none, none, none]) 0 (Tryz.f14.body.getD .skip) (retQ P Tryz.f14 K) (frame0 Tryz.f14 [a0]) w) ▸ h)
def g_stringslite_CutSuffix (a0 a1 : Value) (w : World) (K : Value → World → Prop) : Prop :=
 callF P F.stringslite_HasSuffix [a0, a1] w fun t8 w =>
 una P .not t8 w fun t9 w =>
 cnd t9 (
 K (.tuple #[a0, (.bool false)]) w) (
 blt P .len [T.string] T.int [false] [a0] w fun t13 w =>
 blt P .len [T.string] T.int [false] [a1] w fun t15 w =>
 bin P .sub T.int (.tmp 13) (.tmp 15) t13 t15 w fun t16 w =>
 slc P T.string a0 none (some t16) none w fun t17 w =>
 K (.tuple #[t17, (.bool true)]) w)
theorem r_stringslite_CutSuffix {a0 a1 : Value} {w : World} {K : Value → World → Prop} (h : g_stringslite_CutSuffix a0 a1 w K) : callF P F.stringslite_CutSuffix [a0, a1] w K :=
 rule_of [none, none, none, none, none] Tryz.func128 rfl (by decide) ((by kernel_rfl : g_stringslite_CutSuffix a0 a1 w K = denC P [none, none, none, none, none] (Ann.slots [none, none, none, none, none]) 0 (Tryz.f128.body.getD .skip) (retQ P Tryz.f128 K) (frame0 Tryz.f128 [a0, a1]) w) ▸ h)
def g_strings_CutSuffix (a0 a1 : Value) (w : World) (K : Value → World → Prop) : Prop :=
 callF P F.stringslite_CutSuffix [a0, a1] w fun t8 w =>
 ext P t8 0 w fun t9 w =>
 ext P t8 1 w fun t10 w =>
 K (.tuple #[t9, t10]) w
theorem r_strings_CutSuffix {a0 a1 : Value} {w : World} {K : Value → World → Prop} (h : g_strings_CutSuffix a0 a1 w K) : callF P F.strings_CutSuffix [a0, a1] w K :=
 rule_of [none, none] Tryz.func92 rfl (by decide) ((by kernel_rfl : g_strings_CutSuffix a0 a1 w K = denC P [none, none] (Ann.slots [none, none]) 0 (Tryz.f92.body.getD .skip) (retQ P Tryz.f92 K) (frame0 Tryz.f92 [a0, a1]) w) ▸ h)
def g_kind_Elem (a0 : Value) (w : World) (K : Value → World → Prop) : Prop :=
 callF P F.strings_CutSuffix [a0, (.string ⟨#[91, 93]⟩)] w fun t7 w =>
 ext P t7 0 w fun t8 w =>
 ext P t7 1 w fun t9 w =>
 una P .not t9 w fun t11 w =>
 gop t11 false w (fun w J => J a0 w) fun t13 w =>
 gop t11 false w (callF P F.kind_Right [t13]) fun t14 w =>
 gop t11 false w (una P .not t14) fun t15 w =>
 pick P t11 (.bool true) t15 w fun t16 w =>
 cnd t16 (
 K (.string ⟨#[]⟩) w) (
 K t8 w)
theorem r_kind_Elem {a0 : Value} {w : World} {K : Value → World → Prop} (h : g_kind_Elem a0 w K) : callF P F.kind_Elem [a0] w K :=
 rule_of [none, none, none, none, none, none] Tryz.func53 rfl (by decide) ((by kernel_rfl : g_kind_Elem a0 w K = denC P [none, none, none, none, none, none] (Ann.slots [none, none, none, none, none, none]) 0 (Tryz.f53.body.getD .skip) (retQ P Tryz.f53 K) (frame0 Tryz.f53 [a0]) w) ▸ h)
def g_P_hier_Table_Sub_1 (a0 a1 : Value) (w : World) (K : Value → World → Prop) : Prop :=
 box P T.api_Class a0 w fun v_c_2 w =>
 fieldAddr P T.api_Class v_c_2 0 w fun t4 w =>
 ldv P T.string t4 w fun t5 w =>
 ldv P T.string a1 w fun t6 w =>
 bin P .eql T.string (.tmp 5) (.tmp 6) t5 t6 w fun t7 w =>
 K t7 w
theorem r_P_hier_Table_Sub_1 {a0 a1 : Value} {w : World} {K : Value → World → Prop} (h : g_P_hier_Table_Sub_1 a0 a1 w K) : callF P F.P_hier_Table_Sub_1 [a0, a1] w K :=
 rule_of [none, none] Tryz.func55 rfl (by decide) ((by kernel_rfl : g_P_hier_Table_Sub_1 a0 a1 w K = denC P [none, none] (Ann.slots [none, none]) 0 (Tryz.f55.body.getD .skip) (retQ P Tryz.f55 K) (frame0 Tryz.f55 [a0, a1]) w) ▸ h)
def g_P_hier_Table_Sub (a0 a1 a2 : Value) (w : World) (K : Value → World → Prop) : Prop :=
 box P T.string a2 w fun v_b_5 w =>
 callF P F.P_hier_Table_Kind [a0, a1] w fun t10 w =>
 una P .not t10 w fun t11 w =>
 gop t11 false w (fun w J => J a0 w) fun t13 w =>
 gop t11 false w (ldv P T.string v_b_5) fun t14 w =>
 gop t11 false w (callF P F.P_hier_Table_Kind [t13, t14]) fun t15 w =>
 gop t11 false w (una P .not t15) fun t16 w =>
 pick P t11 (.bool true) t16 w fun t17 w =>
 cnd t17 (
 K (.bool false) w) (
 ldv P T.string v_b_5 w fun t20 w =>
 bin P .eql T.string (.tmp 19) (.tmp 20) a1 t20 w fun t21 w =>
 cnd t21 (
 K (.bool true) w) (
 callF P F.kind_Plain [a1] w fun t24 w =>
 gop t24 false w (ldv P T.string v_b_5) fun t26 w =>
 gop t24 false w (callF P F.kind_Plain [t26]) fun t27 w =>
 pick P t24 (.bool true) t27 w fun t28 w =>
 cnd t28 (
 K (.bool false) w) (
 bin P .eql T.string (.tmp 30) (.const (.string ⟨#[110, 117, 108, 108]⟩)) a1 (.string ⟨#[110, 117, 108, 108]⟩) w fun t31 w =>
 cnd t31 (
 K (.bool true) w) (
 callF P F.kind_Elem [a1] w fun t34 w =>
 bin P .neq T.string (.tmp 34) (.const (.string ⟨#[]⟩)) t34 (.string ⟨#[]⟩) w fun t35 w =>
 cnd t35 (
 ldv P T.string v_b_5 w fun t36 w =>
 bin P .eql T.string (.tmp 36) (.const (.string ⟨#[79, 98, 106, 101, 99, 116]⟩)) t36 (.string ⟨#[79, 98, 106, 101, 99, 116]⟩) w fun t37 w =>
 K t37 w) (
 mkFunc P (.func F.P_hier_Table_Sub_1) [] [v_b_5] w fun t40 w =>
 callF P F.P_hier_Table_above [a0, a1, t40] w fun t41 w =>
 K t41 w)))))
theorem r_P_hier_Table_Sub {a0 a1 a2 : Value} {w : World} {K : Value → World → Prop} (h : g_P_hier_Table_Sub a0 a1 a2 w K) : callF P F.P_hier_Table_Sub [a0, a1, a2] w K :=
 rule_of [none, none, none, none, none, none, none, none, none, none, none, none, none] Tryz.func16 rfl (by decide) ((by kernel_rfl : g_P_hier_Table_Sub a0 a1 a2 w K = denC P [none, none, none, none, none, none, none, none, none, none, none, none, none] (Ann.slots [none, none, none, none, none, none, none, none, none, none, none, none, none]) 0 (Tryz.f16.body.getD .skip) (retQ P Tryz.f16 K) (frame0 Tryz.f16 [a0, a1, a2]) w) ▸ h)
def g_P_hier_Table_Join (a0 a1 a2 : Value) (w : World) (K : Value → World → Prop) : Prop :=
 callF P F.P_hier_Table_Sub [a0, a1, a2] w fun t12 w =>
 cnd t12 (
 K a2 w) (
 callF P F.P_hier_Table_Sub [a0, a2, a1] w fun t18 w =>
 cnd t18 (
 K a1 w) (
 callF P F.P_hier_Table_Kind [a0, a1] w fun t23 w =>
 una P .not t23 w fun t24 w =>
 gop t24 false w (fun w J => J a0 w) fun t26 w =>
 gop t24 false w (fun w J => J a2 w) fun t27 w =>
 gop t24 false w (callF P F.P_hier_Table_Kind [t26, t27]) fun t28 w =>
 gop t24 false w (una P .not t28) fun t29 w =>
 pick P t24 (.bool true) t29 w fun t30 w =>
 gop t30 false w (fun w J => J a1 w) fun t32 w =>
 gop t30 false w (callF P F.kind_Plain [t32]) fun t33 w =>
 pick P t30 (.bool true) t33 w fun t34 w =>
 gop t34 false w (fun w J => J a2 w) fun t36 w =>
 gop t34 false w (callF P F.kind_Plain [t36]) fun t37 w =>
 pick P t34 (.bool true) t37 w fun t38 w =>
 cnd t38 (
 K (.string ⟨#[]⟩) w) (
 lp (α := Value) a1 w fun again10 x10 d_ w =>
 callF P F.P_hier_Table_has [a0, x10] w fun t42 w =>
 cnd t42 (
 callF P F.P_hier_Table_Sub [a0, a2, x10] w fun t50 w =>
 cnd t50 (
 K x10 w) (
 callF P F.P_hier_Table_class [a0, x10] w fun t45 w =>
 fld P T.api_Class t45 1 w fun t46 w =>
 again10 t46 w)) (
 K (.string ⟨#[79, 98, 106, 101, 99, 116]⟩) w))))
theorem r_P_hier_Table_Join {a0 a1 a2 : Value} {w : World} {K : Value → World → Prop} (h : g_P_hier_Table_Join a0 a1 a2 w K) : callF P F.P_hier_Table_Join [a0, a1, a2] w K :=
 rule_of [none, none, none, none, none, none, none, none, none, none, some ([7], [6, 7, 40, 41, 42, 43, 44, 45, 46, 47, 48, 49, 50, 51]), none, none, none, none, none, none] Tryz.func20 rfl (by decide) ((by kernel_rfl : g_P_hier_Table_Join a0 a1 a2 w K = denC P [none, none, none, none, none, none, none, none, none, none, some ([7], [6, 7, 40, 41, 42, 43, 44, 45, 46, 47, 48, 49, 50, 51]), none, none, none, none, none, none] (Ann.slots [none, none, none, none, none, none, none, none, none, none, some ([7], [6, 7, 40, 41, 42, 43, 44, 45, 46, 47, 48, 49, 50, 51]), none, none, none, none, none, none]) 0 (Tryz.f20.body.getD .skip) (retQ P Tryz.f20 K) (frame0 Tryz.f20 [a0, a1, a2]) w) ▸ h)
def g_P_hier_Table_Print (a0 a1 : Value) (w : World) (K : Value → World → Prop) : Prop :=
 callF P F.P_hier_Table_has [a0, a1] w fun t11 w =>
 una P .not t11 w fun t12 w =>
 gop t12 false w (fun w J => J a1 w) fun t14 w =>
 gop t12 false w (bin P .eql T.string (.tmp 14) (.const (.string ⟨#[79, 98, 106, 101, 99, 116]⟩)) t14 (.string ⟨#[79, 98, 106, 101, 99, 116]⟩)) fun t15 w =>
 pick P t12 (.bool true) t15 w fun t16 w =>
 cnd t16 (
 K (.string ⟨#[]⟩) w) (
 callF P F.P_hier_Table_class [a0, a1] w fun t19 w =>
 alc P T.api_Class w fun v_c_5 w =>
 stv P T.api_Class v_c_5 t19 w fun _u w =>
 bin P .add T.string (.tmp 20) (.const (.string ⟨#[40]⟩)) a1 (.string ⟨#[40]⟩) w fun t21 w =>
 fieldAddr P T.api_Class v_c_5 1 w fun t23 w =>
 ldv P T.string t23 w fun t24 w =>
 callF P F.P_hier_Table_Print [a0, t24] w fun t25 w =>
 bin P .add T.string (.tmp 21) (.tmp 25) t21 t25 w fun t26 w =>
 bin P .add T.string (.tmp 26) (.const (.string ⟨#[41]⟩)) t26 (.string ⟨#[41]⟩) w fun t27 w =>
 fieldAddr P T.api_Class v_c_5 6 w fun t28 w =>
 ldv P T.S_api_Field t28 w fun t29 w =>
 blt P .len [T.S_api_Field] T.int [false] [t29] w fun t30 w =>
 lp (α := Value × Value) (t27, (.int .i64 0)) w fun again8 x8 d_ w =>
 bin P .lss T.int (.tmp 31) (.tmp 30) x8.2 t30 w fun t32 w =>
 cnd t32 (
 jn (α := Value) w (fun J11 w =>
 indexAddr P T.S_api_Field t29 x8.2 w fun t33 w =>
 ldv P T.api_Field t33 w fun t34 w =>
 alc P T.api_Field w fun v_f_8 w =>
 stv P T.api_Field v_f_8 t34 w fun _u w =>
 fieldAddr P T.api_Field v_f_8 2 w fun t35 w =>
 ldv P T.bool t35 w fun t36 w =>
 una P .not t36 w fun t37 w =>
 cnd t37 (
 fieldAddr P T.api_Field v_f_8 0 w fun t39 w =>
 ldv P T.string t39 w fun t40 w =>
 bin P .add T.string (.const (.string ⟨#[32]⟩)) (.tmp 40) (.string ⟨#[32]⟩) t40 w fun t41 w =>
 bin P .add T.string (.tmp 41) (.const (.string ⟨#[58]⟩)) t41 (.string ⟨#[58]⟩) w fun t42 w =>
 fieldAddr P T.api_Field v_f_8 1 w fun t43 w =>
 ldv P T.string t43 w fun t44 w =>
 bin P .add T.string (.tmp 42) (.tmp 44) t42 t44 w fun t45 w =>
 bin P .add T.string (.tmp 38) (.tmp 45) x8.1 t45 w fun t46 w =>
 J11 t46 w) (
 J11 x8.1 w)) fun z11 d_ w =>
 bin P .add T.int (.tmp 31) (.const (.int .i64 1)) x8.2 (.int .i64 1) w fun t47 w =>
 again8 (z11, t47) w) (
 bin P .add T.string (.tmp 48) (.const (.string ⟨#[46]⟩)) x8.1 (.string ⟨#[46]⟩) w fun t49 w =>
 K t49 w))
theorem r_P_hier_Table_Print {a0 a1 : Value} {w : World} {K : Value → World → Prop} (h : g_P_hier_Table_Print a0 a1 w K) : callF P F.P_hier_Table_Print [a0, a1] w K :=
 rule_of [none, none, none, none, none, none, none, none, some ([6, 31], [6, 8, 31, 32, 33, 34, 35, 36, 37, 38, 39, 40, 41, 42, 43, 44, 45, 46, 47]), none, none, some ([6], [6, 8, 33, 34, 35, 36, 37, 38, 39, 40, 41, 42, 43, 44, 45, 46]), none, none, none] Tryz.func31 rfl (by decide) ((by kernel_rfl : g_P_hier_Table_Print a0 a1 w K = denC P [none, none, none, none, none, none, none, none, some ([6, 31], [6, 8, 31, 32, 33, 34, 35, 36, 37, 38, 39, 40, 41, 42, 43, 44, 45, 46, 47]), none, none, some ([6], [6, 8, 33, 34, 35, 36, 37, 38, 39, 40, 41, 42, 43, 44, 45, 46]), none, none, none] (Ann.slots [none, none, none, none, none, none, none, none, some ([6, 31], [6, 8, 31, 32, 33, 34, 35, 36, 37, 38, 39, 40, 41, 42, 43, 44, 45, 46, 47]), none, none, some ([6], [6, 8, 33, 34, 35, 36, 37, 38, 39, 40, 41, 42, 43, 44, 45, 46]), none, none, none]) 0 (Tryz.f31.body.getD .skip) (retQ P Tryz.f31 K) (frame0 Tryz.f31 [a0, a1]) w) ▸ h)
def g_P_hier_Table_Objects (a0 a1 : Value) (w : World) (K : Value → World → Prop) : Prop :=
 callF P F.P_hier_Table_has [a0, a1] w fun t7 w =>
 gop t7 true w (fun w J => J a0 w) fun t9 w =>
 gop t7 true w (fun w J => J a1 w) fun t10 w =>
 gop t7 true w (callF P F.P_hier_Table_class [t9, t10]) fun t11 w =>
 gop t7 true w (fld P T.api_Class t11 4) fun t12 w =>
 gop t7 true w (una P .not t12) fun t13 w =>
 pick P t7 t13 (.bool false) w fun t14 w =>
 K t14 w
theorem r_P_hier_Table_Objects {a0 a1 : Value} {w : World} {K : Value → World → Prop} (h : g_P_hier_Table_Objects a0 a1 w K) : callF P F.P_hier_Table_Objects [a0, a1] w K :=
 rule_of [none, none] Tryz.func34 rfl (by decide) ((by kernel_rfl : g_P_hier_Table_Objects a0 a1 w K = denC P [none, none] (Ann.slots [none, none]) 0 (Tryz.f34.body.getD .skip) (retQ P Tryz.f34 K) (frame0 Tryz.f34 [a0, a1]) w) ▸ h)
def g_squinchlaw06_three (w : World) (K : Value → World → Prop) : Prop :=
 bld P T.api_Field [(0, (.string ⟨#[120]⟩)), (1, (.string ⟨#[105, 110, 116]⟩))] w fun t1 w =>
 bld P T.api_Field [(0, (.string ⟨#[116]⟩)), (1, (.string ⟨#[116, 101, 120, 116]⟩)), (2, (.bool true))] w fun t2 w =>
 buildSlice P T.S_api_Field 2 [(0, t1), (1, t2)] w fun t3 w =>
 bld P T.api_Class [(0, (.string ⟨#[65]⟩)), (1, (.string ⟨#[79, 98, 106, 101, 99, 116]⟩)), (6, t3)] w fun t4 w =>
 bld P T.api_Class [(0, (.string ⟨#[66]⟩)), (1, (.string ⟨#[65]⟩))] w fun t5 w =>
 bld P T.api_Class [(0, (.string ⟨#[67]⟩)), (1, (.string ⟨#[65]⟩))] w fun t6 w =>
 buildSlice P T.S_api_Class 3 [(0, t4), (1, t5), (2, t6)] w fun t7 w =>
 K t7 w
theorem r_squinchlaw06_three {w : World} {K : Value → World → Prop} (h : g_squinchlaw06_three  w K) : callF P F.squinchlaw06_three [] w K :=
 rule_of [none, none] Tryz.func37 rfl (by decide) ((by kernel_rfl : g_squinchlaw06_three  w K = denC P [none, none] (Ann.slots [none, none]) 0 (Tryz.f37.body.getD .skip) (retQ P Tryz.f37 K) (frame0 Tryz.f37 []) w) ▸ h)
def g_squinchlaw06_awake (w : World) (K : Value → World → Prop) : Prop :=
 callF P F.squinchlaw06_three [] w fun t5 w =>
 callF P F.hier_New [t5] w fun t6 w =>
 ext P t6 0 w fun t7 w =>
 ext P t6 1 w fun t8 w =>
 ext P t6 2 w fun t9 w =>
 bin P .eql T.P_hier_Table (.tmp 10) (.const (.pointer none)) t7 (.pointer none) w fun t11 w =>
 gop t11 false w (fun w J => J t8 w) fun t13 w =>
 gop t11 false w (bin P .neq T.int (.tmp 13) (.const (.int .i64 0)) t13 (.int .i64 0)) fun t14 w =>
 pick P t11 (.bool true) t14 w fun t15 w =>
 gop t15 false w (fun w J => J t9 w) fun t17 w =>
 gop t15 false w (bin P .neq T.api_Errno (.tmp 17) (.const (.int .i64 0)) t17 (.int .i64 0)) fun t18 w =>
 pick P t15 (.bool true) t18 w fun t19 w =>
 cnd t19 (
 K (.bool false) w) (
 callF P F.P_hier_Table_Join [t7, (.string ⟨#[66]⟩), (.string ⟨#[67]⟩)] w fun t21 w =>
 bin P .eql T.string (.tmp 21) (.const (.string ⟨#[65]⟩)) t21 (.string ⟨#[65]⟩) w fun t22 w =>
 gop t22 true w (fun w J => J t7 w) fun t24 w =>
 gop t22 true w (callF P F.P_hier_Table_Join [t24, (.string ⟨#[66]⟩), (.string ⟨#[66, 91, 93]⟩)]) fun t25 w =>
 gop t22 true w (bin P .eql T.string (.tmp 25) (.const (.string ⟨#[79, 98, 106, 101, 99, 116]⟩)) t25 (.string ⟨#[79, 98, 106, 101, 99, 116]⟩)) fun t26 w =>
 pick P t22 t26 (.bool false) w fun t27 w =>
 gop t27 true w (fun w J => J t7 w) fun t29 w =>
 gop t27 true w (callF P F.P_hier_Table_Join [t29, (.string ⟨#[105, 110, 116]⟩), (.string ⟨#[65]⟩)]) fun t30 w =>
 gop t27 true w (bin P .eql T.string (.tmp 30) (.const (.string ⟨#[]⟩)) t30 (.string ⟨#[]⟩)) fun t31 w =>
 pick P t27 t31 (.bool false) w fun t32 w =>
 gop t32 true w (fun w J => J t7 w) fun t34 w =>
 gop t32 true w (callF P F.P_hier_Table_Print [t34, (.string ⟨#[65]⟩)]) fun t35 w =>
 gop t32 true w (bin P .eql T.string (.tmp 35) (.const (.string ⟨#[65, 40, 41, 32, 120, 58, 105, 110, 116, 46]⟩)) t35 (.string ⟨#[65, 40, 41, 32, 120, 58, 105, 110, 116, 46]⟩)) fun t36 w =>
 pick P t32 t36 (.bool false) w fun t37 w =>
 gop t37 true w (fun w J => J t7 w) fun t39 w =>
 gop t37 true w (callF P F.P_hier_Table_Print [t39, (.string ⟨#[66]⟩)]) fun t40 w =>
 gop t37 true w (bin P .eql T.string (.tmp 40) (.const (.string ⟨#[66, 40, 65, 40, 41, 32, 120, 58, 105, 110, 116, 46, 41, 46]⟩)) t40 (.string ⟨#[66, 40, 65, 40, 41, 32, 120, 58, 105, 110, 116, 46, 41, 46]⟩)) fun t41 w =>
 pick P t37 t41 (.bool false) w fun t42 w =>
 gop t42 true w (fun w J => J t7 w) fun t44 w =>
 gop t42 true w (callF P F.P_hier_Table_Sub [t44, (.string ⟨#[66]⟩), (.string ⟨#[65]⟩)]) fun t45 w =>
 pick P t42 t45 (.bool false) w fun t46 w =>
 gop t46 true w (fun w J => J t7 w) fun t48 w =>
 gop t46 true w (callF P F.P_hier_Table_Place [t48, (.string ⟨#[66]⟩), (.string ⟨#[116]⟩)]) fun t49 w =>
 gop t46 true w (bin P .eql T.int (.tmp 49) (.const (.int .i64 1)) t49 (.int .i64 1)) fun t50 w =>
 pick P t46 t50 (.bool false) w fun t51 w =>
 gop t51 true w (fun w J => J t7 w) fun t53 w =>
 gop t51 true w (callF P F.P_hier_Table_Objects [t53, (.string ⟨#[66]⟩)]) fun t54 w =>
 pick P t51 t54 (.bool false) w fun t55 w =>
 gop t55 true w (callF P F.hier_Given []) fun t57 w =>
 gop t55 true w (blt P .len [T.S_api_Class] T.int [false] [t57]) fun t58 w =>
 gop t55 true w (bin P .eql T.int (.tmp 58) (.const (.int .i64 8)) t58 (.int .i64 8)) fun t59 w =>
 pick P t55 t59 (.bool false) w fun t60 w =>
 K t60 w)
theorem r_squinchlaw06_awake {w : World} {K : Value → World → Prop} (h : g_squinchlaw06_awake  w K) : callF P F.squinchlaw06_awake [] w K :=
 rule_of [none, none, none, none, none, none] Tryz.func13 rfl (by decide) ((by kernel_rfl : g_squinchlaw06_awake  w K = denC P [none, none, none, none, none, none] (Ann.slots [none, none, none, none, none, none]) 0 (Tryz.f13.body.getD .skip) (retQ P Tryz.f13 K) (frame0 Tryz.f13 []) w) ▸ h)
def g_squinchref06_Given (w : World) (K : Value → World → Prop) : Prop :=
 bld P T.api_Class [(0, (.string ⟨#[79, 98, 106, 101, 99, 116]⟩))] w fun t4 w =>
 bld P T.api_Field [(0, (.string ⟨#[119, 104, 97, 116]⟩)), (1, (.string ⟨#[116, 101, 120, 116]⟩))] w fun t5 w =>
 buildSlice P T.S_api_Field 1 [(0, t5)] w fun t6 w =>
 bld P T.api_Class [(0, (.string ⟨#[70, 97, 117, 108, 116]⟩)), (1, (.string ⟨#[79, 98, 106, 101, 99, 116]⟩)), (6, t6)] w fun t7 w =>
 buildSlice P T.S_api_Class 2 [(0, t4), (1, t7)] w fun t8 w =>
 buildSlice P T.S_string 6 [(0, (.string ⟨#[78, 117, 108, 108, 70, 97, 117, 108, 116]⟩)), (1, (.string ⟨#[73, 110, 100, 101, 120, 70, 97, 117, 108, 116]⟩)), (2, (.string ⟨#[67, 97, 115, 116, 70, 97, 117, 108, 116]⟩)), (3, (.string ⟨#[90, 101, 114, 111, 70, 97, 117, 108, 116]⟩)), (4, (.string ⟨#[82, 111, 111, 109, 70, 97, 117, 108, 116]⟩)), (5, (.string ⟨#[67, 97, 108, 108, 70, 97, 117, 108, 116]⟩))] w fun t9 w =>
 lp (α := Value × Value) (t8, (.int .i64 0)) w fun again5 x5 d_ w =>
 blt P .len [T.S_string] T.int [false] [t9] w fun t12 w =>
 bin P .lss T.int (.tmp 10) (.tmp 12) x5.2 t12 w fun t13 w =>
 cnd t13 (
 indexAddr P T.S_string t9 x5.2 w fun t19 w =>
 ldv P T.string t19 w fun t20 w =>
 bld P T.api_Class [(0, t20), (1, (.string ⟨#[70, 97, 117, 108, 116]⟩)), (5, (.bool true))] w fun t21 w =>
 buildSlice P T.S_api_Class 1 [(0, t21)] w fun t22 w =>
 blt P .append [T.S_api_Class, T.S_api_Class] T.S_api_Class [false, false] [x5.1, t22] w fun t23 w =>
 bin P .add T.int (.tmp 14) (.const (.int .i64 1)) x5.2 (.int .i64 1) w fun t15 w =>
 again5 (t23, t15) w) (
 K x5.1 w)
theorem r_squinchref06_Given {w : World} {K : Value → World → Prop} (h : g_squinchref06_Given  w K) : callF P F.squinchref06_Given [] w K :=
 rule_of [none, none, none, none, none, some ([1, 3], [1, 3, 10, 11, 12, 13, 14, 15, 16, 17, 18, 19, 20, 21, 22, 23]), none, none, none, none] Tryz.func30 rfl (by decide) ((by kernel_rfl : g_squinchref06_Given  w K = denC P [none, none, none, none, none, some ([1, 3], [1, 3, 10, 11, 12, 13, 14, 15, 16, 17, 18, 19, 20, 21, 22, 23]), none, none, none, none] (Ann.slots [none, none, none, none, none, some ([1, 3], [1, 3, 10, 11, 12, 13, 14, 15, 16, 17, 18, 19, 20, 21, 22, 23]), none, none, none, none]) 0 (Tryz.f30.body.getD .skip) (retQ P Tryz.f30 K) (frame0 Tryz.f30 []) w) ▸ h)
end Go.Proofs.YtdnfaboigajkhaaGreatDoor

set_option linter.unusedVariables false
set_option maxRecDepth 100000
namespace Go.Proofs.YtdnfaboigajkhaaGreatDoor
open Go.Emb
end Go.Proofs.YtdnfaboigajkhaaGreatDoor

set_option linter.unusedVariables false
set_option maxRecDepth 100000
namespace Go.Proofs.YtdnfaboigajkhaaGreatDoor
open Go.Emb
end Go.Proofs.YtdnfaboigajkhaaGreatDoor

set_option linter.unusedVariables false
set_option maxRecDepth 100000
namespace Go.Proofs.YtdnfaboigajkhaaGreatDoor
open Go.Emb
def g_squinchref05_sameTexts (a0 a1 : Value) (w : World) (K : Value → World → Prop) : Prop :=
 blt P .len [T.S_string] T.int [false] [a0] w fun t7 w =>
 blt P .len [T.S_string] T.int [false] [a1] w fun t9 w =>
 bin P .neq T.int (.tmp 7) (.tmp 9) t7 t9 w fun t10 w =>
 cnd t10 (
 K (.bool false) w) (
 lp (α := Value) (.int .i64 0) w fun again6 x6 d_ w =>
 blt P .len [T.S_string] T.int [false] [a0] w fun t13 w =>
 bin P .lss T.int (.tmp 11) (.tmp 13) x6 t13 w fun t14 w =>
 cnd t14 (
 dr w fun Tr Br =>
 dop Tr (fun φ19 => ∀ w : World, Br w → indexAddr P T.S_string a0 x6 w (dk Tr φ19 w)) fun φ19 =>
 dop Tr (fun φ23 => ∀ w : World, Br w → indexAddr P T.S_string a1 x6 w (dk Tr φ23 w)) fun φ23 =>
 dop Tr (fun φ20 => ∀ t19 : Value, ∀ w : World, Br w → φ19 t19 w → ldv P T.string t19 w (dk Tr φ20 w)) fun φ20 =>
 dop Tr (fun φ24 => ∀ t23 : Value, ∀ w : World, Br w → φ23 t23 w → ldv P T.string t23 w (dk Tr φ24 w)) fun φ24 =>
 ∀ t19 : Value, ∀ t23 : Value, ∀ t20 : Value, ∀ t24 : Value, ∀ w : World, Br w → φ19 t19 w → φ23 t23 w → φ20 t20 w → φ24 t24 w → 
 bin P .neq T.string (.tmp 20) (.tmp 24) t20 t24 w fun t25 w =>
 cnd t25 (
 K (.bool false) w) (
 bin P .add T.int (.tmp 15) (.const (.int .i64 1)) x6 (.int .i64 1) w fun t16 w =>
 again6 t16 w)) (
 K (.bool true) w))
theorem r_squinchref05_sameTexts {a0 a1 : Value} {w : World} {K : Value → World → Prop} (h : g_squinchref05_sameTexts a0 a1 w K) : callF P F.squinchref05_sameTexts [a0, a1] w K :=
 rule_of [none, none, none, none, none, none, some ([5], [4, 5, 11, 12, 13, 14, 15, 16, 17, 18, 19, 20, 21, 22, 23, 24, 25]), none, none, none, none, none, none] Tryz.func70 rfl (by decide) ((by kernel_rfl : g_squinchref05_sameTexts a0 a1 w K = denC P [none, none, none, none, none, none, some ([5], [4, 5, 11, 12, 13, 14, 15, 16, 17, 18, 19, 20, 21, 22, 23, 24, 25]), none, none, none, none, none, none] (Ann.slots [none, none, none, none, none, none, some ([5], [4, 5, 11, 12, 13, 14, 15, 16, 17, 18, 19, 20, 21, 22, 23, 24, 25]), none, none, none, none, none, none]) 0 (Tryz.f70.body.getD .skip) (retQ P Tryz.f70 K) (frame0 Tryz.f70 [a0, a1]) w) ▸ h)
def g_squinchref04_Same (a0 a1 : Value) (w : World) (K : Value → World → Prop) : Prop :=
 blt P .len [T.S_api_Instr] T.int [false] [a0] w fun t7 w =>
 blt P .len [T.S_api_Instr] T.int [false] [a1] w fun t9 w =>
 bin P .neq T.int (.tmp 7) (.tmp 9) t7 t9 w fun t10 w =>
 cnd t10 (
 K (.bool false) w) (
 lp (α := Value) (.int .i64 0) w fun again6 x6 d_ w =>
 blt P .len [T.S_api_Instr] T.int [false] [a0] w fun t13 w =>
 bin P .lss T.int (.tmp 11) (.tmp 13) x6 t13 w fun t14 w =>
 cnd t14 (
 dr w fun Tr Br =>
 dop Tr (fun φ19 => ∀ w : World, Br w → indexAddr P T.S_api_Instr a0 x6 w (dk Tr φ19 w)) fun φ19 =>
 dop Tr (fun φ23 => ∀ w : World, Br w → indexAddr P T.S_api_Instr a1 x6 w (dk Tr φ23 w)) fun φ23 =>
 dop Tr (fun φ20 => ∀ t19 : Value, ∀ w : World, Br w → φ19 t19 w → ldv P T.api_Instr t19 w (dk Tr φ20 w)) fun φ20 =>
 dop Tr (fun φ24 => ∀ t23 : Value, ∀ w : World, Br w → φ23 t23 w → ldv P T.api_Instr t23 w (dk Tr φ24 w)) fun φ24 =>
 ∀ t19 : Value, ∀ t23 : Value, ∀ t20 : Value, ∀ t24 : Value, ∀ w : World, Br w → φ19 t19 w → φ23 t23 w → φ20 t20 w → φ24 t24 w → 
 bin P .neq T.api_Instr (.tmp 20) (.tmp 24) t20 t24 w fun t25 w =>
 cnd t25 (
 K (.bool false) w) (
 bin P .add T.int (.tmp 15) (.const (.int .i64 1)) x6 (.int .i64 1) w fun t16 w =>
 again6 t16 w)) (
 K (.bool true) w))
theorem r_squinchref04_Same {a0 a1 : Value} {w : World} {K : Value → World → Prop} (h : g_squinchref04_Same a0 a1 w K) : callF P F.squinchref04_Same [a0, a1] w K :=
 rule_of [none, none, none, none, none, none, some ([5], [4, 5, 11, 12, 13, 14, 15, 16, 17, 18, 19, 20, 21, 22, 23, 24, 25]), none, none, none, none, none, none] Tryz.func103 rfl (by decide) ((by kernel_rfl : g_squinchref04_Same a0 a1 w K = denC P [none, none, none, none, none, none, some ([5], [4, 5, 11, 12, 13, 14, 15, 16, 17, 18, 19, 20, 21, 22, 23, 24, 25]), none, none, none, none, none, none] (Ann.slots [none, none, none, none, none, none, some ([5], [4, 5, 11, 12, 13, 14, 15, 16, 17, 18, 19, 20, 21, 22, 23, 24, 25]), none, none, none, none, none, none]) 0 (Tryz.f103.body.getD .skip) (retQ P Tryz.f103 K) (frame0 Tryz.f103 [a0, a1]) w) ▸ h)
def g_squinchref05_sameMethod (a0 a1 : Value) (w : World) (K : Value → World → Prop) : Prop :=
 box P T.api_Method a0 w fun t2 w =>
 box P T.api_Method a1 w fun t3 w =>
 fieldAddr P T.api_Method t2 0 w fun t6 w =>
 ldv P T.string t6 w fun t7 w =>
 fieldAddr P T.api_Method t3 0 w fun t8 w =>
 ldv P T.string t8 w fun t9 w =>
 bin P .neq T.string (.tmp 7) (.tmp 9) t7 t9 w fun t10 w =>
 gop t10 false w (fieldAddr P T.api_Method t2 2) fun t12 w =>
 gop t10 false w (ldv P T.string t12) fun t13 w =>
 gop t10 false w (fieldAddr P T.api_Method t3 2) fun t14 w =>
 gop t10 false w (ldv P T.string t14) fun t15 w =>
 gop t10 false w (bin P .neq T.string (.tmp 13) (.tmp 15) t13 t15) fun t16 w =>
 pick P t10 (.bool true) t16 w fun t17 w =>
 gop t17 false w (fieldAddr P T.api_Method t2 3) fun t19 w =>
 gop t17 false w (ldv P T.bool t19) fun t20 w =>
 gop t17 false w (fieldAddr P T.api_Method t3 3) fun t21 w =>
 gop t17 false w (ldv P T.bool t21) fun t22 w =>
 gop t17 false w (bin P .neq T.bool (.tmp 20) (.tmp 22) t20 t22) fun t23 w =>
 pick P t17 (.bool true) t23 w fun t24 w =>
 gop t24 false w (fieldAddr P T.api_Method t2 4) fun t26 w =>
 gop t24 false w (ldv P T.int t26) fun t27 w =>
 gop t24 false w (fieldAddr P T.api_Method t3 4) fun t28 w =>
 gop t24 false w (ldv P T.int t28) fun t29 w =>
 gop t24 false w (bin P .neq T.int (.tmp 27) (.tmp 29) t27 t29) fun t30 w =>
 pick P t24 (.bool true) t30 w fun t31 w =>
 gop t31 false w (fieldAddr P T.api_Method t2 1) fun t33 w =>
 gop t31 false w (ldv P T.S_string t33) fun t34 w =>
 gop t31 false w (fieldAddr P T.api_Method t3 1) fun t35 w =>
 gop t31 false w (ldv P T.S_string t35) fun t36 w =>
 gop t31 false w (callF P F.squinchref05_sameTexts [t34, t36]) fun t37 w =>
 gop t31 false w (una P .not t37) fun t38 w =>
 pick P t31 (.bool true) t38 w fun t39 w =>
 gop t39 false w (fieldAddr P T.api_Method t2 5) fun t41 w =>
 gop t39 false w (ldv P T.S_api_Instr t41) fun t42 w =>
 gop t39 false w (fieldAddr P T.api_Method t3 5) fun t43 w =>
 gop t39 false w (ldv P T.S_api_Instr t43) fun t44 w =>
 gop t39 false w (callF P F.squinchref04_Same [t42, t44]) fun t45 w =>
 gop t39 false w (una P .not t45) fun t46 w =>
 pick P t39 (.bool true) t46 w fun t47 w =>
 gop t47 false w (fieldAddr P T.api_Method t2 6) fun t49 w =>
 gop t47 false w (ldv P T.S_api_Catch t49) fun t50 w =>
 gop t47 false w (blt P .len [T.S_api_Catch] T.int [false] [t50]) fun t51 w =>
 gop t47 false w (fieldAddr P T.api_Method t3 6) fun t52 w =>
 gop t47 false w (ldv P T.S_api_Catch t52) fun t53 w =>
 gop t47 false w (blt P .len [T.S_api_Catch] T.int [false] [t53]) fun t54 w =>
 gop t47 false w (bin P .neq T.int (.tmp 51) (.tmp 54) t51 t54) fun t55 w =>
 pick P t47 (.bool true) t55 w fun t56 w =>
 cnd t56 (
 K (.bool false) w) (
 lp (α := Value) (.int .i64 0) w fun again6 x6 d_ w =>
 fieldAddr P T.api_Method t2 6 w fun t58 w =>
 ldv P T.S_api_Catch t58 w fun t59 w =>
 blt P .len [T.S_api_Catch] T.int [false] [t59] w fun t60 w =>
 bin P .lss T.int (.tmp 57) (.tmp 60) x6 t60 w fun t61 w =>
 cnd t61 (
 dr w fun Tr Br =>
 dop Tr (fun φ64 => ∀ w : World, Br w → fieldAddr P T.api_Method t2 6 w (dk Tr φ64 w)) fun φ64 =>
 dop Tr (fun φ69 => ∀ w : World, Br w → fieldAddr P T.api_Method t3 6 w (dk Tr φ69 w)) fun φ69 =>
 dop Tr (fun φ65 => ∀ t64 : Value, ∀ w : World, Br w → φ64 t64 w → ldv P T.S_api_Catch t64 w (dk Tr φ65 w)) fun φ65 =>
 dop Tr (fun φ67 => ∀ t65 : Value, ∀ w : World, Br w → φ65 t65 w → indexAddr P T.S_api_Catch t65 x6 w (dk Tr φ67 w)) fun φ67 =>
 dop Tr (fun φ68 => ∀ t67 : Value, ∀ w : World, Br w → φ67 t67 w → ldv P T.api_Catch t67 w (dk Tr φ68 w)) fun φ68 =>
 dop Tr (fun φ70 => ∀ t69 : Value, ∀ w : World, Br w → φ69 t69 w → ldv P T.S_api_Catch t69 w (dk Tr φ70 w)) fun φ70 =>
 dop Tr (fun φ72 => ∀ t70 : Value, ∀ w : World, Br w → φ70 t70 w → indexAddr P T.S_api_Catch t70 x6 w (dk Tr φ72 w)) fun φ72 =>
 dop Tr (fun φ73 => ∀ t72 : Value, ∀ w : World, Br w → φ72 t72 w → ldv P T.api_Catch t72 w (dk Tr φ73 w)) fun φ73 =>
 ∀ t64 : Value, ∀ t69 : Value, ∀ t65 : Value, ∀ t67 : Value, ∀ t68 : Value, ∀ t70 : Value, ∀ t72 : Value, ∀ t73 : Value, ∀ w : World, Br w → φ64 t64 w → φ69 t69 w → φ65 t65 w → φ67 t67 w → φ68 t68 w → φ70 t70 w → φ72 t72 w → φ73 t73 w → 
 bin P .neq T.api_Catch (.tmp 68) (.tmp 73) t68 t73 w fun t74 w =>
 cnd t74 (
 K (.bool false) w) (
 bin P .add T.int (.tmp 62) (.const (.int .i64 1)) x6 (.int .i64 1) w fun t63 w =>
 again6 t63 w)) (
 K (.bool true) w))
theorem r_squinchref05_sameMethod {a0 a1 : Value} {w : World} {K : Value → World → Prop} (h : g_squinchref05_sameMethod a0 a1 w K) : callF P F.squinchref05_sameMethod [a0, a1] w K :=
 rule_of [none, none, none, none, none, none, some ([5], [4, 5, 57, 58, 59, 60, 61, 62, 63, 64, 65, 66, 67, 68, 69, 70, 71, 72, 73, 74]), none, none, none, none, none, none] Tryz.func71 rfl (by decide) ((by kernel_rfl : g_squinchref05_sameMethod a0 a1 w K = denC P [none, none, none, none, none, none, some ([5], [4, 5, 57, 58, 59, 60, 61, 62, 63, 64, 65, 66, 67, 68, 69, 70, 71, 72, 73, 74]), none, none, none, none, none, none] (Ann.slots [none, none, none, none, none, none, some ([5], [4, 5, 57, 58, 59, 60, 61, 62, 63, 64, 65, 66, 67, 68, 69, 70, 71, 72, 73, 74]), none, none, none, none, none, none]) 0 (Tryz.f71.body.getD .skip) (retQ P Tryz.f71 K) (frame0 Tryz.f71 [a0, a1]) w) ▸ h)
def g_squinchref05_Same (a0 a1 : Value) (w : World) (K : Value → World → Prop) : Prop :=
 box P T.api_Class a0 w fun t2 w =>
 box P T.api_Class a1 w fun t3 w =>
 fieldAddr P T.api_Class t2 0 w fun t7 w =>
 ldv P T.string t7 w fun t8 w =>
 fieldAddr P T.api_Class t3 0 w fun t9 w =>
 ldv P T.string t9 w fun t10 w =>
 bin P .neq T.string (.tmp 8) (.tmp 10) t8 t10 w fun t11 w =>
 gop t11 false w (fieldAddr P T.api_Class t2 1) fun t13 w =>
 gop t11 false w (ldv P T.string t13) fun t14 w =>
 gop t11 false w (fieldAddr P T.api_Class t3 1) fun t15 w =>
 gop t11 false w (ldv P T.string t15) fun t16 w =>
 gop t11 false w (bin P .neq T.string (.tmp 14) (.tmp 16) t14 t16) fun t17 w =>
 pick P t11 (.bool true) t17 w fun t18 w =>
 gop t18 false w (fieldAddr P T.api_Class t2 3) fun t20 w =>
 gop t18 false w (ldv P T.bool t20) fun t21 w =>
 gop t18 false w (fieldAddr P T.api_Class t3 3) fun t22 w =>
 gop t18 false w (ldv P T.bool t22) fun t23 w =>
 gop t18 false w (bin P .neq T.bool (.tmp 21) (.tmp 23) t21 t23) fun t24 w =>
 pick P t18 (.bool true) t24 w fun t25 w =>
 gop t25 false w (fieldAddr P T.api_Class t2 4) fun t27 w =>
 gop t25 false w (ldv P T.bool t27) fun t28 w =>
 gop t25 false w (fieldAddr P T.api_Class t3 4) fun t29 w =>
 gop t25 false w (ldv P T.bool t29) fun t30 w =>
 gop t25 false w (bin P .neq T.bool (.tmp 28) (.tmp 30) t28 t30) fun t31 w =>
 pick P t25 (.bool true) t31 w fun t32 w =>
 gop t32 false w (fieldAddr P T.api_Class t2 5) fun t34 w =>
 gop t32 false w (ldv P T.bool t34) fun t35 w =>
 gop t32 false w (fieldAddr P T.api_Class t3 5) fun t36 w =>
 gop t32 false w (ldv P T.bool t36) fun t37 w =>
 gop t32 false w (bin P .neq T.bool (.tmp 35) (.tmp 37) t35 t37) fun t38 w =>
 pick P t32 (.bool true) t38 w fun t39 w =>
 gop t39 false w (fieldAddr P T.api_Class t2 2) fun t41 w =>
 gop t39 false w (ldv P T.S_string t41) fun t42 w =>
 gop t39 false w (fieldAddr P T.api_Class t3 2) fun t43 w =>
 gop t39 false w (ldv P T.S_string t43) fun t44 w =>
 gop t39 false w (callF P F.squinchref05_sameTexts [t42, t44]) fun t45 w =>
 gop t39 false w (una P .not t45) fun t46 w =>
 pick P t39 (.bool true) t46 w fun t47 w =>
 gop t47 false w (fieldAddr P T.api_Class t2 6) fun t49 w =>
 gop t47 false w (ldv P T.S_api_Field t49) fun t50 w =>
 gop t47 false w (blt P .len [T.S_api_Field] T.int [false] [t50]) fun t51 w =>
 gop t47 false w (fieldAddr P T.api_Class t3 6) fun t52 w =>
 gop t47 false w (ldv P T.S_api_Field t52) fun t53 w =>
 gop t47 false w (blt P .len [T.S_api_Field] T.int [false] [t53]) fun t54 w =>
 gop t47 false w (bin P .neq T.int (.tmp 51) (.tmp 54) t51 t54) fun t55 w =>
 pick P t47 (.bool true) t55 w fun t56 w =>
 gop t56 false w (fieldAddr P T.api_Class t2 7) fun t58 w =>
 gop t56 false w (ldv P T.S_api_Method t58) fun t59 w =>
 gop t56 false w (blt P .len [T.S_api_Method] T.int [false] [t59]) fun t60 w =>
 gop t56 false w (fieldAddr P T.api_Class t3 7) fun t61 w =>
 gop t56 false w (ldv P T.S_api_Method t61) fun t62 w =>
 gop t56 false w (blt P .len [T.S_api_Method] T.int [false] [t62]) fun t63 w =>
 gop t56 false w (bin P .neq T.int (.tmp 60) (.tmp 63) t60 t63) fun t64 w =>
 pick P t56 (.bool true) t64 w fun t65 w =>
 cnd t65 (
 K (.bool false) w) (
 lp (α := Value) (.int .i64 0) w fun again6 x6 d_ w =>
 fieldAddr P T.api_Class t2 6 w fun t67 w =>
 ldv P T.S_api_Field t67 w fun t68 w =>
 blt P .len [T.S_api_Field] T.int [false] [t68] w fun t69 w =>
 bin P .lss T.int (.tmp 66) (.tmp 69) x6 t69 w fun t70 w =>
 cnd t70 (
 dr w fun Tr Br =>
 dop Tr (fun φ73 => ∀ w : World, Br w → fieldAddr P T.api_Class t2 6 w (dk Tr φ73 w)) fun φ73 =>
 dop Tr (fun φ78 => ∀ w : World, Br w → fieldAddr P T.api_Class t3 6 w (dk Tr φ78 w)) fun φ78 =>
 dop Tr (fun φ74 => ∀ t73 : Value, ∀ w : World, Br w → φ73 t73 w → ldv P T.S_api_Field t73 w (dk Tr φ74 w)) fun φ74 =>
 dop Tr (fun φ76 => ∀ t74 : Value, ∀ w : World, Br w → φ74 t74 w → indexAddr P T.S_api_Field t74 x6 w (dk Tr φ76 w)) fun φ76 =>
 dop Tr (fun φ77 => ∀ t76 : Value, ∀ w : World, Br w → φ76 t76 w → ldv P T.api_Field t76 w (dk Tr φ77 w)) fun φ77 =>
 dop Tr (fun φ79 => ∀ t78 : Value, ∀ w : World, Br w → φ78 t78 w → ldv P T.S_api_Field t78 w (dk Tr φ79 w)) fun φ79 =>
 dop Tr (fun φ81 => ∀ t79 : Value, ∀ w : World, Br w → φ79 t79 w → indexAddr P T.S_api_Field t79 x6 w (dk Tr φ81 w)) fun φ81 =>
 dop Tr (fun φ82 => ∀ t81 : Value, ∀ w : World, Br w → φ81 t81 w → ldv P T.api_Field t81 w (dk Tr φ82 w)) fun φ82 =>
 ∀ t73 : Value, ∀ t78 : Value, ∀ t74 : Value, ∀ t76 : Value, ∀ t77 : Value, ∀ t79 : Value, ∀ t81 : Value, ∀ t82 : Value, ∀ w : World, Br w → φ73 t73 w → φ78 t78 w → φ74 t74 w → φ76 t76 w → φ77 t77 w → φ79 t79 w → φ81 t81 w → φ82 t82 w → 
 bin P .neq T.api_Field (.tmp 77) (.tmp 82) t77 t82 w fun t83 w =>
 cnd t83 (
 K (.bool false) w) (
 bin P .add T.int (.tmp 71) (.const (.int .i64 1)) x6 (.int .i64 1) w fun t72 w =>
 again6 t72 w)) (
 lp (α := Value) (.int .i64 0) w fun again14 x14 d_ w =>
 fieldAddr P T.api_Class t2 7 w fun t85 w =>
 ldv P T.S_api_Method t85 w fun t86 w =>
 blt P .len [T.S_api_Method] T.int [false] [t86] w fun t87 w =>
 bin P .lss T.int (.tmp 84) (.tmp 87) x14 t87 w fun t88 w =>
 cnd t88 (
 dr w fun Tr Br =>
 dop Tr (fun φ91 => ∀ w : World, Br w → fieldAddr P T.api_Class t2 7 w (dk Tr φ91 w)) fun φ91 =>
 dop Tr (fun φ96 => ∀ w : World, Br w → fieldAddr P T.api_Class t3 7 w (dk Tr φ96 w)) fun φ96 =>
 dop Tr (fun φ92 => ∀ t91 : Value, ∀ w : World, Br w → φ91 t91 w → ldv P T.S_api_Method t91 w (dk Tr φ92 w)) fun φ92 =>
 dop Tr (fun φ94 => ∀ t92 : Value, ∀ w : World, Br w → φ92 t92 w → indexAddr P T.S_api_Method t92 x14 w (dk Tr φ94 w)) fun φ94 =>
 dop Tr (fun φ95 => ∀ t94 : Value, ∀ w : World, Br w → φ94 t94 w → ldv P T.api_Method t94 w (dk Tr φ95 w)) fun φ95 =>
 dop Tr (fun φ97 => ∀ t96 : Value, ∀ w : World, Br w → φ96 t96 w → ldv P T.S_api_Method t96 w (dk Tr φ97 w)) fun φ97 =>
 dop Tr (fun φ99 => ∀ t97 : Value, ∀ w : World, Br w → φ97 t97 w → indexAddr P T.S_api_Method t97 x14 w (dk Tr φ99 w)) fun φ99 =>
 dop Tr (fun φ100 => ∀ t99 : Value, ∀ w : World, Br w → φ99 t99 w → ldv P T.api_Method t99 w (dk Tr φ100 w)) fun φ100 =>
 ∀ t91 : Value, ∀ t96 : Value, ∀ t92 : Value, ∀ t94 : Value, ∀ t95 : Value, ∀ t97 : Value, ∀ t99 : Value, ∀ t100 : Value, ∀ w : World, Br w → φ91 t91 w → φ96 t96 w → φ92 t92 w → φ94 t94 w → φ95 t95 w → φ97 t97 w → φ99 t99 w → φ100 t100 w → 
 callF P F.squinchref05_sameMethod [t95, t100] w fun t101 w =>
 una P .not t101 w fun t102 w =>
 cnd t102 (
 K (.bool false) w) (
 bin P .add T.int (.tmp 89) (.const (.int .i64 1)) x14 (.int .i64 1) w fun t90 w =>
 again14 t90 w)) (
 K (.bool true) w)))
theorem r_squinchref05_Same {a0 a1 : Value} {w : World} {K : Value → World → Prop} (h : g_squinchref05_Same a0 a1 w K) : callF P F.squinchref05_Same [a0, a1] w K :=
 rule_of [none, none, none, none, none, none, some ([5], [4, 5, 66, 67, 68, 69, 70, 71, 72, 73, 74, 75, 76, 77, 78, 79, 80, 81, 82, 83]), none, none, none, none, none, none, none, some ([6], [4, 6, 84, 85, 86, 87, 88, 89, 90, 91, 92, 93, 94, 95, 96, 97, 98, 99, 100, 101, 102]), none, none, none, none, none, none] Tryz.func28 rfl (by decide) ((by kernel_rfl : g_squinchref05_Same a0 a1 w K = denC P [none, none, none, none, none, none, some ([5], [4, 5, 66, 67, 68, 69, 70, 71, 72, 73, 74, 75, 76, 77, 78, 79, 80, 81, 82, 83]), none, none, none, none, none, none, none, some ([6], [4, 6, 84, 85, 86, 87, 88, 89, 90, 91, 92, 93, 94, 95, 96, 97, 98, 99, 100, 101, 102]), none, none, none, none, none, none] (Ann.slots [none, none, none, none, none, none, some ([5], [4, 5, 66, 67, 68, 69, 70, 71, 72, 73, 74, 75, 76, 77, 78, 79, 80, 81, 82, 83]), none, none, none, none, none, none, none, some ([6], [4, 6, 84, 85, 86, 87, 88, 89, 90, 91, 92, 93, 94, 95, 96, 97, 98, 99, 100, 101, 102]), none, none, none, none, none, none]) 0 (Tryz.f28.body.getD .skip) (retQ P Tryz.f28 K) (frame0 Tryz.f28 [a0, a1]) w) ▸ h)
def g_squinchlaw06_HierGiven (a0 : Value) (w : World) (K : Value → World → Prop) : Prop :=
 callF P F.hier_Given [] w fun t7 w =>
 callF P F.squinchref06_Given [] w fun t8 w =>
 callF P F.squinchlaw06_awake [] w fun t9 w =>
 una P .not t9 w fun t10 w =>
 gop t10 false w (fun w J => J t7 w) fun t12 w =>
 gop t10 false w (blt P .len [T.S_api_Class] T.int [false] [t12]) fun t13 w =>
 gop t10 false w (fun w J => J t8 w) fun t14 w =>
 gop t10 false w (blt P .len [T.S_api_Class] T.int [false] [t14]) fun t15 w =>
 gop t10 false w (bin P .neq T.int (.tmp 13) (.tmp 15) t13 t15) fun t16 w =>
 pick P t10 (.bool true) t16 w fun t17 w =>
 cnd t17 (
 K (.bool false) w) (
 lp (α := Value) (.int .i64 0) w fun again7 x7 d_ w =>
 blt P .len [T.S_api_Class] T.int [false] [t8] w fun t20 w =>
 bin P .lss T.int (.tmp 18) (.tmp 20) x7 t20 w fun t21 w =>
 cnd t21 (
 dr w fun Tr Br =>
 dop Tr (fun φ26 => ∀ w : World, Br w → indexAddr P T.S_api_Class t7 x7 w (dk Tr φ26 w)) fun φ26 =>
 dop Tr (fun φ30 => ∀ w : World, Br w → indexAddr P T.S_api_Class t8 x7 w (dk Tr φ30 w)) fun φ30 =>
 dop Tr (fun φ27 => ∀ t26 : Value, ∀ w : World, Br w → φ26 t26 w → ldv P T.api_Class t26 w (dk Tr φ27 w)) fun φ27 =>
 dop Tr (fun φ31 => ∀ t30 : Value, ∀ w : World, Br w → φ30 t30 w → ldv P T.api_Class t30 w (dk Tr φ31 w)) fun φ31 =>
 ∀ t26 : Value, ∀ t30 : Value, ∀ t27 : Value, ∀ t31 : Value, ∀ w : World, Br w → φ26 t26 w → φ30 t30 w → φ27 t27 w → φ31 t31 w → 
 callF P F.squinchref05_Same [t27, t31] w fun t32 w =>
 una P .not t32 w fun t33 w =>
 cnd t33 (
 K (.bool false) w) (
 bin P .add T.int (.tmp 22) (.const (.int .i64 1)) x7 (.int .i64 1) w fun t23 w =>
 again7 t23 w)) (
 jn (α := Unit) w (fun J13 w =>
 bin P .geq T.int (.tmp 34) (.const (.int .i64 0)) a0 (.int .i64 0) w fun t35 w =>
 gop t35 true w (fun w J => J a0 w) fun t37 w =>
 gop t35 true w (fun w J => J t7 w) fun t38 w =>
 gop t35 true w (blt P .len [T.S_api_Class] T.int [false] [t38]) fun t39 w =>
 gop t35 true w (bin P .lss T.int (.tmp 37) (.tmp 39) t37 t39) fun t40 w =>
 pick P t35 t40 (.bool false) w fun t41 w =>
 cnd t41 (
 indexAddr P T.S_api_Class t7 a0 w fun t44 w =>
 fieldAddr P T.api_Class t44 0 w fun t45 w =>
 stv P T.string t45 (.string ⟨#[120]⟩) w fun _u w =>
 J13 () w) (
 J13 () w)) fun z13 d_ w =>
 callF P F.hier_Given [] w fun t46 w =>
 dr w fun Tr Br =>
 dop Tr (fun φ48 => ∀ w : World, Br w → blt P .len [T.S_api_Class] T.int [false] [t46] w (dk Tr φ48 w)) fun φ48 =>
 dop Tr (fun φ50 => ∀ w : World, Br w → blt P .len [T.S_api_Class] T.int [false] [t8] w (dk Tr φ50 w)) fun φ50 =>
 dop Tr (fun φ51 => ∀ t48 : Value, ∀ t50 : Value, ∀ w : World, Br w → φ48 t48 w → φ50 t50 w → bin P .eql T.int (.tmp 48) (.tmp 50) t48 t50 w (dk Tr φ51 w)) fun φ51 =>
 dop Tr (fun φ53 => ∀ t51 : Value, ∀ w : World, Br w → φ51 t51 w → gop t51 true w (fun w J => J a0 w) (dk Tr φ53 w)) fun φ53 =>
 dop Tr (fun φ54 => ∀ t51 : Value, ∀ t53 : Value, ∀ w : World, Br w → φ51 t51 w → φ53 t53 w → gop t51 true w (bin P .lss T.int (.tmp 53) (.const (.int .i64 0)) t53 (.int .i64 0)) (dk Tr φ54 w)) fun φ54 =>
 dop Tr (fun φ55 => ∀ t51 : Value, ∀ t54 : Value, ∀ w : World, Br w → φ51 t51 w → φ54 t54 w → gop t51 true w (fun w J => J t54 w) (dk Tr φ55 w)) fun φ55 =>
 dop Tr (fun φ56 => ∀ t55 : Value, ∀ w : World, Br w → φ55 t55 w → gop t55 false w (fun w J => J a0 w) (dk Tr φ56 w)) fun φ56 =>
 dop Tr (fun φ57 => ∀ t55 : Value, ∀ w : World, Br w → φ55 t55 w → gop t55 false w (fun w J => J t8 w) (dk Tr φ57 w)) fun φ57 =>
 dop Tr (fun φ58 => ∀ t55 : Value, ∀ t57 : Value, ∀ w : World, Br w → φ55 t55 w → φ57 t57 w → gop t55 false w (blt P .len [T.S_api_Class] T.int [false] [t57]) (dk Tr φ58 w)) fun φ58 =>
 dop Tr (fun φ59 => ∀ t55 : Value, ∀ t56 : Value, ∀ t58 : Value, ∀ w : World, Br w → φ55 t55 w → φ56 t56 w → φ58 t58 w → gop t55 false w (bin P .geq T.int (.tmp 56) (.tmp 58) t56 t58) (dk Tr φ59 w)) fun φ59 =>
 dop Tr (fun φ60 => ∀ t51 : Value, ∀ t55 : Value, ∀ t59 : Value, ∀ w : World, Br w → φ51 t51 w → φ55 t55 w → φ59 t59 w → gop t51 true w (pick P t55 (.bool true) t59) (dk Tr φ60 w)) fun φ60 =>
 dop Tr (fun φ61 => ∀ t51 : Value, ∀ t60 : Value, ∀ w : World, Br w → φ51 t51 w → φ60 t60 w → gop t51 true w (fun w J => J t60 w) (dk Tr φ61 w)) fun φ61 =>
 dop Tr (fun φ62 => ∀ t61 : Value, ∀ w : World, Br w → φ61 t61 w → gop t61 false w (fun w J => J t46 w) (dk Tr φ62 w)) fun φ62 =>
 dop Tr (fun φ63 => ∀ t61 : Value, ∀ w : World, Br w → φ61 t61 w → gop t61 false w (fun w J => J a0 w) (dk Tr φ63 w)) fun φ63 =>
 dop Tr (fun φ64 => ∀ t61 : Value, ∀ t62 : Value, ∀ t63 : Value, ∀ w : World, Br w → φ61 t61 w → φ62 t62 w → φ63 t63 w → gop t61 false w (indexAddr P T.S_api_Class t62 t63) (dk Tr φ64 w)) fun φ64 =>
 dop Tr (fun φ66 => ∀ t61 : Value, ∀ w : World, Br w → φ61 t61 w → gop t61 false w (fun w J => J t8 w) (dk Tr φ66 w)) fun φ66 =>
 dop Tr (fun φ67 => ∀ t61 : Value, ∀ w : World, Br w → φ61 t61 w → gop t61 false w (fun w J => J a0 w) (dk Tr φ67 w)) fun φ67 =>
 dop Tr (fun φ68 => ∀ t61 : Value, ∀ t66 : Value, ∀ t67 : Value, ∀ w : World, Br w → φ61 t61 w → φ66 t66 w → φ67 t67 w → gop t61 false w (indexAddr P T.S_api_Class t66 t67) (dk Tr φ68 w)) fun φ68 =>
 dop Tr (fun φ65 => ∀ t61 : Value, ∀ t64 : Value, ∀ w : World, Br w → φ61 t61 w → φ64 t64 w → gop t61 false w (ldv P T.api_Class t64) (dk Tr φ65 w)) fun φ65 =>
 dop Tr (fun φ69 => ∀ t61 : Value, ∀ t68 : Value, ∀ w : World, Br w → φ61 t61 w → φ68 t68 w → gop t61 false w (ldv P T.api_Class t68) (dk Tr φ69 w)) fun φ69 =>
 ∀ t48 : Value, ∀ t50 : Value, ∀ t51 : Value, ∀ t53 : Value, ∀ t54 : Value, ∀ t55 : Value, ∀ t56 : Value, ∀ t57 : Value, ∀ t58 : Value, ∀ t59 : Value, ∀ t60 : Value, ∀ t61 : Value, ∀ t62 : Value, ∀ t63 : Value, ∀ t64 : Value, ∀ t66 : Value, ∀ t67 : Value, ∀ t68 : Value, ∀ t65 : Value, ∀ t69 : Value, ∀ w : World, Br w → φ48 t48 w → φ50 t50 w → φ51 t51 w → φ53 t53 w → φ54 t54 w → φ55 t55 w → φ56 t56 w → φ57 t57 w → φ58 t58 w → φ59 t59 w → φ60 t60 w → φ61 t61 w → φ62 t62 w → φ63 t63 w → φ64 t64 w → φ66 t66 w → φ67 t67 w → φ68 t68 w → φ65 t65 w → φ69 t69 w → 
 gop t61 false w (callF P F.squinchref05_Same [t65, t69]) fun t70 w =>
 gop t51 true w (pick P t61 (.bool true) t70) fun t71 w =>
 pick P t51 t71 (.bool false) w fun t72 w =>
 K t72 w))
theorem r_squinchlaw06_HierGiven {a0 : Value} {w : World} {K : Value → World → Prop} (h : g_squinchlaw06_HierGiven a0 w K) : callF P F.squinchlaw06_HierGiven [a0] w K :=
 rule_of [none, none, none, none, none, none, none, some ([5], [2, 5, 18, 19, 20, 21, 22, 23, 24, 25, 26, 27, 28, 29, 30, 31, 32, 33]), none, none, none, none, none, some ([], [34, 35, 36, 37, 38, 39, 40, 41, 42, 43, 44, 45]), none, none, none] Tryz.func6 rfl (by decide) ((by kernel_rfl : g_squinchlaw06_HierGiven a0 w K = denC P [none, none, none, none, none, none, none, some ([5], [2, 5, 18, 19, 20, 21, 22, 23, 24, 25, 26, 27, 28, 29, 30, 31, 32, 33]), none, none, none, none, none, some ([], [34, 35, 36, 37, 38, 39, 40, 41, 42, 43, 44, 45]), none, none, none] (Ann.slots [none, none, none, none, none, none, none, some ([5], [2, 5, 18, 19, 20, 21, 22, 23, 24, 25, 26, 27, 28, 29, 30, 31, 32, 33]), none, none, none, none, none, some ([], [34, 35, 36, 37, 38, 39, 40, 41, 42, 43, 44, 45]), none, none, none]) 0 (Tryz.f6.body.getD .skip) (retQ P Tryz.f6 K) (frame0 Tryz.f6 [a0]) w) ▸ h)
end Go.Proofs.YtdnfaboigajkhaaGreatDoor

set_option linter.unusedVariables false
set_option maxRecDepth 100000
namespace Go.Proofs.YtdnfaboigajkhaaGreatDoor
open Go.Emb
end Go.Proofs.YtdnfaboigajkhaaGreatDoor


set_option autoImplicit false
set_option linter.unusedSimpArgs false
namespace Go.Emb
open Go.RowKit (Below)
variable {P : Program} {w w' : World} {K : Value → World → Prop}
theorem op_value {s : Sem Value} {v : Value} (h : s.run P w = .ok v w') : op P (sv s) w K = K v w' := by
  rw [op_eq]; unfold opDef sv; simp [h]
theorem op_unit {s : Sem Unit} (h : s.run P w = .ok () w') : op P (su s) w K = K undef w' := by
  rw [op_eq]; unfold opDef su; simp [h]
abbrev S (l : List UInt8) : Value := .string ⟨l.toArray⟩
abbrev I (n : Int) : Value := .int .i64 n
theorem pick_bool {b : Bool} {x y : Value} : pick P (.bool b) x y w K = K (if b then x else y) w := by
  unfold pick; rw [op_eq]; unfold opDef; cases b <;> simp [asBool]
theorem pick_true {x y : Value} : pick P (.bool true) x y w K = K x w := by rw [pick_bool]; rfl
theorem pick_false {x y : Value} : pick P (.bool false) x y w K = K y w := by rw [pick_bool]; rfl
theorem pick_and {a b : Bool} {u : Value} : pick P (.bool a) (if a = true then .bool b else u) (.bool false) w K = K (.bool (a && b)) w := by
  rw [pick_bool]; cases a <;> rfl
theorem pick_or {a b : Bool} {u : Value} : pick P (.bool a) (.bool true) (if a = false then .bool b else u) w K = K (.bool (a || b)) w := by
  rw [pick_bool]; cases a <;> rfl
theorem gop_true {run : World → (Value → World → Prop) → Prop} : gop (.bool true) true w run K = run w K := by rw [gop_eq]; simp [gopDef]
theorem gop_false {run : World → (Value → World → Prop) → Prop} : gop (.bool false) false w run K = run w K := by rw [gop_eq]; simp [gopDef]
theorem gop_tf {run : World → (Value → World → Prop) → Prop} : gop (.bool true) false w run K = K undef w := by rw [gop_eq]; simp [gopDef]
theorem gop_ft {run : World → (Value → World → Prop) → Prop} : gop (.bool false) true w run K = K undef w := by rw [gop_eq]; simp [gopDef]
theorem gop_undef {b : Bool} {run : World → (Value → World → Prop) → Prop} : gop undef b w run K = K undef w := by rw [gop_eq]; rfl
theorem gop_pure {a b : Bool} {v : Value} : gop (.bool a) b w (fun w J => J v w) K = K (if a = b then v else undef) w := by
  rw [gop_eq]; unfold gopDef; by_cases h : a = b <;> simp [h]
theorem cnd_bool {b : Bool} {t e : Prop} : cnd (.bool b) t e = if b = true then t else e := by rw [cnd_eq]; cases b <;> rfl
theorem cnd_true {t e : Prop} : cnd (.bool true) t e = t := by rw [cnd_bool]; simp
theorem cnd_false {t e : Prop} : cnd (.bool false) t e = e := by rw [cnd_bool]; simp
section ints
variable {k : IntKind} {t : TypeId} {ox oy : Operand} {a b : Int}
theorem bin_add : bin P .add t ox oy (.int k a) (.int k b) w K = K (.int k (k.wrap (a + b))) w := op_value (by simp [eqGuard, Go.binOp, Op.intArith])
theorem bin_sub : bin P .sub t ox oy (.int k a) (.int k b) w K = K (.int k (k.wrap (a - b))) w := op_value (by simp [eqGuard, Go.binOp, Op.intArith])
theorem bin_mul : bin P .mul t ox oy (.int k a) (.int k b) w K = K (.int k (k.wrap (a * b))) w := op_value (by simp [eqGuard, Go.binOp, Op.intArith])
theorem bin_lss : bin P .lss t ox oy (.int k a) (.int k b) w K = K (.bool (decide (a < b))) w := op_value (by simp [eqGuard, Go.binOp, Op.intCmp])
theorem bin_leq : bin P .leq t ox oy (.int k a) (.int k b) w K = K (.bool (decide (a ≤ b))) w := op_value (by simp [eqGuard, Go.binOp, Op.intCmp])
theorem bin_gtr : bin P .gtr t ox oy (.int k a) (.int k b) w K = K (.bool (decide (b < a))) w := op_value (by simp [eqGuard, Go.binOp, Op.intCmp])
theorem bin_geq : bin P .geq t ox oy (.int k a) (.int k b) w K = K (.bool (decide (b ≤ a))) w := op_value (by simp [eqGuard, Go.binOp, Op.intCmp])
theorem bin_eql : bin P .eql t ox oy (.int k a) (.int k b) w K = K (.bool (decide (a = b))) w := op_value (by
  simp [eqGuard, Go.binOp, Op.intCmp]; rfl)
theorem bin_neq : bin P .neq t ox oy (.int k a) (.int k b) w K = K (.bool (!decide (a = b))) w := op_value (by
  simp [eqGuard, Go.binOp, Op.intCmp]; rfl)
end ints
theorem una_not {b : Bool} : una P .not (.bool b) w K = K (.bool (!b)) w := op_value (by simp [Op.unary])
section bools
variable {t : TypeId} {ox oy : Operand} {a b : Bool}
theorem run_equalIn_bool (d : Nat) (h : P.underlying t = some .bool) : (Op.equalIn (d + 1) t (.bool a) (.bool b)).run P w = .ok (a == b) w := by
  simp [Op.equalIn, run_underlying h]
theorem run_equal_bool (h : P.underlying t = some .bool) : (Op.equal t (.bool a) (.bool b)).run P w = .ok (a == b) w := run_equalIn_bool 9999 h
theorem bin_eql_bool (h : P.underlying t = some .bool) : bin P .eql t ox oy (.bool a) (.bool b) w K = K (.bool (a == b)) w := op_value (by
  simp [eqGuard, Go.binOp, run_equal_bool h])
theorem bin_neq_bool (h : P.underlying t = some .bool) : bin P .neq t ox oy (.bool a) (.bool b) w K = K (.bool (!(a == b))) w := op_value (by
  simp [eqGuard, Go.binOp, run_equal_bool h])
end bools
theorem ext_tuple {vs : List Value} {i : Nat} {v : Value} (h : vs[i]? = some v) : ext P (.tuple vs.toArray) i w K = K v w := op_value (by
  simp [Instr.extract, h])
theorem ext0 {a b : Value} : ext P (.tuple #[a, b]) 0 w K = K a w := ext_tuple (vs := [a, b]) rfl
theorem ext1 {a b : Value} : ext P (.tuple #[a, b]) 1 w K = K b w := ext_tuple (vs := [a, b]) rfl
theorem ext0' {a b c : Value} : ext P (.tuple #[a, b, c]) 0 w K = K a w := ext_tuple (vs := [a, b, c]) rfl
theorem ext1' {a b c : Value} : ext P (.tuple #[a, b, c]) 1 w K = K b w := ext_tuple (vs := [a, b, c]) rfl
theorem ext2' {a b c : Value} : ext P (.tuple #[a, b, c]) 2 w K = K c w := ext_tuple (vs := [a, b, c]) rfl
theorem w64 {n : Int} (h0 : -9223372036854775808 ≤ n) (h1 : n ≤ 9223372036854775807) : IntKind.i64.wrap n = n := by
  have hm : n % 18446744073709551616 = n ∨ n % 18446744073709551616 = n + 18446744073709551616 := by omega
  show (if (true && decide (n % 18446744073709551616 ≥ 9223372036854775808)) = true then n % 18446744073709551616 - 18446744073709551616 else n % 18446744073709551616) = n
  simp only [Bool.true_and, decide_eq_true_eq]
  split <;> omega
theorem w32 {n : Int} (h0 : -2147483648 ≤ n) (h1 : n ≤ 2147483647) : IntKind.i32.wrap n = n := by
  show (if (true && decide (n % 4294967296 ≥ 2147483648)) = true then n % 4294967296 - 4294967296 else n % 4294967296) = n
  simp only [Bool.true_and, decide_eq_true_eq]
  split <;> omega
section strs
variable {t : TypeId} {ox oy : Operand} {a b : List UInt8}
theorem beq_dec (a b : List UInt8) : (a == b) = decide (a = b) := by rw [Bool.eq_iff_iff]; simp
theorem bin_eql_str : bin P .eql t ox oy (S a) (S b) w K = K (.bool (decide (a = b))) w := op_value (by
  simp [eqGuard, Go.binOp, Op.stringOp, beq_dec])
theorem bin_neq_str : bin P .neq t ox oy (S a) (S b) w K = K (.bool (!decide (a = b))) w := op_value (by
  simp [eqGuard, Go.binOp, Op.stringOp, beq_dec])
theorem size_mk (l : List UInt8) : (ByteArray.mk l.toArray).size = l.length := by simp [ByteArray.size]
theorem append_mk (a b : List UInt8) : ByteArray.mk a.toArray ++ ByteArray.mk b.toArray = ByteArray.mk (a ++ b).toArray := by
  apply ByteArray.ext; simp
theorem max64 : IntKind.i64.max = 9223372036854775807 := by decide
theorem bin_add_str (h : a.length + b.length ≤ 9223372036854775807) : bin P .add t ox oy (S a) (S b) w K = K (S (a ++ b)) w := op_value (by
  have h1 : ¬ (((a.length + b.length : Nat) : Int) > IntKind.i64.max) := by rw [max64]; omega
  simp only [eqGuard, Go.binOp, Op.stringOp, size_mk, append_mk]
  simp only [if_neg h1]
  simp)
theorem len_str {cs : List Bool} {r : TypeId} (hu : P.underlying t = some .string) : blt P .len [t] r cs [S a] w K = K (I a.length) w := by
  have h : (Builtin.len_ #[t] r #[S a]).run P w = .ok (I a.length) w := by
    simp [Builtin.len_, run_underlying hu, size_mk, goInt]
  exact op_value h
theorem idx_str {i : Int} (hu : P.underlying t = some .string) (h0 : 0 ≤ i) (h : i.toNat < a.length) : idx P t (S a) (I i) w K = K (.int .u8 (a[i.toNat]'h).toNat) w := op_value (by
  simp only [Instr.index, asIntOf, Sem.run_bind, Sem.run_pure, Result.andThen_ok, run_underlying hu, h0, if_true]
  have : (ByteArray.mk a.toArray)[i.toNat]? = some (a[i.toNat]'h) := by
    rw [getElem?_pos _ _ (by rw [size_mk]; exact h)]
    rfl
  rw [this]; simp)
theorem mk_extract (l : List UInt8) (i j : Nat) : (ByteArray.mk l.toArray).extract i j = ByteArray.mk ((l.take j).drop i).toArray := by
  apply ByteArray.ext
  apply Array.ext'
  simp [List.drop_take]
theorem slc_str_lo {i : Int} (hu : P.underlying t = some .string) (h0 : 0 ≤ i) (h : i ≤ a.length) : slc P t (S a) (some (I i)) none none w K = K (S (a.drop i.toNat)) w := op_value (by
  simp [Instr.sliceAt, Instr.slice, Instr.sliceBounds, Instr.sliceBound, asIntOf, run_underlying hu, h0, h, size_mk, mk_extract])
theorem slc_str_hi {i : Int} (hu : P.underlying t = some .string) (h0 : 0 ≤ i) (h : i ≤ a.length) : slc P t (S a) none (some (I i)) none w K = K (S (a.take i.toNat)) w := op_value (by
  simp [Instr.sliceAt, Instr.slice, Instr.sliceBounds, Instr.sliceBound, asIntOf, run_underlying hu, h0, h, size_mk, mk_extract])
end strs
theorem conv_int {s d : TypeId} {k j : IntKind} {n : Int} {ds : TypeDesc} (hs : P.underlying s = some ds) (hd : P.underlying d = some (.int k)) : conv P s d (.int j n) w K = K (.int k (k.wrap n)) w := op_value (by
  simp [Go.convert, run_underlying hs, run_underlying hd, Conv.intToInt])
def put_ (w : World) (r : Nat) (o : Obj) : World := { w with heap := w.heap.setIfInBounds r o }
theorem below_put {B r : Nat} {a w : World} {o : Obj} (h : Below B a w) (hr : B ≤ r) : Below B a (put_ w r o) :=
  h.trans ⟨rfl, rfl, rfl, by simp [put_], fun k hk => by simp only [put_]; rw [Array.getElem?_setIfInBounds_ne (by omega)]⟩
theorem put_get {w : World} {r : Nat} {o : Obj} (h : r < w.heap.size) : (put_ w r o).heap[r]? = some o := by
  simp only [put_]; rw [Array.getElem?_setIfInBounds_self_of_lt h]
theorem rng_str {t : TypeId} {a : List UInt8} (hu : P.underlying t = some .string) : rng P t (S a) w K = K (.pointer (some ⟨w.heap.size, 0, none⟩)) (w.alloc (.stringIter ⟨a.toArray⟩ 0)) := op_value (by
  simp [Instr.range, run_underlying hu])
theorem nxt_str {t : TypeId} {r pos : Nat} {s : ByteArray} (h : w.heap[r]? = some (.stringIter s pos)) (hp : pos < s.size) :
    nxt P (.pointer (some ⟨r, 0, none⟩)) true t w K = K (.tuple #[.bool true, I pos, .int .i32 (Utf8.decode s pos).1]) (put_ w r (.stringIter s (pos + (Utf8.decode s pos).2))) := op_value (by
  have h1 : ∀ (k : Obj → Sem Value), (getObj r >>= k).run P w = (k (.stringIter s pos)).run P w := by
    intro k; rw [Sem.run_bind]; simp [getObj, Sem.run, h]
  have h2 : ∀ o, (setObj r o).run P w = .ok () (put_ w r o) := by intro o; simp [setObj, Sem.run, h, put_]
  unfold Instr.next
  simp only [h1, hp, if_true]
  simp [h2, goInt])
theorem nxt_str_end {t : TypeId} {r pos : Nat} {s : ByteArray} (h : w.heap[r]? = some (.stringIter s pos)) (hp : ¬ pos < s.size) :
    nxt P (.pointer (some ⟨r, 0, none⟩)) true t w K = K (.tuple #[.bool false]) w := op_value (by
  have h1 : ∀ (k : Obj → Sem Value), (getObj r >>= k).run P w = (k (.stringIter s pos)).run P w := by
    intro k; rw [Sem.run_bind]; simp [getObj, Sem.run, h]
  unfold Instr.next
  simp only [h1, hp, if_false]
  simp)
theorem ext00 {a : Value} : ext P (.tuple #[a]) 0 w K = K a w := ext_tuple (vs := [a]) rfl
theorem decode_low {s : ByteArray} {i : Nat} (h : (s.get! i).toNat < 128) : Utf8.decode s i = ((s.get! i).toNat, 1) := by
  unfold Utf8.decode
  simp only [Nat.add_zero]
  rw [if_pos h]
theorem decode_high {s : ByteArray} {i : Nat} (h : ¬ (s.get! i).toNat < 128) : 128 ≤ (Utf8.decode s i).1 := by
  unfold Utf8.decode
  simp only [Nat.add_zero]
  rw [if_neg h]
  repeat' split
  all_goals (simp only [Utf8.runeError] at *; try omega)
  all_goals (simp only [Bool.and_eq_true, decide_eq_true_eq, ge_iff_le] at *; omega)
theorem decode_width {s : ByteArray} {i : Nat} : 1 ≤ (Utf8.decode s i).2 := by
  unfold Utf8.decode
  simp only
  repeat' split
  all_goals simp
def allR (p : Int → Bool) (s : ByteArray) : Nat → Nat → Bool
  | 0, _ => true
  | n + 1, i => if i < s.size then p (Utf8.decode s i).1 && allR p s n (i + (Utf8.decode s i).2) else true
theorem get!_mk {a : List UInt8} {i : Nat} (h : i < a.length) : (ByteArray.mk a.toArray).get! i = a[i] := by
  show (ByteArray.mk a.toArray).data[i]! = a[i]
  simp [h]
theorem allR_ascii (p : Int → Bool) (hp : ∀ c : Int, 128 ≤ c → p c = false) (a : List UInt8) : ∀ (n i : Nat), a.length - i ≤ n → allR p ⟨a.toArray⟩ n i = (a.drop i).all (fun b => p b.toNat) := by
  intro n
  induction n with
  | zero => intro i h; rw [List.drop_eq_nil_of_le (by omega)]; rfl
  | succ n ih =>
    intro i h
    simp only [allR, size_mk]
    split
    · rename_i hi
      rw [List.drop_eq_getElem_cons hi, List.all_cons]
      by_cases hl : a[i].toNat < 128
      · rw [decode_low (by rw [get!_mk hi]; exact hl), get!_mk hi]
        simp only
        rw [ih (i + 1) (by omega)]
      · have h1 := decode_high (s := ⟨a.toArray⟩) (i := i) (by rw [get!_mk hi]; exact hl)
        rw [hp _ (by omega), hp _ (by omega)]; rfl
    · rename_i hi; rw [List.drop_eq_nil_of_le (by omega)]; rfl
theorem jn_in {α : Type} {A : (α → World → Prop) → World → Prop} {B : α → (Nat → Value) → World → Prop} (h : A (fun x w => ∀ d, B x d w) w) : jn w A B := jn_mk _ h (fun _ d _ hx => hx d)
theorem dop_val {Tr : World → World → Prop} {A rest : (Value → World → Prop) → Prop} (V : Value) (h : A (fun v _ => v = V)) (hr : rest (fun v _ => v = V)) : dop Tr A rest :=
  dop_mk _ (fun _ _ _ h _ => h) h hr
theorem dr_below {w w0 : World} {A : (World → World → Prop) → (World → Prop) → Prop} (hb : Below w0.heap.size w0 w)
    (h : A (fun w w' => Below w.heap.size w w') (fun w' => Below w0.heap.size w0 w')) : dr w A :=
  dr_mk _ _ hb.drew (fun _ _ h1 h2 => h1.trans (h2.mono h1.size)) h
theorem dk_val {w w' : World} {v V : Value} (hb : Below w.heap.size w w') (h : v = V) : dk (fun w w' => Below w.heap.size w w') (fun v _ => v = V) w v w' := ⟨hb, h⟩
theorem dk_same {w : World} {v V : Value} (h : v = V) : dk (fun w w' => Below w.heap.size w w') (fun v _ => v = V) w v w := ⟨Below.refl _ _, h⟩
theorem extern_call {n : Nat} {fn : Func} {e : Array Value → Sem Value} {xs : List Value} {v : Value} (h1 : P.funcs[n]? = some fn) (h2 : (fn.name == "runtime.NumGoroutine") = false) (h3 : fn.body.isNone = true)
    (h4 : (Extern.findNext fn).isNone = true) (h5 : Extern.find fn = some e) (h6 : (e xs.toArray).run P w = .ok v w) (h : K v w) : callF P n xs w K := by
  have h4' : Extern.findNext fn = none := by simpa using h4
  have h2' : ¬ fn.name = "runtime.NumGoroutine" := by simpa using h2
  have h3' : fn.body = none := by simpa using h3
  unfold callF
  rw [op_eq]
  unfold opDef callFunc
  simp [h1, h2', h3', h4', h5, h6, h]
theorem find_range {α : Type} (p : α → Bool) (p' : Nat → Bool) : ∀ (l : List α), (∀ i (h : i < l.length), p' i = p l[i]) → (List.range l.length).find? p' = l.findIdx? p
  | [], _ => rfl
  | x :: l, h => by
    rw [List.length_cons, List.range_succ_eq_map, List.find?_cons, List.findIdx?_cons]
    have h0 : p' 0 = p x := h 0 (by simp)
    rw [h0]
    cases p x
    · simp only [Bool.false_eq_true, if_false]
      rw [List.find?_map]
      have := find_range p (p' ∘ Nat.succ) l (fun i hi => h (i + 1) (by simpa using hi))
      rw [this]
    · rfl
def Mr := And.intro @pick_true <| And.intro @pick_false <| And.intro @gop_undef <| And.intro @bin_add <| And.intro @bin_sub <| And.intro @bin_mul <| And.intro @bin_lss <| And.intro @bin_leq <| And.intro @bin_gtr <| And.intro @bin_geq <| And.intro @bin_eql <| And.intro @bin_neq <| And.intro @una_not <| And.intro @bin_eql_str <| And.intro @bin_neq_str <| And.intro @ext0 <| And.intro @ext1 <| And.intro @ext0' <| And.intro @ext1' <| And.intro @ext2' <| And.intro @ext00 <| And.intro @pick_and <| And.intro @pick_or <| And.intro @gop_true <| And.intro @gop_false <| And.intro @gop_tf <| And.intro @gop_ft <| And.intro @gop_pure <| And.intro @cnd_true <| @cnd_false
def Mp := And.intro @pick_true <| And.intro @pick_false <| And.intro @gop_undef <| And.intro @bin_add <| And.intro @bin_sub <| And.intro @bin_mul <| And.intro @bin_lss <| And.intro @bin_leq <| And.intro @bin_gtr <| And.intro @bin_geq <| And.intro @bin_eql <| And.intro @bin_neq <| And.intro @una_not <| And.intro @bin_eql_str <| And.intro @bin_neq_str <| And.intro @ext0 <| And.intro @ext1 <| And.intro @ext0' <| And.intro @ext1' <| And.intro @ext2' <| And.intro @ext00 <| And.intro @gop_true <| And.intro @gop_false <| And.intro @gop_tf <| And.intro @gop_ft <| And.intro @cnd_true <| @cnd_false
def Mb := And.intro @Bool.true_eq_false <| And.intro @Bool.false_eq_true <| And.intro @Bool.not_true <| And.intro @Bool.not_false <| And.intro @Bool.and_true <| And.intro @Bool.true_and <| And.intro @Bool.and_false <| And.intro @Bool.false_and <| And.intro @Bool.or_true <| And.intro @Bool.true_or <| And.intro @Bool.or_false <| @Bool.false_or
end Go.Emb

set_option autoImplicit false
namespace Go.Kd
abbrev Str := List UInt8
def great (c : Int) : Bool := decide (65 ≤ c) && decide (c ≤ 90)
def small (c : Int) : Bool := decide (97 ≤ c) && decide (c ≤ 122)
def digit (c : Int) : Bool := decide (48 ≤ c) && decide (c ≤ 57)
def alnum (c : Int) : Bool := great c || small c || digit c
def name (s : Str) : Bool := match s with
  | [] => false
  | c :: _ => decide (s.length ≤ 32) && !digit c.toNat && s.all (fun b => alnum b.toNat)
def clas (s : Str) : Bool := match s with
  | [] => false
  | c :: _ => name s && great c.toNat
def member (s : Str) : Bool := match s with
  | [] => false
  | c :: _ => name s && small c.toNat
def plain (s : Str) : Bool := decide (s = [105, 110, 116]) || decide (s = [98, 111, 111, 108]) || decide (s = [116, 101, 120, 116])
def arr (s : Str) : Bool := decide (2 ≤ s.length) && decide (s.drop (s.length - 2) = [91, 93])
def cutA (s : Str) : Str := s.take (s.length - 2)
def baseN : Nat → Str → Str × Nat
  | 0, s => (s, 0)
  | n + 1, s => if arr s then ((baseN n (cutA s)).1, (baseN n (cutA s)).2 + 1) else (s, 0)
def base (s : Str) : Str × Nat := baseN s.length s
def right (s : Str) : Bool := decide ((base s).2 ≤ 3) && (plain (base s).1 || clas (base s).1)
def elem (s : Str) : Str := if arr s && right s then cutA s else []
def deep (s : Str) : Nat := if right s then (base s).2 else 0
def dot (s : Str) : Str × Str × Bool := match s with
  | [] => ([], [], false)
  | c :: r => if c = 46 then ([], r, true) else ((c :: (dot r).1), (dot r).2.1, (dot r).2.2)
def isParts (s : Str) : Bool := (dot s).2.2 && clas (dot s).1 && member (dot s).2.1
def findB (c : UInt8) (s : Str) : Int := match s.findIdx? (fun b => decide (b = c)) with
  | some i => i
  | none => -1
def dotAt (s : Str) (o : Option Nat) : Str × Str × Bool := match o with
  | some i => (s.take i, s.drop (i + 1), true)
  | none => (s, [], false)
theorem dot_find (s : Str) : dot s = dotAt s (s.findIdx? (fun b => decide (b = 46))) := by
  induction s with
  | nil => rfl
  | cons c r ih =>
    rw [List.findIdx?_cons]
    simp only [dot]
    by_cases h : c = 46
    · simp [h, dotAt]
    · simp only [h, if_false, decide_false, Bool.false_eq_true]
      rw [ih]
      cases r.findIdx? (fun b => decide (b = 46)) with
      | none => simp [dotAt]
      | some i => simp [dotAt]
end Go.Kd

set_option autoImplicit false
set_option linter.unusedSimpArgs false
set_option linter.unusedVariables false
namespace Go.Proofs.YtdnfaboigajkhaaGreatDoor
open Go.Emb Go.RowKit Go.Kd
variable {w : World} {K : Value → World → Prop}
theorem u_string : P.underlying T.string = some .string := by kernel_rfl
theorem u_bool : P.underlying T.bool = some .bool := by kernel_rfl
theorem u_uint8 : P.underlying T.uint8 = some (.int .u8) := by kernel_rfl
theorem u_int32 : P.underlying T.int32 = some (.int .i32) := by kernel_rfl
theorem k_great (c : Int) (h : K (.bool (great c)) w) : callF P F.kind_great [.int .i32 c] w K := r_kind_great (by
  unfold g_kind_great
  (try simp only [↓Mr, Mr, Mb, reduceIte])
  cases h1 : decide (65 ≤ c) <;> simp only [h1, ↓Mr, Mr, Mb, reduceIte] <;> simpa [great, h1] using h)
theorem k_small (c : Int) (h : K (.bool (small c)) w) : callF P F.kind_small [.int .i32 c] w K := r_kind_small (by
  unfold g_kind_small
  (try simp only [↓Mr, Mr, Mb, reduceIte])
  cases h1 : decide (97 ≤ c) <;> simp only [h1, ↓Mr, Mr, Mb, reduceIte] <;> simpa [small, h1] using h)
theorem k_alnum (c : Int) (h : K (.bool (alnum c)) w) : callF P F.kind_Name_1 [.int .i32 c] w K := r_kind_Name_1 (by
  unfold g_kind_Name_1
  refine k_great c ?_
  cases h1 : great c
  · (try simp only [↓Mr, Mr, Mb, reduceIte])
    refine k_small c ?_
    cases h2 : small c
    · (try simp only [↓Mr, Mr, Mb, reduceIte])
      cases h3 : decide (48 ≤ c)
      · (try simp only [↓Mr, Mr, Mb, reduceIte])
        simpa [alnum, digit, h1, h2, h3] using h
      · (try simp only [↓Mr, Mr, Mb, reduceIte])
        simpa [alnum, digit, h1, h2, h3] using h
    · (try simp only [↓Mr, Mr, Mb, reduceIte])
      simpa [alnum, h1, h2] using h
  · (try simp only [↓Mr, Mr, Mb, reduceIte])
    simpa [alnum, h1] using h)
theorem k_all (a : List UInt8) (f : Value) (p : Int → Bool) (hf : ∀ (c : Int) (w : World) (K : Value → World → Prop), K (.bool (p c)) w → callV P f [.int .i32 c] w K)
    (h : ∀ w', Below w.heap.size w w' → K (.bool (allR p ⟨a.toArray⟩ a.length 0)) w') : callF P F.kind_all [S a, f] w K := r_kind_all (by
  unfold g_kind_all
  rw [rng_str u_string]
  refine lp_mk (fun _ w' => ∃ pos n : Nat, a.length - pos ≤ n ∧ allR p ⟨a.toArray⟩ a.length 0 = allR p ⟨a.toArray⟩ n pos ∧ Below w.heap.size w w' ∧ w'.heap[w.heap.size]? = some (.stringIter ⟨a.toArray⟩ pos))
    (fun _ w' => match w'.heap[w.heap.size]? with | some (.stringIter _ pos) => a.length - pos | _ => 0) ⟨0, a.length, by omega, rfl, (Below.refl _ _).alloc (Nat.le_refl _) _, heap_alloc_new w _⟩ ?_
  rintro _ _ w1 ⟨pos, n, hn, he, hb, hi⟩
  by_cases hp : pos < a.length
  · rw [nxt_str hi (by rw [size_mk]; exact hp)]
    (try simp only [↓Mr, Mr, Mb, reduceIte])
    refine hf _ _ _ ?_
    obtain ⟨n, rfl⟩ : ∃ m, n = m + 1 := ⟨n - 1, by omega⟩
    simp only [allR, size_mk, hp, if_true] at he
    have hw := decode_width (s := ⟨a.toArray⟩) (i := pos)
    have hsz : w.heap.size < w1.heap.size := (Array.getElem?_eq_some_iff.1 hi).1
    cases hc : p (Utf8.decode ⟨a.toArray⟩ pos).1
    · (try simp only [↓Mr, Mr, Mb, reduceIte])
      rw [hc] at he
      have := h _ (below_put (o := .stringIter ⟨a.toArray⟩ (pos + (Utf8.decode ⟨a.toArray⟩ pos).2)) hb (Nat.le_refl _))
      rw [he] at this
      exact this
    · (try simp only [↓Mr, Mr, Mb, reduceIte])
      rw [hc] at he
      refine ⟨⟨_, n, ?_, he, below_put hb (Nat.le_refl _), put_get hsz⟩, ?_⟩
      · omega
      · simp only [put_get hsz, hi]; omega
  · rw [nxt_str_end hi (by rw [size_mk]; exact hp)]
    (try simp only [↓Mr, Mr, Mb, reduceIte])
    have : allR p ⟨a.toArray⟩ n pos = true := by
      cases n with
      | zero => rfl
      | succ n => simp only [allR, size_mk, hp, if_false]
    rw [← this, ← he]
    exact h _ hb)
theorem alnum_high (c : Int) (h : 128 ≤ c) : alnum c = false := by
  simp [alnum, great, small, digit]; omega
theorem k_Name (a : List UInt8) (ha : a.length ≤ 140737488355328) (h : ∀ w', Below w.heap.size w w' → K (.bool (name a)) w') : callF P F.kind_Name [S a] w K := r_kind_Name (by
  unfold g_kind_Name
  have fin : ∀ c r, a = c :: r → (decide (a.length ≤ 32) && !digit c.toNat) = true → callF P F.kind_all [S a, (.func (.func F.kind_Name_1) #[] #[])] w K := by
    intro c r hc h1
    refine k_all a _ alnum (fun c w K h => callV_func (first := []) (caps := []) (k_alnum c h)) fun w' hb => ?_
    rw [allR_ascii _ alnum_high a _ _ (by omega)]
    have := h w' hb
    rw [hc] at this h1 ⊢
    simp only [name] at this
    rw [h1, Bool.true_and] at this
    simpa using this
  cases a with
  | nil =>
    simp only [↓Mr, Mr, Mb, reduceIte, decide_true]
    exact h w (Below.refl _ _)
  | cons c r =>
    have hne : decide (c :: r = []) = false := by simp
    simp only [↓Mr, Mr, Mb, reduceIte, hne, len_str u_string]
    by_cases hl : (c :: r).length ≤ 32
    · have hl' : r.length ≤ 31 := by simpa using hl
      have h1 : decide ((32 : Int) < ((c :: r).length : Int)) = false := by simp only [decide_eq_false_iff_not]; omega
      simp only [↓Mr, Mr, Mb, reduceIte, h1]
      rw [idx_str u_string (by omega) (by simp)]
      (try simp only [↓Mr, Mr, Mb, reduceIte])
      have hi : (c :: r)[(0 : Int).toNat]'(by simp) = c := rfl
      simp only [hi]
      cases h2 : decide ((48 : Int) ≤ (c.toNat : Int))
      · (try simp only [↓Mr, Mr, Mb, reduceIte])
        exact fin c r rfl (by simp [digit, hl', h2])
      · (try simp only [↓Mr, Mr, Mb, reduceIte])
        rw [idx_str u_string (by omega) (by simp)]
        simp only [↓Mr, Mr, Mb, reduceIte, hi]
        cases h3 : decide ((c.toNat : Int) ≤ 57)
        · (try simp only [↓Mr, Mr, Mb, reduceIte])
          exact fin c r rfl (by simp only [digit, h2, h3]; simp [hl'])
        · (try simp only [↓Mr, Mr, Mb, reduceIte])
          have : name (c :: r) = false := by simp only [name, digit, h2, h3]; simp
          rw [← this]; exact h w (Below.refl _ _)
    · have h1 : decide ((32 : Int) < ((c :: r).length : Int)) = true := by simp only [decide_eq_true_eq]; omega
      simp only [↓Mr, Mr, Mb, reduceIte, h1]
      have : name (c :: r) = false := by simp only [name]; rw [decide_eq_false hl]; rfl
      rw [← this]; exact h w (Below.refl _ _))
theorem k_Class (a : List UInt8) (ha : a.length ≤ 140737488355328) (h : ∀ w', Below w.heap.size w w' → K (.bool (clas a)) w') : callF P F.kind_Class [S a] w K := r_kind_Class (by
  unfold g_kind_Class
  refine k_Name a ha fun w1 hb => ?_
  cases a with
  | nil =>
    simp only [name, ↓Mr, Mr, Mb, reduceIte]
    exact h w1 hb
  | cons c r =>
    cases hn : name (c :: r)
    · (try simp only [↓Mr, Mr, Mb, reduceIte])
      have := h w1 hb
      simp only [clas, hn] at this
      simpa using this
    · (try simp only [↓Mr, Mr, Mb, reduceIte])
      rw [idx_str u_string (by omega) (by simp)]
      have hi : (c :: r)[(0 : Int).toNat]'(by simp) = c := rfl
      simp only [hi]
      rw [conv_int u_uint8 u_int32, w32 (by omega) (by have := c.toNat_lt; omega)]
      refine k_great _ ?_
      (try simp only [↓Mr, Mr, Mb, reduceIte])
      have := h w1 hb
      simp only [clas, hn] at this
      simpa using this)
theorem k_Plain (a : List UInt8) (h : K (.bool (plain a)) w) : callF P F.kind_Plain [S a] w K := r_kind_Plain (by
  unfold g_kind_Plain
  (try simp only [↓Mr, Mr, Mb, reduceIte])
  cases h1 : decide (a = [105, 110, 116]) <;> (try simp only [↓Mr, Mr, Mb, reduceIte])
  · cases h2 : decide (a = [98, 111, 111, 108]) <;> (try simp only [↓Mr, Mr, Mb, reduceIte]) <;> simpa [plain, h1, h2] using h
  · simpa [plain, h1] using h)
def hasSuf (a b : List UInt8) : Bool := decide (b.length ≤ a.length) && decide (a.drop (a.length - b.length) = b)
theorem k_sl_HasSuffix (a b : List UInt8) (ha : a.length ≤ 140737488355328) (hb : b.length ≤ 140737488355328) (h : K (.bool (hasSuf a b)) w) : callF P F.stringslite_HasSuffix [S a, S b] w K := r_stringslite_HasSuffix (by
  unfold g_stringslite_HasSuffix
  rw [len_str u_string, len_str u_string]
  (try simp only [↓Mr, Mr, Mb, reduceIte])
  by_cases hl : b.length ≤ a.length
  · have h1 : decide ((b.length : Int) ≤ a.length) = true := by simp only [decide_eq_true_eq]; omega
    simp only [↓Mr, Mr, Mb, reduceIte, h1, len_str u_string]
    rw [w64 (by omega) (by omega), slc_str_lo u_string (by omega) (by omega)]
    (try simp only [↓Mr, Mr, Mb, reduceIte])
    rw [show ((a.length : Int) - b.length).toNat = a.length - b.length from by omega]
    simpa [hasSuf, hl] using h
  · have h1 : decide ((b.length : Int) ≤ a.length) = false := by simp only [decide_eq_false_iff_not]; omega
    simp only [↓Mr, Mr, Mb, reduceIte, h1]
    simpa [hasSuf, hl] using h)
theorem k_HasSuffix (a b : List UInt8) (ha : a.length ≤ 140737488355328) (hb : b.length ≤ 140737488355328) (h : K (.bool (hasSuf a b)) w) : callF P F.strings_HasSuffix [S a, S b] w K := r_strings_HasSuffix (by
  unfold g_strings_HasSuffix
  exact k_sl_HasSuffix a b ha hb h)
def trimSuf (a b : List UInt8) : List UInt8 := if hasSuf a b then a.take (a.length - b.length) else a
theorem hasSuf_le {a b : List UInt8} (h : hasSuf a b = true) : b.length ≤ a.length := by
  simp only [hasSuf, Bool.and_eq_true, decide_eq_true_eq] at h; exact h.1
theorem k_TrimSuffix (a b : List UInt8) (ha : a.length ≤ 140737488355328) (hb : b.length ≤ 140737488355328) (h : K (S (trimSuf a b)) w) : callF P F.strings_TrimSuffix [S a, S b] w K := r_strings_TrimSuffix (by
  unfold g_strings_TrimSuffix
  refine r_stringslite_TrimSuffix ?_
  unfold g_stringslite_TrimSuffix
  refine k_sl_HasSuffix a b ha hb ?_
  cases hs : hasSuf a b
  · (try simp only [↓Mr, Mr, Mb, reduceIte])
    simpa [trimSuf, hs] using h
  · have hl := hasSuf_le hs
    simp only [↓Mr, Mr, Mb, reduceIte, len_str u_string]
    rw [w64 (by omega) (by omega), slc_str_hi u_string (by omega) (by omega)]
    rw [show ((a.length : Int) - b.length).toNat = a.length - b.length from by omega]
    simpa [trimSuf, hs] using h)
theorem k_CutSuffix (a b : List UInt8) (ha : a.length ≤ 140737488355328) (hb : b.length ≤ 140737488355328) (h : K (.tuple #[S (trimSuf a b), .bool (hasSuf a b)]) w) : callF P F.strings_CutSuffix [S a, S b] w K := r_strings_CutSuffix (by
  unfold g_strings_CutSuffix
  refine r_stringslite_CutSuffix ?_
  unfold g_stringslite_CutSuffix
  refine k_sl_HasSuffix a b ha hb ?_
  cases hs : hasSuf a b
  · (try simp only [↓Mr, Mr, Mb, reduceIte])
    simpa [trimSuf, hs] using h
  · have hl := hasSuf_le hs
    simp only [↓Mr, Mr, Mb, reduceIte, len_str u_string]
    rw [w64 (by omega) (by omega), slc_str_hi u_string (by omega) (by omega)]
    rw [show ((a.length : Int) - b.length).toNat = a.length - b.length from by omega]
    (try simp only [↓Mr, Mr, Mb, reduceIte])
    simpa [trimSuf, hs] using h)
theorem hasSuf_arr (a : List UInt8) : hasSuf a [91, 93] = arr a := rfl
theorem trimSuf_arr (a : List UInt8) : trimSuf a [91, 93] = if arr a then Kd.cutA a else a := rfl
theorem cutA_length {a : List UInt8} (h : arr a = true) : (Kd.cutA a).length + 2 = a.length := by
  simp only [arr, Bool.and_eq_true, decide_eq_true_eq] at h
  simp only [Kd.cutA, List.length_take]; omega
theorem baseN_fuel : ∀ (n m : Nat) (a : List UInt8), a.length ≤ n → a.length ≤ m → baseN n a = baseN m a
  | 0, 0, a, _, _ => rfl
  | 0, m + 1, a, h, _ => by
    have : a = [] := List.eq_nil_of_length_eq_zero (by omega)
    subst this; rfl
  | n + 1, 0, a, _, h => by
    have : a = [] := List.eq_nil_of_length_eq_zero (by omega)
    subst this; rfl
  | n + 1, m + 1, a, h1, h2 => by
    simp only [baseN]
    split
    · rename_i h
      have := cutA_length h
      rw [baseN_fuel n m (Kd.cutA a) (by omega) (by omega)]
    · rfl
theorem base_eq (a : List UInt8) : base a = if arr a then ((base (Kd.cutA a)).1, (base (Kd.cutA a)).2 + 1) else (a, 0) := by
  unfold base
  cases hl : a.length with
  | zero =>
    have : a = [] := List.eq_nil_of_length_eq_zero hl
    subst this; rfl
  | succ n =>
    simp only [baseN]
    split
    · rename_i h
      have := cutA_length h
      rw [baseN_fuel n (Kd.cutA a).length (Kd.cutA a) (by omega) (Nat.le_refl _)]
    · rfl
theorem base_le (a : List UInt8) : (base a).1.length + 2 * (base a).2 = a.length := by
  have key : ∀ n (a : List UInt8), (baseN n a).1.length + 2 * (baseN n a).2 = a.length := by
    intro n
    induction n with
    | zero => intro a; simp [baseN]
    | succ n ih =>
      intro a
      simp only [baseN]
      split
      · rename_i h
        have := cutA_length h
        have := ih (Kd.cutA a)
        simp only; omega
      · simp
  exact key _ a
theorem k_base (a : List UInt8) (ha : a.length ≤ 140737488355328) (h : K (.tuple #[S (base a).1, I (base a).2]) w) : callF P F.kind_base [S a] w K := r_kind_base (by
  unfold g_kind_base
  refine lp_mk (fun x w' => w' = w ∧ ∃ (b : List UInt8) (n : Nat), x = (S b, I n) ∧ b.length + 2 * n = a.length ∧ base a = ((base b).1, (base b).2 + n)) (fun x _ => match x.1 with | .string s => s.size | _ => 0)
    ⟨rfl, a, 0, rfl, by omega, rfl⟩ ?_
  rintro _ _ _ ⟨rfl, b, n, rfl, hl, he⟩
  refine k_HasSuffix b _ (by omega) (by simp) ?_
  rw [hasSuf_arr]
  cases hb : arr b
  · (try simp only [↓Mr, Mr, Mb, reduceIte])
    rw [base_eq b, hb] at he
    simp only [Bool.false_eq_true, if_false, Nat.zero_add] at he
    rw [he] at h; exact h
  · (try simp only [↓Mr, Mr, Mb, reduceIte])
    refine k_TrimSuffix b _ (by omega) (by simp) ?_
    rw [trimSuf_arr, hb]
    simp only [↓Mr, Mr, Mb, reduceIte, if_true]
    have hc := cutA_length hb
    rw [w64 (by omega) (by omega)]
    refine ⟨⟨by first | rfl | trivial, Kd.cutA b, n + 1, by simp, by omega, ?_⟩, ?_⟩
    · rw [he, base_eq b, hb]; simp; omega
    · simp only [size_mk]; omega)
theorem k_Right (a : List UInt8) (ha : a.length ≤ 140737488355328) (h : ∀ w', Below w.heap.size w w' → K (.bool (right a)) w') : callF P F.kind_Right [S a] w K := r_kind_Right (by
  unfold g_kind_Right
  have hbl := base_le a
  refine k_base a ha ?_
  (try simp only [↓Mr, Mr, Mb, reduceIte])
  by_cases hn : (base a).2 ≤ 3
  · have h1 : decide (((base a).2 : Int) ≤ 3) = true := by simp only [decide_eq_true_eq]; omega
    simp only [↓Mr, Mr, Mb, reduceIte, h1]
    refine k_Plain _ ?_
    cases hp : plain (base a).1
    · (try simp only [↓Mr, Mr, Mb, reduceIte])
      refine k_Class _ (by omega) fun w1 hb => ?_
      (try simp only [↓Mr, Mr, Mb, reduceIte])
      have := h w1 hb
      simp only [right, hn, hp] at this
      simpa using this
    · (try simp only [↓Mr, Mr, Mb, reduceIte])
      have := h w (Below.refl _ _)
      simp only [right, hn, hp] at this
      simpa using this
  · have h1 : decide (((base a).2 : Int) ≤ 3) = false := by simp only [decide_eq_false_iff_not]; omega
    simp only [↓Mr, Mr, Mb, reduceIte, h1]
    have := h w (Below.refl _ _)
    simp only [right, hn] at this
    simpa using this)
theorem k_Elem (a : List UInt8) (ha : a.length ≤ 140737488355328) (h : ∀ w', Below w.heap.size w w' → K (S (elem a)) w') : callF P F.kind_Elem [S a] w K := r_kind_Elem (by
  unfold g_kind_Elem
  refine k_CutSuffix a _ ha (by simp) ?_
  rw [hasSuf_arr, trimSuf_arr]
  (try simp only [↓Mr, Mr, Mb, reduceIte])
  cases hb : arr a
  · (try simp only [↓Mr, Mr, Mb, reduceIte])
    have := h w (Below.refl _ _)
    simp only [elem, hb] at this
    exact this
  · (try simp only [↓Mr, Mr, Mb, reduceIte])
    refine k_Right a ha fun w1 hw => ?_
    have := h w1 hw
    cases hr : right a
    · (try simp only [↓Mr, Mr, Mb, reduceIte])
      simp only [elem, hb, hr] at this
      exact this
    · simp only [↓Mr, Mr, Mb, reduceIte, if_true]
      simp only [elem, hb, hr] at this
      exact this)
theorem k_Deep (a : List UInt8) (ha : a.length ≤ 140737488355328) (h : ∀ w', Below w.heap.size w w' → K (I (deep a)) w') : callF P F.kind_Deep [S a] w K := r_kind_Deep (by
  unfold g_kind_Deep
  refine k_base a ha ?_
  (try simp only [↓Mr, Mr, Mb, reduceIte])
  refine k_Right a ha fun w1 hw => ?_
  have := h w1 hw
  cases hr : right a <;> (try simp only [↓Mr, Mr, Mb, reduceIte]) <;> simpa [deep, hr] using this)
end Go.Proofs.YtdnfaboigajkhaaGreatDoor

set_option autoImplicit false
set_option linter.unusedSimpArgs false
set_option linter.unusedVariables false
namespace Go.Proofs.YtdnfaboigajkhaaGreatDoor
open Go.Emb Go.RowKit Go.Kd
variable {w : World} {K : Value → World → Prop}
theorem k_IndexByteString (a : List UInt8) (c : UInt8) (h : K (I (findB c a)) w) : callF P F.bytealg_IndexByteString [S a, .int .u8 c.toNat] w K := by
  refine extern_call (e := Extern.BytealgIndexByte.indexByte) Tryz.func193 (by decide) rfl (by kernel_rfl) (by kernel_rfl) ?_ h
  have e1 : ((List.range (ByteArray.mk a.toArray).size).find? fun i => (ByteArray.mk a.toArray)[i]! == c) = a.findIdx? (fun b => decide (b = c)) := by
    rw [size_mk]
    refine find_range _ _ a fun i hi => ?_
    have : (ByteArray.mk a.toArray)[i]! = a[i] := by
      rw [getElem!_pos _ _ (by rw [size_mk]; exact hi)]; rfl
    rw [this, Bool.eq_iff_iff]; simp
  have e2 : ((c.toNat : Int).toNat.toUInt8) = c := by simp
  have := run_indexByte_string (P := P) ⟨a.toArray⟩ c.toNat w
  rw [e2] at this
  refine this.trans ?_
  unfold firstIdx findB
  rw [e1]
  cases a.findIdx? (fun b => decide (b = c)) <;> rfl
theorem k_Index1 (a : List UInt8) (c : UInt8) (h : K (I (findB c a)) w) : callF P F.stringslite_Index [S a, S [c]] w K := r_stringslite_Index (by
  unfold g_stringslite_Index
  simp only [len_str u_string]
  have d0 : decide ((([c] : List UInt8).length : Int) = 0) = false := rfl
  have d1 : decide ((([c] : List UInt8).length : Int) = 1) = true := rfl
  simp only [bin_eql, d0, d1]
  simp only [↓Mr, Mr, Mb, reduceIte]
  have fin : idx P T.string (S [c]) (I 0) w fun t29 w => callF P F.stringslite_IndexByte [S a, t29] w fun t30 w => K t30 w := by
    rw [idx_str u_string (by omega) (by simp)]
    refine r_stringslite_IndexByte ?_
    unfold g_stringslite_IndexByte
    exact k_IndexByteString a c h
  cases hd : decide ([c] = a)
  · (try simp only [↓Mr, Mr, Mb, reduceIte])
    exact fin
  · (try simp only [↓Mr, Mr, Mb, reduceIte])
    have he : [c] = a := by simpa using hd
    have : findB c a = 0 := by rw [← he]; simp [findB, List.findIdx?_cons]
    rw [this] at h; exact h)
theorem findB_lt {c : UInt8} {a : List UInt8} {i : Nat} (h : a.findIdx? (fun b => decide (b = c)) = some i) : i < a.length := by
  have := List.findIdx?_eq_some_iff_getElem.1 h
  exact this.1
theorem k_Cut (a : List UInt8) (ha : a.length ≤ 140737488355328) (h : ∀ w', Below w.heap.size w w' → K (.tuple #[S (dot a).1, S (dot a).2.1, .bool (dot a).2.2]) w') : callF P F.strings_Cut [S a, S [46]] w K := r_strings_Cut (by
  unfold g_strings_Cut
  refine r_stringslite_Cut ?_
  unfold g_stringslite_Cut
  refine k_Index1 a 46 ?_
  rw [dot_find] at h
  unfold findB
  cases hf : a.findIdx? (fun b => decide (b = 46)) with
  | none =>
    simp only [↓Mr, Mr, Mb, reduceIte, show decide ((0 : Int) ≤ -1) = false from rfl]
    have := h w (Below.refl _ _)
    rw [hf] at this; exact this
  | some i =>
    have hi := findB_lt hf
    have h1 : decide ((0 : Int) ≤ (i : Int)) = true := by simp
    simp only [bin_geq, h1]
    simp only [↓Mr, Mr, Mb, reduceIte]
    refine dr_below (Below.refl _ w) ?_
    refine dop_val (S (a.take i)) (fun w1 _ => ?_) ?_
    · rw [slc_str_hi u_string (by omega) (by omega)]; exact dk_same (by simp)
    refine dop_val (I 1) (fun w1 _ => ?_) ?_
    · rw [len_str u_string]; exact dk_same rfl
    refine dop_val (I (i + 1)) ?_ ?_
    · rintro _ w1 _ rfl
      rw [bin_add, w64 (by omega) (by omega)]; exact dk_same rfl
    refine dop_val (S (a.drop (i + 1))) ?_ ?_
    · rintro _ w1 _ rfl
      rw [slc_str_lo u_string (by omega) (by omega)]; exact dk_same (by simp)
    rintro _ _ _ _ w1 hb rfl rfl rfl rfl
    (try simp only [↓Mr, Mr, Mb, reduceIte])
    have := h w1 hb
    rw [hf] at this; exact this)
theorem k_Parts (a : List UInt8) (ha : a.length ≤ 140737488355328) (h : ∀ w', Below w.heap.size w w' → K (if isParts a then .tuple #[S (dot a).1, S (dot a).2.1, I 0] else .tuple #[S [], S [], I 30]) w') : callF P F.kind_Parts [S a] w K := r_kind_Parts (by
  unfold g_kind_Parts
  refine k_Cut a ha fun w1 hb1 => ?_
  have hl : (dot a).1.length ≤ a.length ∧ (dot a).2.1.length ≤ a.length := by
    rw [dot_find]
    cases a.findIdx? (fun b => decide (b = 46)) <;> simp [dotAt]
    omega
  generalize hp : (dot a).1 = p at h hl
  generalize hq : (dot a).2.1 = q at h hl
  have hi : isParts a = ((dot a).2.2 && clas p && member q) := by rw [isParts, hp, hq]
  cases hd : (dot a).2.2
  · simp only [↓Mr, Mr, Mb, reduceIte]
    have := h w1 hb1
    rw [hi, hd] at this; simpa using this
  · simp only [↓Mr, Mr, Mb, reduceIte]
    refine k_Class p (by omega) fun w2 hb2 => ?_
    have hb12 := hb1.trans (hb2.mono hb1.size)
    cases hc : clas p
    · (try simp only [↓Mr, Mr, Mb, reduceIte])
      have := h w2 hb12
      rw [hi, hd, hc] at this; simpa using this
    · (try simp only [↓Mr, Mr, Mb, reduceIte])
      refine k_Name q (by omega) fun w3 hb3 => ?_
      have hb13 := hb12.trans (hb3.mono hb12.size)
      have := h w3 hb13
      rw [hi, hd, hc] at this
      cases hn : name q
      · (try simp only [↓Mr, Mr, Mb, reduceIte])
        have hm : member q = false := by cases q with | nil => rfl | cons c r => simp [member, hn]
        rw [hm] at this; simpa using this
      · (try simp only [↓Mr, Mr, Mb, reduceIte])
        cases q with
        | nil => simp [name] at hn
        | cons c r =>
          rw [idx_str u_string (by omega) (by simp)]
          have hi0 : (c :: r)[(0 : Int).toNat]'(by simp) = c := rfl
          (try simp only [↓Mr, Mr, Mb, reduceIte])
          rw [hi0, conv_int u_uint8 u_int32, w32 (by omega) (by have := c.toNat_lt; omega)]
          refine k_small _ ?_
          have hm : member (c :: r) = small c.toNat := by simp [member, hn]
          rw [hm] at this
          cases hs : small c.toNat <;> (try simp only [↓Mr, Mr, Mb, reduceIte]) <;> rw [hs] at this <;> simpa using this)
theorem head_alnum {c : UInt8} {r : List UInt8} (h : name (c :: r) = true) : alnum c.toNat = true ∧ digit c.toNat = false := by
  simp only [name, Bool.and_eq_true, List.all_cons, Bool.not_eq_true'] at h
  exact ⟨h.2.1, h.1.2⟩
end Go.Proofs.YtdnfaboigajkhaaGreatDoor

set_option autoImplicit false
set_option linter.unusedSimpArgs false
set_option linter.unusedVariables false
namespace Go.Emb
open Go.RowKit
class TZ (P : Program) (t : TypeId) (sz b : outParam Nat) (z : outParam Value) : Prop where
  h : (P.info? t).map (fun i => (i.size, i.bytes, i.zero)) = some (sz, b, some z)
def isAggD : Option TypeDesc → Bool
  | some (.struct _) => true
  | some (.array _ _) => true
  | none => true
  | _ => false
class TG (P : Program) (t : TypeId) (g : outParam Bool) : Prop where
  h : (isAggD (P.underlying t), (P.underlying t).isSome) = (g, true)
class TS (P : Program) (t : TypeId) (e : outParam TypeId) : Prop where
  h : P.underlying t = some (.slice e)
class TA (P : Program) (t : TypeId) (n : outParam Nat) (e : outParam TypeId) : Prop where
  h : P.underlying t = some (.array n e)
class TM (P : Program) (t : TypeId) (k e : outParam TypeId) : Prop where
  h : P.underlying t = some (.map k e)
def fieldOf (d : Option TypeDesc) (k : Nat) : Option (Nat × TypeId) := match d with
  | some (.struct fs) => (fs[k]?).map fun f => (f.offset, f.type)
  | _ => none
class TF (P : Program) (t : TypeId) (k : Nat) (off : outParam Nat) (ft : outParam TypeId) : Prop where
  h : fieldOf (P.underlying t) k = some (off, ft)
variable {P : Program} {w w0 w1 w' w'' : World} {K : Value → World → Prop}
theorem TZ.info {t : TypeId} {sz b : Nat} {z : Value} (h : TZ P t sz b z) : ∃ i, P.info? t = some i ∧ i.size = sz ∧ i.bytes = b ∧ i.zero = some z := by
  obtain ⟨i, hi, e⟩ := Option.map_eq_some_iff.1 h.h
  simp only [Prod.mk.injEq] at e
  exact ⟨i, hi, e.1, e.2.1, e.2.2⟩
theorem run_sizeOf_of {t : TypeId} {sz b : Nat} {z : Value} (h : TZ P t sz b z) (w : World) : (sizeOf t).run P w = .ok sz w := by
  obtain ⟨i, hi, rfl, _⟩ := h.info
  simp [sizeOf, typeInfo, hi]
theorem run_zero_of {t : TypeId} {sz b : Nat} {z : Value} (h : TZ P t sz b z) (w : World) : (zeroValue t).run P w = .ok z w := by
  obtain ⟨i, hi, _, _, hz⟩ := h.info
  simp [zeroValue, typeInfo, hi, hz]
theorem run_isAgg_of {t : TypeId} {g : Bool} (h : TG P t g) (w : World) : (isAgg t).run P w = .ok g w := by
  have hh := h.h
  simp only [Prod.mk.injEq] at hh
  obtain ⟨h1, h2⟩ := hh
  cases hu : P.underlying t with
  | none => rw [hu] at h2; cases h2
  | some d =>
    rw [hu] at h1
    have := run_underlying (P := P) (w := w) hu
    simp only [isAgg, Sem.run_bind, this, Result.andThen_ok]
    cases d <;> simp_all [isAggD]
theorem add_add (a : Addr) (i j : Nat) : (a.add i).add j = a.add (i + j) := by
  unfold Addr.add
  by_cases hi : i = 0
  · simp [hi]
  · by_cases hj : j = 0
    · simp [hj]
    · simp [hi, hj, Nat.add_assoc]
theorem add_zero (a : Addr) : a.add 0 = a := by simp [Addr.add]
theorem add_block (a : Addr) (i : Nat) : (a.add i).block = a.block := by unfold Addr.add; split <;> rfl
theorem add_off (a : Addr) (i : Nat) : (a.add i).off = a.off + i := by unfold Addr.add; split <;> simp_all
theorem add_spot {a : Addr} (h : a.spot = none) (i : Nat) : (a.add i).spot = none := by unfold Addr.add; split <;> simp_all
abbrev Store := Nat → Option Obj
def Sat (w : World) (σ : Store) : Prop := ∀ b o, σ b = some o → w.heap[b]? = some o
structure Stp (w : World) (σ : Store) (w' : World) (σ' : Store) : Prop where
  bel : Below w.heap.size w w'
  sat : Sat w' σ'
  le : ∀ b o, σ b = some o → σ' b = some o
  old : ∀ b, b < w.heap.size → σ' b = σ b
theorem Sat.lt {σ : Store} (h : Sat w σ) {b : Nat} {o : Obj} (hb : σ b = some o) : b < w.heap.size := (Array.getElem?_eq_some_iff.1 (h b o hb)).1
theorem Sat.below {σ : Store} (h : Sat w σ) (hb : Below w.heap.size w w') : Sat w' σ := fun b o e => (hb.block b (h.lt e)).trans (h b o e)
theorem Stp.refl {σ : Store} (h : Sat w σ) : Stp w σ w σ := ⟨Below.refl _ _, h, fun _ _ e => e, fun _ _ => rfl⟩
theorem Stp.trans {σ0 σ1 σ2 : Store} (h : Stp w σ0 w' σ1) (k : Stp w' σ1 w'' σ2) : Stp w σ0 w'' σ2 :=
  ⟨h.bel.trans (k.bel.mono h.bel.size), k.sat, fun b o e => k.le b o (h.le b o e), fun b hb => (k.old b (Nat.lt_of_lt_of_le hb h.bel.size)).trans (h.old b hb)⟩
theorem Stp.of_below {σ : Store} (h : Sat w σ) (hb : Below w.heap.size w w') : Stp w σ w' σ := ⟨hb, h.below hb, fun _ _ e => e, fun _ _ => rfl⟩
def Store.put (σ : Store) (b : Nat) (o : Obj) : Store := fun k => if k = b then some o else σ k
theorem Sat.none {σ : Store} (h : Sat w σ) {b : Nat} (hb : w.heap.size ≤ b) : σ b = none := by
  cases e : σ b with
  | none => rfl
  | some o => have := h.lt e; omega
theorem Stp.alloc {σ : Store} (h : Sat w σ) (o : Obj) : Stp w σ (w.alloc o) (σ.put w.heap.size o) := by
  refine ⟨(Below.refl _ _).alloc (Nat.le_refl _) o, ?_, ?_, ?_⟩
  · intro b p e
    by_cases hb : b = w.heap.size
    · subst hb
      simp only [Store.put, if_true] at e
      cases e
      exact heap_alloc_new w o
    · simp only [Store.put, if_neg hb] at e
      rw [Below.heap_alloc w o b (h.lt e)]; exact h b p e
  · intro b p e
    have := h.lt e
    simp only [Store.put]; rw [if_neg (by omega)]; exact e
  · intro b hb
    simp only [Store.put]; rw [if_neg (by omega)]
theorem Stp.own {σ : Store} (h : Sat w σ) (o : Obj) : Stp w σ (w.alloc o) σ := Stp.of_below h ((Below.refl _ _).alloc (Nat.le_refl _) o)
def Lies (σ : Store) (a : Addr) (cs : List Value) : Prop := a.spot = none ∧ ∃ arr e fr, σ a.block = some (.cells arr e fr) ∧ ∀ i v, cs[i]? = some v → arr[a.off + i]? = some v
theorem Lies.up {σ σ' : Store} {a : Addr} {cs : List Value} (h : Lies σ a cs) (hk : Stp w σ w' σ') : Lies σ' a cs := by
  obtain ⟨h1, arr, e, fr, h2, h3⟩ := h
  exact ⟨h1, arr, e, fr, hk.le _ _ h2, h3⟩
theorem Lies.cell {σ : Store} {a : Addr} {cs : List Value} (h : Lies σ a cs) (hs : Sat w σ) {i : Nat} {v : Value} (hv : cs[i]? = some v) : w.cell? (a.add i) = some v := by
  obtain ⟨h1, arr, e, fr, h2, h3⟩ := h
  have := hs _ _ h2
  unfold World.cell?
  rw [add_block, this, add_off, add_spot h1]
  exact h3 i v hv
def Mine (σ : Store) (w : World) (b : Nat) (cs : List Value) : Prop := σ b = none ∧ ∃ e, w.heap[b]? = some (.cells cs.toArray e (0, 0))
theorem Mine.lt {σ : Store} {b : Nat} {cs : List Value} (h : Mine σ w b cs) : b < w.heap.size := by
  obtain ⟨_, e, h⟩ := h
  exact (Array.getElem?_eq_some_iff.1 h).1
theorem Mine.up {σ σ' : Store} {b : Nat} {cs : List Value} (h : Mine σ w b cs) (hk : Stp w σ w' σ') : Mine σ' w' b cs := by
  have hl := h.lt
  obtain ⟨h1, e, h2⟩ := h
  exact ⟨(hk.old b hl).trans h1, e, (hk.bel.block b hl).trans h2⟩
theorem Mine.cell {σ : Store} {b : Nat} {cs : List Value} (h : Mine σ w b cs) {i : Nat} {v : Value} (hv : cs[i]? = some v) : w.cell? ((⟨b, 0, none⟩ : Addr).add i) = some v := by
  obtain ⟨_, e, h2⟩ := h
  unfold World.cell?
  rw [add_block, add_off, add_spot rfl]
  simp only [h2]
  simpa using hv
theorem Mine.keep {σ σ0 : Store} {b : Nat} {cs : List Value} (h : Mine σ w b cs) (hk : Stp w0 σ0 w σ) (hb : w0.heap.size ≤ b) : ∃ σ', Stp w0 σ0 w σ' ∧ Lies σ' ⟨b, 0, none⟩ cs ∧ (∀ k o, σ k = some o → σ' k = some o) ∧ (∀ k, k ≠ b → σ' k = σ k) := by
  obtain ⟨h1, e, h2⟩ := h
  refine ⟨σ.put b (.cells cs.toArray e (0, 0)), ⟨hk.bel, ?_, ?_, ?_⟩, ⟨rfl, cs.toArray, e, (0, 0), by simp [Store.put], ?_⟩, ?_, ?_⟩
  · intro k o ho
    by_cases hkb : k = b
    · subst hkb; simp only [Store.put, if_true] at ho; cases ho; exact h2
    · simp only [Store.put, if_neg hkb] at ho; exact hk.sat k o ho
  · intro k o ho
    by_cases hkb : k = b
    · subst hkb; have := hk.le _ _ ho; rw [h1] at this; cases this
    · simp only [Store.put, if_neg hkb]; exact hk.le _ _ ho
  · intro k hlt
    simp only [Store.put]; rw [if_neg (by omega)]; exact hk.old k hlt
  · intro i v hv; simpa using hv
  · intro k o ho
    by_cases hkb : k = b
    · subst hkb; rw [h1] at ho; cases ho
    · simp only [Store.put, if_neg hkb]; exact ho
  · intro k hkb; simp only [Store.put, if_neg hkb]
theorem run_box (t : TypeId) (v : Value) (w : World) : (Instr.box t v).run P w = .ok (.pointer (some ⟨w.heap.size, 0, none⟩)) (w.alloc (.cells v.cells t)) := by
  simp [Instr.box, newVar, newRow]
theorem mine_alloc {σ : Store} (hs : Sat w σ) (cs : Array Value) (t : TypeId) : Mine σ (w.alloc (.cells cs t)) w.heap.size cs.toList :=
  ⟨hs.none (Nat.le_refl _), t, by simpa using heap_alloc_new w (.cells cs t)⟩
theorem lies_alloc {σ : Store} (cs : Array Value) (t : TypeId) : Lies (σ.put w.heap.size (.cells cs t)) ⟨w.heap.size, 0, none⟩ cs.toList :=
  ⟨rfl, cs, t, (0, 0), by simp [Store.put], fun i v h => by simpa using h⟩
theorem box_lies {σ : Store} {t : TypeId} {v : Value} (hs : Sat w σ) (h : ∀ a w' σ', Stp w σ w' σ' → Lies σ' a v.cells.toList → K (.pointer (some a)) w') : box P t v w K := by
  unfold box; rw [op_value (run_box t v w)]
  exact h _ _ _ (Stp.alloc hs _) (lies_alloc _ t)
theorem box_mine {σ : Store} {t : TypeId} {v : Value} (hs : Sat w σ) (h : ∀ b w', w.heap.size ≤ b → Stp w σ w' σ → Mine σ w' b v.cells.toList → K (.pointer (some ⟨b, 0, none⟩)) w') : box P t v w K := by
  unfold box; rw [op_value (run_box t v w)]
  exact h _ _ (Nat.le_refl _) (Stp.own hs _) (mine_alloc hs _ t)
theorem alc_mine {σ : Store} {t : TypeId} {sz by_ : Nat} {z : Value} [tz : TZ P t sz by_ z] (hs : Sat w σ) (h : ∀ b w', w.heap.size ≤ b → Stp w σ w' σ → Mine σ w' b z.cells.toList → K (.pointer (some ⟨b, 0, none⟩)) w') : alc P t w K := by
  unfold alc
  have : (Instr.alloc t true (.tuple #[])).run P w = .ok (.pointer (some ⟨w.heap.size, 0, none⟩)) (w.alloc (.cells z.cells t)) := by
    simp [Instr.alloc, run_zero_of tz, newVar, newRow]
  rw [op_value this]
  exact h _ _ (Nat.le_refl _) (Stp.own hs _) (mine_alloc hs _ t)
theorem ld_cell {t : TypeId} [tg : TG P t false] {a : Addr} {v : Value} (hc : w.cell? a = some v) (h : K v w) : ldv P t (.pointer (some a)) w K := by
  unfold ldv
  rw [op_value (v := v) (w' := w) (by simp [Instr.loadAt, Instr.sureAddr, loadVar, run_isAgg_of tg, hc])]
  exact h
theorem ld_cells {t : TypeId} {sz by_ : Nat} {z : Value} [tg : TG P t true] [tz : TZ P t sz by_ z] {a : Addr} {cs : List Value} (hl : cs.length = sz) (hc : ∀ j v, cs[j]? = some v → w.cell? (a.add j) = some v) (h : K (.agg cs.toArray) w) : ldv P t (.pointer (some a)) w K := by
  unfold ldv
  have := run_loadCells_list (P := P) w a cs hc
  rw [hl] at this
  rw [op_value (v := .agg cs.toArray) (w' := w) (by simp [Instr.loadAt, Instr.sureAddr, loadVar, run_isAgg_of tg, run_sizeOf_of tz, this])]
  exact h
theorem ld {σ : Store} {t : TypeId} [TG P t false] {a : Addr} {cs : List Value} {i : Nat} {v : Value} (hs : Sat w σ) (ha : Lies σ a cs) (hv : cs[i]? = some v) (h : K v w) : ldv P t (.pointer (some (a.add i))) w K :=
  ld_cell (ha.cell hs hv) h
theorem ld0 {σ : Store} {t : TypeId} [TG P t false] {a : Addr} {cs : List Value} {v : Value} (hs : Sat w σ) (ha : Lies σ a cs) (hv : cs[0]? = some v) (h : K v w) : ldv P t (.pointer (some a)) w K := by
  have := ld (P := P) (t := t) hs ha hv h
  rwa [add_zero] at this
theorem lda {σ : Store} {t : TypeId} {sz by_ : Nat} {z : Value} [TG P t true] [TZ P t sz by_ z] {a : Addr} {cs : List Value} (hs : Sat w σ) (ha : Lies σ a cs) (hl : cs.length = sz) (h : K (.agg cs.toArray) w) : ldv P t (.pointer (some a)) w K :=
  ld_cells hl (fun _ _ hv => ha.cell hs hv) h
theorem ldm {σ : Store} {t : TypeId} [TG P t false] {b : Nat} {cs : List Value} {i : Nat} {v : Value} (hm : Mine σ w b cs) (hv : cs[i]? = some v) (h : K v w) : ldv P t (.pointer (some ((⟨b, 0, none⟩ : Addr).add i))) w K :=
  ld_cell (hm.cell hv) h
theorem ldm0 {σ : Store} {t : TypeId} [TG P t false] {b : Nat} {cs : List Value} {v : Value} (hm : Mine σ w b cs) (hv : cs[0]? = some v) (h : K v w) : ldv P t (.pointer (some ⟨b, 0, none⟩)) w K := by
  have := ldm (P := P) (t := t) hm hv h
  rwa [add_zero] at this
theorem ldma {σ : Store} {t : TypeId} {sz by_ : Nat} {z : Value} [TG P t true] [TZ P t sz by_ z] {b : Nat} {cs : List Value} (hm : Mine σ w b cs) (hl : cs.length = sz) (h : K (.agg cs.toArray) w) : ldv P t (.pointer (some ⟨b, 0, none⟩)) w K :=
  ld_cells hl (fun _ _ hv => hm.cell hv) h
theorem res_cells {t : TypeId} {sz by_ : Nat} {z : Value} [tg : TG P t true] [tz : TZ P t sz by_ z] {σ : Store} {b : Nat} {cs : List Value} {K : Value → Prop} (hm : Mine σ w b cs) (hl : cs.length = sz) (h : K (.agg cs.toArray)) : resCell P t (.pointer (some ⟨b, 0, none⟩)) w K := by
  rw [resCell_eq]
  refine ⟨_, ?_, h⟩
  have := run_loadCells_list (P := P) w ⟨b, 0, none⟩ cs (fun _ _ hv => hm.cell hv)
  rw [hl] at this
  simp [asAddr, loadVar, run_isAgg_of tg, run_sizeOf_of tz, this]
structure Upd (w : World) (b : Nat) (w' : World) : Prop where
  os : w'.os = w.os
  tape : w'.tape = w.tape
  output : w'.output = w.output
  size : w'.heap.size = w.heap.size
  block : ∀ k, k ≠ b → w'.heap[k]? = w.heap[k]?
theorem Upd.stp {σ0 σ : Store} {b : Nat} (hu : Upd w b w') (hS : Stp w0 σ0 w σ) (hb : w0.heap.size ≤ b) (hσ : σ b = none) : Stp w0 σ0 w' σ := by
  refine ⟨⟨hu.os.trans hS.bel.os, hu.tape.trans hS.bel.tape, hu.output.trans hS.bel.output, by rw [hu.size]; exact hS.bel.size, fun k hk => (hu.block k (by omega)).trans (hS.bel.block k hk)⟩, ?_, hS.le, hS.old⟩
  intro k o ho
  rw [hu.block k (by intro e; subst e; rw [hσ] at ho; cases ho)]
  exact hS.sat k o ho
theorem Mine.upd {σ : Store} {b k : Nat} {cs : List Value} (h : Mine σ w k cs) (hu : Upd w b w') (hne : k ≠ b) : Mine σ w' k cs := by
  obtain ⟨h1, e, h2⟩ := h
  exact ⟨h1, e, (hu.block k hne).trans h2⟩
theorem upd_setRow {b : Nat} {cs : Array Value} {old : Array Value} {e : TypeId} (h : w.heap[b]? = some (.cells old e (0, 0))) : Upd w b (w.setRow b cs) ∧ (w.setRow b cs).heap[b]? = some (.cells cs e (0, 0)) := by
  have hl := (Array.getElem?_eq_some_iff.1 h).1
  refine ⟨⟨rfl, rfl, rfl, by simp [World.setRow], fun k hk => ?_⟩, ?_⟩
  · simp only [World.setRow, Array.getElem?_modify]
    rw [if_neg (by omega)]
  · simp only [World.setRow, Array.getElem?_modify, if_true, h]
    rfl
theorem sta {t : TypeId} {sz by_ : Nat} {z : Value} [tz : TZ P t sz by_ z] {σ : Store} {b : Nat} {cs ds : List Value} (hm : Mine σ w b cs) (hl : cs.length = sz) (hd : ds.length = sz) (h1 : ds.toArray.all (·.oneCell') = true)
    (h : ∀ w', Upd w b w' → Mine σ w' b ds → K undef w') : stv P t (.pointer (some ⟨b, 0, none⟩)) (.agg ds.toArray) w K := by
  obtain ⟨hσ, e, hb⟩ := hm
  unfold stv
  obtain ⟨i, hi, hsz, _⟩ := tz.info
  have := run_storeVar_row (P := P) w b e t cs.toArray ds.toArray hb (by simp [hi, hsz, hd]) (by simp [hl, hd]) h1
  rw [op_unit (w' := w.setRow b ds.toArray) (by simpa [Instr.storeAt, Instr.sureAddr] using this)]
  obtain ⟨hu, hh⟩ := upd_setRow (cs := ds.toArray) hb
  exact h _ hu ⟨hσ, e, hh⟩
theorem set_len {cs : List Value} {i : Nat} {v : Value} (hi : i < cs.length) : (cs.take i ++ [v] ++ cs.drop (i + 1)) = cs.set i v := by
  rw [List.set_eq_take_append_cons_drop, if_pos hi]; simp
theorem st1 {t : TypeId} {by_ : Nat} {z : Value} [tz : TZ P t 1 by_ z] {σ : Store} {b i : Nat} {cs : List Value} {v : Value} (hm : Mine σ w b cs) (hi : i < cs.length) (hc : v.cells = #[v]) (h1 : v.oneCell' = true)
    (h : ∀ w', Upd w b w' → Mine σ w' b (cs.set i v) → K undef w') : stv P t (.pointer (some ((⟨b, 0, none⟩ : Addr).add i))) v w K := by
  obtain ⟨hσ, e, hb⟩ := hm
  unfold stv
  have hadd : (⟨b, 0, none⟩ : Addr).add i = ⟨b, i, none⟩ := by unfold Addr.add; split <;> simp_all
  have := run_storeCells_at P b i e [v] 0 cs.toArray w hb (by simp; omega) (by simpa using h1)
  simp only [Nat.add_zero] at this
  obtain ⟨hu, hh⟩ := upd_setRow (cs := (cs.set i v).toArray) hb
  have e2 : (List.take i cs.toArray.toList ++ [v] ++ List.drop (i + [v].length) cs.toArray.toList).toArray = (cs.set i v).toArray := by
    rw [← set_len hi]; simp
  rw [e2] at this
  rw [op_unit (w' := w.setRow b (cs.set i v).toArray) (by simp [Instr.storeAt, Instr.sureAddr, hadd, storeVar, run_sizeOf_of tz, hc, this])]
  exact h _ hu ⟨hσ, e, hh⟩
theorem st0 {t : TypeId} {by_ : Nat} {z : Value} [tz : TZ P t 1 by_ z] {σ : Store} {b : Nat} {cs : List Value} {v : Value} (hm : Mine σ w b cs) (hi : 0 < cs.length) (hc : v.cells = #[v]) (h1 : v.oneCell' = true)
    (h : ∀ w', Upd w b w' → Mine σ w' b (cs.set 0 v) → K undef w') : stv P t (.pointer (some ⟨b, 0, none⟩)) v w K := by
  have := st1 (P := P) (t := t) hm hi hc h1 h
  rwa [add_zero] at this
class NZ (n : Nat) : Prop where
  h : (n == 0) = false
instance (n : Nat) : NZ (n + 1) := ⟨rfl⟩
theorem fa {t : TypeId} {k off : Nat} {ft : TypeId} {sz by_ : Nat} {z : Value} [tf : TF P t k off ft] [tz : TZ P ft sz by_ z] [nz : NZ sz] {a : Addr} : fieldAddr P t (.pointer (some a)) k w K = K (.pointer (some (a.add off))) w := by
  unfold fieldAddr
  have hh := tf.h
  unfold fieldOf at hh
  split at hh
  · rename_i fs hu
    obtain ⟨f, hf, he⟩ := Option.map_eq_some_iff.1 hh
    simp only [Prod.mk.injEq] at he
    obtain ⟨h1, h2⟩ := he
    subst h2 h1
    have h0 : ¬ sz = 0 := by simpa using nz.h
    exact op_value (by simp [Instr.fieldAt, run_underlying hu, hf, Instr.sureAddr, fieldPlace, run_sizeOf_of tz, h0])
  · cases hh
theorem ix_raw {t e : TypeId} {sz by_ : Nat} {z : Value} [ts : TS P t e] [tz : TZ P e sz by_ z] {a : Addr} {n cap : Nat} {k : IntKind} {i : Int} (h0 : 0 ≤ i) (h1 : i < n) : indexAddr P t (.slice (some a) n cap) (.int k i) w K = K (.pointer (some (a.add (i.toNat * sz)))) w := by
  unfold indexAddr
  exact op_value (by simp [Instr.indexAt, run_underlying ts.h, asIntOf, run_sizeOf_of tz, h0, h1])
theorem ix_arr {t e : TypeId} {n sz by_ : Nat} {z : Value} [ta : TA P t n e] [tz : TZ P e sz by_ z] {a : Addr} {k : IntKind} {i : Int} (h0 : 0 ≤ i) (h1 : i < n) : indexAddr P t (.pointer (some a)) (.int k i) w K = K (.pointer (some (a.add (i.toNat * sz)))) w := by
  unfold indexAddr
  exact op_value (by simp [Instr.indexAt, run_underlying ta.h, asIntOf, Instr.sureAddr, run_sizeOf_of tz, h0, h1])
theorem nil_ck {a : Addr} : nilCheck P (.pointer (some a)) w K = K (.pointer (some a)) w := by
  unfold nilCheck
  rw [op_eq]; unfold opDef
  simp [execOp]
class Rep {α : Type} (R : Store → α → List Value → Prop) : Prop where
  up : ∀ {σ σ' : Store} {x : α} {cs : List Value}, (∀ b o, σ b = some o → σ' b = some o) → R σ x cs → R σ' x cs
  one : ∀ {σ : Store} {x : α} {cs : List Value}, R σ x cs → ∀ u ∈ cs, u.oneCell' = true
def Sl {α : Type} (sz : Nat) (R : Store → α → List Value → Prop) (σ : Store) (v : Value) (xs : List α) : Prop :=
  ∃ a cap, v = .slice a xs.length cap ∧ xs.length ≤ cap ∧ cap ≤ maxLen ∧ (a = none → cap = 0) ∧
    ∀ b, a = some b → (0 < xs.length → b.spot = none) ∧ ∀ i x, xs[i]? = some x → ∃ cs, Lies σ (b.add (i * sz)) cs ∧ cs.length = sz ∧ R σ x cs
theorem Lies.le {σ σ' : Store} {a : Addr} {cs : List Value} (h : Lies σ a cs) (hk : ∀ b o, σ b = some o → σ' b = some o) : Lies σ' a cs := by
  obtain ⟨h1, arr, e, fr, h2, h3⟩ := h
  exact ⟨h1, arr, e, fr, hk _ _ h2, h3⟩
section
variable {α : Type} {R : Store → α → List Value → Prop} {sz : Nat} {σ σ' : Store} {v : Value} {xs : List α}
theorem Sl.le [hr : Rep R] (h : Sl sz R σ v xs) (hk : ∀ b o, σ b = some o → σ' b = some o) : Sl sz R σ' v xs := by
  obtain ⟨a, cap, h1, h2, h3, h4, h5⟩ := h
  refine ⟨a, cap, h1, h2, h3, h4, fun b hb => ⟨(h5 b hb).1, fun i x hx => ?_⟩⟩
  obtain ⟨cs, g1, g2, g3⟩ := (h5 b hb).2 i x hx
  exact ⟨cs, g1.le hk, g2, hr.up hk g3⟩
theorem Sl.up [Rep R] (h : Sl sz R σ v xs) (hk : Stp w σ w' σ') : Sl sz R σ' v xs := h.le hk.le
theorem Sl.max (h : Sl sz R σ v xs) : xs.length ≤ 9223372036854775807 := by
  obtain ⟨a, cap, h1, h2, h3, h4⟩ := h
  simp only [maxLen] at h3; omega
theorem Sl.nil : Sl sz R σ (.slice none 0 0) ([] : List α) := ⟨none, 0, rfl, by simp, by simp, fun _ => rfl, fun b hb => by cases hb⟩
theorem len_raw {t0 e t : TypeId} {cs : List Bool} [ts : TS P t0 e] {a : Option Addr} {n cap : Nat} : blt P .len [t0] t cs [.slice a n cap] w K = K (I n) w := by
  have h : (Builtin.len_ #[t0] t #[.slice a n cap]).run P w = .ok (I n) w := by
    simp [Builtin.len_, run_underlying ts.h, goInt]
  exact op_value h
theorem len_sl {t0 e t : TypeId} {cs : List Bool} [ts : TS P t0 e] (h : Sl sz R σ v xs) : blt P .len [t0] t cs [v] w K = K (I xs.length) w := by
  obtain ⟨a, cap, rfl, _⟩ := h
  exact len_raw
theorem ix_sl {t e : TypeId} {by_ : Nat} {z : Value} [TS P t e] [TZ P e sz by_ z] (h : Sl sz R σ v xs) {k : IntKind} {i : Int} (h0 : 0 ≤ i) (h1 : i.toNat < xs.length)
    (hk : ∀ a cs, Lies σ a cs → cs.length = sz → R σ xs[i.toNat] cs → K (.pointer (some a)) w) : indexAddr P t v (.int k i) w K := by
  obtain ⟨a, cap, rfl, h2, h3, h4, h5⟩ := h
  cases a with
  | none => have := h4 rfl; omega
  | some b =>
    rw [ix_raw h0 (by omega)]
    obtain ⟨cs, g1, g2, g3⟩ := (h5 b rfl).2 i.toNat xs[i.toNat] (by simp [h1])
    exact hk _ cs g1 g2 g3
end
theorem Stp.turn {σ0 σ : Store} {row : Option Nat} (hg : w.grownBy w' row) (hS : Stp w0 σ0 w σ) (hr : ∀ k, row = some k → w0.heap.size ≤ k ∧ σ k = none) : Stp w0 σ0 w' σ := by
  refine ⟨⟨hg.os.trans hS.bel.os, hg.tape.trans hS.bel.tape, hg.output.trans hS.bel.output, Nat.le_trans hS.bel.size hg.size, fun k hk => ?_⟩, ?_, hS.le, hS.old⟩
  · refine (hg.block k (Nat.lt_of_lt_of_le hk hS.bel.size) ?_).trans (hS.bel.block k hk)
    intro e; have := (hr k e.symm).1; omega
  · intro k o ho
    refine (hg.block k (hS.sat.lt ho) ?_).trans (hS.sat k o ho)
    intro e; rw [(hr k e.symm).2] at ho; cases ho
theorem Mine.turn {σ : Store} {row : Option Nat} {k : Nat} {cs : List Value} (h : Mine σ w k cs) (hg : w.grownBy w' row) (hne : some k ≠ row) : Mine σ w' k cs := by
  have hl := h.lt
  obtain ⟨h1, e, h2⟩ := h
  exact ⟨h1, e, (hg.block k hl hne).trans h2⟩
def Acc {α : Type} (B : Nat) (e : TypeId) (sz : Nat) (R : Store → α → List Value → Prop) (σ : Store) (w : World) (v : Value) (xs : List α) : Prop :=
  ∃ cells, w.ownsRow B e sz v xs.length cells ∧ (∀ k, v.ownBlock = some k → σ k = none) ∧ ∀ i x, xs[i]? = some x → R σ x ((cells.drop (i * sz)).take sz)
section
variable {α : Type} {R : Store → α → List Value → Prop} {B sz : Nat} {e : TypeId} {σ σ' : Store} {v u : Value} {xs ys : List α}
theorem Acc.nil : Acc B e sz R σ w (.slice none 0 0) ([] : List α) := ⟨[], World.ownsRow_nil w B e sz, by intro k hk; simp [Value.ownBlock] at hk, by intro i x h; simp at h⟩
theorem Acc.mem (h : Acc B e sz R σ w v xs) : ∀ k, v.ownBlock = some k → B ≤ k ∧ k < w.heap.size ∧ σ k = none := by
  obtain ⟨cells, h1, h2, _⟩ := h
  intro k hk
  obtain ⟨a, b⟩ := h1.lt k hk
  exact ⟨a, b, h2 k hk⟩
theorem Acc.up [hr : Rep R] (h : Acc B e sz R σ w v xs) (hk : Stp w σ w' σ') : Acc B e sz R σ' w' v xs := by
  obtain ⟨cells, h1, h2, h3⟩ := h
  refine ⟨cells, h1.kept ⟨hk.bel.os, hk.bel.tape, hk.bel.output, hk.bel.size, fun k hl _ => hk.bel.block k hl⟩ (by cases hv : v.ownBlock <;> simp) (row := none), ?_, fun i x hx => hr.up hk.le (h3 i x hx)⟩
  intro k hv
  rw [hk.old k (h1.lt k hv).2]; exact h2 k hv
theorem Acc.turn {row : Option Nat} (h : Acc B e sz R σ w v xs) (hg : w.grownBy w' row) (hne : v.ownBlock = none ∨ v.ownBlock ≠ row) : Acc B e sz R σ w' v xs := by
  obtain ⟨cells, h1, h2, h3⟩ := h
  exact ⟨cells, h1.kept hg hne, h2, h3⟩
theorem Sl.cells (h : Sl sz R σ v xs) (hs : Sat w σ) [hr : Rep R] : ∃ (a : Option Addr) (cap : Nat) (news : List Value), v = .slice a xs.length cap ∧ (a = none → cap = 0) ∧ news.length = xs.length * sz ∧ (∀ b, a = some b → ∀ j u, news[j]? = some u → w.cell? (b.add j) = some u) ∧ (∀ u ∈ news, u.oneCell' = true) ∧
    ∀ i x, xs[i]? = some x → R σ x ((news.drop (i * sz)).take sz) := by
  obtain ⟨a, cap, rfl, h2, h3, h4, h5⟩ := h
  cases a with
  | none =>
    have h0 := h4 rfl
    have hx : xs = [] := List.eq_nil_of_length_eq_zero (by omega)
    subst hx
    exact ⟨none, cap, [], rfl, h4, by simp, fun b hb => (by cases hb), by simp, by simp⟩
  | some b =>
    obtain ⟨hsp, hel⟩ := h5 b rfl
    clear h5
    have key : ∀ (ys : List α) (k : Nat), (∀ i x, ys[i]? = some x → ∃ cs, Lies σ (b.add ((k + i) * sz)) cs ∧ cs.length = sz ∧ R σ x cs) →
        ∃ news : List Value, news.length = ys.length * sz ∧ (∀ j u, news[j]? = some u → w.cell? (b.add (k * sz + j)) = some u) ∧ (∀ u ∈ news, u.oneCell' = true) ∧ ∀ i x, ys[i]? = some x → R σ x ((news.drop (i * sz)).take sz) := by
      intro ys
      induction ys with
      | nil => intro k _; exact ⟨[], by simp, by simp, by simp, by simp⟩
      | cons y r ih =>
        intro k hy
        obtain ⟨cs, g1, g2, g3⟩ := hy 0 y rfl
        obtain ⟨news, n1, n2, n3, n4⟩ := ih (k + 1) (fun i x hx => by
          have := hy (i + 1) x (by simpa using hx)
          rwa [show k + 1 + i = k + (i + 1) by omega])
        refine ⟨cs ++ news, by simp [n1, g2, Nat.add_mul, Nat.add_comm], ?_, ?_, ?_⟩
        · intro j u hu
          by_cases hj : j < sz
          · rw [List.getElem?_append_left (by omega)] at hu
            have := g1.cell hs hu
            rwa [add_add, Nat.add_zero] at this
          · rw [List.getElem?_append_right (by omega)] at hu
            have := n2 _ _ hu
            rwa [g2, show (k + 1) * sz + (j - sz) = k * sz + j by rw [Nat.add_mul]; omega] at this
        · intro u hu
          rcases List.mem_append.1 hu with hu | hu
          · exact hr.one g3 u hu
          · exact n3 u hu
        · intro i x hx
          cases i with
          | zero =>
            simp at hx; subst hx
            simp only [Nat.zero_mul, List.drop_zero]
            rw [List.take_append_of_le_length (by omega), List.take_of_length_le (by omega)]; exact g3
          | succ i =>
            have := n4 i x (by simpa using hx)
            rw [show (i + 1) * sz = cs.length + i * sz by rw [Nat.add_mul]; omega, List.drop_append]
            simpa [List.drop_eq_nil_of_le] using this
    obtain ⟨news, n1, n2, n3, n4⟩ := key xs 0 (fun i x hx => by rw [Nat.zero_add]; exact hel i x hx)
    refine ⟨some b, cap, news, rfl, h4, n1, ?_, n3, n4⟩
    intro b' hb' j u hu
    cases hb'
    have := n2 j u hu
    rwa [Nat.zero_mul, Nat.zero_add] at this
end
section
variable {α : Type} {R : Store → α → List Value → Prop} {sz : Nat} {e : TypeId} {σ σ0 : Store} {v u : Value} {xs ys : List α}
theorem drop_take_append (cells news : List Value) (n i : Nat) (hl : cells.length = n * sz) (hi : i < n) : ((cells ++ news).drop (i * sz)).take sz = (cells.drop (i * sz)).take sz := by
  have h : i * sz + sz ≤ n * sz := by rw [← Nat.succ_mul]; exact Nat.mul_le_mul_right _ hi
  rw [List.drop_append_of_le_length (by omega), List.take_append_of_le_length (by simp only [List.length_drop]; omega)]
theorem app {t ty : TypeId} {by_ : Nat} {z : Value} {cs : List Bool} [ts : TS P t e] [tz : TZ P e sz by_ z] [hr : Rep R] (hS : Stp w0 σ0 w σ) (ha : Acc w0.heap.size e sz R σ w v xs) (hu : Sl sz R σ u ys) (hz : (z.cells.size == sz && decide (0 < sz)) = true)
    (hb : (xs.length + ys.length) * by_ ≤ 140737488355328) (hm : xs.length + ys.length ≤ 9223372036854775807)
    (h : ∀ v' w', w.grownBy w' v.ownBlock → Stp w0 σ0 w' σ → Acc w0.heap.size e sz R σ w' v' (xs ++ ys) → (v'.ownBlock = v.ownBlock ∨ ∀ k, v'.ownBlock = some k → w.heap.size ≤ k) → K v' w') : blt P .append [t, t] ty cs [v, u] w K := by
  obtain ⟨cells, h1, h2, h3⟩ := ha
  obtain ⟨a, cap, news, rfl, n1, n2, n3, n4, n5⟩ := hu.cells hS.sat
  obtain ⟨i, hi, hsz, hby, hzero⟩ := tz.info
  have fin : ∀ v' w', (Builtin.append_ #[t, t] ty #[v, .slice a ys.length cap]).run P w = .ok v' w' → w'.ownsRow w0.heap.size e sz v' (xs.length + ys.length) (cells ++ news) → w.grownBy w' v.ownBlock → (v'.ownBlock = v.ownBlock ∨ v'.ownBlock = some w.heap.size) → blt P .append [t, t] ty cs [v, .slice a ys.length cap] w K := by
    intro v' w' hrun hown hgrow hat
    have hrun' : (builtin .append #[t, t] ty cs.toArray #[v, .slice a ys.length cap]).run P w = .ok (.value v') w' := by
      simp [builtin, hrun]
    unfold blt
    rw [op_eq]; unfold opDef
    rw [hrun']
    refine h v' w' hgrow (Stp.turn hgrow hS fun k hk => ⟨(h1.lt k hk).1, h2 k hk⟩) ⟨cells ++ news, by rw [List.length_append]; exact hown, ?_, ?_⟩ ?_
    · intro k hk
      rcases hat with hat | hat
      · exact h2 k (hat ▸ hk)
      · rw [hat] at hk; cases hk; exact hS.sat.none (Nat.le_refl _)
    · intro j x hx
      by_cases hj : j < xs.length
      · rw [List.getElem?_append_left hj] at hx
        rw [drop_take_append cells news xs.length j h1.1 hj]
        exact h3 j x hx
      · rw [List.getElem?_append_right (by omega)] at hx
        have := n5 _ _ hx
        rw [show j * sz = cells.length + (j - xs.length) * sz by rw [h1.1, ← Nat.add_mul]; congr 1; omega, List.drop_append]
        simpa [List.drop_eq_nil_of_le] using this
    · rcases hat with hat | hat
      · exact .inl hat
      · right; intro k hk; rw [hat] at hk; cases hk; exact Nat.le_refl _
  simp only [Bool.and_eq_true, beq_iff_eq, decide_eq_true_eq] at hz
  cases a with
  | some b =>
    obtain ⟨v', w', g1, g2, g3, _, g5⟩ := run_append_own_at (P := P) w w0.heap.size t ty e i z sz by_ ts.h hi hzero hsz hby hz.1 hz.2 v xs.length cells h1 b ys.length cap news n2 (n3 b rfl) n4 (by simp only [maxLen]; omega) hb hS.bel.size
    exact fin v' w' g1 g2 g3 g5
  | none =>
    have hy : ys = [] := List.eq_nil_of_length_eq_zero (by obtain ⟨a', cap', e', q1, _, q3, _⟩ := hu; injection e' with _ e2 e3; have := n1 rfl; subst e3; omega)
    have hc0 := n1 rfl
    subst hy hc0
    have hn : news = [] := List.eq_nil_of_length_eq_zero (by simpa using n2)
    subst hn
    have hown := h1
    rcases h1.2 with ⟨rfl, h0⟩ | ⟨g, cap, cur, rfl, hb1, hg, hle, _⟩
    · refine fin (.slice none 0 0) w ?_ (by simpa using hown) (World.grownBy.refl w _) (.inl rfl)
      simp [Builtin.append_, run_underlying ts.h, sizeOf, typeInfo, hi, Builtin.lenOf, Builtin.firstCells]
    · refine fin _ w ?_ (by simpa using hown) (World.grownBy.refl w _) (.inl rfl)
      simp [Builtin.append_, run_underlying ts.h, sizeOf, typeInfo, hi, Builtin.lenOf, Builtin.firstCells, hle, storeCells]
end
section
variable {α : Type} {R : Store → α → List Value → Prop} {sz : Nat} {e : TypeId} {σ σ0 : Store} {v u : Value} {xs ys : List α}
theorem Store.put_le {w : World} (hs : Sat w σ) {b : Nat} (h : σ b = none) (o : Obj) : ∀ k p, σ k = some p → (σ.put b o) k = some p := by
  intro k p hk
  by_cases hkb : k = b
  · subst hkb; rw [h] at hk; cases hk
  · simp only [Store.put, if_neg hkb]; exact hk
theorem Stp.put {b : Nat} {o : Obj} (hS : Stp w0 σ0 w σ) (hσ : σ b = none) (hb : w0.heap.size ≤ b) (ho : w.heap[b]? = some o) : Stp w0 σ0 w (σ.put b o) := by
  refine ⟨hS.bel, ?_, fun k p hk => Store.put_le hS.sat hσ o k p (hS.le k p hk), ?_⟩
  · intro k p hk
    by_cases hkb : k = b
    · subst hkb; simp only [Store.put, if_true] at hk; cases hk; exact ho
    · simp only [Store.put, if_neg hkb] at hk; exact hS.sat k p hk
  · intro k hk
    simp only [Store.put]; rw [if_neg (by omega)]; exact hS.old k hk
theorem Acc.keep [hr : Rep R] (h : Acc w0.heap.size e sz R σ w v xs) (hS : Stp w0 σ0 w σ) : ∃ σ', Stp w0 σ0 w σ' ∧ Sl sz R σ' v xs ∧ (∀ k o, σ k = some o → σ' k = some o) ∧ (∀ k, some k ≠ v.ownBlock → σ' k = σ k) := by
  obtain ⟨cells, h1, h2, h3⟩ := h
  rcases h1.2 with ⟨rfl, h0⟩ | ⟨g, cap, cur, rfl, hb, hg, hle, hmax, hsz, htk⟩
  · have : xs = [] := List.eq_nil_of_length_eq_zero h0
    subst this
    exact ⟨σ, hS, Sl.nil, fun _ _ h => h, fun _ _ => rfl⟩
  · have hσ := h2 g rfl
    have hle' := Store.put_le hS.sat hσ (.cells cur e (0, 0))
    refine ⟨σ.put g (.cells cur e (0, 0)), hS.put hσ hb hg, ⟨_, cap, rfl, hle, hmax, by simp, ?_⟩, hle', ?_⟩
    · intro b hbb
      cases hbb
      refine ⟨fun _ => rfl, fun i x hx => ⟨(cells.drop (i * sz)).take sz, ⟨add_spot rfl _, cur, e, (0, 0), by rw [add_block]; simp [Store.put], ?_⟩, ?_, hr.up hle' (h3 i x hx)⟩⟩
      · intro j u hu
        rw [add_off]
        rw [List.getElem?_take] at hu
        split at hu
        · rw [List.getElem?_drop, ← htk, List.getElem?_take] at hu
          split at hu
          · simpa using hu
          · cases hu
        · cases hu
      · have hi : i < xs.length := (List.getElem?_eq_some_iff.1 hx).1
        have h : i * sz + sz ≤ xs.length * sz := by rw [← Nat.succ_mul]; exact Nat.mul_le_mul_right _ hi
        rw [List.length_take, List.length_drop, h1.1]; omega
    · intro k hk
      have : k ≠ g := by intro e; subst e; exact hk rfl
      simp only [Store.put, if_neg this]
theorem Sl.piece {a : Option Addr} {n cap : Nat} (h : Sl sz R σ (.slice a n cap) xs) (l m : Nat) (hl : l + m ≤ xs.length) : Sl sz R σ (.slice (if cap = l then a else a.map (·.add (l * sz))) m (cap - l)) ((xs.drop l).take m) := by
  obtain ⟨a', cap', he, h2, h3, h4, h5⟩ := h
  injection he with e1 e2 e3
  subst e1 e2 e3
  have hlen : ((xs.drop l).take m).length = m := by simp; omega
  refine ⟨_, cap - l, by rw [hlen], by rw [hlen]; omega, by omega, ?_, ?_⟩
  · intro hn
    split at hn
    · omega
    · cases a with
      | none => have := h4 rfl; omega
      | some b => simp at hn
  · intro b hb
    split at hb
    · rename_i hcl
      obtain ⟨q1, q2⟩ := h5 b hb
      have hm : m = 0 := by omega
      subst hm
      exact ⟨fun h => by simp at h, by simp⟩
    · cases a with
      | none => simp at hb
      | some b' =>
        simp only [Option.map_some, Option.some.injEq] at hb
        obtain ⟨q1, q2⟩ := h5 b' rfl
        subst hb
        refine ⟨fun h => add_spot (q1 (by rw [hlen] at h; omega)) _, fun i x hx => ?_⟩
        rw [List.getElem?_take] at hx
        split at hx
        · rw [List.getElem?_drop] at hx
          obtain ⟨cs, g1, g2, g3⟩ := q2 _ _ hx
          refine ⟨cs, ?_, g2, g3⟩
          rw [add_add, ← Nat.add_mul]; exact g1
        · cases hx
theorem slc_sl {t : TypeId} {by_ : Nat} {z : Value} [ts : TS P t e] [tz : TZ P e sz by_ z] (h : Sl sz R σ v xs) (lo hi : Option Value) (l m : Nat) (hlo : lo = none ∧ l = 0 ∨ lo = some (I l)) (hhi : hi = none ∧ m = xs.length ∨ hi = some (I m)) (hlm : l ≤ m) (hm : m ≤ xs.length)
    (hk : ∀ v', Sl sz R σ v' ((xs.drop l).take (m - l)) → K v' w) : slc P t v lo hi none w K := by
  have h0 := h
  obtain ⟨a, cap, rfl, h2, h3, h4, h5⟩ := h
  have hh : ∀ w : World, (Instr.sliceBounds true xs.length cap lo hi none).run P w = .ok (l, m, cap) w := by
    intro w
    have c1 : (m : Int) ≤ cap := by omega
    have c2 : (l : Int) ≤ m := by omega
    have c3 : m ≤ cap := by omega
    rcases hlo with ⟨rfl, rfl⟩ | rfl <;> rcases hhi with ⟨rfl, rfl⟩ | rfl <;>
      simp [Instr.sliceBounds, Instr.sliceBound, asIntOf, c3, hlm] <;> intros <;> omega
  unfold slc
  have : (Instr.sliceAt t (.slice a xs.length cap) lo hi none).run P w = .ok (.slice (if cap = l then a else a.map (·.add (l * sz))) (m - l) (cap - l)) w := by
    simp [Instr.sliceAt, run_underlying ts.h, Instr.slice, hh, run_sizeOf_of tz]
  rw [op_value this]
  exact hk _ (h0.piece l (m - l) (by omega))
def en : Nat → List Value → List (Nat × Value)
  | _, [] => []
  | i, v :: r => (i, v) :: en (i + 1) r
theorem foldl_set (off : Nat) : ∀ (vs : List Value) (k : Nat) (cs : Array Value), off + k + vs.length ≤ cs.size →
    ((vs.zipIdx k).foldl (fun cs (p : Value × Nat) => cs.setIfInBounds (off + p.2) p.1) cs).toList = cs.toList.take (off + k) ++ vs ++ cs.toList.drop (off + k + vs.length) := by
  intro vs
  induction vs with
  | nil => intro k cs _; simp
  | cons v r ih =>
    intro k cs h
    simp only [List.length_cons] at h
    rw [List.zipIdx_cons, List.foldl_cons, ih (k + 1) _ (by simp; omega)]
    simp only [Array.toList_setIfInBounds, List.length_cons]
    apply List.ext_getElem?
    intro i
    simp only [List.getElem?_append, List.length_take, List.length_set, Array.length_toList, List.getElem?_take, List.getElem?_drop, List.length_append, List.getElem?_set, List.length_cons]
    rcases Nat.lt_trichotomy i (off + k) with hi | hi | hi
    · simp [show i < off + (k + 1) by omega, hi, show i < min (off + (k + 1)) cs.size by omega, show i < min (off + (k + 1)) cs.size + r.length by omega, show i < min (off + k) cs.size by omega, show i < min (off + k) cs.size + (r.length + 1) by omega, show off + k ≠ i by omega]
    · subst hi
      simp [show off + k < off + (k + 1) by omega, show off + k < min (off + (k + 1)) cs.size by omega, show off + k < min (off + (k + 1)) cs.size + r.length by omega, show ¬ off + k < min (off + k) cs.size by omega, show off + k < min (off + k) cs.size + (r.length + 1) by omega, show off + k < cs.size by omega, show off + k - min (off + k) cs.size = 0 by omega]
    · by_cases h2 : i < off + (k + 1) + r.length
      · simp [show ¬ i < min (off + (k + 1)) cs.size by omega, show i < min (off + (k + 1)) cs.size + r.length by omega, show ¬ i < min (off + k) cs.size by omega, show i < min (off + k) cs.size + (r.length + 1) by omega, show i - min (off + k) cs.size = (i - min (off + (k + 1)) cs.size) + 1 by omega]
      · simp only [show ¬ i < min (off + (k + 1)) cs.size + r.length by omega, show ¬ i < min (off + k) cs.size + (r.length + 1) by omega, if_false]
        rw [show off + (k + 1) + r.length + (i - (min (off + (k + 1)) cs.size + r.length)) = i by omega, show off + k + (r.length + 1) + (i - (min (off + k) cs.size + (r.length + 1))) = i by omega, if_neg (by omega)]
theorem fill_en (sz : Nat) : ∀ (vs : List Value) (i : Nat) (cs : Array Value), (i + vs.length) * sz ≤ cs.size → (∀ v ∈ vs, v.cells.size = sz) →
    ∃ cs', Instr.fill (fun i => some (i * sz, sz)) cs (en i vs) = some cs' ∧ cs'.toList = cs.toList.take (i * sz) ++ vs.flatMap (·.cells.toList) ++ cs.toList.drop ((i + vs.length) * sz) := by
  intro vs
  induction vs with
  | nil => intro i cs _ _; exact ⟨cs, rfl, by simp⟩
  | cons v r ih =>
    intro i cs h hv
    have hv0 := hv v (by simp)
    simp only [List.length_cons] at h
    have h1 : i * sz + sz ≤ cs.size := by
      have : (i + 1) * sz ≤ (i + (r.length + 1)) * sz := Nat.mul_le_mul_right _ (by omega)
      rw [Nat.succ_mul] at this; omega
    have hset := foldl_set (i * sz) v.cells.toList 0 cs (by simp; omega)
    simp only [Nat.add_zero] at hset
    have e1 : v.cells.zipIdx.foldl (fun cs (p : Value × Nat) => cs.setIfInBounds (i * sz + p.2) p.1) cs = (v.cells.toList.zipIdx 0).foldl (fun cs (p : Value × Nat) => cs.setIfInBounds (i * sz + p.2) p.1) cs := by
      rw [← Array.foldl_toList, Array.toList_zipIdx]
    have hsz' : ((v.cells.toList.zipIdx 0).foldl (fun cs (p : Value × Nat) => cs.setIfInBounds (i * sz + p.2) p.1) cs).size = cs.size := by
      rw [← Array.length_toList, hset]
      simp; omega
    obtain ⟨cs', q1, q2⟩ := ih (i + 1) _ (by rw [hsz']; rw [show i + 1 + r.length = i + (r.length + 1) by omega]; exact h) (fun u hu => hv u (by simp [hu]))
    refine ⟨cs', ?_, ?_⟩
    · simp only [en, Instr.fill]
      rw [if_neg (by simp [hv0]; omega)]
      rw [e1]; exact q1
    · rw [q2, hset]
      simp only [List.flatMap_cons, List.length_cons, Array.length_toList, hv0]
      have e2 : (i + 1) * sz = i * sz + sz := by rw [Nat.succ_mul]
      have e3 : (i + (r.length + 1)) * sz = i * sz + sz + r.length * sz := by rw [Nat.add_mul, Nat.succ_mul]; omega
      have e4 : (i + 1 + r.length) * sz = i * sz + sz + r.length * sz := by rw [Nat.add_mul, Nat.succ_mul]
      rw [e2, e3, e4]
      have t1 : (cs.toList.take (i * sz)).length = i * sz := by simp; omega
      have t2 : (cs.toList.take (i * sz) ++ v.cells.toList).length = i * sz + sz := by rw [List.length_append, t1]; simp [hv0]
      have k1 : ∀ C : List Value, (cs.toList.take (i * sz) ++ v.cells.toList ++ C).take (i * sz + sz) = cs.toList.take (i * sz) ++ v.cells.toList := by
        intro C
        rw [List.take_append_of_le_length (by omega), List.take_of_length_le (by omega)]
      have k2 : ∀ (C : List Value) (n : Nat), (cs.toList.take (i * sz) ++ v.cells.toList ++ C).drop (i * sz + sz + n) = C.drop n := by
        intro C n
        rw [List.drop_append, t2, List.drop_eq_nil_of_le (by omega), List.nil_append]
        congr 1; omega
      rw [k1, k2, List.drop_drop]
      simp only [List.append_assoc]
theorem run_buildSlice_of {t : TypeId} {by_ : Nat} {z : Value} [ts : TS P t e] [tz : TZ P e sz by_ z] (vs : List Value) (hv : ∀ v ∈ vs, v.cells.size = sz) (hsm : vs.length * sz ≤ 16777216) (w : World) :
    ∃ cells : Array Value, (Instr.buildSlice t vs.length (en 0 vs).toArray).run P w = .ok (.slice (some ⟨w.heap.size, 0, none⟩) vs.length vs.length) (w.alloc (.cells cells e)) ∧ cells.toList = vs.flatMap (·.cells.toList) := by
  have h2 : ¬ vs.length * sz > 2 ^ 24 := by omega
  by_cases h : vs.length * sz = 0
  · obtain ⟨cells, hf, hl⟩ := fill_en sz vs 0 ((Array.range (vs.length * sz)).map ((#[] : Array Value)[· % (#[] : Array Value).size]!)) (by simp) hv
    refine ⟨cells, ?_, by rw [hl]; simp⟩
    simp only [Instr.buildSlice, Sem.run_bind, run_underlying ts.h, Result.andThen_ok, run_sizeOf_of tz, if_neg h2, if_pos h, Sem.run_pure, hf]
    simp [newRow]
  · obtain ⟨cells, hf, hl⟩ := fill_en sz vs 0 ((Array.range (vs.length * sz)).map (z.cells[· % z.cells.size]!)) (by simp) hv
    refine ⟨cells, ?_, by rw [hl]; simp⟩
    simp only [Instr.buildSlice, Sem.run_bind, run_underlying ts.h, Result.andThen_ok, run_sizeOf_of tz, if_neg h2, if_neg h, Sem.run_pure, run_zero_of tz, hf]
    simp [newRow]
theorem flat_piece {vs : List Value} (hv : ∀ v ∈ vs, v.cells.size = sz) (i : Nat) (v : Value) (h : vs[i]? = some v) : ((vs.flatMap (·.cells.toList)).drop (i * sz)).take sz = v.cells.toList := by
  induction vs generalizing i with
  | nil => simp at h
  | cons a r ih =>
    have ha := hv a (by simp)
    cases i with
    | zero =>
      simp at h; subst h
      rw [List.flatMap_cons, Nat.zero_mul, List.drop_zero, List.take_append_of_le_length (by simp [ha]), List.take_of_length_le (by simp [ha])]
    | succ i =>
      rw [List.flatMap_cons, Nat.succ_mul, List.drop_append, List.drop_eq_nil_of_le (by simp [ha]), List.nil_append]
      rw [show i * sz + sz - a.cells.toList.length = i * sz by simp [ha]]
      exact ih (fun v hv' => hv v (by simp [hv'])) i (by simpa using h)
theorem flat_len {vs : List Value} (hv : ∀ v ∈ vs, v.cells.size = sz) : (vs.flatMap (·.cells.toList)).length = vs.length * sz := by
  induction vs with
  | nil => simp
  | cons a r ih =>
    rw [List.flatMap_cons, List.length_append, ih (fun v h => hv v (by simp [h]))]
    simp [hv a (by simp), Nat.succ_mul, Nat.add_comm]
def Each (R : Store → α → List Value → Prop) (σ : Store) : List Value → List α → Prop
  | [], [] => True
  | v :: vs, x :: xs => R σ x v.cells.toList ∧ Each R σ vs xs
  | _, _ => False
theorem Each.len {vs : List Value} (h : Each R σ vs xs) : vs.length = xs.length := by
  induction vs generalizing xs with
  | nil => cases xs with
    | nil => rfl
    | cons => exact h.elim
  | cons v r ih => cases xs with
    | nil => exact h.elim
    | cons x y => simp [ih h.2]
theorem Each.get {vs : List Value} (h : Each R σ vs xs) {i : Nat} {x : α} (hx : xs[i]? = some x) : ∃ v, vs[i]? = some v ∧ R σ x v.cells.toList := by
  induction vs generalizing xs i with
  | nil => cases xs with
    | nil => simp at hx
    | cons => exact h.elim
  | cons v r ih => cases xs with
    | nil => exact h.elim
    | cons y ys =>
      cases i with
      | zero => simp at hx; subst hx; exact ⟨v, rfl, h.1⟩
      | succ i => obtain ⟨u, q1, q2⟩ := ih h.2 (i := i) (by simpa using hx); exact ⟨u, by simpa using q1, q2⟩
theorem bs_acc {t : TypeId} {by_ : Nat} {z : Value} {n : Nat} {parts : List (Nat × Value)} [ts : TS P t e] [tz : TZ P e sz by_ z] (hS : Stp w0 σ0 w σ) (vs : List Value) (xs : List α) (hn : n = vs.length) (hp : parts = en 0 vs) (hv : ∀ v ∈ vs, v.cells.size = sz) (hsm : (decide (0 < sz) && decide (vs.length * sz ≤ 16777216)) = true) (he : Each R σ vs xs)
    (h : ∀ v w', Stp w σ w' σ → Acc w0.heap.size e sz R σ w' v xs → (∀ k, v.ownBlock = some k → w.heap.size ≤ k) → K v w') : buildSlice P t n parts w K := by
  subst hn hp
  simp only [Bool.and_eq_true, decide_eq_true_eq] at hsm
  obtain ⟨hsz, hsm⟩ := hsm
  obtain ⟨cells, h1, h2⟩ := run_buildSlice_of (P := P) (t := t) vs hv hsm w
  unfold buildSlice
  rw [op_value h1]
  have hl := he.len
  refine h _ _ (Stp.own hS.sat _) ⟨cells.toList, ⟨by rw [h2, flat_len hv, hl], .inr ⟨_, _, cells, by rw [hl], hS.bel.size, heap_alloc_new w _, by omega, ?_, ?_, ?_⟩⟩, ?_, ?_⟩ ?_
  · simp only [maxLen]
    have : vs.length * 1 ≤ vs.length * sz := Nat.mul_le_mul_left _ hsz
    omega
  · rw [← Array.length_toList, h2, flat_len hv, hl]
  · rw [List.take_of_length_le (by rw [h2, flat_len hv, hl]; exact Nat.le_refl _)]
  · intro k hk; cases hk; exact hS.sat.none (Nat.le_refl _)
  · intro i x hx
    obtain ⟨v, q1, q2⟩ := he.get hx
    rw [h2, flat_piece hv i v q1]; exact q2
  · intro k hk; cases hk; exact Nat.le_refl _
theorem bs_sl [Rep R] {t : TypeId} {by_ : Nat} {z : Value} {n : Nat} {parts : List (Nat × Value)} [ts : TS P t e] [tz : TZ P e sz by_ z] (hs : Sat w σ) (vs : List Value) (xs : List α) (hn : n = vs.length) (hp : parts = en 0 vs) (hv : ∀ v ∈ vs, v.cells.size = sz) (hsm : (decide (0 < sz) && decide (vs.length * sz ≤ 16777216)) = true) (he : Each R σ vs xs)
    (h : ∀ v w' σ', Stp w σ w' σ' → Sl sz R σ' v xs → K v w') : buildSlice P t n parts w K := by
  refine bs_acc (Stp.refl hs) vs xs hn hp hv hsm he fun v w' hk ha _ => ?_
  obtain ⟨σ', g1, g2, _⟩ := ha.keep hk
  exact h v w' σ' g1 g2
theorem fld_agg {t : TypeId} {k off : Nat} {ft : TypeId} [tf : TF P t k off ft] [tg : TG P ft false] {cs : Array Value} {v : Value} (hv : cs[off]? = some v) : fld P t (.agg cs) k w K = K v w := by
  unfold fld
  have hh := tf.h
  unfold fieldOf at hh
  split at hh
  · rename_i fs hu
    obtain ⟨f, hf, he⟩ := Option.map_eq_some_iff.1 hh
    simp only [Prod.mk.injEq] at he
    obtain ⟨h1, h2⟩ := he
    subst h2 h1
    exact op_value (by simp [Instr.field, run_underlying hu, hf, asAgg, part, run_isAgg_of tg, hv])
  · cases hh
theorem mk_func {f : Fn} {first caps : List Value} : mkFunc P f first caps w K = K (.func f first.toArray caps.toArray) w := op_value (by simp [Instr.makeFunc])
theorem bld_of {t : TypeId} {parts : List (Nat × Value)} {cells : Array Value} (h : P.built t parts = some cells) (hk : K (.agg cells) w) : bld P t parts w K := by
  unfold bld
  rw [op_value (run_build w t parts.toArray cells h)]; exact hk
end
def MapIs (o : Option Obj) (m : List (List UInt8 × Value)) : Prop :=
  ∃ es clock, o = some (.map es clock) ∧ es.toList.map (fun e => (e.key, e.val)) = m.map (fun p => (S p.1, p.2)) ∧ (es.toList.map (·.born)).Pairwise (· < ·) ∧ ∀ e ∈ es.toList, e.born < clock
def lookS (m : List (List UInt8 × Value)) (k : List UInt8) : Option Value := match m with
  | [] => none
  | p :: r => if p.1 = k then some p.2 else lookS r k
def putS (m : List (List UInt8 × Value)) (k : List UInt8) (v : Value) : List (List UInt8 × Value) := match m with
  | [] => [(k, v)]
  | p :: r => if p.1 = k then (k, v) :: r else p :: putS r k v
theorem bytes_beq (a b : List UInt8) : ((⟨a.toArray⟩ : ByteArray) == ⟨b.toArray⟩) = decide (a = b) := by
  rw [← beq_dec]
  show (a.toArray == b.toArray) = _
  simp
theorem findNow_S (k : List UInt8) : ∀ (es : List MapEntry) (m : List (List UInt8 × Value)) (i : Nat), es.map (fun e => (e.key, e.val)) = m.map (fun p => (S p.1, p.2)) →
    ∃ r, Instr.findNow .string (S k) es i = some r ∧ r.map (·.2) = lookS m k ∧ (∀ j v, r = some (j, v) → i ≤ j ∧ (∃ e, es[j - i]? = some e ∧ e.key = S k) ∧ ∀ u, (es.modify (j - i) fun e => { e with key := S k, val := u }).map (fun e => (e.key, e.val)) = (putS m k u).map (fun p => (S p.1, p.2))) ∧
      (r = none → ∀ u, putS m k u = m ++ [(k, u)]) := by
  intro es
  induction es with
  | nil =>
    intro m i h
    cases m with
    | nil => exact ⟨none, rfl, rfl, (by simp), fun _ u => rfl⟩
    | cons => simp at h
  | cons e r ih =>
    intro m i h
    cases m with
    | nil => simp at h
    | cons p q =>
      simp only [List.map_cons, List.cons.injEq, Prod.mk.injEq] at h
      obtain ⟨⟨h1, h2⟩, h3⟩ := h
      simp only [Instr.findNow, h1, Instr.sameNow, bytes_beq]
      by_cases hk : p.1 = k
      · have hd : decide (k = p.1) = true := by simp [hk]
        simp only [hd]
        refine ⟨_, rfl, by simp [lookS, hk, h2], ?_, by simp⟩
        intro j v hjv
        cases hjv
        refine ⟨Nat.le_refl _, ⟨e, by simp, by rw [h1, hk]⟩, fun u => ?_⟩
        simp [putS, hk, h3]
      · have hd : decide (k = p.1) = false := by simp; exact fun e => hk e.symm
        simp only [hd]
        obtain ⟨r', q1, q2, q3, q4⟩ := ih q (i + 1) h3
        refine ⟨r', q1, by simp [lookS, hk, q2], ?_, ?_⟩
        · intro j v hjv
          obtain ⟨z1, z2, z3⟩ := q3 j v hjv
          refine ⟨by omega, by rw [show j - i = (j - (i + 1)) + 1 by omega]; simpa using z2, fun u => ?_⟩
          have := z3 u
          rw [show j - i = (j - (i + 1)) + 1 by omega]
          simp [putS, hk, h1, h2, this]
        · intro hn u
          simp [putS, hk, q4 hn u]
theorem run_checkKey_S {t : TypeId} (ht : P.underlying t = some .string) (b : Bool) (k : List UInt8) (w : World) : (Instr.checkKey b 10000 t (S k)).run P w = .ok () w := by
  unfold Instr.checkKey
  simp [run_underlying ht]
theorem look_map {t kt et : TypeId} {sz by_ : Nat} {z : Value} [tm : TM P t kt et] [tz : TZ P et sz by_ z] (hk : P.underlying kt = some .string) {r : Nat} {m : List (List UInt8 × Value)} (hm : MapIs (w.heap[r]?) m) (k : List UInt8) :
    lookup P t (.map (some r)) (S k) true w K = K (match lookS m k with | some v => .tuple #[v, .bool true] | none => .tuple #[z, .bool false]) w := by
  obtain ⟨es, clock, h1, h2, h3, h4⟩ := hm
  obtain ⟨r', q1, q2, q3, q4⟩ := findNow_S k es.toList m 0 h2
  unfold lookup
  refine op_value ?_
  simp only [Instr.lookup, Sem.run_bind, run_underlying tm.h, Result.andThen_ok, Instr.findKey, run_underlying hk, q1, run_checkKey_S hk]
  have hg : (getObj r).run P w = .ok (.map es clock) w := by simp [getObj, Sem.run, h1]
  simp only [hg, Result.andThen_ok, Sem.run_bind, Sem.run_pure, run_checkKey_S hk, run_underlying hk, q1]
  cases r' with
  | none => simp at q2; rw [← q2]; simp [run_zero_of tz]
  | some p => simp at q2; rw [← q2]; simp
theorem look_map1 {t kt et : TypeId} {sz by_ : Nat} {z : Value} [tm : TM P t kt et] [tz : TZ P et sz by_ z] (hk : P.underlying kt = some .string) {r : Nat} {m : List (List UInt8 × Value)} (hm : MapIs (w.heap[r]?) m) (k : List UInt8) :
    lookup P t (.map (some r)) (S k) false w K = K ((lookS m k).getD z) w := by
  obtain ⟨es, clock, h1, h2, h3, h4⟩ := hm
  obtain ⟨r', q1, q2, q3, q4⟩ := findNow_S k es.toList m 0 h2
  unfold lookup
  refine op_value ?_
  have hg : (getObj r).run P w = .ok (.map es clock) w := by simp [getObj, Sem.run, h1]
  simp only [Instr.lookup, Sem.run_bind, run_underlying tm.h, Result.andThen_ok, Instr.findKey, run_underlying hk, q1, run_checkKey_S hk, hg, Sem.run_pure]
  cases r' with
  | none => simp at q2; rw [← q2]; simp [run_zero_of tz]
  | some p => simp at q2; rw [← q2]; simp
def MineM (σ : Store) (w : World) (r : Nat) (m : List (List UInt8 × Value)) : Prop := σ r = none ∧ MapIs (w.heap[r]?) m
def LiesM (σ : Store) (r : Nat) (m : List (List UInt8 × Value)) : Prop := MapIs (σ r) m
theorem LiesM.is {σ : Store} {r : Nat} {m : List (List UInt8 × Value)} (h : LiesM σ r m) (hs : Sat w σ) : MapIs (w.heap[r]?) m := by
  obtain ⟨es, clock, h1, h2⟩ := h
  exact ⟨es, clock, hs _ _ h1, h2⟩
theorem LiesM.le {σ σ' : Store} {r : Nat} {m : List (List UInt8 × Value)} (h : LiesM σ r m) (hk : ∀ b o, σ b = some o → σ' b = some o) : LiesM σ' r m := by
  obtain ⟨es, clock, h1, h2⟩ := h
  exact ⟨es, clock, hk _ _ h1, h2⟩
theorem LiesM.up {σ σ' : Store} {r : Nat} {m : List (List UInt8 × Value)} (h : LiesM σ r m) (hk : Stp w σ w' σ') : LiesM σ' r m := h.le hk.le
theorem MineM.lt {σ : Store} {r : Nat} {m : List (List UInt8 × Value)} (h : MineM σ w r m) : r < w.heap.size := by
  obtain ⟨_, es, clock, h1, _⟩ := h
  exact (Array.getElem?_eq_some_iff.1 h1).1
theorem MineM.up {σ σ' : Store} {r : Nat} {m : List (List UInt8 × Value)} (h : MineM σ w r m) (hk : Stp w σ w' σ') : MineM σ' w' r m := by
  have hl := h.lt
  exact ⟨(hk.old r hl).trans h.1, (hk.bel.block r hl).symm ▸ h.2⟩
theorem MineM.turn {σ : Store} {row : Option Nat} {r : Nat} {m : List (List UInt8 × Value)} (h : MineM σ w r m) (hg : w.grownBy w' row) (hne : some r ≠ row) : MineM σ w' r m :=
  ⟨h.1, (hg.block r h.lt hne).symm ▸ h.2⟩
theorem mk_map {t : TypeId} {σ : Store} (hs : Sat w σ) (h : ∀ r w', w.heap.size ≤ r → Stp w σ w' σ → MineM σ w' r [] → K (.map (some r)) w') : mkMap P t none w K := by
  unfold mkMap
  rw [op_value (v := .map (some w.heap.size)) (w' := w.alloc (.map #[] 0)) (by simp [Instr.makeMap])]
  exact h _ _ (Nat.le_refl _) (Stp.own hs _) ⟨hs.none (Nat.le_refl _), #[], 0, heap_alloc_new w _, rfl, by simp, by simp⟩
theorem MineM.keep {σ σ0 : Store} {r : Nat} {m : List (List UInt8 × Value)} (h : MineM σ w r m) (hS : Stp w0 σ0 w σ) (hb : w0.heap.size ≤ r) : ∃ σ', Stp w0 σ0 w σ' ∧ LiesM σ' r m ∧ (∀ k o, σ k = some o → σ' k = some o) ∧ (∀ k, k ≠ r → σ' k = σ k) := by
  obtain ⟨h0, es, clock, h1, h2⟩ := h
  exact ⟨σ.put r (.map es clock), hS.put h0 hb h1, ⟨es, clock, by simp [Store.put], h2⟩, Store.put_le hS.sat h0 _, fun k hk => by simp only [Store.put, if_neg hk]⟩
theorem map_update {t kt et : TypeId} [tm : TM P t kt et] (hk : P.underlying kt = some .string) {σ : Store} {r : Nat} {m : List (List UInt8 × Value)} (hm : MineM σ w r m) (k : List UInt8) (v : Value)
    (h : ∀ w', Upd w r w' → MineM σ w' r (putS m k v) → K undef w') : mapUpdate P t (.map (some r)) (S k) v w K := by
  obtain ⟨h0, es, clock, h1, h2, h3, h4⟩ := hm
  obtain ⟨r', q1, q2, q3, q4⟩ := findNow_S k es.toList m 0 h2
  have hg : (getObj r).run P w = .ok (.map es clock) w := by simp [getObj, Sem.run, h1]
  have hl := (Array.getElem?_eq_some_iff.1 h1).1
  have hset : ∀ o, o = Obj.map es clock ∨ True → (∀ c e f, o ≠ .cells c e f) → (setObj r o).run P w = .ok () { w with heap := w.heap.setIfInBounds r o } := by
    intro o _ _
    simp [setObj, Sem.run, h1]
  have upd : ∀ o, Upd w r { w with heap := w.heap.setIfInBounds r o } := fun o => ⟨rfl, rfl, rfl, by simp, fun k hk => by simp only [Array.getElem?_setIfInBounds]; rw [if_neg (by omega)]⟩
  have at_ : ∀ o, ({ w with heap := w.heap.setIfInBounds r o } : World).heap[r]? = some o := fun o => by simp [Array.getElem?_setIfInBounds, hl]
  unfold mapUpdate
  cases r' with
  | none =>
    rw [op_unit (w' := { w with heap := w.heap.setIfInBounds r (.map (es.push { key := S k, val := v, born := clock }) (clock + 1)) }) (by
      simp only [Instr.mapUpdate, Sem.run_bind, run_underlying tm.h, Result.andThen_ok, Instr.findKey, run_underlying hk, q1, run_checkKey_S hk, hg, Sem.run_pure]
      exact hset _ (.inr trivial) (by intros; simp))]
    refine h _ (upd _) ⟨h0, _, _, at_ _, ?_, ?_, ?_⟩
    · rw [q4 rfl]; simp [h2]
    · simp only [Array.toList_push, List.map_append, List.map_cons, List.map_nil]
      rw [List.pairwise_append]
      refine ⟨h3, by simp, ?_⟩
      intro a ha b hb
      simp at hb; subst hb
      obtain ⟨e, he, rfl⟩ := List.mem_map.1 ha
      exact h4 e he
    · intro e he
      simp at he
      rcases he with he | rfl
      · have := h4 e (by simpa using he); omega
      · simp
  | some p =>
    obtain ⟨j, u⟩ := p
    obtain ⟨z1, z2, z3⟩ := q3 j u rfl
    obtain ⟨e, e1, e2⟩ := z2
    simp only [Nat.sub_zero] at e1 z3
    have hborn : ((es.modify j fun e => { e with key := S k, val := v }).toList.map (·.born)) = es.toList.map (·.born) := by
      apply List.ext_getElem?
      intro i
      simp only [Array.toList_modify, List.getElem?_map, List.getElem?_modify]
      by_cases hij : j = i <;> cases es.toList[i]? <;> simp [hij]
    have hstay : (Instr.keyThatStays (S k) (S k)).run P w = .ok (S k) w := by
      simp [Instr.keyThatStays, Instr.sameBits, bytes_beq]
    rw [op_unit (w' := { w with heap := w.heap.setIfInBounds r (.map (es.modify j fun e => { e with key := S k, val := v }) clock) }) (by
      simp only [Instr.mapUpdate, Sem.run_bind, run_underlying tm.h, Result.andThen_ok, Instr.findKey, run_underlying hk, q1, run_checkKey_S hk, hg, Sem.run_pure]
      rw [show ((es[j]?).map (·.key)).getD (S k) = S k by rw [← Array.getElem?_toList, e1]; simp [e2]]
      simp only [hstay, Result.andThen_ok]
      exact hset _ (.inr trivial) (by intros; simp))]
    refine h _ (upd _) ⟨h0, _, _, at_ _, ?_, ?_, ?_⟩
    · simp only [Array.toList_modify]; exact z3 v
    · rw [hborn]; exact h3
    · intro x hx
      have : x.born ∈ es.toList.map (·.born) := by rw [← hborn]; exact List.mem_map.2 ⟨x, hx, rfl⟩
      obtain ⟨y, hy, e⟩ := List.mem_map.1 this
      rw [← e]; exact h4 y hy
end Go.Emb

set_option autoImplicit false
set_option linter.unusedSimpArgs false
set_option linter.unusedVariables false
namespace Go.Emb
open Go.RowKit
variable {P : Program} {w w0 w1 w' w'' : World} {K : Value → World → Prop}
theorem gop_split {c b : Bool} {run : World → (Value → World → Prop) → Prop} (h1 : c = b → run w K) (h2 : c = (!b) → K undef w) : gop (.bool c) b w run K := by
  cases c <;> cases b
  · rw [gop_false]; exact h1 rfl
  · rw [gop_ft]; exact h2 rfl
  · rw [gop_tf]; exact h2 rfl
  · rw [gop_true]; exact h1 rfl
theorem cnd_split {c : Bool} {t e : Prop} (h1 : c = true → t) (h2 : c = false → e) : cnd (.bool c) t e := by
  cases c
  · rw [cnd_false]; exact h2 rfl
  · rw [cnd_true]; exact h1 rfl
theorem len_slK {α : Type} {R : Store → α → List Value → Prop} {sz : Nat} {σ : Store} {v : Value} {xs : List α} {t0 e t : TypeId} {cs : List Bool} [ts : TS P t0 e] (h : Sl sz R σ v xs) (hk : K (I xs.length) w) : blt P .len [t0] t cs [v] w K := by
  rw [len_sl h]; exact hk
structure Kpt (D : Nat → Prop) (w w' : World) : Prop where
  os : w'.os = w.os
  tape : w'.tape = w.tape
  output : w'.output = w.output
  size : w.heap.size ≤ w'.heap.size
  block : ∀ k, k < w.heap.size → ¬ D k → w'.heap[k]? = w.heap[k]?
theorem Kpt.refl {D : Nat → Prop} : Kpt D w w := ⟨rfl, rfl, rfl, Nat.le_refl _, fun _ _ _ => rfl⟩
theorem Kpt.trans {D : Nat → Prop} (h : Kpt D w w') (k : Kpt D w' w'') : Kpt D w w'' :=
  ⟨k.os.trans h.os, k.tape.trans h.tape, k.output.trans h.output, Nat.le_trans h.size k.size, fun i hi hd => (k.block i (Nat.lt_of_lt_of_le hi h.size) hd).trans (h.block i hi hd)⟩
theorem Kpt.of_below {D : Nat → Prop} (h : Below w.heap.size w w') : Kpt D w w' := ⟨h.os, h.tape, h.output, h.size, fun k hk _ => h.block k hk⟩
theorem Kpt.of_grown {D : Nat → Prop} {row : Option Nat} (h : w.grownBy w' row) (hr : ∀ k, row = some k → D k) : Kpt D w w' := ⟨h.os, h.tape, h.output, h.size, fun k hk hd => h.block k hk (fun e => hd (hr k e.symm))⟩
theorem Kpt.of_upd {D : Nat → Prop} {b : Nat} (h : Upd w b w') (hb : D b) : Kpt D w w' := ⟨h.os, h.tape, h.output, by rw [h.size]; exact Nat.le_refl _, fun k hk hd => h.block k (fun e => hd (e ▸ hb))⟩
theorem Kpt.mono {D D' : Nat → Prop} (h : Kpt D w w') (hd : ∀ k, k < w.heap.size → D k → D' k) : Kpt D' w w' := ⟨h.os, h.tape, h.output, h.size, fun k hk hn => h.block k hk (fun e => hn (hd k hk e))⟩
theorem Kpt.below {D : Nat → Prop} (h : Kpt D w w') (hd : ∀ k, ¬ D k) : Below w.heap.size w w' := ⟨h.os, h.tape, h.output, h.size, fun k hk => h.block k hk (hd k)⟩
theorem Stp.kp {σ0 σ : Store} {D : Nat → Prop} (hS : Stp w0 σ0 w σ) (hk : Kpt D w w') (hr : ∀ k, D k → w0.heap.size ≤ k ∧ σ k = none) : Stp w0 σ0 w' σ := by
  refine ⟨⟨hk.os.trans hS.bel.os, hk.tape.trans hS.bel.tape, hk.output.trans hS.bel.output, Nat.le_trans hS.bel.size hk.size, fun k hlt => ?_⟩, ?_, hS.le, hS.old⟩
  · refine (hk.block k (Nat.lt_of_lt_of_le hlt hS.bel.size) ?_).trans (hS.bel.block k hlt)
    intro e; have := (hr k e).1; omega
  · intro k o ho
    refine (hk.block k (hS.sat.lt ho) ?_).trans (hS.sat k o ho)
    intro e; rw [(hr k e).2] at ho; cases ho
theorem Mine.kp {σ : Store} {D : Nat → Prop} {k : Nat} {cs : List Value} (h : Mine σ w k cs) (hk : Kpt D w w') (hne : ¬ D k) : Mine σ w' k cs := by
  have hl := h.lt
  obtain ⟨h1, e, h2⟩ := h
  exact ⟨h1, e, (hk.block k hl hne).trans h2⟩
theorem MineM.kp {σ : Store} {D : Nat → Prop} {r : Nat} {m : List (List UInt8 × Value)} (h : MineM σ w r m) (hk : Kpt D w w') (hne : ¬ D r) : MineM σ w' r m :=
  ⟨h.1, (hk.block r h.lt hne).symm ▸ h.2⟩
theorem Acc.kp {α : Type} {R : Store → α → List Value → Prop} {B sz : Nat} {e : TypeId} {σ : Store} {v : Value} {xs : List α} {D : Nat → Prop} (h : Acc B e sz R σ w v xs) (hk : Kpt D w w') (hne : ∀ k, v.ownBlock = some k → ¬ D k) : Acc B e sz R σ w' v xs := by
  obtain ⟨cells, h1, h2, h3⟩ := h
  refine ⟨cells, ⟨h1.1, ?_⟩, h2, h3⟩
  rcases h1.2 with hn | ⟨g, cap, cur, rfl, hb, hg, rest⟩
  · exact .inl hn
  · refine .inr ⟨g, cap, cur, rfl, hb, ?_, rest⟩
    rw [hk.block g (Array.getElem?_eq_some_iff.1 hg).1 (hne g rfl)]; exact hg
theorem bt {w w1 w2 : World} (h1 : Below w.heap.size w w1) (h2 : Below w1.heap.size w1 w2) : Below w.heap.size w w2 := h1.trans (h2.mono h1.size)
abbrev Big : Nat := 140737488351232
def RStr (_ : Store) (s : List UInt8) (cs : List Value) : Prop := cs = [S s] ∧ s.length ≤ Big
instance : Rep RStr := ⟨fun _ h => h, fun h u hu => by rw [h.1] at hu; simp at hu; subst hu; rfl⟩
def RInt (_ : Store) (n : Int) (cs : List Value) : Prop := cs = [I n] ∧ -9223372036854775808 ≤ n ∧ n ≤ 9223372036854775807
instance : Rep RInt := ⟨fun _ h => h, fun h u hu => by rw [h.1] at hu; simp at hu; subst hu; rfl⟩
def RBool (_ : Store) (b : Bool) (cs : List Value) : Prop := cs = [.bool b]
instance : Rep RBool := ⟨fun _ h => h, fun h u hu => by rw [h] at hu; simp at hu; subst hu; rfl⟩
def UpI (N : Nat) (Inv : Nat → World → Prop) (x : Value) (w : World) : Prop := ∃ n : Nat, x = I n ∧ n ≤ N ∧ Inv n w
def UpM (N : Nat) (x : Value) : Nat := match x with | .int _ n => N - n.toNat | _ => 0
theorem lp_up {A : (Value → World → Prop) → Value → (Nat → Value) → World → Prop} (N : Nat) (Inv : Nat → World → Prop) (h0 : Inv 0 w)
    (hstep : ∀ n w d, n ≤ N → Inv n w → A (fun y w' => UpI N Inv y w' ∧ UpM N y < UpM N (I n)) (I n) d w) : lp (α := Value) (.int .i64 0) w A := by
  refine lp_mk (UpI N Inv) (fun x _ => UpM N x) ⟨0, rfl, Nat.zero_le _, h0⟩ ?_
  rintro _ d w' ⟨n, rfl, hn, hi⟩
  exact hstep n w' d hn hi
theorem up_next {N n : Nat} {Inv : Nat → World → Prop} (hN : N ≤ 9223372036854775807) (hn : n < N) (hi : Inv (n + 1) w) : UpI N Inv (.int .i64 (IntKind.i64.wrap (n + 1))) w ∧ UpM N (.int .i64 (IntKind.i64.wrap (n + 1))) < UpM N (I n) := by
  rw [w64 (by omega) (by omega)]
  exact ⟨⟨n + 1, rfl, hn, hi⟩, by simp only [UpM]; omega⟩
def UpI2 {α : Type} (N : Nat) (Inv : Nat → α → World → Prop) (x : α × Value) (w : World) : Prop := ∃ n : Nat, x.2 = I n ∧ n ≤ N ∧ Inv n x.1 w
def UpM2 {α : Type} (N : Nat) (x : α × Value) : Nat := UpM N x.2
theorem lp_up2 {α : Type} {A : (α × Value → World → Prop) → α × Value → (Nat → Value) → World → Prop} {a : α} (N : Nat) (Inv : Nat → α → World → Prop) (h0 : Inv 0 a w)
    (hstep : ∀ n a w d, n ≤ N → Inv n a w → A (fun y w' => UpI2 N Inv y w' ∧ UpM2 N y < UpM2 N (a, I n)) (a, I n) d w) : lp (α := α × Value) (a, .int .i64 0) w A := by
  refine lp_mk (UpI2 N Inv) (fun x _ => UpM2 N x) ⟨0, rfl, Nat.zero_le _, h0⟩ ?_
  rintro ⟨a, x⟩ d w' ⟨n, hx, hn, hi⟩
  simp only at hx hi
  subst hx
  exact hstep n a w' d hn hi
theorem up_next2 {α : Type} {a a' : α} {N n : Nat} {Inv : Nat → α → World → Prop} (hN : N ≤ 9223372036854775807) (hn : n < N) (hi : Inv (n + 1) a' w) : UpI2 N Inv (a', .int .i64 (IntKind.i64.wrap (n + 1))) w ∧ UpM2 N (a', .int .i64 (IntKind.i64.wrap (n + 1))) < UpM2 N (a, I n) := by
  rw [w64 (by omega) (by omega)]
  exact ⟨⟨n + 1, rfl, hn, hi⟩, by simp only [UpM2, UpM]; omega⟩
theorem ix_slN {α : Type} {R : Store → α → List Value → Prop} {sz : Nat} {σ : Store} {v : Value} {xs : List α} {t e : TypeId} {by_ : Nat} {z : Value} [TS P t e] [TZ P e sz by_ z] (h : Sl sz R σ v xs) {n : Nat} (hn : n < xs.length)
    (hk : ∀ a cs, Lies σ a cs → cs.length = sz → R σ xs[n] cs → K (.pointer (some a)) w) : indexAddr P t v (I n) w K :=
  ix_sl h (by omega) (by simpa using hn) (fun a cs h1 h2 h3 => hk a cs h1 h2 (by simpa using h3))
theorem alc_st {t : TypeId} {sz by_ : Nat} {z : Value} {A : Value → Value → World → Prop} [tz : TZ P t sz by_ z] {σ : Store} {cs : List Value} (hs : Sat w σ) (hz : z.cells.size = sz) (hl : cs.length = sz) (h1 : ∀ u ∈ cs, u.oneCell' = true)
    (h : ∀ a w' σ', Stp w σ w' σ' → Lies σ' a cs → A (.pointer (some a)) undef w') : alc P t w (fun p w => stv P t p (.agg cs.toArray) w (fun u w => A p u w)) := by
  refine alc_mine hs fun b w1 hb hk hm => ?_
  refine sta hm (by simpa using hz) hl (by rw [List.all_toArray]; exact List.all_eq_true.2 h1) fun w2 hu hm2 => ?_
  have hS : Stp w σ w2 σ := hu.stp hk hb hm.1
  obtain ⟨σ', g1, g2, _⟩ := hm2.keep hS hb
  exact h _ _ _ g1 g2
theorem alc_st1 {t : TypeId} {by_ : Nat} {z : Value} {A : Value → Value → World → Prop} [tz : TZ P t 1 by_ z] {σ : Store} {v : Value} (hs : Sat w σ) (hz : z.cells.size = 1) (hc : v.cells = #[v]) (h1 : v.oneCell' = true)
    (h : ∀ a w' σ', Stp w σ w' σ' → Lies σ' a [v] → A (.pointer (some a)) undef w') : alc P t w (fun p w => stv P t p v w (fun u w => A p u w)) := by
  refine alc_mine hs fun b w1 hb hk hm => ?_
  have hl : z.cells.toList.length = 1 := by simpa using hz
  refine st0 hm (by omega) hc h1 fun w2 hu hm2 => ?_
  have hS : Stp w σ w2 σ := hu.stp hk hb hm.1
  have e : z.cells.toList.set 0 v = [v] := by
    match hzl : z.cells.toList, hl with
    | [x], _ => rfl
  rw [e] at hm2
  obtain ⟨σ', g1, g2, _⟩ := hm2.keep hS hb
  exact h _ _ _ g1 g2
theorem any_take_succ {α : Type} {xs : List α} {p : α → Bool} {n : Nat} (h : n < xs.length) : (xs.take (n + 1)).any p = ((xs.take n).any p || p xs[n]) := by
  rw [List.take_add_one, List.getElem?_eq_getElem h, List.any_append]; simp
theorem any_of_lt {α : Type} {xs : List α} {p : α → Bool} {n : Nat} (h : n < xs.length) (hp : p xs[n] = true) : xs.any p = true := List.any_eq_true.2 ⟨_, List.getElem_mem h, hp⟩
theorem any_take_all {α : Type} {xs : List α} {p : α → Bool} {n : Nat} (h : ¬ n < xs.length) : (xs.take n).any p = xs.any p := by rw [List.take_of_length_le (by omega)]
end Go.Emb

set_option autoImplicit false
namespace Go.Hm
open Go.Kd
structure Fld where
  name : Str
  kind : Str
  tr : Bool
deriving DecidableEq
structure Ins where
  op : Str
  n : Int
  s : Str
deriving DecidableEq
structure Cat where
  frm : Int
  to : Int
  at_ : Int
  cls : Str
deriving DecidableEq
structure Met where
  name : Str
  params : List Str
  result : Str
  abs : Bool
  locals : Int
  code : List Ins
  catches : List Cat
deriving DecidableEq
structure Cla where
  name : Str
  super : Str
  like : List Str
  iface : Bool
  abs : Bool
  fin : Bool
  fields : List Fld
  methods : List Hm.Met
deriving DecidableEq
def Ins.zero : Ins := ⟨[], 0, []⟩
def Fld.zero : Fld := ⟨[], [], false⟩
def Met.zero : Hm.Met := ⟨[], [], [], false, 0, [], []⟩
def Cla.zero : Cla := ⟨[], [], [], false, false, false, [], []⟩
end Go.Hm

set_option autoImplicit false
set_option linter.unusedSimpArgs false
set_option linter.unusedVariables false
namespace Go.Emb
open Go.RowKit Go.Hm
abbrev In64 (n : Int) : Prop := -9223372036854775808 ≤ n ∧ n ≤ 9223372036854775807
def RFd (_ : Store) (f : Fld) (cs : List Value) : Prop := cs = [S f.name, S f.kind, .bool f.tr] ∧ f.name.length ≤ Big ∧ f.kind.length ≤ Big
def RIn (_ : Store) (i : Ins) (cs : List Value) : Prop := cs = [S i.op, I i.n, S i.s] ∧ i.op.length ≤ Big ∧ In64 i.n ∧ i.s.length ≤ Big
def RCa (_ : Store) (c : Cat) (cs : List Value) : Prop := cs = [I c.frm, I c.to, I c.at_, S c.cls] ∧ In64 c.frm ∧ In64 c.to ∧ In64 c.at_ ∧ c.cls.length ≤ Big
def RMe (σ : Store) (m : Hm.Met) (cs : List Value) : Prop := ∃ pv cv hv, cs = [S m.name, pv, S m.result, .bool m.abs, I m.locals, cv, hv] ∧ Sl 1 RStr σ pv m.params ∧ Sl 3 RIn σ cv m.code ∧ Sl 4 RCa σ hv m.catches ∧ m.name.length ≤ Big ∧ m.result.length ≤ Big ∧ In64 m.locals
def RCl (σ : Store) (c : Cla) (cs : List Value) : Prop := ∃ lv fv mv, cs = [S c.name, S c.super, lv, .bool c.iface, .bool c.abs, .bool c.fin, fv, mv] ∧ Sl 1 RStr σ lv c.like ∧ Sl 3 RFd σ fv c.fields ∧ Sl 7 RMe σ mv c.methods ∧ c.name.length ≤ Big ∧ c.super.length ≤ Big
theorem one_sl {α : Type} {sz : Nat} {R : Store → α → List Value → Prop} {σ : Store} {v : Value} {xs : List α} (h : Sl sz R σ v xs) : v.oneCell' = true := by
  obtain ⟨a, cap, rfl, _⟩ := h; rfl
instance : Rep RFd := ⟨fun _ h => h, fun h u hu => by rw [h.1] at hu; simp at hu; rcases hu with rfl | rfl | rfl <;> rfl⟩
instance : Rep RIn := ⟨fun _ h => h, fun h u hu => by rw [h.1] at hu; simp at hu; rcases hu with rfl | rfl | rfl <;> rfl⟩
instance : Rep RCa := ⟨fun _ h => h, fun h u hu => by rw [h.1] at hu; simp at hu; rcases hu with rfl | rfl | rfl | rfl <;> rfl⟩
instance : Rep RMe := ⟨fun hk ⟨pv, cv, hv, h1, h2, h3, h4, h5⟩ => ⟨pv, cv, hv, h1, h2.le hk, h3.le hk, h4.le hk, h5⟩, fun ⟨pv, cv, hv, h1, h2, h3, h4, h5⟩ u hu => by
  rw [h1] at hu; simp at hu; rcases hu with rfl | rfl | rfl | rfl | rfl | rfl | rfl
  · rfl
  · exact one_sl h2
  · rfl
  · rfl
  · rfl
  · exact one_sl h3
  · exact one_sl h4⟩
instance : Rep RCl := ⟨fun hk ⟨pv, cv, hv, h1, h2, h3, h4, h5⟩ => ⟨pv, cv, hv, h1, h2.le hk, h3.le hk, h4.le hk, h5⟩, fun ⟨pv, cv, hv, h1, h2, h3, h4, h5⟩ u hu => by
  rw [h1] at hu; simp at hu; rcases hu with rfl | rfl | rfl | rfl | rfl | rfl | rfl | rfl
  · rfl
  · rfl
  · exact one_sl h2
  · rfl
  · rfl
  · rfl
  · exact one_sl h3
  · exact one_sl h4⟩
end Go.Emb

set_option linter.unusedVariables false
namespace Go.Proofs.YtdnfaboigajkhaaGreatDoor
open Go.Emb
instance z_x : TZ P T.x 1 0 (.tuple #[]) := ⟨by kernel_rfl⟩
instance g_x : TG P T.x false := ⟨by kernel_rfl⟩
instance z_int64 : TZ P T.int64 1 8 (.int .i64 0) := ⟨by kernel_rfl⟩
instance g_int64 : TG P T.int64 false := ⟨by kernel_rfl⟩
instance z_int : TZ P T.int 1 8 (.int .i64 0) := ⟨by kernel_rfl⟩
instance g_int : TG P T.int false := ⟨by kernel_rfl⟩
instance z_bool : TZ P T.bool 1 1 (.bool false) := ⟨by kernel_rfl⟩
instance g_bool : TG P T.bool false := ⟨by kernel_rfl⟩
instance z_uint8 : TZ P T.uint8 1 1 (.int .u8 0) := ⟨by kernel_rfl⟩
instance g_uint8 : TG P T.uint8 false := ⟨by kernel_rfl⟩
instance z_string : TZ P T.string 1 16 (.string ⟨#[]⟩) := ⟨by kernel_rfl⟩
instance g_string : TG P T.string false := ⟨by kernel_rfl⟩
instance z_uintptr : TZ P T.uintptr 1 8 (.int .u64 0) := ⟨by kernel_rfl⟩
instance g_uintptr : TG P T.uintptr false := ⟨by kernel_rfl⟩
instance z_int32 : TZ P T.int32 1 4 (.int .i32 0) := ⟨by kernel_rfl⟩
instance g_int32 : TG P T.int32 false := ⟨by kernel_rfl⟩
instance z_S_api_Class : TZ P T.S_api_Class 1 24 (.slice none 0 0) := ⟨by kernel_rfl⟩
instance g_S_api_Class : TG P T.S_api_Class false := ⟨by kernel_rfl⟩
instance s_S_api_Class : TS P T.S_api_Class 57 := ⟨by kernel_rfl⟩
instance z_P_hier_Table : TZ P T.P_hier_Table 1 8 (.pointer none) := ⟨by kernel_rfl⟩
instance g_P_hier_Table : TG P T.P_hier_Table false := ⟨by kernel_rfl⟩
instance z_api_Errno : TZ P T.api_Errno 1 8 (.int .i64 0) := ⟨by kernel_rfl⟩
instance g_api_Errno : TG P T.api_Errno false := ⟨by kernel_rfl⟩
instance z_func_string_bool : TZ P T.func_string_bool 1 8 .nilFunc := ⟨by kernel_rfl⟩
instance g_func_string_bool : TG P T.func_string_bool false := ⟨by kernel_rfl⟩
instance z_A3_string : TZ P T.A3_string 3 48 (.agg #[.string ⟨#[]⟩, .string ⟨#[]⟩, .string ⟨#[]⟩]) := ⟨by kernel_rfl⟩
instance g_A3_string : TG P T.A3_string true := ⟨by kernel_rfl⟩
instance a_A3_string : TA P T.A3_string 3 9 := ⟨by kernel_rfl⟩
instance z_S_api_Field : TZ P T.S_api_Field 1 24 (.slice none 0 0) := ⟨by kernel_rfl⟩
instance g_S_api_Field : TG P T.S_api_Field false := ⟨by kernel_rfl⟩
instance s_S_api_Field : TS P T.S_api_Field 45 := ⟨by kernel_rfl⟩
instance z_api_Field : TZ P T.api_Field 3 40 (.agg #[.string ⟨#[]⟩, .string ⟨#[]⟩, .bool false]) := ⟨by kernel_rfl⟩
instance g_api_Field : TG P T.api_Field true := ⟨by kernel_rfl⟩
instance f_api_Field_0 : TF P T.api_Field 0 0 9 := ⟨by kernel_rfl⟩
instance f_api_Field_1 : TF P T.api_Field 1 1 9 := ⟨by kernel_rfl⟩
instance f_api_Field_2 : TF P T.api_Field 2 2 4 := ⟨by kernel_rfl⟩
instance z_S_string : TZ P T.S_string 1 24 (.slice none 0 0) := ⟨by kernel_rfl⟩
instance g_S_string : TG P T.S_string false := ⟨by kernel_rfl⟩
instance s_S_string : TS P T.S_string 9 := ⟨by kernel_rfl⟩
instance z_S_api_Instr : TZ P T.S_api_Instr 1 24 (.slice none 0 0) := ⟨by kernel_rfl⟩
instance g_S_api_Instr : TG P T.S_api_Instr false := ⟨by kernel_rfl⟩
instance s_S_api_Instr : TS P T.S_api_Instr 141 := ⟨by kernel_rfl⟩
instance z_S_api_Catch : TZ P T.S_api_Catch 1 24 (.slice none 0 0) := ⟨by kernel_rfl⟩
instance g_S_api_Catch : TG P T.S_api_Catch false := ⟨by kernel_rfl⟩
instance s_S_api_Catch : TS P T.S_api_Catch 123 := ⟨by kernel_rfl⟩
instance z_api_Method : TZ P T.api_Method 7 120 (.agg #[.string ⟨#[]⟩, .slice none 0 0, .string ⟨#[]⟩, .bool false, .int .i64 0, .slice none 0 0, .slice none 0 0]) := ⟨by kernel_rfl⟩
instance g_api_Method : TG P T.api_Method true := ⟨by kernel_rfl⟩
instance f_api_Method_0 : TF P T.api_Method 0 0 9 := ⟨by kernel_rfl⟩
instance f_api_Method_1 : TF P T.api_Method 1 1 46 := ⟨by kernel_rfl⟩
instance f_api_Method_2 : TF P T.api_Method 2 2 9 := ⟨by kernel_rfl⟩
instance f_api_Method_3 : TF P T.api_Method 3 3 4 := ⟨by kernel_rfl⟩
instance f_api_Method_4 : TF P T.api_Method 4 4 3 := ⟨by kernel_rfl⟩
instance f_api_Method_5 : TF P T.api_Method 5 5 47 := ⟨by kernel_rfl⟩
instance f_api_Method_6 : TF P T.api_Method 6 6 48 := ⟨by kernel_rfl⟩
instance z_S_api_Method : TZ P T.S_api_Method 1 24 (.slice none 0 0) := ⟨by kernel_rfl⟩
instance g_S_api_Method : TG P T.S_api_Method false := ⟨by kernel_rfl⟩
instance s_S_api_Method : TS P T.S_api_Method 50 := ⟨by kernel_rfl⟩
instance z_api_Class : TZ P T.api_Class 8 112 (.agg #[.string ⟨#[]⟩, .string ⟨#[]⟩, .slice none 0 0, .bool false, .bool false, .bool false, .slice none 0 0, .slice none 0 0]) := ⟨by kernel_rfl⟩
instance g_api_Class : TG P T.api_Class true := ⟨by kernel_rfl⟩
instance f_api_Class_0 : TF P T.api_Class 0 0 9 := ⟨by kernel_rfl⟩
instance f_api_Class_1 : TF P T.api_Class 1 1 9 := ⟨by kernel_rfl⟩
instance f_api_Class_2 : TF P T.api_Class 2 2 46 := ⟨by kernel_rfl⟩
instance f_api_Class_3 : TF P T.api_Class 3 3 4 := ⟨by kernel_rfl⟩
instance f_api_Class_4 : TF P T.api_Class 4 4 4 := ⟨by kernel_rfl⟩
instance f_api_Class_5 : TF P T.api_Class 5 5 4 := ⟨by kernel_rfl⟩
instance f_api_Class_6 : TF P T.api_Class 6 6 39 := ⟨by kernel_rfl⟩
instance f_api_Class_7 : TF P T.api_Class 7 7 55 := ⟨by kernel_rfl⟩
instance z_func_string_string : TZ P T.func_string_string 1 8 .nilFunc := ⟨by kernel_rfl⟩
instance g_func_string_string : TG P T.func_string_string false := ⟨by kernel_rfl⟩
instance z_func_api_Method_string : TZ P T.func_api_Method_string 1 8 .nilFunc := ⟨by kernel_rfl⟩
instance g_func_api_Method_string : TG P T.func_api_Method_string false := ⟨by kernel_rfl⟩
instance z_M_string_int : TZ P T.M_string_int 1 8 (.map none) := ⟨by kernel_rfl⟩
instance g_M_string_int : TG P T.M_string_int false := ⟨by kernel_rfl⟩
instance m_M_string_int : TM P T.M_string_int 9 3 := ⟨by kernel_rfl⟩
instance z_hier_Table : TZ P T.hier_Table 2 32 (.agg #[.slice none 0 0, .map none]) := ⟨by kernel_rfl⟩
instance g_hier_Table : TG P T.hier_Table true := ⟨by kernel_rfl⟩
instance f_hier_Table_0 : TF P T.hier_Table 0 0 22 := ⟨by kernel_rfl⟩
instance f_hier_Table_1 : TF P T.hier_Table 1 1 67 := ⟨by kernel_rfl⟩
instance z_S_int : TZ P T.S_int 1 24 (.slice none 0 0) := ⟨by kernel_rfl⟩
instance g_S_int : TG P T.S_int false := ⟨by kernel_rfl⟩
instance s_S_int : TS P T.S_int 3 := ⟨by kernel_rfl⟩
instance z_S_S_bool : TZ P T.S_S_bool 1 24 (.slice none 0 0) := ⟨by kernel_rfl⟩
instance g_S_S_bool : TG P T.S_S_bool false := ⟨by kernel_rfl⟩
instance s_S_S_bool : TS P T.S_S_bool 80 := ⟨by kernel_rfl⟩
instance z_S_bool : TZ P T.S_bool 1 24 (.slice none 0 0) := ⟨by kernel_rfl⟩
instance g_S_bool : TG P T.S_bool false := ⟨by kernel_rfl⟩
instance s_S_bool : TS P T.S_bool 4 := ⟨by kernel_rfl⟩
instance z_func_api_Field_bool : TZ P T.func_api_Field_bool 1 8 .nilFunc := ⟨by kernel_rfl⟩
instance g_func_api_Field_bool : TG P T.func_api_Field_bool false := ⟨by kernel_rfl⟩
instance z_A6_string : TZ P T.A6_string 6 96 (.agg #[.string ⟨#[]⟩, .string ⟨#[]⟩, .string ⟨#[]⟩, .string ⟨#[]⟩, .string ⟨#[]⟩, .string ⟨#[]⟩]) := ⟨by kernel_rfl⟩
instance g_A6_string : TG P T.A6_string true := ⟨by kernel_rfl⟩
instance a_A6_string : TA P T.A6_string 6 9 := ⟨by kernel_rfl⟩
instance z_func_int : TZ P T.func_int 1 8 .nilFunc := ⟨by kernel_rfl⟩
instance g_func_int : TG P T.func_int false := ⟨by kernel_rfl⟩
instance z_M_string_string : TZ P T.M_string_string 1 8 (.map none) := ⟨by kernel_rfl⟩
instance g_M_string_string : TG P T.M_string_string false := ⟨by kernel_rfl⟩
instance m_M_string_string : TM P T.M_string_string 9 9 := ⟨by kernel_rfl⟩
instance z_func_api_Method_bool : TZ P T.func_api_Method_bool 1 8 .nilFunc := ⟨by kernel_rfl⟩
instance g_func_api_Method_bool : TG P T.func_api_Method_bool false := ⟨by kernel_rfl⟩
instance g_strings_asciiSet : TG P T.strings_asciiSet true := ⟨by kernel_rfl⟩
instance a_strings_asciiSet : TA P T.strings_asciiSet 256 4 := ⟨by kernel_rfl⟩
instance z_api_Catch : TZ P T.api_Catch 4 40 (.agg #[.int .i64 0, .int .i64 0, .int .i64 0, .string ⟨#[]⟩]) := ⟨by kernel_rfl⟩
instance g_api_Catch : TG P T.api_Catch true := ⟨by kernel_rfl⟩
instance f_api_Catch_0 : TF P T.api_Catch 0 0 3 := ⟨by kernel_rfl⟩
instance f_api_Catch_1 : TF P T.api_Catch 1 1 3 := ⟨by kernel_rfl⟩
instance f_api_Catch_2 : TF P T.api_Catch 2 2 3 := ⟨by kernel_rfl⟩
instance f_api_Catch_3 : TF P T.api_Catch 3 3 9 := ⟨by kernel_rfl⟩
instance z_S_uint8 : TZ P T.S_uint8 1 24 (.slice none 0 0) := ⟨by kernel_rfl⟩
instance g_S_uint8 : TG P T.S_uint8 false := ⟨by kernel_rfl⟩
instance s_S_uint8 : TS P T.S_uint8 5 := ⟨by kernel_rfl⟩
instance z_strings_Builder : TZ P T.strings_Builder 2 32 (.agg #[.pointer none, .slice none 0 0]) := ⟨by kernel_rfl⟩
instance g_strings_Builder : TG P T.strings_Builder true := ⟨by kernel_rfl⟩
instance f_strings_Builder_0 : TF P T.strings_Builder 0 0 124 := ⟨by kernel_rfl⟩
instance f_strings_Builder_1 : TF P T.strings_Builder 1 1 125 := ⟨by kernel_rfl⟩
instance z_func_api_Field_string : TZ P T.func_api_Field_string 1 8 .nilFunc := ⟨by kernel_rfl⟩
instance g_func_api_Field_string : TG P T.func_api_Field_string false := ⟨by kernel_rfl⟩
instance z_api_Instr : TZ P T.api_Instr 3 40 (.agg #[.string ⟨#[]⟩, .int .i64 0, .string ⟨#[]⟩]) := ⟨by kernel_rfl⟩
instance g_api_Instr : TG P T.api_Instr true := ⟨by kernel_rfl⟩
instance f_api_Instr_0 : TF P T.api_Instr 0 0 9 := ⟨by kernel_rfl⟩
instance f_api_Instr_1 : TF P T.api_Instr 1 1 2 := ⟨by kernel_rfl⟩
instance f_api_Instr_2 : TF P T.api_Instr 2 2 9 := ⟨by kernel_rfl⟩
instance z_P_uint8 : TZ P T.P_uint8 1 8 (.pointer none) := ⟨by kernel_rfl⟩
instance g_P_uint8 : TG P T.P_uint8 false := ⟨by kernel_rfl⟩
instance z_func_api_Catch_bool : TZ P T.func_api_Catch_bool 1 8 .nilFunc := ⟨by kernel_rfl⟩
instance g_func_api_Catch_bool : TG P T.func_api_Catch_bool false := ⟨by kernel_rfl⟩
instance z_func_api_Instr_bool : TZ P T.func_api_Instr_bool 1 8 .nilFunc := ⟨by kernel_rfl⟩
instance g_func_api_Instr_bool : TG P T.func_api_Instr_bool false := ⟨by kernel_rfl⟩
instance z_code_op : TZ P T.code_op 3 24 (.agg #[.string ⟨#[]⟩, .bool false, .bool false]) := ⟨by kernel_rfl⟩
instance g_code_op : TG P T.code_op true := ⟨by kernel_rfl⟩
instance f_code_op_0 : TF P T.code_op 0 0 9 := ⟨by kernel_rfl⟩
instance f_code_op_1 : TF P T.code_op 1 1 4 := ⟨by kernel_rfl⟩
instance f_code_op_2 : TF P T.code_op 2 2 4 := ⟨by kernel_rfl⟩
instance g_A42_code_op : TG P T.A42_code_op true := ⟨by kernel_rfl⟩
instance a_A42_code_op : TA P T.A42_code_op 42 170 := ⟨by kernel_rfl⟩
instance g_A256_uint8 : TG P T.A256_uint8 true := ⟨by kernel_rfl⟩
instance a_A256_uint8 : TA P T.A256_uint8 256 5 := ⟨by kernel_rfl⟩
instance z_utf8_acceptRange : TZ P T.utf8_acceptRange 2 2 (.agg #[.int .u8 0, .int .u8 0]) := ⟨by kernel_rfl⟩
instance g_utf8_acceptRange : TG P T.utf8_acceptRange true := ⟨by kernel_rfl⟩
instance f_utf8_acceptRange_0 : TF P T.utf8_acceptRange 0 0 5 := ⟨by kernel_rfl⟩
instance f_utf8_acceptRange_1 : TF P T.utf8_acceptRange 1 1 5 := ⟨by kernel_rfl⟩
instance z_A16_utf8_acceptRange : TZ P T.A16_utf8_acceptRange 32 32 (.agg #[.int .u8 0, .int .u8 0, .int .u8 0, .int .u8 0, .int .u8 0, .int .u8 0, .int .u8 0, .int .u8 0, .int .u8 0, .int .u8 0, .int .u8 0, .int .u8 0, .int .u8 0, .int .u8 0, .int .u8 0, .int .u8 0, .int .u8 0, .int .u8 0, .int .u8 0, .int .u8 0, .int .u8 0, .int .u8 0, .int .u8 0, .int .u8 0, .int .u8 0, .int .u8 0, .int .u8 0, .int .u8 0, .int .u8 0, .int .u8 0, .int .u8 0, .int .u8 0]) := ⟨by kernel_rfl⟩
instance g_A16_utf8_acceptRange : TG P T.A16_utf8_acceptRange true := ⟨by kernel_rfl⟩
instance a_A16_utf8_acceptRange : TA P T.A16_utf8_acceptRange 16 179 := ⟨by kernel_rfl⟩
instance z_S_code_op : TZ P T.S_code_op 1 24 (.slice none 0 0) := ⟨by kernel_rfl⟩
instance g_S_code_op : TG P T.S_code_op false := ⟨by kernel_rfl⟩
instance s_S_code_op : TS P T.S_code_op 170 := ⟨by kernel_rfl⟩
instance z_uint64 : TZ P T.uint64 1 8 (.int .u64 0) := ⟨by kernel_rfl⟩
instance g_uint64 : TG P T.uint64 false := ⟨by kernel_rfl⟩
instance z_uint32 : TZ P T.uint32 1 4 (.int .u32 0) := ⟨by kernel_rfl⟩
instance g_uint32 : TG P T.uint32 false := ⟨by kernel_rfl⟩
end Go.Proofs.YtdnfaboigajkhaaGreatDoor

set_option autoImplicit false
namespace Go.Emb
theorem aS {p : Prop} (h : p := by (first | assumption | exact Stp.sat (by assumption) | exact Hst.sat (by assumption))) : p := h
theorem aL {p : Prop} (h : p := by (first | assumption | exact Sl.lift (by assumption) (by (repeat (first | exact SLe.refl _ | refine SLe.more ?_ (by assumption) | refine SLe.more ?_ (Nxt.le (by assumption)) | refine SLe.step ?_ (by assumption)))) | exact Lies.lift (by assumption) (by (repeat (first | exact SLe.refl _ | refine SLe.more ?_ (by assumption) | refine SLe.more ?_ (Nxt.le (by assumption)) | refine SLe.step ?_ (by assumption)))) | exact LiesM.lift (by assumption) (by (repeat (first | exact SLe.refl _ | refine SLe.more ?_ (by assumption) | refine SLe.more ?_ (Nxt.le (by assumption)) | refine SLe.step ?_ (by assumption)))) | exact RCl_lift (by assumption) (by (repeat (first | exact SLe.refl _ | refine SLe.more ?_ (by assumption) | refine SLe.more ?_ (Nxt.le (by assumption)) | refine SLe.step ?_ (by assumption)))) | exact RMe_lift (by assumption) (by (repeat (first | exact SLe.refl _ | refine SLe.more ?_ (by assumption) | refine SLe.more ?_ (Nxt.le (by assumption)) | refine SLe.step ?_ (by assumption)))) | exact Glb.lift (by assumption) (by (repeat (first | exact SLe.refl _ | refine SLe.more ?_ (by assumption) | refine SLe.more ?_ (Nxt.le (by assumption)) | refine SLe.step ?_ (by assumption)))) | exact Tab.lift (by assumption) (by (repeat (first | exact SLe.refl _ | refine SLe.more ?_ (by assumption) | refine SLe.more ?_ (Nxt.le (by assumption)) | refine SLe.step ?_ (by assumption)))) | exact RIn_any (by assumption) | exact RFd_any (by assumption) | exact RCa_any (by assumption))) : p := h
theorem aR {p : Prop} (h : p := by with_unfolding_all rfl) : p := h
theorem au {p : Prop} (h : p := by (first | assumption | (first | assumption | exact Stp.sat (by assumption) | exact Hst.sat (by assumption)) | (first | assumption | exact Sl.lift (by assumption) (by (repeat (first | exact SLe.refl _ | refine SLe.more ?_ (by assumption) | refine SLe.more ?_ (Nxt.le (by assumption)) | refine SLe.step ?_ (by assumption)))) | exact Lies.lift (by assumption) (by (repeat (first | exact SLe.refl _ | refine SLe.more ?_ (by assumption) | refine SLe.more ?_ (Nxt.le (by assumption)) | refine SLe.step ?_ (by assumption)))) | exact LiesM.lift (by assumption) (by (repeat (first | exact SLe.refl _ | refine SLe.more ?_ (by assumption) | refine SLe.more ?_ (Nxt.le (by assumption)) | refine SLe.step ?_ (by assumption)))) | exact RCl_lift (by assumption) (by (repeat (first | exact SLe.refl _ | refine SLe.more ?_ (by assumption) | refine SLe.more ?_ (Nxt.le (by assumption)) | refine SLe.step ?_ (by assumption)))) | exact RMe_lift (by assumption) (by (repeat (first | exact SLe.refl _ | refine SLe.more ?_ (by assumption) | refine SLe.more ?_ (Nxt.le (by assumption)) | refine SLe.step ?_ (by assumption)))) | exact Glb.lift (by assumption) (by (repeat (first | exact SLe.refl _ | refine SLe.more ?_ (by assumption) | refine SLe.more ?_ (Nxt.le (by assumption)) | refine SLe.step ?_ (by assumption)))) | exact Tab.lift (by assumption) (by (repeat (first | exact SLe.refl _ | refine SLe.more ?_ (by assumption) | refine SLe.more ?_ (Nxt.le (by assumption)) | refine SLe.step ?_ (by assumption)))) | exact RIn_any (by assumption) | exact RFd_any (by assumption) | exact RCa_any (by assumption)) | exact Nat.le_trans (by assumption) (by decide) | omega)) : p := h
end Go.Emb
namespace Go.Proofs.YtdnfaboigajkhaaGreatDoor
open Go.Emb
theorem m_len {a : List UInt8} {cs : List Bool} {r : TypeId} {w : World} {K : Value → World → Prop} : blt P .len [T.string] r cs [S a] w K = K (I a.length) w := len_str u_string
theorem m_eqb {ox oy : Operand} {a b : Bool} {w : World} {K : Value → World → Prop} : bin P .eql T.bool ox oy (.bool a) (.bool b) w K = K (.bool (a == b)) w := bin_eql_bool u_bool
theorem m_neb {ox oy : Operand} {a b : Bool} {w : World} {K : Value → World → Prop} : bin P .neq T.bool ox oy (.bool a) (.bool b) w K = K (.bool (!(a == b))) w := bin_neq_bool u_bool
def Mm := And.intro @fa <| And.intro @nil_ck <| And.intro @mk_func <| And.intro @m_len <| And.intro @m_eqb @m_neb
end Go.Proofs.YtdnfaboigajkhaaGreatDoor

set_option autoImplicit false
set_option linter.unusedSimpArgs false
set_option linter.unusedVariables false
namespace Go.Proofs.YtdnfaboigajkhaaGreatDoor
open Go.Emb Go.RowKit Go.Kd Go.Hm
variable {w : World} {K : Value → World → Prop} {σ : Store}
def manyM (m : Hm.Met) : Bool := decide (32 < m.params.length) || decide (32 < m.catches.length) || decide (200 < m.code.length) || decide (64 < m.locals)
def many (c : Cla) : Bool := c.methods.any manyM || decide (32 < c.like.length) || decide (32 < c.fields.length) || decide (32 < c.methods.length)
theorem c_many {c : Cla} {cs : List Value} (hs : Sat w σ) (hc : RCl σ c cs) (h : ∀ w', Below w.heap.size w w' → K (.bool (many c)) w') : callF P F.class_many [.agg cs.toArray] w K := r_class_many (by
  obtain ⟨lv, fv, mv, rfl, hl, hf, hm, hn, hsu⟩ := hc
  unfold g_class_many
  refine box_lies hs fun a w1 σ1 hk ha => ?_
  have hs := hk.sat
  replace hl := hl.up hk
  replace hf := hf.up hk
  replace hm := hm.up hk
  simp only [Value.cells] at ha
  ((try simp only [↓Mm, Mm, ↓Mr, Mr, Mb, reduceIte]); repeat ((first | refine ld (by assumption) (by assumption) rfl ?_ | refine ld0 (by assumption) (by assumption) rfl ?_ | refine len_slK (by assumption) ?_); (try simp only [↓Mm, Mm, ↓Mr, Mr, Mb, reduceIte])))
  refine lp_up c.methods.length (fun n w' => Below w1.heap.size w1 w' ∧ ((c.methods.take n).any manyM) = false) ⟨Below.refl _ _, by simp⟩ fun n w2 d hn hi => ?_
  obtain ⟨hb, hp⟩ := hi
  have hs2 := hs.below hb
  ((try simp only [↓Mm, Mm, ↓Mr, Mr, Mb, reduceIte]); repeat ((first | refine ld (by assumption) (by assumption) rfl ?_ | refine ld0 (by assumption) (by assumption) rfl ?_ | refine len_slK (by assumption) ?_); (try simp only [↓Mm, Mm, ↓Mr, Mr, Mb, reduceIte])))
  refine cnd_split (fun hc => ?_) (fun hc => ?_)
  · have hn' : n < c.methods.length := by simpa using hc
    refine ix_slN hm hn' fun p cs hl1 hlen hr => ?_
    refine lda hs2 hl1 hlen ?_
    refine alc_st hs2 (by rfl) hlen (Rep.one hr) fun q w3 σ3 hk3 hq => ?_
    obtain ⟨pv, cv, hv, rfl, g1, g2, g3, g4⟩ := hr
    have hs3 := hk3.sat
    replace g1 := g1.up hk3
    replace g2 := g2.up hk3
    replace g3 := g3.up hk3
    ((try simp only [↓Mm, Mm, ↓Mr, Mr, Mb, reduceIte]); repeat ((first | refine ld (by assumption) (by assumption) rfl ?_ | refine ld0 (by assumption) (by assumption) rfl ?_ | refine len_slK (by assumption) ?_); (try simp only [↓Mm, Mm, ↓Mr, Mr, Mb, reduceIte])))
    (repeat' ((first | refine gop_split (fun hh => ?_) (fun hh => ?_) | refine cnd_split (fun hh => ?_) (fun hh => ?_)) <;> (try simp only [hh, Bool.not_true, Bool.not_false, ↓Mm, Mm, ↓Mr, Mr, Mb, reduceIte]) <;> ((try simp only [↓Mm, Mm, ↓Mr, Mr, Mb, reduceIte]); repeat ((first | refine ld (by assumption) (by assumption) rfl ?_ | refine ld0 (by assumption) (by assumption) rfl ?_ | refine len_slK (by assumption) ?_); (try simp only [↓Mm, Mm, ↓Mr, Mr, Mb, reduceIte])))))
    all_goals first
      | refine up_next hm.max hn' ⟨bt hb hk3.bel, ?_⟩
        rw [any_take_succ hn', hp]; simp only [manyM]; (first | (simp only [decide_eq_true_eq, decide_eq_false_iff_not, Bool.not_true, Bool.not_false, Bool.not_eq_true', Bool.not_eq_false', Bool.or_eq_true, Bool.and_eq_true, Bool.or_eq_false_iff, Bool.and_eq_false_iff, Bool.false_or, Bool.true_and, Bool.or_false, Bool.and_true] at *; first | omega | (and_intros <;> omega)) | (rw [Bool.eq_iff_iff]; (simp only [decide_eq_true_eq, decide_eq_false_iff_not, Bool.not_true, Bool.not_false, Bool.not_eq_true', Bool.not_eq_false', Bool.or_eq_true, Bool.and_eq_true, Bool.or_eq_false_iff, Bool.and_eq_false_iff, Bool.false_or, Bool.true_and, Bool.or_false, Bool.and_true] at *; first | omega | (and_intros <;> omega))))
      | have e : many c = true := by
          have : manyM c.methods[n] = true := by simp only [manyM]; (first | (simp only [decide_eq_true_eq, decide_eq_false_iff_not, Bool.not_true, Bool.not_false, Bool.not_eq_true', Bool.not_eq_false', Bool.or_eq_true, Bool.and_eq_true, Bool.or_eq_false_iff, Bool.and_eq_false_iff, Bool.false_or, Bool.true_and, Bool.or_false, Bool.and_true] at *; first | omega | (and_intros <;> omega)) | (rw [Bool.eq_iff_iff]; (simp only [decide_eq_true_eq, decide_eq_false_iff_not, Bool.not_true, Bool.not_false, Bool.not_eq_true', Bool.not_eq_false', Bool.or_eq_true, Bool.and_eq_true, Bool.or_eq_false_iff, Bool.and_eq_false_iff, Bool.false_or, Bool.true_and, Bool.or_false, Bool.and_true] at *; first | omega | (and_intros <;> omega))))
          simp [many, any_of_lt hn' this]
        rw [← e]; exact h _ (bt hk.bel (bt hb hk3.bel))
  · have hn' : ¬ n < c.methods.length := by simpa using hc
    rw [any_take_all hn'] at hp
    have h := h w2 (bt hk.bel hb)
    ((try simp only [↓Mm, Mm, ↓Mr, Mr, Mb, reduceIte]); repeat ((first | refine ld (by assumption) (by assumption) rfl ?_ | refine ld0 (by assumption) (by assumption) rfl ?_ | refine len_slK (by assumption) ?_); (try simp only [↓Mm, Mm, ↓Mr, Mr, Mb, reduceIte])))
    (repeat' ((first | refine gop_split (fun hh => ?_) (fun hh => ?_) | refine cnd_split (fun hh => ?_) (fun hh => ?_)) <;> (try simp only [hh, Bool.not_true, Bool.not_false, ↓Mm, Mm, ↓Mr, Mr, Mb, reduceIte]) <;> ((try simp only [↓Mm, Mm, ↓Mr, Mr, Mb, reduceIte]); repeat ((first | refine ld (by assumption) (by assumption) rfl ?_ | refine ld0 (by assumption) (by assumption) rfl ?_ | refine len_slK (by assumption) ?_); (try simp only [↓Mm, Mm, ↓Mr, Mr, Mb, reduceIte])))))
    all_goals
      refine Eq.subst (motive := fun b => K (.bool b) w2) ?_ h
      simp only [many, hp]
      (first | (simp only [decide_eq_true_eq, decide_eq_false_iff_not, Bool.not_true, Bool.not_false, Bool.not_eq_true', Bool.not_eq_false', Bool.or_eq_true, Bool.and_eq_true, Bool.or_eq_false_iff, Bool.and_eq_false_iff, Bool.false_or, Bool.true_and, Bool.or_false, Bool.and_true] at *; first | omega | (and_intros <;> omega)) | (rw [Bool.eq_iff_iff]; (simp only [decide_eq_true_eq, decide_eq_false_iff_not, Bool.not_true, Bool.not_false, Bool.not_eq_true', Bool.not_eq_false', Bool.or_eq_true, Bool.and_eq_true, Bool.or_eq_false_iff, Bool.and_eq_false_iff, Bool.false_or, Bool.true_and, Bool.or_false, Bool.and_true] at *; first | omega | (and_intros <;> omega)))))
end Go.Proofs.YtdnfaboigajkhaaGreatDoor

set_option autoImplicit false
set_option linter.unusedSimpArgs false
set_option linter.unusedVariables false
namespace Go.Emb
open Go.RowKit Go.Hm
variable {H : Type} {enc : TypeId × Value → H} {P : Program} {W : World} {t : TypeId} {cs : List Value} {fuel : Nat} {x : DataW H × List MemPlace}
def whole (W : World) : Store := fun b => W.heap[b]?
theorem sat_whole : Sat W (whole W) := fun b o h => h
theorem list3 {α : Type} {l : List α} (h : l.length = 3) : ∃ a b c, l = [a, b, c] := by
  match l, h with
  | [a, b, c], _ => exact ⟨a, b, c, rfl⟩
end Go.Emb
namespace Go.Proofs.YtdnfaboigajkhaaGreatDoor
open Go.Emb Go.RowKit Go.Kd Go.Hm
variable {H : Type} {enc : TypeId × Value → H} {W : World} {cs : List Value} {fuel : Nat} {x : DataW H × List MemPlace}
theorem n_string : P.cellsOf T.string = 1 := by kernel_rfl
theorem n_bool : P.cellsOf T.bool = 1 := by kernel_rfl
end Go.Proofs.YtdnfaboigajkhaaGreatDoor
