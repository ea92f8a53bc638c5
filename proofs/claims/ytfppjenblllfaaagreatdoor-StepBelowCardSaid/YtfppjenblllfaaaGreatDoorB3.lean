/- Parts of a proof about the given program: its functions as texts of their own, what each computes, plain laws of that. The conditions of each stand in its statement. -/
import Derived.Test.YtfppjenblllfaaaGreatDoorB2
import Derived.Test.YtfppjenblllfaaaGreatDoorB1
import Derived.ChangeArms
import Derived.DataReads
import Derived.SizedLaws
import Derived.Deep.AppendSrc
import Derived.Laws.StructEq
import Derived.Laws.OwnMore
import Derived.Laws.CopyRow
set_option linter.unnecessarySimpa false
set_option linter.defProp false
set_option linter.unusedSectionVars false
set_option linter.unusedVariables false
set_option linter.unusedSimpArgs false
namespace Go.Proofs.YtfppjenblllfaaaGreatDoor
open Go.Emb
instance z_x:TZ P T.x 1 0 (.tuple #[]):=⟨by kernel_rfl⟩
instance g_x:TG P T.x false:=⟨by kernel_rfl⟩
instance z_int64:TZ P T.ac 1 8 (.int .i64 0):=⟨by kernel_rfl⟩
instance g_int64:TG P T.ac false:=⟨by kernel_rfl⟩
instance z_int:TZ P T.e 1 8 (.int .i64 0):=⟨by kernel_rfl⟩
instance g_int:TG P T.e false:=⟨by kernel_rfl⟩
instance z_bool:TZ P T.p 1 1 (.bool false):=⟨by kernel_rfl⟩
instance g_bool:TG P T.p false:=⟨by kernel_rfl⟩
instance z_uint8:TZ P T.w 1 1 (.int .u8 0):=⟨by kernel_rfl⟩
instance g_uint8:TG P T.w false:=⟨by kernel_rfl⟩
instance z_string:TZ P T.a 1 16 (.string ⟨#[]⟩):=⟨by kernel_rfl⟩
instance g_string:TG P T.a false:=⟨by kernel_rfl⟩
instance z_uintptr:TZ P T.ao 1 8 (.int .u64 0):=⟨by kernel_rfl⟩
instance g_uintptr:TG P T.ao false:=⟨by kernel_rfl⟩
instance z_int32:TZ P T.ag 1 4 (.int .i32 0):=⟨by kernel_rfl⟩
instance g_int32:TG P T.ag false:=⟨by kernel_rfl⟩
instance z_S_string:TZ P T.b 1 24 (.slice none 0 0):=⟨by kernel_rfl⟩
instance g_S_string:TG P T.b false:=⟨by kernel_rfl⟩
instance s_S_string:TS P T.b 9:=⟨by kernel_rfl⟩
instance z_api_Shape:TZ P T.f 3 56 (.agg #[.bool false, .slice none 0 0, .slice none 0 0]):=⟨by kernel_rfl⟩
instance g_api_Shape:TG P T.f true:=⟨by kernel_rfl⟩
instance f_api_Shape_0:TF P T.f 0 0 4:=⟨by kernel_rfl⟩
instance f_api_Shape_1:TF P T.f 1 1 22:=⟨by kernel_rfl⟩
instance f_api_Shape_2:TF P T.f 2 2 22:=⟨by kernel_rfl⟩
instance z_P_hier_Table:TZ P T.r 1 8 (.pointer none):=⟨by kernel_rfl⟩
instance g_P_hier_Table:TG P T.r false:=⟨by kernel_rfl⟩
instance z_S_api_Class:TZ P T.h 1 24 (.slice none 0 0):=⟨by kernel_rfl⟩
instance g_S_api_Class:TG P T.h false:=⟨by kernel_rfl⟩
instance s_S_api_Class:TS P T.h 82:=⟨by kernel_rfl⟩
instance z_api_Errno:TZ P T.s 1 8 (.int .i64 0):=⟨by kernel_rfl⟩
instance g_api_Errno:TG P T.s false:=⟨by kernel_rfl⟩
instance z_S_api_Instr:TZ P T.n 1 24 (.slice none 0 0):=⟨by kernel_rfl⟩
instance g_S_api_Instr:TG P T.n false:=⟨by kernel_rfl⟩
instance s_S_api_Instr:TS P T.n 42:=⟨by kernel_rfl⟩
instance z_S_api_Catch:TZ P T.q 1 24 (.slice none 0 0):=⟨by kernel_rfl⟩
instance g_S_api_Catch:TG P T.q false:=⟨by kernel_rfl⟩
instance s_S_api_Catch:TS P T.q 159:=⟨by kernel_rfl⟩
instance z_api_Method:TZ P T.d 7 120 (.agg #[.string ⟨#[]⟩, .slice none 0 0, .string ⟨#[]⟩, .bool false, .int .i64 0, .slice none 0 0, .slice none 0 0]):=⟨by kernel_rfl⟩
instance g_api_Method:TG P T.d true:=⟨by kernel_rfl⟩
instance f_api_Method_0:TF P T.d 0 0 9:=⟨by kernel_rfl⟩
instance f_api_Method_1:TF P T.d 1 1 22:=⟨by kernel_rfl⟩
instance f_api_Method_2:TF P T.d 2 2 9:=⟨by kernel_rfl⟩
instance f_api_Method_3:TF P T.d 3 3 4:=⟨by kernel_rfl⟩
instance f_api_Method_4:TF P T.d 4 4 3:=⟨by kernel_rfl⟩
instance f_api_Method_5:TF P T.d 5 5 37:=⟨by kernel_rfl⟩
instance f_api_Method_6:TF P T.d 6 6 38:=⟨by kernel_rfl⟩
instance z_api_Instr:TZ P T.k 3 40 (.agg #[.string ⟨#[]⟩, .int .i64 0, .string ⟨#[]⟩]):=⟨by kernel_rfl⟩
instance g_api_Instr:TG P T.k true:=⟨by kernel_rfl⟩
instance f_api_Instr_0:TF P T.k 0 0 9:=⟨by kernel_rfl⟩
instance f_api_Instr_1:TF P T.k 1 1 2:=⟨by kernel_rfl⟩
instance f_api_Instr_2:TF P T.k 2 2 9:=⟨by kernel_rfl⟩
instance z_A2_api_Shape:TZ P T.al 6 112 (.agg #[.bool false, .slice none 0 0, .slice none 0 0, .bool false, .slice none 0 0, .slice none 0 0]):=⟨by kernel_rfl⟩
instance g_A2_api_Shape:TG P T.al true:=⟨by kernel_rfl⟩
instance a_A2_api_Shape:TA P T.al 2 24:=⟨by kernel_rfl⟩
instance z_func_string_bool:TZ P T.y 1 8 .nilFunc:=⟨by kernel_rfl⟩
instance g_func_string_bool:TG P T.y false:=⟨by kernel_rfl⟩
instance z_S_int:TZ P T.z 1 24 (.slice none 0 0):=⟨by kernel_rfl⟩
instance g_S_int:TG P T.z false:=⟨by kernel_rfl⟩
instance s_S_int:TS P T.z 3:=⟨by kernel_rfl⟩
instance z_step_doer:TZ P T.m 15 232 (.agg #[.pointer none, .string ⟨#[]⟩, .slice none 0 0, .string ⟨#[]⟩, .bool false, .int .i64 0, .slice none 0 0, .slice none 0 0, .string ⟨#[]⟩, .int .i64 0, .string ⟨#[]⟩, .bool false, .slice none 0 0, .slice none 0 0, .int .i64 0]):=⟨by kernel_rfl⟩
instance g_step_doer:TG P T.m true:=⟨by kernel_rfl⟩
instance f_step_doer_0:TF P T.m 0 0 25:=⟨by kernel_rfl⟩
instance f_step_doer_1:TF P T.m 1 1 40:=⟨by kernel_rfl⟩
instance f_step_doer_2:TF P T.m 2 8 42:=⟨by kernel_rfl⟩
instance f_step_doer_3:TF P T.m 3 11 24:=⟨by kernel_rfl⟩
instance f_step_doer_4:TF P T.m 4 14 31:=⟨by kernel_rfl⟩
instance z_M_string_funcP_step_doer:TZ P T.j 1 8 (.map none):=⟨by kernel_rfl⟩
instance g_M_string_funcP_step_doer:TG P T.j false:=⟨by kernel_rfl⟩
instance m_M_string_funcP_step_doer:TM P T.j 9 69:=⟨by kernel_rfl⟩
instance z_M_string_int:TZ P T.v 1 8 (.map none):=⟨by kernel_rfl⟩
instance g_M_string_int:TG P T.v false:=⟨by kernel_rfl⟩
instance m_M_string_int:TM P T.v 9 3:=⟨by kernel_rfl⟩
instance z_hier_Table:TZ P T.u 2 32 (.agg #[.slice none 0 0, .map none]):=⟨by kernel_rfl⟩
instance g_hier_Table:TG P T.u true:=⟨by kernel_rfl⟩
instance f_hier_Table_0:TF P T.u 0 0 26:=⟨by kernel_rfl⟩
instance f_hier_Table_1:TF P T.u 1 1 76:=⟨by kernel_rfl⟩
instance z_S_api_Field:TZ P T.i 1 24 (.slice none 0 0):=⟨by kernel_rfl⟩
instance g_S_api_Field:TG P T.i false:=⟨by kernel_rfl⟩
instance s_S_api_Field:TS P T.i 89:=⟨by kernel_rfl⟩
instance z_S_api_Method:TZ P T.g 1 24 (.slice none 0 0):=⟨by kernel_rfl⟩
instance g_S_api_Method:TG P T.g false:=⟨by kernel_rfl⟩
instance s_S_api_Method:TS P T.g 40:=⟨by kernel_rfl⟩
instance z_api_Class:TZ P T.c 8 112 (.agg #[.string ⟨#[]⟩, .string ⟨#[]⟩, .slice none 0 0, .bool false, .bool false, .bool false, .slice none 0 0, .slice none 0 0]):=⟨by kernel_rfl⟩
instance g_api_Class:TG P T.c true:=⟨by kernel_rfl⟩
instance f_api_Class_0:TF P T.c 0 0 9:=⟨by kernel_rfl⟩
instance f_api_Class_1:TF P T.c 1 1 9:=⟨by kernel_rfl⟩
instance f_api_Class_2:TF P T.c 2 2 22:=⟨by kernel_rfl⟩
instance f_api_Class_3:TF P T.c 3 3 4:=⟨by kernel_rfl⟩
instance f_api_Class_4:TF P T.c 4 4 4:=⟨by kernel_rfl⟩
instance f_api_Class_5:TF P T.c 5 5 4:=⟨by kernel_rfl⟩
instance f_api_Class_6:TF P T.c 6 6 79:=⟨by kernel_rfl⟩
instance f_api_Class_7:TF P T.c 7 7 80:=⟨by kernel_rfl⟩
instance z_api_Field:TZ P T.l 3 40 (.agg #[.string ⟨#[]⟩, .string ⟨#[]⟩, .bool false]):=⟨by kernel_rfl⟩
instance g_api_Field:TG P T.l true:=⟨by kernel_rfl⟩
instance f_api_Field_0:TF P T.l 0 0 9:=⟨by kernel_rfl⟩
instance f_api_Field_1:TF P T.l 1 1 9:=⟨by kernel_rfl⟩
instance f_api_Field_2:TF P T.l 2 2 4:=⟨by kernel_rfl⟩
instance z_S_S_bool:TZ P T.a1 1 24 (.slice none 0 0):=⟨by kernel_rfl⟩
instance g_S_S_bool:TG P T.a1 false:=⟨by kernel_rfl⟩
instance s_S_S_bool:TS P T.a1 94:=⟨by kernel_rfl⟩
instance z_S_bool:TZ P T.a0 1 24 (.slice none 0 0):=⟨by kernel_rfl⟩
instance g_S_bool:TG P T.a0 false:=⟨by kernel_rfl⟩
instance s_S_bool:TS P T.a0 4:=⟨by kernel_rfl⟩
instance z_A10_string:TZ P T.ai 10 160 (.agg #[.string ⟨#[]⟩, .string ⟨#[]⟩, .string ⟨#[]⟩, .string ⟨#[]⟩, .string ⟨#[]⟩, .string ⟨#[]⟩, .string ⟨#[]⟩, .string ⟨#[]⟩, .string ⟨#[]⟩, .string ⟨#[]⟩]):=⟨by kernel_rfl⟩
instance g_A10_string:TG P T.ai true:=⟨by kernel_rfl⟩
instance a_A10_string:TA P T.ai 10 9:=⟨by kernel_rfl⟩
instance g_strings_asciiSet:TG P T.a4 true:=⟨by kernel_rfl⟩
instance a_strings_asciiSet:TA P T.a4 256 4:=⟨by kernel_rfl⟩
instance z_A6_string:TZ P T.ah 6 96 (.agg #[.string ⟨#[]⟩, .string ⟨#[]⟩, .string ⟨#[]⟩, .string ⟨#[]⟩, .string ⟨#[]⟩, .string ⟨#[]⟩]):=⟨by kernel_rfl⟩
instance g_A6_string:TG P T.ah true:=⟨by kernel_rfl⟩
instance a_A6_string:TA P T.ah 6 9:=⟨by kernel_rfl⟩
instance z_func_int:TZ P T.aj 1 8 .nilFunc:=⟨by kernel_rfl⟩
instance g_func_int:TG P T.aj false:=⟨by kernel_rfl⟩
instance z_M_string_string:TZ P T.t 1 8 (.map none):=⟨by kernel_rfl⟩
instance g_M_string_string:TG P T.t false:=⟨by kernel_rfl⟩
instance m_M_string_string:TM P T.t 9 9:=⟨by kernel_rfl⟩
instance z_func_api_Method_string:TZ P T.a2 1 8 .nilFunc:=⟨by kernel_rfl⟩
instance g_func_api_Method_string:TG P T.a2 false:=⟨by kernel_rfl⟩
instance z_func_api_Method_bool:TZ P T.a7 1 8 .nilFunc:=⟨by kernel_rfl⟩
instance g_func_api_Method_bool:TG P T.a7 false:=⟨by kernel_rfl⟩
instance z_func_string_string:TZ P T.a5 1 8 .nilFunc:=⟨by kernel_rfl⟩
instance g_func_string_string:TG P T.a5 false:=⟨by kernel_rfl⟩
instance z_func_api_Field_string:TZ P T.a3 1 8 .nilFunc:=⟨by kernel_rfl⟩
instance g_func_api_Field_string:TG P T.a3 false:=⟨by kernel_rfl⟩
instance z_func_api_Field_bool:TZ P T.a9 1 8 .nilFunc:=⟨by kernel_rfl⟩
instance g_func_api_Field_bool:TG P T.a9 false:=⟨by kernel_rfl⟩
instance z_api_Catch:TZ P T.o 4 40 (.agg #[.int .i64 0, .int .i64 0, .int .i64 0, .string ⟨#[]⟩]):=⟨by kernel_rfl⟩
instance g_api_Catch:TG P T.o true:=⟨by kernel_rfl⟩
instance f_api_Catch_0:TF P T.o 0 0 3:=⟨by kernel_rfl⟩
instance f_api_Catch_1:TF P T.o 1 1 3:=⟨by kernel_rfl⟩
instance f_api_Catch_2:TF P T.o 2 2 3:=⟨by kernel_rfl⟩
instance f_api_Catch_3:TF P T.o 3 3 9:=⟨by kernel_rfl⟩
instance z_func_api_Catch_bool:TZ P T.aa 1 8 .nilFunc:=⟨by kernel_rfl⟩
instance g_func_api_Catch_bool:TG P T.aa false:=⟨by kernel_rfl⟩
instance z_func_api_Instr_bool:TZ P T.ab 1 8 .nilFunc:=⟨by kernel_rfl⟩
instance g_func_api_Instr_bool:TG P T.ab false:=⟨by kernel_rfl⟩
instance z_S_uint8:TZ P T.am 1 24 (.slice none 0 0):=⟨by kernel_rfl⟩
instance g_S_uint8:TG P T.am false:=⟨by kernel_rfl⟩
instance s_S_uint8:TS P T.am 5:=⟨by kernel_rfl⟩
instance z_strings_Builder:TZ P T.ae 2 32 (.agg #[.pointer none, .slice none 0 0]):=⟨by kernel_rfl⟩
instance g_strings_Builder:TG P T.ae true:=⟨by kernel_rfl⟩
instance f_strings_Builder_0:TF P T.ae 0 0 185:=⟨by kernel_rfl⟩
instance f_strings_Builder_1:TF P T.ae 1 1 186:=⟨by kernel_rfl⟩
instance z_P_uint8:TZ P T.ap 1 8 (.pointer none):=⟨by kernel_rfl⟩
instance g_P_uint8:TG P T.ap false:=⟨by kernel_rfl⟩
instance g_A256_uint8:TG P T.an true:=⟨by kernel_rfl⟩
instance a_A256_uint8:TA P T.an 256 5:=⟨by kernel_rfl⟩
instance z_utf8_acceptRange:TZ P T.ad 2 2 (.agg #[.int .u8 0, .int .u8 0]):=⟨by kernel_rfl⟩
instance g_utf8_acceptRange:TG P T.ad true:=⟨by kernel_rfl⟩
instance f_utf8_acceptRange_0:TF P T.ad 0 0 5:=⟨by kernel_rfl⟩
instance f_utf8_acceptRange_1:TF P T.ad 1 1 5:=⟨by kernel_rfl⟩
instance z_A16_utf8_acceptRange:TZ P T.af 32 32 (.agg #[.int .u8 0, .int .u8 0, .int .u8 0, .int .u8 0, .int .u8 0, .int .u8 0, .int .u8 0, .int .u8 0, .int .u8 0, .int .u8 0, .int .u8 0, .int .u8 0, .int .u8 0, .int .u8 0, .int .u8 0, .int .u8 0, .int .u8 0, .int .u8 0, .int .u8 0, .int .u8 0, .int .u8 0, .int .u8 0, .int .u8 0, .int .u8 0, .int .u8 0, .int .u8 0, .int .u8 0, .int .u8 0, .int .u8 0, .int .u8 0, .int .u8 0, .int .u8 0]):=⟨by kernel_rfl⟩
instance g_A16_utf8_acceptRange:TG P T.af true:=⟨by kernel_rfl⟩
instance a_A16_utf8_acceptRange:TA P T.af 16 202:=⟨by kernel_rfl⟩
instance z_code_op:TZ P T.a6 3 24 (.agg #[.string ⟨#[]⟩, .bool false, .bool false]):=⟨by kernel_rfl⟩
instance g_code_op:TG P T.a6 true:=⟨by kernel_rfl⟩
instance f_code_op_0:TF P T.a6 0 0 9:=⟨by kernel_rfl⟩
instance f_code_op_1:TF P T.a6 1 1 4:=⟨by kernel_rfl⟩
instance f_code_op_2:TF P T.a6 2 2 4:=⟨by kernel_rfl⟩
instance g_A42_code_op:TG P T.a8 true:=⟨by kernel_rfl⟩
instance a_A42_code_op:TA P T.a8 42 206:=⟨by kernel_rfl⟩
instance z_S_code_op:TZ P T.ak 1 24 (.slice none 0 0):=⟨by kernel_rfl⟩
instance g_S_code_op:TG P T.ak false:=⟨by kernel_rfl⟩
instance s_S_code_op:TS P T.ak 206:=⟨by kernel_rfl⟩
instance z_uint32:TZ P T.aq 1 4 (.int .u32 0):=⟨by kernel_rfl⟩
instance g_uint32:TG P T.aq false:=⟨by kernel_rfl⟩
instance z_uint64:TZ P T.ar 1 8 (.int .u64 0):=⟨by kernel_rfl⟩
instance g_uint64:TG P T.ar false:=⟨by kernel_rfl⟩
end Go.Proofs.YtfppjenblllfaaaGreatDoor

namespace Go.Emb
theorem aS {p:Prop} (h:p:=by (first | assumption | exact Stp.sat (by assumption) | exact Hst.sat (by assumption))):p:=h
theorem aL {p:Prop} (h:p:=by (first | assumption | exact Sl.lift (by assumption) (by (repeat (first | exact SLe.refl _ | refine SLe.more ?_ (by assumption) | refine SLe.more ?_ (Nxt.le (by assumption)) | refine SLe.step ?_ (by assumption)))) | exact Z2.lift (by assumption) (by (repeat (first | exact SLe.refl _ | refine SLe.more ?_ (by assumption) | refine SLe.more ?_ (Nxt.le (by assumption)) | refine SLe.step ?_ (by assumption)))) | exact P9.lift (by assumption) (by (repeat (first | exact SLe.refl _ | refine SLe.more ?_ (by assumption) | refine SLe.more ?_ (Nxt.le (by assumption)) | refine SLe.step ?_ (by assumption)))) | exact RCl_lift (by assumption) (by (repeat (first | exact SLe.refl _ | refine SLe.more ?_ (by assumption) | refine SLe.more ?_ (Nxt.le (by assumption)) | refine SLe.step ?_ (by assumption)))) | exact RMe_lift (by assumption) (by (repeat (first | exact SLe.refl _ | refine SLe.more ?_ (by assumption) | refine SLe.more ?_ (Nxt.le (by assumption)) | refine SLe.step ?_ (by assumption)))) | exact Glb.lift (by assumption) (by (repeat (first | exact SLe.refl _ | refine SLe.more ?_ (by assumption) | refine SLe.more ?_ (Nxt.le (by assumption)) | refine SLe.step ?_ (by assumption)))) | exact Tab.lift (by assumption) (by (repeat (first | exact SLe.refl _ | refine SLe.more ?_ (by assumption) | refine SLe.more ?_ (Nxt.le (by assumption)) | refine SLe.step ?_ (by assumption)))) | exact RIn_any (by assumption) | exact RFd_any (by assumption) | exact RCa_any (by assumption))):p:=h
theorem aR {p:Prop} (h:p:=by with_unfolding_all rfl):p:=h
theorem aF {p:Prop} (a:p:=by (refine Eq.subst (motive:=fun b=>K b _) ?_ (h _ _ (by (repeat (first | exact Stp.refl (by (first | assumption | exact Stp.sat (by assumption) | exact Hst.sat (by assumption))) | assumption | refine Stp.trans ?_ (by first | assumption | exact Hst.stp (by assumption))))));clear h;(try clear hA);(try clear hB);(try clear hC);first | rfl | ((try simp only[Bool.not_eq_true',Bool.not_eq_false',Bool.not_true,Bool.not_false,Bool.not_eq_true] at*);simp only[*,Mb,reduceIte];done) | (simp[*];done) | simp_all)):p:=a
theorem au {p:Prop} (h:p:=by (first | assumption | (first | assumption | exact Stp.sat (by assumption) | exact Hst.sat (by assumption)) | (first | assumption | exact Sl.lift (by assumption) (by (repeat (first | exact SLe.refl _ | refine SLe.more ?_ (by assumption) | refine SLe.more ?_ (Nxt.le (by assumption)) | refine SLe.step ?_ (by assumption)))) | exact Z2.lift (by assumption) (by (repeat (first | exact SLe.refl _ | refine SLe.more ?_ (by assumption) | refine SLe.more ?_ (Nxt.le (by assumption)) | refine SLe.step ?_ (by assumption)))) | exact P9.lift (by assumption) (by (repeat (first | exact SLe.refl _ | refine SLe.more ?_ (by assumption) | refine SLe.more ?_ (Nxt.le (by assumption)) | refine SLe.step ?_ (by assumption)))) | exact RCl_lift (by assumption) (by (repeat (first | exact SLe.refl _ | refine SLe.more ?_ (by assumption) | refine SLe.more ?_ (Nxt.le (by assumption)) | refine SLe.step ?_ (by assumption)))) | exact RMe_lift (by assumption) (by (repeat (first | exact SLe.refl _ | refine SLe.more ?_ (by assumption) | refine SLe.more ?_ (Nxt.le (by assumption)) | refine SLe.step ?_ (by assumption)))) | exact Glb.lift (by assumption) (by (repeat (first | exact SLe.refl _ | refine SLe.more ?_ (by assumption) | refine SLe.more ?_ (Nxt.le (by assumption)) | refine SLe.step ?_ (by assumption)))) | exact Tab.lift (by assumption) (by (repeat (first | exact SLe.refl _ | refine SLe.more ?_ (by assumption) | refine SLe.more ?_ (Nxt.le (by assumption)) | refine SLe.step ?_ (by assumption)))) | exact RIn_any (by assumption) | exact RFd_any (by assumption) | exact RCa_any (by assumption)) | exact Nat.le_trans (by assumption) (by decide) | omega)):p:=h
end Go.Emb
namespace Go.Proofs.YtfppjenblllfaaaGreatDoor
open Go.Emb
theorem X52 {a:List UInt8} {cs:List Bool} {r:TypeId} {w:World} {K:Value→World→Prop}:X5 P .len [T.a] r cs [S a] w K=K (I a.length) w:=E7 X8
theorem Q9x {d c:Operand} {a b:Bool} {w:World} {K:Value→World→Prop}:Q3 P .eql T.p d c (.bool a) (.bool b) w K=K (.bool (a==b)) w:=Q6F Fi
theorem X4V {d c:Operand} {a b:Bool} {w:World} {K:Value→World→Prop}:Q3 P .neq T.p d c (.bool a) (.bool b) w K=K (.bool (!(a==b))) w:=Q6m Fi
def Mm:=And.intro @fa <| And.intro @H7 <| And.intro @Xh <| And.intro @X52 <| And.intro @Q9x @X4V
def M1:=And.intro Mm Mr
def M2:=And.intro Mm Mp
end Go.Proofs.YtfppjenblllfaaaGreatDoor

namespace Go.Proofs.YtfppjenblllfaaaGreatDoor
open Go.Emb Go.RowKit Go.Kd Go.Hm
variable {w : World} {K : Value → World → Prop} {σ : Q4}
def Vn (m:Hm.Met):Bool:=decide (32<m.params.length)||decide (32<m.catches.length)||decide (200<m.code.length)||decide (64<m.locals)
def Yz (c:Cla):Bool:=c.methods.any Vn||decide (32<c.like.length)||decide (32<c.fields.length)||decide (32<c.methods.length)
theorem X3G {c : Cla} {cs : List Value} (hs : X4 w σ) (hc : V4 σ c cs) (h : ∀ w', Below w.heap.size w w' → K (.bool (Yz c)) w') : Q0 P F.cH [.agg cs.toArray] w K := Q77 (by
  obtain ⟨lv, fv, mv, rfl, hl, hf, hm, hn, hsu⟩ := hc
  unfold Q0V
  refine O3 hs fun a w1 σ1 hk ha => ?_
  have hs := hk.sat
  replace hl := hl.up hk
  replace hf := hf.up hk
  replace hm := hm.up hk
  simp only [Value.cells] at ha
  ((try simp only [↓M1, M1, Mb, reduceIte]); repeat ((first | refine ld (by assumption) (by assumption) rfl ?_ | refine Y0 (by assumption) (by assumption) rfl ?_ | refine X0 (by assumption) ?_); (try simp only [↓M1, M1, Mb, reduceIte])))
  refine U3 c.methods.length (fun n w' => Below w1.heap.size w1 w' ∧ ((c.methods.take n).any Vn) = false) ⟨Below.refl _ _, by simp⟩ fun n w2 d hn hi => ?_
  obtain ⟨hb, hp⟩ := hi
  have hs2 := hs.below hb
  ((try simp only [↓M1, M1, Mb, reduceIte]); repeat ((first | refine ld (by assumption) (by assumption) rfl ?_ | refine Y0 (by assumption) (by assumption) rfl ?_ | refine X0 (by assumption) ?_); (try simp only [↓M1, M1, Mb, reduceIte])))
  refine Q5 (fun hc => ?_) (fun hc => ?_)
  · have hn' : n < c.methods.length := by simpa using hc
    refine M7 hm hn' fun p cs hl1 hlen hr => ?_
    refine Z1 hs2 hl1 hlen ?_
    refine Y6 hs2 (by rfl) hlen (Rep.one hr) fun q w3 σ3 hk3 hq => ?_
    obtain ⟨pv, cv, hv, rfl, g1, g2, g3, g4⟩ := hr
    have hs3 := hk3.sat
    replace g1 := g1.up hk3
    replace g2 := g2.up hk3
    replace g3 := g3.up hk3
    ((try simp only [↓M1, M1, Mb, reduceIte]); repeat ((first | refine ld (by assumption) (by assumption) rfl ?_ | refine Y0 (by assumption) (by assumption) rfl ?_ | refine X0 (by assumption) ?_); (try simp only [↓M1, M1, Mb, reduceIte])))
    (repeat' ((first | refine Z6 (fun hh => ?_) (fun hh => ?_) | refine Q5 (fun hh => ?_) (fun hh => ?_)) <;> (try simp only [hh, Bool.not_true, Bool.not_false, ↓M1, M1, Mb, reduceIte]) <;> ((try simp only [↓M1, M1, Mb, reduceIte]); repeat ((first | refine ld (by assumption) (by assumption) rfl ?_ | refine Y0 (by assumption) (by assumption) rfl ?_ | refine X0 (by assumption) ?_); (try simp only [↓M1, M1, Mb, reduceIte])))))
    all_goals first
      | refine Y5 hm.max hn' ⟨bt hb hk3.bel, ?_⟩
        rw [N5 hn', hp]; simp only [Vn]; (first | (simp only [decide_eq_true_eq, decide_eq_false_iff_not, Bool.not_true, Bool.not_false, Bool.not_eq_true', Bool.not_eq_false', Bool.or_eq_true, Bool.and_eq_true, Bool.or_eq_false_iff, Bool.and_eq_false_iff, Bool.false_or, Bool.true_and, Bool.or_false, Bool.and_true] at *; first | omega | (and_intros <;> omega)) | (rw [Bool.eq_iff_iff]; (simp only [decide_eq_true_eq, decide_eq_false_iff_not, Bool.not_true, Bool.not_false, Bool.not_eq_true', Bool.not_eq_false', Bool.or_eq_true, Bool.and_eq_true, Bool.or_eq_false_iff, Bool.and_eq_false_iff, Bool.false_or, Bool.true_and, Bool.or_false, Bool.and_true] at *; first | omega | (and_intros <;> omega))))
      | have e : Yz c = true := by
          have : Vn c.methods[n] = true := by simp only [Vn]; (first | (simp only [decide_eq_true_eq, decide_eq_false_iff_not, Bool.not_true, Bool.not_false, Bool.not_eq_true', Bool.not_eq_false', Bool.or_eq_true, Bool.and_eq_true, Bool.or_eq_false_iff, Bool.and_eq_false_iff, Bool.false_or, Bool.true_and, Bool.or_false, Bool.and_true] at *; first | omega | (and_intros <;> omega)) | (rw [Bool.eq_iff_iff]; (simp only [decide_eq_true_eq, decide_eq_false_iff_not, Bool.not_true, Bool.not_false, Bool.not_eq_true', Bool.not_eq_false', Bool.or_eq_true, Bool.and_eq_true, Bool.or_eq_false_iff, Bool.and_eq_false_iff, Bool.false_or, Bool.true_and, Bool.or_false, Bool.and_true] at *; first | omega | (and_intros <;> omega))))
          simp [Yz, B7 hn' this]
        rw [← e]; exact h _ (bt hk.bel (bt hb hk3.bel))
  · have hn' : ¬ n < c.methods.length := by simpa using hc
    rw [E4 hn'] at hp
    have h := h w2 (bt hk.bel hb)
    ((try simp only [↓M1, M1, Mb, reduceIte]); repeat ((first | refine ld (by assumption) (by assumption) rfl ?_ | refine Y0 (by assumption) (by assumption) rfl ?_ | refine X0 (by assumption) ?_); (try simp only [↓M1, M1, Mb, reduceIte])))
    (repeat' ((first | refine Z6 (fun hh => ?_) (fun hh => ?_) | refine Q5 (fun hh => ?_) (fun hh => ?_)) <;> (try simp only [hh, Bool.not_true, Bool.not_false, ↓M1, M1, Mb, reduceIte]) <;> ((try simp only [↓M1, M1, Mb, reduceIte]); repeat ((first | refine ld (by assumption) (by assumption) rfl ?_ | refine Y0 (by assumption) (by assumption) rfl ?_ | refine X0 (by assumption) ?_); (try simp only [↓M1, M1, Mb, reduceIte])))))
    all_goals
      refine Eq.subst (motive := fun b => K (.bool b) w2) ?_ h
      simp only [Yz, hp]
      (first | (simp only [decide_eq_true_eq, decide_eq_false_iff_not, Bool.not_true, Bool.not_false, Bool.not_eq_true', Bool.not_eq_false', Bool.or_eq_true, Bool.and_eq_true, Bool.or_eq_false_iff, Bool.and_eq_false_iff, Bool.false_or, Bool.true_and, Bool.or_false, Bool.and_true] at *; first | omega | (and_intros <;> omega)) | (rw [Bool.eq_iff_iff]; (simp only [decide_eq_true_eq, decide_eq_false_iff_not, Bool.not_true, Bool.not_false, Bool.not_eq_true', Bool.not_eq_false', Bool.or_eq_true, Bool.and_eq_true, Bool.or_eq_false_iff, Bool.and_eq_false_iff, Bool.false_or, Bool.true_and, Bool.or_false, Bool.and_true] at *; first | omega | (and_intros <;> omega)))))
end Go.Proofs.YtfppjenblllfaaaGreatDoor

namespace Go.Emb
open Go.RowKit Go.Hm
variable {H : Type} {enc : TypeId × Value → H} {P : Program} {W : World} {t : TypeId} {cs : List Value} {fuel : Nat} {x : DataW H × List MemPlace}
def P8 (W:World):Q4:=fun b=>W.heap[b]?
theorem Q9S:X4 W (P8 W):=fun b o h=>h
def Wt (P:Program) (t:TypeId) (d:DataW H):Prop:= ∀n∈d.weights P t,n≤reachBytes
theorem X34 {a:Addr} {n:Nat} (h:W.cells? 0 a n=some cs) (A:0<n):cs.length=n∧Z2 (P8 W) a cs:=by
 obtain ⟨_,k,y⟩:=World.cells?_some h
 refine ⟨k,?_⟩
 have key: ∀i v,cs[i]? =some v→ ∃L6 e f,W.heap[a.block]? =some (.cells L6 e f)∧(a.add i).spot=none∧L6[a.off+i]? =some v:=by
  intro i v g
  have z:i<cs.length:=(List.getElem?_eq_some_iff.1 g).1
  have b:=y i (by omega)
  rw[g] at b
  unfold World.cell? at b
  rw[R9,Xj] at b
  cases l:W.heap[a.block]? with
  | none=>rw[l] at b;cases b
  | some o=>
   rw[l] at b
   cases o with
   | cells L6 e f=>
    simp only at b
    split at b
    ·cases b
    ·rename_i u
     exact ⟨L6,e,f,rfl,by simpa using u,b⟩
   | _=>cases b
 cases j:cs with
 | nil=>subst j;simp at k;omega
 | cons c r=>
  obtain ⟨L6,e,f,m,s,B⟩:=key 0 c (by rw[j];rfl)
  refine ⟨by simpa [Addr.add] using s,L6,e,f,m,fun i v g=>?_⟩
  obtain ⟨p,D,q,d,C,w⟩:=key i v (by rw[j];exact g)
  rw[m] at d
  injection d with d
  injection d with d
  subst d
  exact w
theorem Gr (a:P.underlying t=some .string) (h:DataW.trod enc P W 0 (fun _=>true) true fuel t cs=some x) (b:Wt P t x.1): ∃s:Kd.Q8,cs=[S s]∧s.length≤Y9:=by
 obtain ⟨⟨⟨s⟩⟩,rfl,rfl,_⟩:=DataW.trod_string a h
 refine ⟨s,rfl,?_⟩
 have:=b s.length (by simp[DataW.weights])
 exact this
theorem Q7Y (a:P.underlying t=some .bool) (h:DataW.trod enc P W 0 (fun _=>true) true fuel t cs=some x): ∃b,cs=[.bool b]:=by
 obtain ⟨b,c,_⟩:=DataW.trod_bool a h;exact ⟨b,c⟩
theorem Q0F (b:P.underlying t=some (.int .i64)) (h:DataW.trod enc P W 0 (fun _=>true) true fuel t cs=some x): ∃n,cs=[I n]∧Q0k n:=by
 obtain ⟨n,c,_,a⟩:=DataW.trod_int b h
 refine ⟨n,c,?_⟩
 simp only[Lit.wf,Bool.and_eq_true,decide_eq_true_eq] at a
 exact ⟨a.1,a.2⟩
theorem X33 {α:Type} {Q:Nat→α→Prop}: ∀(n:Nat),(∀i,i<n→ ∃y,Q i y)→ ∃xs:List α,xs.length=n∧ ∀i y,xs[i]? =some y→Q i y:=by
 intro n
 induction n with
 | zero=>intro _;exact ⟨[],rfl,by simp⟩
 | succ n c=>
  intro h
  obtain ⟨xs,f,d⟩:=c fun i b=>h i (by omega)
  obtain ⟨y,e⟩:=h n (by omega)
  refine ⟨xs++[y],by simp[f],fun i z a=>?_⟩
  by_cases b:i<xs.length
  ·rw[List.getElem?_append_left b] at a;exact d i z a
  ·rw[List.getElem?_append_right (by omega)] at a
   have:i-xs.length=0:=by
    have:=(List.getElem?_eq_some_iff.1 a).1
    simp at this;omega
   rw[this] at a
   simp at a
   subst a
   rw[show i=n by omega];exact e
theorem X42 {e:TypeId} {d:DataW H}: ∀{l:List (DataW H)},d∈l→ ∀n∈d.weights P e,n∈DataW.weightsAll P e l:=by
 intro l
 induction l with
 | nil=>intro h;simp at h
 | cons a r c=>
  intro h n b
  simp only[DataW.weightsAll,List.mem_append]
  rcases List.mem_cons.1 h with rfl | h
  ·exact .inl b
  ·exact .inr (c h n b)
theorem Q1n {α:Type} {R:Q4→α→List Value→Prop} {e:TypeId} {sz:Nat} (u:P.underlying t=some (.slice e)) (E:P.cellsOf e=sz) (B:0<sz)
 (s: ∀fuel cs (x:DataW H×List MemPlace),DataW.trod enc P W 0 (fun _=>true) true fuel e cs=some x→Wt P e x.1→ ∃y,R (P8 W) y cs)
 (h:DataW.trod enc P W 0 (fun _=>true) true fuel t cs=some x) (L:Wt P t x.1): ∃v xs,cs=[v]∧Sl sz R (P8 W) v xs:=by
 rcases DataW.trod_slice u h with ⟨rfl,rfl⟩ | ⟨a,f,r,d,z,n,_,rfl,rfl,_,D,p,w,j,_⟩
 ·exact ⟨_,[],rfl,Sl.nil⟩
 subst E
 have step: ∀i,i<f→ ∃y,∃c,Z2 (P8 W) (a.add (i*P.cellsOf e)) c∧c.length=P.cellsOf e∧R (P8 W) y c:=by
  intro i J
  have A:=j i J
  have g:i<d.length:=by omega
  rw[List.getElem?_eq_getElem g] at A
  obtain ⟨c,Q,N⟩:=Option.bind_eq_some_iff.1 A
  obtain ⟨O,q⟩:=X34 Q B
  obtain ⟨y,k⟩:=s n c _ N (fun m p=>L m (by
   simp only[DataW.weights,u,List.mem_cons,List.mem_append]
   exact .inr (.inl (X42 (List.mem_map.2 ⟨_,List.getElem_mem g,rfl⟩) m p))))
  exact ⟨y,c,q,O,k⟩
 obtain ⟨xs,l,o⟩:=X33 f step
 refine ⟨_,xs,rfl,some a,r,by rw[l],by rw[l];exact D,p,by simp,fun b M=>?_⟩
 cases M
 refine ⟨fun C=>?_,fun i y k=>o i y k⟩
 obtain ⟨y,k⟩: ∃y,xs[0]? =some y:=⟨xs[0],List.getElem?_eq_getElem C⟩
 obtain ⟨c,q,_,_⟩:=o 0 y k
 have:=q.1
 simpa [Addr.add] using this
theorem X3s: ∀{a:List TypeId} {l:List (DataW H)} {i:Nat} {u:TypeId} {d:DataW H},a[i]? =some u→l[i]? =some d→ ∀n∈d.weights P u,n∈DataW.weightsEach P a l:=
 fun b e n c=>DataW.weights_mem_each b e n c
theorem C1 {d:Array Field} (c:P.underlying t=some (.struct d)) (h:DataW.trod enc P W 0 (fun _=>true) true fuel t cs=some x) (q:Wt P t x.1) (i:Nat) {o:Nat} {b:TypeId}
 (k:(d[i]?).map (fun f=>(f.type,f.offset))=some (b,o)) (l:P.cellsOf b=1): ∃n y,DataW.trod enc P W 0 (fun _=>true) true n b ((cs.drop o).take 1)=some y∧Wt P b y.1:=by
 obtain ⟨xs,n,_,rfl,v,s,r⟩:=DataW.trod_struct c h
 obtain ⟨f,a,p⟩:=Option.map_eq_some_iff.1 k
 cases p
 have g:=r i f a
 have e:i<xs.length:=by rw[s];exact (Array.getElem?_eq_some_iff.1 a).1
 rw[List.getElem?_eq_getElem e,l] at g
 refine ⟨n,_,g,fun m j=>q m ?_⟩
 simp only[DataW.weights,c]
 exact X3s (i:=i) (u:=f.type) (by rw[List.getElem?_map,Array.getElem?_toList,a];rfl) (by rw[List.getElem?_map,List.getElem?_eq_getElem e];rfl) m j
theorem Q3s {a:Array Field} {k:Nat} (b:P.underlying t=some (.struct a)) (c:P.cellsOf t=k) (h:DataW.trod enc P W 0 (fun _=>true) true fuel t cs=some x):cs.length=k:=by
 obtain ⟨_,_,_,_,d,_,_⟩:=DataW.trod_struct b h
 rw[d,c]
theorem Q5x {α:Type} {l:List α} (h:l.length=3): ∃a b c,l=[a,b,c]:=by
 match l,h with
 | [a,b,c],_=>exact ⟨a,b,c,rfl⟩
theorem X4W {α:Type} {l:List α} (h:l.length=4): ∃a b c d,l=[a,b,c,d]:=by
 match l,h with
 | [a,b,c,d],_=>exact ⟨a,b,c,d,rfl⟩
theorem X4Q {α:Type} {l:List α} (h:l.length=7): ∃a b c d e f g,l=[a,b,c,d,e,f,g]:=by
 match l,h with
 | [a,b,c,d,e,f,g],_=>exact ⟨a,b,c,d,e,f,g,rfl⟩
end Go.Emb
namespace Go.Proofs.YtfppjenblllfaaaGreatDoor
open Go.Emb Go.RowKit Go.Kd Go.Hm
variable {H : Type} {enc : TypeId × Value → H} {W : World} {cs : List Value} {fuel : Nat} {x : DataW H × List MemPlace}
theorem P1:P.cellsOf T.a=1:=by kernel_rfl
theorem Q5U:P.cellsOf T.p=1:=by kernel_rfl
theorem Q5v:P.cellsOf T.e=1:=by kernel_rfl
theorem Q3L {t:TypeId} (a:P.underlying t=some .string) (h:DataW.trod enc P W 0 (fun _=>true) true fuel t cs=some x) (b:Wt P t x.1): ∃y,X7 (P8 W) y cs:=by
 obtain ⟨s,q,r⟩:=Gr a h b;exact ⟨s,q,r⟩
def X55:Array Field:= #[⟨"Op",T.a,0,false, "", "",0⟩,⟨"N",T.ac,1,false, "", "",16⟩,⟨"S",T.a,2,false, "", "",24⟩]
theorem Q36:P.underlying T.k=some (.struct X55):=by kernel_rfl
theorem Q9T (h:DataW.trod enc P W 0 (fun _=>true) true fuel T.k cs=some x) (a:Wt P T.k x.1): ∃y,G9 (P8 W) y cs:=by
 obtain ⟨p,q,r,rfl⟩:=Q5x (Q3s Q36 (by kernel_rfl) h)
 obtain ⟨_,_,i,w0⟩:=C1 (o:=0) Q36 h a 0 rfl P1
 obtain ⟨_,_,d,w1⟩:=C1 (o:=1) Q36 h a 1 rfl (by kernel_rfl)
 obtain ⟨_,_,g,n⟩:=C1 (o:=2) Q36 h a 2 rfl P1
 obtain ⟨m,q0,l⟩:=Gr X8 i w0
 obtain ⟨j,b,k⟩:=Q0F (by kernel_rfl) d
 obtain ⟨e,c,f⟩:=Gr X8 g n
 simp at q0 b c
 subst q0 b c
 exact ⟨⟨m,j,e⟩,rfl,l,k,f⟩
def X54:Array Field:= #[⟨"From",T.e,0,false, "", "",0⟩,⟨"To",T.e,1,false, "", "",8⟩,⟨"At",T.e,2,false, "", "",16⟩,⟨"Class",T.a,3,false, "", "",24⟩]
theorem Q3q:P.underlying T.o=some (.struct X54):=by kernel_rfl
theorem X4A (h:DataW.trod enc P W 0 (fun _=>true) true fuel T.o cs=some x) (a:Wt P T.o x.1): ∃y,Yo (P8 W) y cs:=by
 obtain ⟨u,v,w,z,rfl⟩:=X4W (Q3s Q3q (by kernel_rfl) h)
 obtain ⟨_,_,k,w0⟩:=C1 (o:=0) Q3q h a 0 rfl Q5v
 obtain ⟨_,_,e,w1⟩:=C1 (o:=1) Q3q h a 1 rfl Q5v
 obtain ⟨_,_,j,A⟩:=C1 (o:=2) Q3q h a 2 rfl Q5v
 obtain ⟨_,_,m,g⟩:=C1 (o:=3) Q3q h a 3 rfl P1
 obtain ⟨q,q0,p⟩:=Q0F Q3K k
 obtain ⟨l,b,n⟩:=Q0F Q3K e
 obtain ⟨f,c,i⟩:=Q0F Q3K j
 obtain ⟨s,d,r⟩:=Gr X8 m g
 simp at q0 b c d
 subst q0 b c d
 exact ⟨⟨q,l,f,s⟩,rfl,p,n,i,r⟩
theorem Q0P:P.underlying T.b=some (.slice T.a):=by kernel_rfl
theorem X4q:P.underlying T.n=some (.slice T.k):=by kernel_rfl
theorem X4z:P.underlying T.q=some (.slice T.o):=by kernel_rfl
def X58:Array Field:= #[⟨"Name",T.a,0,false, "", "",0⟩,⟨"Params",T.b,1,false, "", "",16⟩,⟨"Result",T.a,2,false, "", "",40⟩,⟨"Abstract",T.p,3,false, "", "",56⟩,⟨"Locals",T.e,4,false, "", "",64⟩,⟨"Code",T.n,5,false, "", "",72⟩,⟨"Catches",T.q,6,false, "", "",96⟩]
theorem Hl:P.underlying T.d=some (.struct X58):=by kernel_rfl
theorem X3X (h:DataW.trod enc P W 0 (fun _=>true) true fuel T.d cs=some x) (a:Wt P T.d x.1): ∃y,M3 (P8 W) y cs:=by
 obtain ⟨O,U,c2,c3,Q,c5,c6,rfl⟩:=X4Q (Q3s Hl (by kernel_rfl) h)
 obtain ⟨_,_,s,w0⟩:=C1 (o:=0) Hl h a 0 rfl P1
 obtain ⟨_,_,j,w1⟩:=C1 (o:=1) Hl h a 1 rfl (by kernel_rfl)
 obtain ⟨_,_,q,M⟩:=C1 (o:=2) Hl h a 2 rfl P1
 obtain ⟨_,_,w,X⟩:=C1 (o:=3) Hl h a 3 rfl Q5U
 obtain ⟨_,_,i,Y⟩:=C1 (o:=4) Hl h a 4 rfl Q5v
 obtain ⟨_,_,n,D⟩:=C1 (o:=5) Hl h a 5 rfl (by kernel_rfl)
 obtain ⟨_,_,p,r⟩:=C1 (o:=6) Hl h a 6 rfl (by kernel_rfl)
 obtain ⟨E,q0,C⟩:=Gr X8 s w0
 obtain ⟨V,v,c,z⟩:=Q1n (R:=X7) Q0P P1 (by decide) (fun _ _ _ h a=>Q3L X8 h a) j w1
 obtain ⟨l,d,m⟩:=Gr X8 q M
 obtain ⟨N,e⟩:=Q7Y Fi w
 obtain ⟨u,b,B⟩:=Q0F Q3K i
 obtain ⟨v5,k,f,J⟩:=Q1n (R:=G9) (sz:=3) X4q (by kernel_rfl) (by decide) (fun _ _ _ h a=>Q9T h a) n D
 obtain ⟨Z,A,g,L⟩:=Q1n (R:=Yo) (sz:=4) X4z (by kernel_rfl) (by decide) (fun _ _ _ h a=>X4A h a) p r
 simp at q0 c d e b f g
 subst q0 c d e b f g
 exact ⟨⟨E,v,l,N,u,k,A⟩,_,_,_,rfl,z,J,L,C,m,B⟩
end Go.Proofs.YtfppjenblllfaaaGreatDoor

namespace Go.Emb
def U0 {α β:Type} (a:β→α→Bool×β):β→List α→Nat→Option Nat×β
 | s,[],_=>(none,s)
 | s,x::xs,i=>if (a s x).1 then (some i,(a s x).2) else U0 a (a s x).2 xs (i+1)
def L2 (o:Option Nat):Int:=match o with | some i=>i | none=> -1
theorem Qf {α:Type} (p:α→Bool): ∀(xs:List α) (i:Nat),(U0 (fun (_:Unit) x=>(p x,())) () xs i).1=(xs.findIdx? p).map (· +i):=by
 intro xs
 induction xs with
 | nil=>intro i;rfl
 | cons x r ih=>
  intro i
  rw[List.findIdx?_cons]
  simp only[U0]
  cases p x with
  | true=>simp
  | false=>
   simp only[Bool.false_eq_true,if_false]
   rw[ih (i+1),Option.map_map]
   congr 1;funext n;simp only[Function.comp];omega
theorem Ir {α β:Type} (a:β→α→Bool×β) (s:β) (xs:List α) (i:Nat):decide ((0:Int)≤L2 (U0 a s xs i).1)=(U0 a s xs i).1.isSome:=by
 cases (U0 a s xs i).1<;>simp[L2]
end Go.Emb
namespace Go.Proofs.YtfppjenblllfaaaGreatDoor
open Go.Emb Go.RowKit Go.Kd Go.Hm
variable {w : World} {K : Value → World → Prop} {σ : Q4}
theorem Uy {β:Type} {xs:List Hm.Met} {v f:Value} (b:β→Hm.Met→Bool×β) (m:β) (a:β→World→Prop) (D:Nat→Prop) (i: ∀s w,a s w→X4 w σ) (z:a m w) (t:Sl 7 M3 σ v xs)
 (y: ∀s x cs (w1:World) (K:Value→World→Prop),x∈xs→Kpt D w w1→a s w1→M3 σ x cs→cs.length=7→(∀w',Kpt D w w'→a (b s x).2 w'→K (.bool (b s x).1) w')→Z5 P f [.agg cs.toArray] w1 K)
 (h: ∀w',Kpt D w w'→a (U0 b m xs 0).2 w'→K (I (L2 (U0 b m xs 0).1)) w'):Q0 P F.k [v,f] w K:=Xm (by
 unfold C0
 ((try simp only[↓M1,M1,Mb,reduceIte]);repeat ((first | refine ld (by assumption) (by assumption) rfl ?_ | refine Y0 (by assumption) (by assumption) rfl ?_ | refine X0 (by assumption) ?_);(try simp only[↓M1,M1,Mb,reduceIte])))
 refine U3 xs.length (fun n w'=>Kpt D w w'∧ ∃s,a s w'∧U0 b m xs 0=U0 b s (xs.drop n) n) ⟨Kpt.refl,m,z,rfl⟩ fun n w1 d E k=>?_
 obtain ⟨u,s,k,e⟩:=k
 have q:=i s w1 k
 ((try simp only[↓M1,M1,Mb,reduceIte]);repeat ((first | refine ld (by assumption) (by assumption) rfl ?_ | refine Y0 (by assumption) (by assumption) rfl ?_ | refine X0 (by assumption) ?_);(try simp only[↓M1,M1,Mb,reduceIte])))
 refine Q5 (fun o=>?_) (fun o=>?_)
 ·have c:n<xs.length:=by simpa using o
  refine M7 t c fun p cs A g C=>?_
  refine Z1 q A g ?_
  refine y s xs[n] cs w1 _ (List.getElem_mem c) u k C g fun B j l=>?_
  rw[List.drop_eq_getElem_cons c] at e
  simp only[U0] at e
  refine Q5 (fun r=>?_) (fun r=>?_)
  ·rw[r] at e
   have:=h B j
   rw[e] at this
   exact this l
  ·rw[r] at e
   ((try simp only[↓M1,M1,Mb,reduceIte]);repeat ((first | refine ld (by assumption) (by assumption) rfl ?_ | refine Y0 (by assumption) (by assumption) rfl ?_ | refine X0 (by assumption) ?_);(try simp only[↓M1,M1,Mb,reduceIte])))
   exact Y5 t.max c ⟨j,_,l,by simpa using e⟩
 ·have c: ¬n<xs.length:=by simpa using o
  rw[List.drop_eq_nil_of_le (by omega)] at e
  have:=h w1 u
  rw[e] at this
  exact this k)
theorem Zm {β:Type} {xs:List Hm.Met} {v f:Value} (b:β→Hm.Met→Bool×β) (d:β) (a:β→World→Prop) (D:Nat→Prop) (c: ∀s w,a s w→X4 w σ) (g:a d w) (j:Sl 7 M3 σ v xs)
 (e: ∀s x cs (w1:World) (K:Value→World→Prop),x∈xs→Kpt D w w1→a s w1→M3 σ x cs→cs.length=7→(∀w',Kpt D w w'→a (b s x).2 w'→K (.bool (b s x).1) w')→Z5 P f [.agg cs.toArray] w1 K)
 (h: ∀w',Kpt D w w'→a (U0 b d xs 0).2 w'→K (.bool (U0 b d xs 0).1.isSome) w'):Q0 P F.a [v,f] w K:=T7 (by
 unfold H5
 refine Uy b d a D c g j e fun w1 k i=>?_
 (try simp only[↓M1,M1,Mb,reduceIte])
 rw[Ir]
 exact h w1 k i)
theorem Ff {xs:List Hm.Met} {v f:Value} (p:Hm.Met→Bool) (hs:X4 w σ) (hv:Sl 7 M3 σ v xs)
 (hf: ∀x cs (w1:World) (K:Value→World→Prop),x∈xs→X4 w1 σ→M3 σ x cs→cs.length=7→(∀w',Below w1.heap.size w1 w'→K (.bool (p x)) w')→Z5 P f [.agg cs.toArray] w1 K)
 (h: ∀w',Below w.heap.size w w'→K (I (L2 (xs.findIdx? p))) w'):Q0 P F.k [v,f] w K:=by
 refine Uy (fun (_:Unit) x=>(p x,())) () (fun _ w'=>Below w.heap.size w w') (fun _=>False) (fun _ w' hb=>hs.below hb) (Below.refl _ _) hv (fun s x cs w1 K hx hk hi hr hl hK=>hf x cs w1 K hx (hs.below hi) hr hl fun w' hb=>hK w' (.of_below (bt hi hb)) (bt hi hb)) fun w' hk hi=>?_
 rw[Qf]
 simpa using h w' hi
theorem C4 {xs:List Hm.Met} {v f:Value} (p:Hm.Met→Bool) (hs:X4 w σ) (hv:Sl 7 M3 σ v xs)
 (hf: ∀x cs (w1:World) (K:Value→World→Prop),x∈xs→X4 w1 σ→M3 σ x cs→cs.length=7→(∀w',Below w1.heap.size w1 w'→K (.bool (p x)) w')→Z5 P f [.agg cs.toArray] w1 K)
 (h: ∀w',Below w.heap.size w w'→K (.bool (xs.any p)) w'):Q0 P F.a [v,f] w K:=by
 refine Zm (fun (_:Unit) x=>(p x,())) () (fun _ w'=>Below w.heap.size w w') (fun _=>False) (fun _ w' hb=>hs.below hb) (Below.refl _ _) hv (fun s x cs w1 K hx hk hi hr hl hK=>hf x cs w1 K hx (hs.below hi) hr hl fun w' hb=>hK w' (.of_below (bt hi hb)) (bt hi hb)) fun w' hk hi=>?_
 rw[Qf]
 simpa using h w' hi
theorem Ws {β:Type} {xs:List Fld} {v f:Value} (b:β→Fld→Bool×β) (m:β) (a:β→World→Prop) (D:Nat→Prop) (i: ∀s w,a s w→X4 w σ) (z:a m w) (t:Sl 3 H0 σ v xs)
 (y: ∀s x cs (w1:World) (K:Value→World→Prop),x∈xs→Kpt D w w1→a s w1→H0 σ x cs→cs.length=3→(∀w',Kpt D w w'→a (b s x).2 w'→K (.bool (b s x).1) w')→Z5 P f [.agg cs.toArray] w1 K)
 (h: ∀w',Kpt D w w'→a (U0 b m xs 0).2 w'→K (I (L2 (U0 b m xs 0).1)) w'):Q0 P F.o [v,f] w K:=Yc (by
 unfold B0
 ((try simp only[↓M1,M1,Mb,reduceIte]);repeat ((first | refine ld (by assumption) (by assumption) rfl ?_ | refine Y0 (by assumption) (by assumption) rfl ?_ | refine X0 (by assumption) ?_);(try simp only[↓M1,M1,Mb,reduceIte])))
 refine U3 xs.length (fun n w'=>Kpt D w w'∧ ∃s,a s w'∧U0 b m xs 0=U0 b s (xs.drop n) n) ⟨Kpt.refl,m,z,rfl⟩ fun n w1 d E k=>?_
 obtain ⟨u,s,k,e⟩:=k
 have q:=i s w1 k
 ((try simp only[↓M1,M1,Mb,reduceIte]);repeat ((first | refine ld (by assumption) (by assumption) rfl ?_ | refine Y0 (by assumption) (by assumption) rfl ?_ | refine X0 (by assumption) ?_);(try simp only[↓M1,M1,Mb,reduceIte])))
 refine Q5 (fun o=>?_) (fun o=>?_)
 ·have c:n<xs.length:=by simpa using o
  refine M7 t c fun p cs A g C=>?_
  refine Z1 q A g ?_
  refine y s xs[n] cs w1 _ (List.getElem_mem c) u k C g fun B j l=>?_
  rw[List.drop_eq_getElem_cons c] at e
  simp only[U0] at e
  refine Q5 (fun r=>?_) (fun r=>?_)
  ·rw[r] at e
   have:=h B j
   rw[e] at this
   exact this l
  ·rw[r] at e
   ((try simp only[↓M1,M1,Mb,reduceIte]);repeat ((first | refine ld (by assumption) (by assumption) rfl ?_ | refine Y0 (by assumption) (by assumption) rfl ?_ | refine X0 (by assumption) ?_);(try simp only[↓M1,M1,Mb,reduceIte])))
   exact Y5 t.max c ⟨j,_,l,by simpa using e⟩
 ·have c: ¬n<xs.length:=by simpa using o
  rw[List.drop_eq_nil_of_le (by omega)] at e
  have:=h w1 u
  rw[e] at this
  exact this k)
theorem Rs {β:Type} {xs:List Fld} {v f:Value} (b:β→Fld→Bool×β) (d:β) (a:β→World→Prop) (D:Nat→Prop) (c: ∀s w,a s w→X4 w σ) (g:a d w) (j:Sl 3 H0 σ v xs)
 (e: ∀s x cs (w1:World) (K:Value→World→Prop),x∈xs→Kpt D w w1→a s w1→H0 σ x cs→cs.length=3→(∀w',Kpt D w w'→a (b s x).2 w'→K (.bool (b s x).1) w')→Z5 P f [.agg cs.toArray] w1 K)
 (h: ∀w',Kpt D w w'→a (U0 b d xs 0).2 w'→K (.bool (U0 b d xs 0).1.isSome) w'):Q0 P F.j [v,f] w K:=Qv (by
 unfold R7
 refine Ws b d a D c g j e fun w1 k i=>?_
 (try simp only[↓M1,M1,Mb,reduceIte])
 rw[Ir]
 exact h w1 k i)
theorem Fs {xs:List Fld} {v f:Value} (p:Fld→Bool) (hs:X4 w σ) (hv:Sl 3 H0 σ v xs)
 (hf: ∀x cs (w1:World) (K:Value→World→Prop),x∈xs→X4 w1 σ→H0 σ x cs→cs.length=3→(∀w',Below w1.heap.size w1 w'→K (.bool (p x)) w')→Z5 P f [.agg cs.toArray] w1 K)
 (h: ∀w',Below w.heap.size w w'→K (I (L2 (xs.findIdx? p))) w'):Q0 P F.o [v,f] w K:=by
 refine Ws (fun (_:Unit) x=>(p x,())) () (fun _ w'=>Below w.heap.size w w') (fun _=>False) (fun _ w' hb=>hs.below hb) (Below.refl _ _) hv (fun s x cs w1 K hx hk hi hr hl hK=>hf x cs w1 K hx (hs.below hi) hr hl fun w' hb=>hK w' (.of_below (bt hi hb)) (bt hi hb)) fun w' hk hi=>?_
 rw[Qf]
 simpa using h w' hi
theorem Zx {xs:List Fld} {v f:Value} (p:Fld→Bool) (hs:X4 w σ) (hv:Sl 3 H0 σ v xs)
 (hf: ∀x cs (w1:World) (K:Value→World→Prop),x∈xs→X4 w1 σ→H0 σ x cs→cs.length=3→(∀w',Below w1.heap.size w1 w'→K (.bool (p x)) w')→Z5 P f [.agg cs.toArray] w1 K)
 (h: ∀w',Below w.heap.size w w'→K (.bool (xs.any p)) w'):Q0 P F.j [v,f] w K:=by
 refine Rs (fun (_:Unit) x=>(p x,())) () (fun _ w'=>Below w.heap.size w w') (fun _=>False) (fun _ w' hb=>hs.below hb) (Below.refl _ _) hv (fun s x cs w1 K hx hk hi hr hl hK=>hf x cs w1 K hx (hs.below hi) hr hl fun w' hb=>hK w' (.of_below (bt hi hb)) (bt hi hb)) fun w' hk hi=>?_
 rw[Qf]
 simpa using h w' hi
theorem Fv {β:Type} {xs:List Ins} {v f:Value} (b:β→Ins→Bool×β) (m:β) (a:β→World→Prop) (D:Nat→Prop) (i: ∀s w,a s w→X4 w σ) (z:a m w) (t:Sl 3 G9 σ v xs)
 (y: ∀s x cs (w1:World) (K:Value→World→Prop),x∈xs→Kpt D w w1→a s w1→G9 σ x cs→cs.length=3→(∀w',Kpt D w w'→a (b s x).2 w'→K (.bool (b s x).1) w')→Z5 P f [.agg cs.toArray] w1 K)
 (h: ∀w',Kpt D w w'→a (U0 b m xs 0).2 w'→K (I (L2 (U0 b m xs 0).1)) w'):Q0 P F.a4 [v,f] w K:=Yl (by
 unfold C6
 ((try simp only[↓M1,M1,Mb,reduceIte]);repeat ((first | refine ld (by assumption) (by assumption) rfl ?_ | refine Y0 (by assumption) (by assumption) rfl ?_ | refine X0 (by assumption) ?_);(try simp only[↓M1,M1,Mb,reduceIte])))
 refine U3 xs.length (fun n w'=>Kpt D w w'∧ ∃s,a s w'∧U0 b m xs 0=U0 b s (xs.drop n) n) ⟨Kpt.refl,m,z,rfl⟩ fun n w1 d E k=>?_
 obtain ⟨u,s,k,e⟩:=k
 have q:=i s w1 k
 ((try simp only[↓M1,M1,Mb,reduceIte]);repeat ((first | refine ld (by assumption) (by assumption) rfl ?_ | refine Y0 (by assumption) (by assumption) rfl ?_ | refine X0 (by assumption) ?_);(try simp only[↓M1,M1,Mb,reduceIte])))
 refine Q5 (fun o=>?_) (fun o=>?_)
 ·have c:n<xs.length:=by simpa using o
  refine M7 t c fun p cs A g C=>?_
  refine Z1 q A g ?_
  refine y s xs[n] cs w1 _ (List.getElem_mem c) u k C g fun B j l=>?_
  rw[List.drop_eq_getElem_cons c] at e
  simp only[U0] at e
  refine Q5 (fun r=>?_) (fun r=>?_)
  ·rw[r] at e
   have:=h B j
   rw[e] at this
   exact this l
  ·rw[r] at e
   ((try simp only[↓M1,M1,Mb,reduceIte]);repeat ((first | refine ld (by assumption) (by assumption) rfl ?_ | refine Y0 (by assumption) (by assumption) rfl ?_ | refine X0 (by assumption) ?_);(try simp only[↓M1,M1,Mb,reduceIte])))
   exact Y5 t.max c ⟨j,_,l,by simpa using e⟩
 ·have c: ¬n<xs.length:=by simpa using o
  rw[List.drop_eq_nil_of_le (by omega)] at e
  have:=h w1 u
  rw[e] at this
  exact this k)
theorem So {β:Type} {xs:List Ins} {v f:Value} (b:β→Ins→Bool×β) (d:β) (a:β→World→Prop) (D:Nat→Prop) (c: ∀s w,a s w→X4 w σ) (g:a d w) (j:Sl 3 G9 σ v xs)
 (e: ∀s x cs (w1:World) (K:Value→World→Prop),x∈xs→Kpt D w w1→a s w1→G9 σ x cs→cs.length=3→(∀w',Kpt D w w'→a (b s x).2 w'→K (.bool (b s x).1) w')→Z5 P f [.agg cs.toArray] w1 K)
 (h: ∀w',Kpt D w w'→a (U0 b d xs 0).2 w'→K (.bool (U0 b d xs 0).1.isSome) w'):Q0 P F.p [v,f] w K:=Qw (by
 unfold R6
 refine Fv b d a D c g j e fun w1 k i=>?_
 (try simp only[↓M1,M1,Mb,reduceIte])
 rw[Ir]
 exact h w1 k i)
theorem Sy {xs:List Ins} {v f:Value} (p:Ins→Bool) (hs:X4 w σ) (hv:Sl 3 G9 σ v xs)
 (hf: ∀x cs (w1:World) (K:Value→World→Prop),x∈xs→X4 w1 σ→G9 σ x cs→cs.length=3→(∀w',Below w1.heap.size w1 w'→K (.bool (p x)) w')→Z5 P f [.agg cs.toArray] w1 K)
 (h: ∀w',Below w.heap.size w w'→K (.bool (xs.any p)) w'):Q0 P F.p [v,f] w K:=by
 refine So (fun (_:Unit) x=>(p x,())) () (fun _ w'=>Below w.heap.size w w') (fun _=>False) (fun _ w' hb=>hs.below hb) (Below.refl _ _) hv (fun s x cs w1 K hx hk hi hr hl hK=>hf x cs w1 K hx (hs.below hi) hr hl fun w' hb=>hK w' (.of_below (bt hi hb)) (bt hi hb)) fun w' hk hi=>?_
 rw[Qf]
 simpa using h w' hi
theorem Fj {β:Type} {xs:List Cat} {v f:Value} (b:β→Cat→Bool×β) (m:β) (a:β→World→Prop) (D:Nat→Prop) (i: ∀s w,a s w→X4 w σ) (z:a m w) (t:Sl 4 Yo σ v xs)
 (y: ∀s x cs (w1:World) (K:Value→World→Prop),x∈xs→Kpt D w w1→a s w1→Yo σ x cs→cs.length=4→(∀w',Kpt D w w'→a (b s x).2 w'→K (.bool (b s x).1) w')→Z5 P f [.agg cs.toArray] w1 K)
 (h: ∀w',Kpt D w w'→a (U0 b m xs 0).2 w'→K (I (L2 (U0 b m xs 0).1)) w'):Q0 P F.a5 [v,f] w K:=Ya (by
 unfold B5
 ((try simp only[↓M1,M1,Mb,reduceIte]);repeat ((first | refine ld (by assumption) (by assumption) rfl ?_ | refine Y0 (by assumption) (by assumption) rfl ?_ | refine X0 (by assumption) ?_);(try simp only[↓M1,M1,Mb,reduceIte])))
 refine U3 xs.length (fun n w'=>Kpt D w w'∧ ∃s,a s w'∧U0 b m xs 0=U0 b s (xs.drop n) n) ⟨Kpt.refl,m,z,rfl⟩ fun n w1 d E k=>?_
 obtain ⟨u,s,k,e⟩:=k
 have q:=i s w1 k
 ((try simp only[↓M1,M1,Mb,reduceIte]);repeat ((first | refine ld (by assumption) (by assumption) rfl ?_ | refine Y0 (by assumption) (by assumption) rfl ?_ | refine X0 (by assumption) ?_);(try simp only[↓M1,M1,Mb,reduceIte])))
 refine Q5 (fun o=>?_) (fun o=>?_)
 ·have c:n<xs.length:=by simpa using o
  refine M7 t c fun p cs A g C=>?_
  refine Z1 q A g ?_
  refine y s xs[n] cs w1 _ (List.getElem_mem c) u k C g fun B j l=>?_
  rw[List.drop_eq_getElem_cons c] at e
  simp only[U0] at e
  refine Q5 (fun r=>?_) (fun r=>?_)
  ·rw[r] at e
   have:=h B j
   rw[e] at this
   exact this l
  ·rw[r] at e
   ((try simp only[↓M1,M1,Mb,reduceIte]);repeat ((first | refine ld (by assumption) (by assumption) rfl ?_ | refine Y0 (by assumption) (by assumption) rfl ?_ | refine X0 (by assumption) ?_);(try simp only[↓M1,M1,Mb,reduceIte])))
   exact Y5 t.max c ⟨j,_,l,by simpa using e⟩
 ·have c: ¬n<xs.length:=by simpa using o
  rw[List.drop_eq_nil_of_le (by omega)] at e
  have:=h w1 u
  rw[e] at this
  exact this k)
theorem Rv {β:Type} {xs:List Cat} {v f:Value} (b:β→Cat→Bool×β) (d:β) (a:β→World→Prop) (D:Nat→Prop) (c: ∀s w,a s w→X4 w σ) (g:a d w) (j:Sl 4 Yo σ v xs)
 (e: ∀s x cs (w1:World) (K:Value→World→Prop),x∈xs→Kpt D w w1→a s w1→Yo σ x cs→cs.length=4→(∀w',Kpt D w w'→a (b s x).2 w'→K (.bool (b s x).1) w')→Z5 P f [.agg cs.toArray] w1 K)
 (h: ∀w',Kpt D w w'→a (U0 b d xs 0).2 w'→K (.bool (U0 b d xs 0).1.isSome) w'):Q0 P F.q [v,f] w K:=Qu (by
 unfold R4
 refine Fj b d a D c g j e fun w1 k i=>?_
 (try simp only[↓M1,M1,Mb,reduceIte])
 rw[Ir]
 exact h w1 k i)
theorem Rq {xs:List Cat} {v f:Value} (p:Cat→Bool) (hs:X4 w σ) (hv:Sl 4 Yo σ v xs)
 (hf: ∀x cs (w1:World) (K:Value→World→Prop),x∈xs→X4 w1 σ→Yo σ x cs→cs.length=4→(∀w',Below w1.heap.size w1 w'→K (.bool (p x)) w')→Z5 P f [.agg cs.toArray] w1 K)
 (h: ∀w',Below w.heap.size w w'→K (.bool (xs.any p)) w'):Q0 P F.q [v,f] w K:=by
 refine Rv (fun (_:Unit) x=>(p x,())) () (fun _ w'=>Below w.heap.size w w') (fun _=>False) (fun _ w' hb=>hs.below hb) (Below.refl _ _) hv (fun s x cs w1 K hx hk hi hr hl hK=>hf x cs w1 K hx (hs.below hi) hr hl fun w' hb=>hK w' (.of_below (bt hi hb)) (bt hi hb)) fun w' hk hi=>?_
 rw[Qf]
 simpa using h w' hi
theorem Gg {β:Type} {xs:List Cla} {v f:Value} (b:β→Cla→Bool×β) (m:β) (a:β→World→Prop) (D:Nat→Prop) (i: ∀s w,a s w→X4 w σ) (z:a m w) (t:Sl 8 V4 σ v xs)
 (y: ∀s x cs (w1:World) (K:Value→World→Prop),x∈xs→Kpt D w w1→a s w1→V4 σ x cs→cs.length=8→(∀w',Kpt D w w'→a (b s x).2 w'→K (.bool (b s x).1) w')→Z5 P f [.agg cs.toArray] w1 K)
 (h: ∀w',Kpt D w w'→a (U0 b m xs 0).2 w'→K (I (L2 (U0 b m xs 0).1)) w'):Q0 P F.s [v,f] w K:=Xy (by
 unfold B2
 ((try simp only[↓M1,M1,Mb,reduceIte]);repeat ((first | refine ld (by assumption) (by assumption) rfl ?_ | refine Y0 (by assumption) (by assumption) rfl ?_ | refine X0 (by assumption) ?_);(try simp only[↓M1,M1,Mb,reduceIte])))
 refine U3 xs.length (fun n w'=>Kpt D w w'∧ ∃s,a s w'∧U0 b m xs 0=U0 b s (xs.drop n) n) ⟨Kpt.refl,m,z,rfl⟩ fun n w1 d E k=>?_
 obtain ⟨u,s,k,e⟩:=k
 have q:=i s w1 k
 ((try simp only[↓M1,M1,Mb,reduceIte]);repeat ((first | refine ld (by assumption) (by assumption) rfl ?_ | refine Y0 (by assumption) (by assumption) rfl ?_ | refine X0 (by assumption) ?_);(try simp only[↓M1,M1,Mb,reduceIte])))
 refine Q5 (fun o=>?_) (fun o=>?_)
 ·have c:n<xs.length:=by simpa using o
  refine M7 t c fun p cs A g C=>?_
  refine Z1 q A g ?_
  refine y s xs[n] cs w1 _ (List.getElem_mem c) u k C g fun B j l=>?_
  rw[List.drop_eq_getElem_cons c] at e
  simp only[U0] at e
  refine Q5 (fun r=>?_) (fun r=>?_)
  ·rw[r] at e
   have:=h B j
   rw[e] at this
   exact this l
  ·rw[r] at e
   ((try simp only[↓M1,M1,Mb,reduceIte]);repeat ((first | refine ld (by assumption) (by assumption) rfl ?_ | refine Y0 (by assumption) (by assumption) rfl ?_ | refine X0 (by assumption) ?_);(try simp only[↓M1,M1,Mb,reduceIte])))
   exact Y5 t.max c ⟨j,_,l,by simpa using e⟩
 ·have c: ¬n<xs.length:=by simpa using o
  rw[List.drop_eq_nil_of_le (by omega)] at e
  have:=h w1 u
  rw[e] at this
  exact this k)
theorem Fh {xs:List Cla} {v f:Value} (p:Cla→Bool) (hs:X4 w σ) (hv:Sl 8 V4 σ v xs)
 (hf: ∀x cs (w1:World) (K:Value→World→Prop),x∈xs→X4 w1 σ→V4 σ x cs→cs.length=8→(∀w',Below w1.heap.size w1 w'→K (.bool (p x)) w')→Z5 P f [.agg cs.toArray] w1 K)
 (h: ∀w',Below w.heap.size w w'→K (I (L2 (xs.findIdx? p))) w'):Q0 P F.s [v,f] w K:=by
 refine Gg (fun (_:Unit) x=>(p x,())) () (fun _ w'=>Below w.heap.size w w') (fun _=>False) (fun _ w' hb=>hs.below hb) (Below.refl _ _) hv (fun s x cs w1 K hx hk hi hr hl hK=>hf x cs w1 K hx (hs.below hi) hr hl fun w' hb=>hK w' (.of_below (bt hi hb)) (bt hi hb)) fun w' hk hi=>?_
 rw[Qf]
 simpa using h w' hi
theorem Q0A {β:Type} {xs:List Q8} {v f:Value} (b:β→Q8→Bool×β) (m:β) (a:β→World→Prop) (D:Nat→Prop) (g: ∀s w,a s w→X4 w σ) (A:a m w) (t:Sl 1 X7 σ v xs)
 (z: ∀s x (w1:World) (K:Value→World→Prop),x∈xs→Kpt D w w1→a s w1→x.length≤Y9→(∀w',Kpt D w w'→a (b s x).2 w'→K (.bool (b s x).1) w')→Z5 P f [S x] w1 K)
 (h: ∀w',Kpt D w w'→a (U0 b m xs 0).2 w'→K (I (L2 (U0 b m xs 0).1)) w'):Q0 P F.x [v,f] w K:=Ut (by
 unfold K2
 ((try simp only[↓M1,M1,Mb,reduceIte]);repeat ((first | refine ld (by assumption) (by assumption) rfl ?_ | refine Y0 (by assumption) (by assumption) rfl ?_ | refine X0 (by assumption) ?_);(try simp only[↓M1,M1,Mb,reduceIte])))
 refine U3 xs.length (fun n w'=>Kpt D w w'∧ ∃s,a s w'∧U0 b m xs 0=U0 b s (xs.drop n) n) ⟨Kpt.refl,m,A,rfl⟩ fun n w1 d H k=>?_
 obtain ⟨u,s,k,e⟩:=k
 have q:=g s w1 k
 ((try simp only[↓M1,M1,Mb,reduceIte]);repeat ((first | refine ld (by assumption) (by assumption) rfl ?_ | refine Y0 (by assumption) (by assumption) rfl ?_ | refine X0 (by assumption) ?_);(try simp only[↓M1,M1,Mb,reduceIte])))
 refine Q5 (fun o=>?_) (fun o=>?_)
 ·have c:n<xs.length:=by simpa using o
  refine M7 t c fun p cs B y E=>?_
  obtain ⟨rfl,j⟩:=E
  refine Y0 q B rfl ?_
  refine z s xs[n] w1 _ (List.getElem_mem c) u k j fun C i l=>?_
  rw[List.drop_eq_getElem_cons c] at e
  simp only[U0] at e
  refine Q5 (fun r=>?_) (fun r=>?_)
  ·rw[r] at e
   have:=h C i
   rw[e] at this
   exact this l
  ·rw[r] at e
   ((try simp only[↓M1,M1,Mb,reduceIte]);repeat ((first | refine ld (by assumption) (by assumption) rfl ?_ | refine Y0 (by assumption) (by assumption) rfl ?_ | refine X0 (by assumption) ?_);(try simp only[↓M1,M1,Mb,reduceIte])))
   exact Y5 t.max c ⟨i,_,l,by simpa using e⟩
 ·have c: ¬n<xs.length:=by simpa using o
  rw[List.drop_eq_nil_of_le (by omega)] at e
  have:=h w1 u
  rw[e] at this
  exact this k)
theorem Q1e {xs:List Q8} {v f:Value} (p:Q8→Bool) (hs:X4 w σ) (hv:Sl 1 X7 σ v xs)
 (hf: ∀x (w1:World) (K:Value→World→Prop),x∈xs→X4 w1 σ→x.length≤Y9→(∀w',Below w1.heap.size w1 w'→K (.bool (p x)) w')→Z5 P f [S x] w1 K)
 (h: ∀w',Below w.heap.size w w'→K (I (L2 (xs.findIdx? p))) w'):Q0 P F.x [v,f] w K:=by
 refine Q0A (fun (_:Unit) x=>(p x,())) () (fun _ w'=>Below w.heap.size w w') (fun _=>False) (fun _ w' hb=>hs.below hb) (Below.refl _ _) hv (fun s x w1 K hx hk hi hr hK=>hf x w1 K hx (hs.below hi) hr fun w' hb=>hK w' (.of_below (bt hi hb)) (bt hi hb)) fun w' hk hi=>?_
 rw[Qf]
 simpa using h w' hi
theorem Q60 {α:Type} (p:α→Bool) (xs:List α):decide ((0:Int)≤L2 (xs.findIdx? p))=xs.any p:=by
 rw[Bool.eq_iff_iff,List.any_eq_true]
 simp only[decide_eq_true_eq]
 cases h:xs.findIdx? p with
 | none=>
  simp only[L2]
  constructor
  ·intro h;omega
  ·rintro ⟨x,b,a⟩;have:=List.findIdx?_eq_none_iff.1 h x b;rw[a] at this;cases this
 | some i=>
  simp only[L2]
  obtain ⟨c,a,_⟩:=List.findIdx?_eq_some_iff_getElem.1 h
  exact ⟨fun _=>⟨xs[i],List.getElem_mem c,a⟩,fun _=>by omega⟩
theorem I6 {xs:List Q8} {v f:Value} (p:Q8→Bool) (d:X4 w σ) (b:Sl 1 X7 σ v xs)
 (c: ∀x (w1:World) (K:Value→World→Prop),x∈xs→X4 w1 σ→x.length≤Y9→(∀w',Below w1.heap.size w1 w'→K (.bool (p x)) w')→Z5 P f [S x] w1 K)
 (h: ∀w',Below w.heap.size w w'→K (.bool (xs.any p)) w'):Q0 P F.e [v,f] w K:=Zn (by
 unfold G0
 refine Q1e p d b c fun w1 a=>?_
 (try simp only[↓M1,M1,Mb,reduceIte])
 rw[Q60]
 exact h w1 a)
theorem Q3P {xs:List Q8} {v:Value} {x:Q8} (r:X4 w σ) (g:Sl 1 X7 σ v xs)
 (h:K (I (L2 (xs.findIdx? fun y=>decide (x=y)))) w):Q0 P F.aw [v,S x] w K:=Mu (by
 unfold A0
 ((try simp only[↓M1,M1,Mb,reduceIte]);repeat ((first | refine ld (by assumption) (by assumption) rfl ?_ | refine Y0 (by assumption) (by assumption) rfl ?_ | refine X0 (by assumption) ?_);(try simp only[↓M1,M1,Mb,reduceIte])))
 refine U3 xs.length (fun n w'=>w=w'∧(xs.take n).any (fun y=>decide (x=y))=false) ⟨rfl,rfl⟩ fun n w1 d o b=>?_
 obtain ⟨rfl,b⟩:=b
 ((try simp only[↓M1,M1,Mb,reduceIte]);repeat ((first | refine ld (by assumption) (by assumption) rfl ?_ | refine Y0 (by assumption) (by assumption) rfl ?_ | refine X0 (by assumption) ?_);(try simp only[↓M1,M1,Mb,reduceIte])))
 refine Q5 (fun c=>?_) (fun c=>?_)
 ·have a:n<xs.length:=by simpa using c
  refine M7 g a fun p cs m i l=>?_
  obtain ⟨rfl,f⟩:=l
  ((try simp only[↓M1,M1,Mb,reduceIte]);repeat ((first | refine ld (by assumption) (by assumption) rfl ?_ | refine Y0 (by assumption) (by assumption) rfl ?_ | refine X0 (by assumption) ?_);(try simp only[↓M1,M1,Mb,reduceIte])))
  refine Q5 (fun e=>?_) (fun e=>?_)
  ·have:xs.findIdx? (fun y=>decide (x=y))=some n:=by
    rw[List.findIdx?_eq_some_iff_getElem]
    refine ⟨a,e,fun j q=>?_⟩
    have:=List.any_eq_false.1 b (xs[j]) (List.mem_take_iff_getElem.2 ⟨j,by omega,rfl⟩)
    exact this
   rw[this] at h;exact h
  ·((try simp only[↓M1,M1,Mb,reduceIte]);repeat ((first | refine ld (by assumption) (by assumption) rfl ?_ | refine Y0 (by assumption) (by assumption) rfl ?_ | refine X0 (by assumption) ?_);(try simp only[↓M1,M1,Mb,reduceIte])))
   exact Y5 g.max a ⟨rfl,by rw[N5 a,b,e];rfl⟩
 ·have a: ¬n<xs.length:=by simpa using c
  rw[E4 a] at b
  have:xs.findIdx? (fun y=>decide (x=y))=none:=by
   rw[List.findIdx?_eq_none_iff];intro y k;simpa using List.any_eq_false.1 b y k
  rw[this] at h;exact h)
theorem Q1N {xs:List Q8} {v:Value} {x:Q8} (b:X4 w σ) (a:Sl 1 X7 σ v xs)
 (h:K (.bool (xs.any fun y=>decide (x=y))) w):Q0 P F.ah [v,S x] w K:=Vf (by
 unfold K8
 refine Q3P b a ?_
 (try simp only[↓M1,M1,Mb,reduceIte])
 rw[Q60]
 exact h)
end Go.Proofs.YtfppjenblllfaaaGreatDoor

namespace Go.Emb
abbrev Q4.Le (σ σ':Q4):Prop:= ∀b o,σ b=some o→σ' b=some o
def H9 {α:Type} (f:α→List UInt8):List α→List α→Bool
 | _,[]=>true
 | seen,x::r=> !(seen.any fun y=>decide (f y=f x))&&H9 f (seen++[x]) r
theorem Ux {α:Type} (p:α→Bool) (xs:List α):(!xs.any fun x=> !p x)=xs.all p:=by
 rw[List.all_eq_not_any_not]
end Go.Emb
namespace Go.Proofs.YtfppjenblllfaaaGreatDoor
open Go.Emb Go.RowKit Go.Kd Go.Hm
variable {w : World} {K : Value → World → Prop} {σ : Q4}
theorem Q0K {xs:List Hm.Met} {v:Value} {fn:Fn} {k d:Array Value} (p:Hm.Met→Bool) (z:X4 w σ) (u:Sl 7 M3 σ v xs)
 (s: ∀(σ1:Q4) x cs (w1:World) (K:Value→World→Prop),σ.Le σ1→x∈xs→X4 w1 σ1→M3 σ1 x cs→cs.length=7→(∀w',Below w1.heap.size w1 w'→K (.bool (p x)) w')→Z5 P (.func fn k d) [.agg cs.toArray] w1 K)
 (h: ∀w',Below w.heap.size w w'→K (.bool (xs.all p)) w'):Q0 P F.ap [v, .func fn k d] w K:=Rr (by
 unfold Ji
 refine O3 z fun a w1 σ1 f n=>?_
 simp only[Value.cells] at n
 ((try simp only[↓M1,M1,Mb,reduceIte]);repeat ((first | refine ld (by assumption) (by assumption) rfl ?_ | refine Y0 (by assumption) (by assumption) rfl ?_ | refine X0 (by assumption) ?_);(try simp only[↓M1,M1,Mb,reduceIte])))
 refine C4 (fun x=> !p x) f.sat (u.up f) (fun x cs m K y i C l A=>?_) fun m B=>?_
 ·refine X9 (Ez ?_)
  unfold Yq
  refine O3 i fun b q t c j=>?_
  refine Y0 c.sat (n.up c) rfl ?_
  refine Z1 c.sat j l ?_
  refine s t x _ q _ (fun b o e=>c.le b o (f.le b o e)) y c.sat (Rep.up c.le C) l fun r g=>?_
  (try simp only[↓M1,M1,Mb,reduceIte])
  exact A r (bt c.bel g)
 ·(try simp only[↓M1,M1,Mb,reduceIte])
  rw[Ux]
  exact h m (bt f.bel B))
theorem Q1L {xs:List Fld} {v:Value} {fn:Fn} {k d:Array Value} (p:Fld→Bool) (z:X4 w σ) (u:Sl 3 H0 σ v xs)
 (s: ∀(σ1:Q4) x cs (w1:World) (K:Value→World→Prop),σ.Le σ1→x∈xs→X4 w1 σ1→H0 σ1 x cs→cs.length=3→(∀w',Below w1.heap.size w1 w'→K (.bool (p x)) w')→Z5 P (.func fn k d) [.agg cs.toArray] w1 K)
 (h: ∀w',Below w.heap.size w w'→K (.bool (xs.all p)) w'):Q0 P F.av [v, .func fn k d] w K:=Cj (by
 unfold Um
 refine O3 z fun a w1 σ1 f n=>?_
 simp only[Value.cells] at n
 ((try simp only[↓M1,M1,Mb,reduceIte]);repeat ((first | refine ld (by assumption) (by assumption) rfl ?_ | refine Y0 (by assumption) (by assumption) rfl ?_ | refine X0 (by assumption) ?_);(try simp only[↓M1,M1,Mb,reduceIte])))
 refine Zx (fun x=> !p x) f.sat (u.up f) (fun x cs m K y i C l A=>?_) fun m B=>?_
 ·refine X9 (Hy ?_)
  unfold Zc
  refine O3 i fun b q t c j=>?_
  refine Y0 c.sat (n.up c) rfl ?_
  refine Z1 c.sat j l ?_
  refine s t x _ q _ (fun b o e=>c.le b o (f.le b o e)) y c.sat (Rep.up c.le C) l fun r g=>?_
  (try simp only[↓M1,M1,Mb,reduceIte])
  exact A r (bt c.bel g)
 ·(try simp only[↓M1,M1,Mb,reduceIte])
  rw[Ux]
  exact h m (bt f.bel B))
theorem Q1K {xs:List Ins} {v:Value} {fn:Fn} {k d:Array Value} (p:Ins→Bool) (z:X4 w σ) (u:Sl 3 G9 σ v xs)
 (s: ∀(σ1:Q4) x cs (w1:World) (K:Value→World→Prop),σ.Le σ1→x∈xs→X4 w1 σ1→G9 σ1 x cs→cs.length=3→(∀w',Below w1.heap.size w1 w'→K (.bool (p x)) w')→Z5 P (.func fn k d) [.agg cs.toArray] w1 K)
 (h: ∀w',Below w.heap.size w w'→K (.bool (xs.all p)) w'):Q0 P F.ax [v, .func fn k d] w K:=Ch (by
 unfold Uh
 refine O3 z fun a w1 σ1 f n=>?_
 simp only[Value.cells] at n
 ((try simp only[↓M1,M1,Mb,reduceIte]);repeat ((first | refine ld (by assumption) (by assumption) rfl ?_ | refine Y0 (by assumption) (by assumption) rfl ?_ | refine X0 (by assumption) ?_);(try simp only[↓M1,M1,Mb,reduceIte])))
 refine Sy (fun x=> !p x) f.sat (u.up f) (fun x cs m K y i C l A=>?_) fun m B=>?_
 ·refine X9 (Hq ?_)
  unfold Zi
  refine O3 i fun b q t c j=>?_
  refine Y0 c.sat (n.up c) rfl ?_
  refine Z1 c.sat j l ?_
  refine s t x _ q _ (fun b o e=>c.le b o (f.le b o e)) y c.sat (Rep.up c.le C) l fun r g=>?_
  (try simp only[↓M1,M1,Mb,reduceIte])
  exact A r (bt c.bel g)
 ·(try simp only[↓M1,M1,Mb,reduceIte])
  rw[Ux]
  exact h m (bt f.bel B))
theorem Q1T {xs:List Cat} {v:Value} {fn:Fn} {k d:Array Value} (p:Cat→Bool) (z:X4 w σ) (u:Sl 4 Yo σ v xs)
 (s: ∀(σ1:Q4) x cs (w1:World) (K:Value→World→Prop),σ.Le σ1→x∈xs→X4 w1 σ1→Yo σ1 x cs→cs.length=4→(∀w',Below w1.heap.size w1 w'→K (.bool (p x)) w')→Z5 P (.func fn k d) [.agg cs.toArray] w1 K)
 (h: ∀w',Below w.heap.size w w'→K (.bool (xs.all p)) w'):Q0 P F.ay [v, .func fn k d] w K:=Cm (by
 unfold Un
 refine O3 z fun a w1 σ1 f n=>?_
 simp only[Value.cells] at n
 ((try simp only[↓M1,M1,Mb,reduceIte]);repeat ((first | refine ld (by assumption) (by assumption) rfl ?_ | refine Y0 (by assumption) (by assumption) rfl ?_ | refine X0 (by assumption) ?_);(try simp only[↓M1,M1,Mb,reduceIte])))
 refine Rq (fun x=> !p x) f.sat (u.up f) (fun x cs m K y i C l A=>?_) fun m B=>?_
 ·refine X9 (Hn ?_)
  unfold Zg
  refine O3 i fun b q t c j=>?_
  refine Y0 c.sat (n.up c) rfl ?_
  refine Z1 c.sat j l ?_
  refine s t x _ q _ (fun b o e=>c.le b o (f.le b o e)) y c.sat (Rep.up c.le C) l fun r g=>?_
  (try simp only[↓M1,M1,Mb,reduceIte])
  exact A r (bt c.bel g)
 ·(try simp only[↓M1,M1,Mb,reduceIte])
  rw[Ux]
  exact h m (bt f.bel B))
theorem Fq {xs:List Q8} {v:Value} {fn:Fn} {g c:Array Value} (p:Q8→Bool) (n:X4 w σ) (l:Sl 1 X7 σ v xs)
 (k: ∀(σ1:Q4) x (w1:World) (K:Value→World→Prop),σ.Le σ1→x∈xs→X4 w1 σ1→x.length≤Y9→(∀w',Below w1.heap.size w1 w'→K (.bool (p x)) w')→Z5 P (.func fn g c) [S x] w1 K)
 (h: ∀w',Below w.heap.size w w'→K (.bool (xs.all p)) w'):Q0 P F.a8 [v, .func fn g c] w K:=Kp (by
 unfold Mt
 refine O3 n fun a w1 σ1 d i=>?_
 simp only[Value.cells] at i
 ((try simp only[↓M1,M1,Mb,reduceIte]);repeat ((first | refine ld (by assumption) (by assumption) rfl ?_ | refine Y0 (by assumption) (by assumption) rfl ?_ | refine X0 (by assumption) ?_);(try simp only[↓M1,M1,Mb,reduceIte])))
 refine I6 (fun x=> !p x) d.sat (l.up d) (fun x f K m b r o=>?_) fun f q=>?_
 ·refine X9 (By ?_)
  unfold Vg
  refine Y0 b i rfl ?_
  refine k σ1 x f _ d.le m b r fun j e=>?_
  (try simp only[↓M1,M1,Mb,reduceIte])
  exact o j e
 ·(try simp only[↓M1,M1,Mb,reduceIte])
  rw[Ux]
  exact h f (bt d.bel q))
theorem Q1H {xs:List Hm.Met} {v:Value} {fn:Fn} {E l:Array Value} (f:Hm.Met→Q8) (hs:X4 w σ) (B:Sl 7 M3 σ v xs)
 (Y: ∀(σ1:Q4) x cs (w1:World) (K:Value→World→Prop),σ.Le σ1→X4 w1 σ1→M3 σ1 x cs→cs.length=7→(∀w',Below w1.heap.size w1 w'→K (S (f x)) w')→Z5 P (.func fn E l) [.agg cs.toArray] w1 K)
 (h: ∀w',Below w.heap.size w w'→K (.bool (H9 f [] xs)) w'):Q0 P F.au [v, .func fn E l] w K:=Ci (by
 unfold Ul
 refine O3 hs fun a w1 σ1 D Z=>?_
 simp only[Value.cells] at Z
 have U:=D.sat
 replace B:=B.up D
 ((try simp only[↓M1,M1,Mb,reduceIte]);repeat ((first | refine ld (by assumption) (by assumption) rfl ?_ | refine Y0 (by assumption) (by assumption) rfl ?_ | refine X0 (by assumption) ?_);(try simp only[↓M1,M1,Mb,reduceIte])))
 refine U3 xs.length (fun n w'=>Below w1.heap.size w1 w'∧H9 f [] xs=H9 f (xs.take n) (xs.drop n)) ⟨Below.refl _ _,rfl⟩ fun n w2 d hn hi=>?_
 obtain ⟨i,r⟩:=hi
 have u:=U.below i
 ((try simp only[↓M1,M1,Mb,reduceIte]);repeat ((first | refine ld (by assumption) (by assumption) rfl ?_ | refine Y0 (by assumption) (by assumption) rfl ?_ | refine X0 (by assumption) ?_);(try simp only[↓M1,M1,Mb,reduceIte])))
 refine Q5 (fun Q=>?_) (fun Q=>?_)
 ·have k:n<xs.length:=by simpa using Q
  rw[List.drop_eq_getElem_cons k] at r
  simp only[H9] at r
  refine M7 B k fun p cs hl g hr=>?_
  refine Z1 u hl g ?_
  refine Y6 u (by rfl) g (Rep.one hr) fun q w3 σ3 j hq=>?_
  refine Gf (B.up j) none (some (I n)) 0 n (.inl ⟨rfl,rfl⟩) (.inr rfl) (by omega) (by omega) fun v' O=>?_
  ((try simp only[↓M1,M1,Mb,reduceIte]);repeat ((first | refine ld (by assumption) (by assumption) rfl ?_ | refine Y0 (by assumption) (by assumption) rfl ?_ | refine X0 (by assumption) ?_);(try simp only[↓M1,M1,Mb,reduceIte])))
  refine C4 (fun y=>decide (f y=f xs[n])) j.sat O (fun y ys X K hy N H A hK=>?_) fun X J=>?_
  ·refine X9 (Hs ?_)
   unfold Zk
   refine O3 N fun b w5 V c W=>?_
   have z:=(Z.up j).up c
   have L:=hq.up c
   have s:σ.Le V:=fun b o e=>c.le b o (j.le b o (D.le b o e))
   refine Da (Below.refl _ _) ?_
   refine X2 (.func fn E l) (fun w i=>Y0 (c.sat.below i) z rfl (X6 rfl)) ?_
   refine X2 (.agg ys.toArray) (fun w i=>Z1 (c.sat.below i) W A (X6 rfl)) ?_
   refine X2 (S (f y)) (fun t t' w i e e'=>by rw[e,e'];exact Y V y ys w _ s (c.sat.below i) (Rep.up c.le H) A fun w' R=>Q32 R rfl) ?_
   refine X2 (.func fn E l) (fun w i=>Y0 (c.sat.below i) z rfl (X6 rfl)) ?_
   refine X2 (.agg cs.toArray) (fun w i=>Z1 (c.sat.below i) L g (X6 rfl)) ?_
   rintro _ _ _ _ _ w6 C rfl rfl rfl rfl rfl
   refine Y V xs[n] cs w6 _ s (c.sat.below C) (Rep.up (fun b o e=>c.le b o (j.le b o e)) hr) g fun w7 M=>?_
   (try simp only[↓M1,M1,Mb,reduceIte])
   exact hK w7 (bt (bt c.bel C) M)
  ·have m:=bt i (bt j.bel J)
   simp only[List.drop_zero,Nat.sub_zero] at*
   refine Q5 (fun hh=>?_) (fun hh=>?_)
   ·rw[hh] at r
    have:=h X (bt D.bel m)
    rw[r] at this;exact this
   ·rw[hh] at r
    ((try simp only[↓M1,M1,Mb,reduceIte]);repeat ((first | refine ld (by assumption) (by assumption) rfl ?_ | refine Y0 (by assumption) (by assumption) rfl ?_ | refine X0 (by assumption) ?_);(try simp only[↓M1,M1,Mb,reduceIte])))
    refine Y5 B.max k ⟨m,?_⟩
    rw[r,List.take_add_one,List.getElem?_eq_getElem k];rfl
 ·have k: ¬n<xs.length:=by simpa using Q
  rw[List.drop_eq_nil_of_le (by omega)] at r
  have:=h w2 (bt D.bel i)
  rw[r] at this;exact this)
theorem Q2J {xs:List Fld} {v:Value} {fn:Fn} {E l:Array Value} (f:Fld→Q8) (hs:X4 w σ) (B:Sl 3 H0 σ v xs)
 (Y: ∀(σ1:Q4) x cs (w1:World) (K:Value→World→Prop),σ.Le σ1→X4 w1 σ1→H0 σ1 x cs→cs.length=3→(∀w',Below w1.heap.size w1 w'→K (S (f x)) w')→Z5 P (.func fn E l) [.agg cs.toArray] w1 K)
 (h: ∀w',Below w.heap.size w w'→K (.bool (H9 f [] xs)) w'):Q0 P F.aC [v, .func fn E l] w K:=Bs (by
 unfold Vb
 refine O3 hs fun a w1 σ1 D Z=>?_
 simp only[Value.cells] at Z
 have U:=D.sat
 replace B:=B.up D
 ((try simp only[↓M1,M1,Mb,reduceIte]);repeat ((first | refine ld (by assumption) (by assumption) rfl ?_ | refine Y0 (by assumption) (by assumption) rfl ?_ | refine X0 (by assumption) ?_);(try simp only[↓M1,M1,Mb,reduceIte])))
 refine U3 xs.length (fun n w'=>Below w1.heap.size w1 w'∧H9 f [] xs=H9 f (xs.take n) (xs.drop n)) ⟨Below.refl _ _,rfl⟩ fun n w2 d hn hi=>?_
 obtain ⟨i,r⟩:=hi
 have u:=U.below i
 ((try simp only[↓M1,M1,Mb,reduceIte]);repeat ((first | refine ld (by assumption) (by assumption) rfl ?_ | refine Y0 (by assumption) (by assumption) rfl ?_ | refine X0 (by assumption) ?_);(try simp only[↓M1,M1,Mb,reduceIte])))
 refine Q5 (fun Q=>?_) (fun Q=>?_)
 ·have k:n<xs.length:=by simpa using Q
  rw[List.drop_eq_getElem_cons k] at r
  simp only[H9] at r
  refine M7 B k fun p cs hl g hr=>?_
  refine Z1 u hl g ?_
  refine Y6 u (by rfl) g (Rep.one hr) fun q w3 σ3 j hq=>?_
  refine Gf (B.up j) none (some (I n)) 0 n (.inl ⟨rfl,rfl⟩) (.inr rfl) (by omega) (by omega) fun v' O=>?_
  ((try simp only[↓M1,M1,Mb,reduceIte]);repeat ((first | refine ld (by assumption) (by assumption) rfl ?_ | refine Y0 (by assumption) (by assumption) rfl ?_ | refine X0 (by assumption) ?_);(try simp only[↓M1,M1,Mb,reduceIte])))
  refine Zx (fun y=>decide (f y=f xs[n])) j.sat O (fun y ys X K hy N H A hK=>?_) fun X J=>?_
  ·refine X9 (Sh ?_)
   unfold Zr
   refine O3 N fun b w5 V c W=>?_
   have z:=(Z.up j).up c
   have L:=hq.up c
   have s:σ.Le V:=fun b o e=>c.le b o (j.le b o (D.le b o e))
   refine Da (Below.refl _ _) ?_
   refine X2 (.func fn E l) (fun w i=>Y0 (c.sat.below i) z rfl (X6 rfl)) ?_
   refine X2 (.agg ys.toArray) (fun w i=>Z1 (c.sat.below i) W A (X6 rfl)) ?_
   refine X2 (S (f y)) (fun t t' w i e e'=>by rw[e,e'];exact Y V y ys w _ s (c.sat.below i) (Rep.up c.le H) A fun w' R=>Q32 R rfl) ?_
   refine X2 (.func fn E l) (fun w i=>Y0 (c.sat.below i) z rfl (X6 rfl)) ?_
   refine X2 (.agg cs.toArray) (fun w i=>Z1 (c.sat.below i) L g (X6 rfl)) ?_
   rintro _ _ _ _ _ w6 C rfl rfl rfl rfl rfl
   refine Y V xs[n] cs w6 _ s (c.sat.below C) (Rep.up (fun b o e=>c.le b o (j.le b o e)) hr) g fun w7 M=>?_
   (try simp only[↓M1,M1,Mb,reduceIte])
   exact hK w7 (bt (bt c.bel C) M)
  ·have m:=bt i (bt j.bel J)
   simp only[List.drop_zero,Nat.sub_zero] at*
   refine Q5 (fun hh=>?_) (fun hh=>?_)
   ·rw[hh] at r
    have:=h X (bt D.bel m)
    rw[r] at this;exact this
   ·rw[hh] at r
    ((try simp only[↓M1,M1,Mb,reduceIte]);repeat ((first | refine ld (by assumption) (by assumption) rfl ?_ | refine Y0 (by assumption) (by assumption) rfl ?_ | refine X0 (by assumption) ?_);(try simp only[↓M1,M1,Mb,reduceIte])))
    refine Y5 B.max k ⟨m,?_⟩
    rw[r,List.take_add_one,List.getElem?_eq_getElem k];rfl
 ·have k: ¬n<xs.length:=by simpa using Q
  rw[List.drop_eq_nil_of_le (by omega)] at r
  have:=h w2 (bt D.bel i)
  rw[r] at this;exact this)
theorem Q5j {xs:List Q8} {v:Value} {fn:Fn} {D k:Array Value} (f:Q8→Q8) (hs:X4 w σ) (A:Sl 1 X7 σ v xs)
 (U: ∀(σ1:Q4) x (w1:World) (K:Value→World→Prop),σ.Le σ1→X4 w1 σ1→x.length≤Y9→(∀w',Below w1.heap.size w1 w'→K (S (f x)) w')→Z5 P (.func fn D k) [S x] w1 K)
 (h: ∀w',Below w.heap.size w w'→K (.bool (H9 f [] xs)) w'):Q0 P F.aW [v, .func fn D k] w K:=Ac (by
 unfold On
 refine O3 hs fun a w1 σ1 C V=>?_
 simp only[Value.cells] at V
 have O:=C.sat
 replace A:=A.up C
 ((try simp only[↓M1,M1,Mb,reduceIte]);repeat ((first | refine ld (by assumption) (by assumption) rfl ?_ | refine Y0 (by assumption) (by assumption) rfl ?_ | refine X0 (by assumption) ?_);(try simp only[↓M1,M1,Mb,reduceIte])))
 refine U3 xs.length (fun n w'=>Below w1.heap.size w1 w'∧H9 f [] xs=H9 f (xs.take n) (xs.drop n)) ⟨Below.refl _ _,rfl⟩ fun n w2 d hn Z=>?_
 obtain ⟨i,m⟩:=Z
 have s:=O.below i
 ((try simp only[↓M1,M1,Mb,reduceIte]);repeat ((first | refine ld (by assumption) (by assumption) rfl ?_ | refine Y0 (by assumption) (by assumption) rfl ?_ | refine X0 (by assumption) ?_);(try simp only[↓M1,M1,Mb,reduceIte])))
 refine Q5 (fun M=>?_) (fun M=>?_)
 ·have g:n<xs.length:=by simpa using M
  rw[List.drop_eq_getElem_cons g] at m
  simp only[H9] at m
  refine M7 A g fun p cs Y W hr=>?_
  obtain ⟨rfl,u⟩:=hr
  refine Y0 s Y rfl ?_
  refine U8 s (by rfl) rfl rfl fun q w3 Q j X=>?_
  refine Gf (A.up j) none (some (I n)) 0 n (.inl ⟨rfl,rfl⟩) (.inr rfl) (by omega) (by omega) fun v' L=>?_
  ((try simp only[↓M1,M1,Mb,reduceIte]);repeat ((first | refine ld (by assumption) (by assumption) rfl ?_ | refine Y0 (by assumption) (by assumption) rfl ?_ | refine X0 (by assumption) ?_);(try simp only[↓M1,M1,Mb,reduceIte])))
  refine I6 (fun y=>decide (f y=f xs[n])) j.sat L (fun y R K hy c E hK=>?_) fun R H=>?_
  ·refine X9 (Gb ?_)
   unfold Wx
   have z:=V.up j
   have r:σ.Le Q:=fun b o e=>j.le b o (C.le b o e)
   refine Da (Below.refl _ _) ?_
   refine X2 (.func fn D k) (fun w i=>Y0 (c.below i) z rfl (X6 rfl)) ?_
   refine X2 (S (f y)) (fun t w i e=>by rw[e];exact U Q y w _ r (c.below i) E fun w' N=>Q32 N rfl) ?_
   refine X2 (.func fn D k) (fun w i=>Y0 (c.below i) z rfl (X6 rfl)) ?_
   refine X2 (S xs[n]) (fun w i=>Y0 (c.below i) X rfl (X6 rfl)) ?_
   rintro _ _ _ _ w6 B rfl rfl rfl rfl
   refine U Q xs[n] w6 _ r (c.below B) u fun w7 J=>?_
   (try simp only[↓M1,M1,Mb,reduceIte])
   exact hK w7 (bt B J)
  ·have l:=bt i (bt j.bel H)
   simp only[List.drop_zero,Nat.sub_zero] at*
   refine Q5 (fun hh=>?_) (fun hh=>?_)
   ·rw[hh] at m
    have:=h R (bt C.bel l)
    rw[m] at this;exact this
   ·rw[hh] at m
    ((try simp only[↓M1,M1,Mb,reduceIte]);repeat ((first | refine ld (by assumption) (by assumption) rfl ?_ | refine Y0 (by assumption) (by assumption) rfl ?_ | refine X0 (by assumption) ?_);(try simp only[↓M1,M1,Mb,reduceIte])))
    refine Y5 A.max g ⟨l,?_⟩
    rw[m,List.take_add_one,List.getElem?_eq_getElem g];rfl
 ·have g: ¬n<xs.length:=by simpa using M
  rw[List.drop_eq_nil_of_le (by omega)] at m
  have:=h w2 (bt C.bel i)
  rw[m] at this;exact this)
theorem Q7r {P:Program} {w:World} (d:Nat) (t e:TypeId) (a:Option Addr) (n c:Nat) (h:P.underlying t=some (.slice e)):
 (Op.equalIn (d+1) t (.slice a n c) (.slice none 0 0)).run P w= .ok a.isNone w:=by
 cases a<;>simp[Op.equalIn,run_underlying h]
theorem Gw {t e:TypeId} {i f:Operand} [ts:TS P t e] {a:Option Addr} {n c:Nat} {b:Bool} (d:a.isNone=b) (j:K (.bool b) w):Q3 P .eql t i f (.slice a n c) (.slice none 0 0) w K:=by
 have g:(Op.equal t (.slice a n c) (.slice none 0 0)).run P w= .ok b w:=by
  have:=Q7r (P:=P) (w:=w) 9999 t e a n c ts.h
  rw[d] at this
  exact this
 unfold Q3
 rw[Y2 (v:= .bool b) (w':=w) (by simp[eqGuard,Go.binOp,g])]
 exact j
theorem Wp {xs:List Q8} {v:Value} (i:X4 w σ) (g:Sl 1 X7 σ v xs) (y:xs.length≤1000000)
 (h: ∀e w' b,Stp w σ w' b→Sl 1 X7 b e xs→K e w'):Q0 P F.b [v] w K:=T9 (by
 unfold B4
 have c:=g
 obtain ⟨a,r,rfl,C,A,k,z⟩:=g
 refine Gw rfl ?_
 refine Q5 (fun f=>?_) (fun f=>?_)
 ·have:a=none:=by simpa using f
  have u:=k this
  have n:xs=[]:=List.eq_nil_of_length_eq_zero (by omega)
  subst n
  exact h _ w σ (Stp.refl i) Sl.nil
 ·refine Xc (R:=X7) (sz:=1) (Stp.refl i) [] [] rfl rfl (by simp) (by rfl) trivial fun t w1 o q _=>?_
  refine app o q c (by rfl) (by simp only[List.length_nil];omega) (by simp only[List.length_nil];omega) fun s p B m d _=>?_
  obtain ⟨b,j,l,_⟩:=d.keep m
  exact h _ p b j l)
theorem Ed {xs:List Fld} {v:Value} (i:X4 w σ) (g:Sl 3 H0 σ v xs) (y:xs.length≤1000000)
 (h: ∀e w' b,Stp w σ w' b→Sl 3 H0 b e xs→K e w'):Q0 P F.ab [v] w K:=Zt (by
 unfold I1
 have c:=g
 obtain ⟨a,r,rfl,C,A,k,z⟩:=g
 refine Gw rfl ?_
 refine Q5 (fun f=>?_) (fun f=>?_)
 ·have:a=none:=by simpa using f
  have u:=k this
  have n:xs=[]:=List.eq_nil_of_length_eq_zero (by omega)
  subst n
  exact h _ w σ (Stp.refl i) Sl.nil
 ·refine Xc (R:=H0) (sz:=3) (Stp.refl i) [] [] rfl rfl (by simp) (by rfl) trivial fun t w1 o q _=>?_
  refine app o q c (by rfl) (by simp only[List.length_nil];omega) (by simp only[List.length_nil];omega) fun s p B m d _=>?_
  obtain ⟨b,j,l,_⟩:=d.keep m
  exact h _ p b j l)
theorem Dv {xs:List Ins} {v:Value} (i:X4 w σ) (g:Sl 3 G9 σ v xs) (y:xs.length≤1000000)
 (h: ∀e w' b,Stp w σ w' b→Sl 3 G9 b e xs→K e w'):Q0 P F.ac [v] w K:=Zw (by
 unfold I0
 have c:=g
 obtain ⟨a,r,rfl,C,A,k,z⟩:=g
 refine Gw rfl ?_
 refine Q5 (fun f=>?_) (fun f=>?_)
 ·have:a=none:=by simpa using f
  have u:=k this
  have n:xs=[]:=List.eq_nil_of_length_eq_zero (by omega)
  subst n
  exact h _ w σ (Stp.refl i) Sl.nil
 ·refine Xc (R:=G9) (sz:=3) (Stp.refl i) [] [] rfl rfl (by simp) (by rfl) trivial fun t w1 o q _=>?_
  refine app o q c (by rfl) (by simp only[List.length_nil];omega) (by simp only[List.length_nil];omega) fun s p B m d _=>?_
  obtain ⟨b,j,l,_⟩:=d.keep m
  exact h _ p b j l)
theorem Du {xs:List Cat} {v:Value} (i:X4 w σ) (g:Sl 4 Yo σ v xs) (y:xs.length≤1000000)
 (h: ∀e w' b,Stp w σ w' b→Sl 4 Yo b e xs→K e w'):Q0 P F.ad [v] w K:=Jp (by
 unfold G7
 have c:=g
 obtain ⟨a,r,rfl,C,A,k,z⟩:=g
 refine Gw rfl ?_
 refine Q5 (fun f=>?_) (fun f=>?_)
 ·have:a=none:=by simpa using f
  have u:=k this
  have n:xs=[]:=List.eq_nil_of_length_eq_zero (by omega)
  subst n
  exact h _ w σ (Stp.refl i) Sl.nil
 ·refine Xc (R:=Yo) (sz:=4) (Stp.refl i) [] [] rfl rfl (by simp) (by rfl) trivial fun t w1 o q _=>?_
  refine app o q c (by rfl) (by simp only[List.length_nil];omega) (by simp only[List.length_nil];omega) fun s p B m d _=>?_
  obtain ⟨b,j,l,_⟩:=d.keep m
  exact h _ p b j l)
end Go.Proofs.YtfppjenblllfaaaGreatDoor

namespace Go.Hm
open Go.Kd
structure Opr where
  name : Q8
  number : Bool
  text : Bool
deriving DecidableEq
def Zy:List Opr:=[
 ⟨[105,110,116],true,false⟩,
 ⟨[116,114,117,101],false,false⟩,
 ⟨[102,97,108,115,101],false,false⟩,
 ⟨[119,111,114,100],false,true⟩,
 ⟨[110,117,108,108],false,false⟩,
 ⟨[108,111,97,100],true,false⟩,
 ⟨[115,116,111,114,101],true,false⟩,
 ⟨[112,111,112],false,false⟩,
 ⟨[100,117,112],false,false⟩,
 ⟨[115,119,97,112],false,false⟩,
 ⟨[97,100,100],false,false⟩,
 ⟨[115,117,98],false,false⟩,
 ⟨[109,117,108],false,false⟩,
 ⟨[100,105,118],false,false⟩,
 ⟨[114,101,109],false,false⟩,
 ⟨[110,101,103],false,false⟩,
 ⟨[108,101,115,115],false,false⟩,
 ⟨[115,97,109,101],false,false⟩,
 ⟨[110,111,116],false,false⟩,
 ⟨[98,111,116,104],false,false⟩,
 ⟨[106,111,105,110],false,false⟩,
 ⟨[115,105,122,101],false,false⟩,
 ⟨[106,117,109,112],true,false⟩,
 ⟨[98,114,97,110,99,104],true,false⟩,
 ⟨[110,101,119],false,true⟩,
 ⟨[103,101,116],false,true⟩,
 ⟨[112,117,116],false,true⟩,
 ⟨[99,97,108,108],false,true⟩,
 ⟨[97,114,114,97,121],false,true⟩,
 ⟨[97,116],false,false⟩,
 ⟨[115,101,116],false,false⟩,
 ⟨[105,115],false,true⟩,
 ⟨[99,97,115,116],false,true⟩,
 ⟨[114,101,116,117,114,110],false,false⟩,
 ⟨[116,104,114,111,119],false,false⟩,
 ⟨[111,117,116],false,false⟩,
 ⟨[101,113,117,97,108],false,false⟩,
 ⟨[97,110,100],false,false⟩,
 ⟨[111,114],false,false⟩,
 ⟨[120,111,114],false,false⟩,
 ⟨[115,104,108],false,false⟩,
 ⟨[115,104,114],false,false⟩]
end Go.Hm
namespace Go.Emb
open Go.Hm
def ROp (_:Q4) (o:Opr) (cs:List Value):Prop:=cs=[S o.name, .bool o.number, .bool o.text]
def cOp (o:Opr):List Value:=[S o.name, .bool o.number, .bool o.text]
instance:Rep ROp:=⟨fun _ h=>h,fun h u hu=>by rw[h] at hu;simp at hu;rcases hu with rfl | rfl | rfl<;>rfl⟩
end Go.Emb
namespace Go.Proofs.YtfppjenblllfaaaGreatDoor
open Go.Emb Go.RowKit Go.Kd Go.Hm
variable {w : World} {K : Value → World → Prop} {σ : Q4}
theorem Q5S {a:Q8} (l:a.length≤Y9) (h: ∀w',Below w.heap.size w w'→K (.bool (M8 a)) w'):Q0 P F.bW [S a] w K:=Q3U (by
 unfold Gj
 have b:a.length≤140737488355328:=by simp only[Y9] at l;omega
 refine Q6Y a b fun w1 g=>?_
 cases d:name a
 ·(try simp only[↓M1,M1,Mb,reduceIte])
  have:=h w1 g
  rwa [show M8 a=false by cases a with | nil=>rfl | cons c r=>simp[M8,d]] at this
 ·(try simp only[↓M1,M1,Mb,reduceIte])
  refine Re a b fun k m=>?_
  (try simp only[↓M1,M1,Mb,reduceIte])
  have:=h k (bt g m)
  rwa [show M8 a= !W9 a by
   cases a with
   | nil=>simp[name] at d
   | cons c r=>
    obtain ⟨e,j⟩:=Ij d
    simp only[W9,M8,d,Bool.true_and]
    simp only[H3,j,Bool.or_false] at e
    cases i:Qx c.toNat<;>cases f:P6 c.toNat
    ·simp[i,f] at e
    ·rfl
    ·rfl
    ·exfalso
     simp only[Qx,P6,Bool.and_eq_true,decide_eq_true_eq] at i f
     omega] at this)
theorem X3t {t e:TypeId} {n sz by_:Nat} {z:Value} [ta:TA P t n e] [tz:TZ P e sz by_ z] {a:Addr} (c:K (.slice (some a) n n) w):R5 P t (.pointer (some a)) none none none w K:=by
 unfold R5
 have:(Instr.sliceAt t (.pointer (some a)) none none none).run P w= .ok (.slice (some (if n=0 then a else a.add (0*sz))) (n-0) (n-0)) w:=by
  simp[Instr.sliceAt,run_underlying ta.h,Instr.sureAddr,Instr.sliceBounds,W5 tz]
 rw[Y2 this]
 have b:(if n=0 then a else a.add (0*sz))=a:=by
  by_cases h:n=0
  ·rw[if_pos h]
  ·rw[if_neg h,Nat.zero_mul,add_zero]
 rw[b];exact c
def Q2o (σ:Q4):Prop:=Z2 σ ⟨G.a,0,none⟩ (Zy.flatMap cOp)
theorem Q8t (i:Nat) (o:Opr) (h:Zy[i]? =some o):((Zy.flatMap cOp).drop (i*3)).take 3=cOp o:=by
 have c:i<42:=(List.getElem?_eq_some_iff.1 h).1
 have key: ∀l:List Opr,∀i o,l[i]? =some o→((l.flatMap cOp).drop (i*3)).take 3=cOp o:=by
  intro l
  induction l with
  | nil=>intro i o h;simp at h
  | cons a r b=>
   intro i o h
   cases i with
   | zero=>simp at h;subst h;rfl
   | succ i=>
    have:=b i o (by simpa using h)
    rw[List.flatMap_cons,show (i+1)*3=(cOp a).length+i*3 by simp[cOp];omega,List.drop_append]
    simpa [List.drop_eq_nil_of_le] using this
 exact key _ i o h
theorem Q2W {σ:Q4} {a:Addr} {cs:List Value} (h:Z2 σ a cs) (i n:Nat):Z2 σ (a.add i) ((cs.drop i).take n):=by
 obtain ⟨d,L6,e,f,g,c⟩:=h
 refine ⟨I9 d _,L6,e,f,by rw[R9];exact g,fun j v b=>?_⟩
 rw[List.getElem?_take] at b
 split at b
 ·rw[List.getElem?_drop] at b
  rw[Xj,Nat.add_assoc];exact c _ _ b
 ·cases b
theorem X49 (h:Q2o σ):Sl 3 ROp σ (.slice (some ⟨G.a,0,none⟩) 42 42) Zy:=by
 refine ⟨_,42,rfl,by decide,by decide,by simp,?_⟩
 rintro _ ⟨⟩
 refine ⟨fun _=>rfl,fun i x a=>⟨cOp x,?_,rfl,rfl⟩⟩
 rw[←Q8t i x a]
 exact Q2W h (i*3) 3
theorem Q04 {β:Type} {xs:List Opr} {v f:Value} (b:β→Opr→Bool×β) (m:β) (a:β→World→Prop) (D:Nat→Prop) (i: ∀s w,a s w→X4 w σ) (z:a m w) (t:Sl 3 ROp σ v xs)
 (y: ∀s x cs (w1:World) (K:Value→World→Prop),x∈xs→Kpt D w w1→a s w1→ROp σ x cs→cs.length=3→(∀w',Kpt D w w'→a (b s x).2 w'→K (.bool (b s x).1) w')→Z5 P f [.agg cs.toArray] w1 K)
 (h: ∀w',Kpt D w w'→a (U0 b m xs 0).2 w'→K (I (L2 (U0 b m xs 0).1)) w'):Q0 P F.v [v,f] w K:=Zv (by
 unfold I2
 ((try simp only[↓M1,M1,Mb,reduceIte]);repeat ((first | refine ld (by assumption) (by assumption) rfl ?_ | refine Y0 (by assumption) (by assumption) rfl ?_ | refine X0 (by assumption) ?_);(try simp only[↓M1,M1,Mb,reduceIte])))
 refine U3 xs.length (fun n w'=>Kpt D w w'∧ ∃s,a s w'∧U0 b m xs 0=U0 b s (xs.drop n) n) ⟨Kpt.refl,m,z,rfl⟩ fun n w1 d E k=>?_
 obtain ⟨u,s,k,e⟩:=k
 have q:=i s w1 k
 ((try simp only[↓M1,M1,Mb,reduceIte]);repeat ((first | refine ld (by assumption) (by assumption) rfl ?_ | refine Y0 (by assumption) (by assumption) rfl ?_ | refine X0 (by assumption) ?_);(try simp only[↓M1,M1,Mb,reduceIte])))
 refine Q5 (fun o=>?_) (fun o=>?_)
 ·have c:n<xs.length:=by simpa using o
  refine M7 t c fun p cs A g C=>?_
  refine Z1 q A g ?_
  refine y s xs[n] cs w1 _ (List.getElem_mem c) u k C g fun B j l=>?_
  rw[List.drop_eq_getElem_cons c] at e
  simp only[U0] at e
  refine Q5 (fun r=>?_) (fun r=>?_)
  ·rw[r] at e
   have:=h B j
   rw[e] at this
   exact this l
  ·rw[r] at e
   ((try simp only[↓M1,M1,Mb,reduceIte]);repeat ((first | refine ld (by assumption) (by assumption) rfl ?_ | refine Y0 (by assumption) (by assumption) rfl ?_ | refine X0 (by assumption) ?_);(try simp only[↓M1,M1,Mb,reduceIte])))
   exact Y5 t.max c ⟨j,_,l,by simpa using e⟩
 ·have c: ¬n<xs.length:=by simpa using o
  rw[List.drop_eq_nil_of_le (by omega)] at e
  have:=h w1 u
  rw[e] at this
  exact this k)
theorem Tt {xs:List Opr} {v f:Value} (p:Opr→Bool) (hs:X4 w σ) (hv:Sl 3 ROp σ v xs)
 (hf: ∀x cs (w1:World) (K:Value→World→Prop),x∈xs→X4 w1 σ→ROp σ x cs→cs.length=3→(∀w',Below w1.heap.size w1 w'→K (.bool (p x)) w')→Z5 P f [.agg cs.toArray] w1 K)
 (h: ∀w',Below w.heap.size w w'→K (I (L2 (xs.findIdx? p))) w'):Q0 P F.v [v,f] w K:=by
 refine Q04 (fun (_:Unit) x=>(p x,())) () (fun _ w'=>Below w.heap.size w w') (fun _=>False) (fun _ w' hb=>hs.below hb) (Below.refl _ _) hv (fun s x cs w1 K hx hk hi hr hl hK=>hf x cs w1 K hx (hs.below hi) hr hl fun w' hb=>hK w' (.of_below (bt hi hb)) (bt hi hb)) fun w' hk hi=>?_
 rw[Qf]
 simpa using h w' hi
theorem Q2o.le {σ a:Q4} (h:Q2o σ) (c: ∀b o,σ b=some o→a b=some o):Q2o a:=Z2.le h c
def T3 (n:Q8):Option Nat:=Zy.findIdx? fun o=>decide (o.name=n)
theorem X3J {a:Q8} (m:X4 w σ) (s:Q2o σ) (h: ∀w',Below w.heap.size w w'→K (I (L2 (T3 a))) w'):Q0 P F.cN [S a] w K:=Q7O (by
 unfold Q2f
 refine O3 m fun p w1 σ1 e f=>?_
 simp only[Value.cells] at f
 refine X3t ?_
 ((try simp only[↓M1,M1,Mb,reduceIte]);repeat ((first | refine ld (by assumption) (by assumption) rfl ?_ | refine Y0 (by assumption) (by assumption) rfl ?_ | refine X0 (by assumption) ?_);(try simp only[↓M1,M1,Mb,reduceIte])))
 refine Tt (fun o=>decide (o.name=a)) e.sat (X49 (s.le e.le)) (fun x cs g K y d t u n=>?_) fun g r=>?_
 ·refine X9 (Q5h ?_)
  unfold Te
  refine O3 d fun q j v b k=>?_
  have c:cs=[S x.name, .bool x.number, .bool x.text]:=t
  subst c
  have i:=b.sat
  have l:=f.up b
  simp only[Value.cells] at k
  ((try simp only[↓M1,M1,Mb,reduceIte]);repeat ((first | refine ld (by assumption) (by assumption) rfl ?_ | refine Y0 (by assumption) (by assumption) rfl ?_ | refine X0 (by assumption) ?_);(try simp only[↓M1,M1,Mb,reduceIte])))
  exact n j b.bel
 ·(try simp only[↓M1,M1,Mb,reduceIte])
  exact h g (bt e.bel r))
def takes (n:Q8):Bool×Bool×Bool:=match T3 n with
 | none=>(false,false,false)
 | some i=>((Zy.getD i ⟨[],false,false⟩).number,(Zy.getD i ⟨[],false,false⟩).text,true)
theorem X3h {a:Q8} (k:X4 w σ) (l:Q2o σ) (h: ∀w',Below w.heap.size w w'→K (.tuple #[.bool (takes a).1, .bool (takes a).2.1, .bool (takes a).2.2]) w'):Q0 P F.cm [S a] w K:=Q64 (by
 unfold Q0t
 refine X3J k l fun w1 b=>?_
 have c:=k.below b
 unfold takes at h
 cases d:T3 a with
 | none=>
  rw[d] at h
  simp only[L2]
  (try simp only[↓M1,M1,Mb,reduceIte])
  simp only[show decide ((-1:Int)<0)=true from rfl,↓M1,M1,Mb,reduceIte]
  exact h w1 b
 | some i=>
  rw[d] at h
  simp only at h
  have m:i<42:=(List.findIdx?_eq_some_iff_getElem.1 d).1
  have j:Zy[i]? =some (Zy.getD i ⟨[],false,false⟩):=by
   rw[List.getD,List.getElem?_eq_getElem (by exact m)];rfl
  generalize Zy.getD i ⟨[],false,false⟩=o at h j
  have f:=Q2W l (i*3) 3
  rw[Q8t i o j] at f
  simp only[L2]
  have n:decide ((i:Int)<0)=false:=by simp
  simp only[n,↓M1,M1,Mb,reduceIte]
  have A: ∀{w:World} {K:Value→World→Prop},K (.pointer (some ((⟨G.a,0,none⟩:Addr).add (i*3)))) w→indexAddr P T.a8 (.pointer (some ⟨G.a,0,none⟩)) (I i) w K:=by
   intro w K h
   rw[X11 (by omega) (by omega)]
   simpa using h
  refine Da (Below.refl _ _) ?_
  refine X2 (.pointer (some ((⟨G.a,0,none⟩:Addr).add (i*3)))) (fun w b=>A (X6 rfl)) ?_
  refine X2 (.pointer (some (((⟨G.a,0,none⟩:Addr).add (i*3)).add 1))) (fun t w b e=>by rw[e,fa];exact X6 rfl) ?_
  refine X2 (.pointer (some ((⟨G.a,0,none⟩:Addr).add (i*3)))) (fun w b=>A (X6 rfl)) ?_
  refine X2 (.pointer (some (((⟨G.a,0,none⟩:Addr).add (i*3)).add 2))) (fun t w b e=>by rw[e,fa];exact X6 rfl) ?_
  refine X2 (.bool o.number) (fun t w b e=>by rw[e];exact ld (c.below b) f rfl (X6 rfl)) ?_
  refine X2 (.bool o.text) (fun t w b e=>by rw[e];exact ld (c.below b) f rfl (X6 rfl)) ?_
  rintro _ _ _ _ _ _ p g rfl rfl rfl rfl rfl rfl
  exact h p (bt b g))
end Go.Proofs.YtfppjenblllfaaaGreatDoor

namespace Go.Emb
open Go.RowKit Go.Hm
variable {P : Program} {w w0 w1 w' w'' : World} {K : Value → World → Prop} {σ σ0 σ1 σ' : Q4}
structure SLe (σ σ' : Q4) : Prop where
  le : ∀ b o, σ b = some o → σ' b = some o
theorem SLe.refl (σ:Q4):SLe σ σ:=⟨fun _ _ h=>h⟩
theorem SLe.step {w w':World} (h:SLe σ0 σ) (k:Stp w σ w' σ'):SLe σ0 σ':=⟨fun b o e=>k.le b o (h.le b o e)⟩
theorem SLe.more (h:SLe σ0 σ) (k:SLe σ σ'):SLe σ0 σ':=⟨fun b o e=>k.le b o (h.le b o e)⟩
structure Hst (w : World) (σ : Q4) (w' : World) (σ' : Q4) : Prop where
  stp : Stp w σ w' σ'
theorem Hst.sat (h:Hst w σ w' σ'):X4 w' σ':=h.stp.sat
section lifts
variable {α : Type} {R : Q4 → α → List Value → Prop} {sz : Nat} {v : Value} {xs : List α} {a : Addr} {cs : List Value}
theorem Sl.lift [Rep R] (h:Sl sz R σ0 v xs) (k:SLe σ0 σ):Sl sz R σ v xs:=h.le k.le
theorem Z2.lift (h:Z2 σ0 a cs) (k:SLe σ0 σ):Z2 σ a cs:=h.le k.le
theorem P9.lift {r:Nat} {m:List (List UInt8×Value)} (h:P9 σ0 r m) (k:SLe σ0 σ):P9 σ r m:=h.le k.le
theorem RMe_lift {x:Hm.Met} (h:M3 σ0 x cs) (k:SLe σ0 σ):M3 σ x cs:=Rep.up k.le h
theorem RCl_lift {x:Cla} (h:V4 σ0 x cs) (k:SLe σ0 σ):V4 σ x cs:=Rep.up k.le h
theorem RFd_any {x:Fld} (h:H0 σ0 x cs):H0 σ x cs:=h
theorem RIn_any {x:Ins} (h:G9 σ0 x cs):G9 σ x cs:=h
theorem RCa_any {x:Cat} (h:Yo σ0 x cs):Yo σ x cs:=h
theorem Z7.step {b:Nat} (h:Z7 σ w b cs) (k:Stp w σ w' σ'):Z7 σ' w' b cs:=h.up k
theorem J1.step [Rep R] {B:Nat} {e:TypeId} (h:J1 B e sz R σ w v xs) (k:Stp w σ w' σ'):J1 B e sz R σ' w' v xs:=h.up k
end lifts
theorem L1 {Q:World→Prop} (d:X4 w σ) (h: ∀w' σ',Stp w σ w' σ'→Q w'): ∀w',Below w.heap.size w w'→Q w':=fun w' c=>h w' σ (Stp.of_below d c)
section plain
variable {k : IntKind} {t : TypeId} {ox oy : Operand} {a b : Int} {x y : Bool} {s u : List UInt8}
theorem E5 (h:K (.int k (k.wrap (a+b))) w):Q3 P .add t ox oy (.int k a) (.int k b) w K:=by rw[Gc];exact h
theorem X2v (h:K (.int k (k.wrap (a-b))) w):Q3 P .sub t ox oy (.int k a) (.int k b) w K:=by rw[Q1x];exact h
theorem Gh (c: -9223372036854775808≤a+b∧a+b≤9223372036854775807) (h:K (I (a+b)) w):Q3 P .add t ox oy (I a) (I b) w K:=by rw[Gc,G1 c.1 c.2];exact h
theorem Rc (c: -9223372036854775808≤a-b∧a-b≤9223372036854775807) (h:K (I (a-b)) w):Q3 P .sub t ox oy (I a) (I b) w K:=by rw[Q1x,G1 c.1 c.2];exact h
theorem Z3 (h:K (.bool (decide (a<b))) w):Q3 P .lss t ox oy (.int k a) (.int k b) w K:=by rw[Q3X];exact h
theorem X57 (h:K (.bool (decide (a≤b))) w):Q3 P .leq t ox oy (.int k a) (.int k b) w K:=by rw[Q3Z];exact h
theorem Nf (h:K (.bool (decide (b<a))) w):Q3 P .gtr t ox oy (.int k a) (.int k b) w K:=by rw[Q47];exact h
theorem G5 (h:K (.bool (decide (b≤a))) w):Q3 P .geq t ox oy (.int k a) (.int k b) w K:=by rw[Q1C];exact h
theorem Vo (h:K (.bool (decide (a=b))) w):Q3 P .eql t ox oy (.int k a) (.int k b) w K:=by rw[Q1q];exact h
theorem T4 (h:K (.bool (!decide (a=b))) w):Q3 P .neq t ox oy (.int k a) (.int k b) w K:=by rw[Q46];exact h
theorem Lm (h:K (.bool (!x)) w):J4 P .not (.bool x) w K:=by rw[Q41];exact h
theorem Ni (h:K (.bool (decide (s=u))) w):Q3 P .eql t ox oy (S s) (S u) w K:=by rw[Bv];exact h
theorem I5 (h:K (.bool (!decide (s=u))) w):Q3 P .neq t ox oy (S s) (S u) w K:=by rw[Bm];exact h
theorem Dn (c:s.length+u.length≤9223372036854775807) (h:K (S (s++u)) w):Q3 P .add t ox oy (S s) (S u) w K:=by rw[Q7S c];exact h
theorem Sm {cs:List Bool} {r:TypeId} (c:P.underlying t=some .string) (h:K (I s.length) w):X5 P .len [t] r cs [S s] w K:=by rw[E7 c];exact h
theorem X3l {v u:Value} (h:K v w):pick P (.bool true) v u w K:=by rw[G8];exact h
theorem X2Y {v u:Value} (h:K u w):pick P (.bool false) v u w K:=by rw[B3];exact h
theorem Vc {v u:Value} (h:K (if x=true then v else u) w):pick P (.bool x) v u w K:=by rw[Eg];exact h
theorem X0w {f:Fn} {first caps:List Value} (h:K (.func f first.toArray caps.toArray) w):N7 P f first caps w K:=by rw[Xh];exact h
theorem Z8 {vs:List Value} {i:Nat} {v:Value} (c:vs[i]? =some v) (h:K v w):ext P (.tuple vs.toArray) i w K:=by rw[Zs c];exact h
theorem R2 {a:Addr} (h:K (.pointer (some a)) w):nilCheck P (.pointer (some a)) w K:=by rw[H7];exact h
theorem J8 {t e:Prop} (h:t):X1 (.bool true) t e:=by rw[Di];exact h
theorem U6 {t e:Prop} (h:e):X1 (.bool false) t e:=by rw[Wr];exact h
theorem X4c {c:World→(Value→World→Prop)→Prop} (h:c w K):Q1 (.bool true) true w c K:=by rw[L4];exact h
theorem X4u {c:World→(Value→World→Prop)→Prop} (h:c w K):Q1 (.bool false) false w c K:=by rw[N6];exact h
theorem X3j {c:World→(Value→World→Prop)→Prop} (h:K undef w):Q1 (.bool true) false w c K:=by rw[G6];exact h
theorem X2K {c:World→(Value→World→Prop)→Prop} (h:K undef w):Q1 (.bool false) true w c K:=by rw[E8];exact h
end plain
section mem
variable {α : Type} {R : Q4 → α → List Value → Prop} {sz : Nat} {v : Value} {xs : List α} {a : Addr} {cs : List Value}
theorem Z0 {t:TypeId} (f:X4 w σ) (h: ∀a w' σ',Stp w σ w' σ'→Z2 σ' a cs→K (.pointer (some a)) w'):box P t (.agg cs.toArray) w K:=
 O3 f fun a w' σ' c d=>h a w' σ' c (by simpa [Value.cells] using d)
theorem U1 {t:TypeId} (g:X4 w σ) (f:v.cells= #[v]) (h: ∀a w' σ',Stp w σ w' σ'→Z2 σ' a [v]→K (.pointer (some a)) w'):box P t v w K:=
 O3 g fun a w' σ' d c=>h a w' σ' d (by rw[f] at c;exact c)
theorem Xx (h:Sl sz R σ v xs):v.cells= #[v]:=by
 obtain ⟨a,c,rfl,_⟩:=h;rfl
theorem J5 {t:TypeId} {k c:Nat} {d:TypeId} {sz by_:Nat} {z:Value} [tf:TF P t k c d] [tz:TZ P d sz by_ z] [nz:NZ sz] (h:K (.pointer (some (a.add c))) w):fieldAddr P t (.pointer (some a)) k w K:=by
 rw[fa];exact h
theorem V6 {t:TypeId} {k c:Nat} {d:TypeId} [tf:TF P t k c d] [tg:TG P d false] {cs:List Value} {v:Value} (f:cs[c]? =some v) (h:K v w):Ww P t (.agg cs.toArray) k w K:=by
 rw[X2P (v:=v) (by simpa using f)];exact h
end mem
theorem V0 {A:(World→World→Prop)→(World→Prop)→Prop} (f:X4 w σ) (h:A (fun w w'=>Below w.heap.size w w') (fun w'=>Hst w σ w' σ)):dr w A:=
 Q1G _ _ ⟨Stp.of_below f (Below.refl _ _).drew⟩ (fun _ _ c d=>⟨c.stp.trans (Stp.of_below c.sat d)⟩) h
theorem L5 {α:Type} {R:Q4→α→List Value→Prop} {sz:Nat} {v:Value} {xs:List α} {t:TypeId} (d:X4 w σ) (c:Sl sz R σ v xs) (h: ∀a w' σ',Stp w σ w' σ'→Z2 σ' a [v]→K (.pointer (some a)) w'):box P t v w K:=
 U1 d (Xx c) h
section elems
variable {v : Value} {t e : TypeId} {by_ : Nat} {z : Value} {n : Nat}
theorem Zp {xs:List Kd.Q8} [TS P t e] [TZ P e 1 by_ z] (h:Sl 1 X7 σ v xs) (i:n<xs.length) (d: ∀a,Z2 σ a [S xs[n]]→xs[n].length≤Y9→K (.pointer (some a)) w):indexAddr P t v (I n) w K:=
 M7 h i fun a cs g j c=>by obtain ⟨rfl,f⟩:=c;exact d a g f
theorem Q6z {xs:List Fld} [TS P t e] [TZ P e 3 by_ z] (h:Sl 3 H0 σ v xs) (i:n<xs.length) (d: ∀a,Z2 σ a [S xs[n].name,S xs[n].kind, .bool xs[n].tr]→H0 σ xs[n] [S xs[n].name,S xs[n].kind, .bool xs[n].tr]→K (.pointer (some a)) w):indexAddr P t v (I n) w K:=
 M7 h i fun a cs g j c=>by obtain ⟨rfl,f⟩:=c;exact d a g ⟨rfl,f⟩
end elems
end Go.Emb

namespace Go.Hm
open Go.Kd
abbrev Ur:=Q8→Option Cla
def Y7 (l:List Cla) (n:Q8):Option Nat:=l.findIdx? fun c=>decide (c.name=n)
def lk (l:List Cla):Ur:=fun n=>(Y7 l n).bind (l[·]?)
def U2 (c:Cla):List Q8:=c.super::c.like
def J7:Q8:=[79,98,106,101,99,116]
def W4:Q8:=[70,97,117,108,116]
def C3:Q8:=[110,117,108,108]
def D7:Q8:=[116,101,120,116]
def Qi:Q8:=[119,104,97,116]
def U5:List Q8:=[[78,117,108,108,70,97,117,108,116],[73,110,100,101,120,70,97,117,108,116],[67,97,115,116,70,97,117,108,116],[90,101,114,111,70,97,117,108,116],[82,111,111,109,70,97,117,108,116],[67,97,108,108,70,97,117,108,116]]
def G4:List Cla:=[⟨J7,[],[],false,false,false,[],[]⟩,⟨W4,J7,[],false,false,false,[⟨Qi,D7,false⟩],[]⟩]++U5.map fun n=>⟨n,W4,[],false,false,true,[],[]⟩
def Uo (L:Ur):Nat→List Q8→List Q8→List Q8
 | 0,_,a=>a
 | _,[],a=>a
 | f+1,n::b,a=>match L n with
  | none=>Uo L f b a
  | some c=>if n∈a then Uo L f b a else Uo L f (b++U2 c) (a++[n])
def weigh (l:List Cla) (a:List Q8):Nat:=(l.map fun c=>if c.name∈a then 0 else (U2 c).length).sum
def V1:Q8:=[105,110,116]
def L9:Q8:=[98,111,111,108]
def C7 (l:List Cla) (n:Q8):List Q8:=Uo (lk l) (1+weigh l []) [n] []
def Q2Q (l:List Cla) (n:Q8):Bool:=(Y7 l n).isSome
def R3 (l:List Cla) (s:Q8):Bool:=decide (s=C3)||(right s&&(plain (base s).1||Q2Q l (base s).1))
def O5 (l:List Cla) (a b:Q8):Bool:=
 if !R3 l a|| !R3 l b then false else if a=b then true else if plain a||plain b then false else if a=C3 then true
 else if elem a≠[] then decide (b=J7) else (C7 l a).contains b
def F3 (L:Ur):Nat→Q8→List Cla
 | 0,_=>[]
 | f+1,n=>match L n with
  | none=>[]
  | some c=>c::F3 L f c.super
def chain (l:List Cla) (n:Q8):List Cla:=F3 (lk l) (l.length+1) n
def I4 (l:List Cla) (a b:Q8):Q8:=
 if O5 l a b then b else if O5 l b a then a else if !R3 l a|| !R3 l b||plain a||plain b then []
 else match (chain l a).find? fun c=>O5 l b c.name with
  | some c=>c.name
  | none=>J7
def U4 (l:List Cla) (n:Q8):List Fld:=(chain l n).reverse.flatMap (·.fields)
def F5 (l:List Cla) (n f:Q8):Option Nat:=(U4 l n).findIdx? fun x=>decide (x.name=f)
def H1 (c:Cla) (n:Q8):Option Hm.Met:=c.methods.find? fun m=>decide (m.name=n)
def Mv (L:Ur):Nat→Cla→Q8→Option (Q8×Hm.Met)
 | 0,_,_=>none
 | f+1,c,n=>c.like.findSome? fun u=>match L u with
  | none=>none
  | some d=>match H1 d n with
   | some m=>some (u,m)
   | none=>Mv L f d n
def Z9 (l:List Cla) (k n:Q8):Option (Q8×Hm.Met):=
 match (chain l k).findSome? fun c=>(H1 c n).map (c.name,·) with
 | some r=>some r
 | none=>(chain l k).findSome? fun c=>Mv (lk l) (l.length+1) c n
def Zz (l:List Cla) (n:Q8):Bool:=match lk l n with
 | some c=> !c.abs
 | none=>false
def D0:List Q8→Q8
 | []=>[]
 | [a]=>a
 | a::b::r=>a++[44]++D0 (b::r)
def Qo (m:Hm.Met):Q8:=[40]++D0 m.params++[41]++m.result
def E9 (l:List Cla) (s:Q8):Bool:= !decide (s=C3)&&R3 l s
def Yg (l:List Cla) (c:Cla):Bool:=c.fields.any fun f=>(F5 l c.super f.name).isSome
def F9 (l:List Cla) (c:Cla):Bool:=c.fields.any (fun f=> !E9 l f.kind)||c.methods.any fun m=>(!E9 l m.result&& !decide (m.result=[]))||m.params.any fun s=> !E9 l s
def Wi (l:List Cla) (n:Q8):List Hm.Met:=(C7 l n).flatMap fun u=>((lk l u).map (·.methods)).getD []
def Nc (a:List Hm.Met):Bool:=a.any fun x=>a.any fun y=>decide (x.name=y.name)&& !decide (Qo x=Qo y)
def Yu (l:List Cla) (c:Cla):Bool:=Nc (Wi l c.name)
def Yn (l:List Cla) (k n:Q8):Bool:=match Z9 l k n with
 | none=>true
 | some r=>r.2.abs
def Db (l:List Cla) (c:Cla):Bool:= !c.abs&&(Wi l c.name).any fun m=>Yn l c.name m.name
def V8 (l:List Cla) (c:Cla):Nat:=if Yg l c then 64 else if F9 l c then 65 else if Yu l c then 66 else if Db l c then 67 else 0
def Qp (l:List Cla) (n:Q8):Bool:=match lk l n with
 | none=>true
 | some d=>d.iface||d.fin
def E0 (l:List Cla) (n:Q8):Bool:=match lk l n with
 | none=>true
 | some d=> !d.iface
def M5 (l:List Cla) (c:Cla):Nat:=if Qp l c.super then 61 else if c.like.any (E0 l) then 62 else 0
def K3 (l:List Cla) (c:Cla):Bool:=(U2 c).any fun n=>(C7 l n).contains c.name
def P2 (l:List Cla) (frm:Nat):Nat→List Nat→Nat→List Nat
 | 0,out,_=>out
 | f+1,out,i=>if i<frm then out else if i∈out then out else ((U2 (l.getD i Cla.zero)).foldl (fun out n=>P2 l frm f out ((Y7 l n).getD 0)) out)++[i]
def V5 (l:List Cla) (frm:Nat):List Nat:=((List.range l.length).drop frm).foldl (fun out i=>P2 l frm (l.length+1) out i) []
end Go.Hm

namespace Go.Emb
open Go.RowKit Go.Hm
variable {P : Program} {w w0 w1 w' w'' : World} {K : Value → World → Prop} {σ σ0 σ1 σ' : Q4}
def J9 {α:Type} (B:Nat) (e:TypeId) (sz:Nat) (R:Q4→α→List Value→Prop) (σ:Q4) (w:World) (v:Value) (xs:List α):Prop:=
 ∃a c,v= .slice a xs.length c∧xs.length≤c∧c≤maxLen∧(∀b,a=some b→b.spot=none∧B≤b.block∧b.block<w.heap.size∧σ b.block=none)∧(0<c→ ∃g f d,a=some ⟨g,f,none⟩∧B≤g∧σ g=none∧w.heap[g]? =some (.cells d e (0,0))∧f+c*sz≤d.size∧ ∀i x,xs[i]? =some x→R σ x ((d.toList.drop (f+i*sz)).take sz))
section
variable {α : Type} {R : Q4 → α → List Value → Prop} {B sz : Nat} {e : TypeId} {v u : Value} {xs ys : List α}
theorem J9.of_acc (h:J1 B e sz R σ w v xs):J9 B e sz R σ w v xs:=by
 obtain ⟨cells,q,m,r⟩:=h
 rcases q.2 with ⟨rfl,o⟩ | ⟨g,f,c,rfl,k,l,b,a,n,d⟩
 ·exact ⟨none,0,by rw[o],by omega,by simp,by simp,fun h=>by omega⟩
 ·refine ⟨_,f,rfl,b,a,by rintro _ ⟨⟩;exact ⟨rfl,k,(Array.getElem?_eq_some_iff.1 l).1,m g rfl⟩,fun _=>⟨g,0,c,rfl,k,m g rfl,l,by omega,fun i x j=>?_⟩⟩
  have p:i<xs.length:=(List.getElem?_eq_some_iff.1 j).1
  have hh:i*sz+sz≤xs.length*sz:=by rw[←Nat.succ_mul];exact Nat.mul_le_mul_right _ p
  have:=r i x j
  rw[←d,List.drop_take,List.take_take] at this
  rw[Nat.zero_add]
  rwa [show min sz (xs.length*sz-i*sz)=sz by omega] at this
theorem J9.mem (h:J9 B e sz R σ w v xs) {k:Nat} (c:v.ownBlock=some k):B≤k∧k<w.heap.size∧σ k=none:=by
 obtain ⟨a,d,rfl,g,i,b,f⟩:=h
 cases a with
 | none=>cases c
 | some a=>cases c;exact (b a rfl).2
theorem J9.up [hr:Rep R] (h:J9 B e sz R σ w v xs) (f:Stp w σ w' σ'):J9 B e sz R σ' w' v xs:=by
 obtain ⟨a,l,rfl,t,A,c,z⟩:=h
 refine ⟨a,l,rfl,t,A,fun b d=>⟨(c b d).1,(c b d).2.1,Nat.lt_of_lt_of_le (c b d).2.2.1 f.bel.size,(f.old _ (c b d).2.2.1).trans (c b d).2.2.2⟩,fun q=>?_⟩
 obtain ⟨g,j,k,rfl,p,r,n,o,y⟩:=z q
 have m:=(Array.getElem?_eq_some_iff.1 n).1
 exact ⟨g,j,k,rfl,p,(f.old g m).trans r,(f.bel.block g m).trans n,o,fun i x s=>hr.up f.le (y i x s)⟩
theorem J9.step [hr:Rep R] (h:J9 B e sz R σ w v xs) (a:Stp w σ w' σ'):J9 B e sz R σ' w' v xs:=h.up a
theorem J9.kp {D:Nat→Prop} (h:J9 B e sz R σ w v xs) (n:Kpt D w w') (l: ∀k,v.ownBlock=some k→ ¬D k):J9 B e sz R σ w' v xs:=by
 obtain ⟨a,j,rfl,t,A,c,z⟩:=h
 refine ⟨a,j,rfl,t,A,fun b d=>⟨(c b d).1,(c b d).2.1,Nat.lt_of_lt_of_le (c b d).2.2.1 n.size,(c b d).2.2.2⟩,fun r=>?_⟩
 obtain ⟨g,f,i,rfl,p,s,m,o,y⟩:=z r
 have q:=(Array.getElem?_eq_some_iff.1 m).1
 exact ⟨g,f,i,rfl,p,s,(n.block g q (l g rfl)).trans m,o,y⟩
theorem Vq {b t:TypeId} {cs:List Bool} [ts:TS P b e] (h:J9 B e sz R σ w v xs) (c:K (I xs.length) w):X5 P .len [b] t cs [v] w K:=by
 obtain ⟨a,d,rfl,_⟩:=h
 rw[Q7X];exact c
theorem Q3M {t:TypeId} {by_:Nat} {z:Value} [TS P t e] [TZ P e sz by_ z] (h:J9 B e sz R σ w v xs) {n:Nat} (i:n<xs.length)
 (p: ∀a cs,(∀j u,cs[j]? =some u→w.cell? (a.add j)=some u)→cs.length=sz→R σ xs[n] cs→K (.pointer (some a)) w):indexAddr P t v (I n) w K:=by
 obtain ⟨a,f,rfl,y,A,m,o⟩:=h
 obtain ⟨g,c,d,rfl,r,s,k,q,l⟩:=o (by omega)
 rw[Rz (by omega) (by omega)]
 have hh:n*sz+sz≤f*sz:=by rw[←Nat.succ_mul];exact Nat.mul_le_mul_right _ (by omega)
 refine p _ ((d.toList.drop (c+n*sz)).take sz) ?_ ?_ (l n _ (by simp[i]))
 ·intro j u b
  rw[List.getElem?_take] at b
  split at b
  ·rw[List.getElem?_drop] at b
   unfold World.cell?
   rw[R9,R9,Xj,Xj,I9 (I9 rfl _)]
   simp only[k]
   simpa using b
  ·cases b
 ·rw[List.length_take,List.length_drop,Array.length_toList];omega
theorem X2e {t:TypeId} {by_:Nat} {z:Value} [ts:TS P t e] [tz:TZ P e sz by_ z] (h:J9 B e sz R σ w v xs) (l:Nat) (J:l≤xs.length)
 (D: ∀j,J9 B e sz R σ w j (xs.drop l)→(j.ownBlock=v.ownBlock∨j.ownBlock=none)→K j w):R5 P t v (some (I l)) none none w K:=by
 obtain ⟨a,c,rfl,y,M,d,p⟩:=h
 have hh: ∀w:World,(Instr.sliceBounds true xs.length c (some (I l)) none none).run P w= .ok (l,xs.length,c) w:=by
  intro w
  have q:(l:Int)≤xs.length:=by omega
  simp[Instr.sliceBounds,Instr.sliceBound,asIntOf,y,q]
  intros;omega
 unfold R5
 have:(Instr.sliceAt t (.slice a xs.length c) (some (I l)) none none).run P w= .ok (.slice (if c=l then a else a.map (·.add (l*sz))) (xs.length-l) (c-l)) w:=by
  simp[Instr.sliceAt,run_underlying ts.h,Instr.slice,hh,W5 tz]
 rw[Y2 this]
 refine D _ ⟨_,c-l,by rw[List.length_drop],by rw[List.length_drop];omega,by omega,?_,fun L=>?_⟩ ?_
 ·intro b k
  split at k
  ·exact d b k
  ·cases a with
   | none=>cases k
   | some a=>cases k;exact ⟨I9 (d a rfl).1 _,by rw[R9];exact (d a rfl).2⟩
 ·have E:=p (by omega)
  clear p
  obtain ⟨g,m,n,rfl,r,s,A,H,C⟩:=E
  refine ⟨g,m+l*sz,n,?_,r,s,A,?_,fun i x o=>?_⟩
  ·rw[if_neg (by omega)];simp only[Option.map_some];congr 1;unfold Addr.add;split<;>simp_all
  ·have:l*sz+(c-l)*sz=c*sz:=by rw[←Nat.add_mul];congr 1;omega
   omega
  ·rw[List.getElem?_drop] at o
   have:=C _ _ o
   rwa [Nat.add_mul,←Nat.add_assoc] at this
 ·left
  by_cases f:c=l
  ·rw[if_pos f];cases a<;>rfl
  ·rw[if_neg f]
   cases a with
   | none=>rfl
   | some a=>simp only[Option.map_some,Value.ownBlock,R9]
theorem Q2U {t ty:TypeId} {by_:Nat} {z:Value} {cs:List Bool} [ts:TS P t e] [tz:TZ P e sz by_ z] [hr:Rep R] (V:X4 w σ) (hB:B≤w.heap.size) (ha:J9 B e sz R σ w v xs) (H:Sl sz R σ u ys) (hz:(z.cells.size==sz&&decide (0<sz))=true)
 (Q:(xs.length+ys.length)*by_≤140737488355328) (hm:xs.length+ys.length≤1000000000000)
 (h: ∀s w',Kpt (fun k=>v.ownBlock=some k∧B≤k∧σ k=none) w w'→X4 w' σ→J9 B e sz R σ w' s (xs++ys)→((∃a m,v= .slice a xs.length m∧s= .slice a (xs.length+ys.length) m)∨(Below w.heap.size w w'∧ ∀k,s.ownBlock=some k→w.heap.size≤k))→K s w'):X5 P .append [t,t] ty cs [v,u] w K:=by
 obtain ⟨y,c,rfl,c1,c2,C,c3⟩:=ha
 obtain ⟨a,m,d,rfl,n1,n2,n3,n4,n5⟩:=H.cells V
 obtain ⟨i,hi,E,av,M⟩:=tz.info
 simp only[Bool.and_eq_true,beq_iff_eq,decide_eq_true_eq] at hz
 obtain ⟨al,bg⟩:=hz
 have L: ∀s w',(Builtin.append_ #[t,t] ty #[.slice y xs.length c, .slice a ys.length m]).run P w= .ok s w'→Kpt (fun k=>(Value.slice y xs.length c).ownBlock=some k∧B≤k∧σ k=none) w w'→J9 B e sz R σ w' s (xs++ys)→((∃a m,(Value.slice y xs.length c)= .slice a xs.length m∧s= .slice a (xs.length+ys.length) m)∨(Below w.heap.size w w'∧ ∀k,s.ownBlock=some k→w.heap.size≤k))→X5 P .append [t,t] ty cs [.slice y xs.length c, .slice a ys.length m] w K:=by
  intro s w' A hk hq ao
  have O:(builtin .append #[t,t] ty cs.toArray #[.slice y xs.length c, .slice a ys.length m]).run P w= .ok (.value s) w':=by
   simp[builtin,A]
  unfold X5
  rw[Qj];unfold P7
  rw[O]
  exact h s w' hk (fun k o ho=>by rw[hk.block k (V.lt ho) fun e=>by rw[e.2.2] at ho;cases ho];exact V k o ho) hq ao
 have q:Src P i.size t (.slice a ys.length m) ys.length d w:=by
  cases a with
  | some b=>exact Src.ofSlice w ts.h b ys.length m d (by rw[E];exact n2) (n3 b rfl) n4
  | none=>
   have hy:ys.length=0:=by
    obtain ⟨a',a4,e',q1,_,W,_⟩:=H;injection e' with e1 e2 e3;have:=n1 rfl;omega
   have hn:d=[]:=List.eq_nil_of_length_eq_zero (by rw[n2,hy];simp)
   subst hn
   rw[hy];exact Src.ofNil w ts.h m
 by_cases r:xs.length+ys.length≤c
 ·by_cases N:c=0
  ·-- nothing at all
   subst N
   have p:xs=[]:=List.eq_nil_of_length_eq_zero (by omega)
   have hy:ys=[]:=List.eq_nil_of_length_eq_zero (by omega)
   subst p hy
   have hn:d=[]:=List.eq_nil_of_length_eq_zero (by simpa using n2)
   subst hn
   refine L (.slice y 0 0) w ?_ Kpt.refl ⟨y,0,rfl,by simp,by simp,C,fun h=>by omega⟩ (.inl ⟨_,_,rfl,rfl⟩)
   have hl:=q.len w
   have D:=q.cells
   simp only[List.length_nil] at hl D⊢
   cases y<;>simp[Builtin.append_,run_underlying ts.h,sizeOf,typeInfo,hi,hl,D,storeCells]
  ·obtain ⟨g,l,f,rfl,q1,q2,W,q4,q5⟩:=c3 (by omega)
   have e1:(xs.length+ys.length)*sz≤c*sz:=Nat.mul_le_mul_right _ r
   rw[Nat.add_mul] at e1
   have Y:=run_storeCells_at P g (l+xs.length*sz) e d 0 f w W (by omega) n4
   simp only[Nat.add_zero] at Y
   obtain ⟨Z,ak⟩:=Xz (cs:=(f.toList.take (l+xs.length*sz)++d++f.toList.drop (l+xs.length*sz+d.length)).toArray) W
   refine L (.slice (some ⟨g,l,none⟩) (xs.length+ys.length) c) _ ?_ (Kpt.of_upd Z ⟨rfl,q1,q2⟩) ?_ (.inl ⟨_,_,rfl,rfl⟩)
   ·have hl:=q.len w
    have D:=q.cells
    rw[E] at D
    simp[Builtin.append_,run_underlying ts.h,sizeOf,typeInfo,hi,hl,D,E,r,Addr.add_lit,Y]
   ·refine ⟨_,c,by rw[List.length_append],by rw[List.length_append];exact r,c2,fun b Q=>⟨(C b Q).1,(C b Q).2.1,by rw[Z.size];exact (C b Q).2.2.1,(C b Q).2.2.2⟩,fun _=>⟨g,l,_,rfl,q1,q2,ak,?_,fun j x p=>?_⟩⟩
    ·simp;omega
    ·by_cases U:j<xs.length
     ·rw[List.getElem?_append_left U] at p
      have:=q5 j x p
      have hh:j*sz+sz≤xs.length*sz:=by rw[←Nat.succ_mul];exact Nat.mul_le_mul_right _ U
      have e2:((f.toList.take (l+xs.length*sz)++d++f.toList.drop (l+xs.length*sz+d.length)).toArray.toList.drop (l+j*sz)).take sz=(f.toList.drop (l+j*sz)).take sz:=by
       rw[List.toList_toArray,List.append_assoc]
       rw[List.drop_append_of_le_length (by rw[List.length_take,Array.length_toList (xs:=f)];omega),List.take_append_of_le_length (by rw[List.length_drop,List.length_take,Array.length_toList (xs:=f)];omega),List.drop_take,List.take_take]
       congr 1;omega
      rw[e2];exact this
     ·rw[List.getElem?_append_right (by omega)] at p
      have:=n5 _ _ p
      have ai:j-xs.length<ys.length:=(List.getElem?_eq_some_iff.1 p).1
      have hh:(j-xs.length)*sz+sz≤ys.length*sz:=by rw[←Nat.succ_mul];exact Nat.mul_le_mul_right _ ai
      have a9:j*sz=xs.length*sz+(j-xs.length)*sz:=by rw[←Nat.add_mul];congr 1;omega
      have e2:((f.toList.take (l+xs.length*sz)++d++f.toList.drop (l+xs.length*sz+d.length)).toArray.toList.drop (l+j*sz)).take sz=(d.drop ((j-xs.length)*sz)).take sz:=by
       rw[List.toList_toArray,List.append_assoc]
       rw[List.drop_append,List.drop_eq_nil_of_le (by rw[List.length_take,Array.length_toList (xs:=f)];omega),List.nil_append,List.length_take,Array.length_toList (xs:=f),
        show l+j*sz-min (l+xs.length*sz) f.size=(j-xs.length)*sz by omega,
        List.drop_append_of_le_length (by omega),List.take_append_of_le_length (by rw[List.length_drop];omega)]
      rw[e2];exact this
 ·-- a new row
  have J: ∃n:List Value,n.length=xs.length*sz∧(Builtin.firstCells i.size xs.length (.slice y xs.length c)).run P w.drew= .ok n.toArray w.drew∧ ∀j x,xs[j]? =some x→R σ x ((n.drop (j*sz)).take sz):=by
   by_cases N:c=0
   ·subst N
    have p:xs=[]:=List.eq_nil_of_length_eq_zero (by omega)
    subst p
    refine ⟨[],by simp,?_,by simp⟩
    cases y with
    | none=>exact run_firstCells_none w.drew i.size 0 0 0
    | some a'=>exact run_firstCells_some w.drew i.size 0 a' 0 0 [] (by simp) (by intro _ _ h';simp at h')
   ·obtain ⟨g,l,f,rfl,q1,q2,W,q4,q5⟩:=c3 (by omega)
    have e1:xs.length*sz≤c*sz:=Nat.mul_le_mul_right _ c1
    refine ⟨(f.toList.drop l).take (xs.length*sz),by rw[List.length_take,List.length_drop,Array.length_toList (xs:=f)];omega,?_,fun j x p=>?_⟩
    ·refine run_firstCells_some w.drew i.size xs.length ⟨g,l,none⟩ xs.length c _ (by rw[List.length_take,List.length_drop,Array.length_toList (xs:=f),E];omega) (fun j u H=>?_)
     rw[List.getElem?_take] at H
     split at H
     ·rw[List.getElem?_drop] at H
      have am:w.drew.heap[g]? =some (.cells f e (0,0)):=W
      unfold World.cell?
      rw[R9,Xj,I9 rfl]
      simp only[am]
      simpa using H
     ·cases H
    ·have U:j<xs.length:=(List.getElem?_eq_some_iff.1 p).1
     have hh:j*sz+sz≤xs.length*sz:=by rw[←Nat.succ_mul];exact Nat.mul_le_mul_right _ U
     have:=q5 j x p
     rw[List.drop_take,List.take_take,List.drop_drop,show min sz (xs.length*sz-j*sz)=sz by omega]
     exact this
  obtain ⟨n,o1,o2,o3⟩:=J
  have hg:c<xs.length+ys.length:=by omega
  have A:=run_append_grow_src (P:=P) w t t ty e i z ts.h hi M y xs.length c n o2 (.slice a ys.length m) ys.length d q hg (by omega) (growslice_fits hg (by rw[av];exact Q))
  have aw:=grownCap_le_maxLen w (xs.length+ys.length) c e (by simp only[maxLen];omega)
  have ap:=grownCap_ge w (xs.length+ys.length) c e
  have hL:(n++d).length=(xs.length+ys.length)*sz:=by rw[List.length_append,o1,n2,Nat.add_mul]
  refine L _ _ A ?_ ?_ (.inr ⟨(Below.refl _ _).drew.alloc (Nat.le_refl _) _,by intro k hk;cases hk;exact Nat.le_refl _⟩)
  ·exact Kpt.of_below ((Below.refl _ _).drew.alloc (Nat.le_refl _) _)
  ·refine ⟨_,_,by rw[List.length_append],by rw[List.length_append];exact ap,aw,by rintro _ ⟨⟩;exact ⟨rfl,hB,(Array.getElem?_eq_some_iff.1 (heap_alloc_new w.drew _)).1,V.none (Nat.le_refl _)⟩,fun _=>⟨w.heap.size,0,_,rfl,hB,V.none (Nat.le_refl _),heap_alloc_new w.drew _,?_,fun j x p=>?_⟩⟩
   ·rw[Array.size_append,List.size_toArray,hL,size_zeroCells,al,←Nat.add_mul]
    rw[Nat.zero_add];exact Nat.mul_le_mul_right _ (by omega)
   ·rw[Nat.zero_add,Array.toList_append]
    have U:j<xs.length+ys.length:=by have:=(List.getElem?_eq_some_iff.1 p).1;rwa [List.length_append] at this
    have hh:j*sz+sz≤(xs.length+ys.length)*sz:=by rw[←Nat.succ_mul];exact Nat.mul_le_mul_right _ U
    rw[List.drop_append_of_le_length (by simp only[List.toList_toArray];omega),List.take_append_of_le_length (by rw[List.length_drop];simp only[List.toList_toArray];omega)]
    simp only[List.toList_toArray]
    by_cases X:j<xs.length
    ·rw[List.getElem?_append_left X] at p
     rw[Vx n d xs.length j o1 X]
     exact o3 j x p
    ·rw[List.getElem?_append_right (by omega)] at p
     have:=n5 _ _ p
     rw[show j*sz=n.length+(j-xs.length)*sz by rw[o1,←Nat.add_mul];congr 1;omega,List.drop_append]
     simpa [List.drop_eq_nil_of_le] using this
end
theorem Jh {b:Nat} (h:w1.heap.size≤b) (k:Stp w σ w1 σ1):w.heap.size≤b:=Nat.le_trans k.bel.size h
theorem P3 {t:TypeId} {sz by_:Nat} {z:Value} [tz:TZ P t sz by_ z] (f:X4 w σ) (h: ∀b w' σ',w.heap.size≤b→Stp w σ w' σ'→Z7 σ' w' b z.cells.toList→K (.pointer (some ⟨b,0,none⟩)) w'):W6 P t w K:=
 Sg f fun b w' a d c=>h b w' σ a d c
theorem Q0r {t:TypeId} {cs:List Value} (f:X4 w σ) (h: ∀b w' σ',w.heap.size≤b→Stp w σ w' σ'→Z7 σ' w' b cs→K (.pointer (some ⟨b,0,none⟩)) w'):box P t (.agg cs.toArray) w K:=
 X1M f fun b w' a d c=>h b w' σ a d (by simpa [Value.cells] using c)
theorem Qz {t:TypeId} {sz by_:Nat} {z:Value} [tz:TZ P t sz by_ z] {b:Nat} {cs ds:List Value} (c:Z7 σ w b cs) (i:Stp w0 σ0 w σ) (d:w0.heap.size≤b) (j:cs.length=sz) (f:ds.length=sz) (k: ∀u∈ds,u.oneCell'=true)
 (h: ∀w',Hst w0 σ0 w' σ→Z7 σ w' b ds→K undef w'):Z4 P t (.pointer (some ⟨b,0,none⟩)) (.agg ds.toArray) w K:=
 sta c j f (by rw[List.all_toArray];exact List.all_eq_true.2 k) fun w' g a=>h w' ⟨g.stp i d c.1⟩ a
structure Nxt (D : Nat → Prop) (w : World) (σ : Q4) (w' : World) (σ' : Q4) : Prop where
  kp : Kpt D w w'
  le : SLe σ σ'
  old : ∀ k, k < w.heap.size → σ' k = σ k
  sat : X4 w' σ'
theorem Nxt.of_stp {D:Nat→Prop} (h:Stp w σ w' σ'):Nxt D w σ w' σ':=⟨Kpt.of_below h.bel,⟨h.le⟩,h.old,h.sat⟩
theorem Nxt.trans {D:Nat→Prop} (h:Nxt D w σ w' σ') (k:Nxt D w' σ' w'' σ1):Nxt D w σ w'' σ1:=
 ⟨h.kp.trans k.kp,h.le.more k.le,fun i a=>(k.old i (Nat.lt_of_lt_of_le a h.kp.size)).trans (h.old i a),k.sat⟩
theorem Z7.nx {D:Nat→Prop} {b:Nat} {cs:List Value} (h:Z7 σ w b cs) (k:Nxt D w σ w' σ') (c: ¬D b):Z7 σ' w' b cs:=by
 have a:=h.lt
 obtain ⟨d,e,f⟩:=h
 exact ⟨(k.old b a).trans d,e,(k.kp.block b a c).trans f⟩
theorem H4.nx {D:Nat→Prop} {r:Nat} {m:List (List UInt8×Value)} (h:H4 σ w r m) (k:Nxt D w σ w' σ') (a: ¬D r):H4 σ' w' r m:=
 ⟨(k.old r h.lt).trans h.1,(k.kp.block r h.lt a).symm▸h.2⟩
section
variable {α : Type} {R : Q4 → α → List Value → Prop} {B sz : Nat} {e : TypeId} {v u : Value} {xs : List α} {x : α}
theorem J1.nx [hr:Rep R] {D:Nat→Prop} (h:J1 B e sz R σ w v xs) (k:Nxt D w σ w' σ') (d: ∀k,v.ownBlock=some k→ ¬D k):J1 B e sz R σ' w' v xs:=by
 have c:=h.kp k.kp d
 obtain ⟨cells,g,j,b⟩:=c
 refine ⟨cells,g,fun i a=>(k.old i (h.mem i a).2.1).trans (j i a),fun i x f=>hr.up k.le.le (b i x f)⟩
theorem J9.nx [hr:Rep R] {D:Nat→Prop} (h:J9 B e sz R σ w v xs) (k:Nxt D w σ w' σ') (r: ∀k,v.ownBlock=some k→ ¬D k):J9 B e sz R σ' w' v xs:=by
 obtain ⟨a,l,rfl,y,C,c,A⟩:=h
 refine ⟨a,l,rfl,y,C,fun b d=>⟨(c b d).1,(c b d).2.1,Nat.lt_of_lt_of_le (c b d).2.2.1 k.kp.size,(k.old _ (c b d).2.2.1).trans (c b d).2.2.2⟩,fun q=>?_⟩
 obtain ⟨g,f,j,rfl,p,s,n,o,z⟩:=A q
 have m:=(Array.getElem?_eq_some_iff.1 n).1
 exact ⟨g,f,j,rfl,p,(k.old g m).trans s,(k.kp.block g m (r g rfl)).trans n,o,fun i x t=>hr.up k.le.le (z i x t)⟩
theorem Vd {t ty:TypeId} {by_:Nat} {z:Value} {cs:List Bool} {A:Value→Value→World→Prop} [ts:TS P t e] [tz:TZ P e sz by_ z] [hr:Rep R] (l:Stp w0 σ0 w σ) (C:J1 w0.heap.size e sz R σ w v xs) (o:R σ x u.cells.toList) (q:u.cells.size=sz) (n:(z.cells.size==sz&&decide (0<sz))=true) (g:(decide (0<sz)&&decide ([u].length*sz≤16777216))=true)
 (r:(xs.length+1)*by_≤140737488355328) (p:xs.length+1≤9223372036854775807)
 (h: ∀s a w' σ',Nxt (fun k=>v.ownBlock=some k) w σ w' σ'→Stp w0 σ0 w' σ'→J1 w0.heap.size e sz R σ' w' a (xs++[x])→(a.ownBlock=v.ownBlock∨ ∀k,a.ownBlock=some k→w.heap.size≤k)→A s a w'):
 buildSlice P t 1 [(0,u)] w (fun s w=>X5 P .append [t,t] ty cs [v,s] w (fun a w=>A s a w)):=by
 refine O7 l.sat [u] [x] rfl rfl (by simpa using q) g ⟨o,trivial⟩ fun s w1 σ1 b f=>?_
 refine app (l.trans b) (C.up b) f n (by simpa using r) (by simpa using p) fun a m y c j hat=>?_
 have i:Kpt (fun k=>v.ownBlock=some k) w m:=(Kpt.of_below b.bel).trans (Kpt.of_grown y fun k b=>b)
 refine h s a m σ1 ⟨i,⟨b.le⟩,b.old,c.sat⟩ c j ?_
 rcases hat with hat | hat
 ·exact .inl hat
 ·exact .inr fun k d=>Nat.le_trans b.bel.size (hat k d)
theorem Hu {t ty:TypeId} {by_:Nat} {z:Value} {cs:List Bool} {ys:List α} [ts:TS P t e] [tz:TZ P e sz by_ z] [hr:Rep R] (j:Stp w0 σ0 w σ) (p:J1 w0.heap.size e sz R σ w v xs) (g:Sl sz R σ u ys) (f:(z.cells.size==sz&&decide (0<sz))=true)
 (l:(xs.length+ys.length)*by_≤140737488355328) (i:xs.length+ys.length≤9223372036854775807)
 (h: ∀a w',Nxt (fun k=>v.ownBlock=some k) w σ w' σ→Stp w0 σ0 w' σ→J1 w0.heap.size e sz R σ w' a (xs++ys)→(a.ownBlock=v.ownBlock∨ ∀k,a.ownBlock=some k→w.heap.size≤k)→K a w'):X5 P .append [t,t] ty cs [v,u] w K:=
 app j p g f l i fun a o m b d c=>h a o ⟨Kpt.of_grown m fun k n=>n,SLe.refl _,fun _ _=>rfl,b.sat⟩ b d c
end
section
variable {α : Type} {R : Q4 → α → List Value → Prop} {B sz : Nat} {e : TypeId} {v u : Value} {xs : List α} {x : α}
theorem J9.mono {l:Nat} (h:J9 B e sz R σ w v xs) (k:l≤B):J9 l e sz R σ w v xs:=by
 obtain ⟨a,i,rfl,r,m,d,n⟩:=h
 refine ⟨a,i,rfl,r,m,fun b c=>⟨(d b c).1,Nat.le_trans k (d b c).2.1,(d b c).2.2⟩,fun p=>?_⟩
 obtain ⟨g,j,f,rfl,o,q⟩:=n p
 exact ⟨g,j,f,rfl,Nat.le_trans k o,q⟩
theorem J9.own (h:J9 B e sz R σ w v xs) {k:Nat} (a:v.ownBlock=some k):B≤k:=(h.mem a).1
theorem J9.keep [hr:Rep R] (h:J9 w0.heap.size e sz R σ w v xs) (o:Stp w0 σ0 w σ): ∃σ',Stp w0 σ0 w σ'∧Sl sz R σ' v xs∧SLe σ σ'∧(∀k,some k≠v.ownBlock→σ' k=σ k):=by
 obtain ⟨a,f,rfl,t,E,p,C⟩:=h
 by_cases s:f=0
 ·have m:xs=[]:=List.eq_nil_of_length_eq_zero (by omega)
  subst s m
  exact ⟨σ,o,⟨a,0,rfl,by simp,by simp,fun _=>rfl,fun b y=>⟨fun _=>(p b y).1,by simp⟩⟩,SLe.refl _,fun _ _=>rfl⟩
 ·obtain ⟨g,n,c,rfl,r,q,z,H,A⟩:=C (by omega)
  have d:=Q4.put_le o.sat q (.cells c e (0,0))
  refine ⟨σ.put g (.cells c e (0,0)),o.put q r z,⟨_,f,rfl,t,E,by simp,?_⟩,⟨d⟩,?_⟩
  ·rintro _ ⟨⟩
   refine ⟨fun _=>rfl,fun i x m=>⟨(c.toList.drop (n+i*sz)).take sz,⟨I9 rfl _,c,e,(0,0),by rw[R9];simp[Q4.put],?_⟩,?_,hr.up d (A i x m)⟩⟩
   ·intro j u l
    rw[Xj]
    rw[List.getElem?_take] at l
    split at l
    ·rw[List.getElem?_drop] at l;simpa using l
    ·cases l
   ·have J:i<xs.length:=(List.getElem?_eq_some_iff.1 m).1
    have h:i*sz+sz≤f*sz:=by rw[←Nat.succ_mul];exact Nat.mul_le_mul_right _ (by omega)
    rw[List.length_take,List.length_drop,Array.length_toList (xs:=c)];omega
  ·intro k D
   have:k≠g:=by intro e;subst e;exact D rfl
   simp only[Q4.put,if_neg this]
theorem X2z {t N:TypeId} {by_:Nat} {z:Value} {A:Value→Value→World→Prop} {ds:List Value} [ts:TS P t e] [tz:TZ P e sz by_ z] {s:Nat} {W:Value} [tz':TZ P N sz s W] (Z:Stp w0 σ0 w σ) (ha:J9 w0.heap.size e sz R σ w v xs) {n:Nat} (hn:n<xs.length) (H:ds.length=sz) (hx:R σ x ds) (h1: ∀u∈ds,u.oneCell'=true)
 (h: ∀p u w',Kpt (fun k=>v.ownBlock=some k) w w'→Hst w0 σ0 w' σ→J9 w0.heap.size e sz R σ w' v (xs.set n x)→A p u w'):
 indexAddr P t v (I n) w (fun p w=>Z4 P N p (.agg ds.toArray) w (fun u w=>A p u w)):=by
 obtain ⟨a,i,rfl,U,X,f,Y⟩:=ha
 obtain ⟨g,c,d,rfl,L,O,Q,q4,q5⟩:=Y (by omega)
 rw[Rz (by omega) (by omega)]
 have hh:n*sz+sz≤i*sz:=by rw[←Nat.succ_mul];exact Nat.mul_le_mul_right _ (by omega)
 have q:(⟨g,c,none⟩:Addr).add ((n:Int).toNat*sz)=⟨g,c+n*sz,none⟩:=by unfold Addr.add;split<;>simp_all
 rw[q]
 have o:=run_storeCells_at P g (c+n*sz) e ds 0 d w Q (by omega) h1
 simp only[Nat.add_zero] at o
 obtain ⟨l,E⟩:=Xz (cs:=(d.toList.take (c+n*sz)++ds++d.toList.drop (c+n*sz+ds.length)).toArray) Q
 unfold Z4
 rw[Wg (w':=w.setRow g (d.toList.take (c+n*sz)++ds++d.toList.drop (c+n*sz+ds.length)).toArray) (by
  simp[Instr.storeAt,Instr.sureAddr,storeVar,W5 tz',Value.cells,H]
  simpa [H] using o)]
 have hk:Kpt (fun k=>(Value.slice (some ⟨g,c,none⟩) xs.length i).ownBlock=some k) w (w.setRow g (d.toList.take (c+n*sz)++ds++d.toList.drop (c+n*sz+ds.length)).toArray):=Kpt.of_upd l rfl
 refine h _ _ _ hk ⟨l.stp Z L O⟩ ⟨_,i,by rw[List.length_set],by rw[List.length_set];exact U,X,fun b r=>⟨(f b r).1,(f b r).2.1,by rw[l.size];exact (f b r).2.2.1,(f b r).2.2.2⟩,fun _=>⟨g,c,_,rfl,L,O,E,?_,fun j y m=>?_⟩⟩
 ·simp;omega
 ·rw[List.toList_toArray]
  have V:=Array.length_toList (xs:=d)
  have D:j<xs.length:=by have:=(List.getElem?_eq_some_iff.1 m).1;simpa using this
  have af:j*sz+sz≤i*sz:=by rw[←Nat.succ_mul];exact Nat.mul_le_mul_right _ (by omega)
  by_cases M:j=n
  ·subst M
   rw[List.getElem?_set_self D] at m
   cases m
   rw[List.append_assoc,List.drop_append,List.drop_eq_nil_of_le (by rw[List.length_take];omega),List.nil_append,List.length_take,show c+j*sz-min (c+j*sz) d.toList.length=0 by omega,List.drop_zero,List.take_append_of_le_length (by omega),List.take_of_length_le (by omega)]
   exact hx
  ·rw[List.getElem?_set_ne (by omega)] at m
   have:=q5 j y m
   rcases Nat.lt_or_gt_of_ne M with C | hgt
   ·have J:j*sz+sz≤n*sz:=by rw[←Nat.succ_mul];exact Nat.mul_le_mul_right _ C
    rw[List.append_assoc,List.drop_append_of_le_length (by rw[List.length_take];omega),List.take_append_of_le_length (by rw[List.length_drop,List.length_take];omega),List.drop_take,List.take_take]
    rwa [show min sz (c+n*sz-(c+j*sz))=sz by omega]
   ·have J:n*sz+sz≤j*sz:=by rw[←Nat.succ_mul];exact Nat.mul_le_mul_right _ hgt
    rw[List.drop_append,List.drop_eq_nil_of_le (by rw[List.length_append,List.length_take];omega),List.nil_append,List.length_append,List.length_take,List.drop_drop,H]
    rwa [show c+n*sz+sz+(c+j*sz-(min (c+n*sz) d.toList.length+sz))=c+j*sz by omega]
end
theorem Q68 (p:Nat→Prop): ∀n,p n→ ∃m,p m∧ ∀k,p k→m≤k:=by
 intro n
 induction n using Nat.strongRecOn with
 | _ n d=>
  intro h
  by_cases b: ∃k,k<n∧p k
  ·obtain ⟨k,f,g⟩:=b;exact d k f g
  ·exact ⟨n,h,fun k c=>Nat.le_of_not_lt fun a=>b ⟨k,a,c⟩⟩
noncomputable def Q1p (p:Nat→Prop):Nat:=open Classical in if h: ∃m,p m∧ ∀k,p k→m≤k then Classical.choose h else 0
theorem Q0b {p:Nat→Prop} {n:Nat} (h:p n):p (Q1p p)∧Q1p p≤n:=by
 have a:=Q68 p n h
 unfold Q1p
 rw[dif_pos a]
 exact ⟨(Classical.choose_spec a).1,(Classical.choose_spec a).2 n h⟩
theorem Kn {α:Type} {g:α} {A:(α→World→Prop)→α→(Nat→Value)→World→Prop} (I:Nat→α→World→Prop) (n:Nat) (i:I n g w)
 (l: ∀a n x d w,I n x w→(∀c b w',c<n→I c b w'→a b w')→A a x d w):lp g w A:=by
 refine Uc (fun x w=> ∃n,I n x w) (fun x w=>Q1p fun n=>I n x w) ⟨n,i⟩ ?_
 rintro x d w ⟨n,j⟩
 obtain ⟨k,m⟩:=Q0b (p:=fun n=>I n x w) j
 refine l _ _ x d w k fun c b w' f h=>⟨⟨c,h⟩,?_⟩
 exact Nat.lt_of_le_of_lt (Q0b (p:=fun n=>I n b w') h).2 f
section
variable {α : Type} {R : Q4 → α → List Value → Prop} {B sz : Nat} {e : TypeId} {v u : Value} {xs ys : List α} {x : α}
theorem J9.below (h:J9 B e sz R σ w v xs) (a:Below w.heap.size w w'):J9 B e sz R σ w' v xs:=h.kp (D:=fun _=>False) (.of_below a) fun _ _=>id
theorem J9.pre {a:Option Addr} {n m b:Nat} (h:J9 B e sz R σ w (.slice a m b) (xs++ys)) (q:n=xs.length):J9 B e sz R σ w (.slice a n b) xs:=by
 obtain ⟨H,j,s,y,E,f,C⟩:=h
 injection s with D e2 t
 subst D t q
 rw[List.length_append] at y
 refine ⟨a,b,rfl,by omega,E,f,fun p=>?_⟩
 obtain ⟨g,c,d,q0,o,r,z,l,A⟩:=C p
 exact ⟨g,c,d,q0,o,r,z,l,fun i x k=>A i x (by rw[List.getElem?_append_left (List.getElem?_eq_some_iff.1 k).1];exact k)⟩
def Gx (B:Nat) (e:TypeId) (sz:Nat) (R:Q4→α→List Value→Prop) (σ:Q4) (v:Value) (xs:List α) (x:α) (w1 c:World):Prop:=
 Kpt (fun k=>v.ownBlock=some k) w1 c∧(J9 B e sz R σ w1 v xs→J9 B e sz R σ c v xs)∧
  ∀a b,v= .slice a xs.length b→J9 B e sz R σ w1 (.slice a (xs.length+1) b) (xs++[x])→J9 B e sz R σ c (.slice a (xs.length+1) b) (xs++[x])
theorem Gx.below (a:Below w.heap.size w w'):Gx B e sz R σ v xs x w w':=⟨.of_below a,fun h=>h.below a,fun _ _ _ h=>h.below a⟩
theorem Gx.refl:Gx B e sz R σ v xs x w w:=Gx.below (Below.refl _ _)
def VQa (N B:Nat) (e:TypeId) (sz:Nat) (R:Q4→α→List Value→Prop) (σ:Q4) (v:Value) (xs:List α) (x:α) (c:Value) (w:World):Prop:=
 J9 B e sz R σ w c (xs++[x])∧((∃a b,v= .slice a xs.length b∧c= .slice a (xs.length+1) b)∨((∀k,c.ownBlock=some k→N≤k)∧ ∀k,v.ownBlock=some k→k<N))
theorem VQa.stable {N:Nat} {g:Value} (h:VQa N B e sz R σ v xs x g w) (i:Gx B e sz R σ v xs x w w'):VQa N B e sz R σ v xs x g w':=by
 obtain ⟨j,b⟩:=h
 refine ⟨?_,b⟩
 rcases b with ⟨a,f,d,rfl⟩ | ⟨b,d⟩
 ·exact i.2.2 a f d j
 ·exact j.kp i.1 fun k l c=>by have:=b k l;have:=d k c;omega
theorem Kpt.more {D E:Nat→Prop} (h:Kpt D w w') (k:Kpt E w' w'') (hE: ∀j,E j→w.heap.size≤j):Kpt D w w'':=
 ⟨k.os.trans h.os,k.tape.trans h.tape,k.output.trans h.output,Nat.le_trans h.size k.size,fun i a b=>(k.block i (Nat.lt_of_lt_of_le a h.size) fun e=>by have:=hE i e;omega).trans (h.block i a b)⟩
end
end Go.Emb

namespace Go.Hm
open Go.Kd
theorem V2 {l:List Cla} {n:Q8} {c:Cla} (h:lk l n=some c):c.name=n∧c∈l∧ ∃i,Y7 l n=some i∧l[i]? =some c:=by
 unfold lk at h
 cases b:Y7 l n with
 | none=>rw[b] at h;cases h
 | some i=>
  rw[b] at h
  obtain ⟨a,e,_⟩:=List.findIdx?_eq_some_iff_getElem.1 b
  have d:l[i]? =some c:=h
  rw[List.getElem?_eq_getElem a] at d
  cases d
  exact ⟨by simpa using e,List.getElem_mem a,i,rfl,List.getElem?_eq_getElem a⟩
theorem Jv {l:List Cla} {n:Q8} {i:Nat} (h:Y7 l n=some i): ∃c,lk l n=some c∧l[i]? =some c∧c.name=n:=by
 obtain ⟨a,b,_⟩:=List.findIdx?_eq_some_iff_getElem.1 h
 refine ⟨l[i],?_,List.getElem?_eq_getElem a,by simpa using b⟩
 unfold lk;rw[h];simp[a]
theorem Q4p {l:List Cla} {n:Q8}:Q2Q l n=(lk l n).isSome:=by
 unfold Q2Q
 cases a:Y7 l n with
 | none=>simp[lk,a]
 | some i=>obtain ⟨c,h,_⟩:=Jv a;simp[h]
theorem X0a {l:List Cla} {c:Cla} (h:c∈l): ∃d,lk l c.name=some d:=by
 cases a:Y7 l c.name with
 | none=>
  have:=List.findIdx?_eq_none_iff.1 a c h
  simp at this
 | some i=>obtain ⟨d,h,_⟩:=Jv a;exact ⟨d,h⟩
inductive Reach (L : Ur) : Q8 → Q8 → Prop
  | refl {a : Q8} {c : Cla} : L a = some c → Reach L a a
  | step {a u b : Q8} {c : Cla} : L a = some c → u ∈ U2 c → Reach L u b → Reach L a b
theorem Reach.trans {L:Ur} {a b d:Q8} (h:Reach L a b) (k:Reach L b d):Reach L a d:=by
 induction h with
 | refl _=>exact k
 | step e f _ c=>exact .step e f (c k)
theorem Reach.right {L:Ur} {a b:Q8} (h:Reach L a b): ∃c,L b=some c:=by
 induction h with
 | refl h=>exact ⟨_,h⟩
 | step _ _ _ d=>exact d
theorem Reach.left {L:Ur} {a b:Q8} (h:Reach L a b): ∃c,L a=some c:=by
 cases h with
 | refl h=>exact ⟨_,h⟩
 | step h _ _=>exact ⟨_,h⟩
theorem Q1w (L:Ur): ∀(f:Nat) (a b:List Q8),∃r,Uo L f a b=b++r:=by
 intro f
 induction f with
 | zero=>intro a b;exact ⟨[],by simp[Uo]⟩
 | succ f c=>
  intro a b
  cases a with
  | nil=>exact ⟨[],by simp[Uo]⟩
  | cons n a=>
   simp only[Uo]
   split
   ·exact c _ _
   ·split
    ·exact c _ _
    ·obtain ⟨r,d⟩:=c (a++U2 ‹_›) (b++[n])
     exact ⟨n::r,by rw[d];simp⟩
theorem Q9Y (L:Ur): ∀(f:Nat) (a b:List Q8) (x:Q8),x∈Uo L f a b→x∈b∨ ∃t∈a,Reach L t x:=by
 intro f
 induction f with
 | zero=>intro a b x h;exact .inl h
 | succ f d=>
  intro a b x h
  cases a with
  | nil=>exact .inl h
  | cons n a=>
   simp only[Uo] at h
   split at h
   ·rcases d _ _ _ h with h | ⟨t,ht,h⟩
    ·exact .inl h
    ·exact .inr ⟨t,by simp[ht],h⟩
   ·rename_i c e
    split at h
    ·rcases d _ _ _ h with h | ⟨t,ht,h⟩
     ·exact .inl h
     ·exact .inr ⟨t,by simp[ht],h⟩
    ·rcases d _ _ _ h with h | ⟨t,ht,h⟩
     ·rcases List.mem_append.1 h with h | h
      ·exact .inl h
      ·simp at h;subst h;exact .inr ⟨x,by simp, .refl e⟩
     ·rcases List.mem_append.1 ht with ht | ht
      ·exact .inr ⟨t,by simp[ht],h⟩
      ·exact .inr ⟨n,by simp, .step e ht h⟩
theorem X1p (l:List Cla) (a b:List Q8) (h: ∀x∈a,x∈b):weigh l b≤weigh l a:=by
 unfold weigh
 induction l with
 | nil=>simp
 | cons c r e=>
  simp only[List.map_cons,List.sum_cons]
  by_cases d:c.name∈a
  ·rw[if_pos d,if_pos (h _ d)];omega
  ·rw[if_neg d];split<;>omega
theorem Pg (l:List Cla) (a:List Q8) (c:Cla) (hc:c∈l) (h:c.name∉a):weigh l (a++[c.name])+(U2 c).length≤weigh l a:=by
 unfold weigh
 induction l with
 | nil=>simp at hc
 | cons d r f=>
  simp only[List.map_cons,List.sum_cons]
  have e:weigh r (a++[c.name])≤weigh r a:=X1p _ _ _ (by simp;intro x g;exact .inl g)
  unfold weigh at e
  rcases List.mem_cons.1 hc with rfl | hc
  ·rw[if_pos (by simp),if_neg h];omega
  ·have:=f hc
   by_cases b:d.name∈a
   ·rw[if_pos (by simp[b]),if_pos b];omega
   ·rw[if_neg b];split<;>omega
theorem X1e (l:List Cla): ∀(f:Nat) (a b:List Q8),a.length+weigh l b≤f→
 (∀x∈b,∀c,lk l x=some c→ ∀u∈U2 c,∀d,lk l u=some d→u∈b∨u∈a)→
 (∀t∈a,∀d,lk l t=some d→t∈Uo (lk l) f a b)∧ ∀x∈Uo (lk l) f a b,∀c,lk l x=some c→ ∀u∈U2 c,∀d,lk l u=some d→u∈Uo (lk l) f a b:=by
 intro f
 induction f with
 | zero=>
  intro a b w o
  have:a=[]:=List.eq_nil_of_length_eq_zero (by omega)
  subst this
  refine ⟨by simp,fun x hx c j u i d g=>?_⟩
  rcases o x hx c j u i d g with h | h
  ·exact h
  ·simp at h
 | succ f s=>
  intro a b w o
  cases a with
  | nil=>
   refine ⟨by simp,fun x hx c j u i d g=>?_⟩
   rcases o x hx c j u i d g with h | h
   ·exact h
   ·simp at h
  | cons n a=>
   simp only[List.length_cons] at w
   simp only[Uo]
   split
   ·rename_i y
    obtain ⟨p,q⟩:=s a b (by omega) (fun x hx c j u i d g=>by
     rcases o x hx c j u i d g with h | h
     ·exact .inl h
     ·rcases List.mem_cons.1 h with rfl | h
      ·rw[y] at g;cases g
      ·exact .inr h)
    refine ⟨fun t ht d g=>?_,q⟩
    rcases List.mem_cons.1 ht with rfl | ht
    ·rw[y] at g;cases g
    ·exact p t ht d g
   ·rename_i c j
    split
    ·rename_i k
     obtain ⟨r,v⟩:=Q1w (lk l) f a b
     obtain ⟨p,q⟩:=s a b (by omega) (fun x hx c j u i d g=>by
      rcases o x hx c j u i d g with h | h
      ·exact .inl h
      ·rcases List.mem_cons.1 h with rfl | h
       ·exact .inl k
       ·exact .inr h)
     refine ⟨fun t ht d g=>?_,q⟩
     rcases List.mem_cons.1 ht with rfl | ht
     ·rw[v];simp[k]
     ·exact p t ht d g
    ·rename_i k
     obtain ⟨e,z,_⟩:=V2 j
     have B:=Pg l b c z (by rw[e];exact k)
     rw[e] at B
     obtain ⟨p,q⟩:=s (a++U2 c) (b++[n]) (by rw[List.length_append];omega) (fun x hx A m u i d g=>by
      rcases List.mem_append.1 hx with hx | hx
      ·rcases o x hx A m u i d g with h | h
       ·exact .inl (by simp[h])
       ·rcases List.mem_cons.1 h with rfl | h
        ·exact .inl (by simp)
        ·exact .inr (by simp[h])
      ·simp at hx;subst hx
       rw[j] at m;cases m
       exact .inr (by simp[i]))
     refine ⟨fun t ht d g=>?_,q⟩
     rcases List.mem_cons.1 ht with rfl | ht
     ·obtain ⟨r,v⟩:=Q1w (lk l) f (a++U2 c) (b++[t])
      rw[v];simp
     ·exact p t (by simp[ht]) d g
theorem Ue {l:List Cla} {a b:Q8}:b∈C7 l a↔Reach (lk l) a b:=by
 obtain ⟨k,o⟩:=X1e l (1+weigh l []) [a] [] (by simp) (by simp)
 constructor
 ·intro h
  rcases Q9Y _ _ _ _ _ h with h | ⟨t,e,m⟩
  ·simp at h
  ·simp at e;subst e;exact m
 ·intro h
  have key: ∀{x y:Q8},Reach (lk l) x y→x∈C7 l a→y∈C7 l a:=by
   intro x y h
   induction h with
   | refl _=>exact id
   | step i f n g=>
    intro j
    obtain ⟨d,c⟩:=n.left
    exact g (o _ j _ i _ f _ c)
  obtain ⟨d,c⟩:=h.left
  exact key h (k a (by simp) d c)
theorem X1r (l:List Cla): ∀(f:Nat) (a b:List Q8),a.length+weigh l b≤f→ ∀k,Uo (lk l) (f+k) a b=Uo (lk l) f a b:=by
 intro f
 induction f with
 | zero=>
  intro a b h k
  have:a=[]:=List.eq_nil_of_length_eq_zero (by omega)
  subst this
  cases k<;>rfl
 | succ f g=>
  intro a b h k
  cases a with
  | nil=>rw[Nat.succ_add];rfl
  | cons n a=>
   simp only[List.length_cons] at h
   rw[Nat.succ_add]
   simp only[Uo]
   split
   ·exact g _ _ (by omega) k
   ·rename_i c j
    split
    ·exact g _ _ (by omega) k
    ·rename_i d
     obtain ⟨e,i,_⟩:=V2 j
     have m:=Pg l b c i (by rw[e];exact d)
     rw[e] at m
     exact g _ _ (by rw[List.length_append];omega) k
end Go.Hm

namespace Go.Hm
open Go.Kd
def Vz (L:Ur) (a b:Q8):Prop:= ∃c,L a=some c∧ ∃u∈U2 c,Reach L u b
def Zf (l:List Cla):Prop:= ∀a,¬Vz (lk l) a a
theorem Vz.reach {L:Ur} {a b:Q8} (h:Vz L a b):Reach L a b:=by
 obtain ⟨c,f,u,d,e⟩:=h;exact .step f d e
theorem Vz.trans {L:Ur} {a b d:Q8} (h:Vz L a b) (k:Reach L b d):Vz L a d:=by
 obtain ⟨c,g,u,e,f⟩:=h;exact ⟨c,g,u,e,f.trans k⟩
theorem Q5b {L:Ur} {a b:Q8}:Reach L a b↔(a=b∧(∃c,L a=some c))∨Vz L a b:=by
 constructor
 ·intro h
  cases h with
  | refl h=>exact .inl ⟨rfl,_,h⟩
  | step e f d=>exact .inr ⟨_,e,_,f,d⟩
 ·rintro (⟨rfl,c,h⟩ | h)
  ·exact .refl h
  ·exact h.reach
def Jw (l:List Cla) (a b:Q8):Bool:=match lk l a with
 | none=>false
 | some c=>(U2 c).any fun u=>(C7 l u).contains b
theorem Wn {l:List Cla} {a b:Q8}:Jw l a b=true↔Vz (lk l) a b:=by
 unfold Jw Vz
 cases h:lk l a with
 | none=>simp
 | some c=>
  simp only[List.any_eq_true,List.contains_iff_mem,Ue]
  constructor
  ·rintro ⟨u,d,e⟩;exact ⟨c,rfl,u,d,e⟩
  ·rintro ⟨_,⟨⟩,u,d,e⟩;exact ⟨u,d,e⟩
def I7 (l:List Cla) (n:Q8):Nat:=l.countP fun m=>Jw l n m.name
theorem Q1i (l:List Cla) (n:Q8):I7 l n≤l.length:=List.countP_le_length
theorem Q4Q {α:Type} {p q:α→Bool}: ∀{l:List α},(∀x∈l,p x=true→q x=true)→(∃x∈l,q x=true∧p x=false)→l.countP p<l.countP q:=by
 intro l
 induction l with
 | nil=>rintro _ ⟨x,hx,_⟩;simp at hx
 | cons a r e=>
  rintro h ⟨x,hx,d,c⟩
  have g:r.countP p≤r.countP q:=List.countP_mono_left fun x hx=>h x (by simp[hx])
  rw[List.countP_cons,List.countP_cons]
  rcases List.mem_cons.1 hx with rfl | hx
  ·rw[d,c];simp;omega
  ·have:=e (fun x hx=>h x (by simp[hx])) ⟨x,hx,d,c⟩
   have f:=h a (by simp)
   cases b:p a
   ·simp;split<;>omega
   ·rw[f b];simp;omega
theorem X2L {l:List Cla} (j:Zf l) {a b:Q8} (h:Vz (lk l) a b):I7 l b<I7 l a:=by
 unfold I7
 refine Q4Q (fun x _ i=>?_) ?_
 ·rw[Wn] at*
  exact h.trans i.reach
 ·obtain ⟨d,f⟩:=(Reach.right (h.reach))
  obtain ⟨e,g,_⟩:=V2 f
  refine ⟨d,g,?_,?_⟩
  ·rw[Wn,e];exact h
  ·cases c:Jw l b d.name with
   | false=>rfl
   | true=>rw[Wn,e] at c;exact absurd c (j b)
theorem Yw {l:List Cla} (f:Zf l) {a u:Q8} {c d:Cla} (g:lk l a=some c) (e:u∈U2 c) (b:lk l u=some d):I7 l u<I7 l a:=
 X2L f ⟨c,g,u,e, .refl b⟩
theorem Q7U {l:List Cla} (e:Zf l): ∀(f g:Nat) (n:Q8),I7 l n<f→I7 l n<g→F3 (lk l) f n=F3 (lk l) g n:=by
 intro f
 induction f with
 | zero=>intro g n h;omega
 | succ f b=>
  intro g n k j
  obtain ⟨g,rfl⟩: ∃m,g=m+1:=⟨g-1,by omega⟩
  simp only[F3]
  cases i:lk l n with
  | none=>rfl
  | some c=>
   simp only
   congr 1
   cases a:lk l c.super with
   | none=>cases f<;>cases g<;>simp[F3,a]
   | some d=>
    have:=Yw e i (by simp[U2]) a
    exact b g c.super (by omega) (by omega)
theorem K0 {l:List Cla} (b:Zf l) (n:Q8):chain l n=match lk l n with | none=>[] | some c=>c::chain l c.super:=by
 have:=Q1i l n
 unfold chain
 rw[F3]
 cases e:lk l n with
 | none=>rfl
 | some c=>
  simp only
  congr 1
  cases a:lk l c.super with
  | none=>cases l.length<;>simp[F3,a]
  | some d=>
   have:=Yw b e (by simp[U2]) a
   exact Q7U b _ _ _ (by omega) (by omega)
theorem T6 {l:List Cla} {n:Q8} (h:lk l n=none):chain l n=[]:=by simp[chain,F3,h]
theorem Dc {α β:Type} {f g:α→Option β}: ∀{l:List α},(∀x∈l,f x=g x)→l.findSome? f=l.findSome? g
 | [],_=>rfl
 | a::r,h=>by
  rw[List.findSome?_cons,List.findSome?_cons,h a (by simp),Dc fun x b=>h x (by simp[b])]
theorem Q7L {l:List Cla} (k:Zf l) (n:Q8): ∀(f g:Nat) (c:Cla),lk l c.name=some c→I7 l c.name<f→I7 l c.name<g→Mv (lk l) f c n=Mv (lk l) g c n:=by
 intro f
 induction f with
 | zero=>intro g c _ h;omega
 | succ f i=>
  intro g c j o p
  obtain ⟨g,rfl⟩: ∃m,g=m+1:=⟨g-1,by omega⟩
  simp only[Mv]
  refine Dc fun u b=>?_
  cases a:lk l u with
  | none=>rfl
  | some d=>
   simp only
   cases H1 d n with
   | some m=>rfl
   | none=>
    simp only
    have:=Yw k j (by simp[U2,b]) a
    have e:=(V2 a).1
    exact i g d (by rw[e];exact a) (by rw[e];omega) (by rw[e];omega)
def V3 (l:List Cla) (c:Cla) (n:Q8):Option (Q8×Hm.Met):=Mv (lk l) (l.length+1) c n
theorem Q4U {l:List Cla} (b:Zf l) {c:Cla} (g:lk l c.name=some c) (n:Q8):V3 l c n=c.like.findSome? fun u=>match lk l u with
 | none=>none
 | some d=>match H1 d n with
  | some m=>some (u,m)
  | none=>V3 l d n:=by
 have:=Q1i l c.name
 unfold V3
 rw[Mv]
 refine Dc fun u f=>?_
 cases a:lk l u with
 | none=>rfl
 | some d=>
  simp only
  cases H1 d n with
  | some m=>rfl
  | none=>
   have:=Yw b g (by simp[U2,f]) a
   have e:=(V2 a).1
   exact Q7L b n _ _ d (by rw[e];exact a) (by rw[e];omega) (by rw[e];omega)
def K7 (l:List Cla):Prop:=(l.map (·.name)).Nodup
theorem K7.lk {l:List Cla} (h:K7 l) {c:Cla} (k:c∈l):Go.Hm.lk l c.name=some c:=by
 obtain ⟨d,f⟩:=X0a k
 obtain ⟨e,p,i,o,a⟩:=V2 f
 obtain ⟨j,m,rfl⟩:=List.getElem_of_mem k
 obtain ⟨b,g⟩:=List.getElem?_eq_some_iff.1 a
 have:i=j:=by
  have n:(l.map (·.name))[i]'(by simpa using b)=(l.map (·.name))[j]'(by simpa using m):=by simp[g,e]
  exact (List.getElem_inj h).1 n
 subst this
 rw[f,←g]
theorem K7.find {l:List Cla} (h:K7 l) {i:Nat} {c:Cla} (k:l[i]? =some c):Y7 l c.name=some i:=by
 obtain ⟨b,rfl⟩:=List.getElem?_eq_some_iff.1 k
 have:=h.lk (List.getElem_mem b)
 obtain ⟨e,n,j,d,f⟩:=V2 this
 obtain ⟨a,g⟩:=List.getElem?_eq_some_iff.1 f
 have:j=i:=by
  have m:(l.map (·.name))[j]'(by simpa using a)=(l.map (·.name))[i]'(by simpa using b):=by simp[g]
  exact (List.getElem_inj h).1 m
 rw[d,this]
end Go.Hm

namespace Go.Emb
open Go.RowKit Go.Hm
variable {P : Program} {w w0 w1 w' w'' : World} {K : Value → World → Prop} {σ σ0 σ1 σ2 σ' : Q4}
theorem Stp.join (c:Stp w σ w' σ1) (f:Stp w σ w' σ2): ∃d,Stp w σ w' d∧SLe σ1 d∧SLe σ2 d:=by
 have g: ∀b o,σ1 b=some o→(fun b=>(σ1 b).or (σ2 b)) b=some o:=fun b o e=>by simp[e]
 have i: ∀b o,σ2 b=some o→(fun b=>(σ1 b).or (σ2 b)) b=some o:=by
  intro b o e
  cases a:σ1 b with
  | none=>simp[a,e]
  | some p=>
   have j:=c.sat b p a
   have h:=f.sat b o e
   rw[j] at h;cases h;simp only[a,Option.some_or]
 refine ⟨fun b=>(σ1 b).or (σ2 b),⟨c.bel,?_,fun b o e=>g b o (c.le b o e),?_⟩,⟨g⟩,⟨i⟩⟩
 ·intro b o e
  cases a:σ1 b with
  | none=>simp only[a,Option.none_or] at e;exact f.sat b o e
  | some p=>simp only[a,Option.some_or] at e;cases e;exact c.sat b _ a
 ·intro b a
  simp only[c.old b a,f.old b a];cases σ b<;>rfl
theorem Ra {Φ:Q4→Value→Prop} {A a:(Value→World→Prop)→Prop} (h:A (fun v w'=> ∃σ',Stp w σ w' σ'∧Φ σ' v)) (e:a (fun v w'=> ∃σ',Stp w σ w' σ'∧Φ σ' v)):Q6 (fun w w'=>Below w.heap.size w w') A a:=
 L3 _ (fun _ _ _ ⟨σ',b,d⟩ c=>⟨σ',b.trans (Stp.of_below b.sat c),d⟩) h e
theorem Q0s {Φ:Q4→Value→Prop} {v:Value} (b:Hst w σ w1 σ) (h:Stp w1 σ w' σ') (a:Φ σ' v):dk (fun w w'=>Below w.heap.size w w') (fun v w'=> ∃σ',Stp w σ w' σ'∧Φ σ' v) w1 v w':=
 ⟨h.bel,σ',b.stp.trans h,a⟩
theorem M3.mk {m:Hm.Met} {pv b a:Value} (f:Sl 1 X7 σ pv m.params) (c:Sl 3 G9 σ b m.code) (d:Sl 4 Yo σ a m.catches) (e:m.name.length≤Y9) (h:m.result.length≤Y9) (g:Q0k m.locals):M3 σ m [S m.name,pv,S m.result, .bool m.abs,I m.locals,b,a]:=
 ⟨pv,b,a,rfl,f,c,d,e,h,g⟩
theorem V4.mk {c:Cla} {b a mv:Value} (g:Sl 1 X7 σ b c.like) (d:Sl 3 H0 σ a c.fields) (e:Sl 7 M3 σ mv c.methods) (f:c.name.length≤Y9) (h:c.super.length≤Y9):V4 σ c [S c.name,S c.super,b, .bool c.iface, .bool c.abs, .bool c.fin,a,mv]:=
 ⟨b,a,mv,rfl,g,d,e,f,h⟩
end Go.Emb
namespace Go.Hm
def SmM (m:Hm.Met):Prop:=m.params.length≤1000000∧m.code.length≤1000000∧m.catches.length≤1000000
def Qr (c:Cla):Prop:=c.like.length≤1000000∧c.fields.length≤1000000∧c.methods.length≤1000000∧ ∀m∈c.methods,SmM m
end Go.Hm
namespace Go.Proofs.YtfppjenblllfaaaGreatDoor
open Go.Emb Go.RowKit Go.Kd Go.Hm
variable {w : World} {K : Value → World → Prop} {σ : Q4}
theorem Q4X {m:Hm.Met} {cs:List Value} (hs:X4 w σ) (hm:M3 σ m cs) (H:SmM m)
 (h: ∀pv o f w' σ',Stp w σ w' σ'→M3 σ' m [S m.name,pv,S m.result, .bool m.abs,I m.locals,o,f]→K (.agg [S m.name,pv,S m.result, .bool m.abs,I m.locals,o,f].toArray) w'):Q0 P F.c8 [.agg cs.toArray] w K:=Q5d (by
 obtain ⟨pv,o,f,rfl,A,z,M,g4,X,g6⟩:=hm
 obtain ⟨s1,s2,s3⟩:=H
 unfold Td
 refine Q0r hs fun b w1 σ1 d j a=>?_
 refine P3 j.sat fun b2 w2 σ2 J g c=>?_
 have Y:=a.lt
 replace a:=a.step g
 have y:=g.sat
 have A:=(A.up j).up g
 have z:=(z.up j).up g
 have M:=(M.up j).up g
 have L: ∀{w':World} (i:Nat) (v:Value),[S m.name,pv,S m.result, .bool m.abs,I m.locals,o,f][i]? =some v→Hst w2 σ2 w' σ2→w'.cell? ((⟨b,0,none⟩:Addr).add i)=some v:=fun i v f hh=>(a.step hh.stp).cell f
 refine V0 y ?_
 refine X2 (.pointer (some ((⟨b,0,none⟩:Addr).add 1))) (fun w d=>by rw[fa];exact X6 rfl) ?_
 refine X2 (.pointer (some ((⟨b,0,none⟩:Addr).add 5))) (fun w d=>by rw[fa];exact X6 rfl) ?_
 refine X2 (.pointer (some ((⟨b,0,none⟩:Addr).add 6))) (fun w d=>by rw[fa];exact X6 rfl) ?_
 refine X2 pv (fun t w d e=>by rw[e];exact T2 (L 1 pv rfl d) (X6 rfl)) ?_
 refine Ra (Φ:=fun σ' v=>Sl 1 X7 σ' v m.params) (fun t w d e=>by rw[e];exact Wp d.sat A s1 fun O w' σ' s f=>Q0s d s f) ?_
 refine X2 o (fun t w d e=>by rw[e];exact T2 (L 5 o rfl d) (X6 rfl)) ?_
 refine Ra (Φ:=fun σ' v=>Sl 3 G9 σ' v m.code) (fun t w d e=>by rw[e];exact Dv d.sat z s2 fun O w' σ' s f=>Q0s d s f) ?_
 refine X2 f (fun t w d e=>by rw[e];exact T2 (L 6 f rfl d) (X6 rfl)) ?_
 refine X2 (.pointer (some ((⟨b,0,none⟩:Addr).add 1))) (fun w d=>by rw[fa];exact X6 rfl) ?_
 refine Ra (Φ:=fun σ' v=>Sl 4 Yo σ' v m.catches) (fun t w d e=>by rw[e];exact Du d.sat M s3 fun O w' σ' s f=>Q0s d s f) ?_
 rintro t1 t2 t3 t4 t5 t6 t8 t9 av u w3 aa e1 e2 e3 e4 ⟨σ5,Z,p⟩ e6 ⟨σ8,k8,r⟩ e9 E ⟨ap,D,k⟩
 subst E
 obtain ⟨σa,ka,N,C⟩:=Z.join k8
 obtain ⟨σ3,B,V,l2⟩:=ka.join D
 have p:=(p.lift N).lift V
 have r:=(r.lift C).lift V
 have k:=k.lift l2
 have a:=a.step B
 have c:=c.step B
 have n:b2≠b:=by omega
 have l:=(j.trans g).trans B
 refine Nz a (by simp) (Xx p) (K4 p) fun w4 U a=>?_
 rw[fa]
 have l:=U.stp l d a.1
 have c:=c.upd U n
 refine Nz a (by simp) (Xx r) (K4 r) fun w5 Q a=>?_
 rw[fa]
 have l:=Q.stp l d a.1
 have c:=c.upd Q n
 refine Nz a (by simp) (Xx k) (K4 k) fun w6 W a=>?_
 have l:=W.stp l d a.1
 have c:=c.upd W n
 refine Q8Q a rfl ?_
 have R:=M3.mk p r k g4 X g6
 have q:=Jh J j
 refine sta c rfl rfl (by rw[List.all_toArray];exact List.all_eq_true.2 (Rep.one R)) fun w7 u7 c=>?_
 have l:=u7.stp l q c.1
 refine W7 c rfl ?_
 exact h t5 t8 u w7 σ3 l R)
theorem X1g {c:Cla} {cs:List Value} (hs:X4 w σ) (hc:V4 σ c cs) (ap:Qr c)
 (h: ∀U R mv w' σ',Stp w σ w' σ'→V4 σ' c [S c.name,S c.super,U, .bool c.iface, .bool c.abs, .bool c.fin,R,mv]→K (.agg [S c.name,S c.super,U, .bool c.iface, .bool c.abs, .bool c.fin,R,mv].toArray) w'):Q0 P F.cx [.agg cs.toArray] w K:=Q5m (by
 obtain ⟨U,R,mv,rfl,g1,g2,W,g4,g5⟩:=hc
 obtain ⟨s1,s2,s3,s4⟩:=ap
 unfold Ta
 refine Q0r hs fun b w1 σ1 l r f=>?_
 refine P3 r.sat fun X w2 σ2 av o g=>?_
 have a8:=f.lt
 replace f:=f.step o
 have ai:=o.sat
 have g1:=(g1.up r).up o
 have g2:=(g2.up r).up o
 have W:=(W.up r).up o
 have L: ∀{w':World} (i:Nat) (v:Value),[S c.name,S c.super,U, .bool c.iface, .bool c.abs, .bool c.fin,R,mv][i]? =some v→Hst w2 σ2 w' σ2→w'.cell? ((⟨b,0,none⟩:Addr).add i)=some v:=fun i v V hh=>(f.step hh.stp).cell V
 refine V0 ai ?_
 refine X2 (.pointer (some ((⟨b,0,none⟩:Addr).add 2))) (fun w l=>by rw[fa];exact X6 rfl) ?_
 refine X2 (.pointer (some ((⟨b,0,none⟩:Addr).add 6))) (fun w l=>by rw[fa];exact X6 rfl) ?_
 refine X2 U (fun t w l e=>by rw[e];exact T2 (L 2 U rfl l) (X6 rfl)) ?_
 refine Ra (Φ:=fun σ' v=>Sl 1 X7 σ' v c.like) (fun t w l e=>by rw[e];exact Wp l.sat g1 s1 fun v' w' σ' H V=>Q0s l H V) ?_
 refine X2 R (fun t w l e=>by rw[e];exact T2 (L 6 R rfl l) (X6 rfl)) ?_
 refine X2 (.pointer (some ((⟨b,0,none⟩:Addr).add 2))) (fun w l=>by rw[fa];exact X6 rfl) ?_
 refine Ra (Φ:=fun σ' v=>Sl 3 H0 σ' v c.fields) (fun t w l e=>by rw[e];exact Ed l.sat g2 s2 fun v' w' σ' H V=>Q0s l H V) ?_
 rintro t6 t9 t7 t8 bv ba Y w3 a9 e6 e9 e7 ⟨σ8,k8,f8⟩ bm am ⟨bo,ao,z⟩
 subst am
 obtain ⟨σ3,k3,l1,l2⟩:=k8.join ao
 have f8:=f8.lift l1
 have z:=z.lift l2
 have W:=W.up k3
 have f:=f.step k3
 have g:=g.step k3
 have Q:X≠b:=by omega
 have hS:=(r.trans o).trans k3
 refine Nz f (by simp) (Xx f8) (K4 f8) fun w4 u4 f=>?_
 rw[fa]
 have hS:=u4.stp hS l f.1
 have g:=g.upd u4 Q
 refine Nz f (by simp) (Xx z) (K4 z) fun w5 u5 f=>?_
 rw[fa]
 have hS:=u5.stp hS l f.1
 have g:=g.upd u5 Q
 refine B6 f rfl ?_
 refine X0 W ?_
 refine E2 c.methods.length (fun n a w'=> ∃σ',Stp w σ w' σ'∧SLe σ3 σ'∧J1 w.heap.size T.d 7 M3 σ' w' a (c.methods.take n)∧Z7 σ' w' b [S c.name,S c.super,t8, .bool c.iface, .bool c.abs, .bool c.fin,Y,mv]∧Z7 σ' w' X [S [],S [], .slice none 0 0, .bool false, .bool false, .bool false, .slice none 0 0, .slice none 0 0]∧ ∀k,a.ownBlock=some k→k≠b∧k≠X)
  ⟨σ3,hS,SLe.refl _,J1.nil,f,g,fun k H=>by cases H⟩ fun n a w6 d hn hi=>?_
 obtain ⟨σ6,C,B,ha,f,g,j⟩:=hi
 refine Z3 ?_
 refine Q5 (fun hh=>?_) (fun hh=>?_)
 ·have u:n<c.methods.length:=by simpa using hh
  have aa:c.methods.length≤9223372036854775807:=by omega
  refine M7 (W.lift B) u fun p cs hl y hr=>?_
  refine Z1 C.sat hl y ?_
  refine Y6 C.sat (by rfl) y (Rep.one hr) fun q w7 σ7 m hq=>?_
  refine Z1 m.sat hq y ?_
  refine Q4X m.sat (Rep.up m.le hr) (s4 _ (List.getElem_mem u)) fun pv cv V w8 σ8 M an=>?_
  have J:=(Nxt.of_stp (D:=fun k=>a.ownBlock=some k) m).trans (Nxt.of_stp M)
  have aq:=(ha.up m).up M
  have a6:=(f.nx J fun e=>(j _ e).1 rfl).lt
  have a1:=(g.nx J fun e=>(j _ e).2 rfl).lt
  refine Vd ((C.trans m).trans M) aq an rfl rfl rfl (by rw[List.length_take];omega) (by rw[List.length_take];omega) fun s v' w9 σ9 A ar ah hat=>?_
  refine E5 ?_
  have A:=J.trans A
  refine J0 aa u ⟨σ9,ar,B.more A.le,?_,f.nx A fun e=>(j _ e).1 rfl,g.nx A fun e=>(j _ e).2 rfl,?_⟩
  ·rw[List.take_add_one,List.getElem?_eq_getElem u];exact ah
  ·intro k H
   rcases hat with hat | hat
   ·exact j k (hat▸H)
   ·have:=hat k H
    constructor<;>omega
 ·have u: ¬n<c.methods.length:=by simpa using hh
  rw[List.take_of_length_le (by omega)] at ha
  obtain ⟨σ7,O,N,ab,E⟩:=ha.keep C
  have f:Z7 σ7 w6 b _:=⟨(E b fun e=>(j b e.symm).1 rfl).trans f.1,f.2⟩
  have g:Z7 σ7 w6 X _:=⟨(E X fun e=>(j X e.symm).2 rfl).trans g.1,g.2⟩
  rw[fa]
  refine Nz f (by simp) (Xx N) (K4 N) fun w7 u7 f=>?_
  have O:=u7.stp O l f.1
  have g:=g.upd u7 Q
  refine Q8Q f rfl ?_
  have hr:=V4.mk (f8.lift (B.more ⟨ab⟩)) (z.lift (B.more ⟨ab⟩)) N g4 g5
  have Z:=Jh av r
  refine sta g rfl rfl (by rw[List.all_toArray];exact List.all_eq_true.2 (Rep.one hr)) fun w8 u8 g=>?_
  have ak:=u8.stp O Z g.1
  refine W7 g rfl ?_
  exact h t8 Y a w8 σ7 ak hr)
end Go.Proofs.YtfppjenblllfaaaGreatDoor

namespace Go.Hm
open Go.Kd
def R0 {α:Type}:Nat→List α→List α
 | 0,xs=>xs
 | i+1,xs=>match (R0 i xs)[i]?,(R0 i xs)[xs.length-1-i]? with
  | some a,some b=>((R0 i xs).set i b).set (xs.length-1-i) a
  | _,_=>R0 i xs
theorem Q0j {α:Type} (xs:List α): ∀i,2*i≤xs.length→(R0 i xs).length=xs.length∧ ∀k,k<xs.length→(R0 i xs)[k]? =if k<i∨xs.length-1-k<i then xs[xs.length-1-k]? else xs[k]?
 | 0,_=>⟨rfl,fun k g=>by simp[R0]⟩
 | i+1,h=>by
  obtain ⟨j,b⟩:=Q0j xs i (by omega)
  have e:=b i (by omega)
  have f:=b (xs.length-1-i) (by omega)
  rw[if_neg (by omega)] at e f
  have n:i<xs.length:=by omega
  have c:xs.length-1-i<xs.length:=by omega
  rw[List.getElem?_eq_getElem (l:=xs) n] at e
  rw[List.getElem?_eq_getElem (l:=xs) c] at f
  simp only[R0,e,f]
  refine ⟨by simp[j],fun k g=>?_⟩
  by_cases a:k=xs.length-1-i
  ·subst a
   rw[List.getElem?_set_self (by simp[j];omega),if_pos (by omega)]
   rw[show xs.length-1-(xs.length-1-i)=i by omega,List.getElem?_eq_getElem (by omega)]
  ·rw[List.getElem?_set_ne (by omega)]
   by_cases d:k=i
   ·subst d
    rw[List.getElem?_set_self (by omega),if_pos (by omega),List.getElem?_eq_getElem (by omega)]
   ·rw[List.getElem?_set_ne (by omega),b k g]
    by_cases m:k<i∨xs.length-1-k<i
    ·rw[if_pos m,if_pos (by omega)]
    ·rw[if_neg m,if_neg (by omega)]
theorem X03 {α:Type} (xs:List α) (i:Nat) (d:2*i≤xs.length) (f:xs.length≤2*i+1):R0 i xs=xs.reverse:=by
 obtain ⟨e,c⟩:=Q0j xs i d
 apply List.ext_getElem?
 intro k
 by_cases a:k<xs.length
 ·rw[c k a,List.getElem?_reverse a]
  by_cases b:k<i∨xs.length-1-k<i
  ·rw[if_pos b]
  ·rw[if_neg b];congr 1;omega
 ·rw[List.getElem?_eq_none (by omega),List.getElem?_eq_none (by simp;omega)]
theorem Kc (L:Ur): ∀(f:Nat) (n:Q8),(F3 L f n).length≤f
 | 0,_=>by simp[F3]
 | f+1,n=>by
  simp only[F3]
  split
  ·simp
  ·have:=Kc L f (by rename_i c _;exact c.super)
   simp only[List.length_cons];rename_i c _;have:=Kc L f c.super;omega
theorem Bb (l:List Cla) (n:Q8):(chain l n).length≤l.length+1:=Kc _ _ _
theorem Ct {l:List Cla} {n:Q8} {c:Cla} (h:c∈chain l n):c∈l:=by
 have key: ∀(f:Nat) (n:Q8),c∈F3 (lk l) f n→c∈l:=by
  intro f
  induction f with
  | zero=>intro n h;simp[F3] at h
  | succ f a=>
   intro n h
   simp only[F3] at h
   split at h
   ·simp at h
   ·rename_i d b
    rcases List.mem_cons.1 h with rfl | h
    ·exact (V2 b).2.1
    ·exact a _ h
 exact key _ _ h
theorem Va {α β:Type} (f:α→List β) (k:Nat): ∀(xs:List α),(∀x∈xs,(f x).length≤k)→(xs.flatMap f).length≤xs.length*k
 | [],_=>by simp
 | x::r,h=>by
  have c:=h x (by simp)
  have b:=Va f k r fun y a=>h y (by simp[a])
  simp only[List.flatMap_cons,List.length_append,List.length_cons,Nat.add_mul];omega
end Go.Hm

namespace Go.Hm
open Go.Kd
def Y3 (l:List Cla) (i:Nat):Q8:=(l.getD i Cla.zero).name
theorem Xu {l:List Cla} (b:K7 l) {i:Nat} (a:i<l.length):lk l (Y3 l i)=some (l.getD i Cla.zero):=by
 have e:l.getD i Cla.zero=l[i]:=by rw[List.getD_eq_getElem?_getD,List.getElem?_eq_getElem a];rfl
 unfold Y3
 rw[e];exact b.lk (List.getElem_mem a)
theorem C8 {l:List Cla} {u:Q8} {j:Nat} (h:Y7 l u=some j):j<l.length∧Y3 l j=u:=by
 obtain ⟨a,b,_⟩:=List.findIdx?_eq_some_iff_getElem.1 h
 refine ⟨a,?_⟩
 unfold Y3
 rw[List.getD_eq_getElem?_getD,List.getElem?_eq_getElem a]
 simpa using b
theorem Q1o {l:List Cla} (e:Zf l) (b:K7 l) {i j:Nat} (g:i<l.length) {u:Q8} (d:u∈U2 (l.getD i Cla.zero)) (a:Y7 l u=some j):I7 l (Y3 l j)<I7 l (Y3 l i):=by
 obtain ⟨c,f,_⟩:=Jv a
 rw[(C8 a).2]
 exact Yw e (Xu b g) d f
theorem Bz {α β:Type} {f g:β→α→β}: ∀(xs:List α) (b:β),(∀b x,x∈xs→f b x=g b x)→xs.foldl f b=xs.foldl g b
 | [],_,_=>rfl
 | x::r,b,h=>by
  rw[List.foldl_cons,List.foldl_cons,h b x (by simp)]
  exact Bz r _ fun b y a=>h b y (by simp[a])
theorem Yh {l:List Cla} {frm:Nat} (f:Nat) (out:List Nat) {i:Nat} (h:i<frm):P2 l frm f out i=out:=by
 cases f<;>simp[P2,h]
theorem Q9P {l:List Cla} (o:Zf l) (d:K7 l) {frm:Nat} (a:0<frm): ∀(f g:Nat) (out:List Nat) (i:Nat),i<l.length→I7 l (Y3 l i)<f→I7 l (Y3 l i)<g→P2 l frm f out i=P2 l frm g out i:=by
 intro f
 induction f with
 | zero=>intro g out i _ h;omega
 | succ f k=>
  intro g out i n p q
  obtain ⟨g,rfl⟩: ∃m,g=m+1:=⟨g-1,by omega⟩
  simp only[P2]
  split
  ·rfl
  ·split
   ·rfl
   ·congr 1
    refine Bz _ _ fun b u e=>?_
    cases c:Y7 l u with
    | none=>simp only[Option.getD_none];rw[Yh f b a,Yh g b a]
    | some j=>
     simp only[Option.getD_some]
     have:=Q1o o d n e c
     exact k g b j (C8 c).1 (by omega) (by omega)
def Xf (l:List Cla) (frm:Nat) (out:List Nat) (i:Nat):List Nat:=P2 l frm (l.length+1) out i
theorem Q89 {l:List Cla} (e:Zf l) (d:K7 l) {frm:Nat} (a:0<frm) (out:List Nat) {i:Nat} (g:i<l.length):Xf l frm out i=if i<frm then out else if i∈out then out else
 ((U2 (l.getD i Cla.zero)).foldl (fun out n=>Xf l frm out ((Y7 l n).getD 0)) out)++[i]:=by
 have h:=Q1i l (Y3 l i)
 unfold Xf
 rw[P2]
 split
 ·rfl
 ·split
  ·rfl
  ·congr 1
   refine Bz _ _ fun b u f=>?_
   cases c:Y7 l u with
   | none=>simp only[Option.getD_none];rw[Yh _ b a,Yh _ b a]
   | some j=>
    simp only[Option.getD_some]
    have:=Q1o e d g f c
    exact Q9P e d a _ _ b j (C8 c).1 (by omega) (by omega)
theorem Wv {α:Type} {p:Nat→Prop} {f:List Nat→α→List Nat}: ∀(xs:List α) (b:List Nat),(∀b x,x∈xs→ ∀y∈f b x,y∈b∨p y)→ ∀y∈xs.foldl f b,y∈b∨p y
 | [],b,_=>fun y a=> .inl a
 | x::r,b,h=>fun y a=>by
  rw[List.foldl_cons] at a
  rcases Wv r _ (fun b z c=>h b z (by simp[c])) y a with h1 | h1
  ·exact h b x (by simp) y h1
  ·exact .inr h1
theorem Q6X {l:List Cla} (k:K7 l) {frm:Nat} (q:0<frm): ∀(f:Nat) (out:List Nat) (i:Nat),i<l.length→ ∀y∈P2 l frm f out i,y∈out∨(y<l.length∧(y=i∨Vz (lk l) (Y3 l i) (Y3 l y))):=by
 intro f
 induction f with
 | zero=>intro out i _ y hy;exact .inl hy
 | succ f o=>
  intro out i g y hy
  simp only[P2] at hy
  split at hy
  ·exact .inl hy
  ·split at hy
   ·exact .inl hy
   ·rcases List.mem_append.1 hy with hy | hy
    ·refine Wv (p:=fun y=>y<l.length∧(y=i∨Vz (lk l) (Y3 l i) (Y3 l y))) _ _ (fun b u m y hy=>?_) y hy
     cases d:Y7 l u with
     | none=>
      rw[d] at hy
      simp only[Option.getD_none] at hy
      rw[Yh f b q] at hy
      exact .inl hy
     | some j=>
      rw[d] at hy
      simp only[Option.getD_some] at hy
      obtain ⟨e,a⟩:=C8 d
      obtain ⟨c,r,_⟩:=Jv d
      rcases o b j e y hy with h | ⟨n,rfl | h2⟩
      ·exact .inl h
      ·exact .inr ⟨n, .inr ⟨_,Xu k g,u,m,by rw[a];exact .refl r⟩⟩
      ·exact .inr ⟨n, .inr ⟨_,Xu k g,u,m,by rw[←a];exact h2.reach⟩⟩
    ·simp at hy;subst hy;exact .inr ⟨g, .inl rfl⟩
theorem Q3n {α:Type} {q:List Nat→Prop} {f:List Nat→α→List Nat}: ∀(xs:List α) (b:List Nat),(∀b x,x∈xs→q b→q (f b x))→q b→q (xs.foldl f b)
 | [],b,_,h=>h
 | x::r,b,a,h=>by
  rw[List.foldl_cons]
  exact Q3n r _ (fun b z c=>a b z (by simp[c])) (a b x (by simp) h)
def Few (l:List Cla) (out:List Nat):Prop:=out.Nodup∧ ∀y∈out,y<l.length
theorem Few.len {l:List Cla} {out:List Nat} (h:Few l out):out.length≤l.length:=by
 have key: ∀(n:Nat) (out:List Nat),out.Nodup→(∀y∈out,y<n)→out.length≤n:=by
  intro n
  induction n with
  | zero=>
   intro out _ h
   cases out with
   | nil=>simp
   | cons a r=>have:=h a (by simp);omega
  | succ n f=>
   intro out d h
   have g:=f (out.filter (fun y=> !decide (y=n))) (d.sublist List.filter_sublist) (fun y c=>by
    have:=List.mem_filter.1 c
    have k:=h y this.1
    have m:y≠n:=by simpa using this.2
    omega)
   have k:out.length≤(out.filter (fun y=> !decide (y=n))).length+1:=by
    clear g h
    induction out with
    | nil=>simp
    | cons a r b=>
     obtain ⟨i,j⟩:=List.nodup_cons.1 d
     by_cases e:a=n
     ·subst e
      have:r.filter (fun y=> !decide (y=a))=r:=List.filter_eq_self.2 fun y c=>by simp;rintro rfl;exact i c
      simp[this]
     ·have:=b j
      simp[e];exact this
   omega
 exact key _ _ h.1 h.2
theorem Iz {l:List Cla} (v:Zf l) (m:K7 l) {frm:Nat} (q:0<frm): ∀(f:Nat) (out:List Nat) (i:Nat),i<l.length→Few l out→Few l (P2 l frm f out i):=by
 intro f
 induction f with
 | zero=>intro out i _ h;exact h
 | succ f A=>
  intro out i w h
  simp only[P2]
  split
  ·exact h
  ·split
   ·exact h
   ·rename_i t
    have z:Few l ((U2 (l.getD i Cla.zero)).foldl (fun out n=>P2 l frm f out ((Y7 l n).getD 0)) out):=by
     refine Q3n _ _ (fun b u o k=>?_) h
     cases d:Y7 l u with
     | none=>simp only[Option.getD_none];rw[Yh f b q];exact k
     | some j=>exact A b j (C8 d).1 k
    have s:i∉(U2 (l.getD i Cla.zero)).foldl (fun out n=>P2 l frm f out ((Y7 l n).getD 0)) out:=by
     intro g
     rcases Wv (p:=fun y=>Vz (lk l) (Y3 l i) (Y3 l y)) _ _ (fun b u o y hy=>by
      cases d:Y7 l u with
      | none=>
       rw[d] at hy
       simp only[Option.getD_none] at hy
       rw[Yh f b q] at hy
       exact .inl hy
      | some j=>
       rw[d] at hy
       simp only[Option.getD_some] at hy
       obtain ⟨r,e⟩:=C8 d
       obtain ⟨c,B,_⟩:=Jv d
       rcases Q6X m q f b j r y hy with h | ⟨h1,rfl | h2⟩
       ·exact .inl h
       ·exact .inr ⟨_,Xu m w,u,o,by rw[e];exact .refl B⟩
       ·exact .inr ⟨_,Xu m w,u,o,by rw[←e];exact h2.reach⟩) i g with h1 | h1
     ·exact t h1
     ·exact v _ h1
    refine ⟨?_,fun y hy=>?_⟩
    ·rw[List.nodup_append]
     exact ⟨z.1,by simp,by rintro a v b k rfl;simp at k;subst k;exact s v⟩
    ·rcases List.mem_append.1 hy with hy | hy
     ·exact z.2 y hy
     ·simp at hy;omega
end Go.Hm

namespace Go.Emb
open Go.RowKit Go.Hm
variable {P : Program} {w w0 w1 w' w'' : World} {K : Value → World → Prop} {σ σ0 σ1 σ' : Q4}
def elA (sz:Nat) (v:Value) (i:Nat):Addr:=match v with
 | .slice (some b) _ _=>b.add (i*sz)
 | _=>⟨0,0,none⟩
section
variable {α : Type} {R : Q4 → α → List Value → Prop} {sz : Nat} {v : Value} {xs : List α}
theorem Sl.el (h:Sl sz R σ v xs) {i:Nat} (j:i<xs.length): ∃cs,Z2 σ (elA sz v i) cs∧cs.length=sz∧R σ xs[i] cs:=by
 obtain ⟨a,f,rfl,l,m,g,k⟩:=h
 cases a with
 | none=>have:=g rfl;omega
 | some b=>
  obtain ⟨cs,c,d,e⟩:=(k b rfl).2 i xs[i] (by simp[j])
  exact ⟨cs,c,d,e⟩
theorem U9 {t e:TypeId} {by_:Nat} {z:Value} [TS P t e] [TZ P e sz by_ z] (h:Sl sz R σ v xs) {i:Nat} (k:i<xs.length) (d:K (.pointer (some (elA sz v i))) w):indexAddr P t v (I i) w K:=by
 obtain ⟨a,c,rfl,g,j,f,l⟩:=h
 cases a with
 | none=>have:=f rfl;omega
 | some b=>
  rw[Rz (by omega) (by omega)]
  simpa [elA] using d
theorem Sl.elS {xs:List Kd.Q8} (h:Sl 1 X7 σ v xs) {i:Nat} (b:i<xs.length):Z2 σ (elA 1 v i) [S xs[i]]∧xs[i].length≤Y9:=by
 obtain ⟨cs,c,d,rfl,a⟩:=h.el b;exact ⟨c,a⟩
theorem Sl.elF {xs:List Fld} (h:Sl 3 H0 σ v xs) {i:Nat} (b:i<xs.length):Z2 σ (elA 3 v i) [S xs[i].name,S xs[i].kind, .bool xs[i].tr]∧H0 σ xs[i] [S xs[i].name,S xs[i].kind, .bool xs[i].tr]:=by
 obtain ⟨cs,c,d,rfl,a⟩:=h.el b;exact ⟨c,rfl,a⟩
theorem Sl.elI {xs:List Ins} (h:Sl 3 G9 σ v xs) {i:Nat} (b:i<xs.length):Z2 σ (elA 3 v i) [S xs[i].op,I xs[i].n,S xs[i].s]∧G9 σ xs[i] [S xs[i].op,I xs[i].n,S xs[i].s]:=by
 obtain ⟨cs,c,d,rfl,a⟩:=h.el b;exact ⟨c,rfl,a⟩
theorem Sl.elK {xs:List Cat} (h:Sl 4 Yo σ v xs) {i:Nat} (b:i<xs.length):Z2 σ (elA 4 v i) [I xs[i].frm,I xs[i].to,I xs[i].at_,S xs[i].cls]∧Yo σ xs[i] [I xs[i].frm,I xs[i].to,I xs[i].at_,S xs[i].cls]:=by
 obtain ⟨cs,c,d,rfl,a⟩:=h.el b;exact ⟨c,rfl,a⟩
theorem Sl.conv {α β:Type} {R:Q4→α→List Value→Prop} {k:Q4→β→List Value→Prop} {sz:Nat} {v:Value} {xs:List α} {ys:List β} (h:Sl sz R σ v xs) (e:ys.length=xs.length) (m: ∀i (f:i<xs.length) (u:i<ys.length) cs,R σ xs[i] cs→k σ ys[i] cs):Sl sz k σ v ys:=by
 obtain ⟨a,d,rfl,s,r,l,g⟩:=h
 refine ⟨a,d,by rw[e],by rw[e];exact s,r,l,fun b j=>⟨fun t=>(g b j).1 (by omega),fun i x p=>?_⟩⟩
 obtain ⟨f,rfl⟩:=List.getElem?_eq_some_iff.1 p
 have c:i<xs.length:=by omega
 obtain ⟨cs,q,n,o⟩:=(g b j).2 i xs[i] (List.getElem?_eq_getElem c)
 exact ⟨cs,q,n,m i c f cs o⟩
theorem Sl.elM {xs:List Hm.Met} (h:Sl 7 M3 σ v xs) {i:Nat} (d:i<xs.length): ∃pv b a,Z2 σ (elA 7 v i) [S xs[i].name,pv,S xs[i].result, .bool xs[i].abs,I xs[i].locals,b,a]∧M3 σ xs[i] [S xs[i].name,pv,S xs[i].result, .bool xs[i].abs,I xs[i].locals,b,a]:=by
 obtain ⟨cs,e,f,pv,b,a,rfl,c⟩:=h.el d;exact ⟨pv,b,a,e,pv,b,a,rfl,c⟩
theorem Sl.elC {xs:List Cla} (h:Sl 8 V4 σ v xs) {i:Nat} (d:i<xs.length): ∃b a mv,Z2 σ (elA 8 v i) [S xs[i].name,S xs[i].super,b, .bool xs[i].iface, .bool xs[i].abs, .bool xs[i].fin,a,mv]∧V4 σ xs[i] [S xs[i].name,S xs[i].super,b, .bool xs[i].iface, .bool xs[i].abs, .bool xs[i].fin,a,mv]:=by
 obtain ⟨cs,e,f,b,a,mv,rfl,c⟩:=h.el d;exact ⟨b,a,mv,e,b,a,mv,rfl,c⟩
end
theorem J3 {b:World→World→Prop} {A a:(Value→World→Prop)→Prop} {V:Value} (h:A (fun v _=>V=v)) (c:a (fun v _=>V=v)):Q6 b A a:=L3 _ (fun _ _ _ h _=>h) h c
theorem Y1 {v V:Value} (h:V=v):dk (fun w w'=>Below w.heap.size w w') (fun v _=>V=v) w v w:=⟨Below.refl _ _,h⟩
theorem Ud {v V:Value} (a:Below w.heap.size w w') (h:V=v):dk (fun w w'=>Below w.heap.size w w') (fun v _=>V=v) w v w':=⟨a,h⟩
theorem Lx {c b:Bool} {V:Value} {a:World→(Value→World→Prop)→Prop} (h:c=b→a w (dk (fun w w'=>Below w.heap.size w w') (fun v _=>V=v) w)):Q1 (.bool c) b w a (dk (fun w w'=>Below w.heap.size w w') (fun v _=>(if c=b then V else undef)=v) w):=by
 by_cases e:c=b
 ·simp only[e,if_true]
  subst e
  have:=h rfl
  cases c
  ·rw[N6];exact this
  ·rw[L4];exact this
 ·have d:c= !b:=by cases c<;>cases b<;>simp_all
  rw[if_neg e];subst d
  cases b
  ·rw[Bool.not_false,G6];exact ⟨Below.refl _ _,rfl⟩
  ·rw[Bool.not_true,E8];exact ⟨Below.refl _ _,rfl⟩
theorem Xt {p:Prop} (hq:p:=by intros;(repeat (rename_i hx;subst hx));(repeat' (first | (with_reducible exact Y1 rfl) | (with_reducible exact Ud (Stp.bel (by (repeat (first | exact Stp.refl (by (first | assumption | exact Stp.sat (by assumption) | exact Hst.sat (by assumption))) | assumption | refine Stp.trans ?_ (by first | assumption | exact Hst.stp (by assumption)))))) rfl) | (with_reducible intro _) | (simp only[↓M2,M2,Mb,reduceIte]) | (with_reducible show Q2 _ _ _ _ _;first | refine Y0 aS aL aR ?_ | refine Z1 aS aL aR ?_ | refine ld aS aL aR ?_) | (with_reducible show indexAddr _ _ _ _ _ _;refine U9 aL au ?_) | (with_reducible show X5 _ _ _ _ _ _ _ _;refine X0 aL ?_) | (with_reducible show Ww _ _ _ _ _ _;refine V6 aR ?_) | (with_reducible show pick _ _ _ _ _ _;refine Vc ?_) | (apply Lx;intro hh;(try simp only[hh,reduceIte,↓M2,M2,Mb,reduceIte]))));done):p:=hq
end Go.Emb

namespace Go.Emb
open Go.RowKit Go.Hm
variable {P : Program} {w w0 w1 w' w'' : World} {K : Value → World → Prop} {σ σ0 σ1 σ' : Q4}
section
variable {α : Type} {R : Q4 → α → List Value → Prop} {B sz : Nat} {e : TypeId} {v u : Value} {xs ys : List α}
def Emp (v:Value):Prop:= ∃a,v= .slice a 0 0
theorem X3w {t ty:TypeId} {by_:Nat} {z:Value} {cs:List Bool} [ts:TS P t e] [tz:TZ P e sz by_ z] [hr:Rep R] (X:Stp w0 σ0 w σ) (ha:J1 w0.heap.size e sz R σ w v []) (hv:Emp v) (C:X4 w σ') (Q:Sl sz R σ' u ys) (hR: ∀x cs,R σ' x cs→R σ x cs) (O:(z.cells.size==sz&&decide (0<sz))=true)
 (hb:ys.length*by_≤140737488355328) (hm:ys.length≤1000000000000)
 (h: ∀j w',Stp w σ w' σ→J1 w0.heap.size e sz R σ w' j ys→K j w'):X5 P .append [t,t] ty cs [v,u] w K:=by
 obtain ⟨l,rfl⟩:=hv
 have J:=X.sat
 obtain ⟨a,d,c,rfl,n1,p,n3,n4,n5⟩:=Q.cells C
 obtain ⟨i,V,y,H,n⟩:=tz.info
 simp only[Bool.and_eq_true,beq_iff_eq,decide_eq_true_eq] at O
 obtain ⟨L,ak⟩:=O
 have g:Src P i.size t (.slice a ys.length d) ys.length c w:=by
  cases a with
  | some b=>exact Src.ofSlice w ts.h b ys.length d c (by rw[y];exact p) (n3 b rfl) n4
  | none=>
   have r:ys.length=0:=by
    obtain ⟨Y,W,e',q1,_,q3,_⟩:=Q;injection e' with e1 e2 e3;have:=n1 rfl;omega
   have E:c=[]:=List.eq_nil_of_length_eq_zero (by rw[p,r];simp)
   subst E
   rw[r];exact Src.ofNil w ts.h d
 have q: ∀j w',(Builtin.append_ #[t,t] ty #[.slice l 0 0, .slice a ys.length d]).run P w= .ok j w'→Stp w σ w' σ→J1 w0.heap.size e sz R σ w' j ys→X5 P .append [t,t] ty cs [.slice l 0 0, .slice a ys.length d] w K:=by
  intro j w' f N hq
  have o:(builtin .append #[t,t] ty cs.toArray #[.slice l 0 0, .slice a ys.length d]).run P w= .ok (.value j) w':=by
   simp[builtin,f]
  unfold X5
  rw[Qj];unfold P7
  rw[o]
  exact h j w' N hq
 by_cases r:ys=[]
 ·subst r
  have E:c=[]:=List.eq_nil_of_length_eq_zero (by simpa using p)
  subst E
  refine q (.slice l 0 0) w ?_ (Stp.refl J) ha
  have U:=g.len w
  have s:=g.cells
  simp only[List.length_nil] at U s⊢
  cases l<;>simp[Builtin.append_,run_underlying ts.h,sizeOf,typeInfo,V,U,s,storeCells]
 ·have aa:0<ys.length:=List.length_pos_iff.2 r
  have m:(Builtin.firstCells i.size 0 (.slice l 0 0)).run P w.drew= .ok (#[]:Array Value) w.drew:=by
   cases l with
   | none=>exact run_firstCells_none w.drew i.size 0 0 0
   | some Y=>exact run_firstCells_some w.drew i.size 0 Y 0 0 [] (by simp) (by intro _ _ h';simp at h')
  have Z:0<0+ys.length:=by omega
  have f:=run_append_grow_src (P:=P) w t t ty e i z ts.h V n l 0 0 [] m (.slice a ys.length d) ys.length c g Z (by omega) (growslice_fits Z (by rw[H,Nat.zero_add];exact hb))
  simp only[Nat.zero_add] at f
  have M:=grownCap_le_maxLen w ys.length 0 e (by simp only[maxLen];omega)
  have D:=grownCap_ge w ys.length 0 e
  refine q _ _ f (Stp.of_below J ((Below.refl _ _).drew.alloc (Nat.le_refl _) _)) ⟨c,⟨p, .inr ⟨w.heap.size,_,_,rfl,X.bel.size,heap_alloc_new w.drew _,D,M,?_,?_⟩⟩,?_,fun i x hx=>hR _ _ (n5 i x hx)⟩
  ·simp only[List.nil_append]
   rw[Array.size_append,List.size_toArray,p,size_zeroCells,L,←Nat.add_mul]
   congr 1;omega
  ·simp only[List.nil_append]
   rw[Array.toList_append]
   rw[List.take_append_of_le_length (by simp only[List.toList_toArray];omega),List.take_of_length_le (by simp only[List.toList_toArray];omega)]
  ·intro k N;cases N;exact J.none (Nat.le_refl _)
end
def X1R {α:Type} (w0:World) (σ:Q4) (e:TypeId) (sz:Nat) (R:Q4→α→List Value→Prop) (xs:List α) (v:Value) (w':World):Prop:=Stp w0 σ w' σ∧J1 w0.heap.size e sz R σ w' v xs
def Q91 {α:Type} (w0:World) (σ:Q4) (e:TypeId) (sz:Nat) (R:Q4→α→List Value→Prop) (v:Value) (w':World):Prop:=Stp w0 σ w' σ∧J1 w0.heap.size e sz R σ w' v ([]:List α)∧Emp v
section
variable {α : Type} {R : Q4 → α → List Value → Prop} {sz : Nat} {e : TypeId} {v u : Value} {xs ys : List α} {A rest : (Value → World → Prop) → Prop}
theorem Q1s [Rep R] (xs:List α) (h:A (X1R w σ e sz R xs)) (c:rest (X1R w σ e sz R xs)):Q6 (fun w w'=>Below w.heap.size w w') A rest:=
 L3 _ (fun _ _ _ ⟨a,d⟩ b=>⟨a.trans (Stp.of_below a.sat b),d.up (Stp.of_below a.sat b)⟩) h c
theorem X3g [Rep R] (h:A (Q91 w σ e sz R)) (d:rest (Q91 w σ e sz R)):Q6 (fun w w'=>Below w.heap.size w w') A rest:=
 L3 _ (fun _ _ _ ⟨a,f,c⟩ b=>⟨a.trans (Stp.of_below a.sat b),f.up (Stp.of_below a.sat b),c⟩) h d
theorem Q3p (a:Hst w σ w1 σ) (h:Stp w1 σ w' σ) (b:J1 w.heap.size e sz R σ w' v xs):dk (fun w w'=>Below w.heap.size w w') (X1R w σ e sz R xs) w1 v w':=⟨h.bel,a.stp.trans h,b⟩
theorem X3N (b:Hst w σ w1 σ) (h:Stp w1 σ w' σ) (c:J1 w.heap.size e sz R σ w' v ([]:List α)) (a:Emp v):dk (fun w w'=>Below w.heap.size w w') (Q91 w σ e sz R) w1 v w':=⟨h.bel,b.stp.trans h,c,a⟩
theorem Q0m {t:TypeId} {by_:Nat} {z:Value} [ts:TS P t e] [tz:TZ P e sz by_ z] (R:Q4→α→List Value→Prop) (b:Stp w0 σ0 w σ) (c:0<sz)
 (h: ∀v w',Stp w σ w' σ→J1 w0.heap.size e sz R σ w' v ([]:List α)→Emp v→K v w'):buildSlice P t 0 [] w K:=by
 obtain ⟨cells,f,g⟩:=Uu (P:=P) (t:=t) (sz:=sz) (e:=e) [] (by simp) (by simp) w
 unfold buildSlice
 have a:(Instr.buildSlice t 0 ([]:List (Nat×Value)).toArray).run P w=_:=f
 rw[Y2 a]
 refine h _ _ (Stp.own b.sat _) ⟨[],⟨by simp, .inr ⟨_,_,cells,rfl,b.bel.size,heap_alloc_new w _,by simp,by simp[maxLen],?_,by simp⟩⟩,?_,by simp⟩ ⟨_,rfl⟩
 ·have:cells.size=0:=by rw[←Array.length_toList,g];rfl
  simp[this]
 ·intro k d;cases d;exact b.sat.none (Nat.le_refl _)
theorem Q9y [Rep R] {t:TypeId} {by_:Nat} {z:Value} [ts:TS P t e] [tz:TZ P e sz by_ z] (a:(decide (0<sz))=true) (g:rest (Q91 w σ e sz R)):
 Q6 (fun w w'=>Below w.heap.size w w') (fun φ=> ∀w1:World,Hst w σ w1 σ→buildSlice P t 0 [] w1 (dk (fun w w'=>Below w.heap.size w w') φ w1)) rest:=
 X3g (fun w1 b=>Q0m R b.stp (by simpa using a) fun v w' d f c=>X3N b d f c) g
end
theorem V4.parts {c:Cla} {a b i d e f g mv:Value} (h:V4 σ c [a,b,i,d,e,f,g,mv]):Sl 1 X7 σ i c.like∧Sl 3 H0 σ g c.fields∧Sl 7 M3 σ mv c.methods∧c.name.length≤Y9∧c.super.length≤Y9:=by
 obtain ⟨_,_,_,j,k⟩:=h
 simp only[List.cons.injEq,and_true] at j
 obtain ⟨_,_,rfl,_,_,_,rfl,rfl⟩:=j
 exact k
theorem M3.parts {m:Hm.Met} {a pv b d e g c:Value} (h:M3 σ m [a,pv,b,d,e,g,c]):Sl 1 X7 σ pv m.params∧Sl 3 G9 σ g m.code∧Sl 4 Yo σ c m.catches∧m.name.length≤Y9∧m.result.length≤Y9∧Q0k m.locals:=by
 obtain ⟨_,_,_,f,i⟩:=h
 simp only[List.cons.injEq,and_true] at f
 obtain ⟨_,rfl,_,_,_,rfl,rfl⟩:=f
 exact i
end Go.Emb

namespace Go.Emb
open Go.RowKit
variable {P : Program} {w : World} {K : Value → World → Prop}
end Go.Emb
namespace Go.Proofs.YtfppjenblllfaaaGreatDoor
open Go.Emb Go.RowKit Go.Kd Go.Hm
variable {w : World} {K : Value → World → Prop} {σ : Q4}
end Go.Proofs.YtfppjenblllfaaaGreatDoor

namespace Go.Proofs.YtfppjenblllfaaaGreatDoor
open Go.Emb Go.RowKit Go.Kd
variable {w : World} {K : Value → World → Prop}
theorem X3f (a:List UInt8):(G2 a).1.length+(G2 a).2.1.length≤a.length:=by
 induction a with
 | nil=>simp[G2]
 | cons c r b=>
  simp only[G2]
  split
  ·simp
  ·simp only[List.length_cons];omega
theorem X30 {a:List UInt8} (h:L6 a=true):Kd.cutA a++[91,93]=a:=by
 simp only[L6,Bool.and_eq_true,decide_eq_true_eq] at h
 rw[←h.2,Kd.cutA,List.take_append_drop]
theorem Q1Q {a:List UInt8} (h:name a=true):L6 a=false:=by
 cases a with
 | nil=>rfl
 | cons c r=>
  cases b:L6 (c::r) with
  | false=>rfl
  | true=>
   exfalso
   simp only[name,Bool.and_eq_true,List.all_eq_true] at h
   have d:=X30 b
   have:(93:UInt8)∈(c::r):=by rw[←d];simp
   have:=h.2 _ this
   revert this;decide
theorem X0j {a:List UInt8} (h:name a=true):base a=(a,0):=by rw[Ju,Q1Q h];simp
theorem clas_name {a:List UInt8} (h:W9 a=true):name a=true∧right a=true∧plain a=false:=by
 cases a with
 | nil=>simp[W9] at h
 | cons c r=>
  have b:name (c::r)=true:=by simp only[W9,Bool.and_eq_true] at h;exact h.1
  refine ⟨b,?_,?_⟩
  ·rw[right,X0j b];simp[h]
  ·simp only[W9,Bool.and_eq_true] at h
   have d:=h.2
   simp only[plain,Bool.or_eq_false_iff,decide_eq_false_iff_not]
   refine ⟨⟨?_,?_⟩,?_⟩<;>intro e<;>injection e with f e2<;>subst f<;>revert d<;>decide
end Go.Proofs.YtfppjenblllfaaaGreatDoor

namespace Go.Emb
open Go.RowKit Go.Hm
section
variable {P : Program} {w w0 w1 w' w'' : World} {K : Value → World → Prop} {σ σ0 σ1 σ' : Q4}
theorem Q5o (a:Array Value) (n i:Nat) (d:i<n) (h:0<a.size):((madeCells a (n*a.size)).toList.drop (i*a.size)).take a.size=a.toList:=by
 have g:i*a.size+a.size≤n*a.size:=by rw[←Nat.succ_mul];exact Nat.mul_le_mul_right _ d
 refine List.ext_getElem (by simp[madeCells];omega) fun j k f=>?_
 have c:j<a.size:=by simpa using f
 simp only[List.getElem_take,List.getElem_drop,madeCells,Array.toList_map,List.getElem_map,Array.toList_range,List.getElem_range,Array.getElem_toList]
 have:(i*a.size+j) % a.size=j:=by rw[Nat.add_comm,Nat.add_mul_mod_self_right];exact Nat.mod_eq_of_lt c
 rw[this]
 simp[c]
theorem X4g {α:Type} {R:Q4→α→List Value→Prop} {t e:TypeId} {sz by_ n:Nat} {z:Value} [ts:TS P t e] [tz:TZ P e sz by_ z] (l:α) (s:X4 w σ) (A:z.cells.size=sz) (c:0<sz) (E:R σ l z.cells.toList) (H:n*sz≤16777216) (J:by_*n≤281474976710656)
 (h: ∀v w',Stp w σ w' σ→J1 w.heap.size e sz R σ w' v (List.replicate n l)→(∀k,v.ownBlock=some k→w.heap.size≤k)→K v w'):Dh P t (I n) (I n) w K:=by
 obtain ⟨i,D,d,m,a⟩:=tz.info
 have o:(i.bytes:Int)*(n:Int)≤281474976710656:=by
  rw[m]
  have:((by_*n:Nat):Int)≤281474976710656:=by omega
  rwa [Int.natCast_mul] at this
 have C:n≤16777216:=by
  have:n*1≤n*sz:=Nat.mul_le_mul_left _ c
  omega
 have g:=run_makeSlice (P:=P) w t e i z ts.h D a .i64 .i64 (n:Int) (n:Int) (by omega) (Int.le_refl _) (by rw[d];simp only[Int.toNat_natCast];omega) o (by omega)
 unfold Dh
 rw[Y2 g]
 simp only[Int.toNat_natCast,d]
 refine h _ _ (Stp.own s _) ⟨(madeCells z.cells (n*sz)).toList,⟨by simp[madeCells], .inr ⟨w.heap.size,n,madeCells z.cells (n*sz),?_,Nat.le_refl _,heap_alloc_new w _,?_,?_,?_,?_⟩⟩,?_,fun j x f=>?_⟩ ?_
 ·simp
 ·simp
 ·simp[maxLen];omega
 ·simp[madeCells]
 ·rw[List.take_of_length_le (by simp[madeCells])]
 ·intro k q;cases q;exact s.none (Nat.le_refl _)
 ·have r:j<n:=by have:=(List.getElem?_eq_some_iff.1 f).1;simpa using this
  have p:x=l:=by
   rw[List.getElem?_replicate] at f
   rw[if_pos r] at f
   exact (Option.some.inj f).symm
  subst p
  subst A
  rw[Q5o z.cells n j r c]
  exact E
 ·intro k q;cases q;exact Nat.le_refl _
end
section
variable {α : Type} {R : Q4 → α → List Value → Prop} {B sz : Nat} {e : TypeId} {v u : Value} {xs : List α} {w w' w0 : World} {σ σ' σ0 : Q4}
theorem J9.shiftR [hr:Rep R] (h:J9 B e sz R σ w v xs) (o:SLe σ σ') (m: ∀k,v.ownBlock=some k→σ' k=none):J9 B e sz R σ' w v xs:=by
 obtain ⟨a,l,rfl,t,D,c,C⟩:=h
 refine ⟨a,l,rfl,t,D,fun b d=>⟨(c b d).1,(c b d).2.1,(c b d).2.2.1,by subst d;exact m _ rfl⟩,fun r=>?_⟩
 obtain ⟨g,f,j,rfl,q,E,z,p,A⟩:=C r
 exact ⟨g,f,j,rfl,q,m g rfl,z,p,fun i x s=>hr.up o.le (A i x s)⟩
def X24 (w:World):World:={w with heap:= #[]}
theorem X1d (d:X4 w σ):Stp (X24 w) (fun _=>none) w σ:=
 ⟨⟨rfl,rfl,rfl,Nat.zero_le _,fun k c=>absurd c (Nat.not_lt_zero k)⟩,d,fun _ _ h=>(by cases h),fun b a=>absurd a (Nat.not_lt_zero b)⟩
theorem J9.freeze [hr:Rep R] (d:X4 w σ) (h:J9 B e sz R σ w v xs): ∃σ',X4 w σ'∧SLe σ σ'∧Sl sz R σ' v xs∧ ∀k,some k≠v.ownBlock→σ' k=σ k:=by
 obtain ⟨σ',f,g,a,c⟩:=(h.mono (Nat.zero_le B):J9 (X24 w).heap.size e sz R σ w v xs).keep (X1d d)
 exact ⟨σ',f.sat,a,g,c⟩
end
section
variable {P : Program} {w w0 w1 w' w'' : World} {K : Value → World → Prop} {σ σ0 σ1 σ' : Q4}
theorem Z2.tail {q:Addr} {xs ys:List Value} (h:Z2 σ q (xs++ys)):Z2 σ (q.add xs.length) ys:=by
 obtain ⟨f,a,e,z,g,d⟩:=h
 cases xs with
 | nil=>exact ⟨by simp[Addr.add,f],a,e,z,by simpa [Addr.add] using g,fun i u c=>by simpa [Addr.add] using d i u c⟩
 | cons x xs=>
  refine ⟨by simp[Addr.add,f],a,e,z,by simpa [Addr.add] using g,fun i u c=>?_⟩
  have:=d ((x::xs).length+i) u (by rw[List.getElem?_append_right (by omega)];simpa using c)
  simpa [Addr.add,Nat.add_assoc] using this
theorem J9.down {α:Type} {R:Q4→α→List Value→Prop} {B sz:Nat} {e:TypeId} {v:Value} {xs:List α} (h:J9 B e sz R σ' w v xs) (p:SLe σ σ') (H: ∀x cs,R σ' x cs→R σ x cs):J9 B e sz R σ w v xs:=by
 obtain ⟨a,l,rfl,A,L,c,E⟩:=h
 have m: ∀k,σ' k=none→σ k=none:=fun k J=>by
  cases e:σ k with
  | none=>rfl
  | some o=>have:=p.le k o e;rw[J] at this;cases this
 refine ⟨a,l,rfl,A,L,fun b d=>⟨(c b d).1,(c b d).2.1,(c b d).2.2.1,m _ (c b d).2.2.2⟩,fun s=>?_⟩
 obtain ⟨g,f,j,rfl,r,t,C,q,D⟩:=E s
 exact ⟨g,f,j,rfl,r,m _ t,C,q,fun i x z=>H _ _ (D i x z)⟩
end
section
variable {P : Program} {w w' w0 : World} {σ σ0 : Q4} {α : Type} {R : Q4 → α → List Value → Prop} {sz : Nat} {e : TypeId} {v u : Value} {xs : List α} {y : α}
end
end Go.Emb
namespace Go.Emb
open Go.RowKit Go.Hm
variable {P : Program} {w w0 w1 w' w'' : World} {K : Value → World → Prop} {σ σ0 σ1 σ' : Q4} {b n : Nat} {ds : List Value} {v V : Value}
structure VarT (b : Nat) (ds : List Value) (w w' : World) : Prop where
  kp : Kpt (fun j => j = b) w w'
  var : (b < w.heap.size → w'.heap[b]? = w.heap[b]?) ∨ ∃ e, w'.heap[b]? = some (.cells ds.toArray e (0, 0))
structure VarB (w0 : World) (σ0 : Q4) (w1 : World) (σ : Q4) (b n : Nat) (w' : World) : Prop where
  hst : Hst w0 σ0 w' σ
  kp : Kpt (fun j => j = b) w1 w'
  var : ∃ cs, cs.length = n ∧ Z7 σ w' b cs
theorem VarT.of_below (h:Below w.heap.size w w'):VarT b ds w w':=⟨.of_below h, .inl fun a=>h.block b a⟩
theorem VarT.of_upd (h:Upd w b w') (a:Z7 σ w' b ds):VarT b ds w w':=⟨.of_upd h rfl, .inr a.2⟩
theorem VarB.step (c:w0.heap.size≤b) (f:ds.length=n) (h:VarB w0 σ0 w1 σ b n w) (k:VarT b ds w w'):VarB w0 σ0 w1 σ b n w':=by
 obtain ⟨cs,g,a⟩:=h.var
 refine ⟨⟨h.hst.stp.kp k.kp fun j d=>by subst d;exact ⟨c,a.1⟩⟩,h.kp.trans k.kp,?_⟩
 rcases k.var with e | e
 ·exact ⟨cs,g,a.1,by rw[e a.lt];exact a.2⟩
 ·exact ⟨ds,f,a.1,e⟩
theorem X3H {A:(World→World→Prop)→(World→Prop)→Prop} (ds:List Value) {cs:List Value} (a:Stp w0 σ0 w σ) (c:w0.heap.size≤b) (d:Z7 σ w b cs) (g:cs.length=n) (f:ds.length=n)
 (h:A (VarT b ds) (VarB w0 σ0 w σ b n)):dr w A:=
 Q1G _ _ ⟨⟨a.trans (Stp.of_below a.sat (Below.refl _ _).drew)⟩, .of_below (Below.refl _ _).drew,cs,g,d⟩ (fun _ _ i j=>i.step c f j) h
theorem Ks (h:V=v):dk (VarT b ds) (fun v _=>V=v) w v w:=⟨.of_below (Below.refl _ _),h⟩
theorem X15 {t:TypeId} {by_:Nat} {z:Value} [tz:TZ P t n by_ z] {a:(List Value→Value→World→Prop)→Prop} {φ:Value→World→Prop} (i:ds.length=n) (l: ∀u∈ds,u.oneCell'=true) (g: ∀v w,φ v w→ .agg ds.toArray=v)
 (p:a (fun _ _ w=>Z7 σ w b ds)) (d:σ b=none):Q2N (VarT b ds) (fun F=> ∀x w,VarB w0 σ0 w1 σ b n w→φ x w→Z4 P t (.pointer (some ⟨b,0,none⟩)) x w (dk (VarT b ds) (F [x]) w)) a:=by
 refine Q8m _ (fun xs v w w' h k=>?_) (fun x w m j=>?_) p
 ·rcases k.var with e | e
  ·exact ⟨d,by rw[e h.lt];exact h.2⟩
  ·exact ⟨d,e⟩
 ·have:=g x w j
  subst this
  obtain ⟨cs,q,o⟩:=m.var
  exact sta o q i (by rw[List.all_toArray];exact List.all_eq_true.2 l) fun w' f c=>⟨.of_upd f c,c⟩
theorem VarB.hs (h:VarB w0 σ0 w1 σ b n w):Hst w0 σ0 w σ:=h.hst
end Go.Emb

namespace Go.Emb
open Go.RowKit Go.Hm
variable {P : Program} {w w' : World} {K : Value → World → Prop} {σ σ' : Q4}
end Go.Emb
