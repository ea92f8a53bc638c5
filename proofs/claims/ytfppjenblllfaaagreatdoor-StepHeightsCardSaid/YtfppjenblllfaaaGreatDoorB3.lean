/- Parts of a proof about the given program: its functions as texts of their own, what each computes, plain laws of that. The conditions of each stand in its statement. -/
import Derived.Test.YtfppjenblllfaaaGreatDoorB2
import Derived.Test.YtfppjenblllfaaaGreatDoorB1
import Derived.ChangeArms
import Derived.DataReads
import Derived.SizedLaws
import Derived.Deep.AppendSrc
import Derived.Laws.StructEq
import Derived.Laws.OwnMore
import Derived.Laws.CopyRow
set_option linter.unnecessarySimpa false
set_option linter.defProp false
set_option linter.unusedSectionVars false
set_option linter.unusedVariables false
set_option linter.unusedSimpArgs false
namespace Go.Proofs.YtfppjenblllfaaaGreatDoor
open Go.Emb
instance z_x:TZ P T.x 1 0 (.tuple #[]):=⟨by kernel_rfl⟩
instance g_x:TG P T.x false:=⟨by kernel_rfl⟩
instance z_int64:TZ P T.ad 1 8 (.int .i64 0):=⟨by kernel_rfl⟩
instance g_int64:TG P T.ad false:=⟨by kernel_rfl⟩
instance z_int:TZ P T.e 1 8 (.int .i64 0):=⟨by kernel_rfl⟩
instance g_int:TG P T.e false:=⟨by kernel_rfl⟩
instance z_bool:TZ P T.o 1 1 (.bool false):=⟨by kernel_rfl⟩
instance g_bool:TG P T.o false:=⟨by kernel_rfl⟩
instance z_uint8:TZ P T.y 1 1 (.int .u8 0):=⟨by kernel_rfl⟩
instance g_uint8:TG P T.y false:=⟨by kernel_rfl⟩
instance z_string:TZ P T.a 1 16 (.string ⟨#[]⟩):=⟨by kernel_rfl⟩
instance g_string:TG P T.a false:=⟨by kernel_rfl⟩
instance z_uintptr:TZ P T.ao 1 8 (.int .u64 0):=⟨by kernel_rfl⟩
instance g_uintptr:TG P T.ao false:=⟨by kernel_rfl⟩
instance z_int32:TZ P T.ah 1 4 (.int .i32 0):=⟨by kernel_rfl⟩
instance g_int32:TG P T.ah false:=⟨by kernel_rfl⟩
instance z_S_string:TZ P T.c 1 24 (.slice none 0 0):=⟨by kernel_rfl⟩
instance g_S_string:TG P T.c false:=⟨by kernel_rfl⟩
instance s_S_string:TS P T.c 9:=⟨by kernel_rfl⟩
instance z_api_Shape:TZ P T.f 3 56 (.agg #[.bool false, .slice none 0 0, .slice none 0 0]):=⟨by kernel_rfl⟩
instance g_api_Shape:TG P T.f true:=⟨by kernel_rfl⟩
instance f_api_Shape_0:TF P T.f 0 0 4:=⟨by kernel_rfl⟩
instance f_api_Shape_1:TF P T.f 1 1 22:=⟨by kernel_rfl⟩
instance f_api_Shape_2:TF P T.f 2 2 22:=⟨by kernel_rfl⟩
instance z_P_hier_Table:TZ P T.r 1 8 (.pointer none):=⟨by kernel_rfl⟩
instance g_P_hier_Table:TG P T.r false:=⟨by kernel_rfl⟩
instance z_S_api_Class:TZ P T.h 1 24 (.slice none 0 0):=⟨by kernel_rfl⟩
instance g_S_api_Class:TG P T.h false:=⟨by kernel_rfl⟩
instance s_S_api_Class:TS P T.h 82:=⟨by kernel_rfl⟩
instance z_api_Errno:TZ P T.s 1 8 (.int .i64 0):=⟨by kernel_rfl⟩
instance g_api_Errno:TG P T.s false:=⟨by kernel_rfl⟩
instance z_S_api_Instr:TZ P T.n 1 24 (.slice none 0 0):=⟨by kernel_rfl⟩
instance g_S_api_Instr:TG P T.n false:=⟨by kernel_rfl⟩
instance s_S_api_Instr:TS P T.n 42:=⟨by kernel_rfl⟩
instance z_S_api_Catch:TZ P T.q 1 24 (.slice none 0 0):=⟨by kernel_rfl⟩
instance g_S_api_Catch:TG P T.q false:=⟨by kernel_rfl⟩
instance s_S_api_Catch:TS P T.q 159:=⟨by kernel_rfl⟩
instance z_api_Method:TZ P T.d 7 120 (.agg #[.string ⟨#[]⟩, .slice none 0 0, .string ⟨#[]⟩, .bool false, .int .i64 0, .slice none 0 0, .slice none 0 0]):=⟨by kernel_rfl⟩
instance g_api_Method:TG P T.d true:=⟨by kernel_rfl⟩
instance f_api_Method_0:TF P T.d 0 0 9:=⟨by kernel_rfl⟩
instance f_api_Method_1:TF P T.d 1 1 22:=⟨by kernel_rfl⟩
instance f_api_Method_2:TF P T.d 2 2 9:=⟨by kernel_rfl⟩
instance f_api_Method_3:TF P T.d 3 3 4:=⟨by kernel_rfl⟩
instance f_api_Method_4:TF P T.d 4 4 3:=⟨by kernel_rfl⟩
instance f_api_Method_5:TF P T.d 5 5 37:=⟨by kernel_rfl⟩
instance f_api_Method_6:TF P T.d 6 6 38:=⟨by kernel_rfl⟩
instance z_api_Instr:TZ P T.k 3 40 (.agg #[.string ⟨#[]⟩, .int .i64 0, .string ⟨#[]⟩]):=⟨by kernel_rfl⟩
instance g_api_Instr:TG P T.k true:=⟨by kernel_rfl⟩
instance f_api_Instr_0:TF P T.k 0 0 9:=⟨by kernel_rfl⟩
instance f_api_Instr_1:TF P T.k 1 1 2:=⟨by kernel_rfl⟩
instance f_api_Instr_2:TF P T.k 2 2 9:=⟨by kernel_rfl⟩
instance z_A2_api_Shape:TZ P T.v 6 112 (.agg #[.bool false, .slice none 0 0, .slice none 0 0, .bool false, .slice none 0 0, .slice none 0 0]):=⟨by kernel_rfl⟩
instance g_A2_api_Shape:TG P T.v true:=⟨by kernel_rfl⟩
instance a_A2_api_Shape:TA P T.v 2 24:=⟨by kernel_rfl⟩
instance z_func_string_bool:TZ P T.z 1 8 .nilFunc:=⟨by kernel_rfl⟩
instance g_func_string_bool:TG P T.z false:=⟨by kernel_rfl⟩
instance z_S_int:TZ P T.a0 1 24 (.slice none 0 0):=⟨by kernel_rfl⟩
instance g_S_int:TG P T.a0 false:=⟨by kernel_rfl⟩
instance s_S_int:TS P T.a0 3:=⟨by kernel_rfl⟩
instance z_step_doer:TZ P T.m 15 232 (.agg #[.pointer none, .string ⟨#[]⟩, .slice none 0 0, .string ⟨#[]⟩, .bool false, .int .i64 0, .slice none 0 0, .slice none 0 0, .string ⟨#[]⟩, .int .i64 0, .string ⟨#[]⟩, .bool false, .slice none 0 0, .slice none 0 0, .int .i64 0]):=⟨by kernel_rfl⟩
instance g_step_doer:TG P T.m true:=⟨by kernel_rfl⟩
instance f_step_doer_0:TF P T.m 0 0 25:=⟨by kernel_rfl⟩
instance f_step_doer_1:TF P T.m 1 1 40:=⟨by kernel_rfl⟩
instance f_step_doer_2:TF P T.m 2 8 42:=⟨by kernel_rfl⟩
instance f_step_doer_3:TF P T.m 3 11 24:=⟨by kernel_rfl⟩
instance f_step_doer_4:TF P T.m 4 14 31:=⟨by kernel_rfl⟩
instance z_M_string_funcP_step_doer:TZ P T.j 1 8 (.map none):=⟨by kernel_rfl⟩
instance g_M_string_funcP_step_doer:TG P T.j false:=⟨by kernel_rfl⟩
instance m_M_string_funcP_step_doer:TM P T.j 9 69:=⟨by kernel_rfl⟩
instance z_M_string_int:TZ P T.w 1 8 (.map none):=⟨by kernel_rfl⟩
instance g_M_string_int:TG P T.w false:=⟨by kernel_rfl⟩
instance m_M_string_int:TM P T.w 9 3:=⟨by kernel_rfl⟩
instance z_hier_Table:TZ P T.u 2 32 (.agg #[.slice none 0 0, .map none]):=⟨by kernel_rfl⟩
instance g_hier_Table:TG P T.u true:=⟨by kernel_rfl⟩
instance f_hier_Table_0:TF P T.u 0 0 26:=⟨by kernel_rfl⟩
instance f_hier_Table_1:TF P T.u 1 1 76:=⟨by kernel_rfl⟩
instance z_S_api_Field:TZ P T.i 1 24 (.slice none 0 0):=⟨by kernel_rfl⟩
instance g_S_api_Field:TG P T.i false:=⟨by kernel_rfl⟩
instance s_S_api_Field:TS P T.i 89:=⟨by kernel_rfl⟩
instance z_S_api_Method:TZ P T.g 1 24 (.slice none 0 0):=⟨by kernel_rfl⟩
instance g_S_api_Method:TG P T.g false:=⟨by kernel_rfl⟩
instance s_S_api_Method:TS P T.g 40:=⟨by kernel_rfl⟩
instance z_api_Class:TZ P T.b 8 112 (.agg #[.string ⟨#[]⟩, .string ⟨#[]⟩, .slice none 0 0, .bool false, .bool false, .bool false, .slice none 0 0, .slice none 0 0]):=⟨by kernel_rfl⟩
instance g_api_Class:TG P T.b true:=⟨by kernel_rfl⟩
instance f_api_Class_0:TF P T.b 0 0 9:=⟨by kernel_rfl⟩
instance f_api_Class_1:TF P T.b 1 1 9:=⟨by kernel_rfl⟩
instance f_api_Class_2:TF P T.b 2 2 22:=⟨by kernel_rfl⟩
instance f_api_Class_3:TF P T.b 3 3 4:=⟨by kernel_rfl⟩
instance f_api_Class_4:TF P T.b 4 4 4:=⟨by kernel_rfl⟩
instance f_api_Class_5:TF P T.b 5 5 4:=⟨by kernel_rfl⟩
instance f_api_Class_6:TF P T.b 6 6 79:=⟨by kernel_rfl⟩
instance f_api_Class_7:TF P T.b 7 7 80:=⟨by kernel_rfl⟩
instance z_api_Field:TZ P T.l 3 40 (.agg #[.string ⟨#[]⟩, .string ⟨#[]⟩, .bool false]):=⟨by kernel_rfl⟩
instance g_api_Field:TG P T.l true:=⟨by kernel_rfl⟩
instance f_api_Field_0:TF P T.l 0 0 9:=⟨by kernel_rfl⟩
instance f_api_Field_1:TF P T.l 1 1 9:=⟨by kernel_rfl⟩
instance f_api_Field_2:TF P T.l 2 2 4:=⟨by kernel_rfl⟩
instance z_S_S_bool:TZ P T.a2 1 24 (.slice none 0 0):=⟨by kernel_rfl⟩
instance g_S_S_bool:TG P T.a2 false:=⟨by kernel_rfl⟩
instance s_S_S_bool:TS P T.a2 94:=⟨by kernel_rfl⟩
instance z_S_bool:TZ P T.a1 1 24 (.slice none 0 0):=⟨by kernel_rfl⟩
instance g_S_bool:TG P T.a1 false:=⟨by kernel_rfl⟩
instance s_S_bool:TS P T.a1 4:=⟨by kernel_rfl⟩
instance z_A10_string:TZ P T.aj 10 160 (.agg #[.string ⟨#[]⟩, .string ⟨#[]⟩, .string ⟨#[]⟩, .string ⟨#[]⟩, .string ⟨#[]⟩, .string ⟨#[]⟩, .string ⟨#[]⟩, .string ⟨#[]⟩, .string ⟨#[]⟩, .string ⟨#[]⟩]):=⟨by kernel_rfl⟩
instance g_A10_string:TG P T.aj true:=⟨by kernel_rfl⟩
instance a_A10_string:TA P T.aj 10 9:=⟨by kernel_rfl⟩
instance g_strings_asciiSet:TG P T.a5 true:=⟨by kernel_rfl⟩
instance a_strings_asciiSet:TA P T.a5 256 4:=⟨by kernel_rfl⟩
instance z_A6_string:TZ P T.ai 6 96 (.agg #[.string ⟨#[]⟩, .string ⟨#[]⟩, .string ⟨#[]⟩, .string ⟨#[]⟩, .string ⟨#[]⟩, .string ⟨#[]⟩]):=⟨by kernel_rfl⟩
instance g_A6_string:TG P T.ai true:=⟨by kernel_rfl⟩
instance a_A6_string:TA P T.ai 6 9:=⟨by kernel_rfl⟩
instance z_func_int:TZ P T.ak 1 8 .nilFunc:=⟨by kernel_rfl⟩
instance g_func_int:TG P T.ak false:=⟨by kernel_rfl⟩
instance z_M_string_string:TZ P T.t 1 8 (.map none):=⟨by kernel_rfl⟩
instance g_M_string_string:TG P T.t false:=⟨by kernel_rfl⟩
instance m_M_string_string:TM P T.t 9 9:=⟨by kernel_rfl⟩
instance z_func_api_Method_string:TZ P T.a3 1 8 .nilFunc:=⟨by kernel_rfl⟩
instance g_func_api_Method_string:TG P T.a3 false:=⟨by kernel_rfl⟩
instance z_func_api_Method_bool:TZ P T.a8 1 8 .nilFunc:=⟨by kernel_rfl⟩
instance g_func_api_Method_bool:TG P T.a8 false:=⟨by kernel_rfl⟩
instance z_func_string_string:TZ P T.a6 1 8 .nilFunc:=⟨by kernel_rfl⟩
instance g_func_string_string:TG P T.a6 false:=⟨by kernel_rfl⟩
instance z_func_api_Field_string:TZ P T.a4 1 8 .nilFunc:=⟨by kernel_rfl⟩
instance g_func_api_Field_string:TG P T.a4 false:=⟨by kernel_rfl⟩
instance z_func_api_Field_bool:TZ P T.aa 1 8 .nilFunc:=⟨by kernel_rfl⟩
instance g_func_api_Field_bool:TG P T.aa false:=⟨by kernel_rfl⟩
instance z_api_Catch:TZ P T.p 4 40 (.agg #[.int .i64 0, .int .i64 0, .int .i64 0, .string ⟨#[]⟩]):=⟨by kernel_rfl⟩
instance g_api_Catch:TG P T.p true:=⟨by kernel_rfl⟩
instance f_api_Catch_0:TF P T.p 0 0 3:=⟨by kernel_rfl⟩
instance f_api_Catch_1:TF P T.p 1 1 3:=⟨by kernel_rfl⟩
instance f_api_Catch_2:TF P T.p 2 2 3:=⟨by kernel_rfl⟩
instance f_api_Catch_3:TF P T.p 3 3 9:=⟨by kernel_rfl⟩
instance z_func_api_Catch_bool:TZ P T.ab 1 8 .nilFunc:=⟨by kernel_rfl⟩
instance g_func_api_Catch_bool:TG P T.ab false:=⟨by kernel_rfl⟩
instance z_func_api_Instr_bool:TZ P T.ac 1 8 .nilFunc:=⟨by kernel_rfl⟩
instance g_func_api_Instr_bool:TG P T.ac false:=⟨by kernel_rfl⟩
instance z_S_uint8:TZ P T.am 1 24 (.slice none 0 0):=⟨by kernel_rfl⟩
instance g_S_uint8:TG P T.am false:=⟨by kernel_rfl⟩
instance s_S_uint8:TS P T.am 5:=⟨by kernel_rfl⟩
instance z_strings_Builder:TZ P T.af 2 32 (.agg #[.pointer none, .slice none 0 0]):=⟨by kernel_rfl⟩
instance g_strings_Builder:TG P T.af true:=⟨by kernel_rfl⟩
instance f_strings_Builder_0:TF P T.af 0 0 185:=⟨by kernel_rfl⟩
instance f_strings_Builder_1:TF P T.af 1 1 186:=⟨by kernel_rfl⟩
instance z_P_uint8:TZ P T.ap 1 8 (.pointer none):=⟨by kernel_rfl⟩
instance g_P_uint8:TG P T.ap false:=⟨by kernel_rfl⟩
instance g_A256_uint8:TG P T.an true:=⟨by kernel_rfl⟩
instance a_A256_uint8:TA P T.an 256 5:=⟨by kernel_rfl⟩
instance z_utf8_acceptRange:TZ P T.ae 2 2 (.agg #[.int .u8 0, .int .u8 0]):=⟨by kernel_rfl⟩
instance g_utf8_acceptRange:TG P T.ae true:=⟨by kernel_rfl⟩
instance f_utf8_acceptRange_0:TF P T.ae 0 0 5:=⟨by kernel_rfl⟩
instance f_utf8_acceptRange_1:TF P T.ae 1 1 5:=⟨by kernel_rfl⟩
instance z_A16_utf8_acceptRange:TZ P T.ag 32 32 (.agg #[.int .u8 0, .int .u8 0, .int .u8 0, .int .u8 0, .int .u8 0, .int .u8 0, .int .u8 0, .int .u8 0, .int .u8 0, .int .u8 0, .int .u8 0, .int .u8 0, .int .u8 0, .int .u8 0, .int .u8 0, .int .u8 0, .int .u8 0, .int .u8 0, .int .u8 0, .int .u8 0, .int .u8 0, .int .u8 0, .int .u8 0, .int .u8 0, .int .u8 0, .int .u8 0, .int .u8 0, .int .u8 0, .int .u8 0, .int .u8 0, .int .u8 0, .int .u8 0]):=⟨by kernel_rfl⟩
instance g_A16_utf8_acceptRange:TG P T.ag true:=⟨by kernel_rfl⟩
instance a_A16_utf8_acceptRange:TA P T.ag 16 202:=⟨by kernel_rfl⟩
instance z_code_op:TZ P T.a7 3 24 (.agg #[.string ⟨#[]⟩, .bool false, .bool false]):=⟨by kernel_rfl⟩
instance g_code_op:TG P T.a7 true:=⟨by kernel_rfl⟩
instance f_code_op_0:TF P T.a7 0 0 9:=⟨by kernel_rfl⟩
instance f_code_op_1:TF P T.a7 1 1 4:=⟨by kernel_rfl⟩
instance f_code_op_2:TF P T.a7 2 2 4:=⟨by kernel_rfl⟩
instance g_A42_code_op:TG P T.a9 true:=⟨by kernel_rfl⟩
instance a_A42_code_op:TA P T.a9 42 206:=⟨by kernel_rfl⟩
instance z_S_code_op:TZ P T.al 1 24 (.slice none 0 0):=⟨by kernel_rfl⟩
instance g_S_code_op:TG P T.al false:=⟨by kernel_rfl⟩
instance s_S_code_op:TS P T.al 206:=⟨by kernel_rfl⟩
instance z_uint32:TZ P T.aq 1 4 (.int .u32 0):=⟨by kernel_rfl⟩
instance g_uint32:TG P T.aq false:=⟨by kernel_rfl⟩
instance z_uint64:TZ P T.ar 1 8 (.int .u64 0):=⟨by kernel_rfl⟩
instance g_uint64:TG P T.ar false:=⟨by kernel_rfl⟩
end Go.Proofs.YtfppjenblllfaaaGreatDoor

namespace Go.Emb
theorem aS {p:Prop} (h:p:=by (first | assumption | exact Stp.sat (by assumption) | exact Hst.sat (by assumption))):p:=h
theorem aL {p:Prop} (h:p:=by (first | assumption | exact Sl.lift (by assumption) (by (repeat (first | exact SLe.refl _ | refine SLe.more ?_ (by assumption) | refine SLe.more ?_ (Nxt.le (by assumption)) | refine SLe.step ?_ (by assumption)))) | exact Z0.lift (by assumption) (by (repeat (first | exact SLe.refl _ | refine SLe.more ?_ (by assumption) | refine SLe.more ?_ (Nxt.le (by assumption)) | refine SLe.step ?_ (by assumption)))) | exact P6.lift (by assumption) (by (repeat (first | exact SLe.refl _ | refine SLe.more ?_ (by assumption) | refine SLe.more ?_ (Nxt.le (by assumption)) | refine SLe.step ?_ (by assumption)))) | exact RCl_lift (by assumption) (by (repeat (first | exact SLe.refl _ | refine SLe.more ?_ (by assumption) | refine SLe.more ?_ (Nxt.le (by assumption)) | refine SLe.step ?_ (by assumption)))) | exact RMe_lift (by assumption) (by (repeat (first | exact SLe.refl _ | refine SLe.more ?_ (by assumption) | refine SLe.more ?_ (Nxt.le (by assumption)) | refine SLe.step ?_ (by assumption)))) | exact Glb.lift (by assumption) (by (repeat (first | exact SLe.refl _ | refine SLe.more ?_ (by assumption) | refine SLe.more ?_ (Nxt.le (by assumption)) | refine SLe.step ?_ (by assumption)))) | exact Tab.lift (by assumption) (by (repeat (first | exact SLe.refl _ | refine SLe.more ?_ (by assumption) | refine SLe.more ?_ (Nxt.le (by assumption)) | refine SLe.step ?_ (by assumption)))) | exact RIn_any (by assumption) | exact RFd_any (by assumption) | exact RCa_any (by assumption))):p:=h
theorem aR {p:Prop} (h:p:=by with_unfolding_all rfl):p:=h
theorem aF {p:Prop} (a:p:=by (refine Eq.subst (motive:=fun b=>K b _) ?_ (h _ _ (by (repeat (first | exact Stp.refl (by (first | assumption | exact Stp.sat (by assumption) | exact Hst.sat (by assumption))) | assumption | refine Stp.trans ?_ (by first | assumption | exact Hst.stp (by assumption))))));clear h;(try clear hA);(try clear hB);(try clear hC);first | rfl | ((try simp only[Bool.not_eq_true',Bool.not_eq_false',Bool.not_true,Bool.not_false,Bool.not_eq_true] at*);simp only[*,Mb,reduceIte];done) | (simp[*];done) | simp_all)):p:=a
theorem au {p:Prop} (h:p:=by (first | assumption | (first | assumption | exact Stp.sat (by assumption) | exact Hst.sat (by assumption)) | (first | assumption | exact Sl.lift (by assumption) (by (repeat (first | exact SLe.refl _ | refine SLe.more ?_ (by assumption) | refine SLe.more ?_ (Nxt.le (by assumption)) | refine SLe.step ?_ (by assumption)))) | exact Z0.lift (by assumption) (by (repeat (first | exact SLe.refl _ | refine SLe.more ?_ (by assumption) | refine SLe.more ?_ (Nxt.le (by assumption)) | refine SLe.step ?_ (by assumption)))) | exact P6.lift (by assumption) (by (repeat (first | exact SLe.refl _ | refine SLe.more ?_ (by assumption) | refine SLe.more ?_ (Nxt.le (by assumption)) | refine SLe.step ?_ (by assumption)))) | exact RCl_lift (by assumption) (by (repeat (first | exact SLe.refl _ | refine SLe.more ?_ (by assumption) | refine SLe.more ?_ (Nxt.le (by assumption)) | refine SLe.step ?_ (by assumption)))) | exact RMe_lift (by assumption) (by (repeat (first | exact SLe.refl _ | refine SLe.more ?_ (by assumption) | refine SLe.more ?_ (Nxt.le (by assumption)) | refine SLe.step ?_ (by assumption)))) | exact Glb.lift (by assumption) (by (repeat (first | exact SLe.refl _ | refine SLe.more ?_ (by assumption) | refine SLe.more ?_ (Nxt.le (by assumption)) | refine SLe.step ?_ (by assumption)))) | exact Tab.lift (by assumption) (by (repeat (first | exact SLe.refl _ | refine SLe.more ?_ (by assumption) | refine SLe.more ?_ (Nxt.le (by assumption)) | refine SLe.step ?_ (by assumption)))) | exact RIn_any (by assumption) | exact RFd_any (by assumption) | exact RCa_any (by assumption)) | exact Nat.le_trans (by assumption) (by decide) | omega)):p:=h
end Go.Emb
namespace Go.Proofs.YtfppjenblllfaaaGreatDoor
open Go.Emb
theorem X4u {a:List UInt8} {cs:List Bool} {r:TypeId} {w:World} {K:Value→World→Prop}:X5 P .len [T.a] r cs [S a] w K=K (I a.length) w:=E4 X7
theorem Q8m {d c:Operand} {a b:Bool} {w:World} {K:Value→World→Prop}:Q3 P .eql T.o d c (.bool a) (.bool b) w K=K (.bool (a==b)) w:=Q6r Fo
theorem X4t {d c:Operand} {a b:Bool} {w:World} {K:Value→World→Prop}:Q3 P .neq T.o d c (.bool a) (.bool b) w K=K (.bool (!(a==b))) w:=Q6q Fo
def Mm:=And.intro @fa <| And.intro @H7 <| And.intro @Xd <| And.intro @X4u <| And.intro @Q8m @X4t
def M1:=And.intro Mm Mr
def M2:=And.intro Mm Mp
end Go.Proofs.YtfppjenblllfaaaGreatDoor

namespace Go.Proofs.YtfppjenblllfaaaGreatDoor
open Go.Emb Go.RowKit Go.Kd Go.Hm
variable {w : World} {K : Value → World → Prop} {σ : Q4}
def Vk (m:Hm.Met):Bool:=decide (32<m.params.length)||decide (32<m.catches.length)||decide (200<m.code.length)||decide (64<m.locals)
def Yv (c:Cla):Bool:=c.methods.any Vk||decide (32<c.like.length)||decide (32<c.fields.length)||decide (32<c.methods.length)
theorem X42 {c : Cla} {cs : List Value} (hs : X4 w σ) (hc : V4 σ c cs) (h : ∀ w', Below w.heap.size w w' → K (.bool (Yv c)) w') : Q0 P F.cH [.agg cs.toArray] w K := Q6n (by
  obtain ⟨lv, fv, mv, rfl, hl, hf, hm, hn, hsu⟩ := hc
  unfold Q0q
  refine N7 hs fun a w1 σ1 hk ha => ?_
  have hs := hk.sat
  replace hl := hl.up hk
  replace hf := hf.up hk
  replace hm := hm.up hk
  simp only [Value.cells] at ha
  ((try simp only [↓M1, M1, Mb, reduceIte]); repeat ((first | refine ld (by assumption) (by assumption) rfl ?_ | refine Y0 (by assumption) (by assumption) rfl ?_ | refine X0 (by assumption) ?_); (try simp only [↓M1, M1, Mb, reduceIte])))
  refine U4 c.methods.length (fun n w' => Below w1.heap.size w1 w' ∧ ((c.methods.take n).any Vk) = false) ⟨Below.refl _ _, by simp⟩ fun n w2 d hn hi => ?_
  obtain ⟨hb, hp⟩ := hi
  have hs2 := hs.below hb
  ((try simp only [↓M1, M1, Mb, reduceIte]); repeat ((first | refine ld (by assumption) (by assumption) rfl ?_ | refine Y0 (by assumption) (by assumption) rfl ?_ | refine X0 (by assumption) ?_); (try simp only [↓M1, M1, Mb, reduceIte])))
  refine Q6 (fun hc => ?_) (fun hc => ?_)
  · have hn' : n < c.methods.length := by simpa using hc
    refine M6 hm hn' fun p cs hl1 hlen hr => ?_
    refine Z2 hs2 hl1 hlen ?_
    refine Y5 hs2 (by rfl) hlen (Rep.one hr) fun q w3 σ3 hk3 hq => ?_
    obtain ⟨pv, cv, hv, rfl, g1, g2, g3, g4⟩ := hr
    have hs3 := hk3.sat
    replace g1 := g1.up hk3
    replace g2 := g2.up hk3
    replace g3 := g3.up hk3
    ((try simp only [↓M1, M1, Mb, reduceIte]); repeat ((first | refine ld (by assumption) (by assumption) rfl ?_ | refine Y0 (by assumption) (by assumption) rfl ?_ | refine X0 (by assumption) ?_); (try simp only [↓M1, M1, Mb, reduceIte])))
    (repeat' ((first | refine Z5 (fun hh => ?_) (fun hh => ?_) | refine Q6 (fun hh => ?_) (fun hh => ?_)) <;> (try simp only [hh, Bool.not_true, Bool.not_false, ↓M1, M1, Mb, reduceIte]) <;> ((try simp only [↓M1, M1, Mb, reduceIte]); repeat ((first | refine ld (by assumption) (by assumption) rfl ?_ | refine Y0 (by assumption) (by assumption) rfl ?_ | refine X0 (by assumption) ?_); (try simp only [↓M1, M1, Mb, reduceIte])))))
    all_goals first
      | refine Y6 hm.max hn' ⟨bt hb hk3.bel, ?_⟩
        rw [N0 hn', hp]; simp only [Vk]; (first | (simp only [decide_eq_true_eq, decide_eq_false_iff_not, Bool.not_true, Bool.not_false, Bool.not_eq_true', Bool.not_eq_false', Bool.or_eq_true, Bool.and_eq_true, Bool.or_eq_false_iff, Bool.and_eq_false_iff, Bool.false_or, Bool.true_and, Bool.or_false, Bool.and_true] at *; first | omega | (and_intros <;> omega)) | (rw [Bool.eq_iff_iff]; (simp only [decide_eq_true_eq, decide_eq_false_iff_not, Bool.not_true, Bool.not_false, Bool.not_eq_true', Bool.not_eq_false', Bool.or_eq_true, Bool.and_eq_true, Bool.or_eq_false_iff, Bool.and_eq_false_iff, Bool.false_or, Bool.true_and, Bool.or_false, Bool.and_true] at *; first | omega | (and_intros <;> omega))))
      | have e : Yv c = true := by
          have : Vk c.methods[n] = true := by simp only [Vk]; (first | (simp only [decide_eq_true_eq, decide_eq_false_iff_not, Bool.not_true, Bool.not_false, Bool.not_eq_true', Bool.not_eq_false', Bool.or_eq_true, Bool.and_eq_true, Bool.or_eq_false_iff, Bool.and_eq_false_iff, Bool.false_or, Bool.true_and, Bool.or_false, Bool.and_true] at *; first | omega | (and_intros <;> omega)) | (rw [Bool.eq_iff_iff]; (simp only [decide_eq_true_eq, decide_eq_false_iff_not, Bool.not_true, Bool.not_false, Bool.not_eq_true', Bool.not_eq_false', Bool.or_eq_true, Bool.and_eq_true, Bool.or_eq_false_iff, Bool.and_eq_false_iff, Bool.false_or, Bool.true_and, Bool.or_false, Bool.and_true] at *; first | omega | (and_intros <;> omega))))
          simp [Yv, B6 hn' this]
        rw [← e]; exact h _ (bt hk.bel (bt hb hk3.bel))
  · have hn' : ¬ n < c.methods.length := by simpa using hc
    rw [E0 hn'] at hp
    have h := h w2 (bt hk.bel hb)
    ((try simp only [↓M1, M1, Mb, reduceIte]); repeat ((first | refine ld (by assumption) (by assumption) rfl ?_ | refine Y0 (by assumption) (by assumption) rfl ?_ | refine X0 (by assumption) ?_); (try simp only [↓M1, M1, Mb, reduceIte])))
    (repeat' ((first | refine Z5 (fun hh => ?_) (fun hh => ?_) | refine Q6 (fun hh => ?_) (fun hh => ?_)) <;> (try simp only [hh, Bool.not_true, Bool.not_false, ↓M1, M1, Mb, reduceIte]) <;> ((try simp only [↓M1, M1, Mb, reduceIte]); repeat ((first | refine ld (by assumption) (by assumption) rfl ?_ | refine Y0 (by assumption) (by assumption) rfl ?_ | refine X0 (by assumption) ?_); (try simp only [↓M1, M1, Mb, reduceIte])))))
    all_goals
      refine Eq.subst (motive := fun b => K (.bool b) w2) ?_ h
      simp only [Yv, hp]
      (first | (simp only [decide_eq_true_eq, decide_eq_false_iff_not, Bool.not_true, Bool.not_false, Bool.not_eq_true', Bool.not_eq_false', Bool.or_eq_true, Bool.and_eq_true, Bool.or_eq_false_iff, Bool.and_eq_false_iff, Bool.false_or, Bool.true_and, Bool.or_false, Bool.and_true] at *; first | omega | (and_intros <;> omega)) | (rw [Bool.eq_iff_iff]; (simp only [decide_eq_true_eq, decide_eq_false_iff_not, Bool.not_true, Bool.not_false, Bool.not_eq_true', Bool.not_eq_false', Bool.or_eq_true, Bool.and_eq_true, Bool.or_eq_false_iff, Bool.and_eq_false_iff, Bool.false_or, Bool.true_and, Bool.or_false, Bool.and_true] at *; first | omega | (and_intros <;> omega)))))
end Go.Proofs.YtfppjenblllfaaaGreatDoor

namespace Go.Emb
open Go.RowKit Go.Hm
variable {H : Type} {enc : TypeId × Value → H} {P : Program} {W : World} {t : TypeId} {cs : List Value} {fuel : Nat} {x : DataW H × List MemPlace}
def P4 (W:World):Q4:=fun b=>W.heap[b]?
theorem X0f:X4 W (P4 W):=fun b o h=>h
def Wt (P:Program) (t:TypeId) (d:DataW H):Prop:= ∀n∈d.weights P t,n≤reachBytes
theorem X2q {a:Addr} {n:Nat} (h:W.cells? 0 a n=some cs) (D:0<n):cs.length=n∧Z0 (P4 W) a cs:=by
 obtain ⟨_,m,u⟩:=World.cells?_some h
 refine ⟨m,?_⟩
 have key: ∀i v,cs[i]? =some v→ ∃E1 e f,W.heap[a.block]? =some (.cells E1 e f)∧(a.add i).spot=none∧E1[a.off+i]? =some v:=by
  intro i v g
  have z:i<cs.length:=(List.getElem?_eq_some_iff.1 g).1
  have b:=u i (by omega)
  rw[g] at b
  unfold World.cell? at b
  rw[B5,Yr] at b
  cases p:W.heap[a.block]? with
  | none=>rw[p] at b;cases b
  | some o=>
   rw[p] at b
   cases o with
   | cells E1 e f=>
    simp only at b
    split at b
    ·cases b
    ·rename_i y
     exact ⟨E1,e,f,rfl,by simpa using y,b⟩
   | _=>cases b
 cases j:cs with
 | nil=>subst j;simp at m;omega
 | cons c r=>
  obtain ⟨E1,e,f,l,w,A⟩:=key 0 c (by rw[j];rfl)
  refine ⟨by simpa [Addr.add] using w,E1,e,f,l,fun i v g=>?_⟩
  obtain ⟨k,B,q,d,C,s⟩:=key i v (by rw[j];exact g)
  rw[l] at d
  injection d with d
  injection d with d
  subst d
  exact s
theorem Fz (a:P.underlying t=some .string) (h:DataW.trod enc P W 0 (fun _=>true) true fuel t cs=some x) (b:Wt P t x.1): ∃s:Kd.Q9,cs=[S s]∧s.length≤Y9:=by
 obtain ⟨⟨⟨s⟩⟩,rfl,rfl,_⟩:=DataW.trod_string a h
 refine ⟨s,rfl,?_⟩
 have:=b s.length (by simp[DataW.weights])
 exact this
theorem Q7S (a:P.underlying t=some .bool) (h:DataW.trod enc P W 0 (fun _=>true) true fuel t cs=some x): ∃b,cs=[.bool b]:=by
 obtain ⟨b,c,_⟩:=DataW.trod_bool a h;exact ⟨b,c⟩
theorem Q0s (b:P.underlying t=some (.int .i64)) (h:DataW.trod enc P W 0 (fun _=>true) true fuel t cs=some x): ∃n,cs=[I n]∧Q10 n:=by
 obtain ⟨n,c,_,a⟩:=DataW.trod_int b h
 refine ⟨n,c,?_⟩
 simp only[Lit.wf,Bool.and_eq_true,decide_eq_true_eq] at a
 exact ⟨a.1,a.2⟩
theorem X33 {α:Type} {Q:Nat→α→Prop}: ∀(n:Nat),(∀i,i<n→ ∃y,Q i y)→ ∃xs:List α,xs.length=n∧ ∀i y,xs[i]? =some y→Q i y:=by
 intro n
 induction n with
 | zero=>intro _;exact ⟨[],rfl,by simp⟩
 | succ n f=>
  intro h
  obtain ⟨xs,e,d⟩:=f fun i b=>h i (by omega)
  obtain ⟨y,c⟩:=h n (by omega)
  refine ⟨xs++[y],by simp[e],fun i z a=>?_⟩
  by_cases b:i<xs.length
  ·rw[List.getElem?_append_left b] at a;exact d i z a
  ·rw[List.getElem?_append_right (by omega)] at a
   have:i-xs.length=0:=by
    have:=(List.getElem?_eq_some_iff.1 a).1
    simp at this;omega
   rw[this] at a
   simp at a
   subst a
   rw[show i=n by omega];exact c
theorem Q9S {e:TypeId} {d:DataW H}: ∀{l:List (DataW H)},d∈l→ ∀n∈d.weights P e,n∈DataW.weightsAll P e l:=by
 intro l
 induction l with
 | nil=>intro h;simp at h
 | cons a r c=>
  intro h n b
  simp only[DataW.weightsAll,List.mem_append]
  rcases List.mem_cons.1 h with rfl | h
  ·exact .inl b
  ·exact .inr (c h n b)
theorem Q37 {α:Type} {R:Q4→α→List Value→Prop} {e:TypeId} {sz:Nat} (A:P.underlying t=some (.slice e)) (N:P.cellsOf e=sz) (M:0<sz)
 (q: ∀fuel cs (x:DataW H×List MemPlace),DataW.trod enc P W 0 (fun _=>true) true fuel e cs=some x→Wt P e x.1→ ∃y,R (P4 W) y cs)
 (h:DataW.trod enc P W 0 (fun _=>true) true fuel t cs=some x) (C:Wt P t x.1): ∃v xs,cs=[v]∧Sl sz R (P4 W) v xs:=by
 rcases DataW.trod_slice A h with ⟨rfl,rfl⟩ | ⟨a,o,r,d,w,n,_,rfl,rfl,_,J,p,u,l,_⟩
 ·exact ⟨_,[],rfl,Sl.nil⟩
 subst N
 have step: ∀i,i<o→ ∃y,∃c,Z0 (P4 W) (a.add (i*P.cellsOf e)) c∧c.length=P.cellsOf e∧R (P4 W) y c:=by
  intro i B
  have z:=l i B
  have j:i<d.length:=by omega
  rw[List.getElem?_eq_getElem j] at z
  obtain ⟨c,E,D⟩:=Option.bind_eq_some_iff.1 z
  obtain ⟨O,s⟩:=X2q E M
  obtain ⟨y,g⟩:=q n c _ D (fun m p=>C m (by
   simp only[DataW.weights,A,List.mem_cons,List.mem_append]
   exact .inr (.inl (Q9S (List.mem_map.2 ⟨_,List.getElem_mem j,rfl⟩) m p))))
  exact ⟨y,c,s,O,g⟩
 obtain ⟨xs,f,k⟩:=X33 o step
 refine ⟨_,xs,rfl,some a,r,by rw[f],by rw[f];exact J,p,by simp,fun b L=>?_⟩
 cases L
 refine ⟨fun Q=>?_,fun i y g=>k i y g⟩
 obtain ⟨y,g⟩: ∃y,xs[0]? =some y:=⟨xs[0],List.getElem?_eq_getElem Q⟩
 obtain ⟨c,s,_,_⟩:=k 0 y g
 have:=s.1
 simpa [Addr.add] using this
theorem X2M: ∀{a:List TypeId} {l:List (DataW H)} {i:Nat} {u:TypeId} {d:DataW H},a[i]? =some u→l[i]? =some d→ ∀n∈d.weights P u,n∈DataW.weightsEach P a l:=
 fun e c n b=>DataW.weights_mem_each e c n b
theorem C0 {e:Array Field} (d:P.underlying t=some (.struct e)) (h:DataW.trod enc P W 0 (fun _=>true) true fuel t cs=some x) (j:Wt P t x.1) (i:Nat) {o:Nat} {b:TypeId}
 (s:(e[i]?).map (fun f=>(f.type,f.offset))=some (b,o)) (r:P.cellsOf b=1): ∃n y,DataW.trod enc P W 0 (fun _=>true) true n b ((cs.drop o).take 1)=some y∧Wt P b y.1:=by
 obtain ⟨xs,n,_,rfl,v,q,l⟩:=DataW.trod_struct d h
 obtain ⟨f,a,k⟩:=Option.map_eq_some_iff.1 s
 cases k
 have g:=l i f a
 have c:i<xs.length:=by rw[q];exact (Array.getElem?_eq_some_iff.1 a).1
 rw[List.getElem?_eq_getElem c,r] at g
 refine ⟨n,_,g,fun m p=>j m ?_⟩
 simp only[DataW.weights,d]
 exact X2M (i:=i) (u:=f.type) (by rw[List.getElem?_map,Array.getElem?_toList,a];rfl) (by rw[List.getElem?_map,List.getElem?_eq_getElem c];rfl) m p
theorem Q36 {c:Array Field} {k:Nat} (a:P.underlying t=some (.struct c)) (b:P.cellsOf t=k) (h:DataW.trod enc P W 0 (fun _=>true) true fuel t cs=some x):cs.length=k:=by
 obtain ⟨_,_,_,_,d,_,_⟩:=DataW.trod_struct a h
 rw[d,b]
theorem Q5c {α:Type} {l:List α} (h:l.length=3): ∃a b c,l=[a,b,c]:=by
 match l,h with
 | [a,b,c],_=>exact ⟨a,b,c,rfl⟩
theorem X4q {α:Type} {l:List α} (h:l.length=4): ∃a b c d,l=[a,b,c,d]:=by
 match l,h with
 | [a,b,c,d],_=>exact ⟨a,b,c,d,rfl⟩
theorem X4x {α:Type} {l:List α} (h:l.length=7): ∃a b c d e f g,l=[a,b,c,d,e,f,g]:=by
 match l,h with
 | [a,b,c,d,e,f,g],_=>exact ⟨a,b,c,d,e,f,g,rfl⟩
end Go.Emb
namespace Go.Proofs.YtfppjenblllfaaaGreatDoor
open Go.Emb Go.RowKit Go.Kd Go.Hm
variable {H : Type} {enc : TypeId × Value → H} {W : World} {cs : List Value} {fuel : Nat} {x : DataW H × List MemPlace}
theorem Qi:P.cellsOf T.a=1:=by kernel_rfl
theorem Q6a:P.cellsOf T.o=1:=by kernel_rfl
theorem Q59:P.cellsOf T.e=1:=by kernel_rfl
theorem Q5C {t:TypeId} (a:P.underlying t=some .string) (h:DataW.trod enc P W 0 (fun _=>true) true fuel t cs=some x) (b:Wt P t x.1): ∃y,X9 (P4 W) y cs:=by
 obtain ⟨s,q,r⟩:=Fz a h b;exact ⟨s,q,r⟩
def X4D:Array Field:= #[⟨"Op",T.a,0,false, "", "",0⟩,⟨"N",T.ad,1,false, "", "",16⟩,⟨"S",T.a,2,false, "", "",24⟩]
theorem Q3m:P.underlying T.k=some (.struct X4D):=by kernel_rfl
theorem X0C (h:DataW.trod enc P W 0 (fun _=>true) true fuel T.k cs=some x) (a:Wt P T.k x.1): ∃y,I0 (P4 W) y cs:=by
 obtain ⟨q,p,r,rfl⟩:=Q5c (Q36 Q3m (by kernel_rfl) h)
 obtain ⟨_,_,f,w0⟩:=C0 (o:=0) Q3m h a 0 rfl Qi
 obtain ⟨_,_,m,w1⟩:=C0 (o:=1) Q3m h a 1 rfl (by kernel_rfl)
 obtain ⟨_,_,g,l⟩:=C0 (o:=2) Q3m h a 2 rfl Qi
 obtain ⟨j,q0,e⟩:=Fz X7 f w0
 obtain ⟨k,b,d⟩:=Q0s (by kernel_rfl) m
 obtain ⟨i,c,n⟩:=Fz X7 g l
 simp at q0 b c
 subst q0 b c
 exact ⟨⟨j,k,i⟩,rfl,e,d,n⟩
def X4o:Array Field:= #[⟨"From",T.e,0,false, "", "",0⟩,⟨"To",T.e,1,false, "", "",8⟩,⟨"At",T.e,2,false, "", "",16⟩,⟨"Class",T.a,3,false, "", "",24⟩]
theorem Q2D:P.underlying T.p=some (.struct X4o):=by kernel_rfl
theorem X3C (h:DataW.trod enc P W 0 (fun _=>true) true fuel T.p cs=some x) (a:Wt P T.p x.1): ∃y,Yk (P4 W) y cs:=by
 obtain ⟨v,u,z,A,rfl⟩:=X4q (Q36 Q2D (by kernel_rfl) h)
 obtain ⟨_,_,i,w0⟩:=C0 (o:=0) Q2D h a 0 rfl Q59
 obtain ⟨_,_,r,w1⟩:=C0 (o:=1) Q2D h a 1 rfl Q59
 obtain ⟨_,_,j,w⟩:=C0 (o:=2) Q2D h a 2 rfl Q59
 obtain ⟨_,_,k,f⟩:=C0 (o:=3) Q2D h a 3 rfl Qi
 obtain ⟨n,q0,g⟩:=Q0s Q2H i
 obtain ⟨p,c,e⟩:=Q0s Q2H r
 obtain ⟨l,d,s⟩:=Q0s Q2H j
 obtain ⟨q,b,m⟩:=Fz X7 k f
 simp at q0 c d b
 subst q0 c d b
 exact ⟨⟨n,p,l,q⟩,rfl,g,e,s,m⟩
theorem Q62:P.underlying T.c=some (.slice T.a):=by kernel_rfl
theorem X43:P.underlying T.n=some (.slice T.k):=by kernel_rfl
theorem X3k:P.underlying T.q=some (.slice T.p):=by kernel_rfl
def X4m:Array Field:= #[⟨"Name",T.a,0,false, "", "",0⟩,⟨"Params",T.c,1,false, "", "",16⟩,⟨"Result",T.a,2,false, "", "",40⟩,⟨"Abstract",T.o,3,false, "", "",56⟩,⟨"Locals",T.e,4,false, "", "",64⟩,⟨"Code",T.n,5,false, "", "",72⟩,⟨"Catches",T.q,6,false, "", "",96⟩]
theorem Hr:P.underlying T.d=some (.struct X4m):=by kernel_rfl
theorem X3o (h:DataW.trod enc P W 0 (fun _=>true) true fuel T.d cs=some x) (a:Wt P T.d x.1): ∃y,L9 (P4 W) y cs:=by
 obtain ⟨Z,U,c2,c3,O,V,Q,rfl⟩:=X4x (Q36 Hr (by kernel_rfl) h)
 obtain ⟨_,_,p,w0⟩:=C0 (o:=0) Hr h a 0 rfl Qi
 obtain ⟨_,_,L,w1⟩:=C0 (o:=1) Hr h a 1 rfl (by kernel_rfl)
 obtain ⟨_,_,q,D⟩:=C0 (o:=2) Hr h a 2 rfl Qi
 obtain ⟨_,_,r,X⟩:=C0 (o:=3) Hr h a 3 rfl Q6a
 obtain ⟨_,_,u,w4⟩:=C0 (o:=4) Hr h a 4 rfl Q59
 obtain ⟨_,_,z,N⟩:=C0 (o:=5) Hr h a 5 rfl (by kernel_rfl)
 obtain ⟨_,_,J,j⟩:=C0 (o:=6) Hr h a 6 rfl (by kernel_rfl)
 obtain ⟨A,q0,m⟩:=Fz X7 p w0
 obtain ⟨Y,C,e,i⟩:=Q37 (R:=X9) Q62 Qi (by decide) (fun _ _ _ h a=>Q5C X7 h a) L w1
 obtain ⟨s,f,M⟩:=Fz X7 q D
 obtain ⟨E,b⟩:=Q7S Fo r
 obtain ⟨B,d,n⟩:=Q0s Q2H u
 obtain ⟨v5,w,c,k⟩:=Q37 (R:=I0) (sz:=3) X43 (by kernel_rfl) (by decide) (fun _ _ _ h a=>X0C h a) z N
 obtain ⟨v6,v,g,l⟩:=Q37 (R:=Yk) (sz:=4) X3k (by kernel_rfl) (by decide) (fun _ _ _ h a=>X3C h a) J j
 simp at q0 e f b d c g
 subst q0 e f b d c g
 exact ⟨⟨A,C,s,E,B,w,v⟩,_,_,_,rfl,i,k,l,m,M,n⟩
end Go.Proofs.YtfppjenblllfaaaGreatDoor

namespace Go.Emb
def J8 {α β:Type} (a:β→α→Bool×β):β→List α→Nat→Option Nat×β
 | s,[],_=>(none,s)
 | s,x::xs,i=>if (a s x).1 then (some i,(a s x).2) else J8 a (a s x).2 xs (i+1)
def L2 (o:Option Nat):Int:=match o with | some i=>i | none=> -1
theorem T2 {α:Type} (p:α→Bool): ∀(xs:List α) (i:Nat),(J8 (fun (_:Unit) x=>(p x,())) () xs i).1=(xs.findIdx? p).map (· +i):=by
 intro xs
 induction xs with
 | nil=>intro i;rfl
 | cons x r ih=>
  intro i
  rw[List.findIdx?_cons]
  simp only[J8]
  cases p x with
  | true=>simp
  | false=>
   simp only[Bool.false_eq_true,if_false]
   rw[ih (i+1),Option.map_map]
   congr 1;funext n;simp only[Function.comp];omega
theorem Pf {α β:Type} (a:β→α→Bool×β) (s:β) (xs:List α) (i:Nat):decide ((0:Int)≤L2 (J8 a s xs i).1)=(J8 a s xs i).1.isSome:=by
 cases (J8 a s xs i).1<;>simp[L2]
end Go.Emb
namespace Go.Proofs.YtfppjenblllfaaaGreatDoor
open Go.Emb Go.RowKit Go.Kd Go.Hm
variable {w : World} {K : Value → World → Prop} {σ : Q4}
theorem Uv {β:Type} {xs:List Hm.Met} {v f:Value} (a:β→Hm.Met→Bool×β) (m:β) (b:β→World→Prop) (D:Nat→Prop) (l: ∀s w,b s w→X4 w σ) (C:b m w) (u:Sl 7 L9 σ v xs)
 (B: ∀s x cs (w1:World) (K:Value→World→Prop),x∈xs→Kpt D w w1→b s w1→L9 σ x cs→cs.length=7→(∀w',Kpt D w w'→b (a s x).2 w'→K (.bool (a s x).1) w')→Z3 P f [.agg cs.toArray] w1 K)
 (h: ∀w',Kpt D w w'→b (J8 a m xs 0).2 w'→K (I (L2 (J8 a m xs 0).1)) w'):Q0 P F.k [v,f] w K:=Xc (by
 unfold R8
 ((try simp only[↓M1,M1,Mb,reduceIte]);repeat ((first | refine ld (by assumption) (by assumption) rfl ?_ | refine Y0 (by assumption) (by assumption) rfl ?_ | refine X0 (by assumption) ?_);(try simp only[↓M1,M1,Mb,reduceIte])))
 refine U4 xs.length (fun n w'=>Kpt D w w'∧ ∃s,b s w'∧J8 a m xs 0=J8 a s (xs.drop n) n) ⟨Kpt.refl,m,C,rfl⟩ fun n w1 d E j=>?_
 obtain ⟨t,s,j,g⟩:=j
 have o:=l s w1 j
 ((try simp only[↓M1,M1,Mb,reduceIte]);repeat ((first | refine ld (by assumption) (by assumption) rfl ?_ | refine Y0 (by assumption) (by assumption) rfl ?_ | refine X0 (by assumption) ?_);(try simp only[↓M1,M1,Mb,reduceIte])))
 refine Q6 (fun r=>?_) (fun r=>?_)
 ·have c:n<xs.length:=by simpa using r
  refine M6 u c fun p cs y e z=>?_
  refine Z2 o y e ?_
  refine B s xs[n] cs w1 _ (List.getElem_mem c) t j z e fun A k i=>?_
  rw[List.drop_eq_getElem_cons c] at g
  simp only[J8] at g
  refine Q6 (fun q=>?_) (fun q=>?_)
  ·rw[q] at g
   have:=h A k
   rw[g] at this
   exact this i
  ·rw[q] at g
   ((try simp only[↓M1,M1,Mb,reduceIte]);repeat ((first | refine ld (by assumption) (by assumption) rfl ?_ | refine Y0 (by assumption) (by assumption) rfl ?_ | refine X0 (by assumption) ?_);(try simp only[↓M1,M1,Mb,reduceIte])))
   exact Y6 u.max c ⟨k,_,i,by simpa using g⟩
 ·have c: ¬n<xs.length:=by simpa using r
  rw[List.drop_eq_nil_of_le (by omega)] at g
  have:=h w1 t
  rw[g] at this
  exact this j)
theorem Zb {β:Type} {xs:List Hm.Met} {v f:Value} (b:β→Hm.Met→Bool×β) (d:β) (a:β→World→Prop) (D:Nat→Prop) (c: ∀s w,a s w→X4 w σ) (k:a d w) (i:Sl 7 L9 σ v xs)
 (j: ∀s x cs (w1:World) (K:Value→World→Prop),x∈xs→Kpt D w w1→a s w1→L9 σ x cs→cs.length=7→(∀w',Kpt D w w'→a (b s x).2 w'→K (.bool (b s x).1) w')→Z3 P f [.agg cs.toArray] w1 K)
 (h: ∀w',Kpt D w w'→a (J8 b d xs 0).2 w'→K (.bool (J8 b d xs 0).1.isSome) w'):Q0 P F.a [v,f] w K:=T6 (by
 unfold H1
 refine Uv b d a D c k i j fun w1 g e=>?_
 (try simp only[↓M1,M1,Mb,reduceIte])
 rw[Pf]
 exact h w1 g e)
theorem Bb {xs:List Hm.Met} {v f:Value} (p:Hm.Met→Bool) (hs:X4 w σ) (hv:Sl 7 L9 σ v xs)
 (hf: ∀x cs (w1:World) (K:Value→World→Prop),x∈xs→X4 w1 σ→L9 σ x cs→cs.length=7→(∀w',Below w1.heap.size w1 w'→K (.bool (p x)) w')→Z3 P f [.agg cs.toArray] w1 K)
 (h: ∀w',Below w.heap.size w w'→K (I (L2 (xs.findIdx? p))) w'):Q0 P F.k [v,f] w K:=by
 refine Uv (fun (_:Unit) x=>(p x,())) () (fun _ w'=>Below w.heap.size w w') (fun _=>False) (fun _ w' hb=>hs.below hb) (Below.refl _ _) hv (fun s x cs w1 K hx hk hi hr hl hK=>hf x cs w1 K hx (hs.below hi) hr hl fun w' hb=>hK w' (.of_below (bt hi hb)) (bt hi hb)) fun w' hk hi=>?_
 rw[T2]
 simpa using h w' hi
theorem C3 {xs:List Hm.Met} {v f:Value} (p:Hm.Met→Bool) (hs:X4 w σ) (hv:Sl 7 L9 σ v xs)
 (hf: ∀x cs (w1:World) (K:Value→World→Prop),x∈xs→X4 w1 σ→L9 σ x cs→cs.length=7→(∀w',Below w1.heap.size w1 w'→K (.bool (p x)) w')→Z3 P f [.agg cs.toArray] w1 K)
 (h: ∀w',Below w.heap.size w w'→K (.bool (xs.any p)) w'):Q0 P F.a [v,f] w K:=by
 refine Zb (fun (_:Unit) x=>(p x,())) () (fun _ w'=>Below w.heap.size w w') (fun _=>False) (fun _ w' hb=>hs.below hb) (Below.refl _ _) hv (fun s x cs w1 K hx hk hi hr hl hK=>hf x cs w1 K hx (hs.below hi) hr hl fun w' hb=>hK w' (.of_below (bt hi hb)) (bt hi hb)) fun w' hk hi=>?_
 rw[T2]
 simpa using h w' hi
theorem Wg {β:Type} {xs:List Fld} {v f:Value} (a:β→Fld→Bool×β) (m:β) (b:β→World→Prop) (D:Nat→Prop) (l: ∀s w,b s w→X4 w σ) (C:b m w) (u:Sl 3 E5 σ v xs)
 (B: ∀s x cs (w1:World) (K:Value→World→Prop),x∈xs→Kpt D w w1→b s w1→E5 σ x cs→cs.length=3→(∀w',Kpt D w w'→b (a s x).2 w'→K (.bool (a s x).1) w')→Z3 P f [.agg cs.toArray] w1 K)
 (h: ∀w',Kpt D w w'→b (J8 a m xs 0).2 w'→K (I (L2 (J8 a m xs 0).1)) w'):Q0 P F.o [v,f] w K:=Xz (by
 unfold B2
 ((try simp only[↓M1,M1,Mb,reduceIte]);repeat ((first | refine ld (by assumption) (by assumption) rfl ?_ | refine Y0 (by assumption) (by assumption) rfl ?_ | refine X0 (by assumption) ?_);(try simp only[↓M1,M1,Mb,reduceIte])))
 refine U4 xs.length (fun n w'=>Kpt D w w'∧ ∃s,b s w'∧J8 a m xs 0=J8 a s (xs.drop n) n) ⟨Kpt.refl,m,C,rfl⟩ fun n w1 d E j=>?_
 obtain ⟨t,s,j,g⟩:=j
 have o:=l s w1 j
 ((try simp only[↓M1,M1,Mb,reduceIte]);repeat ((first | refine ld (by assumption) (by assumption) rfl ?_ | refine Y0 (by assumption) (by assumption) rfl ?_ | refine X0 (by assumption) ?_);(try simp only[↓M1,M1,Mb,reduceIte])))
 refine Q6 (fun r=>?_) (fun r=>?_)
 ·have c:n<xs.length:=by simpa using r
  refine M6 u c fun p cs y e z=>?_
  refine Z2 o y e ?_
  refine B s xs[n] cs w1 _ (List.getElem_mem c) t j z e fun A k i=>?_
  rw[List.drop_eq_getElem_cons c] at g
  simp only[J8] at g
  refine Q6 (fun q=>?_) (fun q=>?_)
  ·rw[q] at g
   have:=h A k
   rw[g] at this
   exact this i
  ·rw[q] at g
   ((try simp only[↓M1,M1,Mb,reduceIte]);repeat ((first | refine ld (by assumption) (by assumption) rfl ?_ | refine Y0 (by assumption) (by assumption) rfl ?_ | refine X0 (by assumption) ?_);(try simp only[↓M1,M1,Mb,reduceIte])))
   exact Y6 u.max c ⟨k,_,i,by simpa using g⟩
 ·have c: ¬n<xs.length:=by simpa using r
  rw[List.drop_eq_nil_of_le (by omega)] at g
  have:=h w1 t
  rw[g] at this
  exact this j)
theorem Rm {β:Type} {xs:List Fld} {v f:Value} (b:β→Fld→Bool×β) (d:β) (a:β→World→Prop) (D:Nat→Prop) (c: ∀s w,a s w→X4 w σ) (k:a d w) (i:Sl 3 E5 σ v xs)
 (j: ∀s x cs (w1:World) (K:Value→World→Prop),x∈xs→Kpt D w w1→a s w1→E5 σ x cs→cs.length=3→(∀w',Kpt D w w'→a (b s x).2 w'→K (.bool (b s x).1) w')→Z3 P f [.agg cs.toArray] w1 K)
 (h: ∀w',Kpt D w w'→a (J8 b d xs 0).2 w'→K (.bool (J8 b d xs 0).1.isSome) w'):Q0 P F.j [v,f] w K:=Qs (by
 unfold R3
 refine Wg b d a D c k i j fun w1 g e=>?_
 (try simp only[↓M1,M1,Mb,reduceIte])
 rw[Pf]
 exact h w1 g e)
theorem Gb {xs:List Fld} {v f:Value} (p:Fld→Bool) (hs:X4 w σ) (hv:Sl 3 E5 σ v xs)
 (hf: ∀x cs (w1:World) (K:Value→World→Prop),x∈xs→X4 w1 σ→E5 σ x cs→cs.length=3→(∀w',Below w1.heap.size w1 w'→K (.bool (p x)) w')→Z3 P f [.agg cs.toArray] w1 K)
 (h: ∀w',Below w.heap.size w w'→K (I (L2 (xs.findIdx? p))) w'):Q0 P F.o [v,f] w K:=by
 refine Wg (fun (_:Unit) x=>(p x,())) () (fun _ w'=>Below w.heap.size w w') (fun _=>False) (fun _ w' hb=>hs.below hb) (Below.refl _ _) hv (fun s x cs w1 K hx hk hi hr hl hK=>hf x cs w1 K hx (hs.below hi) hr hl fun w' hb=>hK w' (.of_below (bt hi hb)) (bt hi hb)) fun w' hk hi=>?_
 rw[T2]
 simpa using h w' hi
theorem Jm {xs:List Fld} {v f:Value} (p:Fld→Bool) (hs:X4 w σ) (hv:Sl 3 E5 σ v xs)
 (hf: ∀x cs (w1:World) (K:Value→World→Prop),x∈xs→X4 w1 σ→E5 σ x cs→cs.length=3→(∀w',Below w1.heap.size w1 w'→K (.bool (p x)) w')→Z3 P f [.agg cs.toArray] w1 K)
 (h: ∀w',Below w.heap.size w w'→K (.bool (xs.any p)) w'):Q0 P F.j [v,f] w K:=by
 refine Rm (fun (_:Unit) x=>(p x,())) () (fun _ w'=>Below w.heap.size w w') (fun _=>False) (fun _ w' hb=>hs.below hb) (Below.refl _ _) hv (fun s x cs w1 K hx hk hi hr hl hK=>hf x cs w1 K hx (hs.below hi) hr hl fun w' hb=>hK w' (.of_below (bt hi hb)) (bt hi hb)) fun w' hk hi=>?_
 rw[T2]
 simpa using h w' hi
theorem Fv {β:Type} {xs:List Ins} {v f:Value} (a:β→Ins→Bool×β) (m:β) (b:β→World→Prop) (D:Nat→Prop) (l: ∀s w,b s w→X4 w σ) (C:b m w) (u:Sl 3 I0 σ v xs)
 (B: ∀s x cs (w1:World) (K:Value→World→Prop),x∈xs→Kpt D w w1→b s w1→I0 σ x cs→cs.length=3→(∀w',Kpt D w w'→b (a s x).2 w'→K (.bool (a s x).1) w')→Z3 P f [.agg cs.toArray] w1 K)
 (h: ∀w',Kpt D w w'→b (J8 a m xs 0).2 w'→K (I (L2 (J8 a m xs 0).1)) w'):Q0 P F.a4 [v,f] w K:=Xv (by
 unfold C6
 ((try simp only[↓M1,M1,Mb,reduceIte]);repeat ((first | refine ld (by assumption) (by assumption) rfl ?_ | refine Y0 (by assumption) (by assumption) rfl ?_ | refine X0 (by assumption) ?_);(try simp only[↓M1,M1,Mb,reduceIte])))
 refine U4 xs.length (fun n w'=>Kpt D w w'∧ ∃s,b s w'∧J8 a m xs 0=J8 a s (xs.drop n) n) ⟨Kpt.refl,m,C,rfl⟩ fun n w1 d E j=>?_
 obtain ⟨t,s,j,g⟩:=j
 have o:=l s w1 j
 ((try simp only[↓M1,M1,Mb,reduceIte]);repeat ((first | refine ld (by assumption) (by assumption) rfl ?_ | refine Y0 (by assumption) (by assumption) rfl ?_ | refine X0 (by assumption) ?_);(try simp only[↓M1,M1,Mb,reduceIte])))
 refine Q6 (fun r=>?_) (fun r=>?_)
 ·have c:n<xs.length:=by simpa using r
  refine M6 u c fun p cs y e z=>?_
  refine Z2 o y e ?_
  refine B s xs[n] cs w1 _ (List.getElem_mem c) t j z e fun A k i=>?_
  rw[List.drop_eq_getElem_cons c] at g
  simp only[J8] at g
  refine Q6 (fun q=>?_) (fun q=>?_)
  ·rw[q] at g
   have:=h A k
   rw[g] at this
   exact this i
  ·rw[q] at g
   ((try simp only[↓M1,M1,Mb,reduceIte]);repeat ((first | refine ld (by assumption) (by assumption) rfl ?_ | refine Y0 (by assumption) (by assumption) rfl ?_ | refine X0 (by assumption) ?_);(try simp only[↓M1,M1,Mb,reduceIte])))
   exact Y6 u.max c ⟨k,_,i,by simpa using g⟩
 ·have c: ¬n<xs.length:=by simpa using r
  rw[List.drop_eq_nil_of_le (by omega)] at g
  have:=h w1 t
  rw[g] at this
  exact this j)
theorem Sm {β:Type} {xs:List Ins} {v f:Value} (b:β→Ins→Bool×β) (d:β) (a:β→World→Prop) (D:Nat→Prop) (c: ∀s w,a s w→X4 w σ) (k:a d w) (i:Sl 3 I0 σ v xs)
 (j: ∀s x cs (w1:World) (K:Value→World→Prop),x∈xs→Kpt D w w1→a s w1→I0 σ x cs→cs.length=3→(∀w',Kpt D w w'→a (b s x).2 w'→K (.bool (b s x).1) w')→Z3 P f [.agg cs.toArray] w1 K)
 (h: ∀w',Kpt D w w'→a (J8 b d xs 0).2 w'→K (.bool (J8 b d xs 0).1.isSome) w'):Q0 P F.p [v,f] w K:=Qr (by
 unfold R4
 refine Fv b d a D c k i j fun w1 g e=>?_
 (try simp only[↓M1,M1,Mb,reduceIte])
 rw[Pf]
 exact h w1 g e)
theorem Hx {xs:List Ins} {v f:Value} (p:Ins→Bool) (hs:X4 w σ) (hv:Sl 3 I0 σ v xs)
 (hf: ∀x cs (w1:World) (K:Value→World→Prop),x∈xs→X4 w1 σ→I0 σ x cs→cs.length=3→(∀w',Below w1.heap.size w1 w'→K (.bool (p x)) w')→Z3 P f [.agg cs.toArray] w1 K)
 (h: ∀w',Below w.heap.size w w'→K (.bool (xs.any p)) w'):Q0 P F.p [v,f] w K:=by
 refine Sm (fun (_:Unit) x=>(p x,())) () (fun _ w'=>Below w.heap.size w w') (fun _=>False) (fun _ w' hb=>hs.below hb) (Below.refl _ _) hv (fun s x cs w1 K hx hk hi hr hl hK=>hf x cs w1 K hx (hs.below hi) hr hl fun w' hb=>hK w' (.of_below (bt hi hb)) (bt hi hb)) fun w' hk hi=>?_
 rw[T2]
 simpa using h w' hi
theorem Gj {β:Type} {xs:List Cat} {v f:Value} (a:β→Cat→Bool×β) (m:β) (b:β→World→Prop) (D:Nat→Prop) (l: ∀s w,b s w→X4 w σ) (C:b m w) (u:Sl 4 Yk σ v xs)
 (B: ∀s x cs (w1:World) (K:Value→World→Prop),x∈xs→Kpt D w w1→b s w1→Yk σ x cs→cs.length=4→(∀w',Kpt D w w'→b (a s x).2 w'→K (.bool (a s x).1) w')→Z3 P f [.agg cs.toArray] w1 K)
 (h: ∀w',Kpt D w w'→b (J8 a m xs 0).2 w'→K (I (L2 (J8 a m xs 0).1)) w'):Q0 P F.a5 [v,f] w K:=Ye (by
 unfold C8
 ((try simp only[↓M1,M1,Mb,reduceIte]);repeat ((first | refine ld (by assumption) (by assumption) rfl ?_ | refine Y0 (by assumption) (by assumption) rfl ?_ | refine X0 (by assumption) ?_);(try simp only[↓M1,M1,Mb,reduceIte])))
 refine U4 xs.length (fun n w'=>Kpt D w w'∧ ∃s,b s w'∧J8 a m xs 0=J8 a s (xs.drop n) n) ⟨Kpt.refl,m,C,rfl⟩ fun n w1 d E j=>?_
 obtain ⟨t,s,j,g⟩:=j
 have o:=l s w1 j
 ((try simp only[↓M1,M1,Mb,reduceIte]);repeat ((first | refine ld (by assumption) (by assumption) rfl ?_ | refine Y0 (by assumption) (by assumption) rfl ?_ | refine X0 (by assumption) ?_);(try simp only[↓M1,M1,Mb,reduceIte])))
 refine Q6 (fun r=>?_) (fun r=>?_)
 ·have c:n<xs.length:=by simpa using r
  refine M6 u c fun p cs y e z=>?_
  refine Z2 o y e ?_
  refine B s xs[n] cs w1 _ (List.getElem_mem c) t j z e fun A k i=>?_
  rw[List.drop_eq_getElem_cons c] at g
  simp only[J8] at g
  refine Q6 (fun q=>?_) (fun q=>?_)
  ·rw[q] at g
   have:=h A k
   rw[g] at this
   exact this i
  ·rw[q] at g
   ((try simp only[↓M1,M1,Mb,reduceIte]);repeat ((first | refine ld (by assumption) (by assumption) rfl ?_ | refine Y0 (by assumption) (by assumption) rfl ?_ | refine X0 (by assumption) ?_);(try simp only[↓M1,M1,Mb,reduceIte])))
   exact Y6 u.max c ⟨k,_,i,by simpa using g⟩
 ·have c: ¬n<xs.length:=by simpa using r
  rw[List.drop_eq_nil_of_le (by omega)] at g
  have:=h w1 t
  rw[g] at this
  exact this j)
theorem Rn {β:Type} {xs:List Cat} {v f:Value} (b:β→Cat→Bool×β) (d:β) (a:β→World→Prop) (D:Nat→Prop) (c: ∀s w,a s w→X4 w σ) (k:a d w) (i:Sl 4 Yk σ v xs)
 (j: ∀s x cs (w1:World) (K:Value→World→Prop),x∈xs→Kpt D w w1→a s w1→Yk σ x cs→cs.length=4→(∀w',Kpt D w w'→a (b s x).2 w'→K (.bool (b s x).1) w')→Z3 P f [.agg cs.toArray] w1 K)
 (h: ∀w',Kpt D w w'→a (J8 b d xs 0).2 w'→K (.bool (J8 b d xs 0).1.isSome) w'):Q0 P F.q [v,f] w K:=Qq (by
 unfold R5
 refine Gj b d a D c k i j fun w1 g e=>?_
 (try simp only[↓M1,M1,Mb,reduceIte])
 rw[Pf]
 exact h w1 g e)
theorem Hz {xs:List Cat} {v f:Value} (p:Cat→Bool) (hs:X4 w σ) (hv:Sl 4 Yk σ v xs)
 (hf: ∀x cs (w1:World) (K:Value→World→Prop),x∈xs→X4 w1 σ→Yk σ x cs→cs.length=4→(∀w',Below w1.heap.size w1 w'→K (.bool (p x)) w')→Z3 P f [.agg cs.toArray] w1 K)
 (h: ∀w',Below w.heap.size w w'→K (.bool (xs.any p)) w'):Q0 P F.q [v,f] w K:=by
 refine Rn (fun (_:Unit) x=>(p x,())) () (fun _ w'=>Below w.heap.size w w') (fun _=>False) (fun _ w' hb=>hs.below hb) (Below.refl _ _) hv (fun s x cs w1 K hx hk hi hr hl hK=>hf x cs w1 K hx (hs.below hi) hr hl fun w' hb=>hK w' (.of_below (bt hi hb)) (bt hi hb)) fun w' hk hi=>?_
 rw[T2]
 simpa using h w' hi
theorem Gn {β:Type} {xs:List Cla} {v f:Value} (a:β→Cla→Bool×β) (m:β) (b:β→World→Prop) (D:Nat→Prop) (l: ∀s w,b s w→X4 w σ) (C:b m w) (u:Sl 8 V4 σ v xs)
 (B: ∀s x cs (w1:World) (K:Value→World→Prop),x∈xs→Kpt D w w1→b s w1→V4 σ x cs→cs.length=8→(∀w',Kpt D w w'→b (a s x).2 w'→K (.bool (a s x).1) w')→Z3 P f [.agg cs.toArray] w1 K)
 (h: ∀w',Kpt D w w'→b (J8 a m xs 0).2 w'→K (I (L2 (J8 a m xs 0).1)) w'):Q0 P F.s [v,f] w K:=Yc (by
 unfold C5
 ((try simp only[↓M1,M1,Mb,reduceIte]);repeat ((first | refine ld (by assumption) (by assumption) rfl ?_ | refine Y0 (by assumption) (by assumption) rfl ?_ | refine X0 (by assumption) ?_);(try simp only[↓M1,M1,Mb,reduceIte])))
 refine U4 xs.length (fun n w'=>Kpt D w w'∧ ∃s,b s w'∧J8 a m xs 0=J8 a s (xs.drop n) n) ⟨Kpt.refl,m,C,rfl⟩ fun n w1 d E j=>?_
 obtain ⟨t,s,j,g⟩:=j
 have o:=l s w1 j
 ((try simp only[↓M1,M1,Mb,reduceIte]);repeat ((first | refine ld (by assumption) (by assumption) rfl ?_ | refine Y0 (by assumption) (by assumption) rfl ?_ | refine X0 (by assumption) ?_);(try simp only[↓M1,M1,Mb,reduceIte])))
 refine Q6 (fun r=>?_) (fun r=>?_)
 ·have c:n<xs.length:=by simpa using r
  refine M6 u c fun p cs y e z=>?_
  refine Z2 o y e ?_
  refine B s xs[n] cs w1 _ (List.getElem_mem c) t j z e fun A k i=>?_
  rw[List.drop_eq_getElem_cons c] at g
  simp only[J8] at g
  refine Q6 (fun q=>?_) (fun q=>?_)
  ·rw[q] at g
   have:=h A k
   rw[g] at this
   exact this i
  ·rw[q] at g
   ((try simp only[↓M1,M1,Mb,reduceIte]);repeat ((first | refine ld (by assumption) (by assumption) rfl ?_ | refine Y0 (by assumption) (by assumption) rfl ?_ | refine X0 (by assumption) ?_);(try simp only[↓M1,M1,Mb,reduceIte])))
   exact Y6 u.max c ⟨k,_,i,by simpa using g⟩
 ·have c: ¬n<xs.length:=by simpa using r
  rw[List.drop_eq_nil_of_le (by omega)] at g
  have:=h w1 t
  rw[g] at this
  exact this j)
theorem Fk {xs:List Cla} {v f:Value} (p:Cla→Bool) (hs:X4 w σ) (hv:Sl 8 V4 σ v xs)
 (hf: ∀x cs (w1:World) (K:Value→World→Prop),x∈xs→X4 w1 σ→V4 σ x cs→cs.length=8→(∀w',Below w1.heap.size w1 w'→K (.bool (p x)) w')→Z3 P f [.agg cs.toArray] w1 K)
 (h: ∀w',Below w.heap.size w w'→K (I (L2 (xs.findIdx? p))) w'):Q0 P F.s [v,f] w K:=by
 refine Gn (fun (_:Unit) x=>(p x,())) () (fun _ w'=>Below w.heap.size w w') (fun _=>False) (fun _ w' hb=>hs.below hb) (Below.refl _ _) hv (fun s x cs w1 K hx hk hi hr hl hK=>hf x cs w1 K hx (hs.below hi) hr hl fun w' hb=>hK w' (.of_below (bt hi hb)) (bt hi hb)) fun w' hk hi=>?_
 rw[T2]
 simpa using h w' hi
theorem Q0I {β:Type} {xs:List Q9} {v f:Value} (a:β→Q9→Bool×β) (m:β) (b:β→World→Prop) (D:Nat→Prop) (k: ∀s w,b s w→X4 w σ) (E:b m w) (y:Sl 1 X9 σ v xs)
 (C: ∀s x (w1:World) (K:Value→World→Prop),x∈xs→Kpt D w w1→b s w1→x.length≤Y9→(∀w',Kpt D w w'→b (a s x).2 w'→K (.bool (a s x).1) w')→Z3 P f [S x] w1 K)
 (h: ∀w',Kpt D w w'→b (J8 a m xs 0).2 w'→K (I (L2 (J8 a m xs 0).1)) w'):Q0 P F.x [v,f] w K:=Um (by
 unfold K1
 ((try simp only[↓M1,M1,Mb,reduceIte]);repeat ((first | refine ld (by assumption) (by assumption) rfl ?_ | refine Y0 (by assumption) (by assumption) rfl ?_ | refine X0 (by assumption) ?_);(try simp only[↓M1,M1,Mb,reduceIte])))
 refine U4 xs.length (fun n w'=>Kpt D w w'∧ ∃s,b s w'∧J8 a m xs 0=J8 a s (xs.drop n) n) ⟨Kpt.refl,m,E,rfl⟩ fun n w1 d H i=>?_
 obtain ⟨u,s,i,e⟩:=i
 have o:=k s w1 i
 ((try simp only[↓M1,M1,Mb,reduceIte]);repeat ((first | refine ld (by assumption) (by assumption) rfl ?_ | refine Y0 (by assumption) (by assumption) rfl ?_ | refine X0 (by assumption) ?_);(try simp only[↓M1,M1,Mb,reduceIte])))
 refine Q6 (fun r=>?_) (fun r=>?_)
 ·have c:n<xs.length:=by simpa using r
  refine M6 y c fun p cs z t A=>?_
  obtain ⟨rfl,l⟩:=A
  refine Y0 o z rfl ?_
  refine C s xs[n] w1 _ (List.getElem_mem c) u i l fun B j g=>?_
  rw[List.drop_eq_getElem_cons c] at e
  simp only[J8] at e
  refine Q6 (fun q=>?_) (fun q=>?_)
  ·rw[q] at e
   have:=h B j
   rw[e] at this
   exact this g
  ·rw[q] at e
   ((try simp only[↓M1,M1,Mb,reduceIte]);repeat ((first | refine ld (by assumption) (by assumption) rfl ?_ | refine Y0 (by assumption) (by assumption) rfl ?_ | refine X0 (by assumption) ?_);(try simp only[↓M1,M1,Mb,reduceIte])))
   exact Y6 y.max c ⟨j,_,g,by simpa using e⟩
 ·have c: ¬n<xs.length:=by simpa using r
  rw[List.drop_eq_nil_of_le (by omega)] at e
  have:=h w1 u
  rw[e] at this
  exact this i)
theorem Q05 {xs:List Q9} {v f:Value} (p:Q9→Bool) (hs:X4 w σ) (hv:Sl 1 X9 σ v xs)
 (hf: ∀x (w1:World) (K:Value→World→Prop),x∈xs→X4 w1 σ→x.length≤Y9→(∀w',Below w1.heap.size w1 w'→K (.bool (p x)) w')→Z3 P f [S x] w1 K)
 (h: ∀w',Below w.heap.size w w'→K (I (L2 (xs.findIdx? p))) w'):Q0 P F.x [v,f] w K:=by
 refine Q0I (fun (_:Unit) x=>(p x,())) () (fun _ w'=>Below w.heap.size w w') (fun _=>False) (fun _ w' hb=>hs.below hb) (Below.refl _ _) hv (fun s x w1 K hx hk hi hr hK=>hf x w1 K hx (hs.below hi) hr fun w' hb=>hK w' (.of_below (bt hi hb)) (bt hi hb)) fun w' hk hi=>?_
 rw[T2]
 simpa using h w' hi
theorem Q6R {α:Type} (p:α→Bool) (xs:List α):decide ((0:Int)≤L2 (xs.findIdx? p))=xs.any p:=by
 rw[Bool.eq_iff_iff,List.any_eq_true]
 simp only[decide_eq_true_eq]
 cases h:xs.findIdx? p with
 | none=>
  simp only[L2]
  constructor
  ·intro h;omega
  ·rintro ⟨x,b,a⟩;have:=List.findIdx?_eq_none_iff.1 h x b;rw[a] at this;cases this
 | some i=>
  simp only[L2]
  obtain ⟨c,a,_⟩:=List.findIdx?_eq_some_iff_getElem.1 h
  exact ⟨fun _=>⟨xs[i],List.getElem_mem c,a⟩,fun _=>by omega⟩
theorem I2 {xs:List Q9} {v f:Value} (p:Q9→Bool) (a:X4 w σ) (d:Sl 1 X9 σ v xs)
 (b: ∀x (w1:World) (K:Value→World→Prop),x∈xs→X4 w1 σ→x.length≤Y9→(∀w',Below w1.heap.size w1 w'→K (.bool (p x)) w')→Z3 P f [S x] w1 K)
 (h: ∀w',Below w.heap.size w w'→K (.bool (xs.any p)) w'):Q0 P F.e [v,f] w K:=Zk (by
 unfold F9
 refine Q05 p a d b fun w1 c=>?_
 (try simp only[↓M1,M1,Mb,reduceIte])
 rw[Q6R]
 exact h w1 c)
theorem Q3t {xs:List Q9} {v:Value} {x:Q9} (r:X4 w σ) (i:Sl 1 X9 σ v xs)
 (h:K (I (L2 (xs.findIdx? fun y=>decide (x=y)))) w):Q0 P F.av [v,S x] w K:=Lr (by
 unfold Qd
 ((try simp only[↓M1,M1,Mb,reduceIte]);repeat ((first | refine ld (by assumption) (by assumption) rfl ?_ | refine Y0 (by assumption) (by assumption) rfl ?_ | refine X0 (by assumption) ?_);(try simp only[↓M1,M1,Mb,reduceIte])))
 refine U4 xs.length (fun n w'=>w=w'∧(xs.take n).any (fun y=>decide (x=y))=false) ⟨rfl,rfl⟩ fun n w1 d q b=>?_
 obtain ⟨rfl,b⟩:=b
 ((try simp only[↓M1,M1,Mb,reduceIte]);repeat ((first | refine ld (by assumption) (by assumption) rfl ?_ | refine Y0 (by assumption) (by assumption) rfl ?_ | refine X0 (by assumption) ?_);(try simp only[↓M1,M1,Mb,reduceIte])))
 refine Q6 (fun e=>?_) (fun e=>?_)
 ·have a:n<xs.length:=by simpa using e
  refine M6 i a fun p cs o f l=>?_
  obtain ⟨rfl,g⟩:=l
  ((try simp only[↓M1,M1,Mb,reduceIte]);repeat ((first | refine ld (by assumption) (by assumption) rfl ?_ | refine Y0 (by assumption) (by assumption) rfl ?_ | refine X0 (by assumption) ?_);(try simp only[↓M1,M1,Mb,reduceIte])))
  refine Q6 (fun c=>?_) (fun c=>?_)
  ·have:xs.findIdx? (fun y=>decide (x=y))=some n:=by
    rw[List.findIdx?_eq_some_iff_getElem]
    refine ⟨a,c,fun j m=>?_⟩
    have:=List.any_eq_false.1 b (xs[j]) (List.mem_take_iff_getElem.2 ⟨j,by omega,rfl⟩)
    exact this
   rw[this] at h;exact h
  ·((try simp only[↓M1,M1,Mb,reduceIte]);repeat ((first | refine ld (by assumption) (by assumption) rfl ?_ | refine Y0 (by assumption) (by assumption) rfl ?_ | refine X0 (by assumption) ?_);(try simp only[↓M1,M1,Mb,reduceIte])))
   exact Y6 i.max a ⟨rfl,by rw[N0 a,b,c];rfl⟩
 ·have a: ¬n<xs.length:=by simpa using e
  rw[E0 a] at b
  have:xs.findIdx? (fun y=>decide (x=y))=none:=by
   rw[List.findIdx?_eq_none_iff];intro y k;simpa using List.any_eq_false.1 b y k
  rw[this] at h;exact h)
theorem Q1r {xs:List Q9} {v:Value} {x:Q9} (a:X4 w σ) (b:Sl 1 X9 σ v xs)
 (h:K (.bool (xs.any fun y=>decide (x=y))) w):Q0 P F.ag [v,S x] w K:=Vc (by
 unfold K5
 refine Q3t a b ?_
 (try simp only[↓M1,M1,Mb,reduceIte])
 rw[Q6R]
 exact h)
end Go.Proofs.YtfppjenblllfaaaGreatDoor

namespace Go.Emb
abbrev Q4.Le (σ σ':Q4):Prop:= ∀b o,σ b=some o→σ' b=some o
def R1 {α:Type} (f:α→List UInt8):List α→List α→Bool
 | _,[]=>true
 | seen,x::r=> !(seen.any fun y=>decide (f y=f x))&&R1 f (seen++[x]) r
theorem Vf {α:Type} (p:α→Bool) (xs:List α):(!xs.any fun x=> !p x)=xs.all p:=by
 rw[List.all_eq_not_any_not]
end Go.Emb
namespace Go.Proofs.YtfppjenblllfaaaGreatDoor
open Go.Emb Go.RowKit Go.Kd Go.Hm
variable {w : World} {K : Value → World → Prop} {σ : Q4}
theorem Q0T {xs:List Hm.Met} {v:Value} {fn:Fn} {m d:Array Value} (p:Hm.Met→Bool) (A:X4 w σ) (t:Sl 7 L9 σ v xs)
 (B: ∀(σ1:Q4) x cs (w1:World) (K:Value→World→Prop),σ.Le σ1→x∈xs→X4 w1 σ1→L9 σ1 x cs→cs.length=7→(∀w',Below w1.heap.size w1 w'→K (.bool (p x)) w')→Z3 P (.func fn m d) [.agg cs.toArray] w1 K)
 (h: ∀w',Below w.heap.size w w'→K (.bool (xs.all p)) w'):Q0 P F.ao [v, .func fn m d] w K:=Rt (by
 unfold Jl
 refine N7 A fun a w1 σ1 f n=>?_
 simp only[Value.cells] at n
 ((try simp only[↓M1,M1,Mb,reduceIte]);repeat ((first | refine ld (by assumption) (by assumption) rfl ?_ | refine Y0 (by assumption) (by assumption) rfl ?_ | refine X0 (by assumption) ?_);(try simp only[↓M1,M1,Mb,reduceIte])))
 refine C3 (fun x=> !p x) f.sat (t.up f) (fun x cs l K r j u k q=>?_) fun l z=>?_
 ·refine X8 (Er ?_)
  unfold Ym
  refine N7 j fun b s y c i=>?_
  refine Y0 c.sat (n.up c) rfl ?_
  refine Z2 c.sat i k ?_
  refine B y x _ s _ (fun b o e=>c.le b o (f.le b o e)) r c.sat (Rep.up c.le u) k fun C g=>?_
  (try simp only[↓M1,M1,Mb,reduceIte])
  exact q C (bt c.bel g)
 ·(try simp only[↓M1,M1,Mb,reduceIte])
  rw[Vf]
  exact h l (bt f.bel z))
theorem Q1u {xs:List Fld} {v:Value} {fn:Fn} {m d:Array Value} (p:Fld→Bool) (A:X4 w σ) (t:Sl 3 E5 σ v xs)
 (B: ∀(σ1:Q4) x cs (w1:World) (K:Value→World→Prop),σ.Le σ1→x∈xs→X4 w1 σ1→E5 σ1 x cs→cs.length=3→(∀w',Below w1.heap.size w1 w'→K (.bool (p x)) w')→Z3 P (.func fn m d) [.agg cs.toArray] w1 K)
 (h: ∀w',Below w.heap.size w w'→K (.bool (xs.all p)) w'):Q0 P F.au [v, .func fn m d] w K:=Sy (by
 unfold Uf
 refine N7 A fun a w1 σ1 f n=>?_
 simp only[Value.cells] at n
 ((try simp only[↓M1,M1,Mb,reduceIte]);repeat ((first | refine ld (by assumption) (by assumption) rfl ?_ | refine Y0 (by assumption) (by assumption) rfl ?_ | refine X0 (by assumption) ?_);(try simp only[↓M1,M1,Mb,reduceIte])))
 refine Jm (fun x=> !p x) f.sat (t.up f) (fun x cs l K r j u k q=>?_) fun l z=>?_
 ·refine X8 (Hk ?_)
  unfold Zc
  refine N7 j fun b s y c i=>?_
  refine Y0 c.sat (n.up c) rfl ?_
  refine Z2 c.sat i k ?_
  refine B y x _ s _ (fun b o e=>c.le b o (f.le b o e)) r c.sat (Rep.up c.le u) k fun C g=>?_
  (try simp only[↓M1,M1,Mb,reduceIte])
  exact q C (bt c.bel g)
 ·(try simp only[↓M1,M1,Mb,reduceIte])
  rw[Vf]
  exact h l (bt f.bel z))
theorem Q1z {xs:List Ins} {v:Value} {fn:Fn} {m d:Array Value} (p:Ins→Bool) (A:X4 w σ) (t:Sl 3 I0 σ v xs)
 (B: ∀(σ1:Q4) x cs (w1:World) (K:Value→World→Prop),σ.Le σ1→x∈xs→X4 w1 σ1→I0 σ1 x cs→cs.length=3→(∀w',Below w1.heap.size w1 w'→K (.bool (p x)) w')→Z3 P (.func fn m d) [.agg cs.toArray] w1 K)
 (h: ∀w',Below w.heap.size w w'→K (.bool (xs.all p)) w'):Q0 P F.aw [v, .func fn m d] w K:=Su (by
 unfold Ud
 refine N7 A fun a w1 σ1 f n=>?_
 simp only[Value.cells] at n
 ((try simp only[↓M1,M1,Mb,reduceIte]);repeat ((first | refine ld (by assumption) (by assumption) rfl ?_ | refine Y0 (by assumption) (by assumption) rfl ?_ | refine X0 (by assumption) ?_);(try simp only[↓M1,M1,Mb,reduceIte])))
 refine Hx (fun x=> !p x) f.sat (t.up f) (fun x cs l K r j u k q=>?_) fun l z=>?_
 ·refine X8 (Hl ?_)
  unfold Zj
  refine N7 j fun b s y c i=>?_
  refine Y0 c.sat (n.up c) rfl ?_
  refine Z2 c.sat i k ?_
  refine B y x _ s _ (fun b o e=>c.le b o (f.le b o e)) r c.sat (Rep.up c.le u) k fun C g=>?_
  (try simp only[↓M1,M1,Mb,reduceIte])
  exact q C (bt c.bel g)
 ·(try simp only[↓M1,M1,Mb,reduceIte])
  rw[Vf]
  exact h l (bt f.bel z))
theorem Q1D {xs:List Cat} {v:Value} {fn:Fn} {m d:Array Value} (p:Cat→Bool) (A:X4 w σ) (t:Sl 4 Yk σ v xs)
 (B: ∀(σ1:Q4) x cs (w1:World) (K:Value→World→Prop),σ.Le σ1→x∈xs→X4 w1 σ1→Yk σ1 x cs→cs.length=4→(∀w',Below w1.heap.size w1 w'→K (.bool (p x)) w')→Z3 P (.func fn m d) [.agg cs.toArray] w1 K)
 (h: ∀w',Below w.heap.size w w'→K (.bool (xs.all p)) w'):Q0 P F.ax [v, .func fn m d] w K:=Sx (by
 unfold Uj
 refine N7 A fun a w1 σ1 f n=>?_
 simp only[Value.cells] at n
 ((try simp only[↓M1,M1,Mb,reduceIte]);repeat ((first | refine ld (by assumption) (by assumption) rfl ?_ | refine Y0 (by assumption) (by assumption) rfl ?_ | refine X0 (by assumption) ?_);(try simp only[↓M1,M1,Mb,reduceIte])))
 refine Hz (fun x=> !p x) f.sat (t.up f) (fun x cs l K r j u k q=>?_) fun l z=>?_
 ·refine X8 (Hn ?_)
  unfold Zf
  refine N7 j fun b s y c i=>?_
  refine Y0 c.sat (n.up c) rfl ?_
  refine Z2 c.sat i k ?_
  refine B y x _ s _ (fun b o e=>c.le b o (f.le b o e)) r c.sat (Rep.up c.le u) k fun C g=>?_
  (try simp only[↓M1,M1,Mb,reduceIte])
  exact q C (bt c.bel g)
 ·(try simp only[↓M1,M1,Mb,reduceIte])
  rw[Vf]
  exact h l (bt f.bel z))
theorem Fi {xs:List Q9} {v:Value} {fn:Fn} {g c:Array Value} (p:Q9→Bool) (o:X4 w σ) (l:Sl 1 X9 σ v xs)
 (r: ∀(σ1:Q4) x (w1:World) (K:Value→World→Prop),σ.Le σ1→x∈xs→X4 w1 σ1→x.length≤Y9→(∀w',Below w1.heap.size w1 w'→K (.bool (p x)) w')→Z3 P (.func fn g c) [S x] w1 K)
 (h: ∀w',Below w.heap.size w w'→K (.bool (xs.all p)) w'):Q0 P F.a8 [v, .func fn g c] w K:=Gt (by
 unfold Ll
 refine N7 o fun a w1 σ1 d i=>?_
 simp only[Value.cells] at i
 ((try simp only[↓M1,M1,Mb,reduceIte]);repeat ((first | refine ld (by assumption) (by assumption) rfl ?_ | refine Y0 (by assumption) (by assumption) rfl ?_ | refine X0 (by assumption) ?_);(try simp only[↓M1,M1,Mb,reduceIte])))
 refine I2 (fun x=> !p x) d.sat (l.up d) (fun x f K k b m j=>?_) fun f n=>?_
 ·refine X8 (Ba ?_)
  unfold Ve
  refine Y0 b i rfl ?_
  refine r σ1 x f _ d.le k b m fun q e=>?_
  (try simp only[↓M1,M1,Mb,reduceIte])
  exact j q e
 ·(try simp only[↓M1,M1,Mb,reduceIte])
  rw[Vf]
  exact h f (bt d.bel n))
theorem Q1A {xs:List Hm.Met} {v:Value} {fn:Fn} {E l:Array Value} (f:Hm.Met→Q9) (hs:X4 w σ) (B:Sl 7 L9 σ v xs)
 (Z: ∀(σ1:Q4) x cs (w1:World) (K:Value→World→Prop),σ.Le σ1→X4 w1 σ1→L9 σ1 x cs→cs.length=7→(∀w',Below w1.heap.size w1 w'→K (S (f x)) w')→Z3 P (.func fn E l) [.agg cs.toArray] w1 K)
 (h: ∀w',Below w.heap.size w w'→K (.bool (R1 f [] xs)) w'):Q0 P F.ar [v, .func fn E l] w K:=Sw (by
 unfold Ug
 refine N7 hs fun a w1 σ1 A ha=>?_
 simp only[Value.cells] at ha
 have N:=A.sat
 replace B:=B.up A
 ((try simp only[↓M1,M1,Mb,reduceIte]);repeat ((first | refine ld (by assumption) (by assumption) rfl ?_ | refine Y0 (by assumption) (by assumption) rfl ?_ | refine X0 (by assumption) ?_);(try simp only[↓M1,M1,Mb,reduceIte])))
 refine U4 xs.length (fun n w'=>Below w1.heap.size w1 w'∧R1 f [] xs=R1 f (xs.take n) (xs.drop n)) ⟨Below.refl _ _,rfl⟩ fun n w2 d hn hi=>?_
 obtain ⟨i,m⟩:=hi
 have D:=N.below i
 ((try simp only[↓M1,M1,Mb,reduceIte]);repeat ((first | refine ld (by assumption) (by assumption) rfl ?_ | refine Y0 (by assumption) (by assumption) rfl ?_ | refine X0 (by assumption) ?_);(try simp only[↓M1,M1,Mb,reduceIte])))
 refine Q6 (fun Q=>?_) (fun Q=>?_)
 ·have k:n<xs.length:=by simpa using Q
  rw[List.drop_eq_getElem_cons k] at m
  simp only[R1] at m
  refine M6 B k fun p cs hl g X=>?_
  refine Z2 D hl g ?_
  refine Y5 D (by rfl) g (Rep.one X) fun q w3 σ3 j hq=>?_
  refine Bw (B.up j) none (some (I n)) 0 n (.inl ⟨rfl,rfl⟩) (.inr rfl) (by omega) (by omega) fun v' O=>?_
  ((try simp only[↓M1,M1,Mb,reduceIte]);repeat ((first | refine ld (by assumption) (by assumption) rfl ?_ | refine Y0 (by assumption) (by assumption) rfl ?_ | refine X0 (by assumption) ?_);(try simp only[↓M1,M1,Mb,reduceIte])))
  refine C3 (fun y=>decide (f y=f xs[n])) j.sat O (fun y ys Y K hy J R u hK=>?_) fun Y H=>?_
  ·refine X8 (Hf ?_)
   unfold Zh
   refine N7 J fun b w5 U c V=>?_
   have z:=(ha.up j).up c
   have W:=hq.up c
   have s:σ.Le U:=fun b o e=>c.le b o (j.le b o (A.le b o e))
   refine Ot (Below.refl _ _) ?_
   refine X2 (.func fn E l) (fun w i=>Y0 (c.sat.below i) z rfl (X6 rfl)) ?_
   refine X2 (.agg ys.toArray) (fun w i=>Z2 (c.sat.below i) V u (X6 rfl)) ?_
   refine X2 (S (f y)) (fun t t' w i e e'=>by rw[e,e'];exact Z U y ys w _ s (c.sat.below i) (Rep.up c.le R) u fun w' L=>Q2O L rfl) ?_
   refine X2 (.func fn E l) (fun w i=>Y0 (c.sat.below i) z rfl (X6 rfl)) ?_
   refine X2 (.agg cs.toArray) (fun w i=>Z2 (c.sat.below i) W g (X6 rfl)) ?_
   rintro _ _ _ _ _ w6 C rfl rfl rfl rfl rfl
   refine Z U xs[n] cs w6 _ s (c.sat.below C) (Rep.up (fun b o e=>c.le b o (j.le b o e)) X) g fun w7 M=>?_
   (try simp only[↓M1,M1,Mb,reduceIte])
   exact hK w7 (bt (bt c.bel C) M)
  ·have r:=bt i (bt j.bel H)
   simp only[List.drop_zero,Nat.sub_zero] at*
   refine Q6 (fun hh=>?_) (fun hh=>?_)
   ·rw[hh] at m
    have:=h Y (bt A.bel r)
    rw[m] at this;exact this
   ·rw[hh] at m
    ((try simp only[↓M1,M1,Mb,reduceIte]);repeat ((first | refine ld (by assumption) (by assumption) rfl ?_ | refine Y0 (by assumption) (by assumption) rfl ?_ | refine X0 (by assumption) ?_);(try simp only[↓M1,M1,Mb,reduceIte])))
    refine Y6 B.max k ⟨r,?_⟩
    rw[m,List.take_add_one,List.getElem?_eq_getElem k];rfl
 ·have k: ¬n<xs.length:=by simpa using Q
  rw[List.drop_eq_nil_of_le (by omega)] at m
  have:=h w2 (bt A.bel i)
  rw[m] at this;exact this)
theorem Q2f {xs:List Fld} {v:Value} {fn:Fn} {E l:Array Value} (f:Fld→Q9) (hs:X4 w σ) (B:Sl 3 E5 σ v xs)
 (Z: ∀(σ1:Q4) x cs (w1:World) (K:Value→World→Prop),σ.Le σ1→X4 w1 σ1→E5 σ1 x cs→cs.length=3→(∀w',Below w1.heap.size w1 w'→K (S (f x)) w')→Z3 P (.func fn E l) [.agg cs.toArray] w1 K)
 (h: ∀w',Below w.heap.size w w'→K (.bool (R1 f [] xs)) w'):Q0 P F.aB [v, .func fn E l] w K:=Bk (by
 unfold Uy
 refine N7 hs fun a w1 σ1 A ha=>?_
 simp only[Value.cells] at ha
 have N:=A.sat
 replace B:=B.up A
 ((try simp only[↓M1,M1,Mb,reduceIte]);repeat ((first | refine ld (by assumption) (by assumption) rfl ?_ | refine Y0 (by assumption) (by assumption) rfl ?_ | refine X0 (by assumption) ?_);(try simp only[↓M1,M1,Mb,reduceIte])))
 refine U4 xs.length (fun n w'=>Below w1.heap.size w1 w'∧R1 f [] xs=R1 f (xs.take n) (xs.drop n)) ⟨Below.refl _ _,rfl⟩ fun n w2 d hn hi=>?_
 obtain ⟨i,m⟩:=hi
 have D:=N.below i
 ((try simp only[↓M1,M1,Mb,reduceIte]);repeat ((first | refine ld (by assumption) (by assumption) rfl ?_ | refine Y0 (by assumption) (by assumption) rfl ?_ | refine X0 (by assumption) ?_);(try simp only[↓M1,M1,Mb,reduceIte])))
 refine Q6 (fun Q=>?_) (fun Q=>?_)
 ·have k:n<xs.length:=by simpa using Q
  rw[List.drop_eq_getElem_cons k] at m
  simp only[R1] at m
  refine M6 B k fun p cs hl g X=>?_
  refine Z2 D hl g ?_
  refine Y5 D (by rfl) g (Rep.one X) fun q w3 σ3 j hq=>?_
  refine Bw (B.up j) none (some (I n)) 0 n (.inl ⟨rfl,rfl⟩) (.inr rfl) (by omega) (by omega) fun v' O=>?_
  ((try simp only[↓M1,M1,Mb,reduceIte]);repeat ((first | refine ld (by assumption) (by assumption) rfl ?_ | refine Y0 (by assumption) (by assumption) rfl ?_ | refine X0 (by assumption) ?_);(try simp only[↓M1,M1,Mb,reduceIte])))
  refine Jm (fun y=>decide (f y=f xs[n])) j.sat O (fun y ys Y K hy J R u hK=>?_) fun Y H=>?_
  ·refine X8 (Sh ?_)
   unfold Zu
   refine N7 J fun b w5 U c V=>?_
   have z:=(ha.up j).up c
   have W:=hq.up c
   have s:σ.Le U:=fun b o e=>c.le b o (j.le b o (A.le b o e))
   refine Ot (Below.refl _ _) ?_
   refine X2 (.func fn E l) (fun w i=>Y0 (c.sat.below i) z rfl (X6 rfl)) ?_
   refine X2 (.agg ys.toArray) (fun w i=>Z2 (c.sat.below i) V u (X6 rfl)) ?_
   refine X2 (S (f y)) (fun t t' w i e e'=>by rw[e,e'];exact Z U y ys w _ s (c.sat.below i) (Rep.up c.le R) u fun w' L=>Q2O L rfl) ?_
   refine X2 (.func fn E l) (fun w i=>Y0 (c.sat.below i) z rfl (X6 rfl)) ?_
   refine X2 (.agg cs.toArray) (fun w i=>Z2 (c.sat.below i) W g (X6 rfl)) ?_
   rintro _ _ _ _ _ w6 C rfl rfl rfl rfl rfl
   refine Z U xs[n] cs w6 _ s (c.sat.below C) (Rep.up (fun b o e=>c.le b o (j.le b o e)) X) g fun w7 M=>?_
   (try simp only[↓M1,M1,Mb,reduceIte])
   exact hK w7 (bt (bt c.bel C) M)
  ·have r:=bt i (bt j.bel H)
   simp only[List.drop_zero,Nat.sub_zero] at*
   refine Q6 (fun hh=>?_) (fun hh=>?_)
   ·rw[hh] at m
    have:=h Y (bt A.bel r)
    rw[m] at this;exact this
   ·rw[hh] at m
    ((try simp only[↓M1,M1,Mb,reduceIte]);repeat ((first | refine ld (by assumption) (by assumption) rfl ?_ | refine Y0 (by assumption) (by assumption) rfl ?_ | refine X0 (by assumption) ?_);(try simp only[↓M1,M1,Mb,reduceIte])))
    refine Y6 B.max k ⟨r,?_⟩
    rw[m,List.take_add_one,List.getElem?_eq_getElem k];rfl
 ·have k: ¬n<xs.length:=by simpa using Q
  rw[List.drop_eq_nil_of_le (by omega)] at m
  have:=h w2 (bt A.bel i)
  rw[m] at this;exact this)
theorem Q4R {xs:List Q9} {v:Value} {fn:Fn} {D k:Array Value} (f:Q9→Q9) (hs:X4 w σ) (A:Sl 1 X9 σ v xs)
 (V: ∀(σ1:Q4) x (w1:World) (K:Value→World→Prop),σ.Le σ1→X4 w1 σ1→x.length≤Y9→(∀w',Below w1.heap.size w1 w'→K (S (f x)) w')→Z3 P (.func fn D k) [S x] w1 K)
 (h: ∀w',Below w.heap.size w w'→K (.bool (R1 f [] xs)) w'):Q0 P F.aW [v, .func fn D k] w K:=Tx (by
 unfold Nt
 refine N7 hs fun a w1 σ1 u W=>?_
 simp only[Value.cells] at W
 have L:=u.sat
 replace A:=A.up u
 ((try simp only[↓M1,M1,Mb,reduceIte]);repeat ((first | refine ld (by assumption) (by assumption) rfl ?_ | refine Y0 (by assumption) (by assumption) rfl ?_ | refine X0 (by assumption) ?_);(try simp only[↓M1,M1,Mb,reduceIte])))
 refine U4 xs.length (fun n w'=>Below w1.heap.size w1 w'∧R1 f [] xs=R1 f (xs.take n) (xs.drop n)) ⟨Below.refl _ _,rfl⟩ fun n w2 d hn hi=>?_
 obtain ⟨i,l⟩:=hi
 have C:=L.below i
 ((try simp only[↓M1,M1,Mb,reduceIte]);repeat ((first | refine ld (by assumption) (by assumption) rfl ?_ | refine Y0 (by assumption) (by assumption) rfl ?_ | refine X0 (by assumption) ?_);(try simp only[↓M1,M1,Mb,reduceIte])))
 refine Q6 (fun O=>?_) (fun O=>?_)
 ·have g:n<xs.length:=by simpa using O
  rw[List.drop_eq_getElem_cons g] at l
  simp only[R1] at l
  refine M6 A g fun p cs hl R hr=>?_
  obtain ⟨rfl,z⟩:=hr
  refine Y0 C hl rfl ?_
  refine U6 C (by rfl) rfl rfl fun q w3 M j hq=>?_
  refine Bw (A.up j) none (some (I n)) 0 n (.inl ⟨rfl,rfl⟩) (.inr rfl) (by omega) (by omega) fun v' N=>?_
  ((try simp only[↓M1,M1,Mb,reduceIte]);repeat ((first | refine ld (by assumption) (by assumption) rfl ?_ | refine Y0 (by assumption) (by assumption) rfl ?_ | refine X0 (by assumption) ?_);(try simp only[↓M1,M1,Mb,reduceIte])))
  refine I2 (fun y=>decide (f y=f xs[n])) j.sat N (fun y U K hy c Q X=>?_) fun U E=>?_
  ·refine X8 (Fm ?_)
   unfold Vy
   have s:=W.up j
   have r:σ.Le M:=fun b o e=>j.le b o (u.le b o e)
   refine Ot (Below.refl _ _) ?_
   refine X2 (.func fn D k) (fun w i=>Y0 (c.below i) s rfl (X6 rfl)) ?_
   refine X2 (S (f y)) (fun t w i e=>by rw[e];exact V M y w _ r (c.below i) Q fun w' H=>Q2O H rfl) ?_
   refine X2 (.func fn D k) (fun w i=>Y0 (c.below i) s rfl (X6 rfl)) ?_
   refine X2 (S xs[n]) (fun w i=>Y0 (c.below i) hq rfl (X6 rfl)) ?_
   rintro _ _ _ _ Y B rfl rfl rfl rfl
   refine V M xs[n] Y _ r (c.below B) z fun Z J=>?_
   (try simp only[↓M1,M1,Mb,reduceIte])
   exact X Z (bt B J)
  ·have m:=bt i (bt j.bel E)
   simp only[List.drop_zero,Nat.sub_zero] at*
   refine Q6 (fun hh=>?_) (fun hh=>?_)
   ·rw[hh] at l
    have:=h U (bt u.bel m)
    rw[l] at this;exact this
   ·rw[hh] at l
    ((try simp only[↓M1,M1,Mb,reduceIte]);repeat ((first | refine ld (by assumption) (by assumption) rfl ?_ | refine Y0 (by assumption) (by assumption) rfl ?_ | refine X0 (by assumption) ?_);(try simp only[↓M1,M1,Mb,reduceIte])))
    refine Y6 A.max g ⟨m,?_⟩
    rw[l,List.take_add_one,List.getElem?_eq_getElem g];rfl
 ·have g: ¬n<xs.length:=by simpa using O
  rw[List.drop_eq_nil_of_le (by omega)] at l
  have:=h w2 (bt u.bel i)
  rw[l] at this;exact this)
theorem Q7w {P:Program} {w:World} (d:Nat) (t e:TypeId) (a:Option Addr) (n c:Nat) (h:P.underlying t=some (.slice e)):
 (Op.equalIn (d+1) t (.slice a n c) (.slice none 0 0)).run P w= .ok a.isNone w:=by
 cases a<;>simp[Op.equalIn,run_underlying h]
theorem Gi {t e:TypeId} {i d:Operand} [ts:TS P t e] {a:Option Addr} {n c:Nat} {b:Bool} (g:a.isNone=b) (f:K (.bool b) w):Q3 P .eql t i d (.slice a n c) (.slice none 0 0) w K:=by
 have j:(Op.equal t (.slice a n c) (.slice none 0 0)).run P w= .ok b w:=by
  have:=Q7w (P:=P) (w:=w) 9999 t e a n c ts.h
  rw[g] at this
  exact this
 unfold Q3
 rw[Y2 (v:= .bool b) (w':=w) (by simp[eqGuard,Go.binOp,j])]
 exact f
theorem Vv {xs:List Q9} {v:Value} (i:X4 w σ) (f:Sl 1 X9 σ v xs) (z:xs.length≤1000000)
 (h: ∀e w' b,Stp w σ w' b→Sl 1 X9 b e xs→K e w'):Q0 P F.b [v] w K:=T3 (by
 unfold C9
 have c:=f
 obtain ⟨a,n,rfl,u,t,r,A⟩:=f
 refine Gi rfl ?_
 refine Q6 (fun g=>?_) (fun g=>?_)
 ·have:a=none:=by simpa using g
  have C:=r this
  have j:xs=[]:=List.eq_nil_of_length_eq_zero (by omega)
  subst j
  exact h _ w σ (Stp.refl i) Sl.nil
 ·refine Xj (R:=X9) (sz:=1) (Stp.refl i) [] [] rfl rfl (by simp) (by rfl) trivial fun y w1 k q _=>?_
  refine app k q c (by rfl) (by simp only[List.length_nil];omega) (by simp only[List.length_nil];omega) fun B p s l d _=>?_
  obtain ⟨b,m,o,_⟩:=d.keep l
  exact h _ p b m o)
theorem Dq {xs:List Fld} {v:Value} (i:X4 w σ) (f:Sl 3 E5 σ v xs) (z:xs.length≤1000000)
 (h: ∀e w' b,Stp w σ w' b→Sl 3 E5 b e xs→K e w'):Q0 P F.aa [v] w K:=Zz (by
 unfold G9
 have c:=f
 obtain ⟨a,n,rfl,u,t,r,A⟩:=f
 refine Gi rfl ?_
 refine Q6 (fun g=>?_) (fun g=>?_)
 ·have:a=none:=by simpa using g
  have C:=r this
  have j:xs=[]:=List.eq_nil_of_length_eq_zero (by omega)
  subst j
  exact h _ w σ (Stp.refl i) Sl.nil
 ·refine Xj (R:=E5) (sz:=3) (Stp.refl i) [] [] rfl rfl (by simp) (by rfl) trivial fun y w1 k q _=>?_
  refine app k q c (by rfl) (by simp only[List.length_nil];omega) (by simp only[List.length_nil];omega) fun B p s l d _=>?_
  obtain ⟨b,m,o,_⟩:=d.keep l
  exact h _ p b m o)
theorem Ea {xs:List Ins} {v:Value} (i:X4 w σ) (f:Sl 3 I0 σ v xs) (z:xs.length≤1000000)
 (h: ∀e w' b,Stp w σ w' b→Sl 3 I0 b e xs→K e w'):Q0 P F.ab [v] w K:=Jd (by
 unfold G4
 have c:=f
 obtain ⟨a,n,rfl,u,t,r,A⟩:=f
 refine Gi rfl ?_
 refine Q6 (fun g=>?_) (fun g=>?_)
 ·have:a=none:=by simpa using g
  have C:=r this
  have j:xs=[]:=List.eq_nil_of_length_eq_zero (by omega)
  subst j
  exact h _ w σ (Stp.refl i) Sl.nil
 ·refine Xj (R:=I0) (sz:=3) (Stp.refl i) [] [] rfl rfl (by simp) (by rfl) trivial fun y w1 k q _=>?_
  refine app k q c (by rfl) (by simp only[List.length_nil];omega) (by simp only[List.length_nil];omega) fun B p s l d _=>?_
  obtain ⟨b,m,o,_⟩:=d.keep l
  exact h _ p b m o)
theorem Dx {xs:List Cat} {v:Value} (i:X4 w σ) (f:Sl 4 Yk σ v xs) (z:xs.length≤1000000)
 (h: ∀e w' b,Stp w σ w' b→Sl 4 Yk b e xs→K e w'):Q0 P F.ac [v] w K:=Zy (by
 unfold G8
 have c:=f
 obtain ⟨a,n,rfl,u,t,r,A⟩:=f
 refine Gi rfl ?_
 refine Q6 (fun g=>?_) (fun g=>?_)
 ·have:a=none:=by simpa using g
  have C:=r this
  have j:xs=[]:=List.eq_nil_of_length_eq_zero (by omega)
  subst j
  exact h _ w σ (Stp.refl i) Sl.nil
 ·refine Xj (R:=Yk) (sz:=4) (Stp.refl i) [] [] rfl rfl (by simp) (by rfl) trivial fun y w1 k q _=>?_
  refine app k q c (by rfl) (by simp only[List.length_nil];omega) (by simp only[List.length_nil];omega) fun B p s l d _=>?_
  obtain ⟨b,m,o,_⟩:=d.keep l
  exact h _ p b m o)
end Go.Proofs.YtfppjenblllfaaaGreatDoor

namespace Go.Hm
open Go.Kd
structure Opr where
  name : Q9
  number : Bool
  text : Bool
deriving DecidableEq
def Zt:List Opr:=[
 ⟨[105,110,116],true,false⟩,
 ⟨[116,114,117,101],false,false⟩,
 ⟨[102,97,108,115,101],false,false⟩,
 ⟨[119,111,114,100],false,true⟩,
 ⟨[110,117,108,108],false,false⟩,
 ⟨[108,111,97,100],true,false⟩,
 ⟨[115,116,111,114,101],true,false⟩,
 ⟨[112,111,112],false,false⟩,
 ⟨[100,117,112],false,false⟩,
 ⟨[115,119,97,112],false,false⟩,
 ⟨[97,100,100],false,false⟩,
 ⟨[115,117,98],false,false⟩,
 ⟨[109,117,108],false,false⟩,
 ⟨[100,105,118],false,false⟩,
 ⟨[114,101,109],false,false⟩,
 ⟨[110,101,103],false,false⟩,
 ⟨[108,101,115,115],false,false⟩,
 ⟨[115,97,109,101],false,false⟩,
 ⟨[110,111,116],false,false⟩,
 ⟨[98,111,116,104],false,false⟩,
 ⟨[106,111,105,110],false,false⟩,
 ⟨[115,105,122,101],false,false⟩,
 ⟨[106,117,109,112],true,false⟩,
 ⟨[98,114,97,110,99,104],true,false⟩,
 ⟨[110,101,119],false,true⟩,
 ⟨[103,101,116],false,true⟩,
 ⟨[112,117,116],false,true⟩,
 ⟨[99,97,108,108],false,true⟩,
 ⟨[97,114,114,97,121],false,true⟩,
 ⟨[97,116],false,false⟩,
 ⟨[115,101,116],false,false⟩,
 ⟨[105,115],false,true⟩,
 ⟨[99,97,115,116],false,true⟩,
 ⟨[114,101,116,117,114,110],false,false⟩,
 ⟨[116,104,114,111,119],false,false⟩,
 ⟨[111,117,116],false,false⟩,
 ⟨[101,113,117,97,108],false,false⟩,
 ⟨[97,110,100],false,false⟩,
 ⟨[111,114],false,false⟩,
 ⟨[120,111,114],false,false⟩,
 ⟨[115,104,108],false,false⟩,
 ⟨[115,104,114],false,false⟩]
end Go.Hm
namespace Go.Emb
open Go.Hm
def ROp (_:Q4) (o:Opr) (cs:List Value):Prop:=cs=[S o.name, .bool o.number, .bool o.text]
def cOp (o:Opr):List Value:=[S o.name, .bool o.number, .bool o.text]
instance:Rep ROp:=⟨fun _ h=>h,fun h u hu=>by rw[h] at hu;simp at hu;rcases hu with rfl | rfl | rfl<;>rfl⟩
end Go.Emb
namespace Go.Proofs.YtfppjenblllfaaaGreatDoor
open Go.Emb Go.RowKit Go.Kd Go.Hm
variable {w : World} {K : Value → World → Prop} {σ : Q4}
theorem Q5D {a:Q9} (j:a.length≤Y9) (h: ∀w',Below w.heap.size w w'→K (.bool (M5 a)) w'):Q0 P F.bX [S a] w K:=Q3L (by
 unfold Bz
 have b:a.length≤140737488355328:=by simp only[Y9] at j;omega
 refine Q6f a b fun w1 f=>?_
 cases d:name a
 ·(try simp only[↓M1,M1,Mb,reduceIte])
  have:=h w1 f
  rwa [show M5 a=false by cases a with | nil=>rfl | cons c r=>simp[M5,d]] at this
 ·(try simp only[↓M1,M1,Mb,reduceIte])
  refine Hv a b fun m k=>?_
  (try simp only[↓M1,M1,Mb,reduceIte])
  have:=h m (bt f k)
  rwa [show M5 a= !W7 a by
   cases a with
   | nil=>simp[name] at d
   | cons c r=>
    obtain ⟨g,l⟩:=Kf d
    simp only[W7,M5,d,Bool.true_and]
    simp only[E9,l,Bool.or_false] at g
    cases e:Qt c.toNat<;>cases i:P7 c.toNat
    ·simp[e,i] at g
    ·rfl
    ·rfl
    ·exfalso
     simp only[Qt,P7,Bool.and_eq_true,decide_eq_true_eq] at e i
     omega] at this)
theorem X2p {t e:TypeId} {n sz by_:Nat} {z:Value} [ta:TA P t n e] [tz:TZ P e sz by_ z] {a:Addr} (c:K (.slice (some a) n n) w):R6 P t (.pointer (some a)) none none none w K:=by
 unfold R6
 have:(Instr.sliceAt t (.pointer (some a)) none none none).run P w= .ok (.slice (some (if n=0 then a else a.add (0*sz))) (n-0) (n-0)) w:=by
  simp[Instr.sliceAt,run_underlying ta.h,Instr.sureAddr,Instr.sliceBounds,W5 tz]
 rw[Y2 this]
 have b:(if n=0 then a else a.add (0*sz))=a:=by
  by_cases h:n=0
  ·rw[if_pos h]
  ·rw[if_neg h,Nat.zero_mul,add_zero]
 rw[b];exact c
def Q2v (σ:Q4):Prop:=Z0 σ ⟨G.a,0,none⟩ (Zt.flatMap cOp)
theorem Q7J (i:Nat) (o:Opr) (h:Zt[i]? =some o):((Zt.flatMap cOp).drop (i*3)).take 3=cOp o:=by
 have c:i<42:=(List.getElem?_eq_some_iff.1 h).1
 have key: ∀l:List Opr,∀i o,l[i]? =some o→((l.flatMap cOp).drop (i*3)).take 3=cOp o:=by
  intro l
  induction l with
  | nil=>intro i o h;simp at h
  | cons a r b=>
   intro i o h
   cases i with
   | zero=>simp at h;subst h;rfl
   | succ i=>
    have:=b i o (by simpa using h)
    rw[List.flatMap_cons,show (i+1)*3=(cOp a).length+i*3 by simp[cOp];omega,List.drop_append]
    simpa [List.drop_eq_nil_of_le] using this
 exact key _ i o h
theorem Q2S {σ:Q4} {a:Addr} {cs:List Value} (h:Z0 σ a cs) (i n:Nat):Z0 σ (a.add i) ((cs.drop i).take n):=by
 obtain ⟨g,E1,e,d,f,c⟩:=h
 refine ⟨K8 g _,E1,e,d,by rw[B5];exact f,fun j v b=>?_⟩
 rw[List.getElem?_take] at b
 split at b
 ·rw[List.getElem?_drop] at b
  rw[Yr,Nat.add_assoc];exact c _ _ b
 ·cases b
theorem X3X (h:Q2v σ):Sl 3 ROp σ (.slice (some ⟨G.a,0,none⟩) 42 42) Zt:=by
 refine ⟨_,42,rfl,by decide,by decide,by simp,?_⟩
 rintro _ ⟨⟩
 refine ⟨fun _=>rfl,fun i x a=>⟨cOp x,?_,rfl,rfl⟩⟩
 rw[←Q7J i x a]
 exact Q2S h (i*3) 3
theorem Aj {β:Type} {xs:List Opr} {v f:Value} (a:β→Opr→Bool×β) (m:β) (b:β→World→Prop) (D:Nat→Prop) (l: ∀s w,b s w→X4 w σ) (C:b m w) (u:Sl 3 ROp σ v xs)
 (B: ∀s x cs (w1:World) (K:Value→World→Prop),x∈xs→Kpt D w w1→b s w1→ROp σ x cs→cs.length=3→(∀w',Kpt D w w'→b (a s x).2 w'→K (.bool (a s x).1) w')→Z3 P f [.agg cs.toArray] w1 K)
 (h: ∀w',Kpt D w w'→b (J8 a m xs 0).2 w'→K (I (L2 (J8 a m xs 0).1)) w'):Q0 P F.v [v,f] w K:=Zo (by
 unfold G5
 ((try simp only[↓M1,M1,Mb,reduceIte]);repeat ((first | refine ld (by assumption) (by assumption) rfl ?_ | refine Y0 (by assumption) (by assumption) rfl ?_ | refine X0 (by assumption) ?_);(try simp only[↓M1,M1,Mb,reduceIte])))
 refine U4 xs.length (fun n w'=>Kpt D w w'∧ ∃s,b s w'∧J8 a m xs 0=J8 a s (xs.drop n) n) ⟨Kpt.refl,m,C,rfl⟩ fun n w1 d E j=>?_
 obtain ⟨t,s,j,g⟩:=j
 have o:=l s w1 j
 ((try simp only[↓M1,M1,Mb,reduceIte]);repeat ((first | refine ld (by assumption) (by assumption) rfl ?_ | refine Y0 (by assumption) (by assumption) rfl ?_ | refine X0 (by assumption) ?_);(try simp only[↓M1,M1,Mb,reduceIte])))
 refine Q6 (fun r=>?_) (fun r=>?_)
 ·have c:n<xs.length:=by simpa using r
  refine M6 u c fun p cs y e z=>?_
  refine Z2 o y e ?_
  refine B s xs[n] cs w1 _ (List.getElem_mem c) t j z e fun A k i=>?_
  rw[List.drop_eq_getElem_cons c] at g
  simp only[J8] at g
  refine Q6 (fun q=>?_) (fun q=>?_)
  ·rw[q] at g
   have:=h A k
   rw[g] at this
   exact this i
  ·rw[q] at g
   ((try simp only[↓M1,M1,Mb,reduceIte]);repeat ((first | refine ld (by assumption) (by assumption) rfl ?_ | refine Y0 (by assumption) (by assumption) rfl ?_ | refine X0 (by assumption) ?_);(try simp only[↓M1,M1,Mb,reduceIte])))
   exact Y6 u.max c ⟨k,_,i,by simpa using g⟩
 ·have c: ¬n<xs.length:=by simpa using r
  rw[List.drop_eq_nil_of_le (by omega)] at g
  have:=h w1 t
  rw[g] at this
  exact this j)
theorem Td {xs:List Opr} {v f:Value} (p:Opr→Bool) (hs:X4 w σ) (hv:Sl 3 ROp σ v xs)
 (hf: ∀x cs (w1:World) (K:Value→World→Prop),x∈xs→X4 w1 σ→ROp σ x cs→cs.length=3→(∀w',Below w1.heap.size w1 w'→K (.bool (p x)) w')→Z3 P f [.agg cs.toArray] w1 K)
 (h: ∀w',Below w.heap.size w w'→K (I (L2 (xs.findIdx? p))) w'):Q0 P F.v [v,f] w K:=by
 refine Aj (fun (_:Unit) x=>(p x,())) () (fun _ w'=>Below w.heap.size w w') (fun _=>False) (fun _ w' hb=>hs.below hb) (Below.refl _ _) hv (fun s x cs w1 K hx hk hi hr hl hK=>hf x cs w1 K hx (hs.below hi) hr hl fun w' hb=>hK w' (.of_below (bt hi hb)) (bt hi hb)) fun w' hk hi=>?_
 rw[T2]
 simpa using h w' hi
theorem Q2v.le {σ a:Q4} (h:Q2v σ) (c: ∀b o,σ b=some o→a b=some o):Q2v a:=Z0.le h c
def Qf (n:Q9):Option Nat:=Zt.findIdx? fun o=>decide (o.name=n)
theorem X3D {a:Q9} (s:X4 w σ) (k:Q2v σ) (h: ∀w',Below w.heap.size w w'→K (I (L2 (Qf a))) w'):Q0 P F.cN [S a] w K:=Q7s (by
 unfold Q21
 refine N7 s fun p w1 σ1 c g=>?_
 simp only[Value.cells] at g
 refine X2p ?_
 ((try simp only[↓M1,M1,Mb,reduceIte]);repeat ((first | refine ld (by assumption) (by assumption) rfl ?_ | refine Y0 (by assumption) (by assumption) rfl ?_ | refine X0 (by assumption) ?_);(try simp only[↓M1,M1,Mb,reduceIte])))
 refine Td (fun o=>decide (o.name=a)) c.sat (X3X (k.le c.le)) (fun x cs f K u d m v j=>?_) fun f r=>?_
 ·refine X8 (Q4S ?_)
  unfold Pq
  refine N7 d fun q l y b n=>?_
  have e:cs=[S x.name, .bool x.number, .bool x.text]:=m
  subst e
  have i:=b.sat
  have t:=g.up b
  simp only[Value.cells] at n
  ((try simp only[↓M1,M1,Mb,reduceIte]);repeat ((first | refine ld (by assumption) (by assumption) rfl ?_ | refine Y0 (by assumption) (by assumption) rfl ?_ | refine X0 (by assumption) ?_);(try simp only[↓M1,M1,Mb,reduceIte])))
  exact j l b.bel
 ·(try simp only[↓M1,M1,Mb,reduceIte])
  exact h f (bt c.bel r))
def takes (n:Q9):Bool×Bool×Bool:=match Qf n with
 | none=>(false,false,false)
 | some i=>((Zt.getD i ⟨[],false,false⟩).number,(Zt.getD i ⟨[],false,false⟩).text,true)
theorem X2z {a:Q9} (l:X4 w σ) (j:Q2v σ) (h: ∀w',Below w.heap.size w w'→K (.tuple #[.bool (takes a).1, .bool (takes a).2.1, .bool (takes a).2.2]) w'):Q0 P F.cm [S a] w K:=Q6G (by
 unfold Q0b
 refine X3D l j fun w1 b=>?_
 have c:=l.below b
 unfold takes at h
 cases f:Qf a with
 | none=>
  rw[f] at h
  simp only[L2]
  (try simp only[↓M1,M1,Mb,reduceIte])
  simp only[show decide ((-1:Int)<0)=true from rfl,↓M1,M1,Mb,reduceIte]
  exact h w1 b
 | some i=>
  rw[f] at h
  simp only at h
  have m:i<42:=(List.findIdx?_eq_some_iff_getElem.1 f).1
  have k:Zt[i]? =some (Zt.getD i ⟨[],false,false⟩):=by
   rw[List.getD,List.getElem?_eq_getElem (by exact m)];rfl
  generalize Zt.getD i ⟨[],false,false⟩=o at h k
  have d:=Q2S j (i*3) 3
  rw[Q7J i o k] at d
  simp only[L2]
  have n:decide ((i:Int)<0)=false:=by simp
  simp only[n,↓M1,M1,Mb,reduceIte]
  have A: ∀{w:World} {K:Value→World→Prop},K (.pointer (some ((⟨G.a,0,none⟩:Addr).add (i*3)))) w→indexAddr P T.a9 (.pointer (some ⟨G.a,0,none⟩)) (I i) w K:=by
   intro w K h
   rw[Q5G (by omega) (by omega)]
   simpa using h
  refine Ot (Below.refl _ _) ?_
  refine X2 (.pointer (some ((⟨G.a,0,none⟩:Addr).add (i*3)))) (fun w b=>A (X6 rfl)) ?_
  refine X2 (.pointer (some (((⟨G.a,0,none⟩:Addr).add (i*3)).add 1))) (fun t w b e=>by rw[e,fa];exact X6 rfl) ?_
  refine X2 (.pointer (some ((⟨G.a,0,none⟩:Addr).add (i*3)))) (fun w b=>A (X6 rfl)) ?_
  refine X2 (.pointer (some (((⟨G.a,0,none⟩:Addr).add (i*3)).add 2))) (fun t w b e=>by rw[e,fa];exact X6 rfl) ?_
  refine X2 (.bool o.number) (fun t w b e=>by rw[e];exact ld (c.below b) d rfl (X6 rfl)) ?_
  refine X2 (.bool o.text) (fun t w b e=>by rw[e];exact ld (c.below b) d rfl (X6 rfl)) ?_
  rintro _ _ _ _ _ _ p g rfl rfl rfl rfl rfl rfl
  exact h p (bt b g))
end Go.Proofs.YtfppjenblllfaaaGreatDoor

namespace Go.Emb
open Go.RowKit Go.Hm
variable {P : Program} {w w0 w1 w' w'' : World} {K : Value → World → Prop} {σ σ0 σ1 σ' : Q4}
structure SLe (σ σ' : Q4) : Prop where
  le : ∀ b o, σ b = some o → σ' b = some o
theorem SLe.refl (σ:Q4):SLe σ σ:=⟨fun _ _ h=>h⟩
theorem SLe.step {w w':World} (h:SLe σ0 σ) (k:Stp w σ w' σ'):SLe σ0 σ':=⟨fun b o e=>k.le b o (h.le b o e)⟩
theorem SLe.more (h:SLe σ0 σ) (k:SLe σ σ'):SLe σ0 σ':=⟨fun b o e=>k.le b o (h.le b o e)⟩
structure Hst (w : World) (σ : Q4) (w' : World) (σ' : Q4) : Prop where
  stp : Stp w σ w' σ'
theorem Hst.sat (h:Hst w σ w' σ'):X4 w' σ':=h.stp.sat
section lifts
variable {α : Type} {R : Q4 → α → List Value → Prop} {sz : Nat} {v : Value} {xs : List α} {a : Addr} {cs : List Value}
theorem Sl.lift [Rep R] (h:Sl sz R σ0 v xs) (k:SLe σ0 σ):Sl sz R σ v xs:=h.le k.le
theorem Z0.lift (h:Z0 σ0 a cs) (k:SLe σ0 σ):Z0 σ a cs:=h.le k.le
theorem P6.lift {r:Nat} {m:List (List UInt8×Value)} (h:P6 σ0 r m) (k:SLe σ0 σ):P6 σ r m:=h.le k.le
theorem RMe_lift {x:Hm.Met} (h:L9 σ0 x cs) (k:SLe σ0 σ):L9 σ x cs:=Rep.up k.le h
theorem RCl_lift {x:Cla} (h:V4 σ0 x cs) (k:SLe σ0 σ):V4 σ x cs:=Rep.up k.le h
theorem RFd_any {x:Fld} (h:E5 σ0 x cs):E5 σ x cs:=h
theorem RIn_any {x:Ins} (h:I0 σ0 x cs):I0 σ x cs:=h
theorem RCa_any {x:Cat} (h:Yk σ0 x cs):Yk σ x cs:=h
theorem Z9.step {b:Nat} (h:Z9 σ w b cs) (k:Stp w σ w' σ'):Z9 σ' w' b cs:=h.up k
theorem V3.step [Rep R] {B:Nat} {e:TypeId} (h:V3 B e sz R σ w v xs) (k:Stp w σ w' σ'):V3 B e sz R σ' w' v xs:=h.up k
end lifts
theorem L1 {Q:World→Prop} (c:X4 w σ) (h: ∀w' σ',Stp w σ w' σ'→Q w'): ∀w',Below w.heap.size w w'→Q w':=fun w' d=>h w' σ (Stp.of_below c d)
section plain
variable {k : IntKind} {t : TypeId} {ox oy : Operand} {a b : Int} {x y : Bool} {s u : List UInt8}
theorem H3 (h:K (.int k (k.wrap (a+b))) w):Q3 P .add t ox oy (.int k a) (.int k b) w K:=by rw[Bv];exact h
theorem Q5i (h:K (.int k (k.wrap (a-b))) w):Q3 P .sub t ox oy (.int k a) (.int k b) w K:=by rw[Q17];exact h
theorem Gh (c: -9223372036854775808≤a+b∧a+b≤9223372036854775807) (h:K (I (a+b)) w):Q3 P .add t ox oy (I a) (I b) w K:=by rw[Bv,F3 c.1 c.2];exact h
theorem Hu (c: -9223372036854775808≤a-b∧a-b≤9223372036854775807) (h:K (I (a-b)) w):Q3 P .sub t ox oy (I a) (I b) w K:=by rw[Q17,F3 c.1 c.2];exact h
theorem Z4 (h:K (.bool (decide (a<b))) w):Q3 P .lss t ox oy (.int k a) (.int k b) w K:=by rw[Q3N];exact h
theorem X4g (h:K (.bool (decide (a≤b))) w):Q3 P .leq t ox oy (.int k a) (.int k b) w K:=by rw[Q3K];exact h
theorem Ci (h:K (.bool (decide (b<a))) w):Q3 P .gtr t ox oy (.int k a) (.int k b) w K:=by rw[Q3B];exact h
theorem G1 (h:K (.bool (decide (b≤a))) w):Q3 P .geq t ox oy (.int k a) (.int k b) w K:=by rw[Q1b];exact h
theorem Jz (h:K (.bool (decide (a=b))) w):Q3 P .eql t ox oy (.int k a) (.int k b) w K:=by rw[Q1f];exact h
theorem A0 (h:K (.bool (!decide (a=b))) w):Q3 P .neq t ox oy (.int k a) (.int k b) w K:=by rw[Q3o];exact h
theorem Li (h:K (.bool (!x)) w):J3 P .not (.bool x) w K:=by rw[Q3r];exact h
theorem Dg (h:K (.bool (decide (s=u))) w):Q3 P .eql t ox oy (S s) (S u) w K:=by rw[Bj];exact h
theorem I4 (h:K (.bool (!decide (s=u))) w):Q3 P .neq t ox oy (S s) (S u) w K:=by rw[Cy];exact h
theorem Df (c:s.length+u.length≤9223372036854775807) (h:K (S (s++u)) w):Q3 P .add t ox oy (S s) (S u) w K:=by rw[Q7f c];exact h
theorem Gm {cs:List Bool} {r:TypeId} (c:P.underlying t=some .string) (h:K (I s.length) w):X5 P .len [t] r cs [S s] w K:=by rw[E4 c];exact h
theorem X2s {v u:Value} (h:K v w):pick P (.bool true) v u w K:=by rw[G7];exact h
theorem X2D {v u:Value} (h:K u w):pick P (.bool false) v u w K:=by rw[B0];exact h
theorem Uu {v u:Value} (h:K (if x=true then v else u) w):pick P (.bool x) v u w K:=by rw[Eh];exact h
theorem Q9R {f:Fn} {first caps:List Value} (h:K (.func f first.toArray caps.toArray) w):N6 P f first caps w K:=by rw[Xd];exact h
theorem Z7 {vs:List Value} {i:Nat} {v:Value} (c:vs[i]? =some v) (h:K v w):ext P (.tuple vs.toArray) i w K:=by rw[Jc c];exact h
theorem H9 {a:Addr} (h:K (.pointer (some a)) w):nilCheck P (.pointer (some a)) w K:=by rw[H7];exact h
theorem J5 {t e:Prop} (h:t):X1 (.bool true) t e:=by rw[Ov];exact h
theorem V0 {t e:Prop} (h:e):X1 (.bool false) t e:=by rw[Wl];exact h
theorem X3d {c:World→(Value→World→Prop)→Prop} (h:c w K):Q1 (.bool true) true w c K:=by rw[L4];exact h
theorem X3r {c:World→(Value→World→Prop)→Prop} (h:c w K):Q1 (.bool false) false w c K:=by rw[N5];exact h
theorem X2S {c:World→(Value→World→Prop)→Prop} (h:K undef w):Q1 (.bool true) false w c K:=by rw[G6];exact h
theorem X2w {c:World→(Value→World→Prop)→Prop} (h:K undef w):Q1 (.bool false) true w c K:=by rw[E7];exact h
end plain
section mem
variable {α : Type} {R : Q4 → α → List Value → Prop} {sz : Nat} {v : Value} {xs : List α} {a : Addr} {cs : List Value}
theorem Z1 {t:TypeId} (c:X4 w σ) (h: ∀a w' σ',Stp w σ w' σ'→Z0 σ' a cs→K (.pointer (some a)) w'):box P t (.agg cs.toArray) w K:=
 N7 c fun a w' σ' d f=>h a w' σ' d (by simpa [Value.cells] using f)
theorem U0 {t:TypeId} (d:X4 w σ) (g:v.cells= #[v]) (h: ∀a w' σ',Stp w σ w' σ'→Z0 σ' a [v]→K (.pointer (some a)) w'):box P t v w K:=
 N7 d fun a w' σ' f c=>h a w' σ' f (by rw[g] at c;exact c)
theorem Xu (h:Sl sz R σ v xs):v.cells= #[v]:=by
 obtain ⟨a,c,rfl,_⟩:=h;rfl
theorem J7 {t:TypeId} {k c:Nat} {d:TypeId} {sz by_:Nat} {z:Value} [tf:TF P t k c d] [tz:TZ P d sz by_ z] [nz:NZ sz] (h:K (.pointer (some (a.add c))) w):fieldAddr P t (.pointer (some a)) k w K:=by
 rw[fa];exact h
theorem V6 {t:TypeId} {k c:Nat} {d:TypeId} [tf:TF P t k c d] [tg:TG P d false] {cs:List Value} {v:Value} (f:cs[c]? =some v) (h:K v w):We P t (.agg cs.toArray) k w K:=by
 rw[X3a (v:=v) (by simpa using f)];exact h
end mem
theorem U8 {A:(World→World→Prop)→(World→Prop)→Prop} (d:X4 w σ) (h:A (fun w w'=>Below w.heap.size w w') (fun w'=>Hst w σ w' σ)):dr w A:=
 Q15 _ _ ⟨Stp.of_below d (Below.refl _ _).drew⟩ (fun _ _ c f=>⟨c.stp.trans (Stp.of_below c.sat f)⟩) h
theorem L5 {α:Type} {R:Q4→α→List Value→Prop} {sz:Nat} {v:Value} {xs:List α} {t:TypeId} (c:X4 w σ) (d:Sl sz R σ v xs) (h: ∀a w' σ',Stp w σ w' σ'→Z0 σ' a [v]→K (.pointer (some a)) w'):box P t v w K:=
 U0 c (Xu d) h
section elems
variable {v : Value} {t e : TypeId} {by_ : Nat} {z : Value} {n : Nat}
theorem Zw {xs:List Kd.Q9} [TS P t e] [TZ P e 1 by_ z] (h:Sl 1 X9 σ v xs) (d:n<xs.length) (f: ∀a,Z0 σ a [S xs[n]]→xs[n].length≤Y9→K (.pointer (some a)) w):indexAddr P t v (I n) w K:=
 M6 h d fun a cs i j c=>by obtain ⟨rfl,g⟩:=c;exact f a i g
theorem Q5B {xs:List Fld} [TS P t e] [TZ P e 3 by_ z] (h:Sl 3 E5 σ v xs) (d:n<xs.length) (f: ∀a,Z0 σ a [S xs[n].name,S xs[n].kind, .bool xs[n].tr]→E5 σ xs[n] [S xs[n].name,S xs[n].kind, .bool xs[n].tr]→K (.pointer (some a)) w):indexAddr P t v (I n) w K:=
 M6 h d fun a cs i j c=>by obtain ⟨rfl,g⟩:=c;exact f a i ⟨rfl,g⟩
end elems
end Go.Emb

namespace Go.Hm
open Go.Kd
abbrev Up:=Q9→Option Cla
def Y7 (l:List Cla) (n:Q9):Option Nat:=l.findIdx? fun c=>decide (c.name=n)
def lk (l:List Cla):Up:=fun n=>(Y7 l n).bind (l[·]?)
def J9 (c:Cla):List Q9:=c.super::c.like
def J4:Q9:=[79,98,106,101,99,116]
def W3:Q9:=[70,97,117,108,116]
def C2:Q9:=[110,117,108,108]
def O9:Q9:=[116,101,120,116]
def T1:Q9:=[119,104,97,116]
def U2:List Q9:=[[78,117,108,108,70,97,117,108,116],[73,110,100,101,120,70,97,117,108,116],[67,97,115,116,70,97,117,108,116],[90,101,114,111,70,97,117,108,116],[82,111,111,109,70,97,117,108,116],[67,97,108,108,70,97,117,108,116]]
def G3:List Cla:=[⟨J4,[],[],false,false,false,[],[]⟩,⟨W3,J4,[],false,false,false,[⟨T1,O9,false⟩],[]⟩]++U2.map fun n=>⟨n,W3,[],false,false,true,[],[]⟩
def Ub (L:Up):Nat→List Q9→List Q9→List Q9
 | 0,_,a=>a
 | _,[],a=>a
 | f+1,n::b,a=>match L n with
  | none=>Ub L f b a
  | some c=>if n∈a then Ub L f b a else Ub L f (b++J9 c) (a++[n])
def weigh (l:List Cla) (a:List Q9):Nat:=(l.map fun c=>if c.name∈a then 0 else (J9 c).length).sum
def U9:Q9:=[105,110,116]
def L8:Q9:=[98,111,111,108]
def C4 (l:List Cla) (n:Q9):List Q9:=Ub (lk l) (1+weigh l []) [n] []
def Q2d (l:List Cla) (n:Q9):Bool:=(Y7 l n).isSome
def R0 (l:List Cla) (s:Q9):Bool:=decide (s=C2)||(right s&&(plain (base s).1||Q2d l (base s).1))
def O3 (l:List Cla) (a b:Q9):Bool:=
 if !R0 l a|| !R0 l b then false else if a=b then true else if plain a||plain b then false else if a=C2 then true
 else if elem a≠[] then decide (b=J4) else (C4 l a).contains b
def B9 (L:Up):Nat→Q9→List Cla
 | 0,_=>[]
 | f+1,n=>match L n with
  | none=>[]
  | some c=>c::B9 L f c.super
def chain (l:List Cla) (n:Q9):List Cla:=B9 (lk l) (l.length+1) n
def I3 (l:List Cla) (a b:Q9):Q9:=
 if O3 l a b then b else if O3 l b a then a else if !R0 l a|| !R0 l b||plain a||plain b then []
 else match (chain l a).find? fun c=>O3 l b c.name with
  | some c=>c.name
  | none=>J4
def U1 (l:List Cla) (n:Q9):List Fld:=(chain l n).reverse.flatMap (·.fields)
def F2 (l:List Cla) (n f:Q9):Option Nat:=(U1 l n).findIdx? fun x=>decide (x.name=f)
def E8 (c:Cla) (n:Q9):Option Hm.Met:=c.methods.find? fun m=>decide (m.name=n)
def Lk (L:Up):Nat→Cla→Q9→Option (Q9×Hm.Met)
 | 0,_,_=>none
 | f+1,c,n=>c.like.findSome? fun u=>match L u with
  | none=>none
  | some d=>match E8 d n with
   | some m=>some (u,m)
   | none=>Lk L f d n
def J0 (l:List Cla) (k n:Q9):Option (Q9×Hm.Met):=
 match (chain l k).findSome? fun c=>(E8 c n).map (c.name,·) with
 | some r=>some r
 | none=>(chain l k).findSome? fun c=>Lk (lk l) (l.length+1) c n
def Zv (l:List Cla) (n:Q9):Bool:=match lk l n with
 | some c=> !c.abs
 | none=>false
def D0:List Q9→Q9
 | []=>[]
 | [a]=>a
 | a::b::r=>a++[44]++D0 (b::r)
def Qh (m:Hm.Met):Q9:=[40]++D0 m.params++[41]++m.result
def E6 (l:List Cla) (s:Q9):Bool:= !decide (s=C2)&&R0 l s
def Ya (l:List Cla) (c:Cla):Bool:=c.fields.any fun f=>(F2 l c.super f.name).isSome
def F8 (l:List Cla) (c:Cla):Bool:=c.fields.any (fun f=> !E6 l f.kind)||c.methods.any fun m=>(!E6 l m.result&& !decide (m.result=[]))||m.params.any fun s=> !E6 l s
def Vu (l:List Cla) (n:Q9):List Hm.Met:=(C4 l n).flatMap fun u=>((lk l u).map (·.methods)).getD []
def Lv (a:List Hm.Met):Bool:=a.any fun x=>a.any fun y=>decide (x.name=y.name)&& !decide (Qh x=Qh y)
def Yt (l:List Cla) (c:Cla):Bool:=Lv (Vu l c.name)
def Yh (l:List Cla) (k n:Q9):Bool:=match J0 l k n with
 | none=>true
 | some r=>r.2.abs
def Oz (l:List Cla) (c:Cla):Bool:= !c.abs&&(Vu l c.name).any fun m=>Yh l c.name m.name
def V7 (l:List Cla) (c:Cla):Nat:=if Ya l c then 64 else if F8 l c then 65 else if Yt l c then 66 else if Oz l c then 67 else 0
def Ql (l:List Cla) (n:Q9):Bool:=match lk l n with
 | none=>true
 | some d=>d.iface||d.fin
def D6 (l:List Cla) (n:Q9):Bool:=match lk l n with
 | none=>true
 | some d=> !d.iface
def M4 (l:List Cla) (c:Cla):Nat:=if Ql l c.super then 61 else if c.like.any (D6 l) then 62 else 0
def K0 (l:List Cla) (c:Cla):Bool:=(J9 c).any fun n=>(C4 l n).contains c.name
def P1 (l:List Cla) (frm:Nat):Nat→List Nat→Nat→List Nat
 | 0,out,_=>out
 | f+1,out,i=>if i<frm then out else if i∈out then out else ((J9 (l.getD i Cla.zero)).foldl (fun out n=>P1 l frm f out ((Y7 l n).getD 0)) out)++[i]
def V5 (l:List Cla) (frm:Nat):List Nat:=((List.range l.length).drop frm).foldl (fun out i=>P1 l frm (l.length+1) out i) []
end Go.Hm

namespace Go.Emb
open Go.RowKit Go.Hm
variable {P : Program} {w w0 w1 w' w'' : World} {K : Value → World → Prop} {σ σ0 σ1 σ' : Q4}
def J6 {α:Type} (B:Nat) (e:TypeId) (sz:Nat) (R:Q4→α→List Value→Prop) (σ:Q4) (w:World) (v:Value) (xs:List α):Prop:=
 ∃a c,v= .slice a xs.length c∧xs.length≤c∧c≤maxLen∧(∀b,a=some b→b.spot=none∧B≤b.block∧b.block<w.heap.size∧σ b.block=none)∧(0<c→ ∃g f d,a=some ⟨g,f,none⟩∧B≤g∧σ g=none∧w.heap[g]? =some (.cells d e (0,0))∧f+c*sz≤d.size∧ ∀i x,xs[i]? =some x→R σ x ((d.toList.drop (f+i*sz)).take sz))
section
variable {α : Type} {R : Q4 → α → List Value → Prop} {B sz : Nat} {e : TypeId} {v u : Value} {xs ys : List α}
theorem J6.of_acc (h:V3 B e sz R σ w v xs):J6 B e sz R σ w v xs:=by
 obtain ⟨cells,p,l,o⟩:=h
 rcases p.2 with ⟨rfl,r⟩ | ⟨g,f,d,rfl,m,j,c,a,q,b⟩
 ·exact ⟨none,0,by rw[r],by omega,by simp,by simp,fun h=>by omega⟩
 ·refine ⟨_,f,rfl,c,a,by rintro _ ⟨⟩;exact ⟨rfl,m,(Array.getElem?_eq_some_iff.1 j).1,l g rfl⟩,fun _=>⟨g,0,d,rfl,m,l g rfl,j,by omega,fun i x k=>?_⟩⟩
  have n:i<xs.length:=(List.getElem?_eq_some_iff.1 k).1
  have hh:i*sz+sz≤xs.length*sz:=by rw[←Nat.succ_mul];exact Nat.mul_le_mul_right _ n
  have:=o i x k
  rw[←b,List.drop_take,List.take_take] at this
  rw[Nat.zero_add]
  rwa [show min sz (xs.length*sz-i*sz)=sz by omega] at this
theorem J6.mem (h:J6 B e sz R σ w v xs) {k:Nat} (c:v.ownBlock=some k):B≤k∧k<w.heap.size∧σ k=none:=by
 obtain ⟨a,d,rfl,i,g,b,f⟩:=h
 cases a with
 | none=>cases c
 | some a=>cases c;exact (b a rfl).2
theorem J6.up [hr:Rep R] (h:J6 B e sz R σ w v xs) (d:Stp w σ w' σ'):J6 B e sz R σ' w' v xs:=by
 obtain ⟨a,l,rfl,s,r,c,o⟩:=h
 refine ⟨a,l,rfl,s,r,fun b f=>⟨(c b f).1,(c b f).2.1,Nat.lt_of_lt_of_le (c b f).2.2.1 d.bel.size,(d.old _ (c b f).2.2.1).trans (c b f).2.2.2⟩,fun A=>?_⟩
 obtain ⟨g,k,j,rfl,y,z,m,t,q⟩:=o A
 have n:=(Array.getElem?_eq_some_iff.1 m).1
 exact ⟨g,k,j,rfl,y,(d.old g n).trans z,(d.bel.block g n).trans m,t,fun i x p=>hr.up d.le (q i x p)⟩
theorem J6.step [hr:Rep R] (h:J6 B e sz R σ w v xs) (a:Stp w σ w' σ'):J6 B e sz R σ' w' v xs:=h.up a
theorem J6.kp {D:Nat→Prop} (h:J6 B e sz R σ w v xs) (n:Kpt D w w') (i: ∀k,v.ownBlock=some k→ ¬D k):J6 B e sz R σ w' v xs:=by
 obtain ⟨a,l,rfl,s,q,c,o⟩:=h
 refine ⟨a,l,rfl,s,q,fun b d=>⟨(c b d).1,(c b d).2.1,Nat.lt_of_lt_of_le (c b d).2.2.1 n.size,(c b d).2.2.2⟩,fun A=>?_⟩
 obtain ⟨g,j,f,rfl,y,z,m,t,p⟩:=o A
 have r:=(Array.getElem?_eq_some_iff.1 m).1
 exact ⟨g,j,f,rfl,y,z,(n.block g r (i g rfl)).trans m,t,p⟩
theorem Vi {b t:TypeId} {cs:List Bool} [ts:TS P b e] (h:J6 B e sz R σ w v xs) (c:K (I xs.length) w):X5 P .len [b] t cs [v] w K:=by
 obtain ⟨a,d,rfl,_⟩:=h
 rw[Q8b];exact c
theorem Q3S {t:TypeId} {by_:Nat} {z:Value} [TS P t e] [TZ P e sz by_ z] (h:J6 B e sz R σ w v xs) {n:Nat} (p:n<xs.length)
 (o: ∀a cs,(∀j u,cs[j]? =some u→w.cell? (a.add j)=some u)→cs.length=sz→R σ xs[n] cs→K (.pointer (some a)) w):indexAddr P t v (I n) w K:=by
 obtain ⟨a,f,rfl,r,q,l,i⟩:=h
 obtain ⟨g,d,c,rfl,y,A,k,s,m⟩:=i (by omega)
 rw[Rf (by omega) (by omega)]
 have hh:n*sz+sz≤f*sz:=by rw[←Nat.succ_mul];exact Nat.mul_le_mul_right _ (by omega)
 refine o _ ((c.toList.drop (d+n*sz)).take sz) ?_ ?_ (m n _ (by simp[p]))
 ·intro j u b
  rw[List.getElem?_take] at b
  split at b
  ·rw[List.getElem?_drop] at b
   unfold World.cell?
   rw[B5,B5,Yr,Yr,K8 (K8 rfl _)]
   simp only[k]
   simpa using b
  ·cases b
 ·rw[List.length_take,List.length_drop,Array.length_toList];omega
theorem X24 {t:TypeId} {by_:Nat} {z:Value} [ts:TS P t e] [tz:TZ P e sz by_ z] (h:J6 B e sz R σ w v xs) (l:Nat) (J:l≤xs.length)
 (y: ∀j,J6 B e sz R σ w j (xs.drop l)→(j.ownBlock=v.ownBlock∨j.ownBlock=none)→K j w):R6 P t v (some (I l)) none none w K:=by
 obtain ⟨a,c,rfl,A,H,d,o⟩:=h
 have hh: ∀w:World,(Instr.sliceBounds true xs.length c (some (I l)) none none).run P w= .ok (l,xs.length,c) w:=by
  intro w
  have q:(l:Int)≤xs.length:=by omega
  simp[Instr.sliceBounds,Instr.sliceBound,asIntOf,A,q]
  intros;omega
 unfold R6
 have:(Instr.sliceAt t (.slice a xs.length c) (some (I l)) none none).run P w= .ok (.slice (if c=l then a else a.map (·.add (l*sz))) (xs.length-l) (c-l)) w:=by
  simp[Instr.sliceAt,run_underlying ts.h,Instr.slice,hh,W5 tz]
 rw[Y2 this]
 refine y _ ⟨_,c-l,by rw[List.length_drop],by rw[List.length_drop];omega,by omega,?_,fun M=>?_⟩ ?_
 ·intro b k
  split at k
  ·exact d b k
  ·cases a with
   | none=>cases k
   | some a=>cases k;exact ⟨K8 (d a rfl).1 _,by rw[B5];exact (d a rfl).2⟩
 ·have E:=o (by omega)
  clear o
  obtain ⟨g,n,m,rfl,C,D,r,L,s⟩:=E
  refine ⟨g,n+l*sz,m,?_,C,D,r,?_,fun i x p=>?_⟩
  ·rw[if_neg (by omega)];simp only[Option.map_some];congr 1;unfold Addr.add;split<;>simp_all
  ·have:l*sz+(c-l)*sz=c*sz:=by rw[←Nat.add_mul];congr 1;omega
   omega
  ·rw[List.getElem?_drop] at p
   have:=s _ _ p
   rwa [Nat.add_mul,←Nat.add_assoc] at this
 ·left
  by_cases f:c=l
  ·rw[if_pos f];cases a<;>rfl
  ·rw[if_neg f]
   cases a with
   | none=>rfl
   | some a=>simp only[Option.map_some,Value.ownBlock,B5]
theorem Q2N {t W:TypeId} {by_:Nat} {z:Value} {cs:List Bool} [ts:TS P t e] [tz:TZ P e sz by_ z] [hr:Rep R] (Z:X4 w σ) (hB:B≤w.heap.size) (ha:J6 B e sz R σ w v xs) (H:Sl sz R σ u ys) (hz:(z.cells.size==sz&&decide (0<sz))=true)
 (U:(xs.length+ys.length)*by_≤140737488355328) (hm:xs.length+ys.length≤1000000000000)
 (h: ∀s w',Kpt (fun k=>v.ownBlock=some k∧B≤k∧σ k=none) w w'→X4 w' σ→J6 B e sz R σ w' s (xs++ys)→((∃a m,v= .slice a xs.length m∧s= .slice a (xs.length+ys.length) m)∨(Below w.heap.size w w'∧ ∀k,s.ownBlock=some k→w.heap.size≤k))→K s w'):X5 P .append [t,t] W cs [v,u] w K:=by
 obtain ⟨y,c,rfl,c1,c2,C,c3⟩:=ha
 obtain ⟨a,m,d,rfl,n1,n2,n3,n4,n5⟩:=H.cells Z
 obtain ⟨i,hi,E,ar,M⟩:=tz.info
 simp only[Bool.and_eq_true,beq_iff_eq,decide_eq_true_eq] at hz
 obtain ⟨ap,ba⟩:=hz
 have J: ∀s w',(Builtin.append_ #[t,t] W #[.slice y xs.length c, .slice a ys.length m]).run P w= .ok s w'→Kpt (fun k=>(Value.slice y xs.length c).ownBlock=some k∧B≤k∧σ k=none) w w'→J6 B e sz R σ w' s (xs++ys)→((∃a m,(Value.slice y xs.length c)= .slice a xs.length m∧s= .slice a (xs.length+ys.length) m)∨(Below w.heap.size w w'∧ ∀k,s.ownBlock=some k→w.heap.size≤k))→X5 P .append [t,t] W cs [.slice y xs.length c, .slice a ys.length m] w K:=by
  intro s w' D hk hq ax
  have O:(builtin .append #[t,t] W cs.toArray #[.slice y xs.length c, .slice a ys.length m]).run P w= .ok (.value s) w':=by
   simp[builtin,D]
  unfold X5
  rw[Qu];unfold T5
  rw[O]
  exact h s w' hk (fun k o ho=>by rw[hk.block k (Z.lt ho) fun e=>by rw[e.2.2] at ho;cases ho];exact Z k o ho) hq ax
 have q:Src P i.size t (.slice a ys.length m) ys.length d w:=by
  cases a with
  | some b=>exact Src.ofSlice w ts.h b ys.length m d (by rw[E];exact n2) (n3 b rfl) n4
  | none=>
   have hy:ys.length=0:=by
    obtain ⟨a',a3,e',q1,_,X,_⟩:=H;injection e' with e1 e2 e3;have:=n1 rfl;omega
   have hn:d=[]:=List.eq_nil_of_length_eq_zero (by rw[n2,hy];simp)
   subst hn
   rw[hy];exact Src.ofNil w ts.h m
 by_cases r:xs.length+ys.length≤c
 ·by_cases N:c=0
  ·-- nothing at all
   subst N
   have p:xs=[]:=List.eq_nil_of_length_eq_zero (by omega)
   have hy:ys=[]:=List.eq_nil_of_length_eq_zero (by omega)
   subst p hy
   have hn:d=[]:=List.eq_nil_of_length_eq_zero (by simpa using n2)
   subst hn
   refine J (.slice y 0 0) w ?_ Kpt.refl ⟨y,0,rfl,by simp,by simp,C,fun h=>by omega⟩ (.inl ⟨_,_,rfl,rfl⟩)
   have hl:=q.len w
   have A:=q.cells
   simp only[List.length_nil] at hl A⊢
   cases y<;>simp[Builtin.append_,run_underlying ts.h,sizeOf,typeInfo,hi,hl,A,storeCells]
  ·obtain ⟨g,l,f,rfl,q1,q2,X,q4,q5⟩:=c3 (by omega)
   have e1:(xs.length+ys.length)*sz≤c*sz:=Nat.mul_le_mul_right _ r
   rw[Nat.add_mul] at e1
   have Y:=run_storeCells_at P g (l+xs.length*sz) e d 0 f w X (by omega) n4
   simp only[Nat.add_zero] at Y
   obtain ⟨aa,aq⟩:=Wu (cs:=(f.toList.take (l+xs.length*sz)++d++f.toList.drop (l+xs.length*sz+d.length)).toArray) X
   refine J (.slice (some ⟨g,l,none⟩) (xs.length+ys.length) c) _ ?_ (Kpt.of_upd aa ⟨rfl,q1,q2⟩) ?_ (.inl ⟨_,_,rfl,rfl⟩)
   ·have hl:=q.len w
    have A:=q.cells
    rw[E] at A
    simp[Builtin.append_,run_underlying ts.h,sizeOf,typeInfo,hi,hl,A,E,r,Addr.add_lit,Y]
   ·refine ⟨_,c,by rw[List.length_append],by rw[List.length_append];exact r,c2,fun b U=>⟨(C b U).1,(C b U).2.1,by rw[aa.size];exact (C b U).2.2.1,(C b U).2.2.2⟩,fun _=>⟨g,l,_,rfl,q1,q2,aq,?_,fun j x p=>?_⟩⟩
    ·simp;omega
    ·by_cases Q:j<xs.length
     ·rw[List.getElem?_append_left Q] at p
      have:=q5 j x p
      have hh:j*sz+sz≤xs.length*sz:=by rw[←Nat.succ_mul];exact Nat.mul_le_mul_right _ Q
      have e2:((f.toList.take (l+xs.length*sz)++d++f.toList.drop (l+xs.length*sz+d.length)).toArray.toList.drop (l+j*sz)).take sz=(f.toList.drop (l+j*sz)).take sz:=by
       rw[List.toList_toArray,List.append_assoc]
       rw[List.drop_append_of_le_length (by rw[List.length_take,Array.length_toList (xs:=f)];omega),List.take_append_of_le_length (by rw[List.length_drop,List.length_take,Array.length_toList (xs:=f)];omega),List.drop_take,List.take_take]
       congr 1;omega
      rw[e2];exact this
     ·rw[List.getElem?_append_right (by omega)] at p
      have:=n5 _ _ p
      have am:j-xs.length<ys.length:=(List.getElem?_eq_some_iff.1 p).1
      have hh:(j-xs.length)*sz+sz≤ys.length*sz:=by rw[←Nat.succ_mul];exact Nat.mul_le_mul_right _ am
      have be:j*sz=xs.length*sz+(j-xs.length)*sz:=by rw[←Nat.add_mul];congr 1;omega
      have e2:((f.toList.take (l+xs.length*sz)++d++f.toList.drop (l+xs.length*sz+d.length)).toArray.toList.drop (l+j*sz)).take sz=(d.drop ((j-xs.length)*sz)).take sz:=by
       rw[List.toList_toArray,List.append_assoc]
       rw[List.drop_append,List.drop_eq_nil_of_le (by rw[List.length_take,Array.length_toList (xs:=f)];omega),List.nil_append,List.length_take,Array.length_toList (xs:=f),
        show l+j*sz-min (l+xs.length*sz) f.size=(j-xs.length)*sz by omega,
        List.drop_append_of_le_length (by omega),List.take_append_of_le_length (by rw[List.length_drop];omega)]
      rw[e2];exact this
 ·-- a new row
  have L: ∃n:List Value,n.length=xs.length*sz∧(Builtin.firstCells i.size xs.length (.slice y xs.length c)).run P w.drew= .ok n.toArray w.drew∧ ∀j x,xs[j]? =some x→R σ x ((n.drop (j*sz)).take sz):=by
   by_cases N:c=0
   ·subst N
    have p:xs=[]:=List.eq_nil_of_length_eq_zero (by omega)
    subst p
    refine ⟨[],by simp,?_,by simp⟩
    cases y with
    | none=>exact run_firstCells_none w.drew i.size 0 0 0
    | some a'=>exact run_firstCells_some w.drew i.size 0 a' 0 0 [] (by simp) (by intro _ _ h';simp at h')
   ·obtain ⟨g,l,f,rfl,q1,q2,X,q4,q5⟩:=c3 (by omega)
    have e1:xs.length*sz≤c*sz:=Nat.mul_le_mul_right _ c1
    refine ⟨(f.toList.drop l).take (xs.length*sz),by rw[List.length_take,List.length_drop,Array.length_toList (xs:=f)];omega,?_,fun j x p=>?_⟩
    ·refine run_firstCells_some w.drew i.size xs.length ⟨g,l,none⟩ xs.length c _ (by rw[List.length_take,List.length_drop,Array.length_toList (xs:=f),E];omega) (fun j u H=>?_)
     rw[List.getElem?_take] at H
     split at H
     ·rw[List.getElem?_drop] at H
      have ak:w.drew.heap[g]? =some (.cells f e (0,0)):=X
      unfold World.cell?
      rw[B5,Yr,K8 rfl]
      simp only[ak]
      simpa using H
     ·cases H
    ·have Q:j<xs.length:=(List.getElem?_eq_some_iff.1 p).1
     have hh:j*sz+sz≤xs.length*sz:=by rw[←Nat.succ_mul];exact Nat.mul_le_mul_right _ Q
     have:=q5 j x p
     rw[List.drop_take,List.take_take,List.drop_drop,show min sz (xs.length*sz-j*sz)=sz by omega]
     exact this
  obtain ⟨n,o1,o2,o3⟩:=L
  have hg:c<xs.length+ys.length:=by omega
  have D:=run_append_grow_src (P:=P) w t t W e i z ts.h hi M y xs.length c n o2 (.slice a ys.length m) ys.length d q hg (by omega) (growslice_fits hg (by rw[ar];exact U))
  have aj:=grownCap_le_maxLen w (xs.length+ys.length) c e (by simp only[maxLen];omega)
  have ay:=grownCap_ge w (xs.length+ys.length) c e
  have hL:(n++d).length=(xs.length+ys.length)*sz:=by rw[List.length_append,o1,n2,Nat.add_mul]
  refine J _ _ D ?_ ?_ (.inr ⟨(Below.refl _ _).drew.alloc (Nat.le_refl _) _,by intro k hk;cases hk;exact Nat.le_refl _⟩)
  ·exact Kpt.of_below ((Below.refl _ _).drew.alloc (Nat.le_refl _) _)
  ·refine ⟨_,_,by rw[List.length_append],by rw[List.length_append];exact ay,aj,by rintro _ ⟨⟩;exact ⟨rfl,hB,(Array.getElem?_eq_some_iff.1 (heap_alloc_new w.drew _)).1,Z.none (Nat.le_refl _)⟩,fun _=>⟨w.heap.size,0,_,rfl,hB,Z.none (Nat.le_refl _),heap_alloc_new w.drew _,?_,fun j x p=>?_⟩⟩
   ·rw[Array.size_append,List.size_toArray,hL,size_zeroCells,ap,←Nat.add_mul]
    rw[Nat.zero_add];exact Nat.mul_le_mul_right _ (by omega)
   ·rw[Nat.zero_add,Array.toList_append]
    have Q:j<xs.length+ys.length:=by have:=(List.getElem?_eq_some_iff.1 p).1;rwa [List.length_append] at this
    have hh:j*sz+sz≤(xs.length+ys.length)*sz:=by rw[←Nat.succ_mul];exact Nat.mul_le_mul_right _ Q
    rw[List.drop_append_of_le_length (by simp only[List.toList_toArray];omega),List.take_append_of_le_length (by rw[List.length_drop];simp only[List.toList_toArray];omega)]
    simp only[List.toList_toArray]
    by_cases V:j<xs.length
    ·rw[List.getElem?_append_left V] at p
     rw[Vm n d xs.length j o1 V]
     exact o3 j x p
    ·rw[List.getElem?_append_right (by omega)] at p
     have:=n5 _ _ p
     rw[show j*sz=n.length+(j-xs.length)*sz by rw[o1,←Nat.add_mul];congr 1;omega,List.drop_append]
     simpa [List.drop_eq_nil_of_le] using this
end
theorem Zq {b:Nat} (h:w1.heap.size≤b) (k:Stp w σ w1 σ1):w.heap.size≤b:=Nat.le_trans k.bel.size h
theorem P3 {t:TypeId} {sz by_:Nat} {z:Value} [tz:TZ P t sz by_ z] (a:X4 w σ) (h: ∀b w' σ',w.heap.size≤b→Stp w σ w' σ'→Z9 σ' w' b z.cells.toList→K (.pointer (some ⟨b,0,none⟩)) w'):L3 P t w K:=
 Sj a fun b w' f c d=>h b w' σ f c d
theorem Q0r {t:TypeId} {cs:List Value} (a:X4 w σ) (h: ∀b w' σ',w.heap.size≤b→Stp w σ w' σ'→Z9 σ' w' b cs→K (.pointer (some ⟨b,0,none⟩)) w'):box P t (.agg cs.toArray) w K:=
 X15 a fun b w' f c d=>h b w' σ f c (by simpa [Value.cells] using d)
theorem Qv {t:TypeId} {sz by_:Nat} {z:Value} [tz:TZ P t sz by_ z] {b:Nat} {cs ds:List Value} (c:Z9 σ w b cs) (d:Stp w0 σ0 w σ) (i:w0.heap.size≤b) (j:cs.length=sz) (g:ds.length=sz) (k: ∀u∈ds,u.oneCell'=true)
 (h: ∀w',Hst w0 σ0 w' σ→Z9 σ w' b ds→K undef w'):Z6 P t (.pointer (some ⟨b,0,none⟩)) (.agg ds.toArray) w K:=
 sta c j g (by rw[List.all_toArray];exact List.all_eq_true.2 k) fun w' f a=>h w' ⟨f.stp d i c.1⟩ a
structure Nxt (D : Nat → Prop) (w : World) (σ : Q4) (w' : World) (σ' : Q4) : Prop where
  kp : Kpt D w w'
  le : SLe σ σ'
  old : ∀ k, k < w.heap.size → σ' k = σ k
  sat : X4 w' σ'
theorem Nxt.of_stp {D:Nat→Prop} (h:Stp w σ w' σ'):Nxt D w σ w' σ':=⟨Kpt.of_below h.bel,⟨h.le⟩,h.old,h.sat⟩
theorem Nxt.trans {D:Nat→Prop} (h:Nxt D w σ w' σ') (k:Nxt D w' σ' w'' σ1):Nxt D w σ w'' σ1:=
 ⟨h.kp.trans k.kp,h.le.more k.le,fun i a=>(k.old i (Nat.lt_of_lt_of_le a h.kp.size)).trans (h.old i a),k.sat⟩
theorem Z9.nx {D:Nat→Prop} {b:Nat} {cs:List Value} (h:Z9 σ w b cs) (k:Nxt D w σ w' σ') (c: ¬D b):Z9 σ' w' b cs:=by
 have a:=h.lt
 obtain ⟨f,e,d⟩:=h
 exact ⟨(k.old b a).trans f,e,(k.kp.block b a c).trans d⟩
theorem H0.nx {D:Nat→Prop} {r:Nat} {m:List (List UInt8×Value)} (h:H0 σ w r m) (k:Nxt D w σ w' σ') (a: ¬D r):H0 σ' w' r m:=
 ⟨(k.old r h.lt).trans h.1,(k.kp.block r h.lt a).symm▸h.2⟩
section
variable {α : Type} {R : Q4 → α → List Value → Prop} {B sz : Nat} {e : TypeId} {v u : Value} {xs : List α} {x : α}
theorem V3.nx [hr:Rep R] {D:Nat→Prop} (h:V3 B e sz R σ w v xs) (k:Nxt D w σ w' σ') (f: ∀k,v.ownBlock=some k→ ¬D k):V3 B e sz R σ' w' v xs:=by
 have b:=h.kp k.kp f
 obtain ⟨cells,j,g,c⟩:=b
 refine ⟨cells,j,fun i a=>(k.old i (h.mem i a).2.1).trans (g i a),fun i x d=>hr.up k.le.le (c i x d)⟩
theorem J6.nx [hr:Rep R] {D:Nat→Prop} (h:J6 B e sz R σ w v xs) (k:Nxt D w σ w' σ') (z: ∀k,v.ownBlock=some k→ ¬D k):J6 B e sz R σ' w' v xs:=by
 obtain ⟨a,l,rfl,s,r,c,o⟩:=h
 refine ⟨a,l,rfl,s,r,fun b d=>⟨(c b d).1,(c b d).2.1,Nat.lt_of_lt_of_le (c b d).2.2.1 k.kp.size,(k.old _ (c b d).2.2.1).trans (c b d).2.2.2⟩,fun C=>?_⟩
 obtain ⟨g,j,f,rfl,y,A,m,t,q⟩:=o C
 have n:=(Array.getElem?_eq_some_iff.1 m).1
 exact ⟨g,j,f,rfl,y,(k.old g n).trans A,(k.kp.block g n (z g rfl)).trans m,t,fun i x p=>hr.up k.le.le (q i x p)⟩
theorem Us {t n:TypeId} {by_:Nat} {z:Value} {cs:List Bool} {A:Value→Value→World→Prop} [ts:TS P t e] [tz:TZ P e sz by_ z] [hr:Rep R] (l:Stp w0 σ0 w σ) (D:V3 w0.heap.size e sz R σ w v xs) (C:R σ x u.cells.toList) (y:u.cells.size=sz) (r:(z.cells.size==sz&&decide (0<sz))=true) (f:(decide (0<sz)&&decide ([u].length*sz≤16777216))=true)
 (q:(xs.length+1)*by_≤140737488355328) (p:xs.length+1≤9223372036854775807)
 (h: ∀s a w' σ',Nxt (fun k=>v.ownBlock=some k) w σ w' σ'→Stp w0 σ0 w' σ'→V3 w0.heap.size e sz R σ' w' a (xs++[x])→(a.ownBlock=v.ownBlock∨ ∀k,a.ownBlock=some k→w.heap.size≤k)→A s a w'):
 buildSlice P t 1 [(0,u)] w (fun s w=>X5 P .append [t,t] n cs [v,s] w (fun a w=>A s a w)):=by
 refine O4 l.sat [u] [x] rfl rfl (by simpa using y) f ⟨C,trivial⟩ fun s w1 σ1 b g=>?_
 refine app (l.trans b) (D.up b) g r (by simpa using q) (by simpa using p) fun a m o c i hat=>?_
 have j:Kpt (fun k=>v.ownBlock=some k) w m:=(Kpt.of_below b.bel).trans (Kpt.of_grown o fun k b=>b)
 refine h s a m σ1 ⟨j,⟨b.le⟩,b.old,c.sat⟩ c i ?_
 rcases hat with hat | hat
 ·exact .inl hat
 ·exact .inr fun k d=>Nat.le_trans b.bel.size (hat k d)
theorem Hp {t f:TypeId} {by_:Nat} {z:Value} {cs:List Bool} {ys:List α} [ts:TS P t e] [tz:TZ P e sz by_ z] [hr:Rep R] (l:Stp w0 σ0 w σ) (q:V3 w0.heap.size e sz R σ w v xs) (p:Sl sz R σ u ys) (o:(z.cells.size==sz&&decide (0<sz))=true)
 (m:(xs.length+ys.length)*by_≤140737488355328) (j:xs.length+ys.length≤9223372036854775807)
 (h: ∀a w',Nxt (fun k=>v.ownBlock=some k) w σ w' σ→Stp w0 σ0 w' σ→V3 w0.heap.size e sz R σ w' a (xs++ys)→(a.ownBlock=v.ownBlock∨ ∀k,a.ownBlock=some k→w.heap.size≤k)→K a w'):X5 P .append [t,t] f cs [v,u] w K:=
 app l q p o m j fun a n g b d c=>h a n ⟨Kpt.of_grown g fun k i=>i,SLe.refl _,fun _ _=>rfl,b.sat⟩ b d c
end
section
variable {α : Type} {R : Q4 → α → List Value → Prop} {B sz : Nat} {e : TypeId} {v u : Value} {xs : List α} {x : α}
theorem J6.mono {k:Nat} (h:J6 B e sz R σ w v xs) (l:k≤B):J6 k e sz R σ w v xs:=by
 obtain ⟨a,j,rfl,r,o,c,m⟩:=h
 refine ⟨a,j,rfl,r,o,fun b d=>⟨(c b d).1,Nat.le_trans l (c b d).2.1,(c b d).2.2⟩,fun p=>?_⟩
 obtain ⟨g,i,f,rfl,n,q⟩:=m p
 exact ⟨g,i,f,rfl,Nat.le_trans l n,q⟩
theorem J6.own (h:J6 B e sz R σ w v xs) {k:Nat} (a:v.ownBlock=some k):B≤k:=(h.mem a).1
theorem J6.keep [hr:Rep R] (h:J6 w0.heap.size e sz R σ w v xs) (o:Stp w0 σ0 w σ): ∃σ',Stp w0 σ0 w σ'∧Sl sz R σ' v xs∧SLe σ σ'∧(∀k,some k≠v.ownBlock→σ' k=σ k):=by
 obtain ⟨a,f,rfl,A,z,n,r⟩:=h
 by_cases E:f=0
 ·have m:xs=[]:=List.eq_nil_of_length_eq_zero (by omega)
  subst E m
  exact ⟨σ,o,⟨a,0,rfl,by simp,by simp,fun _=>rfl,fun b D=>⟨fun _=>(n b D).1,by simp⟩⟩,SLe.refl _,fun _ _=>rfl⟩
 ·obtain ⟨g,p,c,rfl,C,q,s,J,t⟩:=r (by omega)
  have d:=Q4.put_le o.sat q (.cells c e (0,0))
  refine ⟨σ.put g (.cells c e (0,0)),o.put q C s,⟨_,f,rfl,A,z,by simp,?_⟩,⟨d⟩,?_⟩
  ·rintro _ ⟨⟩
   refine ⟨fun _=>rfl,fun i x m=>⟨(c.toList.drop (p+i*sz)).take sz,⟨K8 rfl _,c,e,(0,0),by rw[B5];simp[Q4.put],?_⟩,?_,hr.up d (t i x m)⟩⟩
   ·intro j u l
    rw[Yr]
    rw[List.getElem?_take] at l
    split at l
    ·rw[List.getElem?_drop] at l;simpa using l
    ·cases l
   ·have H:i<xs.length:=(List.getElem?_eq_some_iff.1 m).1
    have h:i*sz+sz≤f*sz:=by rw[←Nat.succ_mul];exact Nat.mul_le_mul_right _ (by omega)
    rw[List.length_take,List.length_drop,Array.length_toList (xs:=c)];omega
  ·intro k y
   have:k≠g:=by intro e;subst e;exact y rfl
   simp only[Q4.put,if_neg this]
theorem X2a {t N:TypeId} {by_:Nat} {z:Value} {A:Value→Value→World→Prop} {ds:List Value} [ts:TS P t e] [tz:TZ P e sz by_ z] {D:Nat} {U:Value} [tz':TZ P N sz D U] (hS:Stp w0 σ0 w σ) (ha:J6 w0.heap.size e sz R σ w v xs) {n:Nat} (hn:n<xs.length) (E:ds.length=sz) (W:R σ x ds) (h1: ∀u∈ds,u.oneCell'=true)
 (h: ∀p u w',Kpt (fun k=>v.ownBlock=some k) w w'→Hst w0 σ0 w' σ→J6 w0.heap.size e sz R σ w' v (xs.set n x)→A p u w'):
 indexAddr P t v (I n) w (fun p w=>Z6 P N p (.agg ds.toArray) w (fun u w=>A p u w)):=by
 obtain ⟨a,i,rfl,V,c2,f,c3⟩:=ha
 obtain ⟨g,c,d,rfl,O,Q,M,q4,X⟩:=c3 (by omega)
 rw[Rf (by omega) (by omega)]
 have hh:n*sz+sz≤i*sz:=by rw[←Nat.succ_mul];exact Nat.mul_le_mul_right _ (by omega)
 have o:(⟨g,c,none⟩:Addr).add ((n:Int).toNat*sz)=⟨g,c+n*sz,none⟩:=by unfold Addr.add;split<;>simp_all
 rw[o]
 have q:=run_storeCells_at P g (c+n*sz) e ds 0 d w M (by omega) h1
 simp only[Nat.add_zero] at q
 obtain ⟨l,H⟩:=Wu (cs:=(d.toList.take (c+n*sz)++ds++d.toList.drop (c+n*sz+ds.length)).toArray) M
 unfold Z6
 rw[Wk (w':=w.setRow g (d.toList.take (c+n*sz)++ds++d.toList.drop (c+n*sz+ds.length)).toArray) (by
  simp[Instr.storeAt,Instr.sureAddr,storeVar,W5 tz',Value.cells,E]
  simpa [E] using q)]
 have Y:Kpt (fun k=>(Value.slice (some ⟨g,c,none⟩) xs.length i).ownBlock=some k) w (w.setRow g (d.toList.take (c+n*sz)++ds++d.toList.drop (c+n*sz+ds.length)).toArray):=Kpt.of_upd l rfl
 refine h _ _ _ Y ⟨l.stp hS O Q⟩ ⟨_,i,by rw[List.length_set],by rw[List.length_set];exact V,c2,fun b r=>⟨(f b r).1,(f b r).2.1,by rw[l.size];exact (f b r).2.2.1,(f b r).2.2.2⟩,fun _=>⟨g,c,_,rfl,O,Q,H,?_,fun j y m=>?_⟩⟩
 ·simp;omega
 ·rw[List.toList_toArray]
  have ac:=Array.length_toList (xs:=d)
  have C:j<xs.length:=by have:=(List.getElem?_eq_some_iff.1 m).1;simpa using this
  have Z:j*sz+sz≤i*sz:=by rw[←Nat.succ_mul];exact Nat.mul_le_mul_right _ (by omega)
  by_cases L:j=n
  ·subst L
   rw[List.getElem?_set_self C] at m
   cases m
   rw[List.append_assoc,List.drop_append,List.drop_eq_nil_of_le (by rw[List.length_take];omega),List.nil_append,List.length_take,show c+j*sz-min (c+j*sz) d.toList.length=0 by omega,List.drop_zero,List.take_append_of_le_length (by omega),List.take_of_length_le (by omega)]
   exact W
  ·rw[List.getElem?_set_ne (by omega)] at m
   have:=X j y m
   rcases Nat.lt_or_gt_of_ne L with J | hgt
   ·have s:j*sz+sz≤n*sz:=by rw[←Nat.succ_mul];exact Nat.mul_le_mul_right _ J
    rw[List.append_assoc,List.drop_append_of_le_length (by rw[List.length_take];omega),List.take_append_of_le_length (by rw[List.length_drop,List.length_take];omega),List.drop_take,List.take_take]
    rwa [show min sz (c+n*sz-(c+j*sz))=sz by omega]
   ·have s:n*sz+sz≤j*sz:=by rw[←Nat.succ_mul];exact Nat.mul_le_mul_right _ hgt
    rw[List.drop_append,List.drop_eq_nil_of_le (by rw[List.length_append,List.length_take];omega),List.nil_append,List.length_append,List.length_take,List.drop_drop,E]
    rwa [show c+n*sz+sz+(c+j*sz-(min (c+n*sz) d.toList.length+sz))=c+j*sz by omega]
end
theorem Q64 (p:Nat→Prop): ∀n,p n→ ∃m,p m∧ ∀k,p k→m≤k:=by
 intro n
 induction n using Nat.strongRecOn with
 | _ n f=>
  intro h
  by_cases b: ∃k,k<n∧p k
  ·obtain ⟨k,g,c⟩:=b;exact f k g c
  ·exact ⟨n,h,fun k d=>Nat.le_of_not_lt fun a=>b ⟨k,a,d⟩⟩
noncomputable def Q1m (p:Nat→Prop):Nat:=open Classical in if h: ∃m,p m∧ ∀k,p k→m≤k then Classical.choose h else 0
theorem Q0l {p:Nat→Prop} {n:Nat} (h:p n):p (Q1m p)∧Q1m p≤n:=by
 have a:=Q64 p n h
 unfold Q1m
 rw[dif_pos a]
 exact ⟨(Classical.choose_spec a).1,(Classical.choose_spec a).2 n h⟩
theorem Iy {α:Type} {g:α} {A:(α→World→Prop)→α→(Nat→Value)→World→Prop} (I:Nat→α→World→Prop) (n:Nat) (l:I n g w)
 (j: ∀a n x d w,I n x w→(∀c b w',c<n→I c b w'→a b w')→A a x d w):lp g w A:=by
 refine Jo (fun x w=> ∃n,I n x w) (fun x w=>Q1m fun n=>I n x w) ⟨n,l⟩ ?_
 rintro x d w ⟨n,k⟩
 obtain ⟨i,m⟩:=Q0l (p:=fun n=>I n x w) k
 refine j _ _ x d w i fun c b w' f h=>⟨⟨c,h⟩,?_⟩
 exact Nat.lt_of_le_of_lt (Q0l (p:=fun n=>I n b w') h).2 f
section
variable {α : Type} {R : Q4 → α → List Value → Prop} {B sz : Nat} {e : TypeId} {v u : Value} {xs ys : List α} {x : α}
theorem J6.below (h:J6 B e sz R σ w v xs) (a:Below w.heap.size w w'):J6 B e sz R σ w' v xs:=h.kp (D:=fun _=>False) (.of_below a) fun _ _=>id
theorem J6.pre {a:Option Addr} {n m b:Nat} (h:J6 B e sz R σ w (.slice a m b) (xs++ys)) (z:n=xs.length):J6 B e sz R σ w (.slice a n b) xs:=by
 obtain ⟨H,k,l,t,s,c,o⟩:=h
 injection l with q e2 E
 subst q E z
 rw[List.length_append] at t
 refine ⟨a,b,rfl,by omega,s,c,fun D=>?_⟩
 obtain ⟨g,f,d,q0,A,C,p,y,r⟩:=o D
 exact ⟨g,f,d,q0,A,C,p,y,fun i x j=>r i x (by rw[List.getElem?_append_left (List.getElem?_eq_some_iff.1 j).1];exact j)⟩
def Fh (B:Nat) (e:TypeId) (sz:Nat) (R:Q4→α→List Value→Prop) (σ:Q4) (v:Value) (xs:List α) (x:α) (w1 c:World):Prop:=
 Kpt (fun k=>v.ownBlock=some k) w1 c∧(J6 B e sz R σ w1 v xs→J6 B e sz R σ c v xs)∧
  ∀a b,v= .slice a xs.length b→J6 B e sz R σ w1 (.slice a (xs.length+1) b) (xs++[x])→J6 B e sz R σ c (.slice a (xs.length+1) b) (xs++[x])
theorem Fh.below (a:Below w.heap.size w w'):Fh B e sz R σ v xs x w w':=⟨.of_below a,fun h=>h.below a,fun _ _ _ h=>h.below a⟩
theorem Fh.refl:Fh B e sz R σ v xs x w w:=Fh.below (Below.refl _ _)
def VQa (N B:Nat) (e:TypeId) (sz:Nat) (R:Q4→α→List Value→Prop) (σ:Q4) (v:Value) (xs:List α) (x:α) (c:Value) (w:World):Prop:=
 J6 B e sz R σ w c (xs++[x])∧((∃a b,v= .slice a xs.length b∧c= .slice a (xs.length+1) b)∨((∀k,c.ownBlock=some k→N≤k)∧ ∀k,v.ownBlock=some k→k<N))
theorem VQa.stable {N:Nat} {g:Value} (h:VQa N B e sz R σ v xs x g w) (i:Fh B e sz R σ v xs x w w'):VQa N B e sz R σ v xs x g w':=by
 obtain ⟨j,b⟩:=h
 refine ⟨?_,b⟩
 rcases b with ⟨a,f,c,rfl⟩ | ⟨b,c⟩
 ·exact i.2.2 a f c j
 ·exact j.kp i.1 fun k l d=>by have:=b k l;have:=c k d;omega
theorem Kpt.more {D E:Nat→Prop} (h:Kpt D w w') (k:Kpt E w' w'') (hE: ∀j,E j→w.heap.size≤j):Kpt D w w'':=
 ⟨k.os.trans h.os,k.tape.trans h.tape,k.output.trans h.output,Nat.le_trans h.size k.size,fun i a b=>(k.block i (Nat.lt_of_lt_of_le a h.size) fun e=>by have:=hE i e;omega).trans (h.block i a b)⟩
end
end Go.Emb

namespace Go.Hm
open Go.Kd
theorem V1 {l:List Cla} {n:Q9} {c:Cla} (h:lk l n=some c):c.name=n∧c∈l∧ ∃i,Y7 l n=some i∧l[i]? =some c:=by
 unfold lk at h
 cases a:Y7 l n with
 | none=>rw[a] at h;cases h
 | some i=>
  rw[a] at h
  obtain ⟨b,e,_⟩:=List.findIdx?_eq_some_iff_getElem.1 a
  have d:l[i]? =some c:=h
  rw[List.getElem?_eq_getElem b] at d
  cases d
  exact ⟨by simpa using e,List.getElem_mem b,i,rfl,List.getElem?_eq_getElem b⟩
theorem Jt {l:List Cla} {n:Q9} {i:Nat} (h:Y7 l n=some i): ∃c,lk l n=some c∧l[i]? =some c∧c.name=n:=by
 obtain ⟨a,b,_⟩:=List.findIdx?_eq_some_iff_getElem.1 h
 refine ⟨l[i],?_,List.getElem?_eq_getElem a,by simpa using b⟩
 unfold lk;rw[h];simp[a]
theorem Q3z {l:List Cla} {n:Q9}:Q2d l n=(lk l n).isSome:=by
 unfold Q2d
 cases a:Y7 l n with
 | none=>simp[lk,a]
 | some i=>obtain ⟨c,h,_⟩:=Jt a;simp[h]
theorem X0c {l:List Cla} {c:Cla} (h:c∈l): ∃d,lk l c.name=some d:=by
 cases a:Y7 l c.name with
 | none=>
  have:=List.findIdx?_eq_none_iff.1 a c h
  simp at this
 | some i=>obtain ⟨d,h,_⟩:=Jt a;exact ⟨d,h⟩
inductive Reach (L : Up) : Q9 → Q9 → Prop
  | refl {a : Q9} {c : Cla} : L a = some c → Reach L a a
  | step {a u b : Q9} {c : Cla} : L a = some c → u ∈ J9 c → Reach L u b → Reach L a b
theorem Reach.trans {L:Up} {a b d:Q9} (h:Reach L a b) (k:Reach L b d):Reach L a d:=by
 induction h with
 | refl _=>exact k
 | step f e _ c=>exact .step f e (c k)
theorem Reach.right {L:Up} {a b:Q9} (h:Reach L a b): ∃c,L b=some c:=by
 induction h with
 | refl h=>exact ⟨_,h⟩
 | step _ _ _ d=>exact d
theorem Reach.left {L:Up} {a b:Q9} (h:Reach L a b): ∃c,L a=some c:=by
 cases h with
 | refl h=>exact ⟨_,h⟩
 | step h _ _=>exact ⟨_,h⟩
theorem Q1h (L:Up): ∀(f:Nat) (a b:List Q9),∃r,Ub L f a b=b++r:=by
 intro f
 induction f with
 | zero=>intro a b;exact ⟨[],by simp[Ub]⟩
 | succ f c=>
  intro a b
  cases a with
  | nil=>exact ⟨[],by simp[Ub]⟩
  | cons n a=>
   simp only[Ub]
   split
   ·exact c _ _
   ·split
    ·exact c _ _
    ·obtain ⟨r,d⟩:=c (a++J9 ‹_›) (b++[n])
     exact ⟨n::r,by rw[d];simp⟩
theorem X0s (L:Up): ∀(f:Nat) (a b:List Q9) (x:Q9),x∈Ub L f a b→x∈b∨ ∃t∈a,Reach L t x:=by
 intro f
 induction f with
 | zero=>intro a b x h;exact .inl h
 | succ f d=>
  intro a b x h
  cases a with
  | nil=>exact .inl h
  | cons n a=>
   simp only[Ub] at h
   split at h
   ·rcases d _ _ _ h with h | ⟨t,ht,h⟩
    ·exact .inl h
    ·exact .inr ⟨t,by simp[ht],h⟩
   ·rename_i c e
    split at h
    ·rcases d _ _ _ h with h | ⟨t,ht,h⟩
     ·exact .inl h
     ·exact .inr ⟨t,by simp[ht],h⟩
    ·rcases d _ _ _ h with h | ⟨t,ht,h⟩
     ·rcases List.mem_append.1 h with h | h
      ·exact .inl h
      ·simp at h;subst h;exact .inr ⟨x,by simp, .refl e⟩
     ·rcases List.mem_append.1 ht with ht | ht
      ·exact .inr ⟨t,by simp[ht],h⟩
      ·exact .inr ⟨n,by simp, .step e ht h⟩
theorem X0Z (l:List Cla) (b a:List Q9) (h: ∀x∈b,x∈a):weigh l a≤weigh l b:=by
 unfold weigh
 induction l with
 | nil=>simp
 | cons c r e=>
  simp only[List.map_cons,List.sum_cons]
  by_cases d:c.name∈b
  ·rw[if_pos d,if_pos (h _ d)];omega
  ·rw[if_neg d];split<;>omega
theorem Ih (l:List Cla) (a:List Q9) (c:Cla) (hc:c∈l) (g:c.name∉a):weigh l (a++[c.name])+(J9 c).length≤weigh l a:=by
 unfold weigh
 induction l with
 | nil=>simp at hc
 | cons d r h=>
  simp only[List.map_cons,List.sum_cons]
  have b:weigh r (a++[c.name])≤weigh r a:=X0Z _ _ _ (by simp;intro x f;exact .inl f)
  unfold weigh at b
  rcases List.mem_cons.1 hc with rfl | hc
  ·rw[if_pos (by simp),if_neg g];omega
  ·have:=h hc
   by_cases e:d.name∈a
   ·rw[if_pos (by simp[e]),if_pos e];omega
   ·rw[if_neg e];split<;>omega
theorem X1k (l:List Cla): ∀(f:Nat) (a b:List Q9),a.length+weigh l b≤f→
 (∀x∈b,∀c,lk l x=some c→ ∀u∈J9 c,∀d,lk l u=some d→u∈b∨u∈a)→
 (∀t∈a,∀d,lk l t=some d→t∈Ub (lk l) f a b)∧ ∀x∈Ub (lk l) f a b,∀c,lk l x=some c→ ∀u∈J9 c,∀d,lk l u=some d→u∈Ub (lk l) f a b:=by
 intro f
 induction f with
 | zero=>
  intro a b y o
  have:a=[]:=List.eq_nil_of_length_eq_zero (by omega)
  subst this
  refine ⟨by simp,fun x hx c i u j d g=>?_⟩
  rcases o x hx c i u j d g with h | h
  ·exact h
  ·simp at h
 | succ f s=>
  intro a b y o
  cases a with
  | nil=>
   refine ⟨by simp,fun x hx c i u j d g=>?_⟩
   rcases o x hx c i u j d g with h | h
   ·exact h
   ·simp at h
  | cons n a=>
   simp only[List.length_cons] at y
   simp only[Ub]
   split
   ·rename_i w
    obtain ⟨q,p⟩:=s a b (by omega) (fun x hx c i u j d g=>by
     rcases o x hx c i u j d g with h | h
     ·exact .inl h
     ·rcases List.mem_cons.1 h with rfl | h
      ·rw[w] at g;cases g
      ·exact .inr h)
    refine ⟨fun t ht d g=>?_,p⟩
    rcases List.mem_cons.1 ht with rfl | ht
    ·rw[w] at g;cases g
    ·exact q t ht d g
   ·rename_i c i
    split
    ·rename_i k
     obtain ⟨r,v⟩:=Q1h (lk l) f a b
     obtain ⟨q,p⟩:=s a b (by omega) (fun x hx c i u j d g=>by
      rcases o x hx c i u j d g with h | h
      ·exact .inl h
      ·rcases List.mem_cons.1 h with rfl | h
       ·exact .inl k
       ·exact .inr h)
     refine ⟨fun t ht d g=>?_,p⟩
     rcases List.mem_cons.1 ht with rfl | ht
     ·rw[v];simp[k]
     ·exact q t ht d g
    ·rename_i k
     obtain ⟨e,A,_⟩:=V1 i
     have z:=Ih l b c A (by rw[e];exact k)
     rw[e] at z
     obtain ⟨q,p⟩:=s (a++J9 c) (b++[n]) (by rw[List.length_append];omega) (fun x hx B m u j d g=>by
      rcases List.mem_append.1 hx with hx | hx
      ·rcases o x hx B m u j d g with h | h
       ·exact .inl (by simp[h])
       ·rcases List.mem_cons.1 h with rfl | h
        ·exact .inl (by simp)
        ·exact .inr (by simp[h])
      ·simp at hx;subst hx
       rw[i] at m;cases m
       exact .inr (by simp[j]))
     refine ⟨fun t ht d g=>?_,p⟩
     rcases List.mem_cons.1 ht with rfl | ht
     ·obtain ⟨r,v⟩:=Q1h (lk l) f (a++J9 c) (b++[t])
      rw[v];simp
     ·exact q t (by simp[ht]) d g
theorem Js {l:List Cla} {a b:Q9}:b∈C4 l a↔Reach (lk l) a b:=by
 obtain ⟨j,i⟩:=X1k l (1+weigh l []) [a] [] (by simp) (by simp)
 constructor
 ·intro h
  rcases X0s _ _ _ _ _ h with h | ⟨t,e,k⟩
  ·simp at h
  ·simp at e;subst e;exact k
 ·intro h
  have key: ∀{x y:Q9},Reach (lk l) x y→x∈C4 l a→y∈C4 l a:=by
   intro x y h
   induction h with
   | refl _=>exact id
   | step n o m f=>
    intro g
    obtain ⟨d,c⟩:=m.left
    exact f (i _ g _ n _ o _ c)
  obtain ⟨d,c⟩:=h.left
  exact key h (j a (by simp) d c)
theorem X1b (l:List Cla): ∀(f:Nat) (a b:List Q9),a.length+weigh l b≤f→ ∀k,Ub (lk l) (f+k) a b=Ub (lk l) f a b:=by
 intro f
 induction f with
 | zero=>
  intro a b h k
  have:a=[]:=List.eq_nil_of_length_eq_zero (by omega)
  subst this
  cases k<;>rfl
 | succ f g=>
  intro a b h k
  cases a with
  | nil=>rw[Nat.succ_add];rfl
  | cons n a=>
   simp only[List.length_cons] at h
   rw[Nat.succ_add]
   simp only[Ub]
   split
   ·exact g _ _ (by omega) k
   ·rename_i c m
    split
    ·exact g _ _ (by omega) k
    ·rename_i d
     obtain ⟨e,j,_⟩:=V1 m
     have i:=Ih l b c j (by rw[e];exact d)
     rw[e] at i
     exact g _ _ (by rw[List.length_append];omega) k
end Go.Hm

namespace Go.Hm
open Go.Kd
def Vo (L:Up) (a b:Q9):Prop:= ∃c,L a=some c∧ ∃u∈J9 c,Reach L u b
def Yz (l:List Cla):Prop:= ∀a,¬Vo (lk l) a a
theorem Vo.reach {L:Up} {a b:Q9} (h:Vo L a b):Reach L a b:=by
 obtain ⟨c,f,u,e,d⟩:=h;exact .step f e d
theorem Vo.trans {L:Up} {a b d:Q9} (h:Vo L a b) (k:Reach L b d):Vo L a d:=by
 obtain ⟨c,g,u,f,e⟩:=h;exact ⟨c,g,u,f,e.trans k⟩
theorem Q4f {L:Up} {a b:Q9}:Reach L a b↔(a=b∧(∃c,L a=some c))∨Vo L a b:=by
 constructor
 ·intro h
  cases h with
  | refl h=>exact .inl ⟨rfl,_,h⟩
  | step f e d=>exact .inr ⟨_,f,_,e,d⟩
 ·rintro (⟨rfl,c,h⟩ | h)
  ·exact .refl h
  ·exact h.reach
def Jq (l:List Cla) (a b:Q9):Bool:=match lk l a with
 | none=>false
 | some c=>(J9 c).any fun u=>(C4 l u).contains b
theorem Wh {l:List Cla} {a b:Q9}:Jq l a b=true↔Vo (lk l) a b:=by
 unfold Jq Vo
 cases h:lk l a with
 | none=>simp
 | some c=>
  simp only[List.any_eq_true,List.contains_iff_mem,Js]
  constructor
  ·rintro ⟨u,e,d⟩;exact ⟨c,rfl,u,e,d⟩
  ·rintro ⟨_,⟨⟩,u,e,d⟩;exact ⟨u,e,d⟩
def I5 (l:List Cla) (n:Q9):Nat:=l.countP fun m=>Jq l n m.name
theorem Q18 (l:List Cla) (n:Q9):I5 l n≤l.length:=List.countP_le_length
theorem Q45 {α:Type} {p q:α→Bool}: ∀{l:List α},(∀x∈l,p x=true→q x=true)→(∃x∈l,q x=true∧p x=false)→l.countP p<l.countP q:=by
 intro l
 induction l with
 | nil=>rintro _ ⟨x,hx,_⟩;simp at hx
 | cons a r g=>
  rintro h ⟨x,hx,c,d⟩
  have e:r.countP p≤r.countP q:=List.countP_mono_left fun x hx=>h x (by simp[hx])
  rw[List.countP_cons,List.countP_cons]
  rcases List.mem_cons.1 hx with rfl | hx
  ·rw[c,d];simp;omega
  ·have:=g (fun x hx=>h x (by simp[hx])) ⟨x,hx,c,d⟩
   have f:=h a (by simp)
   cases b:p a
   ·simp;split<;>omega
   ·rw[f b];simp;omega
theorem X2y {l:List Cla} (j:Yz l) {a b:Q9} (h:Vo (lk l) a b):I5 l b<I5 l a:=by
 unfold I5
 refine Q45 (fun x _ f=>?_) ?_
 ·rw[Wh] at*
  exact h.trans f.reach
 ·obtain ⟨d,g⟩:=(Reach.right (h.reach))
  obtain ⟨e,i,_⟩:=V1 g
  refine ⟨d,i,?_,?_⟩
  ·rw[Wh,e];exact h
  ·cases c:Jq l b d.name with
   | false=>rfl
   | true=>rw[Wh,e] at c;exact absurd c (j b)
theorem Yp {l:List Cla} (f:Yz l) {a u:Q9} {c d:Cla} (g:lk l a=some c) (b:u∈J9 c) (e:lk l u=some d):I5 l u<I5 l a:=
 X2y f ⟨c,g,u,b, .refl e⟩
theorem Q7v {l:List Cla} (i:Yz l): ∀(f g:Nat) (n:Q9),I5 l n<f→I5 l n<g→B9 (lk l) f n=B9 (lk l) g n:=by
 intro f
 induction f with
 | zero=>intro g n h;omega
 | succ f b=>
  intro g n j k
  obtain ⟨g,rfl⟩: ∃m,g=m+1:=⟨g-1,by omega⟩
  simp only[B9]
  cases e:lk l n with
  | none=>rfl
  | some c=>
   simp only
   congr 1
   cases a:lk l c.super with
   | none=>cases f<;>cases g<;>simp[B9,a]
   | some d=>
    have:=Yp i e (by simp[J9]) a
    exact b g c.super (by omega) (by omega)
theorem I6 {l:List Cla} (b:Yz l) (n:Q9):chain l n=match lk l n with | none=>[] | some c=>c::chain l c.super:=by
 have:=Q18 l n
 unfold chain
 rw[B9]
 cases e:lk l n with
 | none=>rfl
 | some c=>
  simp only
  congr 1
  cases a:lk l c.super with
  | none=>cases l.length<;>simp[B9,a]
  | some d=>
   have:=Yp b e (by simp[J9]) a
   exact Q7v b _ _ _ (by omega) (by omega)
theorem T7 {l:List Cla} {n:Q9} (h:lk l n=none):chain l n=[]:=by simp[chain,B9,h]
theorem Oy {α β:Type} {f g:α→Option β}: ∀{l:List α},(∀x∈l,f x=g x)→l.findSome? f=l.findSome? g
 | [],_=>rfl
 | a::r,h=>by
  rw[List.findSome?_cons,List.findSome?_cons,h a (by simp),Oy fun x b=>h x (by simp[b])]
theorem Q7a {l:List Cla} (k:Yz l) (n:Q9): ∀(f g:Nat) (c:Cla),lk l c.name=some c→I5 l c.name<f→I5 l c.name<g→Lk (lk l) f c n=Lk (lk l) g c n:=by
 intro f
 induction f with
 | zero=>intro g c _ h;omega
 | succ f b=>
  intro g c i p o
  obtain ⟨g,rfl⟩: ∃m,g=m+1:=⟨g-1,by omega⟩
  simp only[Lk]
  refine Oy fun u j=>?_
  cases a:lk l u with
  | none=>rfl
  | some d=>
   simp only
   cases E8 d n with
   | some m=>rfl
   | none=>
    simp only
    have:=Yp k i (by simp[J9,j]) a
    have e:=(V1 a).1
    exact b g d (by rw[e];exact a) (by rw[e];omega) (by rw[e];omega)
def V2 (l:List Cla) (c:Cla) (n:Q9):Option (Q9×Hm.Met):=Lk (lk l) (l.length+1) c n
theorem Q4C {l:List Cla} (b:Yz l) {c:Cla} (g:lk l c.name=some c) (n:Q9):V2 l c n=c.like.findSome? fun u=>match lk l u with
 | none=>none
 | some d=>match E8 d n with
  | some m=>some (u,m)
  | none=>V2 l d n:=by
 have:=Q18 l c.name
 unfold V2
 rw[Lk]
 refine Oy fun u f=>?_
 cases a:lk l u with
 | none=>rfl
 | some d=>
  simp only
  cases E8 d n with
  | some m=>rfl
  | none=>
   have:=Yp b g (by simp[J9,f]) a
   have e:=(V1 a).1
   exact Q7a b n _ _ d (by rw[e];exact a) (by rw[e];omega) (by rw[e];omega)
def K4 (l:List Cla):Prop:=(l.map (·.name)).Nodup
theorem K4.lk {l:List Cla} (h:K4 l) {c:Cla} (k:c∈l):Go.Hm.lk l c.name=some c:=by
 obtain ⟨d,g⟩:=X0c k
 obtain ⟨e,o,i,p,b⟩:=V1 g
 obtain ⟨j,m,rfl⟩:=List.getElem_of_mem k
 obtain ⟨a,f⟩:=List.getElem?_eq_some_iff.1 b
 have:i=j:=by
  have n:(l.map (·.name))[i]'(by simpa using a)=(l.map (·.name))[j]'(by simpa using m):=by simp[f,e]
  exact (List.getElem_inj h).1 n
 subst this
 rw[g,←f]
theorem K4.find {l:List Cla} (h:K4 l) {i:Nat} {c:Cla} (k:l[i]? =some c):Y7 l c.name=some i:=by
 obtain ⟨b,rfl⟩:=List.getElem?_eq_some_iff.1 k
 have:=h.lk (List.getElem_mem b)
 obtain ⟨e,n,j,d,f⟩:=V1 this
 obtain ⟨a,g⟩:=List.getElem?_eq_some_iff.1 f
 have:j=i:=by
  have m:(l.map (·.name))[j]'(by simpa using a)=(l.map (·.name))[i]'(by simpa using b):=by simp[g]
  exact (List.getElem_inj h).1 m
 rw[d,this]
end Go.Hm

namespace Go.Emb
open Go.RowKit Go.Hm
variable {P : Program} {w w0 w1 w' w'' : World} {K : Value → World → Prop} {σ σ0 σ1 σ2 σ' : Q4}
theorem Stp.join (c:Stp w σ w' σ1) (f:Stp w σ w' σ2): ∃d,Stp w σ w' d∧SLe σ1 d∧SLe σ2 d:=by
 have h: ∀b o,σ1 b=some o→(fun b=>(σ1 b).or (σ2 b)) b=some o:=fun b o e=>by simp[e]
 have i: ∀b o,σ2 b=some o→(fun b=>(σ1 b).or (σ2 b)) b=some o:=by
  intro b o e
  cases a:σ1 b with
  | none=>simp[a,e]
  | some p=>
   have j:=c.sat b p a
   have g:=f.sat b o e
   rw[j] at g;cases g;simp only[a,Option.some_or]
 refine ⟨fun b=>(σ1 b).or (σ2 b),⟨c.bel,?_,fun b o e=>h b o (c.le b o e),?_⟩,⟨h⟩,⟨i⟩⟩
 ·intro b o e
  cases a:σ1 b with
  | none=>simp only[a,Option.none_or] at e;exact f.sat b o e
  | some p=>simp only[a,Option.some_or] at e;cases e;exact c.sat b _ a
 ·intro b a
  simp only[c.old b a,f.old b a];cases σ b<;>rfl
theorem Hc {Φ:Q4→Value→Prop} {A a:(Value→World→Prop)→Prop} (h:A (fun v w'=> ∃σ',Stp w σ w' σ'∧Φ σ' v)) (c:a (fun v w'=> ∃σ',Stp w σ w' σ'∧Φ σ' v)):Q5 (fun w w'=>Below w.heap.size w w') A a:=
 W9 _ (fun _ _ _ ⟨σ',b,d⟩ e=>⟨σ',b.trans (Stp.of_below b.sat e),d⟩) h c
theorem Ar {Φ:Q4→Value→Prop} {v:Value} (a:Hst w σ w1 σ) (h:Stp w1 σ w' σ') (b:Φ σ' v):dk (fun w w'=>Below w.heap.size w w') (fun v w'=> ∃σ',Stp w σ w' σ'∧Φ σ' v) w1 v w':=
 ⟨h.bel,σ',a.stp.trans h,b⟩
theorem L9.mk {m:Hm.Met} {pv b a:Value} (h:Sl 1 X9 σ pv m.params) (e:Sl 3 I0 σ b m.code) (c:Sl 4 Yk σ a m.catches) (g:m.name.length≤Y9) (f:m.result.length≤Y9) (d:Q10 m.locals):L9 σ m [S m.name,pv,S m.result, .bool m.abs,I m.locals,b,a]:=
 ⟨pv,b,a,rfl,h,e,c,g,f,d⟩
theorem V4.mk {c:Cla} {b a mv:Value} (f:Sl 1 X9 σ b c.like) (e:Sl 3 E5 σ a c.fields) (d:Sl 7 L9 σ mv c.methods) (g:c.name.length≤Y9) (h:c.super.length≤Y9):V4 σ c [S c.name,S c.super,b, .bool c.iface, .bool c.abs, .bool c.fin,a,mv]:=
 ⟨b,a,mv,rfl,f,e,d,g,h⟩
end Go.Emb
namespace Go.Hm
def SmM (m:Hm.Met):Prop:=m.params.length≤1000000∧m.code.length≤1000000∧m.catches.length≤1000000
def Qn (c:Cla):Prop:=c.like.length≤1000000∧c.fields.length≤1000000∧c.methods.length≤1000000∧ ∀m∈c.methods,SmM m
end Go.Hm
namespace Go.Proofs.YtfppjenblllfaaaGreatDoor
open Go.Emb Go.RowKit Go.Kd Go.Hm
variable {w : World} {K : Value → World → Prop} {σ : Q4}
theorem Q4N {m:Hm.Met} {cs:List Value} (hs:X4 w σ) (hm:L9 σ m cs) (J:SmM m)
 (h: ∀pv o f w' σ',Stp w σ w' σ'→L9 σ' m [S m.name,pv,S m.result, .bool m.abs,I m.locals,o,f]→K (.agg [S m.name,pv,S m.result, .bool m.abs,I m.locals,o,f].toArray) w'):Q0 P F.c8 [.agg cs.toArray] w K:=Q4V (by
 obtain ⟨pv,o,f,rfl,A,B,y,g4,g5,g6⟩:=hm
 obtain ⟨s1,s2,s3⟩:=J
 unfold Pk
 refine Q0r hs fun b w1 σ1 d j a=>?_
 refine P3 j.sat fun b2 w2 σ2 E g c=>?_
 have aw:=a.lt
 replace a:=a.step g
 have D:=g.sat
 have A:=(A.up j).up g
 have B:=(B.up j).up g
 have y:=(y.up j).up g
 have L: ∀{w':World} (i:Nat) (v:Value),[S m.name,pv,S m.result, .bool m.abs,I m.locals,o,f][i]? =some v→Hst w2 σ2 w' σ2→w'.cell? ((⟨b,0,none⟩:Addr).add i)=some v:=fun i v f hh=>(a.step hh.stp).cell f
 refine U8 D ?_
 refine X2 (.pointer (some ((⟨b,0,none⟩:Addr).add 1))) (fun w d=>by rw[fa];exact X6 rfl) ?_
 refine X2 (.pointer (some ((⟨b,0,none⟩:Addr).add 5))) (fun w d=>by rw[fa];exact X6 rfl) ?_
 refine X2 (.pointer (some ((⟨b,0,none⟩:Addr).add 6))) (fun w d=>by rw[fa];exact X6 rfl) ?_
 refine X2 pv (fun t w d e=>by rw[e];exact P8 (L 1 pv rfl d) (X6 rfl)) ?_
 refine Hc (Φ:=fun σ' v=>Sl 1 X9 σ' v m.params) (fun t w d e=>by rw[e];exact Vv d.sat A s1 fun Q w' σ' q f=>Ar d q f) ?_
 refine X2 o (fun t w d e=>by rw[e];exact P8 (L 5 o rfl d) (X6 rfl)) ?_
 refine Hc (Φ:=fun σ' v=>Sl 3 I0 σ' v m.code) (fun t w d e=>by rw[e];exact Ea d.sat B s2 fun Q w' σ' q f=>Ar d q f) ?_
 refine X2 f (fun t w d e=>by rw[e];exact P8 (L 6 f rfl d) (X6 rfl)) ?_
 refine X2 (.pointer (some ((⟨b,0,none⟩:Addr).add 1))) (fun w d=>by rw[fa];exact X6 rfl) ?_
 refine Hc (Φ:=fun σ' v=>Sl 4 Yk σ' v m.catches) (fun t w d e=>by rw[e];exact Dx d.sat y s3 fun Q w' σ' q f=>Ar d q f) ?_
 rintro t1 t2 t3 t4 t5 t6 t8 t9 ao z w3 ah e1 e2 e3 e4 ⟨σ5,k5,p⟩ e6 ⟨σ8,k8,r⟩ e9 N ⟨X,u,k⟩
 subst N
 obtain ⟨σa,ka,C,H⟩:=k5.join k8
 obtain ⟨Y,M,R,l2⟩:=ka.join u
 have p:=(p.lift C).lift R
 have r:=(r.lift H).lift R
 have k:=k.lift l2
 have a:=a.step M
 have c:=c.step M
 have n:b2≠b:=by omega
 have l:=(j.trans g).trans M
 refine Og a (by simp) (Xu p) (I9 p) fun w4 V a=>?_
 rw[fa]
 have l:=V.stp l d a.1
 have c:=c.upd V n
 refine Og a (by simp) (Xu r) (I9 r) fun w5 O a=>?_
 rw[fa]
 have l:=O.stp l d a.1
 have c:=c.upd O n
 refine Og a (by simp) (Xu k) (I9 k) fun w6 W a=>?_
 have l:=W.stp l d a.1
 have c:=c.upd W n
 refine Q8z a rfl ?_
 have U:=L9.mk p r k g4 g5 g6
 have s:=Zq E j
 refine sta c rfl rfl (by rw[List.all_toArray];exact List.all_eq_true.2 (Rep.one U)) fun w7 Z c=>?_
 have l:=Z.stp l s c.1
 refine W6 c rfl ?_
 exact h t5 t8 z w7 Y l U)
theorem X0T {c:Cla} {cs:List Value} (hs:X4 w σ) (hc:V4 σ c cs) (av:Qn c)
 (h: ∀W X mv w' σ',Stp w σ w' σ'→V4 σ' c [S c.name,S c.super,W, .bool c.iface, .bool c.abs, .bool c.fin,X,mv]→K (.agg [S c.name,S c.super,W, .bool c.iface, .bool c.abs, .bool c.fin,X,mv].toArray) w'):Q0 P F.cx [.agg cs.toArray] w K:=Q51 (by
 obtain ⟨W,X,mv,rfl,g1,g2,R,g4,g5⟩:=hc
 obtain ⟨s1,s2,s3,s4⟩:=av
 unfold Pm
 refine Q0r hs fun b w1 σ1 l o f=>?_
 refine P3 o.sat fun V w2 σ2 aq m g=>?_
 have bv:=f.lt
 replace f:=f.step m
 have an:=m.sat
 have g1:=(g1.up o).up m
 have g2:=(g2.up o).up m
 have R:=(R.up o).up m
 have L: ∀{w':World} (i:Nat) (v:Value),[S c.name,S c.super,W, .bool c.iface, .bool c.abs, .bool c.fin,X,mv][i]? =some v→Hst w2 σ2 w' σ2→w'.cell? ((⟨b,0,none⟩:Addr).add i)=some v:=fun i v U hh=>(f.step hh.stp).cell U
 refine U8 an ?_
 refine X2 (.pointer (some ((⟨b,0,none⟩:Addr).add 2))) (fun w l=>by rw[fa];exact X6 rfl) ?_
 refine X2 (.pointer (some ((⟨b,0,none⟩:Addr).add 6))) (fun w l=>by rw[fa];exact X6 rfl) ?_
 refine X2 W (fun t w l e=>by rw[e];exact P8 (L 2 W rfl l) (X6 rfl)) ?_
 refine Hc (Φ:=fun σ' v=>Sl 1 X9 σ' v c.like) (fun t w l e=>by rw[e];exact Vv l.sat g1 s1 fun v' w' σ' E U=>Ar l E U) ?_
 refine X2 X (fun t w l e=>by rw[e];exact P8 (L 6 X rfl l) (X6 rfl)) ?_
 refine X2 (.pointer (some ((⟨b,0,none⟩:Addr).add 2))) (fun w l=>by rw[fa];exact X6 rfl) ?_
 refine Hc (Φ:=fun σ' v=>Sl 3 E5 σ' v c.fields) (fun t w l e=>by rw[e];exact Dq l.sat g2 s2 fun v' w' σ' E U=>Ar l E U) ?_
 rintro t6 t9 t7 t8 bm a8 Y w3 bg e6 e9 e7 ⟨σ8,k8,f8⟩ bs ak ⟨ba,ai,z⟩
 subst ak
 obtain ⟨σ3,k3,l1,l2⟩:=k8.join ai
 have f8:=f8.lift l1
 have z:=z.lift l2
 have R:=R.up k3
 have f:=f.step k3
 have g:=g.step k3
 have Q:V≠b:=by omega
 have Z:=(o.trans m).trans k3
 refine Og f (by simp) (Xu f8) (I9 f8) fun w4 u4 f=>?_
 rw[fa]
 have Z:=u4.stp Z l f.1
 have g:=g.upd u4 Q
 refine Og f (by simp) (Xu z) (I9 z) fun w5 u5 f=>?_
 rw[fa]
 have Z:=u5.stp Z l f.1
 have g:=g.upd u5 Q
 refine B4 f rfl ?_
 refine X0 R ?_
 refine E3 c.methods.length (fun n a w'=> ∃σ',Stp w σ w' σ'∧SLe σ3 σ'∧V3 w.heap.size T.d 7 L9 σ' w' a (c.methods.take n)∧Z9 σ' w' b [S c.name,S c.super,t8, .bool c.iface, .bool c.abs, .bool c.fin,Y,mv]∧Z9 σ' w' V [S [],S [], .slice none 0 0, .bool false, .bool false, .bool false, .slice none 0 0, .slice none 0 0]∧ ∀k,a.ownBlock=some k→k≠b∧k≠V)
  ⟨σ3,Z,SLe.refl _,V3.nil,f,g,fun k E=>by cases E⟩ fun n a w6 d hn hi=>?_
 obtain ⟨σ6,C,B,ha,f,g,j⟩:=hi
 refine Z4 ?_
 refine Q6 (fun hh=>?_) (fun hh=>?_)
 ·have y:n<c.methods.length:=by simpa using hh
  have ab:c.methods.length≤9223372036854775807:=by omega
  refine M6 (R.lift B) y fun p cs hl u hr=>?_
  refine Z2 C.sat hl u ?_
  refine Y5 C.sat (by rfl) u (Rep.one hr) fun q w7 σ7 r hq=>?_
  refine Z2 r.sat hq u ?_
  refine Q4N r.sat (Rep.up r.le hr) (s4 _ (List.getElem_mem y)) fun pv cv U w8 σ8 N aj=>?_
  have M:=(Nxt.of_stp (D:=fun k=>a.ownBlock=some k) r).trans (Nxt.of_stp N)
  have ao:=(ha.up r).up N
  have a2:=(f.nx M fun e=>(j _ e).1 rfl).lt
  have a4:=(g.nx M fun e=>(j _ e).2 rfl).lt
  refine Us ((C.trans r).trans N) ao aj rfl rfl rfl (by rw[List.length_take];omega) (by rw[List.length_take];omega) fun s v' w9 σ9 A ap ah hat=>?_
  refine H3 ?_
  have A:=M.trans A
  refine J1 ab y ⟨σ9,ap,B.more A.le,?_,f.nx A fun e=>(j _ e).1 rfl,g.nx A fun e=>(j _ e).2 rfl,?_⟩
  ·rw[List.take_add_one,List.getElem?_eq_getElem y];exact ah
  ·intro k E
   rcases hat with hat | hat
   ·exact j k (hat▸E)
   ·have:=hat k E
    constructor<;>omega
 ·have y: ¬n<c.methods.length:=by simpa using hh
  rw[List.take_of_length_le (by omega)] at ha
  obtain ⟨σ7,O,J,ad,H⟩:=ha.keep C
  have f:Z9 σ7 w6 b _:=⟨(H b fun e=>(j b e.symm).1 rfl).trans f.1,f.2⟩
  have g:Z9 σ7 w6 V _:=⟨(H V fun e=>(j V e.symm).2 rfl).trans g.1,g.2⟩
  rw[fa]
  refine Og f (by simp) (Xu J) (I9 J) fun w7 u7 f=>?_
  have O:=u7.stp O l f.1
  have g:=g.upd u7 Q
  refine Q8z f rfl ?_
  have hr:=V4.mk (f8.lift (B.more ⟨ad⟩)) (z.lift (B.more ⟨ad⟩)) J g4 g5
  have ae:=Zq aq o
  refine sta g rfl rfl (by rw[List.all_toArray];exact List.all_eq_true.2 (Rep.one hr)) fun w8 u8 g=>?_
  have aw:=u8.stp O ae g.1
  refine W6 g rfl ?_
  exact h t8 Y a w8 σ7 aw hr)
end Go.Proofs.YtfppjenblllfaaaGreatDoor

namespace Go.Hm
open Go.Kd
def R2 {α:Type}:Nat→List α→List α
 | 0,xs=>xs
 | i+1,xs=>match (R2 i xs)[i]?,(R2 i xs)[xs.length-1-i]? with
  | some a,some b=>((R2 i xs).set i b).set (xs.length-1-i) a
  | _,_=>R2 i xs
theorem Q0U {α:Type} (xs:List α): ∀i,2*i≤xs.length→(R2 i xs).length=xs.length∧ ∀k,k<xs.length→(R2 i xs)[k]? =if k<i∨xs.length-1-k<i then xs[xs.length-1-k]? else xs[k]?
 | 0,_=>⟨rfl,fun k g=>by simp[R2]⟩
 | i+1,h=>by
  obtain ⟨j,e⟩:=Q0U xs i (by omega)
  have f:=e i (by omega)
  have d:=e (xs.length-1-i) (by omega)
  rw[if_neg (by omega)] at f d
  have n:i<xs.length:=by omega
  have b:xs.length-1-i<xs.length:=by omega
  rw[List.getElem?_eq_getElem (l:=xs) n] at f
  rw[List.getElem?_eq_getElem (l:=xs) b] at d
  simp only[R2,f,d]
  refine ⟨by simp[j],fun k g=>?_⟩
  by_cases a:k=xs.length-1-i
  ·subst a
   rw[List.getElem?_set_self (by simp[j];omega),if_pos (by omega)]
   rw[show xs.length-1-(xs.length-1-i)=i by omega,List.getElem?_eq_getElem (by omega)]
  ·rw[List.getElem?_set_ne (by omega)]
   by_cases c:k=i
   ·subst c
    rw[List.getElem?_set_self (by omega),if_pos (by omega),List.getElem?_eq_getElem (by omega)]
   ·rw[List.getElem?_set_ne (by omega),e k g]
    by_cases m:k<i∨xs.length-1-k<i
    ·rw[if_pos m,if_pos (by omega)]
    ·rw[if_neg m,if_neg (by omega)]
theorem Q9u {α:Type} (xs:List α) (i:Nat) (d:2*i≤xs.length) (e:xs.length≤2*i+1):R2 i xs=xs.reverse:=by
 obtain ⟨f,c⟩:=Q0U xs i d
 apply List.ext_getElem?
 intro k
 by_cases a:k<xs.length
 ·rw[c k a,List.getElem?_reverse a]
  by_cases b:k<i∨xs.length-1-k<i
  ·rw[if_pos b]
  ·rw[if_neg b];congr 1;omega
 ·rw[List.getElem?_eq_none (by omega),List.getElem?_eq_none (by simp;omega)]
theorem Iw (L:Up): ∀(f:Nat) (n:Q9),(B9 L f n).length≤f
 | 0,_=>by simp[B9]
 | f+1,n=>by
  simp only[B9]
  split
  ·simp
  ·have:=Iw L f (by rename_i c _;exact c.super)
   simp only[List.length_cons];rename_i c _;have:=Iw L f c.super;omega
theorem Cf (l:List Cla) (n:Q9):(chain l n).length≤l.length+1:=Iw _ _ _
theorem Cd {l:List Cla} {n:Q9} {c:Cla} (h:c∈chain l n):c∈l:=by
 have key: ∀(f:Nat) (n:Q9),c∈B9 (lk l) f n→c∈l:=by
  intro f
  induction f with
  | zero=>intro n h;simp[B9] at h
  | succ f b=>
   intro n h
   simp only[B9] at h
   split at h
   ·simp at h
   ·rename_i d a
    rcases List.mem_cons.1 h with rfl | h
    ·exact (V1 a).2.1
    ·exact b _ h
 exact key _ _ h
theorem Uq {α β:Type} (f:α→List β) (k:Nat): ∀(xs:List α),(∀x∈xs,(f x).length≤k)→(xs.flatMap f).length≤xs.length*k
 | [],_=>by simp
 | x::r,h=>by
  have c:=h x (by simp)
  have b:=Uq f k r fun y a=>h y (by simp[a])
  simp only[List.flatMap_cons,List.length_append,List.length_cons,Nat.add_mul];omega
end Go.Hm

namespace Go.Hm
open Go.Kd
def Y3 (l:List Cla) (i:Nat):Q9:=(l.getD i Cla.zero).name
theorem Xp {l:List Cla} (b:K4 l) {i:Nat} (a:i<l.length):lk l (Y3 l i)=some (l.getD i Cla.zero):=by
 have e:l.getD i Cla.zero=l[i]:=by rw[List.getD_eq_getElem?_getD,List.getElem?_eq_getElem a];rfl
 unfold Y3
 rw[e];exact b.lk (List.getElem_mem a)
theorem B1 {l:List Cla} {u:Q9} {j:Nat} (h:Y7 l u=some j):j<l.length∧Y3 l j=u:=by
 obtain ⟨a,b,_⟩:=List.findIdx?_eq_some_iff_getElem.1 h
 refine ⟨a,?_⟩
 unfold Y3
 rw[List.getD_eq_getElem?_getD,List.getElem?_eq_getElem a]
 simpa using b
theorem Q1d {l:List Cla} (g:Yz l) (e:K4 l) {i j:Nat} (d:i<l.length) {u:Q9} (b:u∈J9 (l.getD i Cla.zero)) (a:Y7 l u=some j):I5 l (Y3 l j)<I5 l (Y3 l i):=by
 obtain ⟨c,f,_⟩:=Jt a
 rw[(B1 a).2]
 exact Yp g (Xp e d) b f
theorem Cz {α β:Type} {f g:β→α→β}: ∀(xs:List α) (b:β),(∀b x,x∈xs→f b x=g b x)→xs.foldl f b=xs.foldl g b
 | [],_,_=>rfl
 | x::r,b,h=>by
  rw[List.foldl_cons,List.foldl_cons,h b x (by simp)]
  exact Cz r _ fun b y a=>h b y (by simp[a])
theorem Xw {l:List Cla} {frm:Nat} (f:Nat) (out:List Nat) {i:Nat} (h:i<frm):P1 l frm f out i=out:=by
 cases f<;>simp[P1,h]
theorem X0r {l:List Cla} (o:Yz l) (k:K4 l) {frm:Nat} (c:0<frm): ∀(f g:Nat) (out:List Nat) (i:Nat),i<l.length→I5 l (Y3 l i)<f→I5 l (Y3 l i)<g→P1 l frm f out i=P1 l frm g out i:=by
 intro f
 induction f with
 | zero=>intro g out i _ h;omega
 | succ f e=>
  intro g out i d q p
  obtain ⟨g,rfl⟩: ∃m,g=m+1:=⟨g-1,by omega⟩
  simp only[P1]
  split
  ·rfl
  ·split
   ·rfl
   ·congr 1
    refine Cz _ _ fun b u n=>?_
    cases a:Y7 l u with
    | none=>simp only[Option.getD_none];rw[Xw f b c,Xw g b c]
    | some j=>
     simp only[Option.getD_some]
     have:=Q1d o k d n a
     exact e g b j (B1 a).1 (by omega) (by omega)
def Xl (l:List Cla) (frm:Nat) (out:List Nat) (i:Nat):List Nat:=P1 l frm (l.length+1) out i
theorem Q85 {l:List Cla} (e:Yz l) (d:K4 l) {frm:Nat} (a:0<frm) (out:List Nat) {i:Nat} (g:i<l.length):Xl l frm out i=if i<frm then out else if i∈out then out else
 ((J9 (l.getD i Cla.zero)).foldl (fun out n=>Xl l frm out ((Y7 l n).getD 0)) out)++[i]:=by
 have h:=Q18 l (Y3 l i)
 unfold Xl
 rw[P1]
 split
 ·rfl
 ·split
  ·rfl
  ·congr 1
   refine Cz _ _ fun b u f=>?_
   cases c:Y7 l u with
   | none=>simp only[Option.getD_none];rw[Xw _ b a,Xw _ b a]
   | some j=>
    simp only[Option.getD_some]
    have:=Q1d e d g f c
    exact X0r e d a _ _ b j (B1 c).1 (by omega) (by omega)
theorem Vw {α:Type} {p:Nat→Prop} {f:List Nat→α→List Nat}: ∀(xs:List α) (b:List Nat),(∀b x,x∈xs→ ∀y∈f b x,y∈b∨p y)→ ∀y∈xs.foldl f b,y∈b∨p y
 | [],b,_=>fun y a=> .inl a
 | x::r,b,h=>fun y a=>by
  rw[List.foldl_cons] at a
  rcases Vw r _ (fun b z c=>h b z (by simp[c])) y a with h1 | h1
  ·exact h b x (by simp) y h1
  ·exact .inr h1
theorem Q5H {l:List Cla} (m:K4 l) {frm:Nat} (r:0<frm): ∀(f:Nat) (out:List Nat) (i:Nat),i<l.length→ ∀y∈P1 l frm f out i,y∈out∨(y<l.length∧(y=i∨Vo (lk l) (Y3 l i) (Y3 l y))):=by
 intro f
 induction f with
 | zero=>intro out i _ y hy;exact .inl hy
 | succ f o=>
  intro out i e y hy
  simp only[P1] at hy
  split at hy
  ·exact .inl hy
  ·split at hy
   ·exact .inl hy
   ·rcases List.mem_append.1 hy with hy | hy
    ·refine Vw (p:=fun y=>y<l.length∧(y=i∨Vo (lk l) (Y3 l i) (Y3 l y))) _ _ (fun b u n y hy=>?_) y hy
     cases d:Y7 l u with
     | none=>
      rw[d] at hy
      simp only[Option.getD_none] at hy
      rw[Xw f b r] at hy
      exact .inl hy
     | some j=>
      rw[d] at hy
      simp only[Option.getD_some] at hy
      obtain ⟨g,a⟩:=B1 d
      obtain ⟨c,q,_⟩:=Jt d
      rcases o b j g y hy with h | ⟨k,rfl | h2⟩
      ·exact .inl h
      ·exact .inr ⟨k, .inr ⟨_,Xp m e,u,n,by rw[a];exact .refl q⟩⟩
      ·exact .inr ⟨k, .inr ⟨_,Xp m e,u,n,by rw[←a];exact h2.reach⟩⟩
    ·simp at hy;subst hy;exact .inr ⟨e, .inl rfl⟩
theorem Q2F {α:Type} {q:List Nat→Prop} {f:List Nat→α→List Nat}: ∀(xs:List α) (b:List Nat),(∀b x,x∈xs→q b→q (f b x))→q b→q (xs.foldl f b)
 | [],b,_,h=>h
 | x::r,b,a,h=>by
  rw[List.foldl_cons]
  exact Q2F r _ (fun b z c=>a b z (by simp[c])) (a b x (by simp) h)
def Few (l:List Cla) (out:List Nat):Prop:=out.Nodup∧ ∀y∈out,y<l.length
theorem Few.len {l:List Cla} {out:List Nat} (h:Few l out):out.length≤l.length:=by
 have key: ∀(n:Nat) (out:List Nat),out.Nodup→(∀y∈out,y<n)→out.length≤n:=by
  intro n
  induction n with
  | zero=>
   intro out _ h
   cases out with
   | nil=>simp
   | cons a r=>have:=h a (by simp);omega
  | succ n f=>
   intro out d h
   have i:=f (out.filter (fun y=> !decide (y=n))) (d.sublist List.filter_sublist) (fun y b=>by
    have:=List.mem_filter.1 b
    have g:=h y this.1
    have m:y≠n:=by simpa using this.2
    omega)
   have g:out.length≤(out.filter (fun y=> !decide (y=n))).length+1:=by
    clear i h
    induction out with
    | nil=>simp
    | cons a r c=>
     obtain ⟨k,j⟩:=List.nodup_cons.1 d
     by_cases e:a=n
     ·subst e
      have:r.filter (fun y=> !decide (y=a))=r:=List.filter_eq_self.2 fun y b=>by simp;rintro rfl;exact k b
      simp[this]
     ·have:=c j
      simp[e];exact this
   omega
 exact key _ _ h.1 h.2
theorem Pc {l:List Cla} (v:Yz l) (q:K4 l) {frm:Nat} (s:0<frm): ∀(f:Nat) (out:List Nat) (i:Nat),i<l.length→Few l out→Few l (P1 l frm f out i):=by
 intro f
 induction f with
 | zero=>intro out i _ h;exact h
 | succ f A=>
  intro out i w h
  simp only[P1]
  split
  ·exact h
  ·split
   ·exact h
   ·rename_i m
    have z:Few l ((J9 (l.getD i Cla.zero)).foldl (fun out n=>P1 l frm f out ((Y7 l n).getD 0)) out):=by
     refine Q2F _ _ (fun b u t k=>?_) h
     cases d:Y7 l u with
     | none=>simp only[Option.getD_none];rw[Xw f b s];exact k
     | some j=>exact A b j (B1 d).1 k
    have r:i∉(J9 (l.getD i Cla.zero)).foldl (fun out n=>P1 l frm f out ((Y7 l n).getD 0)) out:=by
     intro g
     rcases Vw (p:=fun y=>Vo (lk l) (Y3 l i) (Y3 l y)) _ _ (fun b u t y hy=>by
      cases d:Y7 l u with
      | none=>
       rw[d] at hy
       simp only[Option.getD_none] at hy
       rw[Xw f b s] at hy
       exact .inl hy
      | some j=>
       rw[d] at hy
       simp only[Option.getD_some] at hy
       obtain ⟨o,e⟩:=B1 d
       obtain ⟨c,B,_⟩:=Jt d
       rcases Q5H q s f b j o y hy with h | ⟨h1,rfl | h2⟩
       ·exact .inl h
       ·exact .inr ⟨_,Xp q w,u,t,by rw[e];exact .refl B⟩
       ·exact .inr ⟨_,Xp q w,u,t,by rw[←e];exact h2.reach⟩) i g with h1 | h1
     ·exact m h1
     ·exact v _ h1
    refine ⟨?_,fun y hy=>?_⟩
    ·rw[List.nodup_append]
     exact ⟨z.1,by simp,by rintro a v b k rfl;simp at k;subst k;exact r v⟩
    ·rcases List.mem_append.1 hy with hy | hy
     ·exact z.2 y hy
     ·simp at hy;omega
end Go.Hm

namespace Go.Emb
open Go.RowKit Go.Hm
variable {P : Program} {w w0 w1 w' w'' : World} {K : Value → World → Prop} {σ σ0 σ1 σ' : Q4}
def elA (sz:Nat) (v:Value) (i:Nat):Addr:=match v with
 | .slice (some b) _ _=>b.add (i*sz)
 | _=>⟨0,0,none⟩
section
variable {α : Type} {R : Q4 → α → List Value → Prop} {sz : Nat} {v : Value} {xs : List α}
theorem Sl.el (h:Sl sz R σ v xs) {i:Nat} (e:i<xs.length): ∃cs,Z0 σ (elA sz v i) cs∧cs.length=sz∧R σ xs[i] cs:=by
 obtain ⟨a,c,rfl,m,l,j,k⟩:=h
 cases a with
 | none=>have:=j rfl;omega
 | some b=>
  obtain ⟨cs,f,d,g⟩:=(k b rfl).2 i xs[i] (by simp[e])
  exact ⟨cs,f,d,g⟩
theorem U7 {t e:TypeId} {by_:Nat} {z:Value} [TS P t e] [TZ P e sz by_ z] (h:Sl sz R σ v xs) {i:Nat} (k:i<xs.length) (c:K (.pointer (some (elA sz v i))) w):indexAddr P t v (I i) w K:=by
 obtain ⟨a,d,rfl,j,g,f,l⟩:=h
 cases a with
 | none=>have:=f rfl;omega
 | some b=>
  rw[Rf (by omega) (by omega)]
  simpa [elA] using c
theorem Sl.elS {xs:List Kd.Q9} (h:Sl 1 X9 σ v xs) {i:Nat} (a:i<xs.length):Z0 σ (elA 1 v i) [S xs[i]]∧xs[i].length≤Y9:=by
 obtain ⟨cs,c,d,rfl,b⟩:=h.el a;exact ⟨c,b⟩
theorem Sl.elF {xs:List Fld} (h:Sl 3 E5 σ v xs) {i:Nat} (a:i<xs.length):Z0 σ (elA 3 v i) [S xs[i].name,S xs[i].kind, .bool xs[i].tr]∧E5 σ xs[i] [S xs[i].name,S xs[i].kind, .bool xs[i].tr]:=by
 obtain ⟨cs,c,d,rfl,b⟩:=h.el a;exact ⟨c,rfl,b⟩
theorem Sl.elI {xs:List Ins} (h:Sl 3 I0 σ v xs) {i:Nat} (a:i<xs.length):Z0 σ (elA 3 v i) [S xs[i].op,I xs[i].n,S xs[i].s]∧I0 σ xs[i] [S xs[i].op,I xs[i].n,S xs[i].s]:=by
 obtain ⟨cs,c,d,rfl,b⟩:=h.el a;exact ⟨c,rfl,b⟩
theorem Sl.elK {xs:List Cat} (h:Sl 4 Yk σ v xs) {i:Nat} (a:i<xs.length):Z0 σ (elA 4 v i) [I xs[i].frm,I xs[i].to,I xs[i].at_,S xs[i].cls]∧Yk σ xs[i] [I xs[i].frm,I xs[i].to,I xs[i].at_,S xs[i].cls]:=by
 obtain ⟨cs,c,d,rfl,b⟩:=h.el a;exact ⟨c,rfl,b⟩
theorem Sl.conv {α β:Type} {R:Q4→α→List Value→Prop} {g:Q4→β→List Value→Prop} {sz:Nat} {v:Value} {xs:List α} {ys:List β} (h:Sl sz R σ v xs) (f:ys.length=xs.length) (r: ∀i (e:i<xs.length) (t:i<ys.length) cs,R σ xs[i] cs→g σ ys[i] cs):Sl sz g σ v ys:=by
 obtain ⟨a,d,rfl,o,m,s,k⟩:=h
 refine ⟨a,d,by rw[f],by rw[f];exact o,m,s,fun b j=>⟨fun u=>(k b j).1 (by omega),fun i x n=>?_⟩⟩
 obtain ⟨e,rfl⟩:=List.getElem?_eq_some_iff.1 n
 have c:i<xs.length:=by omega
 obtain ⟨cs,p,q,l⟩:=(k b j).2 i xs[i] (List.getElem?_eq_getElem c)
 exact ⟨cs,p,q,r i c e cs l⟩
theorem Sl.elM {xs:List Hm.Met} (h:Sl 7 L9 σ v xs) {i:Nat} (c:i<xs.length): ∃pv a b,Z0 σ (elA 7 v i) [S xs[i].name,pv,S xs[i].result, .bool xs[i].abs,I xs[i].locals,a,b]∧L9 σ xs[i] [S xs[i].name,pv,S xs[i].result, .bool xs[i].abs,I xs[i].locals,a,b]:=by
 obtain ⟨cs,d,f,pv,a,b,rfl,e⟩:=h.el c;exact ⟨pv,a,b,d,pv,a,b,rfl,e⟩
theorem Sl.elC {xs:List Cla} (h:Sl 8 V4 σ v xs) {i:Nat} (c:i<xs.length): ∃b a mv,Z0 σ (elA 8 v i) [S xs[i].name,S xs[i].super,b, .bool xs[i].iface, .bool xs[i].abs, .bool xs[i].fin,a,mv]∧V4 σ xs[i] [S xs[i].name,S xs[i].super,b, .bool xs[i].iface, .bool xs[i].abs, .bool xs[i].fin,a,mv]:=by
 obtain ⟨cs,e,f,b,a,mv,rfl,d⟩:=h.el c;exact ⟨b,a,mv,e,b,a,mv,rfl,d⟩
end
theorem Z8 {c:World→World→Prop} {A a:(Value→World→Prop)→Prop} {V:Value} (h:A (fun v _=>V=v)) (b:a (fun v _=>V=v)):Q5 c A a:=W9 _ (fun _ _ _ h _=>h) h b
theorem Y1 {v V:Value} (h:V=v):dk (fun w w'=>Below w.heap.size w w') (fun v _=>V=v) w v w:=⟨Below.refl _ _,h⟩
theorem Jy {v V:Value} (a:Below w.heap.size w w') (h:V=v):dk (fun w w'=>Below w.heap.size w w') (fun v _=>V=v) w v w':=⟨a,h⟩
theorem Ln {c b:Bool} {V:Value} {a:World→(Value→World→Prop)→Prop} (h:c=b→a w (dk (fun w w'=>Below w.heap.size w w') (fun v _=>V=v) w)):Q1 (.bool c) b w a (dk (fun w w'=>Below w.heap.size w w') (fun v _=>(if c=b then V else undef)=v) w):=by
 by_cases e:c=b
 ·simp only[e,if_true]
  subst e
  have:=h rfl
  cases c
  ·rw[N5];exact this
  ·rw[L4];exact this
 ·have d:c= !b:=by cases c<;>cases b<;>simp_all
  rw[if_neg e];subst d
  cases b
  ·rw[Bool.not_false,G6];exact ⟨Below.refl _ _,rfl⟩
  ·rw[Bool.not_true,E7];exact ⟨Below.refl _ _,rfl⟩
theorem Xq {p:Prop} (hq:p:=by intros;(repeat (rename_i hx;subst hx));(repeat' (first | (with_reducible exact Y1 rfl) | (with_reducible exact Jy (Stp.bel (by (repeat (first | exact Stp.refl (by (first | assumption | exact Stp.sat (by assumption) | exact Hst.sat (by assumption))) | assumption | refine Stp.trans ?_ (by first | assumption | exact Hst.stp (by assumption)))))) rfl) | (with_reducible intro _) | (simp only[↓M2,M2,Mb,reduceIte]) | (with_reducible show Q2 _ _ _ _ _;first | refine Y0 aS aL aR ?_ | refine Z2 aS aL aR ?_ | refine ld aS aL aR ?_) | (with_reducible show indexAddr _ _ _ _ _ _;refine U7 aL au ?_) | (with_reducible show X5 _ _ _ _ _ _ _ _;refine X0 aL ?_) | (with_reducible show We _ _ _ _ _ _;refine V6 aR ?_) | (with_reducible show pick _ _ _ _ _ _;refine Uu ?_) | (apply Ln;intro hh;(try simp only[hh,reduceIte,↓M2,M2,Mb,reduceIte]))));done):p:=hq
end Go.Emb

namespace Go.Emb
open Go.RowKit Go.Hm
variable {P : Program} {w w0 w1 w' w'' : World} {K : Value → World → Prop} {σ σ0 σ1 σ' : Q4}
section
variable {α : Type} {R : Q4 → α → List Value → Prop} {B sz : Nat} {e : TypeId} {v u : Value} {xs ys : List α}
def Emp (v:Value):Prop:= ∃a,v= .slice a 0 0
theorem Q7Y {t q:TypeId} {by_:Nat} {z:Value} {cs:List Bool} [ts:TS P t e] [tz:TZ P e sz by_ z] [hr:Rep R] (X:Stp w0 σ0 w σ) (ha:V3 w0.heap.size e sz R σ w v []) (hv:Emp v) (D:X4 w σ') (hu:Sl sz R σ' u ys) (hR: ∀x cs,R σ' x cs→R σ x cs) (Z:(z.cells.size==sz&&decide (0<sz))=true)
 (hb:ys.length*by_≤140737488355328) (hm:ys.length≤1000000000000)
 (h: ∀l w',Stp w σ w' σ→V3 w0.heap.size e sz R σ w' l ys→K l w'):X5 P .append [t,t] q cs [v,u] w K:=by
 obtain ⟨j,rfl⟩:=hv
 have L:=X.sat
 obtain ⟨a,d,c,rfl,n1,r,n3,n4,n5⟩:=hu.cells D
 obtain ⟨i,Q,N,O,m⟩:=tz.info
 simp only[Bool.and_eq_true,beq_iff_eq,decide_eq_true_eq] at Z
 obtain ⟨M,ab⟩:=Z
 have g:Src P i.size t (.slice a ys.length d) ys.length c w:=by
  cases a with
  | some b=>exact Src.ofSlice w ts.h b ys.length d c (by rw[N];exact r) (n3 b rfl) n4
  | none=>
   have p:ys.length=0:=by
    obtain ⟨U,Y,e',q1,_,q3,_⟩:=hu;injection e' with e1 e2 e3;have:=n1 rfl;omega
   have H:c=[]:=List.eq_nil_of_length_eq_zero (by rw[r,p];simp)
   subst H
   rw[p];exact Src.ofNil w ts.h d
 have y: ∀l w',(Builtin.append_ #[t,t] q #[.slice j 0 0, .slice a ys.length d]).run P w= .ok l w'→Stp w σ w' σ→V3 w0.heap.size e sz R σ w' l ys→X5 P .append [t,t] q cs [.slice j 0 0, .slice a ys.length d] w K:=by
  intro l w' f E hq
  have n:(builtin .append #[t,t] q cs.toArray #[.slice j 0 0, .slice a ys.length d]).run P w= .ok (.value l) w':=by
   simp[builtin,f]
  unfold X5
  rw[Qu];unfold T5
  rw[n]
  exact h l w' E hq
 by_cases p:ys=[]
 ·subst p
  have H:c=[]:=List.eq_nil_of_length_eq_zero (by simpa using r)
  subst H
  refine y (.slice j 0 0) w ?_ (Stp.refl L) ha
  have W:=g.len w
  have s:=g.cells
  simp only[List.length_nil] at W s⊢
  cases j<;>simp[Builtin.append_,run_underlying ts.h,sizeOf,typeInfo,Q,W,s,storeCells]
 ·have an:0<ys.length:=List.length_pos_iff.2 p
  have o:(Builtin.firstCells i.size 0 (.slice j 0 0)).run P w.drew= .ok (#[]:Array Value) w.drew:=by
   cases j with
   | none=>exact run_firstCells_none w.drew i.size 0 0 0
   | some U=>exact run_firstCells_some w.drew i.size 0 U 0 0 [] (by simp) (by intro _ _ h';simp at h')
  have V:0<0+ys.length:=by omega
  have f:=run_append_grow_src (P:=P) w t t q e i z ts.h Q m j 0 0 [] o (.slice a ys.length d) ys.length c g V (by omega) (growslice_fits V (by rw[O,Nat.zero_add];exact hb))
  simp only[Nat.zero_add] at f
  have C:=grownCap_le_maxLen w ys.length 0 e (by simp only[maxLen];omega)
  have J:=grownCap_ge w ys.length 0 e
  refine y _ _ f (Stp.of_below L ((Below.refl _ _).drew.alloc (Nat.le_refl _) _)) ⟨c,⟨r, .inr ⟨w.heap.size,_,_,rfl,X.bel.size,heap_alloc_new w.drew _,J,C,?_,?_⟩⟩,?_,fun i x hx=>hR _ _ (n5 i x hx)⟩
  ·simp only[List.nil_append]
   rw[Array.size_append,List.size_toArray,r,size_zeroCells,M,←Nat.add_mul]
   congr 1;omega
  ·simp only[List.nil_append]
   rw[Array.toList_append]
   rw[List.take_append_of_le_length (by simp only[List.toList_toArray];omega),List.take_of_length_le (by simp only[List.toList_toArray];omega)]
  ·intro k E;cases E;exact L.none (Nat.le_refl _)
theorem X3K {t f:TypeId} {by_:Nat} {z:Value} {cs:List Bool} [ts:TS P t e] [tz:TZ P e sz by_ z] [hr:Rep R] (b:Stp w0 σ0 w σ) (j:V3 w0.heap.size e sz R σ w v []) (k:Emp v) (c:Sl sz R σ u ys) (i:(z.cells.size==sz&&decide (0<sz))=true)
 (g:ys.length*by_≤140737488355328) (d:ys.length≤1000000000000)
 (h: ∀a w',Stp w σ w' σ→V3 w0.heap.size e sz R σ w' a ys→K a w'):X5 P .append [t,t] f cs [v,u] w K:=
 Q7Y b j k b.sat c (fun _ _ h=>h) i g d h
end
def X0O {α:Type} (w0:World) (σ:Q4) (e:TypeId) (sz:Nat) (R:Q4→α→List Value→Prop) (xs:List α) (v:Value) (w':World):Prop:=Stp w0 σ w' σ∧V3 w0.heap.size e sz R σ w' v xs
def Q8v {α:Type} (w0:World) (σ:Q4) (e:TypeId) (sz:Nat) (R:Q4→α→List Value→Prop) (v:Value) (w':World):Prop:=Stp w0 σ w' σ∧V3 w0.heap.size e sz R σ w' v ([]:List α)∧Emp v
section
variable {α : Type} {R : Q4 → α → List Value → Prop} {sz : Nat} {e : TypeId} {v u : Value} {xs ys : List α} {A rest : (Value → World → Prop) → Prop}
theorem Q1k [Rep R] (xs:List α) (h:A (X0O w σ e sz R xs)) (c:rest (X0O w σ e sz R xs)):Q5 (fun w w'=>Below w.heap.size w w') A rest:=
 W9 _ (fun _ _ _ ⟨a,d⟩ b=>⟨a.trans (Stp.of_below a.sat b),d.up (Stp.of_below a.sat b)⟩) h c
theorem X2r [Rep R] (h:A (Q8v w σ e sz R)) (c:rest (Q8v w σ e sz R)):Q5 (fun w w'=>Below w.heap.size w w') A rest:=
 W9 _ (fun _ _ _ ⟨a,f,d⟩ b=>⟨a.trans (Stp.of_below a.sat b),f.up (Stp.of_below a.sat b),d⟩) h c
theorem Q2P (b:Hst w σ w1 σ) (h:Stp w1 σ w' σ) (a:V3 w.heap.size e sz R σ w' v xs):dk (fun w w'=>Below w.heap.size w w') (X0O w σ e sz R xs) w1 v w':=⟨h.bel,b.stp.trans h,a⟩
theorem X3O (a:Hst w σ w1 σ) (h:Stp w1 σ w' σ) (b:V3 w.heap.size e sz R σ w' v ([]:List α)) (c:Emp v):dk (fun w w'=>Below w.heap.size w w') (Q8v w σ e sz R) w1 v w':=⟨h.bel,a.stp.trans h,b,c⟩
theorem Q03 {t:TypeId} {by_:Nat} {z:Value} [ts:TS P t e] [tz:TZ P e sz by_ z] (R:Q4→α→List Value→Prop) (b:Stp w0 σ0 w σ) (c:0<sz)
 (h: ∀v w',Stp w σ w' σ→V3 w0.heap.size e sz R σ w' v ([]:List α)→Emp v→K v w'):buildSlice P t 0 [] w K:=by
 obtain ⟨cells,g,f⟩:=Ul (P:=P) (t:=t) (sz:=sz) (e:=e) [] (by simp) (by simp) w
 unfold buildSlice
 have a:(Instr.buildSlice t 0 ([]:List (Nat×Value)).toArray).run P w=_:=g
 rw[Y2 a]
 refine h _ _ (Stp.own b.sat _) ⟨[],⟨by simp, .inr ⟨_,_,cells,rfl,b.bel.size,heap_alloc_new w _,by simp,by simp[maxLen],?_,by simp⟩⟩,?_,by simp⟩ ⟨_,rfl⟩
 ·have:cells.size=0:=by rw[←Array.length_toList,f];rfl
  simp[this]
 ·intro k d;cases d;exact b.sat.none (Nat.le_refl _)
theorem Q8M [Rep R] {t:TypeId} {by_:Nat} {z:Value} [ts:TS P t e] [tz:TZ P e sz by_ z] (a:(decide (0<sz))=true) (c:rest (Q8v w σ e sz R)):
 Q5 (fun w w'=>Below w.heap.size w w') (fun φ=> ∀w1:World,Hst w σ w1 σ→buildSlice P t 0 [] w1 (dk (fun w w'=>Below w.heap.size w w') φ w1)) rest:=
 X2r (fun w1 b=>Q03 R b.stp (by simpa using a) fun v w' d g f=>X3O b d g f) c
end
theorem V4.parts {c:Cla} {a b i d e f g mv:Value} (h:V4 σ c [a,b,i,d,e,f,g,mv]):Sl 1 X9 σ i c.like∧Sl 3 E5 σ g c.fields∧Sl 7 L9 σ mv c.methods∧c.name.length≤Y9∧c.super.length≤Y9:=by
 obtain ⟨_,_,_,j,k⟩:=h
 simp only[List.cons.injEq,and_true] at j
 obtain ⟨_,_,rfl,_,_,_,rfl,rfl⟩:=j
 exact k
theorem L9.parts {m:Hm.Met} {a pv b d e c g:Value} (h:L9 σ m [a,pv,b,d,e,c,g]):Sl 1 X9 σ pv m.params∧Sl 3 I0 σ c m.code∧Sl 4 Yk σ g m.catches∧m.name.length≤Y9∧m.result.length≤Y9∧Q10 m.locals:=by
 obtain ⟨_,_,_,f,i⟩:=h
 simp only[List.cons.injEq,and_true] at f
 obtain ⟨_,rfl,_,_,_,rfl,rfl⟩:=f
 exact i
end Go.Emb

namespace Go.Emb
open Go.RowKit
variable {P : Program} {w : World} {K : Value → World → Prop}
end Go.Emb
namespace Go.Proofs.YtfppjenblllfaaaGreatDoor
open Go.Emb Go.RowKit Go.Kd Go.Hm
variable {w : World} {K : Value → World → Prop} {σ : Q4}
end Go.Proofs.YtfppjenblllfaaaGreatDoor

namespace Go.Proofs.YtfppjenblllfaaaGreatDoor
open Go.Emb Go.RowKit Go.Kd
variable {w : World} {K : Value → World → Prop}
theorem X2T (a:List UInt8):(G0 a).1.length+(G0 a).2.1.length≤a.length:=by
 induction a with
 | nil=>simp[G0]
 | cons c r b=>
  simp only[G0]
  split
  ·simp
  ·simp only[List.length_cons];omega
theorem X2F {a:List UInt8} (h:E1 a=true):Kd.cutA a++[91,93]=a:=by
 simp only[E1,Bool.and_eq_true,decide_eq_true_eq] at h
 rw[←h.2,Kd.cutA,List.take_append_drop]
theorem Q1p {a:List UInt8} (h:name a=true):E1 a=false:=by
 cases a with
 | nil=>rfl
 | cons c r=>
  cases d:E1 (c::r) with
  | false=>rfl
  | true=>
   exfalso
   simp only[name,Bool.and_eq_true,List.all_eq_true] at h
   have b:=X2F d
   have:(93:UInt8)∈(c::r):=by rw[←b];simp
   have:=h.2 _ this
   revert this;decide
theorem X0p {a:List UInt8} (h:name a=true):base a=(a,0):=by rw[Jr,Q1p h];simp
theorem clas_name {a:List UInt8} (h:W7 a=true):name a=true∧right a=true∧plain a=false:=by
 cases a with
 | nil=>simp[W7] at h
 | cons c r=>
  have b:name (c::r)=true:=by simp only[W7,Bool.and_eq_true] at h;exact h.1
  refine ⟨b,?_,?_⟩
  ·rw[right,X0p b];simp[h]
  ·simp only[W7,Bool.and_eq_true] at h
   have f:=h.2
   simp only[plain,Bool.or_eq_false_iff,decide_eq_false_iff_not]
   refine ⟨⟨?_,?_⟩,?_⟩<;>intro e<;>injection e with d e2<;>subst d<;>revert f<;>decide
end Go.Proofs.YtfppjenblllfaaaGreatDoor

namespace Go.Emb
open Go.RowKit Go.Hm
section
variable {P : Program} {w w0 w1 w' w'' : World} {K : Value → World → Prop} {σ σ0 σ1 σ' : Q4}
theorem Q53 (a:Array Value) (n i:Nat) (g:i<n) (h:0<a.size):((madeCells a (n*a.size)).toList.drop (i*a.size)).take a.size=a.toList:=by
 have d:i*a.size+a.size≤n*a.size:=by rw[←Nat.succ_mul];exact Nat.mul_le_mul_right _ g
 refine List.ext_getElem (by simp[madeCells];omega) fun j k f=>?_
 have c:j<a.size:=by simpa using f
 simp only[List.getElem_take,List.getElem_drop,madeCells,Array.toList_map,List.getElem_map,Array.toList_range,List.getElem_range,Array.getElem_toList]
 have:(i*a.size+j) % a.size=j:=by rw[Nat.add_comm,Nat.add_mul_mod_self_right];exact Nat.mod_eq_of_lt c
 rw[this]
 simp[c]
theorem X48 {α:Type} {R:Q4→α→List Value→Prop} {t e:TypeId} {sz by_ n:Nat} {z:Value} [ts:TS P t e] [tz:TZ P e sz by_ z] (g:α) (s:X4 w σ) (E:z.cells.size=sz) (c:0<sz) (C:R σ g z.cells.toList) (H:n*sz≤16777216) (J:by_*n≤281474976710656)
 (h: ∀v w',Stp w σ w' σ→V3 w.heap.size e sz R σ w' v (List.replicate n g)→(∀k,v.ownBlock=some k→w.heap.size≤k)→K v w'):Ow P t (I n) (I n) w K:=by
 obtain ⟨i,A,d,q,a⟩:=tz.info
 have m:(i.bytes:Int)*(n:Int)≤281474976710656:=by
  rw[q]
  have:((by_*n:Nat):Int)≤281474976710656:=by omega
  rwa [Int.natCast_mul] at this
 have D:n≤16777216:=by
  have:n*1≤n*sz:=Nat.mul_le_mul_left _ c
  omega
 have p:=run_makeSlice (P:=P) w t e i z ts.h A a .i64 .i64 (n:Int) (n:Int) (by omega) (Int.le_refl _) (by rw[d];simp only[Int.toNat_natCast];omega) m (by omega)
 unfold Ow
 rw[Y2 p]
 simp only[Int.toNat_natCast,d]
 refine h _ _ (Stp.own s _) ⟨(madeCells z.cells (n*sz)).toList,⟨by simp[madeCells], .inr ⟨w.heap.size,n,madeCells z.cells (n*sz),?_,Nat.le_refl _,heap_alloc_new w _,?_,?_,?_,?_⟩⟩,?_,fun j x f=>?_⟩ ?_
 ·simp
 ·simp
 ·simp[maxLen];omega
 ·simp[madeCells]
 ·rw[List.take_of_length_le (by simp[madeCells])]
 ·intro k l;cases l;exact s.none (Nat.le_refl _)
 ·have r:j<n:=by have:=(List.getElem?_eq_some_iff.1 f).1;simpa using this
  have o:x=g:=by
   rw[List.getElem?_replicate] at f
   rw[if_pos r] at f
   exact (Option.some.inj f).symm
  subst o
  subst E
  rw[Q53 z.cells n j r c]
  exact C
 ·intro k l;cases l;exact Nat.le_refl _
end
section
variable {α : Type} {R : Q4 → α → List Value → Prop} {B sz : Nat} {e : TypeId} {v u : Value} {xs : List α} {w w' w0 : World} {σ σ' σ0 : Q4}
theorem J6.shiftR [hr:Rep R] (h:J6 B e sz R σ w v xs) (o:SLe σ σ') (m: ∀k,v.ownBlock=some k→σ' k=none):J6 B e sz R σ' w v xs:=by
 obtain ⟨a,l,rfl,z,t,c,p⟩:=h
 refine ⟨a,l,rfl,z,t,fun b d=>⟨(c b d).1,(c b d).2.1,(c b d).2.2.1,by subst d;exact m _ rfl⟩,fun D=>?_⟩
 obtain ⟨g,j,f,rfl,C,E,r,A,s⟩:=p D
 exact ⟨g,j,f,rfl,C,m g rfl,r,A,fun i x q=>hr.up o.le (s i x q)⟩
def X1E (w:World):World:={w with heap:= #[]}
theorem X1i (a:X4 w σ):Stp (X1E w) (fun _=>none) w σ:=
 ⟨⟨rfl,rfl,rfl,Nat.zero_le _,fun k c=>absurd c (Nat.not_lt_zero k)⟩,a,fun _ _ h=>(by cases h),fun b d=>absurd d (Nat.not_lt_zero b)⟩
theorem J6.freeze [hr:Rep R] (a:X4 w σ) (h:J6 B e sz R σ w v xs): ∃σ',X4 w σ'∧SLe σ σ'∧Sl sz R σ' v xs∧ ∀k,some k≠v.ownBlock→σ' k=σ k:=by
 obtain ⟨σ',g,d,c,f⟩:=(h.mono (Nat.zero_le B):J6 (X1E w).heap.size e sz R σ w v xs).keep (X1i a)
 exact ⟨σ',g.sat,c,d,f⟩
end
section
variable {P : Program} {w w0 w1 w' w'' : World} {K : Value → World → Prop} {σ σ0 σ1 σ' : Q4}
theorem Z0.tail {q:Addr} {xs ys:List Value} (h:Z0 σ q (xs++ys)):Z0 σ (q.add xs.length) ys:=by
 obtain ⟨g,a,e,z,f,d⟩:=h
 cases xs with
 | nil=>exact ⟨by simp[Addr.add,g],a,e,z,by simpa [Addr.add] using f,fun i u c=>by simpa [Addr.add] using d i u c⟩
 | cons x xs=>
  refine ⟨by simp[Addr.add,g],a,e,z,by simpa [Addr.add] using f,fun i u c=>?_⟩
  have:=d ((x::xs).length+i) u (by rw[List.getElem?_append_right (by omega)];simpa using c)
  simpa [Addr.add,Nat.add_assoc] using this
theorem J6.down {α:Type} {R:Q4→α→List Value→Prop} {B sz:Nat} {e:TypeId} {v:Value} {xs:List α} (h:J6 B e sz R σ' w v xs) (p:SLe σ σ') (A: ∀x cs,R σ' x cs→R σ x cs):J6 B e sz R σ w v xs:=by
 obtain ⟨a,l,rfl,D,C,c,q⟩:=h
 have m: ∀k,σ' k=none→σ k=none:=fun k t=>by
  cases e:σ k with
  | none=>rfl
  | some o=>have:=p.le k o e;rw[t] at this;cases this
 refine ⟨a,l,rfl,D,C,fun b d=>⟨(c b d).1,(c b d).2.1,(c b d).2.2.1,m _ (c b d).2.2.2⟩,fun L=>?_⟩
 obtain ⟨g,j,f,rfl,H,J,s,E,z⟩:=q L
 exact ⟨g,j,f,rfl,H,m _ J,s,E,fun i x r=>A _ _ (z i x r)⟩
end
section
variable {P : Program} {w w' w0 : World} {σ σ0 : Q4} {α : Type} {R : Q4 → α → List Value → Prop} {sz : Nat} {e : TypeId} {v u : Value} {xs : List α} {y : α}
end
end Go.Emb
namespace Go.Emb
open Go.RowKit Go.Hm
variable {P : Program} {w w0 w1 w' w'' : World} {K : Value → World → Prop} {σ σ0 σ1 σ' : Q4} {b n : Nat} {ds : List Value} {v V : Value}
structure VarT (b : Nat) (ds : List Value) (w w' : World) : Prop where
  kp : Kpt (fun j => j = b) w w'
  var : (b < w.heap.size → w'.heap[b]? = w.heap[b]?) ∨ ∃ e, w'.heap[b]? = some (.cells ds.toArray e (0, 0))
structure VarB (w0 : World) (σ0 : Q4) (w1 : World) (σ : Q4) (b n : Nat) (w' : World) : Prop where
  hst : Hst w0 σ0 w' σ
  kp : Kpt (fun j => j = b) w1 w'
  var : ∃ cs, cs.length = n ∧ Z9 σ w' b cs
theorem VarT.of_below (h:Below w.heap.size w w'):VarT b ds w w':=⟨.of_below h, .inl fun a=>h.block b a⟩
theorem VarT.of_upd (h:Upd w b w') (a:Z9 σ w' b ds):VarT b ds w w':=⟨.of_upd h rfl, .inr a.2⟩
theorem VarB.step (d:w0.heap.size≤b) (f:ds.length=n) (h:VarB w0 σ0 w1 σ b n w) (k:VarT b ds w w'):VarB w0 σ0 w1 σ b n w':=by
 obtain ⟨cs,g,a⟩:=h.var
 refine ⟨⟨h.hst.stp.kp k.kp fun j c=>by subst c;exact ⟨d,a.1⟩⟩,h.kp.trans k.kp,?_⟩
 rcases k.var with e | e
 ·exact ⟨cs,g,a.1,by rw[e a.lt];exact a.2⟩
 ·exact ⟨ds,f,a.1,e⟩
theorem X3J {A:(World→World→Prop)→(World→Prop)→Prop} (ds:List Value) {cs:List Value} (a:Stp w0 σ0 w σ) (g:w0.heap.size≤b) (d:Z9 σ w b cs) (i:cs.length=n) (c:ds.length=n)
 (h:A (VarT b ds) (VarB w0 σ0 w σ b n)):dr w A:=
 Q15 _ _ ⟨⟨a.trans (Stp.of_below a.sat (Below.refl _ _).drew)⟩, .of_below (Below.refl _ _).drew,cs,i,d⟩ (fun _ _ j f=>j.step g c f) h
theorem Kl (h:V=v):dk (VarT b ds) (fun v _=>V=v) w v w:=⟨.of_below (Below.refl _ _),h⟩
theorem X0Q {t:TypeId} {by_:Nat} {z:Value} [tz:TZ P t n by_ z] {a:(List Value→Value→World→Prop)→Prop} {φ:Value→World→Prop} (o:ds.length=n) (l: ∀u∈ds,u.oneCell'=true) (i: ∀v w,φ v w→ .agg ds.toArray=v)
 (m:a (fun _ _ w=>Z9 σ w b ds)) (c:σ b=none):Q2t (VarT b ds) (fun F=> ∀x w,VarB w0 σ0 w1 σ b n w→φ x w→Z6 P t (.pointer (some ⟨b,0,none⟩)) x w (dk (VarT b ds) (F [x]) w)) a:=by
 refine Q7Z _ (fun xs v w w' h k=>?_) (fun x w p g=>?_) m
 ·rcases k.var with e | e
  ·exact ⟨c,by rw[e h.lt];exact h.2⟩
  ·exact ⟨c,e⟩
 ·have:=i x w g
  subst this
  obtain ⟨cs,j,f⟩:=p.var
  exact sta f j o (by rw[List.all_toArray];exact List.all_eq_true.2 l) fun w' q d=>⟨.of_upd q d,d⟩
theorem VarB.hs (h:VarB w0 σ0 w1 σ b n w):Hst w0 σ0 w σ:=h.hst
end Go.Emb
